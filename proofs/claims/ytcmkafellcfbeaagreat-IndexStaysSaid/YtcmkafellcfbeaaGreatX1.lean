/- Locks. -/
import Derived.Test.YtcmkafellcfbeaaGreatX0
set_option linter.unusedVariables false
set_option linter.unusedSimpArgs false
set_option linter.unusedSectionVars false
namespace Go.Proofs.YtcmkafellcfbeaaGreat
open Go Csl
theorem fo64_1 : fieldOff Tryz.prog 64 1 = some 0 := by kernel_rfl
theorem und147 : Tryz.prog.underlying 147 = some (Go.TypeDesc.pointer 66) := Tryz.underlying147
theorem und151 : Tryz.prog.underlying 151 = some Go.TypeDesc.unsafePointer := Tryz.underlying151
theorem fo66_0 : fieldOff Tryz.prog 66 0 = some 0 := by kernel_rfl
theorem fo68_1 : fieldOff Tryz.prog 68 1 = some 0 := by kernel_rfl
theorem agg21 : isAggOf Tryz.prog 21 = some false := by kernel_rfl
theorem cb76 : Callable Tryz.prog 76 := ⟨_, Tryz.func76, by kernel_rfl, by kernel_rfl⟩
theorem cb77 : Callable Tryz.prog 77 := ⟨_, Tryz.func77, by kernel_rfl, by kernel_rfl⟩

set_option maxHeartbeats 4000000 in
set_option maxRecDepth 100000 in
theorem atBool_ctr {G : Gp} {b i : Nat} {T : TypeId} {cs : List Value} {z : Int} (h : cs[i]? = some (.int .u32 z)) :
    Ctr Tryz.prog G 64 [.pointer (some ⟨b, i, none⟩)] [row b T cs] (fun F v A => v = .bool (z != 0) ∧ A = row b T cs :: F) := by
  refine Ctr.intro Tryz.func64 rfl (by kernel_rfl) rfl (fun F => ?_)
  simp only [List.cons_append, List.nil_append]
  refine Run.sr ?_
  refine RunL.as rfl rfl ?_
  refine RunL.nil ?_
  refine Run.sr ?_
  refine RunL.mv rfl rfl ?_
  refine RunL.pure (Pure.nilCheck rfl) (Wt.none rfl) rfl rfl ?_
  refine RunL.pure (Pure.fieldAddr rfl fo64_1) (Wt.none rfl) rfl rfl ?_
  refine RunL.atLoad Tryz.func74 (by kernel_rfl) (by kernel_rfl) (by kernel_rfl) .u32 (by kernel_rfl) rfl (by rfl) (by first | ((repeat (first | (with_reducible exact F0 _) | apply F1)); done) | (repeat (first | exact F0 _ | apply F1))) h (Wt.none rfl) rfl ?_
  refine RunL.pure (Pure.neq rfl rfl) (Wt.none rfl) rfl rfl ?_
  refine RunL.as rfl rfl ?_
  refine RunL.nil ?_
  exact Run.ret Tryz.func64 (res1 rfl rfl) (by exact ⟨rfl, rfl⟩) (by repeat (first | (with_reducible exact Fin.done (by repeat (first | (with_reducible exact Rest.here) | apply Rest.there))) | (apply Fin.cons (by first | ((repeat (first | (with_reducible exact F0 _) | apply F1)); done) | (repeat (first | exact F0 _ | apply F1))))))

set_option maxHeartbeats 4000000 in
set_option maxRecDepth 100000 in
theorem lock2_ctr {G : Gp} {b i : Nat} {T : TypeId} {cs : List Value} (h : cs[i]? = some (.int .i32 0)) :
    Ctr Tryz.prog G 96 [.pointer (some ⟨b, i, none⟩)] [row b T cs] (fun F v A => v = .tuple #[] ∧ A = row b T (cs.set i (.int .i32 1)) :: F) := by
  refine Ctr.intro Tryz.func96 rfl (by kernel_rfl) rfl (fun F => ?_)
  simp only [List.cons_append, List.nil_append]
  have hi := (List.getElem?_eq_some_iff.1 h).1
  have h2 : (cs.set i (.int .i32 1))[i]? = some (.int .i32 1) := by rw [List.getElem?_set_self hi]
  refine Run.sr ?_
  refine RunL.mark0 Tryz.func110 (by kernel_rfl) (by kernel_rfl) (by kernel_rfl) .disable (by kernel_rfl) rfl (by rfl) (Wt.none rfl) rfl ?_
  refine RunL.nil ?_
  refine Run.seq ?_
  refine Run.sr ?_
  refine RunL.mv rfl rfl ?_
  refine RunL.pure (Pure.nilCheck rfl) (Wt.none rfl) rfl rfl ?_
  refine RunL.pure (Pure.fieldAddr rfl fo66_0) (Wt.none rfl) rfl rfl ?_
  refine RunL.atCas Tryz.func111 (by kernel_rfl) (by kernel_rfl) (by kernel_rfl) .i32 (by kernel_rfl) rfl (by rfl) (by first | ((repeat (first | (with_reducible exact F0 _) | apply F1)); done) | (repeat (first | exact F0 _ | apply F1))) h (Wt.none rfl) rfl ?_
  refine RunL.nil ?_
  refine Run.cond rfl (fun hc1 => ?_) (fun hc1 => ?_)
  rotate_left
  · try simp only [ZA, ZB, ZC, ZD, ZE, ZF, ZG, ZH, ZI, ZJ, ZK, ZL, ZM, ZN, ZO, ZP, ZQ, ZR] at hc1
    exfalso
    first | exact hc1 rfl | exact hc1 trivial | (simp at hc1; done)
  try simp only [ZA, ZB, ZC, ZD, ZE, ZF, ZG, ZH, ZI, ZJ, ZK, ZL, ZM, ZN, ZO, ZP, ZQ, ZR] at hc1
  refine Run.seq ?_
  refine Run.cond rfl (fun hc2 => ?_) (fun hc2 => ?_)
  rotate_left
  · try simp only [ZA, ZB, ZC, ZD, ZE, ZF, ZG, ZH, ZI, ZJ, ZK, ZL, ZM, ZN, ZO, ZP, ZQ, ZR] at hc2
    exfalso
    first | exact hc2 rfl | exact hc2 trivial | (simp at hc2; done)
  try simp only [ZA, ZB, ZC, ZD, ZE, ZF, ZG, ZH, ZI, ZJ, ZK, ZL, ZM, ZN, ZO, ZP, ZQ, ZR] at hc2
  refine Run.sr ?_
  refine RunL.mark0 Tryz.func112 (by kernel_rfl) (by kernel_rfl) (by kernel_rfl) .enable (by kernel_rfl) rfl (by rfl) (Wt.none rfl) rfl ?_
  refine RunL.nil ?_
  refine Run.region ?_
  refine RunL.mv rfl rfl ?_
  refine RunL.convUnsafe rfl und147 und151 (by kernel_rfl) (by first | ((repeat (first | (with_reducible exact F0 _) | apply F1)); done) | (repeat (first | exact F0 _ | apply F1))) h2 (Wt.none rfl) rfl ?_
  refine RunL.marked Tryz.func113 (by kernel_rfl) (by kernel_rfl) (by kernel_rfl) .acquire (by kernel_rfl) rfl (by rfl) (Wt.none rfl) rfl ?_
  refine RunL.nil ?_
  exact Run.ret Tryz.func96 (res0 rfl) (by exact ⟨rfl, rfl⟩) (by repeat (first | (with_reducible exact Fin.done (by repeat (first | (with_reducible exact Rest.here) | apply Rest.there))) | (apply Fin.cons (by first | ((repeat (first | (with_reducible exact F0 _) | apply F1)); done) | (repeat (first | exact F0 _ | apply F1))))))

set_option maxHeartbeats 4000000 in
set_option maxRecDepth 100000 in
theorem lock_ctr {G : Gp} {b i : Nat} {T : TypeId} {cs : List Value} (h : cs[i]? = some (.int .i32 0)) :
    Ctr Tryz.prog G 75 [.pointer (some ⟨b, i, none⟩)] [row b T cs] (fun F v A => v = .tuple #[] ∧ A = row b T (cs.set i (.int .i32 1)) :: F) := by
  refine Ctr.intro Tryz.func75 rfl (by kernel_rfl) rfl (fun F => ?_)
  simp only [List.cons_append, List.nil_append]
  refine Run.region ?_
  refine RunL.mv rfl rfl ?_
  refine RunL.pure (Pure.nilCheck rfl) (Wt.none rfl) rfl rfl ?_
  refine RunL.pure (Pure.fieldAddr rfl fo68_1) (Wt.none rfl) rfl rfl ?_
  refine RunL.call rfl rfl (by rfl) (by repeat (first | (with_reducible exact Take.nil _) | (apply Take.cons (by first | ((repeat (first | (with_reducible exact F0 _) | apply F1)); done) | (repeat (first | exact F0 _ | apply F1)))))) (lock2_ctr h) (Wt.none rfl) rfl ?_
  rintro _ _ ⟨rfl, hA_⟩
  replace hA_ := hA_.symm; subst hA_
  refine RunL.nil ?_
  exact Run.fin Tryz.func75 (res0 rfl) (by exact ⟨rfl, rfl⟩) (by repeat (first | (with_reducible exact Fin.done (by repeat (first | (with_reducible exact Rest.here) | apply Rest.there))) | (apply Fin.cons (by first | ((repeat (first | (with_reducible exact F0 _) | apply F1)); done) | (repeat (first | exact F0 _ | apply F1))))))

set_option maxHeartbeats 4000000 in
set_option maxRecDepth 100000 in
theorem unlock2_ctr {G : Gp} {b i : Nat} {T : TypeId} {cs : List Value} (h : cs[i]? = some (.int .i32 1)) :
    Ctr Tryz.prog G 97 [.pointer (some ⟨b, i, none⟩)] [row b T cs] (fun F v A => v = .tuple #[] ∧ A = row b T (cs.set i (.int .i32 0)) :: F) := by
  refine Ctr.intro Tryz.func97 rfl (by kernel_rfl) rfl (fun F => ?_)
  simp only [List.cons_append, List.nil_append]
  refine Run.seq ?_
  refine Run.cond rfl (fun hc1 => ?_) (fun hc1 => ?_)
  rotate_left
  · try simp only [ZA, ZB, ZC, ZD, ZE, ZF, ZG, ZH, ZI, ZJ, ZK, ZL, ZM, ZN, ZO, ZP, ZQ, ZR] at hc1
    exfalso
    first | exact hc1 rfl | exact hc1 trivial | (simp at hc1; done)
  try simp only [ZA, ZB, ZC, ZD, ZE, ZF, ZG, ZH, ZI, ZJ, ZK, ZL, ZM, ZN, ZO, ZP, ZQ, ZR] at hc1
  refine Run.sr ?_
  refine RunL.mv rfl rfl ?_
  refine RunL.pure (Pure.nilCheck rfl) (Wt.none rfl) rfl rfl ?_
  refine RunL.pure (Pure.fieldAddr rfl fo66_0) (Wt.none rfl) rfl rfl ?_
  refine RunL.load1 rfl (by first | ((repeat (first | (with_reducible exact F0 _) | apply F1)); done) | (repeat (first | exact F0 _ | apply F1))) h agg21 (Wt.none rfl) rfl ?_
  refine RunL.nil ?_
  refine Run.sr ?_
  refine RunL.mv rfl rfl ?_
  refine RunL.convUnsafe rfl und147 und151 (by kernel_rfl) (by first | ((repeat (first | (with_reducible exact F0 _) | apply F1)); done) | (repeat (first | exact F0 _ | apply F1))) h (Wt.none rfl) rfl ?_
  refine RunL.marked Tryz.func115 (by kernel_rfl) (by kernel_rfl) (by kernel_rfl) .releaseMerge (by kernel_rfl) rfl (by rfl) (Wt.none rfl) rfl ?_
  refine RunL.nil ?_
  refine Run.region ?_
  refine RunL.mark0 Tryz.func110 (by kernel_rfl) (by kernel_rfl) (by kernel_rfl) .disable (by kernel_rfl) rfl (by rfl) (Wt.none rfl) rfl ?_
  refine RunL.nil ?_
  refine Run.sr ?_
  refine RunL.mv rfl rfl ?_
  refine RunL.pure (Pure.nilCheck rfl) (Wt.none rfl) rfl rfl ?_
  refine RunL.pure (Pure.fieldAddr rfl fo66_0) (Wt.none rfl) rfl rfl ?_
  refine RunL.atAdd Tryz.func116 (by kernel_rfl) (by kernel_rfl) (by kernel_rfl) .i32 (z := 1) (y := -1) (u := 0) (by kernel_rfl) (fun w => by simp [go_sem]; rfl) rfl (by rfl) (by first | ((repeat (first | (with_reducible exact F0 _) | apply F1)); done) | (repeat (first | exact F0 _ | apply F1))) h (Wt.none rfl) rfl ?_
  refine RunL.as rfl rfl ?_
  refine RunL.nil ?_
  refine Run.seq ?_
  refine Run.sr ?_
  refine RunL.mv rfl rfl ?_
  refine RunL.pure (Pure.neq rfl rfl) (Wt.none rfl) rfl rfl ?_
  refine RunL.nil ?_
  refine Run.cond rfl (fun hc2 => ?_) (fun hc2 => ?_)
  · try simp only [ZA, ZB, ZC, ZD, ZE, ZF, ZG, ZH, ZI, ZJ, ZK, ZL, ZM, ZN, ZO, ZP, ZQ, ZR] at hc2
    exfalso
    first | exact hc2 rfl | exact hc2 trivial | (simp at hc2; done)
  try simp only [ZA, ZB, ZC, ZD, ZE, ZF, ZG, ZH, ZI, ZJ, ZK, ZL, ZM, ZN, ZO, ZP, ZQ, ZR] at hc2
  refine Run.skip ?_
  refine Run.region ?_
  refine RunL.mark0 Tryz.func112 (by kernel_rfl) (by kernel_rfl) (by kernel_rfl) .enable (by kernel_rfl) rfl (by rfl) (Wt.none rfl) rfl ?_
  refine RunL.nil ?_
  exact Run.fin Tryz.func97 (res0 rfl) (by exact ⟨rfl, rfl⟩) (by repeat (first | (with_reducible exact Fin.done (by repeat (first | (with_reducible exact Rest.here) | apply Rest.there))) | (apply Fin.cons (by first | ((repeat (first | (with_reducible exact F0 _) | apply F1)); done) | (repeat (first | exact F0 _ | apply F1))))))

set_option maxHeartbeats 4000000 in
set_option maxRecDepth 100000 in
theorem b32_ctr {G : Gp} :
    Ctr Tryz.prog G 99 [.bool true] [] (fun F v A => v = .int .u32 1 ∧ A = F) := by
  refine Ctr.intro Tryz.func99 rfl (by kernel_rfl) rfl (fun F => ?_)
  simp only [List.nil_append]
  refine Run.sr ?_
  refine RunL.as rfl rfl ?_
  refine RunL.nil ?_
  refine Run.seq ?_
  refine Run.sr ?_
  refine RunL.mv rfl rfl ?_
  refine RunL.nil ?_
  refine Run.cond rfl (fun hc1 => ?_) (fun hc1 => ?_)
  rotate_left
  · try simp only [ZA, ZB, ZC, ZD, ZE, ZF, ZG, ZH, ZI, ZJ, ZK, ZL, ZM, ZN, ZO, ZP, ZQ, ZR] at hc1
    exfalso
    first | exact hc1 rfl | exact hc1 trivial | (simp at hc1; done)
  try simp only [ZA, ZB, ZC, ZD, ZE, ZF, ZG, ZH, ZI, ZJ, ZK, ZL, ZM, ZN, ZO, ZP, ZQ, ZR] at hc1
  refine Run.sr ?_
  refine RunL.as rfl rfl ?_
  refine RunL.nil ?_
  exact Run.ret Tryz.func99 (res1 rfl rfl) (by exact ⟨rfl, rfl⟩) (by repeat (first | (with_reducible exact Fin.done (by repeat (first | (with_reducible exact Rest.here) | apply Rest.there))) | (apply Fin.cons (by first | ((repeat (first | (with_reducible exact F0 _) | apply F1)); done) | (repeat (first | exact F0 _ | apply F1))))))

theorem unlockD_ctr {G : Gp} {b i : Nat} {T : TypeId} {cs : List Value} (h : cs[i]? = some (.int .i32 1)) {u : FrameMode} : CtrD Tryz.prog G 76 [.pointer (some ⟨b, i, none⟩)] [row b T cs] u u (fun F A => A = row b T (cs.set i (.int .i32 0)) :: F) := by
  refine CtrD.region Tryz.func76 cb76 rfl rfl (fun F => ?_)
  simp only [List.cons_append, List.nil_append]
  refine RunL.mv rfl rfl ?_
  refine RunL.pure (Pure.nilCheck rfl) (Wt.none rfl) rfl rfl ?_
  refine RunL.pure (Pure.fieldAddr rfl fo68_1) (Wt.none rfl) rfl rfl ?_
  refine RunL.call rfl rfl (by rfl) (by repeat (first | (with_reducible exact Take.nil _) | (apply Take.cons (by first | ((repeat (first | (with_reducible exact F0 _) | apply F1)); done) | (repeat (first | exact F0 _ | apply F1)))))) (unlock2_ctr h) (Wt.none rfl) rfl ?_
  rintro _ _ ⟨rfl, hA_⟩
  replace hA_ := hA_.symm; subst hA_
  exact fun a w hE s => KB.end (F := F) (A2 := row b T (cs.set i (.int .i32 0)) :: F) rfl rfl (by repeat (first | (with_reducible exact Fin.done (by repeat (first | (with_reducible exact Rest.here) | apply Rest.there))) | (apply Fin.cons (by first | ((repeat (first | (with_reducible exact F0 _) | apply F1)); done) | (repeat (first | exact F0 _ | apply F1)))))) hE s
theorem storeD_ctr {G : Gp} {b i : Nat} {T : TypeId} {cs : List Value} {y : Value} (h : cs[i]? = some y) {u : FrameMode} : CtrD Tryz.prog G 77 [.pointer (some ⟨b, i, none⟩), .bool true] [row b T cs] u u (fun F A => A = row b T (cs.set i (.int .u32 1)) :: F) := by
  refine CtrD.regionD (by kernel_rfl) (by kernel_rfl) Tryz.func77 cb77 rfl rfl (fun hok F => ?_)
  simp only [List.cons_append, List.nil_append]
  refine RunD.pure (i := 0) hok rfl (by kernel_rfl) (Pure.move rfl) (Wt.none rfl) rfl rfl ?_
  refine RunD.pure (i := 1) hok rfl (by kernel_rfl) (Pure.nilCheck rfl) (Wt.none rfl) rfl rfl ?_
  refine RunD.pure (i := 2) hok rfl (by kernel_rfl) (Pure.fieldAddr rfl fo64_1) (Wt.none rfl) rfl rfl ?_
  refine RunD.pure (i := 3) hok rfl (by kernel_rfl) (Pure.move rfl) (Wt.none rfl) rfl rfl ?_
  refine RunD.one (i := 4) (by kernel_rfl) rfl ?_
  refine RunL.call rfl rfl (by rfl) (by repeat (first | (with_reducible exact Take.nil _) | (apply Take.cons (by first | ((repeat (first | (with_reducible exact F0 _) | apply F1)); done) | (repeat (first | exact F0 _ | apply F1)))))) (b32_ctr) (Wt.none rfl) rfl ?_
  rintro _ _ ⟨rfl, hA_⟩
  replace hA_ := hA_.symm; subst hA_
  refine RunL.nilD' ?_
  refine RunD.one (i := 5) (by kernel_rfl) rfl ?_
  refine RunL.atStore Tryz.func98 (by kernel_rfl) (by kernel_rfl) (by kernel_rfl) .u32 (by kernel_rfl) rfl (by rfl) (by first | ((repeat (first | (with_reducible exact F0 _) | apply F1)); done) | (repeat (first | exact F0 _ | apply F1))) h (Wt.none rfl) rfl ?_
  refine RunL.nilD' ?_
  exact RunD.nil (by kernel_rfl) (fun a w hE s => KB.end (F := F) (A2 := row b T (cs.set i (.int .u32 1)) :: F) rfl rfl (by repeat (first | (with_reducible exact Fin.done (by repeat (first | (with_reducible exact Rest.here) | apply Rest.there))) | (apply Fin.cons (by first | ((repeat (first | (with_reducible exact F0 _) | apply F1)); done) | (repeat (first | exact F0 _ | apply F1)))))) hE s)
end Go.Proofs.YtcmkafellcfbeaaGreat
