/- An index is asked. -/
import Derived.Test.YtcmkafellcfbeaaGreatY1
import Derived.Test.YtcmkafellcfbeaaGreatX1
set_option linter.unusedVariables false
set_option linter.unusedSimpArgs false
set_option linter.unusedSectionVars false
namespace Go.Proofs.YtcmkafellcfbeaaGreat
open Go Csl


set_option maxHeartbeats 4000000 in
set_option maxRecDepth 100000 in
theorem doSlow_ctr {G : Gp} {p : Nat} {K : Hp} {room : ByteArray} {l : EL} {sl : Sli} {ys : ES} (hgd : Csl.Good room l) (hyl : ys.map (·.1) = allOf l) (hes0 : HasES (gk K) sl ys) (hb : sl.n ≤ 1000000) :
    Ctr Tryz.prog G 65 [.pointer (some ⟨p, 1, none⟩), .func (.func 51) #[.pointer (some ⟨p, 0, none⟩)] #[]] [row p 73 [.slice sl.a sl.n sl.c, .int .u32 0, .int .i32 0, .int .u32 0, .map none], Pool K] (fun F v A => v = .tuple #[] ∧ ∃ (K1 : Hp) (m : Nat) (tbl : List (ByteArray × Nat)), Hp.le K K1 ∧ tbl.map (·.1) = (allOf l).map (·.id) ∧ TOk (gk K1) l tbl ∧ A = row p 73 [.slice sl.a sl.n sl.c, .int .u32 1, .int .i32 0, .int .u32 0, .map (some m)] :: Mp m (menc eS eM tbl) :: Pool K1 :: F) := by
  refine Ctr.intro Tryz.func65 rfl (by kernel_rfl) rfl (fun F => ?_)
  simp only [List.cons_append, List.nil_append]
  refine Run.sr ?_
  refine RunL.mv rfl rfl ?_
  refine RunL.pure (Pure.nilCheck rfl) (Wt.none rfl) rfl rfl ?_
  refine RunL.pure (Pure.fieldAddr rfl fo70_2) (Wt.none rfl) rfl rfl ?_
  refine RunL.call rfl rfl (by rfl) (by repeat (first | (with_reducible exact Take.nil _) | (apply Take.cons (by first | ((repeat (first | (with_reducible exact F0 _) | apply F1)); done) | (repeat (first | exact F0 _ | apply F1)))))) (lock_ctr (b := p) (i := 2) rfl) (Wt.none rfl) rfl ?_
  rintro _ _ ⟨rfl, hA_⟩
  replace hA_ := hA_.symm; subst hA_
  refine RunL.nil ?_
  refine Run.sr ?_
  refine RunL.mv rfl rfl ?_
  refine RunL.pure (Pure.nilCheck rfl) (Wt.none rfl) rfl rfl ?_
  refine RunL.pure (Pure.fieldAddr rfl fo70_2) (Wt.none rfl) rfl rfl ?_
  first | refine RunL.deferLast rfl (Wt.none rfl) ?_ | refine RunL.deferA rfl rfl (Wt.none rfl) ?_
  refine Run.sr ?_
  refine RunL.mv rfl rfl ?_
  refine RunL.pure (Pure.nilCheck rfl) (Wt.none rfl) rfl rfl ?_
  refine RunL.pure (Pure.fieldAddr rfl fo70_1) (Wt.none rfl) rfl rfl ?_
  refine RunL.call rfl rfl (by rfl) (by repeat (first | (with_reducible exact Take.nil _) | (apply Take.cons (by first | ((repeat (first | (with_reducible exact F0 _) | apply F1)); done) | (repeat (first | exact F0 _ | apply F1)))))) (atBool_ctr (b := p) (i := 1) (z := 0) rfl) (Wt.none rfl) rfl ?_
  rintro _ _ ⟨rfl, hA_⟩
  replace hA_ := hA_.symm; subst hA_
  refine RunL.pure (Pure.not rfl) (Wt.none rfl) rfl rfl ?_
  refine RunL.nil ?_
  refine Run.cond rfl (fun hc1 => ?_) (fun hc1 => ?_)
  rotate_left
  · try simp only [ZA, ZB, ZC, ZD, ZE, ZF, ZG, ZH, ZI, ZJ, ZK, ZL, ZM, ZN, ZO, ZP, ZQ, ZR] at hc1
    exfalso
    first | exact hc1 rfl | exact hc1 trivial | (simp at hc1; done)
  try simp only [ZA, ZB, ZC, ZD, ZE, ZF, ZG, ZH, ZI, ZJ, ZK, ZL, ZM, ZN, ZO, ZP, ZQ, ZR] at hc1
  refine Run.sr ?_
  refine RunL.mv rfl rfl ?_
  refine RunL.pure (Pure.nilCheck rfl) (Wt.none rfl) rfl rfl ?_
  refine RunL.pure (Pure.fieldAddr rfl fo70_1) (Wt.none rfl) rfl rfl ?_
  first | refine RunL.deferLast rfl (Wt.none rfl) ?_ | refine RunL.deferA rfl rfl (Wt.none rfl) ?_
  refine Run.region ?_
  refine RunL.mv rfl rfl ?_
  refine RunL.call rfl rfl (by rfl) (by repeat (first | (with_reducible exact Take.nil _) | (apply Take.cons (by first | ((repeat (first | (with_reducible exact F0 _) | apply F1)); done) | (repeat (first | exact F0 _ | apply F1)))))) (build_ctr0 hgd hyl hes0 hb) (Wt.none rfl) rfl ?_
  rintro _ _ ⟨rfl, K1, m, tbl, hle, htk, htok, hA_⟩
  replace hA_ := hA_.symm; subst hA_
  refine RunL.nil ?_
  refine Run.finD2 (g1 := 76) (g2 := 77) (as1 := #[.pointer (some ⟨p, 2, none⟩)]) (as2 := #[.pointer (some ⟨p, 1, none⟩), .bool true]) Tryz.func65 rfl (storeD_ctr (b := p) (i := 1) (T := 73) (cs := [.slice sl.a sl.n sl.c, .int .u32 0, .int .i32 1, .int .u32 0, .map (some m)]) (y := .int .u32 0) rfl) (unlockD_ctr (b := p) (i := 2) (T := 73) (cs := [.slice sl.a sl.n sl.c, .int .u32 1, .int .i32 1, .int .u32 0, .map (some m)]) rfl) (by repeat (first | (with_reducible exact Take.nil _) | (apply Take.cons (by first | ((repeat (first | (with_reducible exact F0 _) | apply F1)); done) | (repeat (first | exact F0 _ | apply F1)))))) ?_
  rintro A1 rfl
  refine ⟨_, (by repeat (first | (with_reducible exact Take.nil _) | (apply Take.cons (by first | ((repeat (first | (with_reducible exact F0 _) | apply F1)); done) | (repeat (first | exact F0 _ | apply F1)))))), ?_⟩
  rintro A0 rfl
  exact ⟨_, ⟨rfl, K1, m, tbl, hle, htk, htok, rfl⟩, (by repeat (first | (with_reducible exact Fin.done (by repeat (first | (with_reducible exact Rest.here) | apply Rest.there))) | (apply Fin.cons (by first | ((repeat (first | (with_reducible exact F0 _) | apply F1)); done) | (repeat (first | exact F0 _ | apply F1))))))⟩

set_option maxHeartbeats 4000000 in
set_option maxRecDepth 100000 in
theorem DoN_ctr {G : Gp} {p : Nat} {K : Hp} {room : ByteArray} {l : EL} {sl : Sli} {ys : ES} (hgd : Csl.Good room l) (hyl : ys.map (·.1) = allOf l) (hes0 : HasES (gk K) sl ys) (hb : sl.n ≤ 1000000) :
    Ctr Tryz.prog G 50 [.pointer (some ⟨p, 1, none⟩), .func (.func 51) #[.pointer (some ⟨p, 0, none⟩)] #[]] [row p 73 [.slice sl.a sl.n sl.c, .int .u32 0, .int .i32 0, .int .u32 0, .map none], Pool K] (fun F v A => v = .tuple #[] ∧ ∃ (K1 : Hp) (m : Nat) (tbl : List (ByteArray × Nat)), Hp.le K K1 ∧ tbl.map (·.1) = (allOf l).map (·.id) ∧ TOk (gk K1) l tbl ∧ A = row p 73 [.slice sl.a sl.n sl.c, .int .u32 1, .int .i32 0, .int .u32 0, .map (some m)] :: Mp m (menc eS eM tbl) :: Pool K1 :: F) := by
  refine Ctr.intro Tryz.func50 rfl (by kernel_rfl) rfl (fun F => ?_)
  simp only [List.cons_append, List.nil_append]
  refine Run.sr ?_
  refine RunL.mv rfl rfl ?_
  refine RunL.pure (Pure.nilCheck rfl) (Wt.none rfl) rfl rfl ?_
  refine RunL.pure (Pure.fieldAddr rfl fo70_1) (Wt.none rfl) rfl rfl ?_
  refine RunL.call rfl rfl (by rfl) (by repeat (first | (with_reducible exact Take.nil _) | (apply Take.cons (by first | ((repeat (first | (with_reducible exact F0 _) | apply F1)); done) | (repeat (first | exact F0 _ | apply F1)))))) (atBool_ctr (b := p) (i := 1) (z := 0) rfl) (Wt.none rfl) rfl ?_
  rintro _ _ ⟨rfl, hA_⟩
  replace hA_ := hA_.symm; subst hA_
  refine RunL.pure (Pure.not rfl) (Wt.none rfl) rfl rfl ?_
  refine RunL.nil ?_
  refine Run.cond rfl (fun hc1 => ?_) (fun hc1 => ?_)
  rotate_left
  · try simp only [ZA, ZB, ZC, ZD, ZE, ZF, ZG, ZH, ZI, ZJ, ZK, ZL, ZM, ZN, ZO, ZP, ZQ, ZR] at hc1
    exfalso
    first | exact hc1 rfl | exact hc1 trivial | (simp at hc1; done)
  try simp only [ZA, ZB, ZC, ZD, ZE, ZF, ZG, ZH, ZI, ZJ, ZK, ZL, ZM, ZN, ZO, ZP, ZQ, ZR] at hc1
  refine Run.region ?_
  refine RunL.mv rfl rfl ?_
  refine RunL.mv rfl rfl ?_
  refine RunL.call rfl rfl (by rfl) (by repeat (first | (with_reducible exact Take.nil _) | (apply Take.cons (by first | ((repeat (first | (with_reducible exact F0 _) | apply F1)); done) | (repeat (first | exact F0 _ | apply F1)))))) (doSlow_ctr hgd hyl hes0 hb) (Wt.none rfl) rfl ?_
  rintro _ _ ⟨rfl, K1, m, tbl, hle, htk, htok, hA_⟩
  replace hA_ := hA_.symm; subst hA_
  refine RunL.nil ?_
  exact Run.fin Tryz.func50 (res0 rfl) (by exact ⟨rfl, K1, m, tbl, hle, htk, htok, rfl⟩) (by repeat (first | (with_reducible exact Fin.done (by repeat (first | (with_reducible exact Rest.here) | apply Rest.there))) | (apply Fin.cons (by first | ((repeat (first | (with_reducible exact F0 _) | apply F1)); done) | (repeat (first | exact F0 _ | apply F1))))))

set_option maxHeartbeats 4000000 in
set_option maxRecDepth 100000 in
theorem DoY_ctr {G : Gp} {p m : Nat} {sl : Sli} {fv : Value} :
    Ctr Tryz.prog G 50 [.pointer (some ⟨p, 1, none⟩), fv] [row p 73 [.slice sl.a sl.n sl.c, .int .u32 1, .int .i32 0, .int .u32 0, .map (some m)]] (fun F v A => v = .tuple #[] ∧ A = row p 73 [.slice sl.a sl.n sl.c, .int .u32 1, .int .i32 0, .int .u32 0, .map (some m)] :: F) := by
  refine Ctr.intro Tryz.func50 rfl (by kernel_rfl) rfl (fun F => ?_)
  simp only [List.cons_append, List.nil_append]
  refine Run.sr ?_
  refine RunL.mv rfl rfl ?_
  refine RunL.pure (Pure.nilCheck rfl) (Wt.none rfl) rfl rfl ?_
  refine RunL.pure (Pure.fieldAddr rfl fo70_1) (Wt.none rfl) rfl rfl ?_
  refine RunL.call rfl rfl (by rfl) (by repeat (first | (with_reducible exact Take.nil _) | (apply Take.cons (by first | ((repeat (first | (with_reducible exact F0 _) | apply F1)); done) | (repeat (first | exact F0 _ | apply F1)))))) (atBool_ctr (b := p) (i := 1) (z := 1) rfl) (Wt.none rfl) rfl ?_
  rintro _ _ ⟨rfl, hA_⟩
  replace hA_ := hA_.symm; subst hA_
  refine RunL.pure (Pure.not rfl) (Wt.none rfl) rfl rfl ?_
  refine RunL.nil ?_
  refine Run.cond rfl (fun hc1 => ?_) (fun hc1 => ?_)
  · try simp only [ZA, ZB, ZC, ZD, ZE, ZF, ZG, ZH, ZI, ZJ, ZK, ZL, ZM, ZN, ZO, ZP, ZQ, ZR] at hc1
    exfalso
    first | exact hc1 rfl | exact hc1 trivial | (simp at hc1; done)
  try simp only [ZA, ZB, ZC, ZD, ZE, ZF, ZG, ZH, ZI, ZJ, ZK, ZL, ZM, ZN, ZO, ZP, ZQ, ZR] at hc1
  refine Run.skip ?_
  exact Run.fin Tryz.func50 (res0 rfl) (by exact ⟨rfl, rfl⟩) (by repeat (first | (with_reducible exact Fin.done (by repeat (first | (with_reducible exact Rest.here) | apply Rest.there))) | (apply Fin.cons (by first | ((repeat (first | (with_reducible exact F0 _) | apply F1)); done) | (repeat (first | exact F0 _ | apply F1))))))

end Go.Proofs.YtcmkafellcfbeaaGreat
