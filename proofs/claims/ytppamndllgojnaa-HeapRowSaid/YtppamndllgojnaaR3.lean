/- The same entries. -/
import Derived.Test.YtppamndllgojnaaR2
set_option linter.unusedVariables false
set_option linter.unusedSimpArgs false
set_option linter.unusedSectionVars false
namespace Go.Proofs.Ytppamndllgojnaa
open Go Csl
theorem cb24 : Callable Try.prog 24 := ⟨_, Try.func24, by kernel_rfl, by kernel_rfl⟩

set_option maxHeartbeats 2000000 in
set_option maxRecDepth 100000 in
theorem same_ctr {G : Gp} {a b : Option Addr} {c1 c2 : Nat} {xs : List E} (h : SlR G 45 2 a xs.length (xs.flatMap cE)) (h' : SlR G 36 2 b xs.length (xs.flatMap cE)) (hb : xs.length ≤ 1000000) :
    Ctr Try.prog G 24 [.slice a xs.length c1, .slice b xs.length c2] [] (fun F v A => v = .bool true ∧ A = F) := by
  refine Ctr.intro Try.func24 rfl (by kernel_rfl) rfl (fun F => ?_)
  simp only [List.nil_append]
  refine Run.sr ?_
  refine RunL.as rfl rfl ?_
  refine RunL.nil ?_
  refine Run.seq ?_
  refine Run.sr ?_
  refine RunL.mv rfl rfl ?_
  refine RunL.pure (Pure.lenSl rfl rfl und53) (Wt.none rfl) rfl rfl ?_
  refine RunL.mv rfl rfl ?_
  refine RunL.pure (Pure.lenSl rfl rfl und27) (Wt.none rfl) rfl rfl ?_
  refine RunL.pure (Pure.neq rfl rfl) (Wt.none rfl) rfl rfl ?_
  refine RunL.nil ?_
  refine Run.cond rfl (fun hc1 => ?_) (fun hc1 => ?_)
  · try simp only [ZA, ZB, ZC, ZD, ZE, ZF, ZG, ZH, ZI, ZJ, ZK, ZL, ZM, ZN, ZO, ZP, ZQ, ZR] at hc1
    exfalso
    first | exact hc1 rfl | exact hc1 trivial
  try simp only [ZA, ZB, ZC, ZD, ZE, ZF, ZG, ZH, ZI, ZJ, ZK, ZL, ZM, ZN, ZO, ZP, ZQ, ZR] at hc1
  refine Run.skip ?_
  refine Run.seq ?_
  refine Run.sr ?_
  refine RunL.as rfl rfl ?_
  refine RunL.nil ?_
  refine Run.block ?_
  refine Run.keep (.cons rfl (.cons rfl (.cons rfl (.nil))) : Keep _ [0, 1, 5] _) ?_
  refine Run.loopF (F := F) (fun n e A => ∃ i : Nat, i ≤ xs.length ∧ n = xs.length - i ∧ e = [(0, .slice a xs.length c1), (1, .slice b xs.length c2), (5, .int .i64 (i : Nat))] ∧ A = F) (xs.length) (by exact ⟨0, by omega, rfl, rfl, rfl⟩) (by repeat (first | (with_reducible exact Fin.done (by repeat (first | (with_reducible exact Rest.here) | apply Rest.there))) | (apply Fin.cons (by first | ((repeat (first | (with_reducible exact F0 _) | apply F1)); done) | (repeat (first | exact F0 _ | apply F1)))))) ?_
  rintro n _ _ ⟨i, hi, rfl, rfl, hA_⟩ ih
  replace hA_ := hA_.symm; subst hA_
  refine Run.seq ?_
  refine Run.sr ?_
  refine RunL.mv rfl rfl ?_
  refine RunL.mv rfl rfl ?_
  refine RunL.pure (Pure.lenSl rfl rfl und53) (Wt.none rfl) rfl rfl ?_
  refine RunL.pure (Pure.lss rfl rfl) (Wt.none rfl) rfl rfl ?_
  refine RunL.nil ?_
  refine Run.cond rfl (fun h1 => ?_) (fun h1 => ?_)
  · try simp only [ZA, ZB, ZC, ZD, ZE, ZF, ZG, ZH, ZI, ZJ, ZK, ZL, ZM, ZN, ZO, ZP, ZQ, ZR] at h1
    obtain ⟨m, hm⟩ := get_some (xs := xs) (i := i) (by omega)
    obtain ⟨ba, Ta, prea, posta, rfl, hroa⟩ := h.open1 (show 0 < xs.length by omega)
    obtain ⟨bb, Tb, preb, postb, rfl, hrob⟩ := h'.open1 (show 0 < xs.length by omega)
    refine Run.skip ?_
    refine Run.seq ?_
    refine Run.block ?_
    refine Run.seq ?_
    refine Run.regionD' (by kernel_rfl) (by kernel_rfl) (fun hok42 => ?_)
    refine RunD.pure (i := 0) hok42 rfl (by kernel_rfl) (Pure.move rfl) (Wt.none rfl) rfl rfl ?_
    refine RunD.pure (i := 1) hok42 rfl (by kernel_rfl) (Pure.move rfl) (Wt.none rfl) rfl rfl ?_
    refine RunD.pure (i := 2) hok42 rfl (by kernel_rfl) (Pure.indexAddr rfl rfl und53 sz45 (by omega) (by omega)) (Wt.none rfl) rfl rfl ?_
    refine RunD.loadNR (vs := (cE m)) (i := 3) hok42 rfl (by kernel_rfl) rfl hroa agg45 sz45 (elemN_len (pre := prea) (post := posta) (f := cE) (sz := 2) (j := 0) (n := 2) (fun _ _ => rfl) hm (by decide)) ((elemN_at (pre := prea) (post := posta) (f := cE) (sz := 2) (j := 0) (n := 2) (fun _ _ => rfl) hm (by decide)).trans rfl) (Wt.none rfl) rfl ?_
    refine RunD.pure (i := 4) hok42 rfl (by kernel_rfl) (Pure.move rfl) (Wt.none rfl) rfl rfl ?_
    refine RunD.pure (i := 5) hok42 rfl (by kernel_rfl) (Pure.move rfl) (Wt.none rfl) rfl rfl ?_
    refine RunD.pure (i := 6) hok42 rfl (by kernel_rfl) (Pure.indexAddr rfl rfl und27 sz36 (by omega) (by omega)) (Wt.none rfl) rfl rfl ?_
    refine RunD.loadNR (vs := (cE m)) (i := 7) hok42 rfl (by kernel_rfl) rfl hrob agg36 sz36 (elemN_len (pre := preb) (post := postb) (f := cE) (sz := 2) (j := 0) (n := 2) (fun _ _ => rfl) hm (by decide)) ((elemN_at (pre := preb) (post := postb) (f := cE) (sz := 2) (j := 0) (n := 2) (fun _ _ => rfl) hm (by decide)).trans rfl) (Wt.none rfl) rfl ?_
    refine RunD.pure (i := 8) hok42 rfl (by kernel_rfl) (Pure.aneq rfl rfl eqg36 (eqv36 (m) (m)) (by decide)) (Wt.none rfl) rfl rfl ?_
    refine RunD.nilR (by kernel_rfl) ?_
    refine Run.cond rfl (fun hc2 => ?_) (fun hc2 => ?_)
    · try simp only [ZA, ZB, ZC, ZD, ZE, ZF, ZG, ZH, ZI, ZJ, ZK, ZL, ZM, ZN, ZO, ZP, ZQ, ZR] at hc2
      exfalso
      first | exact hc2 rfl | exact hc2 trivial
    try simp only [ZA, ZB, ZC, ZD, ZE, ZF, ZG, ZH, ZI, ZJ, ZK, ZL, ZM, ZN, ZO, ZP, ZQ, ZR] at hc2
    refine Run.skip ?_
    refine Run.inBlock ?_
    refine Run.region ?_
    refine RunL.mv rfl rfl ?_
    first | refine RunL.pure (Pure.addI rfl rfl (by omega)) (Wt.none rfl) rfl rfl ?_ | refine RunL.pure (Pure.add rfl rfl) (Wt.none rfl) rfl rfl ?_
    refine RunL.as rfl rfl ?_
    refine RunL.nil ?_
    refine Run.keep (.cons rfl (.cons rfl (.cons rfl (.nil))) : Keep _ [0, 1, 5] _) ?_
    refine Run.againF (F := F) ih (by exact ⟨i + 1, by omega, rfl, rfl, rfl⟩) (by repeat (first | (with_reducible exact Fin.done (by repeat (first | (with_reducible exact Rest.here) | apply Rest.there))) | (apply Fin.cons (by first | ((repeat (first | (with_reducible exact F0 _) | apply F1)); done) | (repeat (first | exact F0 _ | apply F1)))))) ?_
    omega
  · try simp only [ZA, ZB, ZC, ZD, ZE, ZF, ZG, ZH, ZI, ZJ, ZK, ZL, ZM, ZN, ZO, ZP, ZQ, ZR] at h1
    refine Run.exit rfl ?_
    refine Run.sr ?_
    refine RunL.as rfl rfl ?_
    refine RunL.nil ?_
    exact Run.ret Try.func24 (res1 rfl rfl) (by exact ⟨rfl, rfl⟩) (by repeat (first | (with_reducible exact Fin.done (by repeat (first | (with_reducible exact Rest.here) | apply Rest.there))) | (apply Fin.cons (by first | ((repeat (first | (with_reducible exact F0 _) | apply F1)); done) | (repeat (first | exact F0 _ | apply F1))))))

theorem sameO_ctr {G : Gp} {a b : Option Addr} {c1 c2 : Nat} {xs : List E} (hb : xs.length ≤ 1000000) : Ctr Try.prog G 24 [.slice a xs.length c1, .slice b xs.length c2] [Sl 45 2 a xs.length c1 (xs.flatMap cE), Sl 36 2 b xs.length c2 (xs.flatMap cE)] (fun F v A => v = .bool true ∧ A = Sl 45 2 a xs.length c1 (xs.flatMap cE) :: Sl 36 2 b xs.length c2 (xs.flatMap cE) :: F) :=
  (Ctr.lend2 (Q1 := Sl 45 2 a xs.length c1 (xs.flatMap cE)) (Q2 := Sl 36 2 b xs.length c2 (xs.flatMap cE)) (R1 := fun G => SlR G 45 2 a xs.length (xs.flatMap cE) ∧ xs.length ≤ c1) (R2 := fun G => SlR G 36 2 b xs.length (xs.flatMap cE) ∧ xs.length ≤ c2) Lends.Sl Lends.Sl cb24 (fun G G' h r => ⟨r.1.mono h, r.2⟩) (fun G' hle hr hr2 => same_ctr hr.1 hr2.1 hb)).mono (by rintro F v A ⟨A', rfl, h⟩; obtain ⟨rfl, rfl⟩ := h; exact ⟨rfl, rfl⟩)
end Go.Proofs.Ytppamndllgojnaa
