/- Those that are not private. -/
import Derived.Test.YtaeacdhilekcbaaR11
set_option linter.unusedVariables false
set_option linter.unusedSimpArgs false
namespace Go.Proofs.Ytaeacdhilekcbaa
open Go Csl
theorem fo69_1 : fieldOff Try.prog 69 1 = some 4 := by kernel_rfl
theorem cb49 : Callable Try.prog 49 := ⟨_, Try.func49, by kernel_rfl, by kernel_rfl⟩

namespace Csl
section
variable {α : Type} {p : α → Bool} {xs l m : List α} {i j : Nat} {x : α}
theorem pf_none (h : ∀ x ∈ xs, p x = false) : xs.filter (fun x => !p x) = xs := by
  rw [List.filter_eq_self]; intro x hx; simp [h x hx]
theorem pf_first (hi : xs[i]? = some x) (hp : p x = true) (hn : ∀ j y, j < i → xs[j]? = some y → p y = false) : xs.take i = (xs.take (i + 1)).filter (fun x => !p x) := by
  rw [List.take_add_one, hi, List.filter_append]
  have : (xs.take i).filter (fun x => !p x) = xs.take i := by
    rw [List.filter_eq_self]; intro y hy
    obtain ⟨j, hj, e⟩ := List.getElem_of_mem hy
    rw [List.length_take] at hj
    rw [hn j y (by omega) (by rw [List.getElem?_eq_getElem (by omega)]; rw [List.getElem_take] at e; rw [e])]; rfl
  rw [this]; simp [hp]
theorem pf_step (hx : xs[j]? = some x) : (xs.take (j + 1)).filter (fun x => !p x) = (xs.take j).filter (fun x => !p x) ++ (if p x = true then [] else [x]) := by
  rw [List.take_add_one, hx, List.filter_append]
  cases q : p x <;> simp [q]
theorem pl_set_succ (h : i < l.length) : (l.set i x).take (i + 1) = l.take i ++ [x] := by
  rw [List.take_add_one, List.take_set_of_le (Nat.le_refl _), List.getElem?_set_self h]; rfl
theorem pl_drop_set (h : i < j) : (l.set i x).drop j = l.drop j := List.drop_set_of_lt h
theorem pl_drop_succ (h : l.drop j = m.drop j) : l.drop (j + 1) = m.drop (j + 1) := by rw [← List.drop_drop, ← List.drop_drop, h]
end
end Csl
namespace Csl
abbrev isPriv (m : M) : Bool := m.k.priv
end Csl

set_option maxHeartbeats 2000000 in
set_option maxRecDepth 100000 in
theorem like_ctr {G : Gp} {a b : Option Addr} {c1 c2 : Nat} {xs : List M} (h : SlR G 69 6 a xs.length (xs.flatMap cM)) (h' : SlR G 28 6 b xs.length (xs.flatMap cM)) (hb : xs.length ≤ 1000000) :
    Ctr Try.prog G 23 [.slice a xs.length c1, .slice b xs.length c2] [] (fun F v A => v = .bool true ∧ A = F) := by
  refine Ctr.intro Try.func23 rfl (by kernel_rfl) rfl (fun F => ?_)
  simp only [List.nil_append]
  refine Run.sr ?_
  refine RunL.as rfl rfl ?_
  refine RunL.nil ?_
  refine Run.seq ?_
  refine Run.sr ?_
  refine RunL.mv rfl rfl ?_
  refine RunL.pure (Pure.lenSl rfl rfl und51) (Wt.none rfl) rfl rfl ?_
  refine RunL.mv rfl rfl ?_
  refine RunL.pure (Pure.lenSl rfl rfl und22) (Wt.none rfl) rfl rfl ?_
  refine RunL.pure (Pure.neq rfl rfl) (Wt.none rfl) rfl rfl ?_
  refine RunL.nil ?_
  refine Run.cond rfl (fun hc1 => ?_) (fun hc1 => ?_)
  · try simp only [ZA, ZB, ZC, ZD, ZE, ZF, ZG, ZH, ZI, ZJ, ZK, ZL, ZM, ZN, ZO, ZP, ZQ, ZR] at hc1
    exfalso
    first | exact hc1 rfl | exact hc1 trivial
  try simp only [ZA, ZB, ZC, ZD, ZE, ZF, ZG, ZH, ZI, ZJ, ZK, ZL, ZM, ZN, ZO, ZP, ZQ, ZR] at hc1
  refine Run.skip ?_
  refine Run.seq ?_
  refine Run.sr ?_
  refine RunL.as rfl rfl ?_
  refine RunL.nil ?_
  refine Run.block ?_
  refine Run.keep (.cons rfl (.cons rfl (.cons rfl (.nil))) : Keep _ [0, 1, 5] _) ?_
  refine Run.loopF (F := F) (fun n e A => ∃ i : Nat, i ≤ xs.length ∧ n = xs.length - i ∧ e = [(0, .slice a xs.length c1), (1, .slice b xs.length c2), (5, .int .i64 (i : Nat))] ∧ A = F) (xs.length) (by exact ⟨0, by omega, rfl, rfl, rfl⟩) (by repeat (first | (with_reducible exact Fin.done (by repeat (first | (with_reducible exact Rest.here) | apply Rest.there))) | (apply Fin.cons (by first | ((repeat (first | (with_reducible exact F0 _) | apply F1)); done) | (repeat (first | exact F0 _ | apply F1)))))) ?_
  rintro n _ _ ⟨i, hi, rfl, rfl, hA_⟩ ih
  replace hA_ := hA_.symm; subst hA_
  refine Run.seq ?_
  refine Run.sr ?_
  refine RunL.mv rfl rfl ?_
  refine RunL.mv rfl rfl ?_
  refine RunL.pure (Pure.lenSl rfl rfl und51) (Wt.none rfl) rfl rfl ?_
  refine RunL.pure (Pure.lss rfl rfl) (Wt.none rfl) rfl rfl ?_
  refine RunL.nil ?_
  refine Run.cond rfl (fun h1 => ?_) (fun h1 => ?_)
  · try simp only [ZA, ZB, ZC, ZD, ZE, ZF, ZG, ZH, ZI, ZJ, ZK, ZL, ZM, ZN, ZO, ZP, ZQ, ZR] at h1
    obtain ⟨m, hm⟩ := get_some (xs := xs) (i := i) (by omega)
    obtain ⟨ba, Ta, prea, posta, rfl, hroa⟩ := h.open1 (show 0 < xs.length by omega)
    obtain ⟨bb, Tb_, preb, postb, rfl, hrob⟩ := h'.open1 (show 0 < xs.length by omega)
    refine Run.skip ?_
    refine Run.seq ?_
    refine Run.block ?_
    refine Run.seq ?_
    refine Run.regionD' (by kernel_rfl) (by kernel_rfl) (fun hok42 => ?_)
    refine RunD.pure (i := 0) hok42 rfl (by kernel_rfl) (Pure.move rfl) (Wt.none rfl) rfl rfl ?_
    refine RunD.pure (i := 1) hok42 rfl (by kernel_rfl) (Pure.move rfl) (Wt.none rfl) rfl rfl ?_
    refine RunD.pure (i := 2) hok42 rfl (by kernel_rfl) (Pure.indexAddr rfl rfl und51 sz69 (by omega) (by omega)) (Wt.none rfl) rfl rfl ?_
    refine RunD.pure (i := 3) hok42 rfl (by kernel_rfl) (Pure.fieldAddr rfl fo69_0) (Wt.none rfl) rfl rfl ?_
    refine RunD.loadNR (vs := (cK m.k)) (i := 4) hok42 rfl (by kernel_rfl) rfl hroa agg36 sz36 (elemN_len (pre := prea) (post := posta) (f := cM) (sz := 6) (j := 0) (n := 4) (fun _ _ => rfl) hm (by decide)) ((elemN_at (pre := prea) (post := posta) (f := cM) (sz := 6) (j := 0) (n := 4) (fun _ _ => rfl) hm (by decide)).trans rfl) (Wt.none rfl) rfl ?_
    refine RunD.pure (i := 5) hok42 rfl (by kernel_rfl) (Pure.move rfl) (Wt.none rfl) rfl rfl ?_
    refine RunD.pure (i := 6) hok42 rfl (by kernel_rfl) (Pure.move rfl) (Wt.none rfl) rfl rfl ?_
    refine RunD.pure (i := 7) hok42 rfl (by kernel_rfl) (Pure.indexAddr rfl rfl und22 sz28 (by omega) (by omega)) (Wt.none rfl) rfl rfl ?_
    refine RunD.pure (i := 8) hok42 rfl (by kernel_rfl) (Pure.fieldAddr rfl fo28_0) (Wt.none rfl) rfl rfl ?_
    refine RunD.loadNR (vs := (cK m.k)) (i := 9) hok42 rfl (by kernel_rfl) rfl hrob agg24 sz24 (elemN_len (pre := preb) (post := postb) (f := cM) (sz := 6) (j := 0) (n := 4) (fun _ _ => rfl) hm (by decide)) ((elemN_at (pre := preb) (post := postb) (f := cM) (sz := 6) (j := 0) (n := 4) (fun _ _ => rfl) hm (by decide)).trans rfl) (Wt.none rfl) rfl ?_
    refine RunD.pure (i := 10) hok42 rfl (by kernel_rfl) (Pure.aneq rfl rfl eqg24 (eqv24 (m.k) (m.k)) (by decide)) (Wt.none rfl) rfl rfl ?_
    refine RunD.pure (i := 11) hok42 rfl (by kernel_rfl) (Pure.move rfl) (Wt.none rfl) rfl rfl ?_
    refine RunD.split (d := 28) rfl (fun hg2 => ?_) (fun hg2 => ?_)
    · try simp only [ZA, ZB, ZC, ZD, ZE, ZF, ZG, ZH, ZI, ZJ, ZK, ZL, ZM, ZN, ZO, ZP, ZQ, ZR] at hg2
      exfalso
      first | exact hg2 rfl | exact hg2 trivial
    try simp only [ZA, ZB, ZC, ZD, ZE, ZF, ZG, ZH, ZI, ZJ, ZK, ZL, ZM, ZN, ZO, ZP, ZQ, ZR] at hg2
    refine RunD.pure (i := 12) hok42 rfl (by kernel_rfl) (Pure.move rfl) (Wt.yes rfl rfl rfl) rfl rfl ?_
    refine RunD.pure (i := 13) hok42 rfl (by kernel_rfl) (Pure.move rfl) (Wt.yes rfl rfl rfl) rfl rfl ?_
    refine RunD.pure (i := 14) hok42 rfl (by kernel_rfl) (Pure.indexAddr rfl rfl und51 sz69 (by omega) (by omega)) (Wt.yes rfl rfl rfl) rfl rfl ?_
    refine RunD.pure (i := 15) hok42 rfl (by kernel_rfl) (Pure.fieldAddr rfl fo69_1) (Wt.yes rfl rfl rfl) rfl rfl ?_
    refine RunD.loadNR (vs := (cPos m.pos)) (i := 16) hok42 rfl (by kernel_rfl) rfl hroa agg26 sz26 (elemN_len (pre := prea) (post := posta) (f := cM) (sz := 6) (j := 4) (n := 2) (fun _ _ => rfl) hm (by decide)) ((elemN_at (pre := prea) (post := posta) (f := cM) (sz := 6) (j := 4) (n := 2) (fun _ _ => rfl) hm (by decide)).trans rfl) (Wt.yes rfl rfl rfl) rfl ?_
    refine RunD.pure (i := 17) hok42 rfl (by kernel_rfl) (Pure.move rfl) (Wt.yes rfl rfl rfl) rfl rfl ?_
    refine RunD.pure (i := 18) hok42 rfl (by kernel_rfl) (Pure.move rfl) (Wt.yes rfl rfl rfl) rfl rfl ?_
    refine RunD.pure (i := 19) hok42 rfl (by kernel_rfl) (Pure.indexAddr rfl rfl und22 sz28 (by omega) (by omega)) (Wt.yes rfl rfl rfl) rfl rfl ?_
    refine RunD.pure (i := 20) hok42 rfl (by kernel_rfl) (Pure.fieldAddr rfl fo28_1) (Wt.yes rfl rfl rfl) rfl rfl ?_
    refine RunD.loadNR (vs := (cPos m.pos)) (i := 21) hok42 rfl (by kernel_rfl) rfl hrob agg26 sz26 (elemN_len (pre := preb) (post := postb) (f := cM) (sz := 6) (j := 4) (n := 2) (fun _ _ => rfl) hm (by decide)) ((elemN_at (pre := preb) (post := postb) (f := cM) (sz := 6) (j := 4) (n := 2) (fun _ _ => rfl) hm (by decide)).trans rfl) (Wt.yes rfl rfl rfl) rfl ?_
    refine RunD.pure (i := 22) hok42 rfl (by kernel_rfl) (Pure.aneq rfl rfl eqg26 (eqv26 (m.pos) (m.pos)) (by decide)) (Wt.yes rfl rfl rfl) rfl rfl ?_
    refine RunD.pure (i := 23) hok42 rfl (by kernel_rfl) (Pure.pickF rfl rfl) (Wt.none rfl) rfl rfl ?_
    refine RunD.pure (i := 24) hok42 rfl (by kernel_rfl) (Pure.move rfl) (Wt.none rfl) rfl rfl ?_
    refine RunD.split (d := 41) rfl (fun hg3 => ?_) (fun hg3 => ?_)
    · try simp only [ZA, ZB, ZC, ZD, ZE, ZF, ZG, ZH, ZI, ZJ, ZK, ZL, ZM, ZN, ZO, ZP, ZQ, ZR] at hg3
      exfalso
      first | exact hg3 rfl | exact hg3 trivial
    try simp only [ZA, ZB, ZC, ZD, ZE, ZF, ZG, ZH, ZI, ZJ, ZK, ZL, ZM, ZN, ZO, ZP, ZQ, ZR] at hg3
    refine RunD.pure (i := 25) hok42 rfl (by kernel_rfl) (Pure.move rfl) (Wt.yes rfl rfl rfl) rfl rfl ?_
    refine RunD.pure (i := 26) hok42 rfl (by kernel_rfl) (Pure.move rfl) (Wt.yes rfl rfl rfl) rfl rfl ?_
    refine RunD.pure (i := 27) hok42 rfl (by kernel_rfl) (Pure.indexAddr rfl rfl und51 sz69 (by omega) (by omega)) (Wt.yes rfl rfl rfl) rfl rfl ?_
    refine RunD.pure (i := 28) hok42 rfl (by kernel_rfl) (Pure.fieldAddr rfl fo69_0) (Wt.yes rfl rfl rfl) rfl rfl ?_
    refine RunD.pure (i := 29) hok42 rfl (by kernel_rfl) (Pure.fieldAddr rfl fo36_1) (Wt.yes rfl rfl rfl) rfl rfl ?_
    refine RunD.load1R (i := 30) hok42 rfl (by kernel_rfl) rfl hroa ((elem_at (pre := prea) (post := posta) (f := cM) (sz := 6) (j := 1) (fun _ _ => rfl) hm (by decide)).trans rfl) agg9 (Wt.yes rfl rfl rfl) rfl ?_
    refine RunD.pure (i := 31) hok42 rfl (by kernel_rfl) (Pure.move rfl) (Wt.yes rfl rfl rfl) rfl rfl ?_
    refine RunD.pure (i := 32) hok42 rfl (by kernel_rfl) (Pure.move rfl) (Wt.yes rfl rfl rfl) rfl rfl ?_
    refine RunD.pure (i := 33) hok42 rfl (by kernel_rfl) (Pure.indexAddr rfl rfl und22 sz28 (by omega) (by omega)) (Wt.yes rfl rfl rfl) rfl rfl ?_
    refine RunD.pure (i := 34) hok42 rfl (by kernel_rfl) (Pure.fieldAddr rfl fo28_0) (Wt.yes rfl rfl rfl) rfl rfl ?_
    refine RunD.pure (i := 35) hok42 rfl (by kernel_rfl) (Pure.fieldAddr rfl fo24_1) (Wt.yes rfl rfl rfl) rfl rfl ?_
    refine RunD.load1R (i := 36) hok42 rfl (by kernel_rfl) rfl hrob ((elem_at (pre := preb) (post := postb) (f := cM) (sz := 6) (j := 1) (fun _ _ => rfl) hm (by decide)).trans rfl) agg9 (Wt.yes rfl rfl rfl) rfl ?_
    refine RunD.pure (i := 37) hok42 rfl (by kernel_rfl) (Pure.sneq rfl rfl) (Wt.yes rfl rfl rfl) rfl rfl ?_
    refine RunD.pure (i := 38) hok42 rfl (by kernel_rfl) (Pure.pickF rfl rfl) (Wt.none rfl) rfl rfl ?_
    refine RunD.nilR (by kernel_rfl) ?_
    refine Run.cond rfl (fun hc4 => ?_) (fun hc4 => ?_)
    · try simp only [ZA, ZB, ZC, ZD, ZE, ZF, ZG, ZH, ZI, ZJ, ZK, ZL, ZM, ZN, ZO, ZP, ZQ, ZR] at hc4
      exfalso
      first | exact hc4 rfl | exact hc4 trivial
    try simp only [ZA, ZB, ZC, ZD, ZE, ZF, ZG, ZH, ZI, ZJ, ZK, ZL, ZM, ZN, ZO, ZP, ZQ, ZR] at hc4
    refine Run.skip ?_
    refine Run.inBlock ?_
    refine Run.region ?_
    refine RunL.mv rfl rfl ?_
    first | refine RunL.pure (Pure.addI rfl rfl (by omega)) (Wt.none rfl) rfl rfl ?_ | refine RunL.pure (Pure.add rfl rfl) (Wt.none rfl) rfl rfl ?_
    refine RunL.as rfl rfl ?_
    refine RunL.nil ?_
    refine Run.keep (.cons rfl (.cons rfl (.cons rfl (.nil))) : Keep _ [0, 1, 5] _) ?_
    refine Run.againF (F := F) ih (by exact ⟨i + 1, by omega, rfl, rfl, rfl⟩) (by repeat (first | (with_reducible exact Fin.done (by repeat (first | (with_reducible exact Rest.here) | apply Rest.there))) | (apply Fin.cons (by first | ((repeat (first | (with_reducible exact F0 _) | apply F1)); done) | (repeat (first | exact F0 _ | apply F1)))))) ?_
    omega
  · try simp only [ZA, ZB, ZC, ZD, ZE, ZF, ZG, ZH, ZI, ZJ, ZK, ZL, ZM, ZN, ZO, ZP, ZQ, ZR] at h1
    refine Run.exit rfl ?_
    refine Run.sr ?_
    refine RunL.as rfl rfl ?_
    refine RunL.nil ?_
    exact Run.ret Try.func23 (res1 rfl rfl) (by exact ⟨rfl, rfl⟩) (by repeat (first | (with_reducible exact Fin.done (by repeat (first | (with_reducible exact Rest.here) | apply Rest.there))) | (apply Fin.cons (by first | ((repeat (first | (with_reducible exact F0 _) | apply F1)); done) | (repeat (first | exact F0 _ | apply F1))))))

set_option maxRecDepth 100000 in
theorem PublicC_ctr {G : Gp} {x : M} :
    Ctr Try.prog G 42 [.agg (cM x).toArray] [] (fun F v A => v = .bool x.k.priv ∧ A = F) := by
  refine Ctr.intro Try.func42 rfl (by kernel_rfl) rfl (fun F => ?_)
  simp only [List.nil_append]
  refine Run.sr ?_
  refine RunL.boxA (xs := (cM x)) rfl (Wt.none rfl) rfl ?_; intro b1
  refine RunL.as rfl rfl ?_
  refine RunL.nil ?_
  refine Run.lendAll (Q := row b1 69 _) Lends.row (by first | ((repeat (first | (with_reducible exact F0 _) | apply F1)); done) | (repeat (first | exact F0 _ | apply F1))) (fun G1 hleG1 hrb1 => ?_)
  refine Run.sr ?_
  refine RunL.pure (Pure.fieldAddr rfl fo69_0) (Wt.none rfl) rfl rfl ?_
  refine RunL.pure (Pure.fieldAddr rfl fo36_3) (Wt.none rfl) rfl rfl ?_
  first | refine RunL.load1 rfl (by first | ((repeat (first | (with_reducible exact F0 _) | apply F1)); done) | (repeat (first | exact F0 _ | apply F1))) (by rfl) agg4 (Wt.none rfl) rfl ?_ | refine RunL.load1R rfl (by assumption) (by rfl) agg4 (Wt.none rfl) rfl ?_
  refine RunL.as rfl rfl ?_
  refine RunL.nil ?_
  exact Run.ret Try.func42 (res1 rfl rfl) (by exact ⟨rfl, rfl⟩) (by repeat (first | (with_reducible exact Fin.done (by repeat (first | (with_reducible exact Rest.here) | apply Rest.there))) | (apply Fin.cons (by first | ((repeat (first | (with_reducible exact F0 _) | apply F1)); done) | (repeat (first | exact F0 _ | apply F1))))))

set_option maxRecDepth 100000 in
theorem IndexFunc_ctr {G : Gp} {a : Option Addr} {cap : Nat} {xs : List M}  (h : SlR G 69 6 a xs.length (xs.flatMap cM)) (hb : xs.length ≤ 1000000) :
    Ctr Try.prog G 49 [.slice a xs.length cap, .func (.func 42) #[] #[]] [] (fun F v A => ∃ r : Int, v = .int .i64 r ∧ ((r = -1 ∧ ∀ x ∈ xs, isPriv x = false) ∨ ∃ (i : Nat) (x : M), r = i ∧ xs[i]? = some x ∧ isPriv x = true ∧ ∀ j y, j < i → xs[j]? = some y → isPriv y = false) ∧ A = F) := by
  refine Ctr.intro Try.func49 rfl (by kernel_rfl) rfl (fun F => ?_)
  simp only [List.nil_append]
  refine Run.sr ?_
  refine RunL.as rfl rfl ?_
  refine RunL.nil ?_
  refine Run.seq ?_
  refine Run.sr ?_
  refine RunL.mv rfl rfl ?_
  refine RunL.pure (Pure.lenSl rfl rfl und51) (Wt.none rfl) rfl rfl ?_
  refine RunL.mv rfl rfl ?_
  refine RunL.nil ?_
  refine Run.block ?_
  refine Run.keep (.cons rfl (.cons rfl (.cons rfl (.cons rfl (.cons rfl (.nil))))) : Keep _ [0, 1, 6, 7, 8] _) ?_
  refine Run.loopF (F := F) (fun n e A => ∃ i : Nat, i ≤ xs.length ∧ (∀ j y, j < i → xs[j]? = some y → isPriv y = false) ∧ n = xs.length - i ∧ e = [(0, .slice a xs.length cap), (1, .func (.func 42) #[] #[]), (6, .slice a xs.length cap), (7, .int .i64 (xs.length : Nat)), (8, .int .i64 (i : Nat))] ∧ A = F) (xs.length) (by exact ⟨0, by omega, fun j y hj => absurd hj (Nat.not_lt_zero _), rfl, rfl, rfl⟩) (by repeat (first | (with_reducible exact Fin.done (by repeat (first | (with_reducible exact Rest.here) | apply Rest.there))) | (apply Fin.cons (by first | ((repeat (first | (with_reducible exact F0 _) | apply F1)); done) | (repeat (first | exact F0 _ | apply F1)))))) ?_
  rintro n _ _ ⟨i, hi, hall, rfl, rfl, hA_⟩ ih
  replace hA_ := hA_.symm; subst hA_
  refine Run.sr ?_
  refine RunL.pure (Pure.lss rfl rfl) (Wt.none rfl) rfl rfl ?_
  refine RunL.nil ?_
  refine Run.seq ?_
  refine Run.cond rfl (fun h1 => ?_) (fun h1 => ?_)
  · try simp only [ZA, ZB, ZC, ZD, ZE, ZF, ZG, ZH, ZI, ZJ, ZK, ZL, ZM, ZN, ZO, ZP, ZQ, ZR] at h1
    obtain ⟨x, hx⟩ := get_some (xs := xs) (i := i) (by omega)
    obtain ⟨bb, Tb, preb, postb, rfl, hro⟩ := h.open1 (show 0 < xs.length by omega)
    refine Run.skip ?_
    refine Run.seq ?_
    refine Run.block ?_
    refine Run.sr ?_
    refine RunL.mv rfl rfl ?_
    refine RunL.as rfl rfl ?_
    refine RunL.nil ?_
    refine Run.sr ?_
    refine RunL.mv rfl rfl ?_
    refine RunL.mv rfl rfl ?_
    refine RunL.mv rfl rfl ?_
    refine RunL.pure (Pure.indexAddr rfl rfl und51 sz69 (by omega) (by omega)) (Wt.none rfl) rfl rfl ?_
    refine RunL.loadNR (vs := (cM x)) rfl hro agg69 sz69 (elemN_len (pre := preb) (post := postb) (f := cM) (sz := 6) (j := 0) (n := 6) (fun _ _ => rfl) hx (by decide)) ((elemN_at (pre := preb) (post := postb) (f := cM) (sz := 6) (j := 0) (n := 6) (fun _ _ => rfl) hx (by decide)).trans rfl) (Wt.none rfl) rfl ?_
    refine RunL.call rfl rfl (by rfl) (by repeat (first | (with_reducible exact Take.nil _) | (apply Take.cons (by first | ((repeat (first | (with_reducible exact F0 _) | apply F1)); done) | (repeat (first | exact F0 _ | apply F1)))))) (PublicC_ctr (x := x)) (Wt.none rfl) rfl ?_
    rintro _ _ ⟨rfl, hA_⟩
    replace hA_ := hA_.symm; subst hA_
    refine RunL.nil ?_
    refine Run.cond rfl (fun h2 => ?_) (fun h2 => ?_)
    · try simp only [ZA, ZB, ZC, ZD, ZE, ZF, ZG, ZH, ZI, ZJ, ZK, ZL, ZM, ZN, ZO, ZP, ZQ, ZR] at h2
      refine Run.sr ?_
      refine RunL.mv rfl rfl ?_
      refine RunL.as rfl rfl ?_
      refine RunL.nil ?_
      exact Run.ret Try.func49 (res1 rfl rfl) (by exact ⟨_, rfl, .inr ⟨i, x, rfl, hx, h2, hall⟩, rfl⟩) (by repeat (first | (with_reducible exact Fin.done (by repeat (first | (with_reducible exact Rest.here) | apply Rest.there))) | (apply Fin.cons (by first | ((repeat (first | (with_reducible exact F0 _) | apply F1)); done) | (repeat (first | exact F0 _ | apply F1))))))
    · try simp only [ZA, ZB, ZC, ZD, ZE, ZF, ZG, ZH, ZI, ZJ, ZK, ZL, ZM, ZN, ZO, ZP, ZQ, ZR] at h2
      refine Run.skip ?_
      refine Run.inBlock ?_
      refine Run.region ?_
      first | refine RunL.pure (Pure.addI rfl rfl (by omega)) (Wt.none rfl) rfl rfl ?_ | refine RunL.pure (Pure.add rfl rfl) (Wt.none rfl) rfl rfl ?_
      refine RunL.mv rfl rfl ?_
      refine RunL.nil ?_
      refine Run.keep (.cons rfl (.cons rfl (.cons rfl (.cons rfl (.cons rfl (.nil))))) : Keep _ [0, 1, 6, 7, 8] _) ?_
      refine Run.againF (F := F) ih (by exact ⟨i + 1, by omega, lt_succ_of hall hx h2, rfl, rfl, rfl⟩) (by repeat (first | (with_reducible exact Fin.done (by repeat (first | (with_reducible exact Rest.here) | apply Rest.there))) | (apply Fin.cons (by first | ((repeat (first | (with_reducible exact F0 _) | apply F1)); done) | (repeat (first | exact F0 _ | apply F1)))))) ?_
      omega
  · try simp only [ZA, ZB, ZC, ZD, ZE, ZF, ZG, ZH, ZI, ZJ, ZK, ZL, ZM, ZN, ZO, ZP, ZQ, ZR] at h1
    refine Run.exit rfl ?_
    refine Run.sr ?_
    refine RunL.as rfl rfl ?_
    refine RunL.nil ?_
    exact Run.ret Try.func49 (res1 rfl rfl) (by exact ⟨_, rfl, .inl ⟨rfl, all_of_lt hall (by omega)⟩, rfl⟩) (by repeat (first | (with_reducible exact Fin.done (by repeat (first | (with_reducible exact Rest.here) | apply Rest.there))) | (apply Fin.cons (by first | ((repeat (first | (with_reducible exact F0 _) | apply F1)); done) | (repeat (first | exact F0 _ | apply F1))))))

set_option maxHeartbeats 2000000 in
set_option maxRecDepth 100000 in
theorem DeleteFunc_ctr {G : Gp} {a : Option Addr} {cap : Nat} {xs : List M}  (hb : xs.length ≤ 1000000) (hc : xs.length ≤ cap) :
    Ctr Try.prog G 41 [.slice a xs.length cap, .func (.func 42) #[] #[]] [Sl 69 6 a xs.length cap ((xs).flatMap cM)] (fun F v A => v = .slice a (xs.filter (fun x => !isPriv x)).length cap ∧ A = Sl 69 6 a (xs.filter (fun x => !isPriv x)).length cap (((xs.filter (fun x => !isPriv x))).flatMap cM) :: F) := by
  refine Ctr.intro Try.func41 rfl (by kernel_rfl) rfl (fun F => ?_)
  simp only [List.cons_append, List.nil_append]
  refine Run.sr ?_
  refine RunL.as rfl rfl ?_
  refine RunL.nil ?_
  refine Run.sr ?_
  refine RunL.mv rfl rfl ?_
  refine RunL.mv rfl rfl ?_
  refine RunL.call rfl rfl (by rfl) (by repeat (first | (with_reducible exact Take.nil _) | (apply Take.cons (by first | ((repeat (first | (with_reducible exact F0 _) | apply F1)); done) | (repeat (first | exact F0 _ | apply F1)))))) (Ctr.lend (R := fun G => SlR G 69 6 _ _ _ ∧ _ ≤ _) Lends.Sl cb49 (fun G' hle hr' => IndexFunc_ctr hr'.1 hb)) (Wt.none rfl) rfl ?_
  rintro _ _ ⟨_, rfl, r, rfl, hri, hA_⟩
  replace hA_ := hA_.symm; subst hA_
  refine RunL.as rfl rfl ?_
  refine RunL.nil ?_
  refine Run.seq ?_
  refine Run.sr ?_
  refine RunL.mv rfl rfl ?_
  refine RunL.pure (Pure.eql rfl rfl) (Wt.none rfl) rfl rfl ?_
  refine RunL.nil ?_
  refine Run.cond rfl (fun h0 => ?_) (fun h0 => ?_)
  · try simp only [ZA, ZB, ZC, ZD, ZE, ZF, ZG, ZH, ZI, ZJ, ZK, ZL, ZM, ZN, ZO, ZP, ZQ, ZR] at h0
    refine Run.sr ?_
    refine RunL.mv rfl rfl ?_
    refine RunL.as rfl rfl ?_
    refine RunL.nil ?_
    have hno : ∀ x ∈ xs, isPriv x = false := by
      rcases hri with ⟨_, q⟩ | ⟨i0, x0, q, _⟩
      · exact q
      · omega
    exact Run.ret Try.func41 (res1 rfl rfl) (by exact ⟨by rw [pf_none hno], by rw [pf_none hno]⟩) (by repeat (first | (with_reducible exact Fin.done (by repeat (first | (with_reducible exact Rest.here) | apply Rest.there))) | (apply Fin.cons (by first | ((repeat (first | (with_reducible exact F0 _) | apply F1)); done) | (repeat (first | exact F0 _ | apply F1))))))
  · try simp only [ZA, ZB, ZC, ZD, ZE, ZF, ZG, ZH, ZI, ZJ, ZK, ZL, ZM, ZN, ZO, ZP, ZQ, ZR] at h0
    obtain ⟨i0, x0, rfl, hi0, hp0, hall0⟩ : ∃ (i : Nat) (x : M), r = i ∧ xs[i]? = some x ∧ isPriv x = true ∧ ∀ j y, j < i → xs[j]? = some y → isPriv y = false := by
      rcases hri with ⟨q, _⟩ | q
      · exact absurd q h0
      · exact q
    have hil := (List.getElem?_eq_some_iff.1 hi0).1
    refine Run.skip ?_
    refine Run.seq ?_
    refine Run.sr ?_
    refine RunL.mv rfl rfl ?_
    first | refine RunL.pure (Pure.addI rfl rfl (by omega)) (Wt.none rfl) rfl rfl ?_ | refine RunL.pure (Pure.add rfl rfl) (Wt.none rfl) rfl rfl ?_
    refine RunL.as rfl rfl ?_
    refine RunL.nil ?_
    refine Run.block ?_
    refine Run.keep (.cons rfl (.cons rfl (.cons rfl (.cons rfl (.nil)))) : Keep _ [0, 1, 5, 6] _) ?_
    refine Run.loopF (F := F) (fun n e A => ∃ (j i : Nat) (L : List M), i < j ∧ j ≤ xs.length ∧ L.length = xs.length ∧ L.take i = (xs.take j).filter (fun x => !isPriv x) ∧ L.drop j = xs.drop j ∧ n = xs.length - j ∧ e = [(0, .slice a xs.length cap), (1, .func (.func 42) #[] #[]), (5, .int .i64 (i : Nat)), (6, .int .i64 (j : Nat))] ∧ A = Sl 69 6 a xs.length cap ((L).flatMap cM) :: F) (xs.length - (i0 + 1)) (by exact ⟨i0 + 1, i0, xs, by omega, by omega, rfl, pf_first hi0 hp0 hall0, rfl, rfl, rfl, rfl⟩) (by repeat (first | (with_reducible exact Fin.done (by repeat (first | (with_reducible exact Rest.here) | apply Rest.there))) | (apply Fin.cons (by first | ((repeat (first | (with_reducible exact F0 _) | apply F1)); done) | (repeat (first | exact F0 _ | apply F1)))))) ?_
    rintro n _ _ ⟨j, i, L, hij, hj, hL, htk, hdr, rfl, rfl, hA_⟩ ih
    replace hA_ := hA_.symm; subst hA_
    refine Run.seq ?_
    refine Run.sr ?_
    refine RunL.mv rfl rfl ?_
    refine RunL.mv rfl rfl ?_
    refine RunL.pure (Pure.lenSl rfl rfl und51) (Wt.none rfl) rfl rfl ?_
    refine RunL.pure (Pure.lss rfl rfl) (Wt.none rfl) rfl rfl ?_
    refine RunL.nil ?_
    refine Run.cond rfl (fun h1 => ?_) (fun h1 => ?_)
    · try simp only [ZA, ZB, ZC, ZD, ZE, ZF, ZG, ZH, ZI, ZJ, ZK, ZL, ZM, ZN, ZO, ZP, ZQ, ZR] at h1
      obtain ⟨x, hx⟩ := get_some (xs := xs) (i := j) (by omega)
      have hLx : L[j]? = some x := by have := congrArg (fun l => l[0]?) hdr; simp only [List.getElem?_drop, Nat.add_zero] at this; rw [this, hx]
      obtain ⟨y, hy⟩ := get_some (xs := L) (i := i) (by omega)
      have hstep := pf_step (p := isPriv) hx
      refine Run.openSl (a := a) (n := xs.length) (by first | ((repeat (first | (with_reducible exact F0 _) | apply F1)); done) | (repeat (first | exact F0 _ | apply F1))) (by omega) ?_; rintro b2 pre2 post2 rfl hsl1 hsl2 hsl3
      refine Run.skip ?_
      refine Run.seq ?_
      refine Run.block ?_
      refine Run.sr ?_
      refine RunL.mv rfl rfl ?_
      refine RunL.mv rfl rfl ?_
      refine RunL.pure (Pure.indexAddr rfl rfl und51 sz69 (by omega) (by omega)) (Wt.none rfl) rfl rfl ?_
      refine RunL.loadA (vs := (cM x)) rfl (by first | ((repeat (first | (with_reducible exact F0 _) | apply F1)); done) | (repeat (first | exact F0 _ | apply F1))) agg69 sz69 (elemN_len (f := cM) (sz := 6) (j := 0) (n := 6) (fun _ _ => rfl) hLx (by decide)) ((elemN_at (f := cM) (sz := 6) (j := 0) (n := 6) (fun _ _ => rfl) hLx (by decide)).trans rfl) (Wt.none rfl) rfl ?_
      refine RunL.alloc zz69 (Wt.none rfl) rfl ?_; intro b7
      refine RunL.storeW (xs := (cM x)) rfl rfl (by first | ((repeat (first | (with_reducible exact F0 _) | apply F1)); done) | (repeat (first | exact F0 _ | apply F1))) sz69 (by rfl) (by rfl) (by rfl) (Wt.none rfl) ?_
      refine RunL.nil ?_
      refine Run.sr ?_
      refine RunL.mv rfl rfl ?_
      first | refine RunL.loadA (vs := (cM x)) rfl (by first | ((repeat (first | (with_reducible exact F0 _) | apply F1)); done) | (repeat (first | exact F0 _ | apply F1))) agg69 sz69 (by first | exact Nat.le_of_ble_eq_true rfl | (simp; done) | (simp; omega)) rfl (Wt.none rfl) rfl ?_ | refine RunL.loadNR (vs := (cM x)) rfl (by assumption) agg69 sz69 (by first | exact Nat.le_of_ble_eq_true rfl | (simp; done) | (simp; omega)) rfl (Wt.none rfl) rfl ?_
      refine RunL.call rfl rfl (by rfl) (by repeat (first | (with_reducible exact Take.nil _) | (apply Take.cons (by first | ((repeat (first | (with_reducible exact F0 _) | apply F1)); done) | (repeat (first | exact F0 _ | apply F1)))))) (PublicC_ctr (x := x)) (Wt.none rfl) rfl ?_
      rintro _ _ ⟨rfl, hA_⟩
      replace hA_ := hA_.symm; subst hA_
      refine RunL.pure (Pure.not rfl) (Wt.none rfl) rfl rfl ?_
      refine RunL.nil ?_
      refine Run.cond rfl (fun h2 => ?_) (fun h2 => ?_)
      · try simp only [ZA, ZB, ZC, ZD, ZE, ZF, ZG, ZH, ZI, ZJ, ZK, ZL, ZM, ZN, ZO, ZP, ZQ, ZR] at h2
        refine Run.sr ?_
        refine RunL.mv rfl rfl ?_
        refine RunL.mv rfl rfl ?_
        first | refine RunL.loadA (vs := (cM x)) rfl (by first | ((repeat (first | (with_reducible exact F0 _) | apply F1)); done) | (repeat (first | exact F0 _ | apply F1))) agg69 sz69 (by first | exact Nat.le_of_ble_eq_true rfl | (simp; done) | (simp; omega)) rfl (Wt.none rfl) rfl ?_ | refine RunL.loadNR (vs := (cM x)) rfl (by assumption) agg69 sz69 (by first | exact Nat.le_of_ble_eq_true rfl | (simp; done) | (simp; omega)) rfl (Wt.none rfl) rfl ?_
        refine RunL.pure (Pure.indexAddr rfl rfl und51 sz69 (by omega) (by omega)) (Wt.none rfl) rfl rfl ?_
        refine RunL.storeA (xs := (cM x)) rfl rfl (by first | ((repeat (first | (with_reducible exact F0 _) | apply F1)); done) | (repeat (first | exact F0 _ | apply F1))) sz69 (by rfl) (by rfl) (elemN_len (f := cM) (sz := 6) (j := 0) (n := 6) (fun _ _ => rfl) hy (by decide)) (setRange_el (f := cM) (sz := 6) (j := 0) (y := x) (fun _ _ => rfl) hy (Nat.le_of_ble_eq_true rfl) rfl) (Wt.none rfl) ?_
        refine RunL.nil ?_
        refine Run.mkSl (b := b2) (pre := pre2) (post := post2) (sz := 6) (cs := ((L.set i x)).flatMap cM) (n := xs.length) (by first | ((repeat (first | (with_reducible exact F0 _) | apply F1)); done) | (repeat (first | exact F0 _ | apply F1))) (by rw [flatMap_length (f := cM) (sz := 6) (fun _ _ => rfl), List.length_set, hL]) hsl2 hsl3 ?_
        refine Run.region ?_
        refine RunL.mv rfl rfl ?_
        first | refine RunL.pure (Pure.addI rfl rfl (by omega)) (Wt.none rfl) rfl rfl ?_ | refine RunL.pure (Pure.add rfl rfl) (Wt.none rfl) rfl rfl ?_
        refine RunL.as rfl rfl ?_
        refine RunL.nil ?_
        refine Run.inBlock ?_
        refine Run.region ?_
        refine RunL.mv rfl rfl ?_
        first | refine RunL.pure (Pure.addI rfl rfl (by omega)) (Wt.none rfl) rfl rfl ?_ | refine RunL.pure (Pure.add rfl rfl) (Wt.none rfl) rfl rfl ?_
        refine RunL.as rfl rfl ?_
        refine RunL.nil ?_
        refine Run.keep (.cons rfl (.cons rfl (.cons rfl (.cons rfl (.nil)))) : Keep _ [0, 1, 5, 6] _) ?_
        refine Run.againF (F := F) ih (by exact ⟨j + 1, i + 1, L.set i x, by omega, by omega, by rw [List.length_set, hL], by rw [hstep, if_neg (by simp_all), ← htk, pl_set_succ (by omega)], by rw [pl_drop_set (by omega), pl_drop_succ hdr], rfl, rfl, rfl⟩) (by repeat (first | (with_reducible exact Fin.done (by repeat (first | (with_reducible exact Rest.here) | apply Rest.there))) | (apply Fin.cons (by first | ((repeat (first | (with_reducible exact F0 _) | apply F1)); done) | (repeat (first | exact F0 _ | apply F1)))))) ?_
        omega
      · try simp only [ZA, ZB, ZC, ZD, ZE, ZF, ZG, ZH, ZI, ZJ, ZK, ZL, ZM, ZN, ZO, ZP, ZQ, ZR] at h2
        refine Run.skip ?_
        refine Run.inBlock ?_
        refine Run.region ?_
        refine RunL.mv rfl rfl ?_
        first | refine RunL.pure (Pure.addI rfl rfl (by omega)) (Wt.none rfl) rfl rfl ?_ | refine RunL.pure (Pure.add rfl rfl) (Wt.none rfl) rfl rfl ?_
        refine RunL.as rfl rfl ?_
        refine RunL.nil ?_
        refine Run.mkSl (b := b2) (pre := pre2) (post := post2) (sz := 6) (cs := (L).flatMap cM) (n := xs.length) (by first | ((repeat (first | (with_reducible exact F0 _) | apply F1)); done) | (repeat (first | exact F0 _ | apply F1))) hsl1 hsl2 hsl3 ?_
        refine Run.keep (.cons rfl (.cons rfl (.cons rfl (.cons rfl (.nil)))) : Keep _ [0, 1, 5, 6] _) ?_
        refine Run.againF (F := F) ih (by exact ⟨j + 1, i, L, by omega, by omega, hL, by rw [hstep, if_pos (by simp_all), htk, List.append_nil], pl_drop_succ hdr, rfl, rfl, rfl⟩) (by repeat (first | (with_reducible exact Fin.done (by repeat (first | (with_reducible exact Rest.here) | apply Rest.there))) | (apply Fin.cons (by first | ((repeat (first | (with_reducible exact F0 _) | apply F1)); done) | (repeat (first | exact F0 _ | apply F1)))))) ?_
        omega
    · try simp only [ZA, ZB, ZC, ZD, ZE, ZF, ZG, ZH, ZI, ZJ, ZK, ZL, ZM, ZN, ZO, ZP, ZQ, ZR] at h1
      refine Run.exit rfl ?_
      refine Run.sr ?_
      refine RunL.mv rfl rfl ?_
      refine RunL.mv rfl rfl ?_
      refine RunL.pure (Pure.sliceFrom rfl rfl und51 sz69 (by first | omega | (simp; done) | (simp; omega)) (by first | omega | (simp; done) | (simp; omega))) (Wt.none rfl) rfl rfl ?_
      refine RunL.clearTail (T := 69) (sz := 6) (n := xs.length) (cap := cap) (i := i) (a := a) (cs := L.flatMap cM) (by first | rfl | (rw [Int.toNat_natCast]; rfl)) rfl (by first | ((repeat (first | (with_reducible exact F0 _) | apply F1)); done) | (repeat (first | exact F0 _ | apply F1))) und51 zz69 rfl (by decide) (by omega) (Wt.none rfl) ?_
      refine RunL.nil ?_
      refine Run.sr ?_
      refine RunL.mv rfl rfl ?_
      refine RunL.mv rfl rfl ?_
      refine RunL.pure (Pure.sliceTo rfl rfl und51 sz69 (by first | omega | (simp; done) | (simp; omega)) (by first | omega | (simp; done) | (simp; omega))) (Wt.none rfl) rfl rfl ?_
      refine RunL.as rfl rfl ?_
      refine RunL.nil ?_
      have hfl : L.take i = (xs.filter (fun x => !isPriv x)) := by rw [htk, List.take_of_length_le (by omega)]
      have hlen : (xs.filter (fun x => !isPriv x)).length = i := by rw [← hfl, List.length_take]; omega
      rw [Int.toNat_natCast, flatMap_takeN (f := cM) (sz := 6) (xs := L) (fun _ _ => rfl), hfl, ← hlen]
      exact Run.ret Try.func41 (res1 rfl rfl) (by exact ⟨rfl, rfl⟩) (by repeat (first | (with_reducible exact Fin.done (by repeat (first | (with_reducible exact Rest.here) | apply Rest.there))) | (apply Fin.cons (by first | ((repeat (first | (with_reducible exact F0 _) | apply F1)); done) | (repeat (first | exact F0 _ | apply F1))))))

end Go.Proofs.Ytaeacdhilekcbaa
