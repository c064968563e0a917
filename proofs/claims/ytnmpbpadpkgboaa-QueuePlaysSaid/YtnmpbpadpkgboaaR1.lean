/- The reference's queue. -/
import Derived.Test.YtnmpbpadpkgboaaQA
set_option linter.unusedVariables false
set_option linter.unusedSimpArgs false
set_option linter.unusedSectionVars false
namespace Go.Proofs.Ytnmpbpadpkgboaa
open Go Csl
theorem zz53 : zeroIs Try.prog 53 = some (.agg #[(.int .i64 0), (.slice none 0 0), (.int .i64 0)]) := by kernel_rfl
theorem fo53_1 : fieldOff Try.prog 53 1 = some 1 := by kernel_rfl
theorem agg37 : isAggOf Try.prog 37 = some false := by kernel_rfl
theorem fo53_0 : fieldOff Try.prog 53 0 = some 0 := by kernel_rfl
theorem fo53_2 : fieldOff Try.prog 53 2 = some 2 := by kernel_rfl
theorem pl53 : placesOf Try.prog 53 = some ([(0, 1), (1, 1), (2, 1)], (.agg #[(.int .i64 0), (.slice none 0 0), (.int .i64 0)])) := by kernel_rfl

namespace Csl
theorem lists_same {xs ys : List Edu} {i : Nat} (h : ∀ j x, j < i → xs[j]? = some x → ys[j]? = some x) (hi : xs.length ≤ i) (hl : xs.length = ys.length) : xs = ys := by
  apply List.ext_getElem?
  intro j
  rcases Nat.lt_or_ge j xs.length with q | q
  · obtain ⟨x, hx⟩ := get_some (xs := xs) q; rw [hx, h j x (by omega) hx]
  · rw [List.getElem?_eq_none q, List.getElem?_eq_none (by omega)]
theorem lists_not {xs ys : List Edu} {i : Nat} {x y : Edu} (hx : xs[i]? = some x) (hy : ys[i]? = some y) (h : ¬ x = y) : xs ≠ ys := fun e => by rw [e, hy] at hx; cases hx; exact h rfl
def AtOk (l : List Edu) (k : Key) (r : Int) : Prop := (r = -1 ∧ ∀ x ∈ l, eKey x ≠ k) ∨ ∃ (i : Nat) (x : Edu), r = i ∧ l[i]? = some x ∧ eKey x = k ∧ ∀ j y, j < i → l[j]? = some y → eKey y ≠ k
def HasQ (G : Gp) (q : Qst) (l : List Edu) : Prop := q.l.n = l.length ∧ SlR G 31 11 q.l.a q.l.n (l.flatMap cEdu) ∧ q.l.n ≤ q.l.c
theorem offK_at {l : List Edu} {i : Nat} {x : Edu} {k : Key} (hn : (l.map eKey).Nodup) (h : l[i]? = some x) (hk : eKey x = k) : offK l k = l.take i ++ l.drop (i + 1) := by
  subst hk
  have h1 : offK (l.drop i) (eKey x) = l.drop (i + 1) := offK_drop hn h
  conv => lhs; rw [← List.take_append_drop i l]
  unfold offK at *
  rw [List.filter_append, h1]
  congr 1
  rw [List.filter_eq_self]
  intro y hy
  obtain ⟨j, hj, e⟩ := List.getElem_of_mem hy
  rw [List.length_take] at hj
  rw [List.getElem_take] at e
  simp only [decide_eq_true_eq]
  intro q
  have hi := (List.getElem?_eq_some_iff.1 h).1
  have := (List.getElem_inj (h₀ := show j < (l.map eKey).length by rw [List.length_map]; omega) (h₁ := show i < (l.map eKey).length by rw [List.length_map]; exact hi) hn).1 (by rw [List.getElem_map, List.getElem_map, e, (List.getElem?_eq_some_iff.1 h).2]; exact q)
  omega
theorem offK_none {l : List Edu} {k : Key} (h : ∀ x ∈ l, eKey x ≠ k) : offK l k = l := by
  unfold offK; rw [List.filter_eq_self]; intro x hx; simpa using h x hx
theorem memT {x : Edu} {xs : List Edu} {k : Nat} (h : x ∈ xs.take k) : decide (x ∈ xs.take (k + 1)) = true := by
  rw [decide_eq_true_eq, List.take_add_one]; exact List.mem_append_left _ h
theorem memF {x y : Edu} {xs : List Edu} {k : Nat} (hy : xs[k]? = some y) (h : x ∉ xs.take k) : decide (x ∈ xs.take (k + 1)) = decide (y = x) := by
  rw [decide_eq_decide, List.take_add_one, hy]; simp [h, eq_comm]
theorem flt_in {l xs : List Edu} {i : Nat} {x : Edu} (h : l[i]? = some x) (hx : x ∈ xs) : (l.take (i + 1)).filter (fun x => decide (x ∈ xs)) = (l.take i).filter (fun x => decide (x ∈ xs)) ++ [x] := by
  rw [List.take_add_one, h, List.filter_append]; simp [hx]
theorem flt_out {l xs : List Edu} {i : Nat} {x : Edu} (h : l[i]? = some x) (hx : x ∉ xs) : (l.take (i + 1)).filter (fun x => decide (x ∈ xs)) = (l.take i).filter (fun x => decide (x ∈ xs)) := by
  rw [List.take_add_one, h, List.filter_append]; simp [hx]
theorem find_none {l : List Edu} {k : Key} (h : ∀ x ∈ l, eKey x ≠ k) : l.find? (fun y => decide (eKey y = k)) = none := by
  rw [List.find?_eq_none]; intro x hx; simpa using h x hx
end Csl

set_option maxHeartbeats 4000000 in
set_option maxRecDepth 100000 in
theorem SameEdus_ctr {G : Gp} {a a' : Option Addr} {n0 m cap cap' : Nat} {xs ys : List Edu} (hn : n0 = xs.length) (hm : m = ys.length) (h : SlR G 31 11 a n0 (xs.flatMap cEdu)) (h' : SlR G 31 11 a' m (ys.flatMap cEdu)) (hb : n0 ≤ 1000000) :
    Ctr Try.prog G 24 [.slice a n0 cap, .slice a' m cap'] [] (fun F v A => v = .bool (decide (xs = ys)) ∧ A = F) := by
  refine Ctr.intro Try.func24 rfl (by kernel_rfl) rfl (fun F => ?_)
  simp only [List.nil_append]
  refine Run.sr ?_
  refine RunL.as rfl rfl ?_
  refine RunL.nil ?_
  refine Run.seq ?_
  refine Run.sr ?_
  refine RunL.mv rfl rfl ?_
  refine RunL.pure (Pure.lenSl rfl rfl und37) (Wt.none rfl) rfl rfl ?_
  refine RunL.mv rfl rfl ?_
  refine RunL.pure (Pure.lenSl rfl rfl und37) (Wt.none rfl) rfl rfl ?_
  refine RunL.pure (Pure.neq rfl rfl) (Wt.none rfl) rfl rfl ?_
  refine RunL.nil ?_
  refine Run.cond rfl (fun h1 => ?_) (fun h1 => ?_)
  · try simp only [decide_eq_true_eq, decide_eq_false_iff_not, beq_iff_eq, beq_eq_false_iff_ne, bne_iff_ne, ne_eq, Bool.not_eq_true', Bool.not_eq_false', Bool.not_eq_true, Bool.not_eq_false, Int.not_lt, Int.not_le, Decidable.not_not, bne_eq_false_iff_eq, gt_iff_lt, ge_iff_le, Bool.or_eq_true, Bool.and_eq_true] at h1
    refine Run.sr ?_
    refine RunL.as rfl rfl ?_
    refine RunL.nil ?_
    exact Run.ret Try.func24 (res1 rfl rfl) (by exact ⟨by rw [decide_eq_false (fun e => by subst e; omega)], rfl⟩) (by repeat (first | (with_reducible exact Fin.done (by repeat (first | (with_reducible exact Rest.here) | apply Rest.there))) | (apply Fin.cons (by first | ((repeat (first | (with_reducible exact Find.here _) | apply Find.there)); done) | (repeat (first | exact Find.here _ | apply Find.there))))))
  · try simp only [decide_eq_true_eq, decide_eq_false_iff_not, beq_iff_eq, beq_eq_false_iff_ne, bne_iff_ne, ne_eq, Bool.not_eq_true', Bool.not_eq_false', Bool.not_eq_true, Bool.not_eq_false, Int.not_lt, Int.not_le, Decidable.not_not, bne_eq_false_iff_eq, gt_iff_lt, ge_iff_le, Bool.or_eq_true, Bool.and_eq_true] at h1
    refine Run.skip ?_
    refine Run.seq ?_
    refine Run.sr ?_
    refine RunL.as rfl rfl ?_
    refine RunL.nil ?_
    refine Run.block ?_
    refine Run.keep (.cons rfl (.cons rfl (.cons rfl (.nil))) : Keep _ [0, 1, 5] _) ?_
    refine Run.loopF (F := F) (fun n e A => ∃ i : Nat, i ≤ n0 ∧ (∀ j x, j < i → xs[j]? = some x → ys[j]? = some x) ∧ n = n0 - i ∧ e = [(0, .slice a n0 cap), (1, .slice a' m cap'), (5, .int .i64 (i : Nat))] ∧ A = F) (n0) (by exact ⟨0, by omega, fun j x hj => absurd hj (Nat.not_lt_zero _), rfl, rfl, rfl⟩) (by repeat (first | (with_reducible exact Fin.done (by repeat (first | (with_reducible exact Rest.here) | apply Rest.there))) | (apply Fin.cons (by first | ((repeat (first | (with_reducible exact Find.here _) | apply Find.there)); done) | (repeat (first | exact Find.here _ | apply Find.there)))))) ?_
    rintro n _ _ ⟨i, hi, hall, rfl, rfl, hA_⟩ ih
    replace hA_ := hA_.symm; subst hA_
    refine Run.seq ?_
    refine Run.sr ?_
    refine RunL.mv rfl rfl ?_
    refine RunL.mv rfl rfl ?_
    refine RunL.pure (Pure.lenSl rfl rfl und37) (Wt.none rfl) rfl rfl ?_
    refine RunL.pure (Pure.lss rfl rfl) (Wt.none rfl) rfl rfl ?_
    refine RunL.nil ?_
    refine Run.cond rfl (fun h2 => ?_) (fun h2 => ?_)
    · try simp only [decide_eq_true_eq, decide_eq_false_iff_not, beq_iff_eq, beq_eq_false_iff_ne, bne_iff_ne, ne_eq, Bool.not_eq_true', Bool.not_eq_false', Bool.not_eq_true, Bool.not_eq_false, Int.not_lt, Int.not_le, Decidable.not_not, bne_eq_false_iff_eq, gt_iff_lt, ge_iff_le, Bool.or_eq_true, Bool.and_eq_true] at h2
      obtain ⟨x, hx⟩ := get_some (xs := xs) (i := i) (by omega)
      obtain ⟨y, hy⟩ := get_some (xs := ys) (i := i) (by omega)
      obtain ⟨bbhro, Thro, prehro, posthro, rfl, hro⟩ := h.open1 (show 0 < n0 by omega)
      obtain ⟨bbhrp, Thrp, prehrp, posthrp, rfl, hrp⟩ := h'.open1 (show 0 < m by omega)
      refine Run.skip ?_
      refine Run.seq ?_
      refine Run.block ?_
      refine Run.seq ?_
      refine Run.regionD' (by kernel_rfl) (by kernel_rfl) (fun hok45 => ?_)
      refine RunD.pure (i := 0) hok45 rfl (by kernel_rfl) (Pure.move rfl) (Wt.none rfl) rfl rfl ?_
      refine RunD.pure (i := 1) hok45 rfl (by kernel_rfl) (Pure.move rfl) (Wt.none rfl) rfl rfl ?_
      refine RunD.pure (i := 2) hok45 rfl (by kernel_rfl) (Pure.indexAddr rfl rfl und37 sz31 (by omega) (by omega)) (Wt.none rfl) rfl rfl ?_
      refine RunD.loadNR (vs := (cEdu x)) (i := 3) hok45 rfl (by kernel_rfl) rfl hro agg31 sz31 (elemN_len (pre := prehro) (post := posthro) (f := cEdu) (sz := 11) (j := 0) (n := 11) (fun _ _ => rfl) hx (by decide)) ((elemN_at (pre := prehro) (post := posthro) (f := cEdu) (sz := 11) (j := 0) (n := 11) (fun _ _ => rfl) hx (by decide)).trans rfl) (Wt.none rfl) rfl ?_
      refine RunD.pure (i := 4) hok45 rfl (by kernel_rfl) (Pure.move rfl) (Wt.none rfl) rfl rfl ?_
      refine RunD.pure (i := 5) hok45 rfl (by kernel_rfl) (Pure.move rfl) (Wt.none rfl) rfl rfl ?_
      refine RunD.pure (i := 6) hok45 rfl (by kernel_rfl) (Pure.indexAddr rfl rfl und37 sz31 (by omega) (by omega)) (Wt.none rfl) rfl rfl ?_
      refine RunD.loadNR (vs := (cEdu y)) (i := 7) hok45 rfl (by kernel_rfl) rfl hrp agg31 sz31 (elemN_len (pre := prehrp) (post := posthrp) (f := cEdu) (sz := 11) (j := 0) (n := 11) (fun _ _ => rfl) hy (by decide)) ((elemN_at (pre := prehrp) (post := posthrp) (f := cEdu) (sz := 11) (j := 0) (n := 11) (fun _ _ => rfl) hy (by decide)).trans rfl) (Wt.none rfl) rfl ?_
      refine RunD.pure (i := 8) hok45 rfl (by kernel_rfl) (Pure.aneq rfl rfl eqg31 (eqv31 (x) (y)) (by decide)) (Wt.none rfl) rfl rfl ?_
      refine RunD.nilR (by kernel_rfl) ?_
      refine Run.cond rfl (fun h3 => ?_) (fun h3 => ?_)
      · try simp only [decide_eq_true_eq, decide_eq_false_iff_not, beq_iff_eq, beq_eq_false_iff_ne, bne_iff_ne, ne_eq, Bool.not_eq_true', Bool.not_eq_false', Bool.not_eq_true, Bool.not_eq_false, Int.not_lt, Int.not_le, Decidable.not_not, bne_eq_false_iff_eq, gt_iff_lt, ge_iff_le, Bool.or_eq_true, Bool.and_eq_true] at h3
        refine Run.sr ?_
        refine RunL.as rfl rfl ?_
        refine RunL.nil ?_
        exact Run.ret Try.func24 (res1 rfl rfl) (by exact ⟨by rw [decide_eq_false (lists_not hx hy (by simpa using h3))], rfl⟩) (by repeat (first | (with_reducible exact Fin.done (by repeat (first | (with_reducible exact Rest.here) | apply Rest.there))) | (apply Fin.cons (by first | ((repeat (first | (with_reducible exact Find.here _) | apply Find.there)); done) | (repeat (first | exact Find.here _ | apply Find.there))))))
      · try simp only [decide_eq_true_eq, decide_eq_false_iff_not, beq_iff_eq, beq_eq_false_iff_ne, bne_iff_ne, ne_eq, Bool.not_eq_true', Bool.not_eq_false', Bool.not_eq_true, Bool.not_eq_false, Int.not_lt, Int.not_le, Decidable.not_not, bne_eq_false_iff_eq, gt_iff_lt, ge_iff_le, Bool.or_eq_true, Bool.and_eq_true] at h3
        refine Run.skip ?_
        refine Run.inBlock ?_
        refine Run.region ?_
        refine RunL.mv rfl rfl ?_
        first | refine RunL.pure (Pure.addI rfl rfl (by omega)) (Wt.none rfl) rfl rfl ?_ | refine RunL.pure (Pure.add rfl rfl) (Wt.none rfl) rfl rfl ?_
        refine RunL.as rfl rfl ?_
        refine RunL.nil ?_
        refine Run.keep (.cons rfl (.cons rfl (.cons rfl (.nil))) : Keep _ [0, 1, 5] _) ?_
        refine Run.againF (F := F) ih (by exact ⟨i + 1, by omega, fun j z hj hz => by (rcases Nat.lt_or_ge j i with q | q; exact hall j z q hz; have : j = i := (by omega); subst this; rw [hx] at hz; cases hz; rw [hy]; exact congrArg some (by simpa using h3 : x = y).symm), rfl, rfl, rfl⟩) (by repeat (first | (with_reducible exact Fin.done (by repeat (first | (with_reducible exact Rest.here) | apply Rest.there))) | (apply Fin.cons (by first | ((repeat (first | (with_reducible exact Find.here _) | apply Find.there)); done) | (repeat (first | exact Find.here _ | apply Find.there)))))) ?_
        omega
    · try simp only [decide_eq_true_eq, decide_eq_false_iff_not, beq_iff_eq, beq_eq_false_iff_ne, bne_iff_ne, ne_eq, Bool.not_eq_true', Bool.not_eq_false', Bool.not_eq_true, Bool.not_eq_false, Int.not_lt, Int.not_le, Decidable.not_not, bne_eq_false_iff_eq, gt_iff_lt, ge_iff_le, Bool.or_eq_true, Bool.and_eq_true] at h2
      refine Run.exit rfl ?_
      refine Run.sr ?_
      refine RunL.as rfl rfl ?_
      refine RunL.nil ?_
      exact Run.ret Try.func24 (res1 rfl rfl) (by exact ⟨by rw [decide_eq_true (lists_same hall (by omega) (by omega))], rfl⟩) (by repeat (first | (with_reducible exact Fin.done (by repeat (first | (with_reducible exact Rest.here) | apply Rest.there))) | (apply Fin.cons (by first | ((repeat (first | (with_reducible exact Find.here _) | apply Find.there)); done) | (repeat (first | exact Find.here _ | apply Find.there))))))

set_option maxHeartbeats 4000000 in
set_option maxRecDepth 100000 in
theorem At_ctr {G : Gp} {a : Option Addr} {n0 cap : Nat} {l : List Edu} {e : Edu} (hn : n0 = l.length) (h : SlR G 31 11 a n0 (l.flatMap cEdu)) (hb : n0 ≤ 1000000) :
    Ctr Try.prog G 22 [.slice a n0 cap, .agg (cEdu e).toArray] [] (fun F v A => ∃ r : Int, v = .int .i64 r ∧ AtOk l (eKey e) r ∧ A = F) := by
  refine Ctr.intro Try.func22 rfl (by kernel_rfl) rfl (fun F => ?_)
  simp only [List.nil_append]
  refine Run.sr ?_
  refine RunL.boxA (xs := (cEdu e)) rfl (Wt.none rfl) rfl ?_; intro b3
  refine RunL.as rfl rfl ?_
  refine RunL.nil ?_
  refine Run.lendAll (Q := row b3 31 _) Lends.row (by first | ((repeat (first | (with_reducible exact Find.here _) | apply Find.there)); done) | (repeat (first | exact Find.here _ | apply Find.there))) (fun G3 hleG3 hrb3 => ?_)
  replace h := h.mono hleG3
  refine Run.seq ?_
  refine Run.sr ?_
  refine RunL.as rfl rfl ?_
  refine RunL.nil ?_
  refine Run.block ?_
  refine Run.keep (.cons rfl (.cons rfl (.cons rfl (.nil))) : Keep _ [0, 3, 5] _) ?_
  refine Run.loopF (F := F) (fun n e_ A => ∃ i : Nat, i ≤ l.length ∧ (∀ j y, j < i → l[j]? = some y → eKey y ≠ eKey e) ∧ n = l.length - i ∧ e_ = [(0, .slice a n0 cap), (3, .pointer (some ⟨b3, 0, none⟩)), (5, .int .i64 (i : Nat))] ∧ A = F) (l.length) (by exact ⟨0, by omega, fun j y hj => absurd hj (Nat.not_lt_zero _), rfl, rfl, rfl⟩) (by repeat (first | (with_reducible exact Fin.done (by repeat (first | (with_reducible exact Rest.here) | apply Rest.there))) | (apply Fin.cons (by first | ((repeat (first | (with_reducible exact Find.here _) | apply Find.there)); done) | (repeat (first | exact Find.here _ | apply Find.there)))))) ?_
  rintro n _ _ ⟨i, hi, hall, rfl, rfl, hA_⟩ ih
  replace hA_ := hA_.symm; subst hA_
  refine Run.seq ?_
  refine Run.sr ?_
  refine RunL.mv rfl rfl ?_
  refine RunL.mv rfl rfl ?_
  refine RunL.pure (Pure.lenSl rfl rfl und37) (Wt.none rfl) rfl rfl ?_
  refine RunL.pure (Pure.lss rfl rfl) (Wt.none rfl) rfl rfl ?_
  refine RunL.nil ?_
  refine Run.cond rfl (fun h1 => ?_) (fun h1 => ?_)
  · try simp only [decide_eq_true_eq, decide_eq_false_iff_not, beq_iff_eq, beq_eq_false_iff_ne, bne_iff_ne, ne_eq, Bool.not_eq_true', Bool.not_eq_false', Bool.not_eq_true, Bool.not_eq_false, Int.not_lt, Int.not_le, Decidable.not_not, bne_eq_false_iff_eq, gt_iff_lt, ge_iff_le, Bool.or_eq_true, Bool.and_eq_true] at h1
    obtain ⟨x, hx⟩ := get_some (xs := l) (i := i) (by omega)
    obtain ⟨bbhro, Thro, prehro, posthro, rfl, hro⟩ := h.open1 (show 0 < n0 by omega)
    refine Run.skip ?_
    refine Run.seq ?_
    refine Run.block ?_
    refine Run.seq ?_
    refine Run.regionD' (by kernel_rfl) (by kernel_rfl) (fun hok30 => ?_)
    refine RunD.pure (i := 0) hok30 rfl (by kernel_rfl) (Pure.move rfl) (Wt.none rfl) rfl rfl ?_
    refine RunD.pure (i := 1) hok30 rfl (by kernel_rfl) (Pure.move rfl) (Wt.none rfl) rfl rfl ?_
    refine RunD.pure (i := 2) hok30 rfl (by kernel_rfl) (Pure.indexAddr rfl rfl und37 sz31 (by omega) (by omega)) (Wt.none rfl) rfl rfl ?_
    refine RunD.loadNR (vs := (cEdu x)) (i := 3) hok30 rfl (by kernel_rfl) rfl hro agg31 sz31 (elemN_len (pre := prehro) (post := posthro) (f := cEdu) (sz := 11) (j := 0) (n := 11) (fun _ _ => rfl) hx (by decide)) ((elemN_at (pre := prehro) (post := posthro) (f := cEdu) (sz := 11) (j := 0) (n := 11) (fun _ _ => rfl) hx (by decide)).trans rfl) (Wt.none rfl) rfl ?_
    refine RunD.loadNR (vs := (cEdu e)) (i := 4) hok30 rfl (by kernel_rfl) rfl (by assumption) agg31 sz31 (by first | exact Nat.le_of_ble_eq_true rfl | (simp; done) | (simp; omega)) rfl (Wt.none rfl) rfl ?_
    refine RunD.one (i := 5) (by kernel_rfl) rfl ?_
    refine RunL.call rfl rfl (by rfl) (by repeat (first | (with_reducible exact Take.nil _) | (apply Take.cons (by first | ((repeat (first | (with_reducible exact Find.here _) | apply Find.there)); done) | (repeat (first | exact Find.here _ | apply Find.there)))))) (Same3_ctr) (Wt.none rfl) rfl ?_
    rintro _ _ ⟨rfl, hA_⟩
    replace hA_ := hA_.symm; subst hA_
    refine RunL.nilD' ?_
    refine RunD.pure (i := 6) hok30 rfl (by kernel_rfl) (Pure.assign rfl) (Wt.none rfl) rfl rfl ?_
    refine RunD.nilR (by kernel_rfl) ?_
    refine Run.sr ?_
    refine RunL.mv rfl rfl ?_
    refine RunL.nil ?_
    refine Run.cond rfl (fun h2 => ?_) (fun h2 => ?_)
    · try simp only [decide_eq_true_eq, decide_eq_false_iff_not, beq_iff_eq, beq_eq_false_iff_ne, bne_iff_ne, ne_eq, Bool.not_eq_true', Bool.not_eq_false', Bool.not_eq_true, Bool.not_eq_false, Int.not_lt, Int.not_le, Decidable.not_not, bne_eq_false_iff_eq, gt_iff_lt, ge_iff_le, Bool.or_eq_true, Bool.and_eq_true] at h2
      refine Run.sr ?_
      refine RunL.mv rfl rfl ?_
      refine RunL.as rfl rfl ?_
      refine RunL.nil ?_
      exact Run.ret Try.func22 (res1 rfl rfl) (by exact ⟨_, rfl, .inr ⟨i, x, rfl, hx, h2, hall⟩, rfl⟩) (by repeat (first | (with_reducible exact Fin.done (by repeat (first | (with_reducible exact Rest.here) | apply Rest.there))) | (apply Fin.cons (by first | ((repeat (first | (with_reducible exact Find.here _) | apply Find.there)); done) | (repeat (first | exact Find.here _ | apply Find.there))))))
    · try simp only [decide_eq_true_eq, decide_eq_false_iff_not, beq_iff_eq, beq_eq_false_iff_ne, bne_iff_ne, ne_eq, Bool.not_eq_true', Bool.not_eq_false', Bool.not_eq_true, Bool.not_eq_false, Int.not_lt, Int.not_le, Decidable.not_not, bne_eq_false_iff_eq, gt_iff_lt, ge_iff_le, Bool.or_eq_true, Bool.and_eq_true] at h2
      refine Run.skip ?_
      refine Run.inBlock ?_
      refine Run.region ?_
      refine RunL.mv rfl rfl ?_
      first | refine RunL.pure (Pure.addI rfl rfl (by omega)) (Wt.none rfl) rfl rfl ?_ | refine RunL.pure (Pure.add rfl rfl) (Wt.none rfl) rfl rfl ?_
      refine RunL.as rfl rfl ?_
      refine RunL.nil ?_
      refine Run.keep (.cons rfl (.cons rfl (.cons rfl (.nil))) : Keep _ [0, 3, 5] _) ?_
      refine Run.againF (F := F) ih (by exact ⟨i + 1, by omega, fun j y hj hy => by (rcases Nat.lt_or_ge j i with q | q; exact hall j y q hy; have : j = i := (by omega); subst this; rw [hx] at hy; cases hy; exact h2), rfl, rfl, rfl⟩) (by repeat (first | (with_reducible exact Fin.done (by repeat (first | (with_reducible exact Rest.here) | apply Rest.there))) | (apply Fin.cons (by first | ((repeat (first | (with_reducible exact Find.here _) | apply Find.there)); done) | (repeat (first | exact Find.here _ | apply Find.there)))))) ?_
      omega
  · try simp only [decide_eq_true_eq, decide_eq_false_iff_not, beq_iff_eq, beq_eq_false_iff_ne, bne_iff_ne, ne_eq, Bool.not_eq_true', Bool.not_eq_false', Bool.not_eq_true, Bool.not_eq_false, Int.not_lt, Int.not_le, Decidable.not_not, bne_eq_false_iff_eq, gt_iff_lt, ge_iff_le, Bool.or_eq_true, Bool.and_eq_true] at h1
    refine Run.exit rfl ?_
    refine Run.sr ?_
    refine RunL.as rfl rfl ?_
    refine RunL.nil ?_
    exact Run.ret Try.func22 (res1 rfl rfl) (by exact ⟨_, rfl, .inl ⟨rfl, fun y hy => by obtain ⟨j, hj, e0⟩ := List.getElem_of_mem hy; exact hall j y (by omega) (by rw [List.getElem?_eq_getElem hj, e0])⟩, rfl⟩) (by repeat (first | (with_reducible exact Fin.done (by repeat (first | (with_reducible exact Rest.here) | apply Rest.there))) | (apply Fin.cons (by first | ((repeat (first | (with_reducible exact Find.here _) | apply Find.there)); done) | (repeat (first | exact Find.here _ | apply Find.there))))))

end Go.Proofs.Ytnmpbpadpkgboaa
