/- The queue. -/
import Derived.Test.YtnmpbpadpkgboaaE6
set_option linter.unusedVariables false
set_option linter.unusedSimpArgs false
set_option linter.unusedSectionVars false
namespace Go.Proofs.Ytnmpbpadpkgboaa
open Go Csl
theorem und62 : Try.prog.underlying 62 = some (Go.TypeDesc.slice 42) := Try.underlying62
theorem cb60 : Callable Try.prog 60 := ⟨_, Try.func60, by kernel_rfl, by kernel_rfl⟩
theorem fo64_2 : fieldOff Try.prog 64 2 = some 2 := by kernel_rfl
theorem agg61 : isAggOf Try.prog 61 = some false := by kernel_rfl
theorem und61 : Try.prog.underlying 61 = some (Go.TypeDesc.map 42 31) := Try.underlying61
theorem fo64_1 : fieldOff Try.prog 64 1 = some 1 := by kernel_rfl
theorem agg62 : isAggOf Try.prog 62 = some false := by kernel_rfl
theorem sz62 : sizeIs Try.prog 62 = some 1 := by kernel_rfl
theorem by31 : bytesIs Try.prog 31 = some 112 := by kernel_rfl
theorem fo64_3 : fieldOff Try.prog 64 3 = some 3 := by kernel_rfl
theorem pl64 : placesOf Try.prog 64 = some ([(0, 1), (1, 1), (2, 1), (3, 1)], (.agg #[(.int .i64 0), (.slice none 0 0), (.map none), (.int .i64 0)])) := by kernel_rfl
theorem cb32 : Callable Try.prog 32 := ⟨_, Try.func32, by kernel_rfl, by kernel_rfl⟩
theorem cb14 : Callable Try.prog 14 := ⟨_, Try.func14, by kernel_rfl, by kernel_rfl⟩
theorem cb15 : Callable Try.prog 15 := ⟨_, Try.func15, by kernel_rfl, by kernel_rfl⟩
theorem cb17 : Callable Try.prog 17 := ⟨_, Try.func17, by kernel_rfl, by kernel_rfl⟩
theorem cb21 : Callable Try.prog 21 := ⟨_, Try.func21, by kernel_rfl, by kernel_rfl⟩
theorem by42 : bytesIs Try.prog 42 = some 64 := by kernel_rfl
theorem fo64_0 : fieldOff Try.prog 64 0 = some 0 := by kernel_rfl
theorem und70 : Try.prog.underlying 70 = some (Go.TypeDesc.array 1 31) := Try.underlying70
theorem eqg70 : Try.prog.eqGuardType Try.prog.depth 70 = false := by kernel_rfl
theorem zz70 : zeroIs Try.prog 70 = some (.agg #[(.int .i64 0), (.string .empty), (.string .empty), (.string .empty), (.string .empty), (.bool false), (.bool false), (.int .i64 0), (.int .i64 0), (.int .i64 0), (.int .i64 0)]) := by kernel_rfl
theorem cb37 : Callable Try.prog 37 := ⟨_, Try.func37, by kernel_rfl, by kernel_rfl⟩

namespace Csl
theorem filter_none {ks : List Key} {k : Key} (h : k ∉ ks) : ks.filter (fun x => decide (x ≠ k)) = ks := by
  rw [List.filter_eq_self]; intro x hx; simp; exact fun e => h (e ▸ hx)
theorem filter_first {ks : List Key} {k : Key} {i : Nat} (hi : ks[i]? = some k) (hn : ∀ j, j < i → ks[j]? ≠ some k) : ks.take i = (ks.take (i + 1)).filter (fun x => decide (x ≠ k)) := by
  rw [List.take_add_one, hi, List.filter_append]
  have : (ks.take i).filter (fun x => decide (x ≠ k)) = ks.take i := by
    rw [List.filter_eq_self]; intro x hx
    obtain ⟨j, hj, e⟩ := List.getElem_of_mem hx
    rw [List.length_take] at hj
    simp only [decide_eq_true_eq]
    intro ex
    exact hn j (by omega) (by rw [List.getElem?_eq_getElem (by omega)]; rw [List.getElem_take] at e; rw [e, ex])
  rw [this]; simp
theorem lenK (l : List Key) : (l.flatMap cKey).length = l.length * 5 := flatMap_length (fun _ _ => rfl)
theorem take_set_succ {l : List Key} {i : Nat} {x : Key} (h : i < l.length) : (l.set i x).take (i + 1) = l.take i ++ [x] := by
  rw [List.take_add_one, List.take_set_of_le (Nat.le_refl _), List.getElem?_set_self h]; rfl
theorem drop_set_gt {l : List Key} {i j : Nat} {x : Key} (h : i < j) : (l.set i x).drop j = l.drop j := List.drop_set_of_lt h
theorem drop_succ {l m : List Key} {j : Nat} (h : l.drop j = m.drop j) : l.drop (j + 1) = m.drop (j + 1) := by rw [← List.drop_drop, ← List.drop_drop, h]
theorem take_filter_step {ks : List Key} {k x : Key} {j : Nat} (hx : ks[j]? = some x) : (ks.take (j + 1)).filter (fun x => decide (x ≠ k)) = (ks.take j).filter (fun x => decide (x ≠ k)) ++ (if x ≠ k then [x] else []) := by
  rw [List.take_add_one, hx, List.filter_append]
  by_cases q : x = k <;> simp [q]
end Csl

set_option maxHeartbeats 4000000 in
set_option maxRecDepth 100000 in
theorem isKey_ctr {G : Gp} {x k : Key} {b : Nat} (hr : Ro G b 42 (cKey k)) :
    Ctr Try.prog G 43 [.agg (cKey x).toArray, .pointer (some ⟨b, 0, none⟩)] [] (fun F v A => v = .bool (decide (x = k)) ∧ A = F) := by
  refine Ctr.intro Try.func43 rfl (by kernel_rfl) rfl (fun F => ?_)
  simp only [List.nil_append]
  refine Run.sr ?_
  refine RunL.boxA (xs := (cKey x)) rfl (Wt.none rfl) rfl ?_; intro b2
  refine RunL.as rfl rfl ?_
  refine RunL.nil ?_
  refine Run.lendAll (Q := row b2 42 _) Lends.row (by first | ((repeat (first | (with_reducible exact Find.here _) | apply Find.there)); done) | (repeat (first | exact Find.here _ | apply Find.there))) (fun G2 hleG2 hrb2 => ?_)
  replace hr := hr.mono hleG2
  refine Run.sr ?_
  first | refine RunL.loadA (vs := (cKey x)) rfl (by first | ((repeat (first | (with_reducible exact Find.here _) | apply Find.there)); done) | (repeat (first | exact Find.here _ | apply Find.there))) agg42 sz42 (by first | exact Nat.le_of_ble_eq_true rfl | (simp; done) | (simp; omega)) rfl (Wt.none rfl) rfl ?_ | refine RunL.loadNR (vs := (cKey x)) rfl (by assumption) agg42 sz42 (by first | exact Nat.le_of_ble_eq_true rfl | (simp; done) | (simp; omega)) rfl (Wt.none rfl) rfl ?_
  refine RunL.loadNR rfl hr agg42 sz42 (Nat.le_of_ble_eq_true rfl) (by rfl) (Wt.none rfl) rfl ?_
  refine RunL.pure (Pure.aeql rfl rfl eqg42 (eqv42 (x) _) (by decide)) (Wt.none rfl) rfl rfl ?_
  refine RunL.as rfl rfl ?_
  refine RunL.nil ?_
  exact Run.ret Try.func43 (res1 rfl rfl) (by exact ⟨rfl, rfl⟩) (by repeat (first | (with_reducible exact Fin.done (by repeat (first | (with_reducible exact Rest.here) | apply Rest.there))) | (apply Fin.cons (by first | ((repeat (first | (with_reducible exact Find.here _) | apply Find.there)); done) | (repeat (first | exact Find.here _ | apply Find.there))))))

set_option maxHeartbeats 4000000 in
set_option maxRecDepth 100000 in
theorem IndexFuncK_ctr {G : Gp} {a : Option Addr} {cap : Nat} {ks : List Key} {k : Key} {b : Nat} (h : SlR G 42 5 a ks.length (ks.flatMap cKey)) (hr : Ro G b 42 (cKey k)) (hb : ks.length ≤ 1000000) :
    Ctr Try.prog G 60 [.slice a ks.length cap, .func (.func 43) #[] #[.pointer (some ⟨b, 0, none⟩)]] [] (fun F v A => ∃ r : Int, v = .int .i64 r ∧ ((r = -1 ∧ k ∉ ks) ∨ ∃ i : Nat, r = i ∧ ks[i]? = some k ∧ ∀ j, j < i → ks[j]? ≠ some k) ∧ A = F) := by
  refine Ctr.intro Try.func60 rfl (by kernel_rfl) rfl (fun F => ?_)
  simp only [List.nil_append]
  refine Run.sr ?_
  refine RunL.as rfl rfl ?_
  refine RunL.nil ?_
  refine Run.seq ?_
  refine Run.sr ?_
  refine RunL.mv rfl rfl ?_
  refine RunL.pure (Pure.lenSl rfl rfl und62) (Wt.none rfl) rfl rfl ?_
  refine RunL.mv rfl rfl ?_
  refine RunL.nil ?_
  refine Run.block ?_
  refine Run.keep (.cons rfl (.cons rfl (.cons rfl (.cons rfl (.cons rfl (.nil))))) : Keep _ [0, 1, 6, 7, 8] _) ?_
  refine Run.loopF (F := F) (fun n e A => ∃ i : Nat, i ≤ ks.length ∧ (∀ j, j < i → ks[j]? ≠ some k) ∧ n = ks.length - i ∧ e = [(0, .slice a ks.length cap), (1, .func (.func 43) #[] #[.pointer (some ⟨b, 0, none⟩)]), (6, .slice a ks.length cap), (7, .int .i64 (ks.length : Nat)), (8, .int .i64 (i : Nat))] ∧ A = F) (ks.length) (by exact ⟨0, by omega, fun j hj => absurd hj (Nat.not_lt_zero _), rfl, rfl, rfl⟩) (by repeat (first | (with_reducible exact Fin.done (by repeat (first | (with_reducible exact Rest.here) | apply Rest.there))) | (apply Fin.cons (by first | ((repeat (first | (with_reducible exact Find.here _) | apply Find.there)); done) | (repeat (first | exact Find.here _ | apply Find.there)))))) ?_
  rintro n _ _ ⟨i, hi, hall, rfl, rfl, hA_⟩ ih
  replace hA_ := hA_.symm; subst hA_
  refine Run.sr ?_
  refine RunL.pure (Pure.lss rfl rfl) (Wt.none rfl) rfl rfl ?_
  refine RunL.nil ?_
  refine Run.seq ?_
  refine Run.cond rfl (fun h1 => ?_) (fun h1 => ?_)
  · try simp only [decide_eq_true_eq, decide_eq_false_iff_not, beq_iff_eq, beq_eq_false_iff_ne, bne_iff_ne, ne_eq, Bool.not_eq_true', Bool.not_eq_false', Bool.not_eq_true, Bool.not_eq_false, Int.not_lt, Int.not_le, Decidable.not_not, bne_eq_false_iff_eq, gt_iff_lt, ge_iff_le, Bool.or_eq_true, Bool.and_eq_true] at h1
    obtain ⟨x, hx⟩ := get_some (xs := ks) (i := i) (by omega)
    obtain ⟨bb, Tb, preb, postb, rfl, hro⟩ := h.open1 (show 0 < ks.length by omega)
    refine Run.skip ?_
    refine Run.seq ?_
    refine Run.block ?_
    refine Run.sr ?_
    refine RunL.mv rfl rfl ?_
    refine RunL.as rfl rfl ?_
    refine RunL.nil ?_
    refine Run.sr ?_
    refine RunL.mv rfl rfl ?_
    refine RunL.mv rfl rfl ?_
    refine RunL.mv rfl rfl ?_
    refine RunL.pure (Pure.indexAddr rfl rfl und62 sz42 (by omega) (by omega)) (Wt.none rfl) rfl rfl ?_
    refine RunL.loadNR (vs := (cKey x)) rfl hro agg42 sz42 (elemN_len (pre := preb) (post := postb) (f := cKey) (sz := 5) (j := 0) (n := 5) (fun _ _ => rfl) hx (by decide)) ((elemN_at (pre := preb) (post := postb) (f := cKey) (sz := 5) (j := 0) (n := 5) (fun _ _ => rfl) hx (by decide)).trans rfl) (Wt.none rfl) rfl ?_
    refine RunL.call rfl rfl (by rfl) (by repeat (first | (with_reducible exact Take.nil _) | (apply Take.cons (by first | ((repeat (first | (with_reducible exact Find.here _) | apply Find.there)); done) | (repeat (first | exact Find.here _ | apply Find.there)))))) (isKey_ctr (x := x) hr) (Wt.none rfl) rfl ?_
    rintro _ _ ⟨rfl, hA_⟩
    replace hA_ := hA_.symm; subst hA_
    refine RunL.nil ?_
    refine Run.cond rfl (fun h2 => ?_) (fun h2 => ?_)
    · try simp only [decide_eq_true_eq, decide_eq_false_iff_not, beq_iff_eq, beq_eq_false_iff_ne, bne_iff_ne, ne_eq, Bool.not_eq_true', Bool.not_eq_false', Bool.not_eq_true, Bool.not_eq_false, Int.not_lt, Int.not_le, Decidable.not_not, bne_eq_false_iff_eq, gt_iff_lt, ge_iff_le, Bool.or_eq_true, Bool.and_eq_true] at h2
      refine Run.sr ?_
      refine RunL.mv rfl rfl ?_
      refine RunL.as rfl rfl ?_
      refine RunL.nil ?_
      exact Run.ret Try.func60 (res1 rfl rfl) (by exact ⟨_, rfl, .inr ⟨i, rfl, by rw [hx, h2], hall⟩, rfl⟩) (by repeat (first | (with_reducible exact Fin.done (by repeat (first | (with_reducible exact Rest.here) | apply Rest.there))) | (apply Fin.cons (by first | ((repeat (first | (with_reducible exact Find.here _) | apply Find.there)); done) | (repeat (first | exact Find.here _ | apply Find.there))))))
    · try simp only [decide_eq_true_eq, decide_eq_false_iff_not, beq_iff_eq, beq_eq_false_iff_ne, bne_iff_ne, ne_eq, Bool.not_eq_true', Bool.not_eq_false', Bool.not_eq_true, Bool.not_eq_false, Int.not_lt, Int.not_le, Decidable.not_not, bne_eq_false_iff_eq, gt_iff_lt, ge_iff_le, Bool.or_eq_true, Bool.and_eq_true] at h2
      refine Run.skip ?_
      refine Run.inBlock ?_
      refine Run.region ?_
      first | refine RunL.pure (Pure.addI rfl rfl (by omega)) (Wt.none rfl) rfl rfl ?_ | refine RunL.pure (Pure.add rfl rfl) (Wt.none rfl) rfl rfl ?_
      refine RunL.mv rfl rfl ?_
      refine RunL.nil ?_
      refine Run.keep (.cons rfl (.cons rfl (.cons rfl (.cons rfl (.cons rfl (.nil))))) : Keep _ [0, 1, 6, 7, 8] _) ?_
      refine Run.againF (F := F) ih (by exact ⟨i + 1, by omega, fun j hj => by (rcases Nat.lt_or_ge j i with q | q; exact hall j q; have : j = i := (by omega); subst this; rw [hx]; exact fun e => h2 (Option.some.inj e)), rfl, rfl, rfl⟩) (by repeat (first | (with_reducible exact Fin.done (by repeat (first | (with_reducible exact Rest.here) | apply Rest.there))) | (apply Fin.cons (by first | ((repeat (first | (with_reducible exact Find.here _) | apply Find.there)); done) | (repeat (first | exact Find.here _ | apply Find.there)))))) ?_
      omega
  · try simp only [decide_eq_true_eq, decide_eq_false_iff_not, beq_iff_eq, beq_eq_false_iff_ne, bne_iff_ne, ne_eq, Bool.not_eq_true', Bool.not_eq_false', Bool.not_eq_true, Bool.not_eq_false, Int.not_lt, Int.not_le, Decidable.not_not, bne_eq_false_iff_eq, gt_iff_lt, ge_iff_le, Bool.or_eq_true, Bool.and_eq_true] at h1
    refine Run.exit rfl ?_
    refine Run.sr ?_
    refine RunL.as rfl rfl ?_
    refine RunL.nil ?_
    exact Run.ret Try.func60 (res1 rfl rfl) (by exact ⟨_, rfl, .inl ⟨rfl, fun hk => by obtain ⟨j, hj, e⟩ := List.getElem_of_mem hk; exact hall j (by omega) (by rw [List.getElem?_eq_getElem hj, e])⟩, rfl⟩) (by repeat (first | (with_reducible exact Fin.done (by repeat (first | (with_reducible exact Rest.here) | apply Rest.there))) | (apply Fin.cons (by first | ((repeat (first | (with_reducible exact Find.here _) | apply Find.there)); done) | (repeat (first | exact Find.here _ | apply Find.there))))))

end Go.Proofs.Ytnmpbpadpkgboaa
