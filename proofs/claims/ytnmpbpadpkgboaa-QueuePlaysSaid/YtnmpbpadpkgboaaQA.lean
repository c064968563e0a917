/- Keep. -/
import Derived.Test.YtnmpbpadpkgboaaQ9
set_option linter.unusedVariables false
set_option linter.unusedSimpArgs false
set_option linter.unusedSectionVars false
namespace Go.Proofs.Ytnmpbpadpkgboaa
open Go Csl


set_option maxHeartbeats 4000000 in
set_option maxRecDepth 100000 in
theorem isEdu_ctr {G : Gp} {x y : Edu} {b : Nat} (hr : Ro G b 31 (cEdu y)) :
    Ctr Try.prog G 36 [.agg (cEdu x).toArray, .pointer (some ⟨b, 0, none⟩)] [] (fun F v A => v = .bool (decide (x = y)) ∧ A = F) := by
  refine Ctr.intro Try.func36 rfl (by kernel_rfl) rfl (fun F => ?_)
  simp only [List.nil_append]
  refine Run.sr ?_
  refine RunL.boxA (xs := (cEdu x)) rfl (Wt.none rfl) rfl ?_; intro b2
  refine RunL.as rfl rfl ?_
  refine RunL.nil ?_
  refine Run.lendAll (Q := row b2 31 _) Lends.row (by first | ((repeat (first | (with_reducible exact Find.here _) | apply Find.there)); done) | (repeat (first | exact Find.here _ | apply Find.there))) (fun G2 hleG2 hrb2 => ?_)
  replace hr := hr.mono hleG2
  refine Run.sr ?_
  first | refine RunL.loadA (vs := (cEdu x)) rfl (by first | ((repeat (first | (with_reducible exact Find.here _) | apply Find.there)); done) | (repeat (first | exact Find.here _ | apply Find.there))) agg31 sz31 (by first | exact Nat.le_of_ble_eq_true rfl | (simp; done) | (simp; omega)) rfl (Wt.none rfl) rfl ?_ | refine RunL.loadNR (vs := (cEdu x)) rfl (by assumption) agg31 sz31 (by first | exact Nat.le_of_ble_eq_true rfl | (simp; done) | (simp; omega)) rfl (Wt.none rfl) rfl ?_
  refine RunL.pure (Pure.buildArr1 (xs := (cEdu x)) und70 sz31 zz70 rfl rfl rfl) (Wt.none rfl) rfl rfl ?_
  refine RunL.loadNR rfl hr agg31 sz31 (Nat.le_of_ble_eq_true rfl) (by rfl) (Wt.none rfl) rfl ?_
  refine RunL.pure (Pure.buildArr1 (xs := (cEdu y)) und70 sz31 zz70 rfl rfl rfl) (Wt.none rfl) rfl rfl ?_
  refine RunL.pure (Pure.aeql rfl rfl eqg70 (Eqv.arr1 und70 cz31 agg31 sz31 rfl rfl (eqv31 x y)) (by decide)) (Wt.none rfl) rfl rfl ?_
  refine RunL.as rfl rfl ?_
  refine RunL.nil ?_
  exact Run.ret Try.func36 (res1 rfl rfl) (by exact ⟨rfl, rfl⟩) (by repeat (first | (with_reducible exact Fin.done (by repeat (first | (with_reducible exact Rest.here) | apply Rest.there))) | (apply Fin.cons (by first | ((repeat (first | (with_reducible exact Find.here _) | apply Find.there)); done) | (repeat (first | exact Find.here _ | apply Find.there))))))

set_option maxHeartbeats 4000000 in
set_option maxRecDepth 100000 in
theorem IndexFuncE_ctr {G : Gp} {a : Option Addr} {cap : Nat} {xs : List Edu} {y : Edu} {b : Nat} (h : SlR G 31 11 a xs.length (xs.flatMap cEdu)) (hr : Ro G b 31 (cEdu y)) (hb : xs.length ≤ 1000000) :
    Ctr Try.prog G 50 [.slice a xs.length cap, .func (.func 36) #[] #[.pointer (some ⟨b, 0, none⟩)]] [] (fun F v A => ∃ r : Int, v = .int .i64 r ∧ (0 ≤ r ↔ y ∈ xs) ∧ A = F) := by
  refine Ctr.intro Try.func50 rfl (by kernel_rfl) rfl (fun F => ?_)
  simp only [List.nil_append]
  refine Run.sr ?_
  refine RunL.as rfl rfl ?_
  refine RunL.nil ?_
  refine Run.seq ?_
  refine Run.sr ?_
  refine RunL.mv rfl rfl ?_
  refine RunL.pure (Pure.lenSl rfl rfl und37) (Wt.none rfl) rfl rfl ?_
  refine RunL.mv rfl rfl ?_
  refine RunL.nil ?_
  refine Run.block ?_
  refine Run.keep (.cons rfl (.cons rfl (.cons rfl (.cons rfl (.cons rfl (.nil))))) : Keep _ [0, 1, 6, 7, 8] _) ?_
  refine Run.loopF (F := F) (fun n e A => ∃ i : Nat, i ≤ xs.length ∧ (∀ j, j < i → xs[j]? ≠ some y) ∧ n = xs.length - i ∧ e = [(0, .slice a xs.length cap), (1, .func (.func 36) #[] #[.pointer (some ⟨b, 0, none⟩)]), (6, .slice a xs.length cap), (7, .int .i64 (xs.length : Nat)), (8, .int .i64 (i : Nat))] ∧ A = F) (xs.length) (by exact ⟨0, by omega, fun j hj => absurd hj (Nat.not_lt_zero _), rfl, rfl, rfl⟩) (by repeat (first | (with_reducible exact Fin.done (by repeat (first | (with_reducible exact Rest.here) | apply Rest.there))) | (apply Fin.cons (by first | ((repeat (first | (with_reducible exact Find.here _) | apply Find.there)); done) | (repeat (first | exact Find.here _ | apply Find.there)))))) ?_
  rintro n _ _ ⟨i, hi, hall, rfl, rfl, hA_⟩ ih
  replace hA_ := hA_.symm; subst hA_
  refine Run.sr ?_
  refine RunL.pure (Pure.lss rfl rfl) (Wt.none rfl) rfl rfl ?_
  refine RunL.nil ?_
  refine Run.seq ?_
  refine Run.cond rfl (fun h1 => ?_) (fun h1 => ?_)
  · try simp only [decide_eq_true_eq, decide_eq_false_iff_not, beq_iff_eq, beq_eq_false_iff_ne, bne_iff_ne, ne_eq, Bool.not_eq_true', Bool.not_eq_false', Bool.not_eq_true, Bool.not_eq_false, Int.not_lt, Int.not_le, Decidable.not_not, bne_eq_false_iff_eq, gt_iff_lt, ge_iff_le, Bool.or_eq_true, Bool.and_eq_true] at h1
    obtain ⟨x, hx⟩ := get_some (xs := xs) (i := i) (by omega)
    obtain ⟨bb, Tb, preb, postb, rfl, hro⟩ := h.open1 (show 0 < xs.length by omega)
    refine Run.skip ?_
    refine Run.seq ?_
    refine Run.block ?_
    refine Run.sr ?_
    refine RunL.mv rfl rfl ?_
    refine RunL.as rfl rfl ?_
    refine RunL.nil ?_
    refine Run.sr ?_
    refine RunL.mv rfl rfl ?_
    refine RunL.mv rfl rfl ?_
    refine RunL.mv rfl rfl ?_
    refine RunL.pure (Pure.indexAddr rfl rfl und37 sz31 (by omega) (by omega)) (Wt.none rfl) rfl rfl ?_
    refine RunL.loadNR (vs := (cEdu x)) rfl hro agg31 sz31 (elemN_len (pre := preb) (post := postb) (f := cEdu) (sz := 11) (j := 0) (n := 11) (fun _ _ => rfl) hx (by decide)) ((elemN_at (pre := preb) (post := postb) (f := cEdu) (sz := 11) (j := 0) (n := 11) (fun _ _ => rfl) hx (by decide)).trans rfl) (Wt.none rfl) rfl ?_
    refine RunL.call rfl rfl (by rfl) (by repeat (first | (with_reducible exact Take.nil _) | (apply Take.cons (by first | ((repeat (first | (with_reducible exact Find.here _) | apply Find.there)); done) | (repeat (first | exact Find.here _ | apply Find.there)))))) (isEdu_ctr (x := x) hr) (Wt.none rfl) rfl ?_
    rintro _ _ ⟨rfl, hA_⟩
    replace hA_ := hA_.symm; subst hA_
    refine RunL.nil ?_
    refine Run.cond rfl (fun h2 => ?_) (fun h2 => ?_)
    · try simp only [decide_eq_true_eq, decide_eq_false_iff_not, beq_iff_eq, beq_eq_false_iff_ne, bne_iff_ne, ne_eq, Bool.not_eq_true', Bool.not_eq_false', Bool.not_eq_true, Bool.not_eq_false, Int.not_lt, Int.not_le, Decidable.not_not, bne_eq_false_iff_eq, gt_iff_lt, ge_iff_le, Bool.or_eq_true, Bool.and_eq_true] at h2
      refine Run.sr ?_
      refine RunL.mv rfl rfl ?_
      refine RunL.as rfl rfl ?_
      refine RunL.nil ?_
      exact Run.ret Try.func50 (res1 rfl rfl) (by exact ⟨_, rfl, ⟨fun _ => h2 ▸ List.mem_of_getElem? hx, fun _ => by omega⟩, rfl⟩) (by repeat (first | (with_reducible exact Fin.done (by repeat (first | (with_reducible exact Rest.here) | apply Rest.there))) | (apply Fin.cons (by first | ((repeat (first | (with_reducible exact Find.here _) | apply Find.there)); done) | (repeat (first | exact Find.here _ | apply Find.there))))))
    · try simp only [decide_eq_true_eq, decide_eq_false_iff_not, beq_iff_eq, beq_eq_false_iff_ne, bne_iff_ne, ne_eq, Bool.not_eq_true', Bool.not_eq_false', Bool.not_eq_true, Bool.not_eq_false, Int.not_lt, Int.not_le, Decidable.not_not, bne_eq_false_iff_eq, gt_iff_lt, ge_iff_le, Bool.or_eq_true, Bool.and_eq_true] at h2
      refine Run.skip ?_
      refine Run.inBlock ?_
      refine Run.region ?_
      first | refine RunL.pure (Pure.addI rfl rfl (by omega)) (Wt.none rfl) rfl rfl ?_ | refine RunL.pure (Pure.add rfl rfl) (Wt.none rfl) rfl rfl ?_
      refine RunL.mv rfl rfl ?_
      refine RunL.nil ?_
      refine Run.keep (.cons rfl (.cons rfl (.cons rfl (.cons rfl (.cons rfl (.nil))))) : Keep _ [0, 1, 6, 7, 8] _) ?_
      refine Run.againF (F := F) ih (by exact ⟨i + 1, by omega, fun j hj => by (rcases Nat.lt_or_ge j i with q | q; exact hall j q; have : j = i := (by omega); subst this; rw [hx]; exact fun e => h2 (Option.some.inj e)), rfl, rfl, rfl⟩) (by repeat (first | (with_reducible exact Fin.done (by repeat (first | (with_reducible exact Rest.here) | apply Rest.there))) | (apply Fin.cons (by first | ((repeat (first | (with_reducible exact Find.here _) | apply Find.there)); done) | (repeat (first | exact Find.here _ | apply Find.there)))))) ?_
      omega
  · try simp only [decide_eq_true_eq, decide_eq_false_iff_not, beq_iff_eq, beq_eq_false_iff_ne, bne_iff_ne, ne_eq, Bool.not_eq_true', Bool.not_eq_false', Bool.not_eq_true, Bool.not_eq_false, Int.not_lt, Int.not_le, Decidable.not_not, bne_eq_false_iff_eq, gt_iff_lt, ge_iff_le, Bool.or_eq_true, Bool.and_eq_true] at h1
    refine Run.exit rfl ?_
    refine Run.sr ?_
    refine RunL.as rfl rfl ?_
    refine RunL.nil ?_
    exact Run.ret Try.func50 (res1 rfl rfl) (by exact ⟨_, rfl, ⟨fun q => absurd q (by decide), fun hk => by obtain ⟨j, hj, e⟩ := List.getElem_of_mem hk; exact absurd (by rw [List.getElem?_eq_getElem hj, e]) (hall j (by omega))⟩, rfl⟩) (by repeat (first | (with_reducible exact Fin.done (by repeat (first | (with_reducible exact Rest.here) | apply Rest.there))) | (apply Fin.cons (by first | ((repeat (first | (with_reducible exact Find.here _) | apply Find.there)); done) | (repeat (first | exact Find.here _ | apply Find.there))))))

set_option maxHeartbeats 4000000 in
set_option maxRecDepth 100000 in
theorem ContainsE_ctr {G : Gp} {a : Option Addr} {cap : Nat} {xs : List Edu} {y : Edu} {b : Nat} (h : SlR G 31 11 a xs.length (xs.flatMap cEdu)) (hr : Ro G b 31 (cEdu y)) (hb : xs.length ≤ 1000000) :
    Ctr Try.prog G 37 [.slice a xs.length cap, .func (.func 36) #[] #[.pointer (some ⟨b, 0, none⟩)]] [] (fun F v A => v = .bool (decide (y ∈ xs)) ∧ A = F) := by
  refine Ctr.intro Try.func37 rfl (by kernel_rfl) rfl (fun F => ?_)
  simp only [List.nil_append]
  refine Run.sr ?_
  refine RunL.as rfl rfl ?_
  refine RunL.nil ?_
  refine Run.sr ?_
  refine RunL.mv rfl rfl ?_
  refine RunL.mv rfl rfl ?_
  refine RunL.call rfl rfl (by rfl) (by repeat (first | (with_reducible exact Take.nil _) | (apply Take.cons (by first | ((repeat (first | (with_reducible exact Find.here _) | apply Find.there)); done) | (repeat (first | exact Find.here _ | apply Find.there)))))) (IndexFuncE_ctr h hr hb) (Wt.none rfl) rfl ?_
  rintro _ _ ⟨r, rfl, hri, hA_⟩
  replace hA_ := hA_.symm; subst hA_
  refine RunL.pure (Pure.geq rfl rfl) (Wt.none rfl) rfl rfl ?_
  refine RunL.as rfl rfl ?_
  refine RunL.nil ?_
  exact Run.ret Try.func37 (res1 rfl rfl) (by exact ⟨by congr 1; rw [decide_eq_decide]; exact hri, rfl⟩) (by repeat (first | (with_reducible exact Fin.done (by repeat (first | (with_reducible exact Rest.here) | apply Rest.there))) | (apply Fin.cons (by first | ((repeat (first | (with_reducible exact Find.here _) | apply Find.there)); done) | (repeat (first | exact Find.here _ | apply Find.there))))))

set_option maxHeartbeats 4000000 in
set_option maxRecDepth 100000 in
theorem Keep_ctr {G : Gp} {p : Nat} {most lost : Int} {l xs : List Edu} {b : Option Addr} {cx : Nat} (h : SlR G 31 11 b xs.length (xs.flatMap cEdu)) (hbx : xs.length ≤ 1000) (hb : l.length ≤ 900) :
    Ctr Try.prog G 27 [.pointer (some ⟨p, 0, none⟩), .slice b xs.length cx] [Qu p most lost l] (fun F v A => v = .tuple #[] ∧ A = Qu p most lost (l.filter (fun x => decide (x ∈ xs))) :: F) := by
  refine Ctr.intro Try.func27 rfl (by kernel_rfl) rfl (fun F => ?_)
  simp only [List.cons_append, List.nil_append]
  refine Run.know (fun w s => (s.find (p := Qu p most lost (l)) (by first | ((repeat (first | (with_reducible exact Find.here _) | apply Find.there)); done) | (repeat (first | exact Find.here _ | apply Find.there)))).qu_nodup) ?_; intro hnd
  refine Run.sr ?_
  refine RunL.mv rfl rfl ?_
  refine RunL.call rfl rfl (by rfl) (by repeat (first | (with_reducible exact Take.nil _) | (apply Take.cons (by first | ((repeat (first | (with_reducible exact Find.here _) | apply Find.there)); done) | (repeat (first | exact Find.here _ | apply Find.there)))))) (qAll_ctr (by omega)) (Wt.none rfl) rfl ?_
  rintro _ _ ⟨a, c, rfl, hA_⟩
  replace hA_ := hA_.symm; subst hA_
  refine RunL.pure (Pure.lenSl rfl rfl und37) (Wt.none rfl) rfl rfl ?_
  refine RunL.mv rfl rfl ?_
  refine RunL.nil ?_
  refine Run.block ?_
  refine Run.keep (.cons rfl (.cons rfl (.cons rfl (.cons rfl (.cons rfl (.nil))))) : Keep _ [0, 1, 8, 9, 10] _) ?_
  refine Run.loopF (F := F) (fun n e_ A => ∃ i : Nat, i ≤ l.length ∧ n = l.length - i ∧ e_ = [(0, .pointer (some ⟨p, 0, none⟩)), (1, .slice b xs.length cx), (8, .slice a l.length c), (9, .int .i64 (l.length : Nat)), (10, .int .i64 (i : Nat))] ∧ A = Sl 31 11 a l.length c ((l).flatMap cEdu) :: Qu p most lost (keepL xs l i) :: F) (l.length) (by exact ⟨0, by omega, rfl, rfl, by rw [keepL_zero]⟩) (by repeat (first | (with_reducible exact Fin.done (by repeat (first | (with_reducible exact Rest.here) | apply Rest.there))) | (apply Fin.cons (by first | ((repeat (first | (with_reducible exact Find.here _) | apply Find.there)); done) | (repeat (first | exact Find.here _ | apply Find.there)))))) ?_
  rintro n _ _ ⟨i, hi, rfl, rfl, hA_⟩ ih
  replace hA_ := hA_.symm; subst hA_
  refine Run.sr ?_
  refine RunL.pure (Pure.lss rfl rfl) (Wt.none rfl) rfl rfl ?_
  refine RunL.nil ?_
  refine Run.seq ?_
  refine Run.cond rfl (fun h1 => ?_) (fun h1 => ?_)
  · try simp only [decide_eq_true_eq, decide_eq_false_iff_not, beq_iff_eq, beq_eq_false_iff_ne, bne_iff_ne, ne_eq, Bool.not_eq_true', Bool.not_eq_false', Bool.not_eq_true, Bool.not_eq_false, Int.not_lt, Int.not_le, Decidable.not_not, bne_eq_false_iff_eq, gt_iff_lt, ge_iff_le, Bool.or_eq_true, Bool.and_eq_true] at h1
    obtain ⟨x, hx⟩ := get_some (xs := l) (i := i) (by omega)
    refine Run.openSl (T := 31) (a := a) (n := l.length) (by first | ((repeat (first | (with_reducible exact Find.here _) | apply Find.there)); done) | (repeat (first | exact Find.here _ | apply Find.there))) (by omega) ?_; rintro b2 pre2 post2 rfl hsl1 hsl2 hsl3
    refine Run.skip ?_
    refine Run.seq ?_
    refine Run.block ?_
    refine Run.sr ?_
    refine RunL.pure (Pure.indexAddr rfl rfl und37 sz31 (by omega) (by omega)) (Wt.none rfl) rfl rfl ?_
    refine RunL.loadA (vs := (cEdu x)) rfl (by first | ((repeat (first | (with_reducible exact Find.here _) | apply Find.there)); done) | (repeat (first | exact Find.here _ | apply Find.there))) agg31 sz31 (elemN_len (f := cEdu) (sz := 11) (j := 0) (n := 11) (fun _ _ => rfl) hx (by decide)) ((elemN_at (f := cEdu) (sz := 11) (j := 0) (n := 11) (fun _ _ => rfl) hx (by decide)).trans rfl) (Wt.none rfl) rfl ?_
    refine RunL.alloc zz31 (Wt.none rfl) rfl ?_; intro b5
    refine RunL.storeW (xs := (cEdu x)) rfl rfl (by first | ((repeat (first | (with_reducible exact Find.here _) | apply Find.there)); done) | (repeat (first | exact Find.here _ | apply Find.there))) sz31 (by rfl) (by rfl) (by rfl) (Wt.none rfl) ?_
    refine RunL.nil ?_
    refine Run.mkSl (b := b2) (pre := pre2) (post := post2) (sz := 11) (cs := l.flatMap cEdu) (n := l.length) (by first | ((repeat (first | (with_reducible exact Find.here _) | apply Find.there)); done) | (repeat (first | exact Find.here _ | apply Find.there))) hsl1 hsl2 hsl3 ?_
    refine Run.sr ?_
    refine RunL.pure (Pure.makeFunc rfl rfl) (Wt.none rfl) rfl rfl ?_
    refine RunL.as rfl rfl ?_
    refine RunL.nil ?_
    refine Run.sr ?_
    refine RunL.mv rfl rfl ?_
    refine RunL.mv rfl rfl ?_
    refine RunL.call rfl rfl (by rfl) (by repeat (first | (with_reducible exact Take.nil _) | (apply Take.cons (by first | ((repeat (first | (with_reducible exact Find.here _) | apply Find.there)); done) | (repeat (first | exact Find.here _ | apply Find.there)))))) (Ctr.lend (R := fun G => Ro G b5 31 _) Lends.row cb37 (fun G' hle hr' => ContainsE_ctr (y := x) (h.mono hle) hr' (by omega))) (Wt.none rfl) rfl ?_
    rintro _ _ ⟨_, rfl, rfl, hA_⟩
    replace hA_ := hA_.symm; subst hA_
    refine RunL.pure (Pure.not rfl) (Wt.none rfl) rfl rfl ?_
    refine RunL.nil ?_
    refine Run.cond rfl (fun h2 => ?_) (fun h2 => ?_)
    · try simp only [decide_eq_true_eq, decide_eq_false_iff_not, beq_iff_eq, beq_eq_false_iff_ne, bne_iff_ne, ne_eq, Bool.not_eq_true', Bool.not_eq_false', Bool.not_eq_true, Bool.not_eq_false, Int.not_lt, Int.not_le, Decidable.not_not, bne_eq_false_iff_eq, gt_iff_lt, ge_iff_le, Bool.or_eq_true, Bool.and_eq_true] at h2
      refine Run.region ?_
      refine RunL.mv rfl rfl ?_
      first | refine RunL.loadA (vs := (cEdu x)) rfl (by first | ((repeat (first | (with_reducible exact Find.here _) | apply Find.there)); done) | (repeat (first | exact Find.here _ | apply Find.there))) agg31 sz31 (by first | exact Nat.le_of_ble_eq_true rfl | (simp; done) | (simp; omega)) rfl (Wt.none rfl) rfl ?_ | refine RunL.loadNR (vs := (cEdu x)) rfl (by assumption) agg31 sz31 (by first | exact Nat.le_of_ble_eq_true rfl | (simp; done) | (simp; omega)) rfl (Wt.none rfl) rfl ?_
      refine RunL.call rfl rfl (by rfl) (by repeat (first | (with_reducible exact Take.nil _) | (apply Take.cons (by first | ((repeat (first | (with_reducible exact Find.here _) | apply Find.there)); done) | (repeat (first | exact Find.here _ | apply Find.there)))))) (Of_ctr (e := x)) (Wt.none rfl) rfl ?_
      rintro _ _ ⟨rfl, hA_⟩
      replace hA_ := hA_.symm; subst hA_
      refine RunL.call rfl rfl (by rfl) (by repeat (first | (with_reducible exact Take.nil _) | (apply Take.cons (by first | ((repeat (first | (with_reducible exact Find.here _) | apply Find.there)); done) | (repeat (first | exact Find.here _ | apply Find.there)))))) (qdrop_ctr (k := eKey x) (by have := keepL_len xs l i; omega)) (Wt.none rfl) rfl ?_
      rintro _ _ ⟨rfl, hA_⟩
      replace hA_ := hA_.symm; subst hA_
      rw [keepL_out hnd hx h2]
      refine RunL.nil ?_
      refine Run.inBlock ?_
      refine Run.region ?_
      first | refine RunL.pure (Pure.addI rfl rfl (by omega)) (Wt.none rfl) rfl rfl ?_ | refine RunL.pure (Pure.add rfl rfl) (Wt.none rfl) rfl rfl ?_
      refine RunL.mv rfl rfl ?_
      refine RunL.nil ?_
      refine Run.keep (.cons rfl (.cons rfl (.cons rfl (.cons rfl (.cons rfl (.nil))))) : Keep _ [0, 1, 8, 9, 10] _) ?_
      refine Run.againF (F := F) ih (by exact ⟨i + 1, by omega, rfl, rfl, rfl⟩) (by repeat (first | (with_reducible exact Fin.done (by repeat (first | (with_reducible exact Rest.here) | apply Rest.there))) | (apply Fin.cons (by first | ((repeat (first | (with_reducible exact Find.here _) | apply Find.there)); done) | (repeat (first | exact Find.here _ | apply Find.there)))))) ?_
      omega
    · try simp only [decide_eq_true_eq, decide_eq_false_iff_not, beq_iff_eq, beq_eq_false_iff_ne, bne_iff_ne, ne_eq, Bool.not_eq_true', Bool.not_eq_false', Bool.not_eq_true, Bool.not_eq_false, Int.not_lt, Int.not_le, Decidable.not_not, bne_eq_false_iff_eq, gt_iff_lt, ge_iff_le, Bool.or_eq_true, Bool.and_eq_true] at h2
      refine Run.skip ?_
      refine Run.inBlock ?_
      refine Run.region ?_
      first | refine RunL.pure (Pure.addI rfl rfl (by omega)) (Wt.none rfl) rfl rfl ?_ | refine RunL.pure (Pure.add rfl rfl) (Wt.none rfl) rfl rfl ?_
      refine RunL.mv rfl rfl ?_
      refine RunL.nil ?_
      rw [keepL_in hx h2]
      refine Run.keep (.cons rfl (.cons rfl (.cons rfl (.cons rfl (.cons rfl (.nil))))) : Keep _ [0, 1, 8, 9, 10] _) ?_
      refine Run.againF (F := F) ih (by exact ⟨i + 1, by omega, rfl, rfl, rfl⟩) (by repeat (first | (with_reducible exact Fin.done (by repeat (first | (with_reducible exact Rest.here) | apply Rest.there))) | (apply Fin.cons (by first | ((repeat (first | (with_reducible exact Find.here _) | apply Find.there)); done) | (repeat (first | exact Find.here _ | apply Find.there)))))) ?_
      omega
  · try simp only [decide_eq_true_eq, decide_eq_false_iff_not, beq_iff_eq, beq_eq_false_iff_ne, bne_iff_ne, ne_eq, Bool.not_eq_true', Bool.not_eq_false', Bool.not_eq_true, Bool.not_eq_false, Int.not_lt, Int.not_le, Decidable.not_not, bne_eq_false_iff_eq, gt_iff_lt, ge_iff_le, Bool.or_eq_true, Bool.and_eq_true] at h1
    refine Run.exit rfl ?_
    obtain rfl : i = l.length := by omega
    rw [keepL_all]
    exact Run.fin Try.func27 (res0 rfl) (by exact ⟨rfl, rfl⟩) (by repeat (first | (with_reducible exact Fin.done (by repeat (first | (with_reducible exact Rest.here) | apply Rest.there))) | (apply Fin.cons (by first | ((repeat (first | (with_reducible exact Find.here _) | apply Find.there)); done) | (repeat (first | exact Find.here _ | apply Find.there))))))

end Go.Proofs.Ytnmpbpadpkgboaa
