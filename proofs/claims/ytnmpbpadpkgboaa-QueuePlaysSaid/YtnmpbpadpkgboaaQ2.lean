/- What is dropped. -/
import Derived.Test.YtnmpbpadpkgboaaQ1
set_option linter.unusedVariables false
set_option linter.unusedSimpArgs false
set_option linter.unusedSectionVars false
namespace Go.Proofs.Ytnmpbpadpkgboaa
open Go Csl


set_option maxHeartbeats 4000000 in
set_option maxRecDepth 100000 in
theorem DeleteFunc_ctr {G : Gp} {a : Option Addr} {cap : Nat} {ks : List Key} {k : Key} {b : Nat} (hr : Ro G b 42 (cKey k)) (hb : ks.length ≤ 1000000) (hc : ks.length ≤ cap) :
    Ctr Try.prog G 42 [.slice a ks.length cap, .func (.func 43) #[] #[.pointer (some ⟨b, 0, none⟩)]] [Sl 42 5 a ks.length cap ((ks).flatMap cKey)] (fun F v A => v = .slice a (ks.filter (fun x => decide (x ≠ k))).length cap ∧ A = Sl 42 5 a (ks.filter (fun x => decide (x ≠ k))).length cap (((ks.filter (fun x => decide (x ≠ k)))).flatMap cKey) :: F) := by
  refine Ctr.intro Try.func42 rfl (by kernel_rfl) rfl (fun F => ?_)
  simp only [List.cons_append, List.nil_append]
  refine Run.sr ?_
  refine RunL.as rfl rfl ?_
  refine RunL.nil ?_
  refine Run.sr ?_
  refine RunL.mv rfl rfl ?_
  refine RunL.mv rfl rfl ?_
  refine RunL.call rfl rfl (by rfl) (by repeat (first | (with_reducible exact Take.nil _) | (apply Take.cons (by first | ((repeat (first | (with_reducible exact Find.here _) | apply Find.there)); done) | (repeat (first | exact Find.here _ | apply Find.there)))))) (Ctr.lend (R := fun G => SlR G 42 5 _ _ _ ∧ _ ≤ _) Lends.Sl cb60 (fun G' hle hr' => IndexFuncK_ctr hr'.1 (hr.mono hle) hb)) (Wt.none rfl) rfl ?_
  rintro _ _ ⟨_, rfl, r, rfl, hri, hA_⟩
  replace hA_ := hA_.symm; subst hA_
  refine RunL.as rfl rfl ?_
  refine RunL.nil ?_
  refine Run.seq ?_
  refine Run.sr ?_
  refine RunL.mv rfl rfl ?_
  refine RunL.pure (Pure.eql rfl rfl) (Wt.none rfl) rfl rfl ?_
  refine RunL.nil ?_
  refine Run.cond rfl (fun h0 => ?_) (fun h0 => ?_)
  · try simp only [decide_eq_true_eq, decide_eq_false_iff_not, beq_iff_eq, beq_eq_false_iff_ne, bne_iff_ne, ne_eq, Bool.not_eq_true', Bool.not_eq_false', Bool.not_eq_true, Bool.not_eq_false, Int.not_lt, Int.not_le, Decidable.not_not, bne_eq_false_iff_eq, gt_iff_lt, ge_iff_le, Bool.or_eq_true, Bool.and_eq_true] at h0
    refine Run.sr ?_
    refine RunL.mv rfl rfl ?_
    refine RunL.as rfl rfl ?_
    refine RunL.nil ?_
    have hno : k ∉ ks := by
      rcases hri with ⟨_, q⟩ | ⟨i0, q, _⟩
      · exact q
      · omega
    exact Run.ret Try.func42 (res1 rfl rfl) (by exact ⟨by rw [filter_none hno], by rw [filter_none hno]⟩) (by repeat (first | (with_reducible exact Fin.done (by repeat (first | (with_reducible exact Rest.here) | apply Rest.there))) | (apply Fin.cons (by first | ((repeat (first | (with_reducible exact Find.here _) | apply Find.there)); done) | (repeat (first | exact Find.here _ | apply Find.there))))))
  · try simp only [decide_eq_true_eq, decide_eq_false_iff_not, beq_iff_eq, beq_eq_false_iff_ne, bne_iff_ne, ne_eq, Bool.not_eq_true', Bool.not_eq_false', Bool.not_eq_true, Bool.not_eq_false, Int.not_lt, Int.not_le, Decidable.not_not, bne_eq_false_iff_eq, gt_iff_lt, ge_iff_le, Bool.or_eq_true, Bool.and_eq_true] at h0
    obtain ⟨i0, rfl, hi0, hall0⟩ : ∃ i : Nat, r = i ∧ ks[i]? = some k ∧ ∀ j, j < i → ks[j]? ≠ some k := by
      rcases hri with ⟨q, _⟩ | q
      · exact absurd q h0
      · exact q
    have hil := (List.getElem?_eq_some_iff.1 hi0).1
    refine Run.skip ?_
    refine Run.seq ?_
    refine Run.sr ?_
    refine RunL.mv rfl rfl ?_
    first | refine RunL.pure (Pure.addI rfl rfl (by omega)) (Wt.none rfl) rfl rfl ?_ | refine RunL.pure (Pure.add rfl rfl) (Wt.none rfl) rfl rfl ?_
    refine RunL.as rfl rfl ?_
    refine RunL.nil ?_
    refine Run.block ?_
    refine Run.keep (.cons rfl (.cons rfl (.cons rfl (.cons rfl (.nil)))) : Keep _ [0, 1, 5, 6] _) ?_
    refine Run.loopF (F := F) (fun n e A => ∃ (j i : Nat) (L : List Key), i < j ∧ j ≤ ks.length ∧ L.length = ks.length ∧ L.take i = (ks.take j).filter (fun x => decide (x ≠ k)) ∧ L.drop j = ks.drop j ∧ n = ks.length - j ∧ e = [(0, .slice a ks.length cap), (1, .func (.func 43) #[] #[.pointer (some ⟨b, 0, none⟩)]), (5, .int .i64 (i : Nat)), (6, .int .i64 (j : Nat))] ∧ A = Sl 42 5 a ks.length cap ((L).flatMap cKey) :: F) (ks.length - (i0 + 1)) (by exact ⟨i0 + 1, i0, ks, by omega, by omega, rfl, filter_first hi0 hall0, rfl, rfl, rfl, rfl⟩) (by repeat (first | (with_reducible exact Fin.done (by repeat (first | (with_reducible exact Rest.here) | apply Rest.there))) | (apply Fin.cons (by first | ((repeat (first | (with_reducible exact Find.here _) | apply Find.there)); done) | (repeat (first | exact Find.here _ | apply Find.there)))))) ?_
    rintro n _ _ ⟨j, i, L, hij, hj, hL, htk, hdr, rfl, rfl, hA_⟩ ih
    replace hA_ := hA_.symm; subst hA_
    refine Run.seq ?_
    refine Run.sr ?_
    refine RunL.mv rfl rfl ?_
    refine RunL.mv rfl rfl ?_
    refine RunL.pure (Pure.lenSl rfl rfl und62) (Wt.none rfl) rfl rfl ?_
    refine RunL.pure (Pure.lss rfl rfl) (Wt.none rfl) rfl rfl ?_
    refine RunL.nil ?_
    refine Run.cond rfl (fun h1 => ?_) (fun h1 => ?_)
    · try simp only [decide_eq_true_eq, decide_eq_false_iff_not, beq_iff_eq, beq_eq_false_iff_ne, bne_iff_ne, ne_eq, Bool.not_eq_true', Bool.not_eq_false', Bool.not_eq_true, Bool.not_eq_false, Int.not_lt, Int.not_le, Decidable.not_not, bne_eq_false_iff_eq, gt_iff_lt, ge_iff_le, Bool.or_eq_true, Bool.and_eq_true] at h1
      obtain ⟨x, hx⟩ := get_some (xs := ks) (i := j) (by omega)
      have hLx : L[j]? = some x := by have := congrArg (fun l => l[0]?) hdr; simp only [List.getElem?_drop, Nat.add_zero] at this; rw [this, hx]
      obtain ⟨y, hy⟩ := get_some (xs := L) (i := i) (by omega)
      have hstep := take_filter_step (k := k) hx
      refine Run.openSl (a := a) (n := ks.length) (by first | ((repeat (first | (with_reducible exact Find.here _) | apply Find.there)); done) | (repeat (first | exact Find.here _ | apply Find.there))) (by omega) ?_; rintro b2 pre2 post2 rfl hsl1 hsl2 hsl3
      refine Run.skip ?_
      refine Run.seq ?_
      refine Run.block ?_
      refine Run.sr ?_
      refine RunL.mv rfl rfl ?_
      refine RunL.mv rfl rfl ?_
      refine RunL.pure (Pure.indexAddr rfl rfl und62 sz42 (by omega) (by omega)) (Wt.none rfl) rfl rfl ?_
      refine RunL.loadA (vs := (cKey x)) rfl (by first | ((repeat (first | (with_reducible exact Find.here _) | apply Find.there)); done) | (repeat (first | exact Find.here _ | apply Find.there))) agg42 sz42 (elemN_len (f := cKey) (sz := 5) (j := 0) (n := 5) (fun _ _ => rfl) hLx (by decide)) ((elemN_at (f := cKey) (sz := 5) (j := 0) (n := 5) (fun _ _ => rfl) hLx (by decide)).trans rfl) (Wt.none rfl) rfl ?_
      refine RunL.alloc zz42 (Wt.none rfl) rfl ?_; intro b7
      refine RunL.storeW (xs := (cKey x)) rfl rfl (by first | ((repeat (first | (with_reducible exact Find.here _) | apply Find.there)); done) | (repeat (first | exact Find.here _ | apply Find.there))) sz42 (by rfl) (by rfl) (by rfl) (Wt.none rfl) ?_
      refine RunL.nil ?_
      refine Run.sr ?_
      refine RunL.mv rfl rfl ?_
      first | refine RunL.loadA (vs := (cKey x)) rfl (by first | ((repeat (first | (with_reducible exact Find.here _) | apply Find.there)); done) | (repeat (first | exact Find.here _ | apply Find.there))) agg42 sz42 (by first | exact Nat.le_of_ble_eq_true rfl | (simp; done) | (simp; omega)) rfl (Wt.none rfl) rfl ?_ | refine RunL.loadNR (vs := (cKey x)) rfl (by assumption) agg42 sz42 (by first | exact Nat.le_of_ble_eq_true rfl | (simp; done) | (simp; omega)) rfl (Wt.none rfl) rfl ?_
      refine RunL.call rfl rfl (by rfl) (by repeat (first | (with_reducible exact Take.nil _) | (apply Take.cons (by first | ((repeat (first | (with_reducible exact Find.here _) | apply Find.there)); done) | (repeat (first | exact Find.here _ | apply Find.there)))))) (isKey_ctr (x := x) hr) (Wt.none rfl) rfl ?_
      rintro _ _ ⟨rfl, hA_⟩
      replace hA_ := hA_.symm; subst hA_
      refine RunL.pure (Pure.not rfl) (Wt.none rfl) rfl rfl ?_
      refine RunL.nil ?_
      refine Run.cond rfl (fun h2 => ?_) (fun h2 => ?_)
      · try simp only [decide_eq_true_eq, decide_eq_false_iff_not, beq_iff_eq, beq_eq_false_iff_ne, bne_iff_ne, ne_eq, Bool.not_eq_true', Bool.not_eq_false', Bool.not_eq_true, Bool.not_eq_false, Int.not_lt, Int.not_le, Decidable.not_not, bne_eq_false_iff_eq, gt_iff_lt, ge_iff_le, Bool.or_eq_true, Bool.and_eq_true] at h2
        refine Run.sr ?_
        refine RunL.mv rfl rfl ?_
        refine RunL.mv rfl rfl ?_
        first | refine RunL.loadA (vs := (cKey x)) rfl (by first | ((repeat (first | (with_reducible exact Find.here _) | apply Find.there)); done) | (repeat (first | exact Find.here _ | apply Find.there))) agg42 sz42 (by first | exact Nat.le_of_ble_eq_true rfl | (simp; done) | (simp; omega)) rfl (Wt.none rfl) rfl ?_ | refine RunL.loadNR (vs := (cKey x)) rfl (by assumption) agg42 sz42 (by first | exact Nat.le_of_ble_eq_true rfl | (simp; done) | (simp; omega)) rfl (Wt.none rfl) rfl ?_
        refine RunL.pure (Pure.indexAddr rfl rfl und62 sz42 (by omega) (by omega)) (Wt.none rfl) rfl rfl ?_
        refine RunL.storeA (xs := (cKey x)) rfl rfl (by first | ((repeat (first | (with_reducible exact Find.here _) | apply Find.there)); done) | (repeat (first | exact Find.here _ | apply Find.there))) sz42 (by rfl) (by rfl) (elemN_len (f := cKey) (sz := 5) (j := 0) (n := 5) (fun _ _ => rfl) hy (by decide)) (setRange_el (f := cKey) (sz := 5) (j := 0) (y := x) (fun _ _ => rfl) hy (Nat.le_of_ble_eq_true rfl) rfl) (Wt.none rfl) ?_
        refine RunL.nil ?_
        refine Run.mkSl (b := b2) (pre := pre2) (post := post2) (sz := 5) (cs := ((L.set i x)).flatMap cKey) (n := ks.length) (by first | ((repeat (first | (with_reducible exact Find.here _) | apply Find.there)); done) | (repeat (first | exact Find.here _ | apply Find.there))) (by rw [lenK, List.length_set, hL]) hsl2 hsl3 ?_
        refine Run.region ?_
        refine RunL.mv rfl rfl ?_
        first | refine RunL.pure (Pure.addI rfl rfl (by omega)) (Wt.none rfl) rfl rfl ?_ | refine RunL.pure (Pure.add rfl rfl) (Wt.none rfl) rfl rfl ?_
        refine RunL.as rfl rfl ?_
        refine RunL.nil ?_
        refine Run.inBlock ?_
        refine Run.region ?_
        refine RunL.mv rfl rfl ?_
        first | refine RunL.pure (Pure.addI rfl rfl (by omega)) (Wt.none rfl) rfl rfl ?_ | refine RunL.pure (Pure.add rfl rfl) (Wt.none rfl) rfl rfl ?_
        refine RunL.as rfl rfl ?_
        refine RunL.nil ?_
        refine Run.keep (.cons rfl (.cons rfl (.cons rfl (.cons rfl (.nil)))) : Keep _ [0, 1, 5, 6] _) ?_
        refine Run.againF (F := F) ih (by exact ⟨j + 1, i + 1, L.set i x, by omega, by omega, by rw [List.length_set, hL], by rw [hstep, if_pos (by simpa using h2), ← htk, take_set_succ (by omega)], by rw [drop_set_gt (by omega), drop_succ hdr], rfl, rfl, rfl⟩) (by repeat (first | (with_reducible exact Fin.done (by repeat (first | (with_reducible exact Rest.here) | apply Rest.there))) | (apply Fin.cons (by first | ((repeat (first | (with_reducible exact Find.here _) | apply Find.there)); done) | (repeat (first | exact Find.here _ | apply Find.there)))))) ?_
        omega
      · try simp only [decide_eq_true_eq, decide_eq_false_iff_not, beq_iff_eq, beq_eq_false_iff_ne, bne_iff_ne, ne_eq, Bool.not_eq_true', Bool.not_eq_false', Bool.not_eq_true, Bool.not_eq_false, Int.not_lt, Int.not_le, Decidable.not_not, bne_eq_false_iff_eq, gt_iff_lt, ge_iff_le, Bool.or_eq_true, Bool.and_eq_true] at h2
        refine Run.skip ?_
        refine Run.inBlock ?_
        refine Run.region ?_
        refine RunL.mv rfl rfl ?_
        first | refine RunL.pure (Pure.addI rfl rfl (by omega)) (Wt.none rfl) rfl rfl ?_ | refine RunL.pure (Pure.add rfl rfl) (Wt.none rfl) rfl rfl ?_
        refine RunL.as rfl rfl ?_
        refine RunL.nil ?_
        refine Run.mkSl (b := b2) (pre := pre2) (post := post2) (sz := 5) (cs := (L).flatMap cKey) (n := ks.length) (by first | ((repeat (first | (with_reducible exact Find.here _) | apply Find.there)); done) | (repeat (first | exact Find.here _ | apply Find.there))) hsl1 hsl2 hsl3 ?_
        refine Run.keep (.cons rfl (.cons rfl (.cons rfl (.cons rfl (.nil)))) : Keep _ [0, 1, 5, 6] _) ?_
        refine Run.againF (F := F) ih (by exact ⟨j + 1, i, L, by omega, by omega, hL, by rw [hstep, if_neg (by simpa using h2), htk, List.append_nil], drop_succ hdr, rfl, rfl, rfl⟩) (by repeat (first | (with_reducible exact Fin.done (by repeat (first | (with_reducible exact Rest.here) | apply Rest.there))) | (apply Fin.cons (by first | ((repeat (first | (with_reducible exact Find.here _) | apply Find.there)); done) | (repeat (first | exact Find.here _ | apply Find.there)))))) ?_
        omega
    · try simp only [decide_eq_true_eq, decide_eq_false_iff_not, beq_iff_eq, beq_eq_false_iff_ne, bne_iff_ne, ne_eq, Bool.not_eq_true', Bool.not_eq_false', Bool.not_eq_true, Bool.not_eq_false, Int.not_lt, Int.not_le, Decidable.not_not, bne_eq_false_iff_eq, gt_iff_lt, ge_iff_le, Bool.or_eq_true, Bool.and_eq_true] at h1
      refine Run.exit rfl ?_
      refine Run.sr ?_
      refine RunL.mv rfl rfl ?_
      refine RunL.mv rfl rfl ?_
      refine RunL.pure (Pure.sliceFrom rfl rfl und62 sz42 (by first | omega | (simp; done) | (simp; omega)) (by first | omega | (simp; done) | (simp; omega))) (Wt.none rfl) rfl rfl ?_
      refine RunL.clearTail (T := 42) (sz := 5) (n := ks.length) (cap := cap) (i := i) (a := a) (cs := L.flatMap cKey) (by first | rfl | (rw [Int.toNat_natCast]; rfl)) rfl (by first | ((repeat (first | (with_reducible exact Find.here _) | apply Find.there)); done) | (repeat (first | exact Find.here _ | apply Find.there))) und62 zz42 rfl (by decide) (by omega) (Wt.none rfl) ?_
      refine RunL.nil ?_
      refine Run.sr ?_
      refine RunL.mv rfl rfl ?_
      refine RunL.mv rfl rfl ?_
      refine RunL.pure (Pure.sliceTo rfl rfl und62 sz42 (by first | omega | (simp; done) | (simp; omega)) (by first | omega | (simp; done) | (simp; omega))) (Wt.none rfl) rfl rfl ?_
      refine RunL.as rfl rfl ?_
      refine RunL.nil ?_
      have hfl : L.take i = (ks.filter (fun x => decide (x ≠ k))) := by rw [htk, List.take_of_length_le (by omega)]
      have hlen : (ks.filter (fun x => decide (x ≠ k))).length = i := by rw [← hfl, List.length_take]; omega
      rw [Int.toNat_natCast, flatMap_takeN (f := cKey) (sz := 5) (xs := L) (fun _ _ => rfl), hfl, ← hlen]
      exact Run.ret Try.func42 (res1 rfl rfl) (by exact ⟨rfl, rfl⟩) (by repeat (first | (with_reducible exact Fin.done (by repeat (first | (with_reducible exact Rest.here) | apply Rest.there))) | (apply Fin.cons (by first | ((repeat (first | (with_reducible exact Find.here _) | apply Find.there)); done) | (repeat (first | exact Find.here _ | apply Find.there))))))

end Go.Proofs.Ytnmpbpadpkgboaa
