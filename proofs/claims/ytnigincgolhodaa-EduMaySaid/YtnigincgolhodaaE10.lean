/- What an EDU is of. -/
import Derived.Test.YtnigincgolhodaaE9
set_option linter.unusedVariables false
set_option linter.unusedSimpArgs false
set_option linter.unusedSectionVars false
namespace Go.Proofs.Ytnigincgolhodaa
open Go Csl
theorem und26 : Try.prog.underlying 26 = some (Go.TypeDesc.slice 23) := Try.underlying26
theorem fo36_0 : fieldOff Try.prog 36 0 = some 0 := by kernel_rfl
theorem fo36_1 : fieldOff Try.prog 36 1 = some 1 := by kernel_rfl
theorem fo36_2 : fieldOff Try.prog 36 2 = some 2 := by kernel_rfl
theorem fo36_3 : fieldOff Try.prog 36 3 = some 3 := by kernel_rfl
theorem fo36_4 : fieldOff Try.prog 36 4 = some 4 := by kernel_rfl

set_option maxHeartbeats 4000000 in
set_option maxRecDepth 100000 in
theorem EduKeys_ctr {G : Gp} {a b : Edu} (oa : okEdu a) (ob : okEdu b) :
    Ctr Try.prog G 4 [.agg (cEdu a).toArray, .agg (cEdu b).toArray] [] (fun F v A => v = .bool true ∧ A = F) := by
  refine Ctr.intro Try.func4 rfl (by kernel_rfl) rfl (fun F => ?_)
  simp only [List.nil_append]
  refine Run.sr ?_
  refine RunL.boxA (xs := (cEdu a)) rfl (Wt.none rfl) rfl ?_; intro b2
  refine RunL.boxA (xs := (cEdu b)) rfl (Wt.none rfl) rfl ?_; intro b3
  refine RunL.as rfl rfl ?_
  refine RunL.nil ?_
  refine Run.lendAll (Q := row b2 23 _) Lends.row (by first | ((repeat (first | (with_reducible exact Find.here _) | apply Find.there)); done) | (repeat (first | exact Find.here _ | apply Find.there))) (fun G2 hleG2 hrb2 => ?_)
  refine Run.lendAll (Q := row b3 23 _) Lends.row (by first | ((repeat (first | (with_reducible exact Find.here _) | apply Find.there)); done) | (repeat (first | exact Find.here _ | apply Find.there))) (fun G3 hleG3 hrb3 => ?_)
  replace hrb2 := hrb2.mono hleG3
  refine Run.seq ?_
  refine Run.regionD' (by kernel_rfl) (by kernel_rfl) (fun hok9 => ?_)
  refine RunD.loadNR (vs := (cEdu a)) (i := 0) hok9 rfl (by kernel_rfl) rfl (by assumption) agg23 sz23 (by first | exact Nat.le_of_ble_eq_true rfl | (simp; done) | (simp; omega)) rfl (Wt.none rfl) rfl ?_
  refine RunD.loadNR (vs := (cEdu a)) (i := 2) hok9 rfl (by kernel_rfl) rfl (by assumption) agg23 sz23 (by first | exact Nat.le_of_ble_eq_true rfl | (simp; done) | (simp; omega)) rfl (Wt.none rfl) rfl ?_
  refine RunD.loadNR (vs := (cEdu a)) (i := 4) hok9 rfl (by kernel_rfl) rfl (by assumption) agg23 sz23 (by first | exact Nat.le_of_ble_eq_true rfl | (simp; done) | (simp; omega)) rfl (Wt.none rfl) rfl ?_
  refine RunD.one (i := 1) (by kernel_rfl) rfl ?_
  refine RunL.call rfl rfl (by rfl) (by repeat (first | (with_reducible exact Take.nil _) | (apply Take.cons (by first | ((repeat (first | (with_reducible exact Find.here _) | apply Find.there)); done) | (repeat (first | exact Find.here _ | apply Find.there)))))) (Few3_ctr (e := a)) (Wt.none rfl) rfl ?_
  rintro _ _ ⟨rfl, hA_⟩
  replace hA_ := hA_.symm; subst hA_
  refine RunL.nilD' ?_
  refine RunD.one (i := 3) (by kernel_rfl) rfl ?_
  refine RunL.call rfl rfl (by rfl) (by repeat (first | (with_reducible exact Take.nil _) | (apply Take.cons (by first | ((repeat (first | (with_reducible exact Find.here _) | apply Find.there)); done) | (repeat (first | exact Find.here _ | apply Find.there)))))) (Good3_ctr (e := a) (by assumption)) (Wt.none rfl) rfl ?_
  rintro _ _ ⟨rfl, hA_⟩
  replace hA_ := hA_.symm; subst hA_
  refine RunL.nilD' ?_
  refine RunD.one (i := 5) (by kernel_rfl) rfl ?_
  refine RunL.call rfl rfl (by rfl) (by repeat (first | (with_reducible exact Take.nil _) | (apply Take.cons (by first | ((repeat (first | (with_reducible exact Find.here _) | apply Find.there)); done) | (repeat (first | exact Find.here _ | apply Find.there)))))) (Few3_ctr (e := a)) (Wt.none rfl) rfl ?_
  rintro _ _ ⟨rfl, hA_⟩
  replace hA_ := hA_.symm; subst hA_
  refine RunL.nilD' ?_
  refine RunD.one (i := 6) (by kernel_rfl) rfl ?_
  refine RunL.lit (vals := [_, _, _]) (vs := ([fewE a, goodE a, fewE a] : List Edu).flatMap cEdu) und26 sz23 zz23 rfl rfl rfl rfl rfl rfl (by simp [Value.cells, bv, cEdu, cKey]) rfl (Wt.none rfl) rfl ?_; intro b15
  refine RunL.nilD' ?_
  refine RunD.pure (i := 7) hok9 rfl (by kernel_rfl) (Pure.assign rfl) (Wt.none rfl) rfl rfl ?_
  refine RunD.nilR (by kernel_rfl) ?_
  obtain ⟨xs, xse, xsn⟩ : ∃ l : List Edu, ([fewE a, goodE a, fewE a] : List Edu).flatMap cEdu = l.flatMap cEdu ∧ l.length = 3 := ⟨[fewE a, goodE a, fewE a], rfl, rfl⟩
  rw [xse]
  refine Run.seq ?_
  refine Run.regionD' (by kernel_rfl) (by kernel_rfl) (fun hok36 => ?_)
  refine RunD.loadNR (vs := (cEdu b)) (i := 0) hok36 rfl (by kernel_rfl) rfl (by assumption) agg23 sz23 (by first | exact Nat.le_of_ble_eq_true rfl | (simp; done) | (simp; omega)) rfl (Wt.none rfl) rfl ?_
  refine RunD.loadNR (vs := (cEdu b)) (i := 2) hok36 rfl (by kernel_rfl) rfl (by assumption) agg23 sz23 (by first | exact Nat.le_of_ble_eq_true rfl | (simp; done) | (simp; omega)) rfl (Wt.none rfl) rfl ?_
  refine RunD.loadNR (vs := (cEdu b)) (i := 4) hok36 rfl (by kernel_rfl) rfl (by assumption) agg23 sz23 (by first | exact Nat.le_of_ble_eq_true rfl | (simp; done) | (simp; omega)) rfl (Wt.none rfl) rfl ?_
  refine RunD.one (i := 1) (by kernel_rfl) rfl ?_
  refine RunL.call rfl rfl (by rfl) (by repeat (first | (with_reducible exact Take.nil _) | (apply Take.cons (by first | ((repeat (first | (with_reducible exact Find.here _) | apply Find.there)); done) | (repeat (first | exact Find.here _ | apply Find.there)))))) (Few3_ctr (e := b)) (Wt.none rfl) rfl ?_
  rintro _ _ ⟨rfl, hA_⟩
  replace hA_ := hA_.symm; subst hA_
  refine RunL.nilD' ?_
  refine RunD.one (i := 3) (by kernel_rfl) rfl ?_
  refine RunL.call rfl rfl (by rfl) (by repeat (first | (with_reducible exact Take.nil _) | (apply Take.cons (by first | ((repeat (first | (with_reducible exact Find.here _) | apply Find.there)); done) | (repeat (first | exact Find.here _ | apply Find.there)))))) (Good3_ctr (e := b) (by assumption)) (Wt.none rfl) rfl ?_
  rintro _ _ ⟨rfl, hA_⟩
  replace hA_ := hA_.symm; subst hA_
  refine RunL.nilD' ?_
  refine RunD.one (i := 5) (by kernel_rfl) rfl ?_
  refine RunL.call rfl rfl (by rfl) (by repeat (first | (with_reducible exact Take.nil _) | (apply Take.cons (by first | ((repeat (first | (with_reducible exact Find.here _) | apply Find.there)); done) | (repeat (first | exact Find.here _ | apply Find.there)))))) (Good3_ctr (e := b) (by assumption)) (Wt.none rfl) rfl ?_
  rintro _ _ ⟨rfl, hA_⟩
  replace hA_ := hA_.symm; subst hA_
  refine RunL.nilD' ?_
  refine RunD.one (i := 6) (by kernel_rfl) rfl ?_
  refine RunL.lit (vals := [_, _, _]) (vs := ([fewE b, goodE b, goodE b] : List Edu).flatMap cEdu) und26 sz23 zz23 rfl rfl rfl rfl rfl rfl (by simp [Value.cells, bv, cEdu, cKey]) rfl (Wt.none rfl) rfl ?_; intro b22
  refine RunL.nilD' ?_
  refine RunD.pure (i := 7) hok36 rfl (by kernel_rfl) (Pure.assign rfl) (Wt.none rfl) rfl rfl ?_
  refine RunD.nilR (by kernel_rfl) ?_
  obtain ⟨ys, yse, ysn⟩ : ∃ l : List Edu, ([fewE b, goodE b, goodE b] : List Edu).flatMap cEdu = l.flatMap cEdu ∧ l.length = 3 := ⟨[fewE b, goodE b, goodE b], rfl, rfl⟩
  rw [yse]
  refine Run.lendAll (Q := Sl 23 11 (some ⟨b15, 0, none⟩) 3 3 (xs.flatMap cEdu)) (Lends.litRow (n := 3)) (by first | ((repeat (first | (with_reducible exact Find.here _) | apply Find.there)); done) | (repeat (first | exact Find.here _ | apply Find.there))) (fun Ghx30 hleGhx30 hx30 => ?_)
  replace hrb2 := hrb2.mono hleGhx30
  replace hrb3 := hrb3.mono hleGhx30
  obtain ⟨posthx3, hx3⟩ := hx30
  refine Run.lendAll (Q := Sl 23 11 (some ⟨b22, 0, none⟩) 3 3 (ys.flatMap cEdu)) (Lends.litRow (n := 3)) (by first | ((repeat (first | (with_reducible exact Find.here _) | apply Find.there)); done) | (repeat (first | exact Find.here _ | apply Find.there))) (fun Ghy30 hleGhy30 hy30 => ?_)
  replace hrb2 := hrb2.mono hleGhy30
  replace hrb3 := hrb3.mono hleGhy30
  replace hx3 := hx3.mono hleGhy30
  obtain ⟨posthy3, hy3⟩ := hy30
  refine Run.seq ?_
  refine Run.sr ?_
  refine RunL.as rfl rfl ?_
  refine RunL.nil ?_
  refine Run.block ?_
  refine Run.keep (.cons rfl (.cons rfl (.cons rfl (.nil))) : Keep _ [5, 6, 7] _) ?_
  refine Run.loopF (F := F) (fun n e A => ∃ i : Nat, i ≤ 3 ∧ n = 3 - i ∧ e = [(5, .slice (some ⟨b15, 0, none⟩) 3 3), (6, .slice (some ⟨b22, 0, none⟩) 3 3), (7, .int .i64 (i : Nat))] ∧ A = F) (3) (by exact ⟨0, by omega, rfl, rfl, rfl⟩) (by repeat (first | (with_reducible exact Fin.done (by repeat (first | (with_reducible exact Rest.here) | apply Rest.there))) | (apply Fin.cons (by first | ((repeat (first | (with_reducible exact Find.here _) | apply Find.there)); done) | (repeat (first | exact Find.here _ | apply Find.there)))))) ?_
  rintro n _ _ ⟨i, hi, rfl, rfl, hA_⟩ ih
  replace hA_ := hA_.symm; subst hA_
  refine Run.seq ?_
  refine Run.sr ?_
  refine RunL.mv rfl rfl ?_
  refine RunL.pure (Pure.lss rfl rfl) (Wt.none rfl) rfl rfl ?_
  refine RunL.nil ?_
  refine Run.cond rfl (fun hi3 => ?_) (fun hi3 => ?_)
  · try simp only [decide_eq_true_eq, decide_eq_false_iff_not, beq_iff_eq, beq_eq_false_iff_ne, bne_iff_ne, ne_eq, Bool.not_eq_true', Bool.not_eq_false', Bool.not_eq_true, Bool.not_eq_false, Int.not_lt, Int.not_le, Decidable.not_not, bne_eq_false_iff_eq, gt_iff_lt, ge_iff_le, Bool.or_eq_true, Bool.and_eq_true] at hi3
    obtain ⟨x, hx⟩ := get_some (xs := xs) (i := i) (by omega)
    obtain ⟨y, hy⟩ := get_some (xs := ys) (i := i) (by omega)
    refine Run.skip ?_
    refine Run.seq ?_
    refine Run.block ?_
    refine Run.sr ?_
    refine RunL.mv rfl rfl ?_
    refine RunL.mv rfl rfl ?_
    refine RunL.pure (Pure.indexAddr rfl rfl und26 sz23 (by omega) (by omega)) (Wt.none rfl) rfl rfl ?_
    refine RunL.loadNR (vs := (cEdu x)) rfl hx3 agg23 sz23 (elemN_len (pre := []) (post := posthx3) (f := cEdu) (sz := 11) (j := 0) (n := 11) (fun _ _ => rfl) hx (by decide)) ((elemN_at (pre := []) (post := posthx3) (f := cEdu) (sz := 11) (j := 0) (n := 11) (fun _ _ => rfl) hx (by decide)).trans rfl) (Wt.none rfl) rfl ?_
    refine RunL.call rfl rfl (by rfl) (by repeat (first | (with_reducible exact Take.nil _) | (apply Take.cons (by first | ((repeat (first | (with_reducible exact Find.here _) | apply Find.there)); done) | (repeat (first | exact Find.here _ | apply Find.there)))))) (Of_ctr (e := x)) (Wt.none rfl) rfl ?_
    rintro _ _ ⟨rfl, hA_⟩
    replace hA_ := hA_.symm; subst hA_
    refine RunL.alloc zz36 (Wt.none rfl) rfl ?_; intro b8
    refine RunL.storeW (xs := (cKey (eKey (x)))) rfl rfl (by first | ((repeat (first | (with_reducible exact Find.here _) | apply Find.there)); done) | (repeat (first | exact Find.here _ | apply Find.there))) sz36 (by rfl) (by rfl) (by rfl) (Wt.none rfl) ?_
    refine RunL.nil ?_
    refine Run.seq ?_
    refine Run.regionD' (by kernel_rfl) (by kernel_rfl) (fun hok104 => ?_)
    refine RunD.lend (Q := row b8 36 _) Lends.row (by first | ((repeat (first | (with_reducible exact Find.here _) | apply Find.there)); done) | (repeat (first | exact Find.here _ | apply Find.there))) ?_; intro gl1 hlegl1 hl1 backgl1
    have hrb2_gl1 := hrb2.mono hlegl1
    have hrb3_gl1 := hrb3.mono hlegl1
    have hx3_gl1 := hx3.mono hlegl1
    have hy3_gl1 := hy3.mono hlegl1
    refine RunD.pure (i := 0) hok104 rfl (by kernel_rfl) (Pure.fieldAddr rfl fo36_0) (Wt.none rfl) rfl rfl ?_
    refine RunD.load1R (i := 1) hok104 rfl (by kernel_rfl) rfl (by assumption) (by rfl) agg3 (Wt.none rfl) rfl ?_
    refine RunD.pure (i := 2) hok104 rfl (by kernel_rfl) (Pure.move rfl) (Wt.none rfl) rfl rfl ?_
    refine RunD.pure (i := 3) hok104 rfl (by kernel_rfl) (Pure.move rfl) (Wt.none rfl) rfl rfl ?_
    refine RunD.pure (i := 4) hok104 rfl (by kernel_rfl) (Pure.indexAddr rfl rfl und26 sz23 (by omega) (by omega)) (Wt.none rfl) rfl rfl ?_
    refine RunD.pure (i := 5) hok104 rfl (by kernel_rfl) (Pure.fieldAddr rfl fo23_0) (Wt.none rfl) rfl rfl ?_
    refine RunD.load1R (i := 6) hok104 rfl (by kernel_rfl) rfl hx3_gl1 ((elem_at (pre := []) (post := posthx3) (f := cEdu) (sz := 11) (j := 0) (fun _ _ => rfl) hx (by decide)).trans rfl) agg3 (Wt.none rfl) rfl ?_
    refine RunD.pure (i := 7) hok104 rfl (by kernel_rfl) (Pure.neq rfl rfl) (Wt.none rfl) rfl rfl ?_
    refine RunD.pure (i := 8) hok104 rfl (by kernel_rfl) (Pure.move rfl) (Wt.none rfl) rfl rfl ?_
    refine RunD.split (d := 40) rfl (fun hg1 => ?_) (fun hg1 => ?_)
    · try simp only [decide_eq_true_eq, decide_eq_false_iff_not, beq_iff_eq, beq_eq_false_iff_ne, bne_iff_ne, ne_eq, Bool.not_eq_true', Bool.not_eq_false', Bool.not_eq_true, Bool.not_eq_false, Int.not_lt, Int.not_le, Decidable.not_not, bne_eq_false_iff_eq, gt_iff_lt, ge_iff_le, Bool.or_eq_true, Bool.and_eq_true] at hg1
      exfalso
      first | exact hg1 rfl | exact absurd hg1 (by simp [eKey]) | (simp [eKey] at hg1; done)
    try simp only [decide_eq_true_eq, decide_eq_false_iff_not, beq_iff_eq, beq_eq_false_iff_ne, bne_iff_ne, ne_eq, Bool.not_eq_true', Bool.not_eq_false', Bool.not_eq_true, Bool.not_eq_false, Int.not_lt, Int.not_le, Decidable.not_not, bne_eq_false_iff_eq, gt_iff_lt, ge_iff_le, Bool.or_eq_true, Bool.and_eq_true] at hg1
    refine RunD.pure (i := 9) hok104 rfl (by kernel_rfl) (Pure.fieldAddr rfl fo36_1) (Wt.yes rfl rfl rfl) rfl rfl ?_
    refine RunD.load1R (i := 10) hok104 rfl (by kernel_rfl) rfl (by assumption) (by rfl) agg9 (Wt.yes rfl rfl rfl) rfl ?_
    refine RunD.pure (i := 11) hok104 rfl (by kernel_rfl) (Pure.move rfl) (Wt.yes rfl rfl rfl) rfl rfl ?_
    refine RunD.pure (i := 12) hok104 rfl (by kernel_rfl) (Pure.move rfl) (Wt.yes rfl rfl rfl) rfl rfl ?_
    refine RunD.pure (i := 13) hok104 rfl (by kernel_rfl) (Pure.indexAddr rfl rfl und26 sz23 (by omega) (by omega)) (Wt.yes rfl rfl rfl) rfl rfl ?_
    refine RunD.pure (i := 14) hok104 rfl (by kernel_rfl) (Pure.fieldAddr rfl fo23_1) (Wt.yes rfl rfl rfl) rfl rfl ?_
    refine RunD.load1R (i := 15) hok104 rfl (by kernel_rfl) rfl hx3_gl1 ((elem_at (pre := []) (post := posthx3) (f := cEdu) (sz := 11) (j := 1) (fun _ _ => rfl) hx (by decide)).trans rfl) agg9 (Wt.yes rfl rfl rfl) rfl ?_
    refine RunD.pure (i := 16) hok104 rfl (by kernel_rfl) (Pure.sneq rfl rfl) (Wt.yes rfl rfl rfl) rfl rfl ?_
    refine RunD.pure (i := 17) hok104 rfl (by kernel_rfl) (Pure.pickF rfl rfl) (Wt.none rfl) rfl rfl ?_
    refine RunD.pure (i := 18) hok104 rfl (by kernel_rfl) (Pure.move rfl) (Wt.none rfl) rfl rfl ?_
    refine RunD.split (d := 50) rfl (fun hg2 => ?_) (fun hg2 => ?_)
    · try simp only [decide_eq_true_eq, decide_eq_false_iff_not, beq_iff_eq, beq_eq_false_iff_ne, bne_iff_ne, ne_eq, Bool.not_eq_true', Bool.not_eq_false', Bool.not_eq_true, Bool.not_eq_false, Int.not_lt, Int.not_le, Decidable.not_not, bne_eq_false_iff_eq, gt_iff_lt, ge_iff_le, Bool.or_eq_true, Bool.and_eq_true] at hg2
      exfalso
      first | exact hg2 rfl | exact absurd hg2 (by simp [eKey]) | (simp [eKey] at hg2; done)
    try simp only [decide_eq_true_eq, decide_eq_false_iff_not, beq_iff_eq, beq_eq_false_iff_ne, bne_iff_ne, ne_eq, Bool.not_eq_true', Bool.not_eq_false', Bool.not_eq_true, Bool.not_eq_false, Int.not_lt, Int.not_le, Decidable.not_not, bne_eq_false_iff_eq, gt_iff_lt, ge_iff_le, Bool.or_eq_true, Bool.and_eq_true] at hg2
    refine RunD.pure (i := 19) hok104 rfl (by kernel_rfl) (Pure.fieldAddr rfl fo36_2) (Wt.yes rfl rfl rfl) rfl rfl ?_
    refine RunD.load1R (i := 20) hok104 rfl (by kernel_rfl) rfl (by assumption) (by rfl) agg9 (Wt.yes rfl rfl rfl) rfl ?_
    refine RunD.pure (i := 21) hok104 rfl (by kernel_rfl) (Pure.move rfl) (Wt.yes rfl rfl rfl) rfl rfl ?_
    refine RunD.pure (i := 22) hok104 rfl (by kernel_rfl) (Pure.move rfl) (Wt.yes rfl rfl rfl) rfl rfl ?_
    refine RunD.pure (i := 23) hok104 rfl (by kernel_rfl) (Pure.indexAddr rfl rfl und26 sz23 (by omega) (by omega)) (Wt.yes rfl rfl rfl) rfl rfl ?_
    refine RunD.pure (i := 24) hok104 rfl (by kernel_rfl) (Pure.fieldAddr rfl fo23_2) (Wt.yes rfl rfl rfl) rfl rfl ?_
    refine RunD.load1R (i := 25) hok104 rfl (by kernel_rfl) rfl hx3_gl1 ((elem_at (pre := []) (post := posthx3) (f := cEdu) (sz := 11) (j := 2) (fun _ _ => rfl) hx (by decide)).trans rfl) agg9 (Wt.yes rfl rfl rfl) rfl ?_
    refine RunD.pure (i := 26) hok104 rfl (by kernel_rfl) (Pure.sneq rfl rfl) (Wt.yes rfl rfl rfl) rfl rfl ?_
    refine RunD.pure (i := 27) hok104 rfl (by kernel_rfl) (Pure.pickF rfl rfl) (Wt.none rfl) rfl rfl ?_
    refine RunD.pure (i := 28) hok104 rfl (by kernel_rfl) (Pure.move rfl) (Wt.none rfl) rfl rfl ?_
    refine RunD.split (d := 60) rfl (fun hg3 => ?_) (fun hg3 => ?_)
    · try simp only [decide_eq_true_eq, decide_eq_false_iff_not, beq_iff_eq, beq_eq_false_iff_ne, bne_iff_ne, ne_eq, Bool.not_eq_true', Bool.not_eq_false', Bool.not_eq_true, Bool.not_eq_false, Int.not_lt, Int.not_le, Decidable.not_not, bne_eq_false_iff_eq, gt_iff_lt, ge_iff_le, Bool.or_eq_true, Bool.and_eq_true] at hg3
      exfalso
      first | exact hg3 rfl | exact absurd hg3 (by simp [eKey]) | (simp [eKey] at hg3; done)
    try simp only [decide_eq_true_eq, decide_eq_false_iff_not, beq_iff_eq, beq_eq_false_iff_ne, bne_iff_ne, ne_eq, Bool.not_eq_true', Bool.not_eq_false', Bool.not_eq_true, Bool.not_eq_false, Int.not_lt, Int.not_le, Decidable.not_not, bne_eq_false_iff_eq, gt_iff_lt, ge_iff_le, Bool.or_eq_true, Bool.and_eq_true] at hg3
    refine RunD.pure (i := 29) hok104 rfl (by kernel_rfl) (Pure.fieldAddr rfl fo36_3) (Wt.yes rfl rfl rfl) rfl rfl ?_
    refine RunD.load1R (i := 30) hok104 rfl (by kernel_rfl) rfl (by assumption) (by rfl) agg9 (Wt.yes rfl rfl rfl) rfl ?_
    refine RunD.pure (i := 31) hok104 rfl (by kernel_rfl) (Pure.move rfl) (Wt.yes rfl rfl rfl) rfl rfl ?_
    refine RunD.pure (i := 32) hok104 rfl (by kernel_rfl) (Pure.move rfl) (Wt.yes rfl rfl rfl) rfl rfl ?_
    refine RunD.pure (i := 33) hok104 rfl (by kernel_rfl) (Pure.indexAddr rfl rfl und26 sz23 (by omega) (by omega)) (Wt.yes rfl rfl rfl) rfl rfl ?_
    refine RunD.pure (i := 34) hok104 rfl (by kernel_rfl) (Pure.fieldAddr rfl fo23_4) (Wt.yes rfl rfl rfl) rfl rfl ?_
    refine RunD.load1R (i := 35) hok104 rfl (by kernel_rfl) rfl hx3_gl1 ((elem_at (pre := []) (post := posthx3) (f := cEdu) (sz := 11) (j := 4) (fun _ _ => rfl) hx (by decide)).trans rfl) agg9 (Wt.yes rfl rfl rfl) rfl ?_
    refine RunD.pure (i := 36) hok104 rfl (by kernel_rfl) (Pure.sneq rfl rfl) (Wt.yes rfl rfl rfl) rfl rfl ?_
    refine RunD.pure (i := 37) hok104 rfl (by kernel_rfl) (Pure.pickF rfl rfl) (Wt.none rfl) rfl rfl ?_
    refine RunD.pure (i := 38) hok104 rfl (by kernel_rfl) (Pure.move rfl) (Wt.none rfl) rfl rfl ?_
    refine RunD.split (d := 70) rfl (fun hg4 => ?_) (fun hg4 => ?_)
    · try simp only [decide_eq_true_eq, decide_eq_false_iff_not, beq_iff_eq, beq_eq_false_iff_ne, bne_iff_ne, ne_eq, Bool.not_eq_true', Bool.not_eq_false', Bool.not_eq_true, Bool.not_eq_false, Int.not_lt, Int.not_le, Decidable.not_not, bne_eq_false_iff_eq, gt_iff_lt, ge_iff_le, Bool.or_eq_true, Bool.and_eq_true] at hg4
      exfalso
      first | exact hg4 rfl | exact absurd hg4 (by simp [eKey]) | (simp [eKey] at hg4; done)
    try simp only [decide_eq_true_eq, decide_eq_false_iff_not, beq_iff_eq, beq_eq_false_iff_ne, bne_iff_ne, ne_eq, Bool.not_eq_true', Bool.not_eq_false', Bool.not_eq_true, Bool.not_eq_false, Int.not_lt, Int.not_le, Decidable.not_not, bne_eq_false_iff_eq, gt_iff_lt, ge_iff_le, Bool.or_eq_true, Bool.and_eq_true] at hg4
    refine RunD.pure (i := 39) hok104 rfl (by kernel_rfl) (Pure.fieldAddr rfl fo36_4) (Wt.yes rfl rfl rfl) rfl rfl ?_
    refine RunD.load1R (i := 40) hok104 rfl (by kernel_rfl) rfl (by assumption) (by rfl) agg4 (Wt.yes rfl rfl rfl) rfl ?_
    refine RunD.pure (i := 41) hok104 rfl (by kernel_rfl) (Pure.move rfl) (Wt.yes rfl rfl rfl) rfl rfl ?_
    refine RunD.pure (i := 42) hok104 rfl (by kernel_rfl) (Pure.move rfl) (Wt.yes rfl rfl rfl) rfl rfl ?_
    refine RunD.pure (i := 43) hok104 rfl (by kernel_rfl) (Pure.indexAddr rfl rfl und26 sz23 (by omega) (by omega)) (Wt.yes rfl rfl rfl) rfl rfl ?_
    refine RunD.pure (i := 44) hok104 rfl (by kernel_rfl) (Pure.fieldAddr rfl fo23_5) (Wt.yes rfl rfl rfl) rfl rfl ?_
    refine RunD.load1R (i := 45) hok104 rfl (by kernel_rfl) rfl hx3_gl1 ((elem_at (pre := []) (post := posthx3) (f := cEdu) (sz := 11) (j := 5) (fun _ _ => rfl) hx (by decide)).trans rfl) agg4 (Wt.yes rfl rfl rfl) rfl ?_
    refine RunD.pure (i := 46) hok104 rfl (by kernel_rfl) (Pure.bneq rfl rfl und4) (Wt.yes rfl rfl rfl) rfl rfl ?_
    refine RunD.pure (i := 47) hok104 rfl (by kernel_rfl) (Pure.pickF rfl rfl) (Wt.none rfl) rfl rfl ?_
    refine RunD.pure (i := 48) hok104 rfl (by kernel_rfl) (Pure.move rfl) (Wt.none rfl) rfl rfl ?_
    refine RunD.split (d := 80) rfl (fun hg5 => ?_) (fun hg5 => ?_)
    · try simp only [decide_eq_true_eq, decide_eq_false_iff_not, beq_iff_eq, beq_eq_false_iff_ne, bne_iff_ne, ne_eq, Bool.not_eq_true', Bool.not_eq_false', Bool.not_eq_true, Bool.not_eq_false, Int.not_lt, Int.not_le, Decidable.not_not, bne_eq_false_iff_eq, gt_iff_lt, ge_iff_le, Bool.or_eq_true, Bool.and_eq_true] at hg5
      exfalso
      first | exact hg5 rfl | exact absurd hg5 (by simp [eKey]) | (simp [eKey] at hg5; done)
    try simp only [decide_eq_true_eq, decide_eq_false_iff_not, beq_iff_eq, beq_eq_false_iff_ne, bne_iff_ne, ne_eq, Bool.not_eq_true', Bool.not_eq_false', Bool.not_eq_true, Bool.not_eq_false, Int.not_lt, Int.not_le, Decidable.not_not, bne_eq_false_iff_eq, gt_iff_lt, ge_iff_le, Bool.or_eq_true, Bool.and_eq_true] at hg5
    refine RunD.loadNR (vs := (cKey (eKey (x)))) (i := 49) hok104 rfl (by kernel_rfl) rfl (by assumption) agg36 sz36 (by first | exact Nat.le_of_ble_eq_true rfl | (simp; done) | (simp; omega)) rfl (Wt.yes rfl rfl rfl) rfl ?_
    refine RunD.pure (i := 50) hok104 rfl (by kernel_rfl) (Pure.move rfl) (Wt.yes rfl rfl rfl) rfl rfl ?_
    refine RunD.pure (i := 51) hok104 rfl (by kernel_rfl) (Pure.move rfl) (Wt.yes rfl rfl rfl) rfl rfl ?_
    refine RunD.pure (i := 52) hok104 rfl (by kernel_rfl) (Pure.indexAddr rfl rfl und26 sz23 (by omega) (by omega)) (Wt.yes rfl rfl rfl) rfl rfl ?_
    refine RunD.loadNR (vs := (cEdu y)) (i := 53) hok104 rfl (by kernel_rfl) rfl hy3_gl1 agg23 sz23 (elemN_len (pre := []) (post := posthy3) (f := cEdu) (sz := 11) (j := 0) (n := 11) (fun _ _ => rfl) hy (by decide)) ((elemN_at (pre := []) (post := posthy3) (f := cEdu) (sz := 11) (j := 0) (n := 11) (fun _ _ => rfl) hy (by decide)).trans rfl) (Wt.yes rfl rfl rfl) rfl ?_
    refine RunD.pure (i := 56) hok104 rfl (by kernel_rfl) (Pure.move rfl) (Wt.yes rfl rfl rfl) rfl rfl ?_
    refine RunD.pure (i := 57) hok104 rfl (by kernel_rfl) (Pure.move rfl) (Wt.yes rfl rfl rfl) rfl rfl ?_
    refine RunD.pure (i := 58) hok104 rfl (by kernel_rfl) (Pure.indexAddr rfl rfl und26 sz23 (by omega) (by omega)) (Wt.yes rfl rfl rfl) rfl rfl ?_
    refine RunD.loadNR (vs := (cEdu x)) (i := 59) hok104 rfl (by kernel_rfl) rfl hx3_gl1 agg23 sz23 (elemN_len (pre := []) (post := posthx3) (f := cEdu) (sz := 11) (j := 0) (n := 11) (fun _ _ => rfl) hx (by decide)) ((elemN_at (pre := []) (post := posthx3) (f := cEdu) (sz := 11) (j := 0) (n := 11) (fun _ _ => rfl) hx (by decide)).trans rfl) (Wt.yes rfl rfl rfl) rfl ?_
    refine RunD.pure (i := 60) hok104 rfl (by kernel_rfl) (Pure.move rfl) (Wt.yes rfl rfl rfl) rfl rfl ?_
    refine RunD.pure (i := 61) hok104 rfl (by kernel_rfl) (Pure.move rfl) (Wt.yes rfl rfl rfl) rfl rfl ?_
    refine RunD.pure (i := 62) hok104 rfl (by kernel_rfl) (Pure.indexAddr rfl rfl und26 sz23 (by omega) (by omega)) (Wt.yes rfl rfl rfl) rfl rfl ?_
    refine RunD.loadNR (vs := (cEdu y)) (i := 63) hok104 rfl (by kernel_rfl) rfl hy3_gl1 agg23 sz23 (elemN_len (pre := []) (post := posthy3) (f := cEdu) (sz := 11) (j := 0) (n := 11) (fun _ _ => rfl) hy (by decide)) ((elemN_at (pre := []) (post := posthy3) (f := cEdu) (sz := 11) (j := 0) (n := 11) (fun _ _ => rfl) hy (by decide)).trans rfl) (Wt.yes rfl rfl rfl) rfl ?_
    refine RunD.one (i := 54) (by kernel_rfl) rfl ?_
    refine RunL.call rfl rfl (by rfl) (by repeat (first | (with_reducible exact Take.nil _) | (apply Take.cons (by first | ((repeat (first | (with_reducible exact Find.here _) | apply Find.there)); done) | (repeat (first | exact Find.here _ | apply Find.there)))))) (Of_ctr (e := y)) (Wt.yes rfl rfl rfl) rfl ?_
    rintro _ _ ⟨rfl, hA_⟩
    replace hA_ := hA_.symm; subst hA_
    refine RunL.nilD' ?_
    refine RunD.pure (i := 55) hok104 rfl (by kernel_rfl) (Pure.aeql rfl rfl eqg36 (eqv36 (eKey (x)) (eKey (y))) (by decide)) (Wt.yes rfl rfl rfl) rfl rfl ?_
    refine RunD.one (i := 64) (by kernel_rfl) rfl ?_
    refine RunL.call rfl rfl (by rfl) (by repeat (first | (with_reducible exact Take.nil _) | (apply Take.cons (by first | ((repeat (first | (with_reducible exact Find.here _) | apply Find.there)); done) | (repeat (first | exact Find.here _ | apply Find.there)))))) (Same3_ctr) (Wt.yes rfl rfl rfl) rfl ?_
    rintro _ _ ⟨rfl, hA_⟩
    replace hA_ := hA_.symm; subst hA_
    refine RunL.nilD' ?_
    refine RunD.pure (i := 65) hok104 rfl (by kernel_rfl) (Pure.bneq rfl rfl und4) (Wt.yes rfl rfl rfl) rfl rfl ?_
    refine RunD.pure (i := 66) hok104 rfl (by kernel_rfl) (Pure.pickF rfl rfl) (Wt.none rfl) rfl rfl ?_
    refine RunD.nilB (by kernel_rfl) (fun w sw => backgl1 _ _ (sw)) ?_
    refine Run.cond rfl (fun hc6 => ?_) (fun hc6 => ?_)
    · try simp only [decide_eq_true_eq, decide_eq_false_iff_not, beq_iff_eq, beq_eq_false_iff_ne, bne_iff_ne, ne_eq, Bool.not_eq_true', Bool.not_eq_false', Bool.not_eq_true, Bool.not_eq_false, Int.not_lt, Int.not_le, Decidable.not_not, bne_eq_false_iff_eq, gt_iff_lt, ge_iff_le, Bool.or_eq_true, Bool.and_eq_true] at hc6
      exfalso
      first | exact hc6 rfl | exact absurd hc6 (by simp [eKey]) | (simp [eKey] at hc6; done)
    try simp only [decide_eq_true_eq, decide_eq_false_iff_not, beq_iff_eq, beq_eq_false_iff_ne, bne_iff_ne, ne_eq, Bool.not_eq_true', Bool.not_eq_false', Bool.not_eq_true, Bool.not_eq_false, Int.not_lt, Int.not_le, Decidable.not_not, bne_eq_false_iff_eq, gt_iff_lt, ge_iff_le, Bool.or_eq_true, Bool.and_eq_true] at hc6
    refine Run.skip ?_
    refine Run.inBlock ?_
    refine Run.region ?_
    refine RunL.mv rfl rfl ?_
    first | refine RunL.pure (Pure.addI rfl rfl (by omega)) (Wt.none rfl) rfl rfl ?_ | refine RunL.pure (Pure.add rfl rfl) (Wt.none rfl) rfl rfl ?_
    refine RunL.as rfl rfl ?_
    refine RunL.nil ?_
    refine Run.keep (.cons rfl (.cons rfl (.cons rfl (.nil))) : Keep _ [5, 6, 7] _) ?_
    refine Run.againF (F := F) ih (by exact ⟨i + 1, by omega, rfl, rfl, rfl⟩) (by repeat (first | (with_reducible exact Fin.done (by repeat (first | (with_reducible exact Rest.here) | apply Rest.there))) | (apply Fin.cons (by first | ((repeat (first | (with_reducible exact Find.here _) | apply Find.there)); done) | (repeat (first | exact Find.here _ | apply Find.there)))))) ?_
    omega
  · try simp only [decide_eq_true_eq, decide_eq_false_iff_not, beq_iff_eq, beq_eq_false_iff_ne, bne_iff_ne, ne_eq, Bool.not_eq_true', Bool.not_eq_false', Bool.not_eq_true, Bool.not_eq_false, Int.not_lt, Int.not_le, Decidable.not_not, bne_eq_false_iff_eq, gt_iff_lt, ge_iff_le, Bool.or_eq_true, Bool.and_eq_true] at hi3
    refine Run.exit rfl ?_
    refine Run.sr ?_
    refine RunL.call rfl rfl (by rfl) (by repeat (first | (with_reducible exact Take.nil _) | (apply Take.cons (by first | ((repeat (first | (with_reducible exact Find.here _) | apply Find.there)); done) | (repeat (first | exact Find.here _ | apply Find.there)))))) (lives_ctr) (Wt.none rfl) rfl ?_
    rintro _ _ ⟨rfl, hA_⟩
    replace hA_ := hA_.symm; subst hA_
    refine RunL.as rfl rfl ?_
    refine RunL.nil ?_
    exact Run.ret Try.func4 (res1 rfl rfl) (by exact ⟨rfl, rfl⟩) (by repeat (first | (with_reducible exact Fin.done (by repeat (first | (with_reducible exact Rest.here) | apply Rest.there))) | (apply Fin.cons (by first | ((repeat (first | (with_reducible exact Find.here _) | apply Find.there)); done) | (repeat (first | exact Find.here _ | apply Find.there))))))

end Go.Proofs.Ytnigincgolhodaa
