/- What is written is read as it was. -/
import Derived.Test.YtnigincgolhodaaE8
set_option linter.unusedVariables false
set_option linter.unusedSimpArgs false
set_option linter.unusedSectionVars false
namespace Go.Proofs.Ytnigincgolhodaa
open Go Csl
theorem cb25 : Callable Try.prog 25 := ⟨_, Try.func25, by kernel_rfl, by kernel_rfl⟩

namespace Csl
theorem eduBytes_len {e : Edu} (hs : eduSmall e) (hn : NumsOk e) : (eduBytes e).length ≤ 1000000 := by
  obtain ⟨s1, s2, s3, s4⟩ := hs
  obtain ⟨h1, h2, h3, h4, h5⟩ := hn
  have n1 := numN_le e.kind.toNat (by omega); have n2 := numN_le e.span.toNat (by omega); have n3 := numN_le e.state.toNat (by omega); have n4 := numN_le e.tick.toNat (by omega); have n5 := numN_le e.stamp.toNat (by omega)
  have t1 := txt_len s1; have t2 := txt_len s2; have t3 := txt_len s3; have t4 := txt_len s4
  unfold eduBytes eduTexts eduNums flg
  simp only [List.length_append, List.flatMap_cons, List.flatMap_nil, List.length_nil, List.length_cons]
  omega
end Csl

set_option maxHeartbeats 4000000 in
set_option maxRecDepth 100000 in
theorem EduRound_ctr {G : Gp} {a b : Edu} (oa : okEdu a) (ob : okEdu b) :
    Ctr Try.prog G 8 [.agg (cEdu a).toArray, .agg (cEdu b).toArray] [] (fun F v A => v = .bool true ∧ A = F) := by
  refine Ctr.intro Try.func8 rfl (by kernel_rfl) rfl (fun F => ?_)
  simp only [List.nil_append]
  have hspubEa : eduSmall (pubE a) := pub_small a
  have hopubEa : okEdu (pubE a) := pub_ok a
  have hspubEb : eduSmall (pubE b) := pub_small b
  have hopubEb : okEdu (pubE b) := pub_ok b
  have hma := pub_may a
  have hmb := pub_may b
  have hij := pub_inj a b
  obtain ⟨m1, m2, m3, m4⟩ := may_lens hma
  rw [bl_length] at m1 m2 m3 m4
  have hrd := rdE_bytes (most := 34) rfl (pub_nums a) (pub_small a) (by omega)
  have hfin : finE (rdE 34 (eduBytes (pubE a))) = (pubE a, 0) := by rw [hrd, finE, if_pos ⟨rfl, hma⟩]
  have hlb := eduBytes_len (pub_small a) (pub_nums a)
  refine Run.sr ?_
  refine RunL.boxA (xs := (cEdu a)) rfl (Wt.none rfl) rfl ?_; intro b2
  refine RunL.boxA (xs := (cEdu b)) rfl (Wt.none rfl) rfl ?_; intro b3
  refine RunL.as rfl rfl ?_
  refine RunL.nil ?_
  refine Run.lendAll (Q := row b2 23 _) Lends.row (by first | ((repeat (first | (with_reducible exact Find.here _) | apply Find.there)); done) | (repeat (first | exact Find.here _ | apply Find.there))) (fun G2 hleG2 hrb2 => ?_)
  refine Run.lendAll (Q := row b3 23 _) Lends.row (by first | ((repeat (first | (with_reducible exact Find.here _) | apply Find.there)); done) | (repeat (first | exact Find.here _ | apply Find.there))) (fun G3 hleG3 hrb3 => ?_)
  replace hrb2 := hrb2.mono hleG3
  refine Run.sr ?_
  first | refine RunL.loadA (vs := (cEdu a)) rfl (by first | ((repeat (first | (with_reducible exact Find.here _) | apply Find.there)); done) | (repeat (first | exact Find.here _ | apply Find.there))) agg23 sz23 (by first | exact Nat.le_of_ble_eq_true rfl | (simp; done) | (simp; omega)) rfl (Wt.none rfl) rfl ?_ | refine RunL.loadNR (vs := (cEdu a)) rfl (by assumption) agg23 sz23 (by first | exact Nat.le_of_ble_eq_true rfl | (simp; done) | (simp; omega)) rfl (Wt.none rfl) rfl ?_
  refine RunL.call rfl rfl (by rfl) (by repeat (first | (with_reducible exact Take.nil _) | (apply Take.cons (by first | ((repeat (first | (with_reducible exact Find.here _) | apply Find.there)); done) | (repeat (first | exact Find.here _ | apply Find.there)))))) (Public3_ctr (e := a) (by assumption)) (Wt.none rfl) rfl ?_
  rintro _ _ ⟨rfl, hA_⟩
  replace hA_ := hA_.symm; subst hA_
  refine RunL.alloc zz23 (Wt.none rfl) rfl ?_; intro b5
  refine RunL.storeW (xs := (cEdu (pubE a))) rfl rfl (by first | ((repeat (first | (with_reducible exact Find.here _) | apply Find.there)); done) | (repeat (first | exact Find.here _ | apply Find.there))) sz23 (by rfl) (by rfl) (by rfl) (Wt.none rfl) ?_
  refine RunL.nil ?_
  refine Run.sr ?_
  first | refine RunL.loadA (vs := (cEdu b)) rfl (by first | ((repeat (first | (with_reducible exact Find.here _) | apply Find.there)); done) | (repeat (first | exact Find.here _ | apply Find.there))) agg23 sz23 (by first | exact Nat.le_of_ble_eq_true rfl | (simp; done) | (simp; omega)) rfl (Wt.none rfl) rfl ?_ | refine RunL.loadNR (vs := (cEdu b)) rfl (by assumption) agg23 sz23 (by first | exact Nat.le_of_ble_eq_true rfl | (simp; done) | (simp; omega)) rfl (Wt.none rfl) rfl ?_
  refine RunL.call rfl rfl (by rfl) (by repeat (first | (with_reducible exact Take.nil _) | (apply Take.cons (by first | ((repeat (first | (with_reducible exact Find.here _) | apply Find.there)); done) | (repeat (first | exact Find.here _ | apply Find.there)))))) (Public3_ctr (e := b) (by assumption)) (Wt.none rfl) rfl ?_
  rintro _ _ ⟨rfl, hA_⟩
  replace hA_ := hA_.symm; subst hA_
  refine RunL.alloc zz23 (Wt.none rfl) rfl ?_; intro b6
  refine RunL.storeW (xs := (cEdu (pubE b))) rfl rfl (by first | ((repeat (first | (with_reducible exact Find.here _) | apply Find.there)); done) | (repeat (first | exact Find.here _ | apply Find.there))) sz23 (by rfl) (by rfl) (by rfl) (Wt.none rfl) ?_
  refine RunL.nil ?_
  refine Run.sr ?_
  first | refine RunL.loadA (vs := (cEdu (pubE a))) rfl (by first | ((repeat (first | (with_reducible exact Find.here _) | apply Find.there)); done) | (repeat (first | exact Find.here _ | apply Find.there))) agg23 sz23 (by first | exact Nat.le_of_ble_eq_true rfl | (simp; done) | (simp; omega)) rfl (Wt.none rfl) rfl ?_ | refine RunL.loadNR (vs := (cEdu (pubE a))) rfl (by assumption) agg23 sz23 (by first | exact Nat.le_of_ble_eq_true rfl | (simp; done) | (simp; omega)) rfl (Wt.none rfl) rfl ?_
  refine RunL.call rfl rfl (by rfl) (by repeat (first | (with_reducible exact Take.nil _) | (apply Take.cons (by first | ((repeat (first | (with_reducible exact Find.here _) | apply Find.there)); done) | (repeat (first | exact Find.here _ | apply Find.there)))))) (WriteT_ctr (e := pubE a) (by assumption) (by assumption) (by assumption)) (Wt.none rfl) rfl ?_
  rintro _ _ ⟨aw1, cw1, rfl, hA_⟩
  replace hA_ := hA_.symm; subst hA_
  refine RunL.mv rfl rfl ?_
  refine RunL.pure (Pure.extract rfl rfl) (Wt.none rfl) rfl rfl ?_
  refine RunL.pure (Pure.extract rfl rfl) (Wt.none rfl) rfl rfl ?_
  refine RunL.as rfl rfl ?_
  refine RunL.as rfl rfl ?_
  refine RunL.nil ?_
  refine Run.sr ?_
  first | refine RunL.loadA (vs := (cEdu (pubE b))) rfl (by first | ((repeat (first | (with_reducible exact Find.here _) | apply Find.there)); done) | (repeat (first | exact Find.here _ | apply Find.there))) agg23 sz23 (by first | exact Nat.le_of_ble_eq_true rfl | (simp; done) | (simp; omega)) rfl (Wt.none rfl) rfl ?_ | refine RunL.loadNR (vs := (cEdu (pubE b))) rfl (by assumption) agg23 sz23 (by first | exact Nat.le_of_ble_eq_true rfl | (simp; done) | (simp; omega)) rfl (Wt.none rfl) rfl ?_
  refine RunL.call rfl rfl (by rfl) (by repeat (first | (with_reducible exact Take.nil _) | (apply Take.cons (by first | ((repeat (first | (with_reducible exact Find.here _) | apply Find.there)); done) | (repeat (first | exact Find.here _ | apply Find.there)))))) (WriteT_ctr (e := pubE b) (by assumption) (by assumption) (by assumption)) (Wt.none rfl) rfl ?_
  rintro _ _ ⟨aw2, cw2, rfl, hA_⟩
  replace hA_ := hA_.symm; subst hA_
  refine RunL.mv rfl rfl ?_
  refine RunL.pure (Pure.extract rfl rfl) (Wt.none rfl) rfl rfl ?_
  refine RunL.pure (Pure.extract rfl rfl) (Wt.none rfl) rfl rfl ?_
  refine RunL.as rfl rfl ?_
  refine RunL.as rfl rfl ?_
  refine RunL.nil ?_
  refine Run.sr ?_
  refine RunL.mv rfl rfl ?_
  refine RunL.call rfl rfl (by rfl) (by repeat (first | (with_reducible exact Take.nil _) | (apply Take.cons (by first | ((repeat (first | (with_reducible exact Find.here _) | apply Find.there)); done) | (repeat (first | exact Find.here _ | apply Find.there)))))) (Ctr.lend (R := fun G => SlR G 5 1 _ _ _ ∧ _ ≤ _) Lends.Sl cb25 (fun G' hle hr => Read3_ctr (bs := eduBytes (pubE a)) hr.1 (by omega) hr.2)) (Wt.none rfl) rfl ?_
  rintro _ _ ⟨_, rfl, rfl, hA_⟩
  replace hA_ := hA_.symm; subst hA_
  rw [hfin]
  refine RunL.mv rfl rfl ?_
  refine RunL.pure (Pure.extract rfl rfl) (Wt.none rfl) rfl rfl ?_
  refine RunL.pure (Pure.extract rfl rfl) (Wt.none rfl) rfl rfl ?_
  refine RunL.alloc zz23 (Wt.none rfl) rfl ?_; intro b11
  refine RunL.storeW (xs := (cEdu (pubE a))) rfl rfl (by first | ((repeat (first | (with_reducible exact Find.here _) | apply Find.there)); done) | (repeat (first | exact Find.here _ | apply Find.there))) sz23 (by rfl) (by rfl) (by rfl) (Wt.none rfl) ?_
  refine RunL.as rfl rfl ?_
  refine RunL.nil ?_
  refine Run.seq ?_
  refine Run.regionD' (by kernel_rfl) (by kernel_rfl) (fun hok60 => ?_)
  refine RunD.lend (Q := row b11 23 _) Lends.row (by first | ((repeat (first | (with_reducible exact Find.here _) | apply Find.there)); done) | (repeat (first | exact Find.here _ | apply Find.there))) ?_; intro gl1 hlegl1 hl1 backgl1
  have hrb2_gl1 := hrb2.mono hlegl1
  have hrb3_gl1 := hrb3.mono hlegl1
  refine RunD.lend (Q := row b5 23 _) Lends.row (by first | ((repeat (first | (with_reducible exact Find.here _) | apply Find.there)); done) | (repeat (first | exact Find.here _ | apply Find.there))) ?_; intro gl2 hlegl2 hl2 backgl2
  have hl1 := hl1.mono hlegl2
  have hrb2_gl2 := hrb2_gl1.mono hlegl2
  have hrb3_gl2 := hrb3_gl1.mono hlegl2
  refine RunD.lend (Q := row b6 23 _) Lends.row (by first | ((repeat (first | (with_reducible exact Find.here _) | apply Find.there)); done) | (repeat (first | exact Find.here _ | apply Find.there))) ?_; intro gl3 hlegl3 hl3 backgl3
  have hl1 := hl1.mono hlegl3
  have hl2 := hl2.mono hlegl3
  have hrb2_gl3 := hrb2_gl2.mono hlegl3
  have hrb3_gl3 := hrb3_gl2.mono hlegl3
  refine RunD.lend (Q := Sl 5 1 aw1 (eduBytes (pubE a)).length cw1 ((eduBytes (pubE a)).map bv)) Lends.Sl (by first | ((repeat (first | (with_reducible exact Find.here _) | apply Find.there)); done) | (repeat (first | exact Find.here _ | apply Find.there))) ?_; intro gp hlegp hlp backgp
  try (replace hl1 := hl1.mono hlegp)
  try (replace hl2 := hl2.mono hlegp)
  try (replace hl3 := hl3.mono hlegp)
  have hrb2_gp := hrb2_gl3.mono hlegp
  have hrb3_gp := hrb3_gl3.mono hlegp
  refine RunD.lend (Q := Sl 5 1 aw2 (eduBytes (pubE b)).length cw2 ((eduBytes (pubE b)).map bv)) Lends.Sl (by first | ((repeat (first | (with_reducible exact Find.here _) | apply Find.there)); done) | (repeat (first | exact Find.here _ | apply Find.there))) ?_; intro gq hlegq hlq backgq
  try (replace hl1 := hl1.mono hlegq)
  try (replace hl2 := hl2.mono hlegq)
  try (replace hl3 := hl3.mono hlegq)
  try (replace hlp := hlp.mono hlegq)
  have hrb2_gq := hrb2_gp.mono hlegq
  have hrb3_gq := hrb3_gp.mono hlegq
  refine RunD.pure (i := 0) hok60 rfl (by kernel_rfl) (Pure.move rfl) (Wt.none rfl) rfl rfl ?_
  refine RunD.pure (i := 1) hok60 rfl (by kernel_rfl) (Pure.eql rfl rfl) (Wt.none rfl) rfl rfl ?_
  refine RunD.pure (i := 2) hok60 rfl (by kernel_rfl) (Pure.move rfl) (Wt.none rfl) rfl rfl ?_
  refine RunD.split (d := 34) rfl (fun hg1 => ?_) (fun hg1 => ?_)
  rotate_left
  · try simp only [decide_eq_true_eq, decide_eq_false_iff_not, beq_iff_eq, beq_eq_false_iff_ne, bne_iff_ne, ne_eq, Bool.not_eq_true', Bool.not_eq_false', Bool.not_eq_true, Bool.not_eq_false, Int.not_lt, Int.not_le, Decidable.not_not, bne_eq_false_iff_eq, gt_iff_lt, ge_iff_le, Bool.or_eq_true, Bool.and_eq_true] at hg1
    exfalso
    first | (simp_all; done) | (simp_all; omega) | omega | grind
  try simp only [decide_eq_true_eq, decide_eq_false_iff_not, beq_iff_eq, beq_eq_false_iff_ne, bne_iff_ne, ne_eq, Bool.not_eq_true', Bool.not_eq_false', Bool.not_eq_true, Bool.not_eq_false, Int.not_lt, Int.not_le, Decidable.not_not, bne_eq_false_iff_eq, gt_iff_lt, ge_iff_le, Bool.or_eq_true, Bool.and_eq_true] at hg1
  refine RunD.pure (i := 3) hok60 rfl (by kernel_rfl) (Pure.move rfl) (Wt.yes rfl rfl rfl) rfl rfl ?_
  refine RunD.pure (i := 4) hok60 rfl (by kernel_rfl) (Pure.eql rfl rfl) (Wt.yes rfl rfl rfl) rfl rfl ?_
  refine RunD.pure (i := 5) hok60 rfl (by kernel_rfl) (Pure.pickT rfl rfl) (Wt.none rfl) rfl rfl ?_
  refine RunD.pure (i := 6) hok60 rfl (by kernel_rfl) (Pure.move rfl) (Wt.none rfl) rfl rfl ?_
  refine RunD.split (d := 38) rfl (fun hg2 => ?_) (fun hg2 => ?_)
  rotate_left
  · try simp only [decide_eq_true_eq, decide_eq_false_iff_not, beq_iff_eq, beq_eq_false_iff_ne, bne_iff_ne, ne_eq, Bool.not_eq_true', Bool.not_eq_false', Bool.not_eq_true, Bool.not_eq_false, Int.not_lt, Int.not_le, Decidable.not_not, bne_eq_false_iff_eq, gt_iff_lt, ge_iff_le, Bool.or_eq_true, Bool.and_eq_true] at hg2
    exfalso
    first | (simp_all; done) | (simp_all; omega) | omega | grind
  try simp only [decide_eq_true_eq, decide_eq_false_iff_not, beq_iff_eq, beq_eq_false_iff_ne, bne_iff_ne, ne_eq, Bool.not_eq_true', Bool.not_eq_false', Bool.not_eq_true, Bool.not_eq_false, Int.not_lt, Int.not_le, Decidable.not_not, bne_eq_false_iff_eq, gt_iff_lt, ge_iff_le, Bool.or_eq_true, Bool.and_eq_true] at hg2
  refine RunD.pure (i := 7) hok60 rfl (by kernel_rfl) (Pure.move rfl) (Wt.yes rfl rfl rfl) rfl rfl ?_
  refine RunD.pure (i := 8) hok60 rfl (by kernel_rfl) (Pure.eql rfl rfl) (Wt.yes rfl rfl rfl) rfl rfl ?_
  refine RunD.pure (i := 9) hok60 rfl (by kernel_rfl) (Pure.pickT rfl rfl) (Wt.none rfl) rfl rfl ?_
  refine RunD.pure (i := 10) hok60 rfl (by kernel_rfl) (Pure.move rfl) (Wt.none rfl) rfl rfl ?_
  refine RunD.split (d := 42) rfl (fun hg3 => ?_) (fun hg3 => ?_)
  rotate_left
  · try simp only [decide_eq_true_eq, decide_eq_false_iff_not, beq_iff_eq, beq_eq_false_iff_ne, bne_iff_ne, ne_eq, Bool.not_eq_true', Bool.not_eq_false', Bool.not_eq_true, Bool.not_eq_false, Int.not_lt, Int.not_le, Decidable.not_not, bne_eq_false_iff_eq, gt_iff_lt, ge_iff_le, Bool.or_eq_true, Bool.and_eq_true] at hg3
    exfalso
    first | (simp_all; done) | (simp_all; omega) | omega | grind
  try simp only [decide_eq_true_eq, decide_eq_false_iff_not, beq_iff_eq, beq_eq_false_iff_ne, bne_iff_ne, ne_eq, Bool.not_eq_true', Bool.not_eq_false', Bool.not_eq_true, Bool.not_eq_false, Int.not_lt, Int.not_le, Decidable.not_not, bne_eq_false_iff_eq, gt_iff_lt, ge_iff_le, Bool.or_eq_true, Bool.and_eq_true] at hg3
  refine RunD.loadNR (vs := (cEdu (pubE a))) (i := 11) hok60 rfl (by kernel_rfl) rfl (by assumption) agg23 sz23 (by first | exact Nat.le_of_ble_eq_true rfl | (simp; done) | (simp; omega)) rfl (Wt.yes rfl rfl rfl) rfl ?_
  refine RunD.loadNR (vs := (cEdu (pubE a))) (i := 12) hok60 rfl (by kernel_rfl) rfl (by assumption) agg23 sz23 (by first | exact Nat.le_of_ble_eq_true rfl | (simp; done) | (simp; omega)) rfl (Wt.yes rfl rfl rfl) rfl ?_
  refine RunD.pure (i := 13) hok60 rfl (by kernel_rfl) (Pure.aeql rfl rfl eqg23 (eqv23 (pubE a) (pubE a)) (by decide)) (Wt.yes rfl rfl rfl) rfl rfl ?_
  refine RunD.pure (i := 14) hok60 rfl (by kernel_rfl) (Pure.pickT rfl rfl) (Wt.none rfl) rfl rfl ?_
  refine RunD.pure (i := 15) hok60 rfl (by kernel_rfl) (Pure.move rfl) (Wt.none rfl) rfl rfl ?_
  refine RunD.split (d := 47) rfl (fun hg4 => ?_) (fun hg4 => ?_)
  rotate_left
  · try simp only [decide_eq_true_eq, decide_eq_false_iff_not, beq_iff_eq, beq_eq_false_iff_ne, bne_iff_ne, ne_eq, Bool.not_eq_true', Bool.not_eq_false', Bool.not_eq_true, Bool.not_eq_false, Int.not_lt, Int.not_le, Decidable.not_not, bne_eq_false_iff_eq, gt_iff_lt, ge_iff_le, Bool.or_eq_true, Bool.and_eq_true] at hg4
    exfalso
    first | (simp_all; done) | (simp_all; omega) | omega | grind
  try simp only [decide_eq_true_eq, decide_eq_false_iff_not, beq_iff_eq, beq_eq_false_iff_ne, bne_iff_ne, ne_eq, Bool.not_eq_true', Bool.not_eq_false', Bool.not_eq_true, Bool.not_eq_false, Int.not_lt, Int.not_le, Decidable.not_not, bne_eq_false_iff_eq, gt_iff_lt, ge_iff_le, Bool.or_eq_true, Bool.and_eq_true] at hg4
  refine RunD.pure (i := 16) hok60 rfl (by kernel_rfl) (Pure.move rfl) (Wt.yes rfl rfl rfl) rfl rfl ?_
  refine RunD.bytesStr (i := 17) hok60 rfl (by kernel_rfl) rfl und28 und5 und9 ((hlp.1.mono hlegq)) (Wt.yes rfl rfl rfl) rfl ?_
  refine RunD.pure (i := 18) hok60 rfl (by kernel_rfl) (Pure.move rfl) (Wt.yes rfl rfl rfl) rfl rfl ?_
  refine RunD.bytesStr (i := 19) hok60 rfl (by kernel_rfl) rfl und28 und5 und9 (hlq.1) (Wt.yes rfl rfl rfl) rfl ?_
  refine RunD.pure (i := 20) hok60 rfl (by kernel_rfl) (Pure.seql rfl rfl) (Wt.yes rfl rfl rfl) rfl rfl ?_
  refine RunD.loadNR (vs := (cEdu (pubE a))) (i := 21) hok60 rfl (by kernel_rfl) rfl (by assumption) agg23 sz23 (by first | exact Nat.le_of_ble_eq_true rfl | (simp; done) | (simp; omega)) rfl (Wt.yes rfl rfl rfl) rfl ?_
  refine RunD.loadNR (vs := (cEdu (pubE b))) (i := 22) hok60 rfl (by kernel_rfl) rfl (by assumption) agg23 sz23 (by first | exact Nat.le_of_ble_eq_true rfl | (simp; done) | (simp; omega)) rfl (Wt.yes rfl rfl rfl) rfl ?_
  refine RunD.pure (i := 23) hok60 rfl (by kernel_rfl) (Pure.aeql rfl rfl eqg23 (eqv23 (pubE a) (pubE b)) (by decide)) (Wt.yes rfl rfl rfl) rfl rfl ?_
  refine RunD.pure (i := 24) hok60 rfl (by kernel_rfl) (Pure.beql rfl rfl und4) (Wt.yes rfl rfl rfl) rfl rfl ?_
  refine RunD.pure (i := 25) hok60 rfl (by kernel_rfl) (Pure.pickT rfl rfl) (Wt.none rfl) rfl rfl ?_
  refine RunD.pure (i := 26) hok60 rfl (by kernel_rfl) (Pure.move rfl) (Wt.none rfl) rfl rfl ?_
  refine RunD.split (d := 58) rfl (fun hg5 => ?_) (fun hg5 => ?_)
  rotate_left
  · try simp only [decide_eq_true_eq, decide_eq_false_iff_not, beq_iff_eq, beq_eq_false_iff_ne, bne_iff_ne, ne_eq, Bool.not_eq_true', Bool.not_eq_false', Bool.not_eq_true, Bool.not_eq_false, Int.not_lt, Int.not_le, Decidable.not_not, bne_eq_false_iff_eq, gt_iff_lt, ge_iff_le, Bool.or_eq_true, Bool.and_eq_true] at hg5
    exfalso
    exact hg5 (decide_eq_decide.2 hij)
  try simp only [decide_eq_true_eq, decide_eq_false_iff_not, beq_iff_eq, beq_eq_false_iff_ne, bne_iff_ne, ne_eq, Bool.not_eq_true', Bool.not_eq_false', Bool.not_eq_true, Bool.not_eq_false, Int.not_lt, Int.not_le, Decidable.not_not, bne_eq_false_iff_eq, gt_iff_lt, ge_iff_le, Bool.or_eq_true, Bool.and_eq_true] at hg5
  refine RunD.one (i := 27) (by kernel_rfl) rfl ?_
  refine RunL.call rfl rfl (by rfl) (by repeat (first | (with_reducible exact Take.nil _) | (apply Take.cons (by first | ((repeat (first | (with_reducible exact Find.here _) | apply Find.there)); done) | (repeat (first | exact Find.here _ | apply Find.there)))))) (lives_ctr) (Wt.yes rfl rfl rfl) rfl ?_
  rintro _ _ ⟨rfl, hA_⟩
  replace hA_ := hA_.symm; subst hA_
  refine RunL.nilD' ?_
  refine RunD.pure (i := 28) hok60 rfl (by kernel_rfl) (Pure.pickT rfl rfl) (Wt.none rfl) rfl rfl ?_
  refine RunD.pure (i := 29) hok60 rfl (by kernel_rfl) (Pure.assign rfl) (Wt.none rfl) rfl rfl ?_
  refine RunD.nilB (by kernel_rfl) (fun w sw => backgl1 _ _ (backgl2 _ _ (backgl3 _ _ (backgp _ _ (backgq _ _ (sw)))))) ?_
  exact Run.ret Try.func8 (res1 rfl rfl) (by exact ⟨rfl, rfl⟩) (by repeat (first | (with_reducible exact Fin.done (by repeat (first | (with_reducible exact Rest.here) | apply Rest.there))) | (apply Fin.cons (by first | ((repeat (first | (with_reducible exact Find.here _) | apply Find.there)); done) | (repeat (first | exact Find.here _ | apply Find.there))))))

end Go.Proofs.Ytnigincgolhodaa
