/- Names of sixteen bytes. -/
import Derived.Test.YtlfldbkpndmdhaaM6
set_option linter.unusedVariables false
set_option linter.unusedSimpArgs false
set_option linter.unusedSectionVars false
namespace Go.Proofs.Ytlfldbkpndmdhaa
open Go Csl


namespace Csl
def a20 : List UInt8 := List.replicate 20 97
theorem long_all : ∀ k < 21, 0 < k → serverB (a20.take k) = decide (k < 17) ∧ namedB 64 (64 :: (a20.take k ++ [58, 97])) = decide (k < 17) ∧ namedB 33 (33 :: 97 :: 58 :: a20.take k) = decide (k < 17) ∧ eventB (36 :: a20.take k) = decide (k < 17) ∧ threadB (36 :: a20.take k) = decide (k < 17) := by decide +kernel
end Csl

set_option maxHeartbeats 2000000 in
set_option maxRecDepth 100000 in
theorem NameLong_ctr {G : Gp} {z : Int} (hz : -9223372036854775808 ≤ z ∧ z ≤ 9223372036854775807) :
    Ctr Try.prog G 6 [.int .i64 z] [] (fun F v A => v = .bool true ∧ A = F) := by
  refine Ctr.intro Try.func6 rfl (by kernel_rfl) rfl (fun F => ?_)
  simp only [List.nil_append]
  have hk := around_lt (z := z) (m := 20) (by decide)
  have h20 : (⟨#[97, 97, 97, 97, 97, 97, 97, 97, 97, 97, 97, 97, 97, 97, 97, 97, 97, 97, 97, 97]⟩ : ByteArray).size = 20 := rfl
  refine Run.sr ?_
  refine RunL.as rfl rfl ?_
  refine RunL.nil ?_
  refine Run.sr ?_
  refine RunL.mv rfl rfl ?_
  refine RunL.call rfl rfl (by rfl) (by repeat (first | (with_reducible exact Take.nil _) | (apply Take.cons (by first | ((repeat (first | (with_reducible exact Find.here _) | apply Find.there)); done) | (repeat (first | exact Find.here _ | apply Find.there)))))) (Around_ctr hz (by decide)) (Wt.none rfl) rfl ?_
  rintro _ _ ⟨rfl, hA_⟩
  replace hA_ := hA_.symm; subst hA_
  first | refine RunL.pure (Pure.addI rfl rfl (by omega)) (Wt.none rfl) rfl rfl ?_ | refine RunL.pure (Pure.add rfl rfl) (Wt.none rfl) rfl rfl ?_
  refine RunL.as rfl rfl ?_
  refine RunL.nil ?_
  refine Run.sr ?_
  refine RunL.mv rfl rfl ?_
  refine RunL.pure (Pure.sliceStrTo rfl rfl und9 (by first | omega | (simp; done) | (simp; omega)) (by first | omega | (simp; done) | (simp; omega))) (Wt.none rfl) rfl rfl ?_
  obtain ⟨k, hkz, hk1, hk2⟩ : ∃ k : Nat, 1 + around z 20 = (k : Nat) ∧ 0 < k ∧ k < 21 := ⟨(1 + around z 20).toNat, by omega, by omega, by omega⟩
  obtain ⟨f1, f2, f3, f4, f5⟩ := long_all k hk2 hk1
  rw [hkz, ext_to, show bl (⟨#[97, 97, 97, 97, 97, 97, 97, 97, 97, 97, 97, 97, 97, 97, 97, 97, 97, 97, 97, 97]⟩ : ByteArray) = a20 from rfl, show ((k : Nat) : Int).toNat = k from rfl]
  have hsk : (mkS (a20.take k)).size ≤ 20 := by rw [mkS_size, List.length_take]; have : a20.length = 20 := rfl; omega
  have b2 : bl ((⟨#[64]⟩ : ByteArray) ++ mkS (a20.take k) ++ ⟨#[58, 97]⟩) = 64 :: (a20.take k ++ [58, 97]) := by simp [bl_append, bl_mkS]; rfl
  have b3 : bl ((⟨#[33, 97, 58]⟩ : ByteArray) ++ mkS (a20.take k)) = 33 :: 97 :: 58 :: a20.take k := by simp [bl_append, bl_mkS]; rfl
  have b4 : bl ((⟨#[36]⟩ : ByteArray) ++ mkS (a20.take k)) = 36 :: a20.take k := by simp [bl_append, bl_mkS]; rfl
  have s1 : (⟨#[64]⟩ : ByteArray).size = 1 := rfl
  have s2 : (⟨#[58, 97]⟩ : ByteArray).size = 2 := rfl
  have s3 : (⟨#[33, 97, 58]⟩ : ByteArray).size = 3 := rfl
  have s4 : (⟨#[36]⟩ : ByteArray).size = 1 := rfl
  refine RunL.as rfl rfl ?_
  refine RunL.nil ?_
  refine Run.sr ?_
  refine RunL.mv rfl rfl ?_
  refine RunL.call rfl rfl (by rfl) (by repeat (first | (with_reducible exact Take.nil _) | (apply Take.cons (by first | ((repeat (first | (with_reducible exact Find.here _) | apply Find.there)); done) | (repeat (first | exact Find.here _ | apply Find.there)))))) (nServer_ctr (by first | assumption | omega | (simp only [mkS_size, List.length_take, List.length_drop, bl_length]; omega) | (simp only [mkS_size, size_app, List.length_take, List.length_drop, List.length_append, bl_length, List.length_cons, List.length_nil, size_mk]; omega))) (Wt.none rfl) rfl ?_
  rintro _ _ ⟨rfl, hA_⟩
  replace hA_ := hA_.symm; subst hA_
  refine RunL.mv rfl rfl ?_
  refine RunL.pure (Pure.lss rfl rfl) (Wt.none rfl) rfl rfl ?_
  refine RunL.pure (Pure.beql rfl rfl und4) (Wt.none rfl) rfl rfl ?_
  refine RunL.mv rfl rfl ?_
  refine RunL.split (d := 15) rfl (fun hg1 => ?_) (fun hg1 => ?_)
  rotate_left
  · try simp only [decide_eq_true_eq, decide_eq_false_iff_not, beq_iff_eq, beq_eq_false_iff_ne, bne_iff_ne, ne_eq, Bool.not_eq_true', Bool.not_eq_false', Bool.not_eq_true, Bool.not_eq_false, Int.not_lt, Int.not_le, Decidable.not_not, bne_eq_false_iff_eq, gt_iff_lt, ge_iff_le, Bool.or_eq_true, Bool.and_eq_true] at hg1
    exfalso
    rw [bl_mkS, f1] at hg1; simp at hg1 <;> omega
  try simp only [decide_eq_true_eq, decide_eq_false_iff_not, beq_iff_eq, beq_eq_false_iff_ne, bne_iff_ne, ne_eq, Bool.not_eq_true', Bool.not_eq_false', Bool.not_eq_true, Bool.not_eq_false, Int.not_lt, Int.not_le, Decidable.not_not, bne_eq_false_iff_eq, gt_iff_lt, ge_iff_le, Bool.or_eq_true, Bool.and_eq_true] at hg1
  refine RunL.pure (Pure.move rfl) (Wt.yes rfl rfl rfl) rfl rfl ?_
  refine RunL.pure (Pure.sadd rfl rfl (by first | omega | (simp only [size_mk, size_app, List.length_append, bl_length, List.length_cons, List.length_nil]; omega) | (simp; omega))) (Wt.yes rfl rfl rfl) rfl rfl ?_
  refine RunL.pure (Pure.sadd rfl rfl (by first | omega | (simp only [size_mk, size_app, List.length_append, bl_length, List.length_cons, List.length_nil]; omega) | (simp; omega))) (Wt.yes rfl rfl rfl) rfl rfl ?_
  refine RunL.call rfl rfl (by rfl) (by repeat (first | (with_reducible exact Take.nil _) | (apply Take.cons (by first | ((repeat (first | (with_reducible exact Find.here _) | apply Find.there)); done) | (repeat (first | exact Find.here _ | apply Find.there)))))) (User_ctr (by first | assumption | omega | (simp only [mkS_size, List.length_take, List.length_drop, bl_length]; omega) | (simp only [mkS_size, size_app, List.length_take, List.length_drop, List.length_append, bl_length, List.length_cons, List.length_nil, size_mk]; omega))) (Wt.yes rfl rfl rfl) rfl ?_
  rintro _ _ ⟨rfl, hA_⟩
  replace hA_ := hA_.symm; subst hA_
  refine RunL.pure (Pure.move rfl) (Wt.yes rfl rfl rfl) rfl rfl ?_
  refine RunL.pure (Pure.lss rfl rfl) (Wt.yes rfl rfl rfl) rfl rfl ?_
  refine RunL.pure (Pure.beql rfl rfl und4) (Wt.yes rfl rfl rfl) rfl rfl ?_
  refine RunL.pure (Pure.pickT rfl rfl) (Wt.none rfl) rfl rfl ?_
  refine RunL.mv rfl rfl ?_
  refine RunL.split (d := 24) rfl (fun hg2 => ?_) (fun hg2 => ?_)
  rotate_left
  · try simp only [decide_eq_true_eq, decide_eq_false_iff_not, beq_iff_eq, beq_eq_false_iff_ne, bne_iff_ne, ne_eq, Bool.not_eq_true', Bool.not_eq_false', Bool.not_eq_true, Bool.not_eq_false, Int.not_lt, Int.not_le, Decidable.not_not, bne_eq_false_iff_eq, gt_iff_lt, ge_iff_le, Bool.or_eq_true, Bool.and_eq_true] at hg2
    exfalso
    rw [b2, f2] at hg2; simp at hg2 <;> omega
  try simp only [decide_eq_true_eq, decide_eq_false_iff_not, beq_iff_eq, beq_eq_false_iff_ne, bne_iff_ne, ne_eq, Bool.not_eq_true', Bool.not_eq_false', Bool.not_eq_true, Bool.not_eq_false, Int.not_lt, Int.not_le, Decidable.not_not, bne_eq_false_iff_eq, gt_iff_lt, ge_iff_le, Bool.or_eq_true, Bool.and_eq_true] at hg2
  refine RunL.pure (Pure.move rfl) (Wt.yes rfl rfl rfl) rfl rfl ?_
  refine RunL.pure (Pure.sadd rfl rfl (by first | omega | (simp only [size_mk, size_app, List.length_append, bl_length, List.length_cons, List.length_nil]; omega) | (simp; omega))) (Wt.yes rfl rfl rfl) rfl rfl ?_
  refine RunL.call rfl rfl (by rfl) (by repeat (first | (with_reducible exact Take.nil _) | (apply Take.cons (by first | ((repeat (first | (with_reducible exact Find.here _) | apply Find.there)); done) | (repeat (first | exact Find.here _ | apply Find.there)))))) (Room_ctr (by first | assumption | omega | (simp only [mkS_size, List.length_take, List.length_drop, bl_length]; omega) | (simp only [mkS_size, size_app, List.length_take, List.length_drop, List.length_append, bl_length, List.length_cons, List.length_nil, size_mk]; omega))) (Wt.yes rfl rfl rfl) rfl ?_
  rintro _ _ ⟨rfl, hA_⟩
  replace hA_ := hA_.symm; subst hA_
  refine RunL.pure (Pure.move rfl) (Wt.yes rfl rfl rfl) rfl rfl ?_
  refine RunL.pure (Pure.lss rfl rfl) (Wt.yes rfl rfl rfl) rfl rfl ?_
  refine RunL.pure (Pure.beql rfl rfl und4) (Wt.yes rfl rfl rfl) rfl rfl ?_
  refine RunL.pure (Pure.pickT rfl rfl) (Wt.none rfl) rfl rfl ?_
  refine RunL.mv rfl rfl ?_
  refine RunL.split (d := 32) rfl (fun hg3 => ?_) (fun hg3 => ?_)
  rotate_left
  · try simp only [decide_eq_true_eq, decide_eq_false_iff_not, beq_iff_eq, beq_eq_false_iff_ne, bne_iff_ne, ne_eq, Bool.not_eq_true', Bool.not_eq_false', Bool.not_eq_true, Bool.not_eq_false, Int.not_lt, Int.not_le, Decidable.not_not, bne_eq_false_iff_eq, gt_iff_lt, ge_iff_le, Bool.or_eq_true, Bool.and_eq_true] at hg3
    exfalso
    rw [b3, f3] at hg3; simp at hg3 <;> omega
  try simp only [decide_eq_true_eq, decide_eq_false_iff_not, beq_iff_eq, beq_eq_false_iff_ne, bne_iff_ne, ne_eq, Bool.not_eq_true', Bool.not_eq_false', Bool.not_eq_true, Bool.not_eq_false, Int.not_lt, Int.not_le, Decidable.not_not, bne_eq_false_iff_eq, gt_iff_lt, ge_iff_le, Bool.or_eq_true, Bool.and_eq_true] at hg3
  refine RunL.pure (Pure.move rfl) (Wt.yes rfl rfl rfl) rfl rfl ?_
  refine RunL.pure (Pure.sadd rfl rfl (by first | omega | (simp only [size_mk, size_app, List.length_append, bl_length, List.length_cons, List.length_nil]; omega) | (simp; omega))) (Wt.yes rfl rfl rfl) rfl rfl ?_
  refine RunL.call rfl rfl (by rfl) (by repeat (first | (with_reducible exact Take.nil _) | (apply Take.cons (by first | ((repeat (first | (with_reducible exact Find.here _) | apply Find.there)); done) | (repeat (first | exact Find.here _ | apply Find.there)))))) (nEvent_ctr (by first | assumption | omega | (simp only [mkS_size, List.length_take, List.length_drop, bl_length]; omega) | (simp only [mkS_size, size_app, List.length_take, List.length_drop, List.length_append, bl_length, List.length_cons, List.length_nil, size_mk]; omega))) (Wt.yes rfl rfl rfl) rfl ?_
  rintro _ _ ⟨rfl, hA_⟩
  replace hA_ := hA_.symm; subst hA_
  refine RunL.pure (Pure.move rfl) (Wt.yes rfl rfl rfl) rfl rfl ?_
  refine RunL.pure (Pure.lss rfl rfl) (Wt.yes rfl rfl rfl) rfl rfl ?_
  refine RunL.pure (Pure.beql rfl rfl und4) (Wt.yes rfl rfl rfl) rfl rfl ?_
  refine RunL.pure (Pure.pickT rfl rfl) (Wt.none rfl) rfl rfl ?_
  refine RunL.mv rfl rfl ?_
  refine RunL.split (d := 40) rfl (fun hg4 => ?_) (fun hg4 => ?_)
  rotate_left
  · try simp only [decide_eq_true_eq, decide_eq_false_iff_not, beq_iff_eq, beq_eq_false_iff_ne, bne_iff_ne, ne_eq, Bool.not_eq_true', Bool.not_eq_false', Bool.not_eq_true, Bool.not_eq_false, Int.not_lt, Int.not_le, Decidable.not_not, bne_eq_false_iff_eq, gt_iff_lt, ge_iff_le, Bool.or_eq_true, Bool.and_eq_true] at hg4
    exfalso
    rw [b4, f4] at hg4; simp at hg4 <;> omega
  try simp only [decide_eq_true_eq, decide_eq_false_iff_not, beq_iff_eq, beq_eq_false_iff_ne, bne_iff_ne, ne_eq, Bool.not_eq_true', Bool.not_eq_false', Bool.not_eq_true, Bool.not_eq_false, Int.not_lt, Int.not_le, Decidable.not_not, bne_eq_false_iff_eq, gt_iff_lt, ge_iff_le, Bool.or_eq_true, Bool.and_eq_true] at hg4
  refine RunL.pure (Pure.move rfl) (Wt.yes rfl rfl rfl) rfl rfl ?_
  refine RunL.pure (Pure.sadd rfl rfl (by first | omega | (simp only [size_mk, size_app, List.length_append, bl_length, List.length_cons, List.length_nil]; omega) | (simp; omega))) (Wt.yes rfl rfl rfl) rfl rfl ?_
  refine RunL.call rfl rfl (by rfl) (by repeat (first | (with_reducible exact Take.nil _) | (apply Take.cons (by first | ((repeat (first | (with_reducible exact Find.here _) | apply Find.there)); done) | (repeat (first | exact Find.here _ | apply Find.there)))))) (nThread_ctr (by first | assumption | omega | (simp only [mkS_size, List.length_take, List.length_drop, bl_length]; omega) | (simp only [mkS_size, size_app, List.length_take, List.length_drop, List.length_append, bl_length, List.length_cons, List.length_nil, size_mk]; omega))) (Wt.yes rfl rfl rfl) rfl ?_
  rintro _ _ ⟨rfl, hA_⟩
  replace hA_ := hA_.symm; subst hA_
  refine RunL.pure (Pure.move rfl) (Wt.yes rfl rfl rfl) rfl rfl ?_
  refine RunL.pure (Pure.lss rfl rfl) (Wt.yes rfl rfl rfl) rfl rfl ?_
  refine RunL.pure (Pure.beql rfl rfl und4) (Wt.yes rfl rfl rfl) rfl rfl ?_
  refine RunL.pure (Pure.pickT rfl rfl) (Wt.none rfl) rfl rfl ?_
  refine RunL.mv rfl rfl ?_
  refine RunL.split (d := 48) rfl (fun hg5 => ?_) (fun hg5 => ?_)
  rotate_left
  · try simp only [decide_eq_true_eq, decide_eq_false_iff_not, beq_iff_eq, beq_eq_false_iff_ne, bne_iff_ne, ne_eq, Bool.not_eq_true', Bool.not_eq_false', Bool.not_eq_true, Bool.not_eq_false, Int.not_lt, Int.not_le, Decidable.not_not, bne_eq_false_iff_eq, gt_iff_lt, ge_iff_le, Bool.or_eq_true, Bool.and_eq_true] at hg5
    exfalso
    rw [b4, f5] at hg5; simp at hg5 <;> omega
  try simp only [decide_eq_true_eq, decide_eq_false_iff_not, beq_iff_eq, beq_eq_false_iff_ne, bne_iff_ne, ne_eq, Bool.not_eq_true', Bool.not_eq_false', Bool.not_eq_true, Bool.not_eq_false, Int.not_lt, Int.not_le, Decidable.not_not, bne_eq_false_iff_eq, gt_iff_lt, ge_iff_le, Bool.or_eq_true, Bool.and_eq_true] at hg5
  refine RunL.call rfl rfl (by rfl) (by repeat (first | (with_reducible exact Take.nil _) | (apply Take.cons (by first | ((repeat (first | (with_reducible exact Find.here _) | apply Find.there)); done) | (repeat (first | exact Find.here _ | apply Find.there)))))) (nEvent_ctr (by first | assumption | omega | (simp only [mkS_size, List.length_take, List.length_drop, bl_length]; omega) | (simp only [mkS_size, size_app, List.length_take, List.length_drop, List.length_append, bl_length, List.length_cons, List.length_nil, size_mk]; omega))) (Wt.yes rfl rfl rfl) rfl ?_
  rintro _ _ ⟨rfl, hA_⟩
  replace hA_ := hA_.symm; subst hA_
  refine RunL.pure (Pure.not rfl) (Wt.yes rfl rfl rfl) rfl rfl ?_
  refine RunL.pure (Pure.pickT rfl rfl) (Wt.none rfl) rfl rfl ?_
  refine RunL.mv rfl rfl ?_
  refine RunL.split (d := 52) rfl (fun hg6 => ?_) (fun hg6 => ?_)
  rotate_left
  · try simp only [decide_eq_true_eq, decide_eq_false_iff_not, beq_iff_eq, beq_eq_false_iff_ne, bne_iff_ne, ne_eq, Bool.not_eq_true', Bool.not_eq_false', Bool.not_eq_true, Bool.not_eq_false, Int.not_lt, Int.not_le, Decidable.not_not, bne_eq_false_iff_eq, gt_iff_lt, ge_iff_le, Bool.or_eq_true, Bool.and_eq_true] at hg6
    exfalso
    revert hg6; decide +kernel
  try simp only [decide_eq_true_eq, decide_eq_false_iff_not, beq_iff_eq, beq_eq_false_iff_ne, bne_iff_ne, ne_eq, Bool.not_eq_true', Bool.not_eq_false', Bool.not_eq_true, Bool.not_eq_false, Int.not_lt, Int.not_le, Decidable.not_not, bne_eq_false_iff_eq, gt_iff_lt, ge_iff_le, Bool.or_eq_true, Bool.and_eq_true] at hg6
  refine RunL.call rfl rfl (by rfl) (by repeat (first | (with_reducible exact Take.nil _) | (apply Take.cons (by first | ((repeat (first | (with_reducible exact Find.here _) | apply Find.there)); done) | (repeat (first | exact Find.here _ | apply Find.there)))))) (User_ctr (by first | assumption | omega | (simp only [mkS_size, List.length_take, List.length_drop, bl_length]; omega) | (simp only [mkS_size, size_app, List.length_take, List.length_drop, List.length_append, bl_length, List.length_cons, List.length_nil, size_mk]; omega))) (Wt.yes rfl rfl rfl) rfl ?_
  rintro _ _ ⟨rfl, hA_⟩
  replace hA_ := hA_.symm; subst hA_
  refine RunL.pure (Pure.not rfl) (Wt.yes rfl rfl rfl) rfl rfl ?_
  refine RunL.pure (Pure.pickT rfl rfl) (Wt.none rfl) rfl rfl ?_
  refine RunL.mv rfl rfl ?_
  refine RunL.split (d := 56) rfl (fun hg7 => ?_) (fun hg7 => ?_)
  rotate_left
  · try simp only [decide_eq_true_eq, decide_eq_false_iff_not, beq_iff_eq, beq_eq_false_iff_ne, bne_iff_ne, ne_eq, Bool.not_eq_true', Bool.not_eq_false', Bool.not_eq_true, Bool.not_eq_false, Int.not_lt, Int.not_le, Decidable.not_not, bne_eq_false_iff_eq, gt_iff_lt, ge_iff_le, Bool.or_eq_true, Bool.and_eq_true] at hg7
    exfalso
    revert hg7; decide +kernel
  try simp only [decide_eq_true_eq, decide_eq_false_iff_not, beq_iff_eq, beq_eq_false_iff_ne, bne_iff_ne, ne_eq, Bool.not_eq_true', Bool.not_eq_false', Bool.not_eq_true, Bool.not_eq_false, Int.not_lt, Int.not_le, Decidable.not_not, bne_eq_false_iff_eq, gt_iff_lt, ge_iff_le, Bool.or_eq_true, Bool.and_eq_true] at hg7
  refine RunL.call rfl rfl (by rfl) (by repeat (first | (with_reducible exact Take.nil _) | (apply Take.cons (by first | ((repeat (first | (with_reducible exact Find.here _) | apply Find.there)); done) | (repeat (first | exact Find.here _ | apply Find.there)))))) (User_ctr (by first | assumption | omega | (simp only [mkS_size, List.length_take, List.length_drop, bl_length]; omega) | (simp only [mkS_size, size_app, List.length_take, List.length_drop, List.length_append, bl_length, List.length_cons, List.length_nil, size_mk]; omega))) (Wt.yes rfl rfl rfl) rfl ?_
  rintro _ _ ⟨rfl, hA_⟩
  replace hA_ := hA_.symm; subst hA_
  refine RunL.pure (Pure.not rfl) (Wt.yes rfl rfl rfl) rfl rfl ?_
  refine RunL.pure (Pure.pickT rfl rfl) (Wt.none rfl) rfl rfl ?_
  refine RunL.mv rfl rfl ?_
  refine RunL.split (d := 60) rfl (fun hg8 => ?_) (fun hg8 => ?_)
  rotate_left
  · try simp only [decide_eq_true_eq, decide_eq_false_iff_not, beq_iff_eq, beq_eq_false_iff_ne, bne_iff_ne, ne_eq, Bool.not_eq_true', Bool.not_eq_false', Bool.not_eq_true, Bool.not_eq_false, Int.not_lt, Int.not_le, Decidable.not_not, bne_eq_false_iff_eq, gt_iff_lt, ge_iff_le, Bool.or_eq_true, Bool.and_eq_true] at hg8
    exfalso
    revert hg8; decide +kernel
  try simp only [decide_eq_true_eq, decide_eq_false_iff_not, beq_iff_eq, beq_eq_false_iff_ne, bne_iff_ne, ne_eq, Bool.not_eq_true', Bool.not_eq_false', Bool.not_eq_true, Bool.not_eq_false, Int.not_lt, Int.not_le, Decidable.not_not, bne_eq_false_iff_eq, gt_iff_lt, ge_iff_le, Bool.or_eq_true, Bool.and_eq_true] at hg8
  refine RunL.call rfl rfl (by rfl) (by repeat (first | (with_reducible exact Take.nil _) | (apply Take.cons (by first | ((repeat (first | (with_reducible exact Find.here _) | apply Find.there)); done) | (repeat (first | exact Find.here _ | apply Find.there)))))) (lives_ctr) (Wt.yes rfl rfl rfl) rfl ?_
  rintro _ _ ⟨rfl, hA_⟩
  replace hA_ := hA_.symm; subst hA_
  refine RunL.pure (Pure.pickT rfl rfl) (Wt.none rfl) rfl rfl ?_
  refine RunL.as rfl rfl ?_
  refine RunL.nil ?_
  exact Run.ret Try.func6 (res1 rfl rfl) (by exact ⟨rfl, rfl⟩) (by repeat (first | (with_reducible exact Fin.done (by repeat (first | (with_reducible exact Rest.here) | apply Rest.there))) | (apply Fin.cons (by first | ((repeat (first | (with_reducible exact Find.here _) | apply Find.there)); done) | (repeat (first | exact Find.here _ | apply Find.there))))))

end Go.Proofs.Ytlfldbkpndmdhaa
