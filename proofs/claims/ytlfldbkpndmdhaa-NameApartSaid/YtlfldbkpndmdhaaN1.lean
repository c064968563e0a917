/- The small world. -/
import Derived.Test.YtlfldbkpndmdhaaO1
import Derived.Test.YtlfldbkpndmdhaaProg
set_option linter.unusedVariables false
set_option linter.unusedSimpArgs false
set_option linter.unusedSectionVars false
namespace Go.Proofs.Ytlfldbkpndmdhaa
open Go Csl
theorem und9 : Try.prog.underlying 9 = some Go.TypeDesc.string := Try.underlying9

namespace Csl
/-- A number from 0 on, below 'm'. -/
def around (z m : Int) : Int := (if z < 0 then -(z + 1) else z) % m
theorem around_lt {z m : Int} (h : 0 < m) : 0 ≤ around z m ∧ around z m < m := ⟨Int.emod_nonneg _ (by omega), Int.emod_lt_of_pos _ h⟩
theorem around_id {z m : Int} (h0 : 0 ≤ z) (h : z < m) : around z m = z := by unfold around; rw [if_neg (by omega)]; exact Int.emod_eq_of_lt h0 h
/-- The first so many bytes. -/
def cut (s : ByteArray) (m : Nat) : ByteArray := ⟨((bl s).take m).toArray⟩
theorem bl_cut (s : ByteArray) (m : Nat) : bl (cut s m) = (bl s).take m := bl_mk _
theorem cut_size (s : ByteArray) (m : Nat) : (cut s m).size ≤ m := by rw [← bl_length, bl_cut, List.length_take]; omega
def roomOf (z : Int) : ByteArray := [(⟨#[33, 114, 58, 115, 49]⟩ : ByteArray), ⟨#[33, 113, 58, 115, 50]⟩].getD (around z 2).toNat .empty
def serverOf (z : Int) : ByteArray := [(⟨#[115, 49]⟩ : ByteArray), ⟨#[115, 50]⟩, ⟨#[115, 51]⟩].getD (around z 3).toNat .empty
def signOf (z : Int) : ByteArray := [(⟨#[64, 97, 58]⟩ : ByteArray), ⟨#[64, 98, 58]⟩, ⟨#[64, 99, 58]⟩].getD z.toNat .empty
def userOf (z : Int) : ByteArray := signOf (around z 9 / 3) ++ serverOf (around z 9 % 3)
def digit (z : Int) : ByteArray := ⟨#[UInt8.ofNat (48 + z.toNat)]⟩
def eventOf (z : Int) : ByteArray := (⟨#[36, 101]⟩ : ByteArray) ++ digit (around z 9)
def threadOf (z : Int) : ByteArray := if around z 11 = 9 then .empty else if around z 11 = 10 then ⟨#[109, 97, 105, 110]⟩ else eventOf (around z 11)
theorem getD_size {l : List ByteArray} {i m : Nat} (h : ∀ s ∈ l, s.size ≤ m) : (l.getD i .empty).size ≤ m := by
  rw [List.getD_eq_getElem?_getD]
  cases hq : l[i]? with
  | none => exact Nat.zero_le _
  | some x => exact h x (List.mem_of_getElem? hq)
theorem serverOf_size (z : Int) : (serverOf z).size ≤ 2 := getD_size (by intro s hs; simp at hs; rcases hs with rfl | rfl | rfl <;> decide)
theorem signOf_size (z : Int) : (signOf z).size ≤ 3 := getD_size (by intro s hs; simp at hs; rcases hs with rfl | rfl | rfl <;> decide)
theorem roomOf_size (z : Int) : (roomOf z).size ≤ 5 := getD_size (by intro s hs; simp at hs; rcases hs with rfl | rfl <;> decide)
theorem userOf_size (z : Int) : (userOf z).size ≤ 5 := by unfold userOf; rw [size_app]; have := signOf_size (around z 9 / 3); have := serverOf_size (around z 9 % 3); omega
theorem eventOf_size (z : Int) : (eventOf z).size = 3 := by unfold eventOf; rw [size_app]; rfl
theorem threadOf_size (z : Int) : (threadOf z).size ≤ 4 := by
  unfold threadOf; split
  · decide
  · split
    · decide
    · rw [eventOf_size]; decide
end Csl

set_option maxRecDepth 100000 in
theorem Around_ctr {G : Gp} {z m : Int} (hz : -9223372036854775808 ≤ z ∧ z ≤ 9223372036854775807) (hm : 0 < m) :
    Ctr Try.prog G 25 [.int .i64 z, .int .i64 m] [] (fun F v A => v = .int .i64 (around z m) ∧ A = F) := by
  refine Ctr.intro Try.func25 rfl (by kernel_rfl) rfl (fun F => ?_)
  simp only [List.nil_append]
  refine Run.sr ?_
  refine RunL.as rfl rfl ?_
  refine RunL.nil ?_
  refine Run.seq ?_
  refine Run.sr ?_
  refine RunL.mv rfl rfl ?_
  refine RunL.pure (Pure.lss rfl rfl) (Wt.none rfl) rfl rfl ?_
  refine RunL.nil ?_
  refine Run.cond rfl (fun hc1 => ?_) (fun hc1 => ?_)
  · try simp only [decide_eq_true_eq, decide_eq_false_iff_not, beq_iff_eq, beq_eq_false_iff_ne, bne_iff_ne, ne_eq, Bool.not_eq_true', Bool.not_eq_false', Bool.not_eq_true, Bool.not_eq_false, Int.not_lt, Int.not_le, Decidable.not_not, bne_eq_false_iff_eq, gt_iff_lt, ge_iff_le, Bool.or_eq_true, Bool.and_eq_true] at hc1
    refine Run.region ?_
    refine RunL.mv rfl rfl ?_
    first | refine RunL.pure (Pure.addI rfl rfl (by omega)) (Wt.none rfl) rfl rfl ?_ | refine RunL.pure (Pure.add rfl rfl) (Wt.none rfl) rfl rfl ?_
    first | refine RunL.pure (Pure.negI rfl (by omega)) (Wt.none rfl) rfl rfl ?_ | refine RunL.pure (Pure.neg rfl) (Wt.none rfl) rfl rfl ?_
    refine RunL.as rfl rfl ?_
    refine RunL.nil ?_
    refine Run.sr ?_
    refine RunL.mv rfl rfl ?_
    refine RunL.mv rfl rfl ?_
    first | refine RunL.pure (Pure.remI rfl rfl (by omega) (by omega)) (Wt.none rfl) rfl rfl ?_ | refine RunL.pure (Pure.rem rfl rfl (by omega)) (Wt.none rfl) rfl rfl ?_
    refine RunL.as rfl rfl ?_
    refine RunL.nil ?_
    exact Run.ret Try.func25 (res1 rfl rfl) (by exact ⟨by rw [around, if_pos hc1], rfl⟩) (by repeat (first | (with_reducible exact Fin.done (by repeat (first | (with_reducible exact Rest.here) | apply Rest.there))) | (apply Fin.cons (by first | ((repeat (first | (with_reducible exact Find.here _) | apply Find.there)); done) | (repeat (first | exact Find.here _ | apply Find.there))))))
  · try simp only [decide_eq_true_eq, decide_eq_false_iff_not, beq_iff_eq, beq_eq_false_iff_ne, bne_iff_ne, ne_eq, Bool.not_eq_true', Bool.not_eq_false', Bool.not_eq_true, Bool.not_eq_false, Int.not_lt, Int.not_le, Decidable.not_not, bne_eq_false_iff_eq, gt_iff_lt, ge_iff_le, Bool.or_eq_true, Bool.and_eq_true] at hc1
    refine Run.skip ?_
    refine Run.sr ?_
    refine RunL.mv rfl rfl ?_
    refine RunL.mv rfl rfl ?_
    first | refine RunL.pure (Pure.remI rfl rfl (by omega) (by omega)) (Wt.none rfl) rfl rfl ?_ | refine RunL.pure (Pure.rem rfl rfl (by omega)) (Wt.none rfl) rfl rfl ?_
    refine RunL.as rfl rfl ?_
    refine RunL.nil ?_
    exact Run.ret Try.func25 (res1 rfl rfl) (by exact ⟨by rw [around, if_neg (by omega)], rfl⟩) (by repeat (first | (with_reducible exact Fin.done (by repeat (first | (with_reducible exact Rest.here) | apply Rest.there))) | (apply Fin.cons (by first | ((repeat (first | (with_reducible exact Find.here _) | apply Find.there)); done) | (repeat (first | exact Find.here _ | apply Find.there))))))

set_option maxRecDepth 100000 in
theorem Few_ctr {G : Gp} {s : ByteArray} {m : Int} (h0 : 0 ≤ m) (h1 : m ≤ 1000000) :
    Ctr Try.prog G 10 [.string s, .int .i64 m] [] (fun F v A => ∃ s', v = .string s' ∧ bl s' = (bl s).take m.toNat ∧ A = F) := by
  refine Ctr.intro Try.func10 rfl (by kernel_rfl) rfl (fun F => ?_)
  simp only [List.nil_append]
  refine Run.sr ?_
  refine RunL.as rfl rfl ?_
  refine RunL.nil ?_
  refine Run.seq ?_
  refine Run.sr ?_
  refine RunL.mv rfl rfl ?_
  refine RunL.pure (Pure.lenStr rfl rfl und9) (Wt.none rfl) rfl rfl ?_
  refine RunL.mv rfl rfl ?_
  refine RunL.pure (Pure.gtr rfl rfl) (Wt.none rfl) rfl rfl ?_
  refine RunL.nil ?_
  refine Run.cond rfl (fun hc1 => ?_) (fun hc1 => ?_)
  · try simp only [decide_eq_true_eq, decide_eq_false_iff_not, beq_iff_eq, beq_eq_false_iff_ne, bne_iff_ne, ne_eq, Bool.not_eq_true', Bool.not_eq_false', Bool.not_eq_true, Bool.not_eq_false, Int.not_lt, Int.not_le, Decidable.not_not, bne_eq_false_iff_eq, gt_iff_lt, ge_iff_le, Bool.or_eq_true, Bool.and_eq_true] at hc1
    refine Run.sr ?_
    refine RunL.mv rfl rfl ?_
    refine RunL.mv rfl rfl ?_
    refine RunL.pure (Pure.sliceStrTo rfl rfl und9 (by first | omega | (simp; done) | (simp; omega)) (by first | omega | (simp; done) | (simp; omega))) (Wt.none rfl) rfl rfl ?_
    refine RunL.as rfl rfl ?_
    refine RunL.nil ?_
    exact Run.ret Try.func10 (res1 rfl rfl) (by exact ⟨_, rfl, bl_extract0 (by omega), rfl⟩) (by repeat (first | (with_reducible exact Fin.done (by repeat (first | (with_reducible exact Rest.here) | apply Rest.there))) | (apply Fin.cons (by first | ((repeat (first | (with_reducible exact Find.here _) | apply Find.there)); done) | (repeat (first | exact Find.here _ | apply Find.there))))))
  · try simp only [decide_eq_true_eq, decide_eq_false_iff_not, beq_iff_eq, beq_eq_false_iff_ne, bne_iff_ne, ne_eq, Bool.not_eq_true', Bool.not_eq_false', Bool.not_eq_true, Bool.not_eq_false, Int.not_lt, Int.not_le, Decidable.not_not, bne_eq_false_iff_eq, gt_iff_lt, ge_iff_le, Bool.or_eq_true, Bool.and_eq_true] at hc1
    refine Run.skip ?_
    refine Run.sr ?_
    refine RunL.mv rfl rfl ?_
    refine RunL.as rfl rfl ?_
    refine RunL.nil ?_
    exact Run.ret Try.func10 (res1 rfl rfl) (by exact ⟨_, rfl, (List.take_of_length_le (by rw [bl_length]; omega)).symm, rfl⟩) (by repeat (first | (with_reducible exact Fin.done (by repeat (first | (with_reducible exact Rest.here) | apply Rest.there))) | (apply Fin.cons (by first | ((repeat (first | (with_reducible exact Find.here _) | apply Find.there)); done) | (repeat (first | exact Find.here _ | apply Find.there))))))

theorem FewC_ctr {G : Gp} {s : ByteArray} {m : Int} (h0 : 0 ≤ m) (h1 : m ≤ 1000000) : Ctr Try.prog G 10 [.string s, .int .i64 m] [] (fun F v A => v = .string (cut s m.toNat) ∧ A = F) := (Few_ctr h0 h1).mono (by rintro F v A ⟨s', rfl, hs, rfl⟩; exact ⟨by rw [bl_inj (hs.trans (bl_cut s _).symm)], rfl⟩)
end Go.Proofs.Ytlfldbkpndmdhaa
