/- What is read, plainly. -/
import Derived.Test.YtbgjfpaigndbmaaPR3
set_option linter.unusedVariables false
set_option linter.unusedSimpArgs false
set_option linter.unusedSectionVars false
namespace Go.Proofs.Ytbgjfpaigndbmaa
open Go Csl


namespace Csl
theorem rdText_twoG {m M : Int} (h : m ≤ M) (h0 : 0 ≤ m) (bs : List UInt8) (er : Int) : rdText m bs er = rdText M bs er ∨ ((rdText m bs er).2.2 ≠ 0 ∧ ((rdText M bs er).2.2 ≠ 0 ∨ m < ((rdText M bs er).1.length : Nat))) := by
  unfold rdText
  simp only
  by_cases q : (rdNum bs er).2.2 ≠ 0
  · left; rw [if_pos q, if_pos q]
  · rw [if_neg q, if_neg q]
    by_cases h1 : (rdNum bs er).1 > m
    · right
      rw [if_pos h1]
      refine ⟨by decide, ?_⟩
      by_cases h2 : (rdNum bs er).1 > M
      · left; rw [if_pos h2]; decide
      · rw [if_neg h2]
        by_cases h3 : (rdNum bs er).1 > (rdNum bs er).2.1.length
        · left; rw [if_pos h3]; decide
        · right; rw [if_neg h3]; simp only [List.length_take]; omega
    · left; rw [if_neg h1, if_neg (show ¬ (rdNum bs er).1 > M by omega)]
theorem rdNum_use {bs : List UInt8} {er : Int} (h : (rdNum bs er).2.2 = 0) : er = 0 ∧ bs.length ≤ (rdNum bs er).2.1.length + 9 := by
  by_cases h0 : er = 0
  · subst h0
    refine ⟨rfl, ?_⟩
    unfold rdNum at h ⊢
    rw [if_neg (by simp)] at h ⊢
    cases hd : dec bs with
    | short => rw [hd] at h; cases h
    | form => rw [hd] at h; cases h
    | ok n k =>
      have := (lead_lt_of_ok hd).2.2.2
      simp only [List.length_drop]; omega
  · rw [rdNum_err h0] at h; exact absurd h h0
theorem rdText_use {m : Int} {bs : List UInt8} {er : Int} (h : (rdText m bs er).2.2 = 0) : er = 0 ∧ bs.length ≤ (rdText m bs er).2.1.length + (rdText m bs er).1.length + 9 := by
  by_cases h1 : (rdNum bs er).2.2 ≠ 0
  · unfold rdText at h; simp only at h; rw [if_pos h1] at h; exact absurd h h1
  · have hu := rdNum_use (bs := bs) (er := er) (by simpa using h1)
    refine ⟨hu.1, ?_⟩
    unfold rdText at h ⊢
    simp only at h ⊢
    rw [if_neg h1] at h ⊢
    split at h
    · cases h
    · rename_i h2
      rw [if_neg h2]
      split at h
      · cases h
      · rename_i h3
        rw [if_neg h3]
        simp only [List.length_take, List.length_drop]; omega
theorem rdFlag_use {bs : List UInt8} {er : Int} (h : (rdFlag bs er).2.2 = 0) : er = 0 ∧ bs.length ≤ (rdFlag bs er).2.1.length + 1 := by
  by_cases h0 : er = 0
  · subst h0
    refine ⟨rfl, ?_⟩
    unfold rdFlag at h ⊢
    rw [if_neg (by simp)] at h ⊢
    cases bs with
    | nil => cases h
    | cons c cs =>
      simp only at h ⊢
      split at h
      · cases h
      · rename_i h2; rw [if_neg h2]; exact Nat.le_refl _
  · rw [rdFlag_err h0] at h; exact absurd h h0
theorem finE_len {em : Int} {s : List UInt8} (h : (finE (rdE em s)).2 = 0) : s.length ≤ 1000 := by
  obtain ⟨h0, h1, _⟩ := finE_yes h
  have hl := may_lens h1
  unfold rdE at h0 hl
  simp only [bl_mkS] at h0 hl
  generalize e0 : rdNum s 0 = q0 at h0 hl
  generalize e1 : rdText em q0.2.1 q0.2.2 = q1 at h0 hl
  generalize e2 : rdText em q1.2.1 q1.2.2 = q2 at h0 hl
  generalize e3 : rdText em q2.2.1 q2.2.2 = q3 at h0 hl
  generalize e4 : rdText em q3.2.1 q3.2.2 = q4 at h0 hl
  generalize e5 : rdFlag q4.2.1 q4.2.2 = q5 at h0 hl
  generalize e6 : rdNum q5.2.1 q5.2.2 = q6 at h0 hl
  generalize e7 : rdNum q6.2.1 q6.2.2 = q7 at h0 hl
  generalize e8 : rdNum q7.2.1 q7.2.2 = q8 at h0 hl
  generalize e9 : rdNum q8.2.1 q8.2.2 = q9 at h0 hl
  have z9 : q9.2.2 = 0 := Decidable.byContradiction fun q => rdEnd_err q h0
  have l9 : q9.2.1.length = 0 := by
    unfold rdEnd at h0
    rcases Nat.eq_zero_or_pos q9.2.1.length with q | q
    · exact q
    · rw [if_pos ⟨z9, q⟩] at h0; cases h0
  have u9 := rdNum_use (bs := q8.2.1) (er := q8.2.2) (by rw [e9]; exact z9)
  have u8 := rdNum_use (bs := q7.2.1) (er := q7.2.2) (by rw [e8]; exact u9.1)
  have u7 := rdNum_use (bs := q6.2.1) (er := q6.2.2) (by rw [e7]; exact u8.1)
  have u6 := rdNum_use (bs := q5.2.1) (er := q5.2.2) (by rw [e6]; exact u7.1)
  have u5 := rdFlag_use (bs := q4.2.1) (er := q4.2.2) (by rw [e5]; exact u6.1)
  have u4 := rdText_use (m := em) (bs := q3.2.1) (er := q3.2.2) (by rw [e4]; exact u5.1)
  have u3 := rdText_use (m := em) (bs := q2.2.1) (er := q2.2.2) (by rw [e3]; exact u4.1)
  have u2 := rdText_use (m := em) (bs := q1.2.1) (er := q1.2.2) (by rw [e2]; exact u3.1)
  have u1 := rdText_use (m := em) (bs := q0.2.1) (er := q0.2.2) (by rw [e1]; exact u2.1)
  have u0 := rdNum_use (bs := s) (er := 0) (by rw [e0]; exact u1.1)
  rw [e9] at u9; rw [e8] at u8; rw [e7] at u7; rw [e6] at u6; rw [e5] at u5; rw [e4] at u4; rw [e3] at u3; rw [e2] at u2; rw [e1] at u1; rw [e0] at u0
  omega
theorem rdGo_err {m2 em : Int} {p : Prc} : ∀ {n : Nat} {xs : List Edu} {bs : List UInt8} {er : Int}, er ≠ 0 → rdGo m2 em p n xs bs er = none
  | 0, xs, bs, er, h => by unfold rdGo; rw [if_neg (fun q => rdEnd_err h q.1)]
  | n + 1, xs, bs, er, h => by unfold rdGo; rw [if_neg (fun q => by rw [rdText_err h] at q; exact h q.1)]
theorem rdGo_long {m2 em : Int} {p : Prc} (h : 16 < p.frm.size ∨ 16 < p.to_.size) : ∀ {n : Nat} {xs : List Edu} {bs : List UInt8} {er : Int}, rdGo m2 em p n xs bs er = none
  | 0, xs, bs, er => by
    unfold rdGo
    rw [if_neg]
    rintro ⟨_, q⟩
    have := may_facts q
    have h1 : p.frm.size ≤ 16 := this.1
    have h2 : p.to_.size ≤ 16 := this.2.1
    omega
  | n + 1, xs, bs, er => by
    unfold rdGo
    split
    · exact rdGo_long h
    · rfl
theorem rdGo_two {p : Prc} : ∀ {n : Nat} {xs : List Edu} {bs : List UInt8} {er : Int}, rdGo 1000 34 p n xs bs er = rdGo 100000 1000 p n xs bs er
  | 0, xs, bs, er => rfl
  | n + 1, xs, bs, er => by
    unfold rdGo
    rcases rdText_twoG (m := 1000) (M := 100000) (by decide) (by decide) bs er with h | ⟨h1, h2⟩
    · rw [h, rdE_two, rdGo_two]
    · rw [if_neg (fun q => h1 q.1), if_neg]
      rintro ⟨q1, q2⟩
      rcases h2 with h2 | h2
      · exact h2 q1
      · have := finE_len q2; omega
def rdP2 (m2 em : Int) (f : Bool) (a t bs : List UInt8) (er : Int) : Option (Prc × List Edu) :=
  if (rdNum (rdNum bs er).2.1 (rdNum bs er).2.2).2.2 = 0 ∧ (rdNum (rdNum bs er).2.1 (rdNum bs er).2.2).1 ≤ 100 then rdGo m2 em ⟨f, mkS a, mkS t, (rdNum bs er).1, ⟨none, 0, 0⟩⟩ (rdNum (rdNum bs er).2.1 (rdNum bs er).2.2).1.toNat [] (rdNum (rdNum bs er).2.1 (rdNum bs er).2.2).2.1 (rdNum (rdNum bs er).2.1 (rdNum bs er).2.2).2.2 else none
def rdP1 (m1 m2 em : Int) (f : Bool) (a bs : List UInt8) (er : Int) : Option (Prc × List Edu) := rdP2 m2 em f a (rdText m1 bs er).1 (rdText m1 bs er).2.1 (rdText m1 bs er).2.2
theorem rdP_eq (m1 m2 em : Int) (bs : List UInt8) : rdP m1 m2 em bs = rdP1 m1 m2 em (rdFlag bs 0).1 (rdText m1 (rdFlag bs 0).2.1 (rdFlag bs 0).2.2).1 (rdText m1 (rdFlag bs 0).2.1 (rdFlag bs 0).2.2).2.1 (rdText m1 (rdFlag bs 0).2.1 (rdFlag bs 0).2.2).2.2 := rfl
theorem rdP2_err {m2 em : Int} {f : Bool} {a t bs : List UInt8} {er : Int} (h : er ≠ 0) : rdP2 m2 em f a t bs er = none := by
  unfold rdP2; rw [if_neg]; rintro ⟨q, _⟩
  have h1 : (rdNum bs er).2.2 ≠ 0 := by rw [rdNum_err h]; exact h
  rw [rdNum_err h1] at q; exact h1 q
theorem rdP2_long {m2 em : Int} {f : Bool} {a t bs : List UInt8} {er : Int} (h : 16 < a.length ∨ 16 < t.length) : rdP2 m2 em f a t bs er = none := by
  unfold rdP2; split
  · exact rdGo_long (by show 16 < (mkS a).size ∨ 16 < (mkS t).size; rw [mkS_size, mkS_size]; exact h)
  · rfl
theorem rdP2_two {f : Bool} {a t bs : List UInt8} {er : Int} : rdP2 1000 34 f a t bs er = rdP2 100000 1000 f a t bs er := by unfold rdP2; rw [rdGo_two]
theorem rdP1_err {m1 m2 em : Int} {f : Bool} {a bs : List UInt8} {er : Int} (h : er ≠ 0) : rdP1 m1 m2 em f a bs er = none := rdP2_err (by rw [rdText_err h]; exact h)
theorem rdP1_long {m1 m2 em : Int} {f : Bool} {a bs : List UInt8} {er : Int} (h : 16 < a.length) : rdP1 m1 m2 em f a bs er = none := rdP2_long (.inl h)
theorem rdP1_two {f : Bool} {a bs : List UInt8} {er : Int} : rdP1 16 1000 34 f a bs er = rdP1 1000 100000 1000 f a bs er := by
  rcases rdText_twoG (m := 16) (M := 1000) (by decide) (by decide) bs er with h | ⟨h1, h2⟩
  · unfold rdP1; rw [h, rdP2_two]
  · unfold rdP1
    rw [rdP2_err h1]
    symm
    rcases h2 with h2 | h2
    · exact rdP2_err h2
    · exact rdP2_long (.inr (by omega))
/-- The program's bounds and the reference's tell the same. -/
theorem rdP_two (bs : List UInt8) : rdP 16 1000 34 bs = rdP 1000 100000 1000 bs := by
  rw [rdP_eq, rdP_eq]
  rcases rdText_twoG (m := 16) (M := 1000) (by decide) (by decide) (rdFlag bs 0).2.1 (rdFlag bs 0).2.2 with h | ⟨h1, h2⟩
  · rw [h, rdP1_two]
  · rw [rdP1_err h1]
    symm
    rcases h2 with h2 | h2
    · exact rdP1_err h2
    · exact rdP1_long (by omega)
end Csl


end Go.Proofs.Ytbgjfpaigndbmaa
