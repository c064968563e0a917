/- Orders. -/
import Derived.Test.YtaeacdhilekcbaaCsl15
set_option linter.unusedVariables false
set_option linter.unusedSimpArgs false
namespace Go.Proofs.Ytaeacdhilekcbaa
open Go Csl

namespace Csl
/-! ### Orders -/
theorem bless_irrefl : ∀ x, Op.bytesLess x x = false
  | [] => rfl
  | a :: x => by
    simp only [Op.bytesLess, beq_self_eq_true, Bool.true_and, bless_irrefl x, Bool.or_false, decide_eq_false_iff_not]
    exact fun h => by have := UInt8.lt_iff_toNat_lt.1 h; omega
theorem bless_cons {a b : UInt8} {x y : List UInt8} : Op.bytesLess (a :: x) (b :: y) = true ↔ a.toNat < b.toNat ∨ (a = b ∧ Op.bytesLess x y = true) := by
  simp [Op.bytesLess, UInt8.lt_iff_toNat_lt]
theorem bless_trans : ∀ {x y z}, Op.bytesLess x y = true → Op.bytesLess y z = true → Op.bytesLess x z = true
  | _, [], _, h, _ => by cases ‹List UInt8› <;> simp [Op.bytesLess] at h
  | _, _ :: _, [], _, h => by simp [Op.bytesLess] at h
  | [], _ :: _, _ :: _, _, _ => rfl
  | a :: x, b :: y, c :: z, h1, h2 => by
    rw [bless_cons] at h1 h2 ⊢
    rcases h1 with h1 | ⟨rfl, h1⟩
    · rcases h2 with h2 | ⟨rfl, h2⟩
      · exact .inl (by omega)
      · exact .inl h1
    · rcases h2 with h2 | ⟨rfl, h2⟩
      · exact .inl h2
      · exact .inr ⟨rfl, bless_trans h1 h2⟩
theorem bless_tri : ∀ {x y}, x ≠ y → Op.bytesLess x y = true ∨ Op.bytesLess y x = true
  | [], [], h => absurd rfl h
  | [], _ :: _, _ => .inl rfl
  | _ :: _, [], _ => .inr rfl
  | a :: x, b :: y, h => by
    rw [bless_cons, bless_cons]
    by_cases hab : a = b
    · subst hab
      have : x ≠ y := fun e => h (by rw [e])
      rcases bless_tri this with q | q
      · exact .inl (.inr ⟨rfl, q⟩)
      · exact .inr (.inr ⟨rfl, q⟩)
    · have : a.toNat ≠ b.toNat := fun e => hab (UInt8.toNat_inj.1 e)
      rcases Nat.lt_or_gt_of_ne this with q | q
      · exact .inl (.inl q)
      · exact .inr (.inl q)
theorem bless_asymm {x y : List UInt8} (h : Op.bytesLess x y = true) : Op.bytesLess y x = false := by
  cases hq : Op.bytesLess y x with
  | false => rfl
  | true => have := bless_trans h hq; rw [bless_irrefl] at this; cases this
/-- A comparison that is an order. -/
structure LawCmp {α : Type} (c : α → α → Int) : Prop where
  eq0 : ∀ a b, c a b = 0 ↔ a = b
  anti : ∀ a b, c b a = - c a b
  range : ∀ a b, -1 ≤ c a b ∧ c a b ≤ 1
  trans : ∀ a b d, c a b ≤ 0 → c b d ≤ 0 → c a d ≤ 0
def cmpI (a b : Int) : Int := if a < b then -1 else if a > b then 1 else 0
def cmpS (a b : ByteArray) : Int := if Op.bytesLess (bl a) (bl b) = true then -1 else if a = b then 0 else 1
def orI (a b : Int) : Int := if a ≠ 0 then a else b
theorem cmpI_law : LawCmp cmpI where
  eq0 := fun a b => by unfold cmpI; split <;> (try split) <;> omega
  anti := fun a b => by unfold cmpI; split <;> split <;> (try split) <;> (try split) <;> omega
  range := fun a b => by unfold cmpI; split <;> (try split) <;> omega
  trans := fun a b d => by unfold cmpI; split <;> split <;> split <;> (try split) <;> (try split) <;> (try split) <;> omega
theorem cmpS_lt {a b : ByteArray} : cmpS a b < 0 ↔ Op.bytesLess (bl a) (bl b) = true := by
  unfold cmpS; split
  · simp_all
  · split <;> simp_all
theorem cmpS_gt {a b : ByteArray} : 0 < cmpS a b ↔ Op.bytesLess (bl b) (bl a) = true := by
  unfold cmpS; split
  · rename_i h; simp [bless_asymm h]
  · split
    · rename_i h; subst h; simp [bless_irrefl]
    · rename_i h h2
      rcases bless_tri (x := bl a) (y := bl b) (fun e => h2 (bl_inj e)) with q | q
      · exact absurd q h
      · simp [q]
theorem cmpS_law : LawCmp cmpS where
  eq0 := fun a b => by
    unfold cmpS; split
    · rename_i h
      constructor
      · intro h'; cases h'
      · intro e; subst e; rw [bless_irrefl] at h; cases h
    · split <;> simp_all
  anti := fun a b => by
    by_cases h : a = b
    · subst h; have : cmpS a a = 0 := by unfold cmpS; rw [bless_irrefl]; simp
      omega
    · rcases bless_tri (x := bl a) (y := bl b) (fun e => h (bl_inj e)) with q | q
      · have h1 : cmpS a b = -1 := by unfold cmpS; rw [if_pos q]
        have h2 : cmpS b a = 1 := by unfold cmpS; rw [bless_asymm q, if_neg (by decide), if_neg (fun e => h e.symm)]
        omega
      · have h1 : cmpS b a = -1 := by unfold cmpS; rw [if_pos q]
        have h2 : cmpS a b = 1 := by unfold cmpS; rw [bless_asymm q, if_neg (by decide), if_neg h]
        omega
  range := fun a b => by unfold cmpS; split <;> (try split) <;> omega
  trans := fun a b d h1 h2 => by
    by_cases e1 : a = b
    · subst e1; exact h2
    by_cases e2 : b = d
    · subst e2; exact h1
    have k1 : Op.bytesLess (bl a) (bl b) = true := by
      unfold cmpS at h1; split at h1
      · assumption
      · omega
    have k2 : Op.bytesLess (bl b) (bl d) = true := by
      unfold cmpS at h2; split at h2
      · assumption
      · omega
    have := cmpS_lt.2 (bless_trans k1 k2)
    omega
/-- One comparison behind another one. -/
theorem LawCmp.lex {α β : Type} {c1 : α → α → Int} {c2 : β → β → Int} (h1 : LawCmp c1) (h2 : LawCmp c2) : LawCmp (fun a b : α × β => orI (c1 a.1 b.1) (c2 a.2 b.2)) where
  eq0 := fun a b => by
    unfold orI; split
    · rename_i h
      constructor
      · intro e; exact absurd e h
      · intro e; subst e; exact absurd ((h1.eq0 _ _).2 rfl) h
    · rename_i h
      have h : c1 a.1 b.1 = 0 := by omega
      rw [h2.eq0]
      constructor
      · intro e; exact Prod.ext ((h1.eq0 _ _).1 h) e
      · intro e; rw [e]
  anti := fun a b => by
    have e1 := h1.anti a.1 b.1; have e2 := h2.anti a.2 b.2
    unfold orI; split <;> split <;> omega
  range := fun a b => by
    have e1 := h1.range a.1 b.1; have e2 := h2.range a.2 b.2
    unfold orI; split <;> omega
  trans := fun a b d => by
    have t1 := h1.trans a.1 b.1 d.1; have t2 := h2.trans a.2 b.2 d.2
    have z1 := h1.eq0 a.1 b.1; have z2 := h1.eq0 b.1 d.1
    have y1 := h1.trans b.1 d.1 a.1
    have y2 := h1.trans d.1 a.1 b.1
    have a1 := h1.anti a.1 d.1; have a2 := h1.anti b.1 d.1; have a3 := h1.anti a.1 b.1
    have z3 := h1.eq0 a.1 d.1
    unfold orI
    intro k1 k2
    by_cases q1 : c1 a.1 b.1 = 0
    · have e := z1.1 q1
      rw [if_neg (by omega)] at k1
      rw [e]
      by_cases q2 : c1 b.1 d.1 = 0
      · rw [if_neg (by omega)] at k2 ⊢; exact t2 k1 k2
      · rw [if_pos q2] at k2 ⊢; exact k2
    · rw [if_pos q1] at k1
      by_cases q2 : c1 b.1 d.1 = 0
      · have e := z2.1 q2
        rw [← e, if_pos q1]; exact k1
      · rw [if_pos q2] at k2
        have k3 := t1 k1 k2
        by_cases q3 : c1 a.1 d.1 = 0
        · exfalso
          have e := z3.1 q3
          rw [← e] at a2 k2 q2
          have : c1 b.1 a.1 = - c1 a.1 b.1 := a3
          omega
        · rw [if_pos q3]; exact k3
theorem LawCmp.map {α β : Type} {c : β → β → Int} (h : LawCmp c) {f : α → β} (hf : ∀ a b, f a = f b → a = b) : LawCmp (fun a b => c (f a) (f b)) where
  eq0 := fun a b => ⟨fun e => hf _ _ ((h.eq0 _ _).1 e), fun e => by rw [e]; exact (h.eq0 _ _).2 rfl⟩
  anti := fun a b => h.anti _ _
  range := fun a b => h.range _ _
  trans := fun a b d => h.trans _ _ _
theorem orI_assoc (a b d : Int) : orI (orI a b) d = orI a (orI b d) := by unfold orI; by_cases h : a = 0 <;> simp [h]
theorem orI_zero (a : Int) : orI a 0 = a := by unfold orI; split <;> omega
def orL : List Int → Int
  | [] => 0
  | a :: l => orI a (orL l)
end Csl

end Go.Proofs.Ytaeacdhilekcbaa
