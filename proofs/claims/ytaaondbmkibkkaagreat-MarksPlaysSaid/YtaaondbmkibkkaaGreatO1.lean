/- Orders, sorted lists, tables. -/
import Derived.Test.YtaaondbmkibkkaaGreatCslC
set_option linter.unusedVariables false
set_option linter.unusedSimpArgs false
set_option linter.unusedSectionVars false
namespace Go.Proofs.YtaaondbmkibkkaaGreat
open Go Csl

namespace Csl
/-! ### Orders -/
theorem bless_irrefl : ∀ x, Op.bytesLess x x = false
  | [] => rfl
  | a :: x => by
    simp only [Op.bytesLess, beq_self_eq_true, Bool.true_and, bless_irrefl x, Bool.or_false, decide_eq_false_iff_not]
    exact fun h => by have := UInt8.lt_iff_toNat_lt.1 h; omega
theorem bless_cons {a b : UInt8} {x y : List UInt8} : Op.bytesLess (a :: x) (b :: y) = true ↔ a.toNat < b.toNat ∨ (a = b ∧ Op.bytesLess x y = true) := by
  simp [Op.bytesLess, UInt8.lt_iff_toNat_lt]
theorem bless_trans : ∀ {x y z}, Op.bytesLess x y = true → Op.bytesLess y z = true → Op.bytesLess x z = true
  | _, [], _, h, _ => by cases ‹List UInt8› <;> simp [Op.bytesLess] at h
  | _, _ :: _, [], _, h => by simp [Op.bytesLess] at h
  | [], _ :: _, _ :: _, _, _ => rfl
  | a :: x, b :: y, c :: z, h1, h2 => by
    rw [bless_cons] at h1 h2 ⊢
    rcases h1 with h1 | ⟨rfl, h1⟩
    · rcases h2 with h2 | ⟨rfl, h2⟩
      · exact .inl (by omega)
      · exact .inl h1
    · rcases h2 with h2 | ⟨rfl, h2⟩
      · exact .inl h2
      · exact .inr ⟨rfl, bless_trans h1 h2⟩
theorem bless_tri : ∀ {x y}, x ≠ y → Op.bytesLess x y = true ∨ Op.bytesLess y x = true
  | [], [], h => absurd rfl h
  | [], _ :: _, _ => .inl rfl
  | _ :: _, [], _ => .inr rfl
  | a :: x, b :: y, h => by
    rw [bless_cons, bless_cons]
    by_cases hab : a = b
    · subst hab
      have : x ≠ y := fun e => h (by rw [e])
      rcases bless_tri this with q | q
      · exact .inl (.inr ⟨rfl, q⟩)
      · exact .inr (.inr ⟨rfl, q⟩)
    · have : a.toNat ≠ b.toNat := fun e => hab (UInt8.toNat_inj.1 e)
      rcases Nat.lt_or_gt_of_ne this with q | q
      · exact .inl (.inl q)
      · exact .inr (.inl q)
theorem bless_asymm {x y : List UInt8} (h : Op.bytesLess x y = true) : Op.bytesLess y x = false := by
  cases hq : Op.bytesLess y x with
  | false => rfl
  | true => have := bless_trans h hq; rw [bless_irrefl] at this; cases this
/-- A comparison that is an order. -/
structure LawCmp {α : Type} (c : α → α → Int) : Prop where
  eq0 : ∀ a b, c a b = 0 ↔ a = b
  anti : ∀ a b, c b a = - c a b
  range : ∀ a b, -1 ≤ c a b ∧ c a b ≤ 1
  trans : ∀ a b d, c a b ≤ 0 → c b d ≤ 0 → c a d ≤ 0
def cmpI (a b : Int) : Int := if a < b then -1 else if a > b then 1 else 0
def cmpS (a b : ByteArray) : Int := if Op.bytesLess (bl a) (bl b) = true then -1 else if a = b then 0 else 1
def orI (a b : Int) : Int := if a ≠ 0 then a else b
theorem cmpI_law : LawCmp cmpI where
  eq0 := fun a b => by unfold cmpI; split <;> (try split) <;> omega
  anti := fun a b => by unfold cmpI; split <;> split <;> (try split) <;> (try split) <;> omega
  range := fun a b => by unfold cmpI; split <;> (try split) <;> omega
  trans := fun a b d => by unfold cmpI; split <;> split <;> split <;> (try split) <;> (try split) <;> (try split) <;> omega
theorem cmpS_lt {a b : ByteArray} : cmpS a b < 0 ↔ Op.bytesLess (bl a) (bl b) = true := by
  unfold cmpS; split
  · simp_all
  · split <;> simp_all
theorem cmpS_gt {a b : ByteArray} : 0 < cmpS a b ↔ Op.bytesLess (bl b) (bl a) = true := by
  unfold cmpS; split
  · rename_i h; simp [bless_asymm h]
  · split
    · rename_i h; subst h; simp [bless_irrefl]
    · rename_i h h2
      rcases bless_tri (x := bl a) (y := bl b) (fun e => h2 (bl_inj e)) with q | q
      · exact absurd q h
      · simp [q]
theorem cmpS_law : LawCmp cmpS where
  eq0 := fun a b => by
    unfold cmpS; split
    · rename_i h
      constructor
      · intro h'; cases h'
      · intro e; subst e; rw [bless_irrefl] at h; cases h
    · split <;> simp_all
  anti := fun a b => by
    by_cases h : a = b
    · subst h; have : cmpS a a = 0 := by unfold cmpS; rw [bless_irrefl]; simp
      omega
    · rcases bless_tri (x := bl a) (y := bl b) (fun e => h (bl_inj e)) with q | q
      · have h1 : cmpS a b = -1 := by unfold cmpS; rw [if_pos q]
        have h2 : cmpS b a = 1 := by unfold cmpS; rw [bless_asymm q, if_neg (by decide), if_neg (fun e => h e.symm)]
        omega
      · have h1 : cmpS b a = -1 := by unfold cmpS; rw [if_pos q]
        have h2 : cmpS a b = 1 := by unfold cmpS; rw [bless_asymm q, if_neg (by decide), if_neg h]
        omega
  range := fun a b => by unfold cmpS; split <;> (try split) <;> omega
  trans := fun a b d h1 h2 => by
    by_cases e1 : a = b
    · subst e1; exact h2
    by_cases e2 : b = d
    · subst e2; exact h1
    have k1 : Op.bytesLess (bl a) (bl b) = true := by
      unfold cmpS at h1; split at h1
      · assumption
      · omega
    have k2 : Op.bytesLess (bl b) (bl d) = true := by
      unfold cmpS at h2; split at h2
      · assumption
      · omega
    have := cmpS_lt.2 (bless_trans k1 k2)
    omega
/-- One comparison behind another one. -/
theorem LawCmp.lex {α β : Type} {c1 : α → α → Int} {c2 : β → β → Int} (h1 : LawCmp c1) (h2 : LawCmp c2) : LawCmp (fun a b : α × β => orI (c1 a.1 b.1) (c2 a.2 b.2)) where
  eq0 := fun a b => by
    unfold orI; split
    · rename_i h
      constructor
      · intro e; exact absurd e h
      · intro e; subst e; exact absurd ((h1.eq0 _ _).2 rfl) h
    · rename_i h
      have h : c1 a.1 b.1 = 0 := by omega
      rw [h2.eq0]
      constructor
      · intro e; exact Prod.ext ((h1.eq0 _ _).1 h) e
      · intro e; rw [e]
  anti := fun a b => by
    have e1 := h1.anti a.1 b.1; have e2 := h2.anti a.2 b.2
    unfold orI; split <;> split <;> omega
  range := fun a b => by
    have e1 := h1.range a.1 b.1; have e2 := h2.range a.2 b.2
    unfold orI; split <;> omega
  trans := fun a b d => by
    have t1 := h1.trans a.1 b.1 d.1; have t2 := h2.trans a.2 b.2 d.2
    have z1 := h1.eq0 a.1 b.1; have z2 := h1.eq0 b.1 d.1
    have y1 := h1.trans b.1 d.1 a.1
    have y2 := h1.trans d.1 a.1 b.1
    have a1 := h1.anti a.1 d.1; have a2 := h1.anti b.1 d.1; have a3 := h1.anti a.1 b.1
    have z3 := h1.eq0 a.1 d.1
    unfold orI
    intro k1 k2
    by_cases q1 : c1 a.1 b.1 = 0
    · have e := z1.1 q1
      rw [if_neg (by omega)] at k1
      rw [e]
      by_cases q2 : c1 b.1 d.1 = 0
      · rw [if_neg (by omega)] at k2 ⊢; exact t2 k1 k2
      · rw [if_pos q2] at k2 ⊢; exact k2
    · rw [if_pos q1] at k1
      by_cases q2 : c1 b.1 d.1 = 0
      · have e := z2.1 q2
        rw [← e, if_pos q1]; exact k1
      · rw [if_pos q2] at k2
        have k3 := t1 k1 k2
        by_cases q3 : c1 a.1 d.1 = 0
        · exfalso
          have e := z3.1 q3
          rw [← e] at a2 k2 q2
          have : c1 b.1 a.1 = - c1 a.1 b.1 := a3
          omega
        · rw [if_pos q3]; exact k3
theorem LawCmp.map {α β : Type} {c : β → β → Int} (h : LawCmp c) {f : α → β} (hf : ∀ a b, f a = f b → a = b) : LawCmp (fun a b => c (f a) (f b)) where
  eq0 := fun a b => ⟨fun e => hf _ _ ((h.eq0 _ _).1 e), fun e => by rw [e]; exact (h.eq0 _ _).2 rfl⟩
  anti := fun a b => h.anti _ _
  range := fun a b => h.range _ _
  trans := fun a b d => h.trans _ _ _
theorem orI_assoc (a b d : Int) : orI (orI a b) d = orI a (orI b d) := by unfold orI; by_cases h : a = 0 <;> simp [h]
theorem orI_zero (a : Int) : orI a 0 = a := by unfold orI; split <;> omega
def orL : List Int → Int
  | [] => 0
  | a :: l => orI a (orL l)
end Csl

namespace Csl
theorem all_of_lt {α : Type} {l : List α} {φ : α → Prop} {i : Nat} (h : ∀ j x, j < i → l[j]? = some x → φ x) (hi : l.length ≤ i) : ∀ x ∈ l, φ x := by
  intro x hx
  obtain ⟨j, hj⟩ := List.getElem?_of_mem hx
  exact h j x (by have := (List.getElem?_eq_some_iff.1 hj).1; omega) hj
theorem lt_succ_of2 {α : Type} {l : List α} {φ : Nat → α → Prop} {i : Nat} {y : α} (h : ∀ j x, j < i → l[j]? = some x → φ j x) (hy : l[i]? = some y) (hp : φ i y) : ∀ j x, j < i + 1 → l[j]? = some x → φ j x := by
  intro j x hj hx
  rcases Nat.lt_or_ge j i with q | q
  · exact h j x q hx
  · have : j = i := by omega
    subst this; rw [hx] at hy; cases hy; exact hp
theorem lt_succ_of {α : Type} {l : List α} {φ : α → Prop} {i : Nat} {y : α} (h : ∀ j x, j < i → l[j]? = some x → φ x) (hy : l[i]? = some y) (hp : φ y) : ∀ j x, j < i + 1 → l[j]? = some x → φ x := by
  intro j x hj hx
  rcases Nat.lt_or_ge j i with q | q
  · exact h j x q hx
  · have : j = i := by omega
    subst this; rw [hx] at hy; cases hy; exact hp
section
variable {α κ : Type} {c : κ → κ → Int} {f : α → κ}
/-- Strictly sorted. -/
def Sd (c : κ → κ → Int) (f : α → κ) (l : List α) : Prop := l.Pairwise fun a b => c (f a) (f b) < 0
def insS (c : κ → κ → Int) (f : α → κ) (x : α) : List α → List α
  | [] => [x]
  | y :: l => if c (f y) (f x) < 0 then y :: insS c f x l else x :: y :: l
def srt (c : κ → κ → Int) (f : α → κ) (l : List α) : List α := l.foldr (insS c f) []
theorem insS_perm (x : α) : ∀ l, (insS c f x l).Perm (x :: l)
  | [] => .refl _
  | y :: l => by
    unfold insS; split
    · exact ((insS_perm x l).cons y).trans (.swap _ _ _)
    · exact .refl _
theorem srt_perm : ∀ l : List α, (srt c f l).Perm l
  | [] => .refl _
  | x :: l => (insS_perm x _).trans ((srt_perm l).cons x)
theorem LawCmp.lt_of {c : κ → κ → Int} (hc : LawCmp c) {a b : κ} (h : ¬ c a b < 0) (hn : a ≠ b) : c b a < 0 := by
  have h1 := hc.anti a b; have h2 : c a b ≠ 0 := fun e => hn ((hc.eq0 _ _).1 e); omega
theorem LawCmp.ltTrans {c : κ → κ → Int} (hc : LawCmp c) {a b d : κ} (h1 : c a b < 0) (h2 : c b d < 0) : c a d < 0 := by
  have t := hc.trans a b d (by omega) (by omega)
  have z := hc.eq0 a d
  have a1 := hc.anti a b
  rcases Int.lt_or_eq_of_le t with q | q
  · exact q
  · have := z.1 q; subst this; have := hc.anti b a; omega
theorem insS_sd (hc : LawCmp c) (x : α) : ∀ {l : List α}, Sd c f l → (∀ y ∈ l, f y ≠ f x) → Sd c f (insS c f x l)
  | [], _, _ => List.pairwise_singleton _ _
  | y :: l, h, hn => by
    have h' := List.pairwise_cons.1 h
    unfold insS; split
    · rename_i hlt
      refine List.pairwise_cons.2 ⟨fun z hz => ?_, insS_sd hc x h'.2 (fun z hz => hn z (by simp [hz]))⟩
      rcases List.mem_cons.1 ((insS_perm x l).mem_iff.1 hz) with rfl | hz
      · exact hlt
      · exact h'.1 z hz
    · rename_i hge
      have hyx := hc.lt_of hge (hn y (by simp))
      refine List.pairwise_cons.2 ⟨fun z hz => ?_, h⟩
      rcases List.mem_cons.1 hz with rfl | hz
      · exact hyx
      · exact hc.ltTrans hyx (h'.1 z hz)
theorem srt_sd (hc : LawCmp c) : ∀ {l : List α}, (l.map f).Nodup → Sd c f (srt c f l)
  | [], _ => List.Pairwise.nil
  | x :: l, h => by
    rw [List.map_cons, List.nodup_cons] at h
    refine insS_sd hc x (srt_sd hc h.2) (fun y hy e => h.1 ?_)
    rw [← e]; exact List.mem_map_of_mem ((srt_perm l).mem_iff.1 hy)
theorem Sd.uniq (hc : LawCmp c) : ∀ {l l' : List α}, Sd c f l → Sd c f l' → l.Perm l' → l = l'
  | [], l', _, _, p => (List.Perm.nil_eq p)
  | x :: l, [], _, _, p => absurd p.length_eq (by simp)
  | x :: l, y :: l', h, h', p => by
    have a := List.pairwise_cons.1 h; have b := List.pairwise_cons.1 h'
    have e : x = y := by
      rcases List.mem_cons.1 (p.mem_iff.1 (List.mem_cons_self (a := x) (l := l))) with q | q
      · exact q
      · rcases List.mem_cons.1 (p.mem_iff.2 (List.mem_cons_self (a := y) (l := l'))) with q' | q'
        · exact q'.symm
        · have e1 := a.1 y q'; have e2 := b.1 x q; have := hc.anti (f x) (f y); omega
    subst e
    rw [Sd.uniq hc a.2 b.2 (List.Perm.cons_inv p)]
theorem Sd.nodup (hc : LawCmp c) {l : List α} (h : Sd c f l) : (l.map f).Nodup := by
  unfold List.Nodup
  rw [List.pairwise_map]
  refine h.imp fun {a b} hab e => ?_
  rw [e] at hab; have := (hc.eq0 (f b) (f b)).2 rfl; omega
theorem srt_eq (hc : LawCmp c) {l l' : List α} (h : Sd c f l') (p : l'.Perm l) : l' = srt c f l :=
  h.uniq hc (srt_sd hc ((p.map f).nodup_iff.1 (h.nodup hc))) (p.trans (srt_perm l).symm)
theorem srt_congr (hc : LawCmp c) {l l' : List α} (hn : (l.map f).Nodup) (p : l.Perm l') : srt c f l = srt c f l' :=
  srt_eq hc (srt_sd hc hn) ((srt_perm l).trans p)
theorem srt_len (l : List α) : (srt c f l).length = l.length := (srt_perm l).length_eq
/-- An element laid in between. -/
theorem Sd.ins (hc : LawCmp c) {l : List α} {x : α} {n : Nat} (h : Sd c f l) (h1 : ∀ j y, j < n → l[j]? = some y → c (f y) (f x) < 0) (h2 : ∀ y, l[n]? = some y → c (f x) (f y) < 0) : Sd c f (l.take n ++ x :: l.drop n) := by
  unfold Sd
  rw [List.pairwise_append]
  refine ⟨h.sublist (List.take_sublist _ _), ?_, fun a ha b hb => ?_⟩
  · refine List.pairwise_cons.2 ⟨fun y hy => ?_, h.sublist (List.drop_sublist _ _)⟩
    obtain ⟨i, hi⟩ := List.getElem?_of_mem hy
    rw [List.getElem?_drop] at hi
    cases i with
    | zero => exact h2 y hi
    | succ i =>
      have hlt := (List.getElem?_eq_some_iff.1 hi).1
      have h0 := List.getElem?_eq_getElem (l := l) (i := n) (by omega)
      have hp := List.pairwise_iff_getElem.1 h n (n + (i + 1)) (by omega) hlt (by omega)
      rw [(List.getElem?_eq_some_iff.1 hi).2] at hp
      exact hc.ltTrans (h2 _ h0) hp
  · have key : ∀ a ∈ l.take n, c (f a) (f x) < 0 := by
      intro a ha
      obtain ⟨j, hj⟩ := List.getElem?_of_mem ha
      rw [List.getElem?_take] at hj
      split at hj
      · rename_i hlt; exact h1 j a hlt hj
      · cases hj
    rcases List.mem_cons.1 hb with rfl | hb
    · exact key a ha
    · have hx : c (f x) (f b) < 0 := by
        obtain ⟨i, hi⟩ := List.getElem?_of_mem hb
        rw [List.getElem?_drop] at hi
        cases i with
        | zero => exact h2 b hi
        | succ i =>
          have hlt := (List.getElem?_eq_some_iff.1 hi).1
          have h0 := List.getElem?_eq_getElem (l := l) (i := n) (by omega)
          have hp := List.pairwise_iff_getElem.1 h n (n + (i + 1)) (by omega) hlt (by omega)
          rw [(List.getElem?_eq_some_iff.1 hi).2] at hp
          exact hc.ltTrans (h2 _ h0) hp
      exact hc.ltTrans (key a ha) hx
theorem ins_perm {l : List α} {x : α} {n : Nat} : (l.take n ++ x :: l.drop n).Perm (x :: l) := by
  refine List.perm_middle.trans ?_
  rw [List.take_append_drop]
end
/-! ### Tables -/
section
variable {K V : Type} [DecidableEq K]
def KN (l : List (K × V)) : Prop := (l.map (·.1)).Nodup
theorem mget_mem {k : K} {v : V} : ∀ {l : List (K × V)}, mget k l = some v → (k, v) ∈ l
  | p :: l, h => by
    unfold mget at h; split at h
    · rename_i hk; cases h; rw [hk]; exact List.mem_cons_self
    · exact List.mem_cons_of_mem _ (mget_mem h)
theorem mget_of_mem {k : K} {v : V} : ∀ {l : List (K × V)}, KN l → (k, v) ∈ l → mget k l = some v
  | p :: l, hn, h => by
    have hn' : p.1 ∉ l.map (·.1) ∧ (l.map (·.1)).Nodup := List.nodup_cons.1 hn
    unfold mget
    rcases List.mem_cons.1 h with rfl | h
    · simp
    · rw [if_neg, mget_of_mem hn'.2 h]
      intro e; exact hn'.1 (by rw [← e]; exact List.mem_map.2 ⟨_, h, rfl⟩)
theorem mget_none {k : K} : ∀ {l : List (K × V)}, mget k l = none ↔ k ∉ l.map (·.1)
  | [] => by simp [mget]
  | p :: l => by
    unfold mget; split
    · rename_i hk; simp [hk]
    · rename_i hk; rw [mget_none, List.map_cons, List.mem_cons]; simp [hk]
theorem mput_keys {k : K} {v : V} : ∀ {l : List (K × V)}, (mput k v l).map (·.1) = if (mget k l).isSome then l.map (·.1) else l.map (·.1) ++ [k]
  | [] => by simp [mput, mget]
  | p :: l => by
    unfold mput mget; split
    · rename_i hk; simp [hk]
    · rw [List.map_cons, mput_keys]; split <;> simp
theorem KN.mput {k : K} {v : V} {l : List (K × V)} (h : KN l) : KN (mput k v l) := by
  unfold KN; rw [mput_keys]; split
  · exact h
  · rename_i hn
    have : mget k l = none := by cases hq : mget k l <;> simp_all
    rw [List.nodup_append]
    refine ⟨h, by simp, fun a ha b hb => ?_⟩
    simp at hb; subst hb
    intro e; subst e; exact mget_none.1 this ha
theorem mput_len {k : K} {v : V} {l : List (K × V)} : (mput k v l).length = if (mget k l).isSome then l.length else l.length + 1 := by
  have := congrArg List.length (mput_keys (k := k) (v := v) (l := l))
  split at this <;> simp_all
theorem mget_mput {k k' : K} {v : V} : ∀ {l : List (K × V)}, mget k' (mput k v l) = if k' = k then some v else mget k' l
  | [] => by simp [mput, mget]
  | p :: l => by
    unfold mput; split
    · rename_i hk
      simp only [mget]
      by_cases e : k' = k
      · simp [e]
      · simp [e, show ¬ k' = p.1 from fun q => e (q.trans hk.symm)]
    · rename_i hk
      simp only [mget, mget_mput]
      by_cases e : k' = p.1
      · have : ¬ k' = k := fun q => hk (q.symm.trans e)
        simp [e, show ¬ p.1 = k from fun q => hk q.symm]
      · simp [e]
theorem KN.perm {l l' : List (K × V)} (hn : KN l) (p : l.Perm l') : KN l' := (p.map (fun q : K × V => q.1)).nodup_iff.1 hn
theorem KN.nodup {l : List (K × V)} (h : KN l) : l.Nodup := by
  unfold KN List.Nodup at h
  rw [List.pairwise_map] at h
  exact List.Pairwise.imp (fun hab e => hab (by rw [e])) h
theorem mget_perm {l l' : List (K × V)} (hn : KN l) (p : l.Perm l') (k : K) : mget k l = mget k l' := by
  have hn' : KN l' := hn.perm p
  cases h : mget k l with
  | some v => exact (mget_of_mem hn' (p.mem_iff.1 (mget_mem h))).symm
  | none =>
    cases h' : mget k l' with
    | none => rfl
    | some v => rw [mget_of_mem hn (p.mem_iff.2 (mget_mem h'))] at h; cases h
theorem perm_of_mget : ∀ {l l' : List (K × V)}, KN l → KN l' → (∀ k, mget k l = mget k l') → l.Perm l' := by
  intro l l' h h' e
  have hl : l.Nodup := h.nodup
  have hl' : l'.Nodup := h'.nodup
  rw [List.perm_ext_iff_of_nodup hl hl']
  intro ⟨k, v⟩
  constructor
  · intro q; exact mget_mem (by rw [← e]; exact mget_of_mem h q)
  · intro q; exact mget_mem (by rw [e]; exact mget_of_mem h' q)
theorem mput_perm {k : K} {v : V} : ∀ {l : List (K × V)}, (mget k l).isSome → KN l → (mput k v l).map (·.1) = l.map (·.1) := by
  intro l h _; rw [mput_keys, if_pos h]
theorem mdel_keys {k : K} : ∀ {l : List (K × V)}, KN l → (mdel k l).map (·.1) = (l.map (·.1)).filter (fun x => decide (x ≠ k))
  | [], _ => rfl
  | p :: l, h => by
    have h' : p.1 ∉ l.map (·.1) ∧ (l.map (·.1)).Nodup := List.nodup_cons.1 h
    unfold mdel; split
    · rename_i hk
      rw [List.map_cons, List.filter_cons_of_neg (by simp [hk])]
      refine (List.filter_eq_self.2 fun x hx => ?_).symm
      simp only [decide_eq_true_eq]
      intro e; subst e; exact h'.1 (by rw [← hk]; exact hx)
    · rename_i hk
      rw [List.map_cons, List.map_cons, List.filter_cons_of_pos (by simp [show p.1 ≠ k from fun e => hk e.symm]), mdel_keys h'.2]
theorem KN.mdel {k : K} {l : List (K × V)} (h : KN l) : KN (mdel k l) := by
  unfold KN; rw [mdel_keys h]; exact List.Pairwise.filter _ h
theorem mget_mdel {k k' : K} : ∀ {l : List (K × V)}, KN l → mget k' (mdel k l) = if k' = k then none else mget k' l
  | [], _ => by simp [mdel, mget]
  | p :: l, h => by
    have h' : p.1 ∉ l.map (·.1) ∧ (l.map (·.1)).Nodup := List.nodup_cons.1 h
    unfold mdel; split
    · rename_i hk
      by_cases e : k' = k
      · subst e; rw [if_pos rfl, mget_none]; rw [hk]; exact h'.1
      · rw [if_neg e]; simp only [mget]; rw [if_neg (fun q => e (q.trans hk.symm))]
    · rename_i hk
      simp only [mget, mget_mdel h'.2]
      by_cases e : k' = p.1
      · have : ¬ p.1 = k := fun q => hk q.symm
        simp [e, this]
      · simp [e]
end
end Csl

namespace Csl
def lowB (c : UInt8) : Bool := (decide (97 ≤ c.toNat) && decide (c.toNat ≤ 122)) || (decide (48 ≤ c.toNat) && decide (c.toNat ≤ 57))
def moreS : Nat → List UInt8
  | 0 => [46, 45, 95]
  | 1 => [46, 45]
  | _ => [45, 95, 65, 66, 67, 68, 69, 70, 71, 72, 73, 74, 75, 76, 77, 78, 79, 80, 81, 82, 83, 84, 85, 86, 87, 88, 89, 90]
def amK : Nat → UInt8 → Bool
  | 0, c => lowB c || (decide (c.toNat = 46) || (decide (c.toNat = 45) || decide (c.toNat = 95)))
  | 1, c => lowB c || (decide (c.toNat = 46) || decide (c.toNat = 45))
  | _, c => lowB c || ((decide (65 ≤ c.toNat) && decide (c.toNat ≤ 90)) || (decide (c.toNat = 45) || decide (c.toNat = 95)))
theorem am_all : ∀ n < 256, ∀ k < 3, (lowB (UInt8.ofNat n) || decide (0 ≤ Lib.indexByte (moreS k) (UInt8.ofNat n))) = amK k (UInt8.ofNat n) := by decide +kernel
theorem am_eq {k : Nat} (hk : k < 3) (c : UInt8) : (lowB c || decide (0 ≤ Lib.indexByte (moreS k) c)) = amK k c := by
  have := am_all c.toNat c.toNat_lt k hk
  rwa [UInt8.ofNat_toNat] at this
def mayB (k : Nat) (l : List UInt8) : Bool := l.all (amK k) && (decide (l ≠ []) && decide (l.length ≤ 16))
def serverB (l : List UInt8) : Bool := mayB 1 l && (lowB (l.getD 0 0) && lowB (l.getD (l.length - 1) 0))
def colI (l : List UInt8) : Int := Lib.indexByte l 58
def namedB (sg : UInt8) : List UInt8 → Bool
  | [] => false
  | c :: r => decide (c = sg) && (decide (0 ≤ colI r) && (mayB 0 (r.take (colI r).toNat) && serverB (r.drop ((colI r).toNat + 1))))
def eventB : List UInt8 → Bool
  | [] => false
  | c :: r => decide (c = 36) && mayB 2 r
def mainL : List UInt8 := [109, 97, 105, 110]
def threadB (l : List UInt8) : Bool := decide (l = []) || (decide (l = mainL) || eventB l)
def homeB (l : List UInt8) : List UInt8 := if namedB 64 l || namedB 33 l then l.drop ((colI l).toNat + 1) else []
def localB (l : List UInt8) : List UInt8 := if namedB 64 l || namedB 33 l then (l.drop 1).take (colI (l.drop 1)).toNat else []
theorem colI_ge (l : List UInt8) : -1 ≤ colI l := Lib.indexByte_ge l 58
theorem colI_cons (c : UInt8) (r : List UInt8) : colI (c :: r) = if c = 58 then 0 else if colI r = -1 then -1 else colI r + 1 := by
  unfold colI
  conv => lhs; unfold Lib.indexByte
  simp
theorem colI_lt : ∀ {l : List UInt8}, 0 ≤ colI l → (colI l).toNat < l.length
  | [], h => by simp [colI, Lib.indexByte] at h
  | c :: r, h => by
    rw [colI_cons] at h ⊢
    split
    · simp
    · rename_i h1
      rw [if_neg h1] at h
      split
      · rename_i h2; rw [if_pos h2] at h; omega
      · rename_i h2; rw [if_neg h2] at h
        have := colI_ge r
        have ih := colI_lt (l := r) (by omega)
        simp only [List.length_cons]; omega
theorem colI_at : ∀ {l : List UInt8} {i : Nat}, (∀ j c, j < i → l[j]? = some c → c ≠ 58) → l[i]? = some 58 → colI l = i
  | [], _, _, h => by simp at h
  | c :: r, 0, _, h => by simp at h; subst h; rw [colI_cons]; simp
  | c :: r, i + 1, hn, h => by
    have h0 := hn 0 c (by omega) rfl
    have ih := colI_at (l := r) (i := i) (fun j d hj hd => hn (j + 1) d (by omega) (by simpa using hd)) (by simpa using h)
    rw [colI_cons, if_neg h0, ih, if_neg (by omega)]; omega
theorem colI_none : ∀ {l : List UInt8}, (∀ c ∈ l, c ≠ 58) → colI l = -1
  | [], _ => rfl
  | c :: r, h => by rw [colI_cons, if_neg (h c (by simp)), colI_none (fun d hd => h d (by simp [hd]))]; rfl
theorem u8_eq {c : UInt8} {n : Nat} (h : (c.toNat : Int) = n) (hn : n < 256) : c = UInt8.ofNat n := by
  apply UInt8.toNat_inj.1; rw [UInt8.toNat_ofNat_of_lt' (by simpa [UInt8.size] using hn)]; omega
theorem all_true {l : List UInt8} {p : UInt8 → Bool} {i : Nat} (h : ∀ j c, j < i → l[j]? = some c → p c = true) (hi : l.length ≤ i) : l.all p = true := by
  rw [List.all_eq_true]; exact fun x hx => all_of_lt h hi x hx
theorem all_false {l : List UInt8} {p : UInt8 → Bool} {i : Nat} {c : UInt8} (h : l[i]? = some c) (hp : p c = false) : l.all p = false := by
  cases q : l.all p with
  | false => rfl
  | true => rw [List.all_eq_true] at q; rw [q c (List.mem_of_getElem? h)] at hp; cases hp
theorem mayB_false {k : Nat} {l : List UInt8} {i : Nat} {c : UInt8} (h : l[i]? = some c) (hp : amK k c = false) : mayB k l = false := by unfold mayB; rw [all_false h hp]; rfl
/-- What the reference asks of a server's byte. -/
def okS (l : List UInt8) (j : Nat) (c : UInt8) : Bool := lowB c || ((decide (0 < j) && decide (j + 1 < l.length)) && (decide (c.toNat = 46) || decide (c.toNat = 45)))
theorem okS_am {l : List UInt8} {j : Nat} {c : UInt8} (h : okS l j c = true) : amK 1 c = true := by
  unfold okS at h; unfold amK
  simp at h ⊢
  rcases h with h | h
  · exact .inl h
  · exact .inr h.2
theorem server_true {l : List UInt8} {i : Nat} (h : ∀ j c, j < i → l[j]? = some c → okS l j c = true) (hi : l.length ≤ i) : serverB l = (decide (0 < l.length) && decide (l.length < 17)) := by
  have hall : l.all (amK 1) = true := all_true (i := i) (fun j c hj hc => okS_am (h j c hj hc)) hi
  unfold serverB mayB
  rw [hall]
  cases hq : l with
  | nil => rfl
  | cons c r =>
    rw [← hq]
    have hne : 0 < l.length := by rw [hq]; simp
    have h0 := List.getElem?_eq_getElem (l := l) (i := 0) (by omega)
    have h1 := List.getElem?_eq_getElem (l := l) (i := l.length - 1) (by omega)
    have g0 := h 0 _ (by omega) h0
    have g1 := h (l.length - 1) _ (by omega) h1
    have e0 : lowB (l.getD 0 0) = true := by
      rw [List.getD_eq_getElem?_getD, h0]
      unfold okS at g0; simpa using g0
    have e1 : lowB (l.getD (l.length - 1) 0) = true := by
      rw [List.getD_eq_getElem?_getD, h1]
      unfold okS at g1
      have : ¬ (l.length - 1 + 1 < l.length) := by omega
      simpa [this] using g1
    rw [e0, e1]
    have : l ≠ [] := by rw [hq]; simp
    simp [this, hne]
    omega
theorem server_false {l : List UInt8} {j : Nat} {c : UInt8} (h : l[j]? = some c) (hp : okS l j c = false) : serverB l = false := by
  unfold serverB
  cases ha : amK 1 c with
  | false => rw [mayB_false h ha]; rfl
  | true =>
    have hl : lowB c = false := by
      cases q : lowB c with
      | false => rfl
      | true => unfold okS at hp; rw [q] at hp; simp at hp
    have hlt := (List.getElem?_eq_some_iff.1 h).1
    unfold okS at hp; rw [show amK 1 c = (lowB c || (decide (c.toNat = 46) || decide (c.toNat = 45))) from rfl] at ha
    rw [hl] at hp ha
    simp only [Bool.false_or] at hp ha
    rw [ha, Bool.and_true, Bool.and_eq_false_iff] at hp
    have hend : j = 0 ∨ j = l.length - 1 := by
      rcases hp with hp | hp
      · left; simpa using hp
      · right; simp at hp; omega
    rcases hend with rfl | rfl
    · rw [show l.getD 0 0 = c from by rw [List.getD_eq_getElem?_getD, h]; rfl, hl]; simp
    · rw [show l.getD (l.length - 1) 0 = c from by rw [List.getD_eq_getElem?_getD, h]; rfl, hl]; simp
theorem part_true {k : Nat} {l : List UInt8} {i : Nat} (h : ∀ j c, j < i → l[j]? = some c → amK k c = true) (hi : l.length ≤ i) : mayB k l = (decide (0 < l.length) && decide (l.length < 17)) := by
  unfold mayB
  rw [all_true h hi, Bool.true_and]
  have e1 : decide (l ≠ []) = decide (0 < l.length) := by cases l <;> simp
  have e2 : decide (l.length ≤ 16) = decide (l.length < 17) := by rw [Bool.eq_iff_iff]; simp; omega
  rw [e1, e2]
theorem namedB_cons {sg c : UInt8} {r : List UInt8} : namedB sg (c :: r) = (decide (c = sg) && (decide (0 ≤ colI r) && (mayB 0 (r.take (colI r).toNat) && serverB (r.drop ((colI r).toNat + 1))))) := rfl
theorem named_head {sg : UInt8} {l : List UInt8} (h : namedB sg l = true) : ∃ r, l = sg :: r ∧ 0 ≤ colI r := by
  cases l with
  | nil => cases h
  | cons c r => rw [namedB_cons] at h; simp at h; exact ⟨r, by rw [h.1], h.2.1⟩
theorem colI_tail {c : UInt8} {r : List UInt8} (hc : c ≠ 58) (h : 0 ≤ colI r) : colI (c :: r) = colI r + 1 := by rw [colI_cons, if_neg hc, if_neg (by omega)]
def cutL (l : List UInt8) (c : UInt8) : List UInt8 × List UInt8 × Bool := if 0 ≤ Lib.indexByte l c then (l.take (Lib.indexByte l c).toNat, l.drop ((Lib.indexByte l c).toNat + 1), true) else (l, [], false)
theorem cutL_no {l : List UInt8} {c : UInt8} (h : Lib.indexByte l c < 0) : cutL l c = (l, [], false) := by unfold cutL; rw [if_neg (by omega)]
theorem cutL_yes {l : List UInt8} {c : UInt8} (h : 0 ≤ Lib.indexByte l c) : cutL l c = (l.take (Lib.indexByte l c).toNat, l.drop ((Lib.indexByte l c).toNat + 1), true) := by unfold cutL; rw [if_pos h]
def preL (l : List UInt8) (sg : UInt8) : List UInt8 × Bool := if l.head? = some sg then (l.drop 1, true) else (l, false)
theorem ix_cons {b c : UInt8} {r : List UInt8} : Lib.indexByte (b :: r) c = if b = c then 0 else if Lib.indexByte r c = -1 then -1 else Lib.indexByte r c + 1 := by
  conv => lhs; unfold Lib.indexByte
  simp
theorem ix_lt : ∀ {l : List UInt8} {c : UInt8}, 0 ≤ Lib.indexByte l c → (Lib.indexByte l c).toNat < l.length
  | [], c, h => by simp [Lib.indexByte] at h
  | b :: r, c, h => by
    have h0 := Lib.indexByte_ge r c
    have h1 := ix_cons (b := b) (r := r) (c := c)
    rw [h1] at h ⊢
    split
    · simp
    · rename_i h2
      rw [if_neg h2] at h
      split
      · rename_i h3; rw [if_pos h3] at h; omega
      · rename_i h3
        have := ix_lt (l := r) (c := c) (by omega)
        simp only [List.length_cons]; omega
theorem take1_head {l : List UInt8} {sg : UInt8} : l.take 1 = [sg] ↔ l.head? = some sg := by cases l <;> simp
theorem split_yes {sg : UInt8} {l : List UInt8} (h : l.head? = some sg) : ∃ r, l = sg :: r := by cases l <;> simp_all
theorem named_not {sg : UInt8} {l : List UInt8} (h : ¬ l.head? = some sg) : namedB sg l = false := by
  cases l with
  | nil => rfl
  | cons c r => rw [namedB_cons]; simp at h; simp [h]
theorem named_col {sg : UInt8} {l : List UInt8} (hs : sg ≠ 58) (h : colI l < 1) : namedB sg l = false := by
  cases q : namedB sg l with
  | false => rfl
  | true =>
    obtain ⟨r, rfl, hr⟩ := named_head q
    rw [colI_tail hs hr] at h; omega
theorem named_any {l : List UInt8} (h : namedB 64 l = true ∨ namedB 33 l = true) : ∃ c r, l = c :: r ∧ 0 ≤ colI r ∧ colI l = colI r + 1 := by
  rcases h with h | h
  · obtain ⟨r, rfl, hr⟩ := named_head h; exact ⟨_, r, rfl, hr, colI_tail (by decide) hr⟩
  · obtain ⟨r, rfl, hr⟩ := named_head h; exact ⟨_, r, rfl, hr, colI_tail (by decide) hr⟩
theorem event_short {l : List UInt8} (h : l.length < 2) : eventB l = false := by
  match l, h with
  | [], _ => rfl
  | [c], _ => simp [eventB, mayB]
theorem event_long {l : List UInt8} (h : 17 < l.length) : eventB l = false := by
  cases l with
  | nil => rfl
  | cons c r =>
    have : ¬ r.length ≤ 16 := by simp at h; omega
    simp [eventB, mayB, this]
theorem event_head {l : List UInt8} {c : UInt8} (h : l[0]? = some c) (hc : c ≠ 36) : eventB l = false := by
  cases l with
  | nil => rfl
  | cons d r => simp at h; subst h; simp [eventB, hc]
end Csl

end Go.Proofs.YtaaondbmkibkkaaGreat
