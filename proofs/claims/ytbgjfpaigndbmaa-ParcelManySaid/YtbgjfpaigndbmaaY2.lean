/- What is read, plainly. -/
import Derived.Test.YtbgjfpaigndbmaaY1
set_option linter.unusedVariables false
set_option linter.unusedSimpArgs false
set_option linter.unusedSectionVars false
namespace Go.Proofs.Ytbgjfpaigndbmaa
open Go Csl


namespace Csl
/-! ### What is read -/
def leadF : Nat → List UInt8 → Nat
  | 0, _ => 0
  | _ + 1, [] => 0
  | n + 1, c :: cs => if 128 ≤ c.toNat then leadF n cs + 1 else 0
/-- How many bytes go on (nine at most). -/
def lead (bs : List UInt8) : Nat := leadF 9 bs
def val : List UInt8 → Nat
  | [] => 0
  | c :: cs => c.toNat % 128 + 128 * val cs
inductive Dec
  | short
  | form
  | ok (n k : Nat)
def dec (bs : List UInt8) : Dec :=
  if lead bs = 9 then .form else if lead bs = bs.length then .short
  else if 0 < lead bs ∧ bs.getD (lead bs) 0 = 0 then .form else .ok (val (bs.take (lead bs + 1))) (lead bs + 1)
theorem leadF_le : ∀ (n : Nat) (bs : List UInt8), leadF n bs ≤ n ∧ leadF n bs ≤ bs.length
  | 0, _ => ⟨Nat.le_refl _, Nat.zero_le _⟩
  | n + 1, [] => by simp [leadF]
  | n + 1, c :: cs => by
    have := leadF_le n cs
    simp only [leadF]; split <;> simp <;> omega
theorem lead_le (bs : List UInt8) : lead bs ≤ 9 ∧ lead bs ≤ bs.length := leadF_le 9 bs
theorem leadF_high : ∀ (n : Nat) (bs : List UInt8) (j : Nat), j < leadF n bs → 128 ≤ (bs.getD j 0).toNat
  | 0, _, j, h => by simp [leadF] at h
  | n + 1, [], j, h => by simp [leadF] at h
  | n + 1, c :: cs, j, h => by
    simp only [leadF] at h
    split at h
    · rename_i hc
      cases j with
      | zero => simpa using hc
      | succ j => simpa using leadF_high n cs j (by omega)
    · omega
theorem leadF_stop : ∀ (n i : Nat) (bs : List UInt8), i ≤ n → i ≤ bs.length → (∀ j, j < i → 128 ≤ (bs.getD j 0).toNat) → (i = n ∨ i = bs.length ∨ (bs.getD i 0).toNat < 128) → leadF n bs = i
  | 0, i, bs, h, _, _, _ => by simp [leadF]; omega
  | n + 1, 0, [], _, _, _, _ => by simp [leadF]
  | n + 1, i + 1, [], _, h, _, _ => by simp at h
  | n + 1, 0, c :: cs, _, _, _, hs => by
    simp only [leadF]
    have : ¬ 128 ≤ c.toNat := by rcases hs with hs | hs | hs <;> simp at hs; omega
    rw [if_neg this]
  | n + 1, i + 1, c :: cs, h1, h2, h3, hs => by
    have hc : 128 ≤ c.toNat := by simpa using h3 0 (by omega)
    simp only [leadF]
    rw [if_pos hc, leadF_stop n i cs (by omega) (by simpa using h2) (fun j hj => by simpa using h3 (j + 1) (by omega)) (by simpa using hs)]
theorem lead_stop {i : Nat} {bs : List UInt8} (h1 : i ≤ 9) (h2 : i ≤ bs.length) (h3 : ∀ j, j < i → 128 ≤ (bs.getD j 0).toNat) (hs : i = 9 ∨ i = bs.length ∨ (bs.getD i 0).toNat < 128) : lead bs = i := leadF_stop 9 i bs h1 h2 h3 hs
theorem val_snoc (l : List UInt8) (c : UInt8) : val (l ++ [c]) = val l + c.toNat % 128 * 128 ^ l.length := by
  induction l with
  | nil => simp [val]
  | cons x l ih => simp only [List.cons_append, val, ih, List.length_cons, Nat.pow_succ, Nat.mul_add]; rw [← Nat.mul_assoc, Nat.mul_comm 128 (c.toNat % 128), Nat.mul_assoc, Nat.mul_comm 128 (128 ^ l.length)]; omega
theorem val_lt (l : List UInt8) : val l < 128 ^ l.length := by
  induction l with
  | nil => simp [val]
  | cons x l ih => simp only [val, List.length_cons, Nat.pow_succ]; omega
theorem take_snoc {bs : List UInt8} {i : Nat} (h : i < bs.length) : bs.take (i + 1) = bs.take i ++ [bs.getD i 0] := by
  rw [List.take_succ_eq_append_getElem h, List.getD_eq_getElem?_getD, List.getElem?_eq_getElem h]; rfl
theorem val_take {bs : List UInt8} {i : Nat} (h : i < bs.length) : val (bs.take (i + 1)) = val (bs.take i) + (bs.getD i 0).toNat % 128 * 128 ^ i := by
  rw [take_snoc h, val_snoc]; simp [Nat.min_eq_left (Nat.le_of_lt h)]
theorem val_take_lt (bs : List UInt8) (i : Nat) : val (bs.take i) < 128 ^ i := by
  have h1 := val_lt (bs.take i)
  have h2 : (bs.take i).length ≤ i := List.length_take_le _ _
  exact Nat.lt_of_lt_of_le h1 (Nat.pow_le_pow_right (by decide) h2)
/-- A number of no more bytes than are needed is laid as it stood. -/
theorem numN_val : ∀ (hs : List UInt8) (c : UInt8), (∀ b ∈ hs, 128 ≤ b.toNat) → c.toNat < 128 → (hs = [] ∨ c ≠ 0) → numN (val (hs ++ [c])) = hs ++ [c]
  | [], c, _, hc, _ => by
    simp only [List.nil_append, val]
    rw [Nat.mul_zero, Nat.add_zero, Nat.mod_eq_of_lt hc, numN_small hc]; simp
  | b :: hs, c, hh, hc, h0 => by
    have hb := hh b (by simp)
    have hb2 : b.toNat < 256 := b.toNat_lt
    have hc0 : c ≠ 0 := by rcases h0 with h0 | h0; cases h0; exact h0
    have ih := numN_val hs c (fun x hx => hh x (by simp [hx])) hc (.inr hc0)
    have hpos : 0 < val (hs ++ [c]) := by
      rw [val_snoc]
      have : c.toNat ≠ 0 := fun h => hc0 (UInt8.toNat_inj.1 (by simpa using h))
      have h1 : 0 < c.toNat % 128 := by rw [Nat.mod_eq_of_lt hc]; omega
      have h2 : 0 < 128 ^ hs.length := Nat.pow_pos (by decide)
      have := Nat.mul_pos h1 h2
      omega
    simp only [List.cons_append, val]
    rw [numN_big (by omega), show (b.toNat % 128 + 128 * val (hs ++ [c])) / 128 = val (hs ++ [c]) from by omega, ih]
    congr 1
    apply UInt8.toNat_inj.1
    rw [UInt8.toNat_ofNat_of_lt' (by simp [UInt8.size]; omega)]; omega
theorem numN_val_short (hs : List UInt8) (h : hs ≠ []) : (numN (val (hs ++ [0]))).length < hs.length + 1 := by
  have e : val (hs ++ [0]) = val hs := by rw [val_snoc]; simp
  rw [e]
  have hl : 0 < hs.length := List.length_pos_iff.2 h
  have := numN_len (hs.length - 1) (val hs) (by rw [show hs.length - 1 + 1 = hs.length from by omega]; exact val_lt hs)
  omega
theorem numN_shape (n : Nat) : ∃ hs c, numN n = hs ++ [c] ∧ (∀ b ∈ hs, 128 ≤ b.toNat) ∧ c.toNat < 128 ∧ val (hs ++ [c]) = n ∧ (hs = [] ∨ c ≠ 0) := by
  induction n using Nat.strongRecOn with
  | _ n ih =>
    by_cases h : n < 128
    · refine ⟨[], UInt8.ofNat n, numN_small h, by simp, ?_, ?_, .inl rfl⟩
      · rw [UInt8.toNat_ofNat_of_lt' (by simp [UInt8.size]; omega)]; exact h
      · simp only [List.nil_append, val]; rw [UInt8.toNat_ofNat_of_lt' (by simp [UInt8.size]; omega)]; omega
    · obtain ⟨hs, c, h1, h2, h3, h4, h5⟩ := ih (n / 128) (by omega)
      have e : (UInt8.ofNat (n % 128 + 128)).toNat = n % 128 + 128 := UInt8.toNat_ofNat_of_lt' (by simp [UInt8.size]; omega)
      refine ⟨UInt8.ofNat (n % 128 + 128) :: hs, c, by rw [numN_big (by omega), h1]; rfl, ?_, h3, ?_, ?_⟩
      · intro b hb
        rcases List.mem_cons.1 hb with rfl | hb
        · omega
        · exact h2 b hb
      · simp only [List.cons_append, val, h4, e]; omega
      · right
        rcases h5 with rfl | h5
        · intro h0; subst h0; simp [val] at h4; omega
        · exact h5
theorem getD_app_lt {l m : List UInt8} {j : Nat} (h : j < l.length) : (l ++ m).getD j 0 = l.getD j 0 := by simp [List.getD_eq_getElem?_getD, List.getElem?_append_left h]
theorem getD_mem {l : List UInt8} {j : Nat} (h : j < l.length) : l.getD j 0 ∈ l := by
  rw [List.getD_eq_getElem?_getD, List.getElem?_eq_getElem h]; exact List.getElem_mem h
theorem lead_app {hs m : List UInt8} {c : UInt8} (hh : ∀ b ∈ hs, 128 ≤ b.toNat) (hc : c.toNat < 128) (hl : hs.length < 9) : lead (hs ++ [c] ++ m) = hs.length := by
  refine lead_stop (by omega) (by simp) (fun j hj => ?_) (.inr (.inr ?_))
  · rw [List.append_assoc, getD_app_lt hj]; exact hh _ (getD_mem hj)
  · simp [List.getD_eq_getElem?_getD]; exact hc
/-- What the reference asks: whether as many bytes are needed. -/
theorem lead_form {bs : List UInt8} (h : lead bs < 9) (h2 : lead bs < bs.length) : (numN (val (bs.take (lead bs + 1)))).length = lead bs + 1 ↔ ¬ (0 < lead bs ∧ bs.getD (lead bs) 0 = 0) := by
  have hlow : (bs.getD (lead bs) 0).toNat < 128 := by
    rcases Nat.lt_or_ge (bs.getD (lead bs) 0).toNat 128 with x | x
    · exact x
    · have := leadF_stop 9 (lead bs + 1) bs (by omega) (by omega) (fun j hj => by
        rcases Nat.lt_or_ge j (lead bs) with y | y
        · exact leadF_high 9 bs j y
        · have : j = lead bs := by omega
          subst this; exact x) 
      by_cases h9 : lead bs + 1 = 9
      · have := this (.inl h9); unfold lead at *; omega
      · by_cases hl : lead bs + 1 = bs.length
        · have := this (.inr (.inl hl)); unfold lead at *; omega
        · exfalso
          -- the scan would have gone on
          have key : ∀ (n : Nat) (l : List UInt8), leadF n l < n → leadF n l < l.length → (l.getD (leadF n l) 0).toNat < 128 := by
            intro n
            induction n with
            | zero => intro l h; omega
            | succ n ih =>
              intro l h1 h2
              cases l with
              | nil => simp at h2
              | cons c cs =>
                simp only [leadF] at h1 h2 ⊢
                by_cases hc : 128 ≤ c.toNat
                · rw [if_pos hc] at h1 h2 ⊢
                  have := ih cs (by omega) (by simpa using h2)
                  simpa using this
                · rw [if_neg hc]; simpa using hc
          have := key 9 bs h h2
          unfold lead at x; omega
  rw [take_snoc h2]
  have hlen : (bs.take (lead bs)).length = lead bs := by simp; omega
  have hall : ∀ b ∈ bs.take (lead bs), 128 ≤ b.toNat := by
    intro b hb
    obtain ⟨j, hj, rfl⟩ := List.mem_iff_getElem.1 hb
    have hj' : j < lead bs := by rw [hlen] at hj; exact hj
    have := leadF_high 9 bs j hj'
    rw [List.getD_eq_getElem?_getD, List.getElem?_eq_getElem (by omega)] at this
    simpa using this
  constructor
  · intro e hn
    rw [hn.2] at e
    have := numN_val_short (bs.take (lead bs)) (by intro h0; rw [h0] at hlen; simp at hlen; omega)
    omega
  · intro hn
    rw [numN_val _ _ hall hlow]
    · simp [hlen]
    · by_cases h0 : lead bs = 0
      · left; rw [h0]; simp
      · right; intro hc; exact hn ⟨by omega, hc⟩
/-- The next number: what is told, what is left, the error. -/
def rdNum (bs : List UInt8) (er : Int) : Int × List UInt8 × Int :=
  if er ≠ 0 then (0, bs, er) else match dec bs with
    | .short => (0, [], 3)
    | .form => (0, [], 2)
    | .ok n k => (n, bs.drop k, 0)
def rdText (most : Int) (bs : List UInt8) (er : Int) : List UInt8 × List UInt8 × Int :=
  let q := rdNum bs er
  if q.2.2 ≠ 0 then ([], q.2) else if q.1 > most then ([], [], 2) else if q.1 > q.2.1.length then ([], [], 3) else (q.2.1.take q.1.toNat, q.2.1.drop q.1.toNat, 0)
def rdFlag (bs : List UInt8) (er : Int) : Bool × List UInt8 × Int :=
  if er ≠ 0 then (false, bs, er) else match bs with
    | [] => (false, [], 3)
    | c :: cs => if c.toNat > 1 then (false, [], 2) else (c.toNat == 1, cs, 0)
theorem lead_lt_of_ok {bs : List UInt8} {n k : Nat} (h : dec bs = .ok n k) : k ≤ bs.length ∧ 1 ≤ k ∧ n < 128 ^ 9 ∧ k ≤ 9 := by
  have hl := lead_le bs
  unfold dec at h
  split at h
  · cases h
  split at h
  · cases h
  split at h
  · cases h
  · cases h
    refine ⟨by omega, by omega, ?_, by omega⟩
    exact Nat.lt_of_lt_of_le (val_take_lt bs _) (Nat.pow_le_pow_right (by decide) (by omega))
/-- What a number leaves. -/
theorem rdNum_inv {bs : List UInt8} {er : Int} (h : er ≠ 0 → bs = []) : ((rdNum bs er).2.2 ≠ 0 → (rdNum bs er).2.1 = []) ∧ (rdNum bs er).2.1.length ≤ bs.length ∧ 0 ≤ (rdNum bs er).1 ∧ (rdNum bs er).1 < 9223372036854775808 := by
  unfold rdNum
  split
  · rename_i h0; exact ⟨fun _ => h h0, Nat.le_refl _, Int.le_refl 0, (by decide : (0 : Int) < 9223372036854775808)⟩
  · split
    · exact ⟨fun _ => rfl, Nat.zero_le _, Int.le_refl 0, (by decide : (0 : Int) < 9223372036854775808)⟩
    · exact ⟨fun _ => rfl, Nat.zero_le _, Int.le_refl 0, (by decide : (0 : Int) < 9223372036854775808)⟩
    · rename_i n k hd
      have hk := lead_lt_of_ok hd
      have e : (128 : Nat) ^ 9 = 9223372036854775808 := by decide
      exact ⟨fun h => absurd rfl h, by simp, by simp, by simp; omega⟩
theorem rdText_er {most : Int} {bs : List UInt8} {er : Int} (h : (rdNum bs er).2.2 ≠ 0) : rdText most bs er = ([], (rdNum bs er).2) := by unfold rdText; exact if_pos h
theorem rdText_form {most : Int} {bs : List UInt8} {er : Int} (h : ¬ (rdNum bs er).2.2 ≠ 0) (h1 : (rdNum bs er).1 > most) : rdText most bs er = ([], [], 2) := by unfold rdText; rw [if_neg h, if_pos h1]
theorem rdText_short {most : Int} {bs : List UInt8} {er : Int} (h : ¬ (rdNum bs er).2.2 ≠ 0) (h1 : ¬ (rdNum bs er).1 > most) (h2 : (rdNum bs er).1 > (rdNum bs er).2.1.length) : rdText most bs er = ([], [], 3) := by unfold rdText; rw [if_neg h, if_neg h1, if_pos h2]
theorem rdText_ok {most : Int} {bs : List UInt8} {er : Int} (h : ¬ (rdNum bs er).2.2 ≠ 0) (h1 : ¬ (rdNum bs er).1 > most) (h2 : ¬ (rdNum bs er).1 > (rdNum bs er).2.1.length) : rdText most bs er = ((rdNum bs er).2.1.take (rdNum bs er).1.toNat, (rdNum bs er).2.1.drop (rdNum bs er).1.toNat, 0) := by unfold rdText; rw [if_neg h, if_neg h1, if_neg h2]
theorem rdText_inv {most : Int} {bs : List UInt8} {er : Int} (h : er ≠ 0 → bs = []) : ((rdText most bs er).2.2 ≠ 0 → (rdText most bs er).2.1 = []) ∧ (rdText most bs er).2.1.length ≤ bs.length := by
  have hq := rdNum_inv h
  by_cases h0 : (rdNum bs er).2.2 ≠ 0
  · rw [rdText_er h0]; exact ⟨hq.1, hq.2.1⟩
  by_cases h1 : (rdNum bs er).1 > most
  · rw [rdText_form h0 h1]; exact ⟨fun _ => rfl, Nat.zero_le _⟩
  by_cases h2 : (rdNum bs er).1 > (rdNum bs er).2.1.length
  · rw [rdText_short h0 h1 h2]; exact ⟨fun _ => rfl, Nat.zero_le _⟩
  · rw [rdText_ok h0 h1 h2]; exact ⟨fun h => absurd rfl h, by simp; omega⟩
theorem rdFlag_inv {bs : List UInt8} {er : Int} (h : er ≠ 0 → bs = []) : ((rdFlag bs er).2.2 ≠ 0 → (rdFlag bs er).2.1 = []) ∧ (rdFlag bs er).2.1.length ≤ bs.length := by
  unfold rdFlag
  split
  · rename_i h0; exact ⟨fun _ => h h0, Nat.le_refl _⟩
  · split
    · exact ⟨fun _ => rfl, Nat.zero_le _⟩
    · split
      · exact ⟨fun _ => rfl, Nat.zero_le _⟩
      · exact ⟨fun h => absurd rfl h, by simp⟩
theorem rdFlag_er {bs : List UInt8} {er : Int} (h : er ≠ 0) : rdFlag bs er = (false, bs, er) := by unfold rdFlag; rw [if_pos h]
theorem rdFlag_nil : rdFlag [] 0 = (false, [], 3) := rfl
theorem rdFlag_form {c : UInt8} {cs : List UInt8} (h : 1 < c.toNat) : rdFlag (c :: cs) 0 = (false, [], 2) := by unfold rdFlag; rw [if_neg (by omega)]; exact if_pos h
theorem rdFlag_ok {c : UInt8} {cs : List UInt8} (h : ¬ 1 < c.toNat) : rdFlag (c :: cs) 0 = (c.toNat == 1, cs, 0) := by unfold rdFlag; rw [if_neg (by omega)]; exact if_neg h
theorem beq_nat1 (n : Nat) : ((n : Int) == 1) = (n == 1) := by
  by_cases h : n = 1
  · subst h; rfl
  · rw [beq_eq_false_iff_ne.2 h, beq_eq_false_iff_ne.2 (by omega)]
theorem rdNum_lead9 {bs : List UInt8} (h : lead bs = 9) : rdNum bs 0 = (0, [], 2) := by unfold rdNum dec; rw [if_neg (by omega), if_pos h]
theorem rdNum_leadS {bs : List UInt8} (h9 : ¬ lead bs = 9) (h : lead bs = bs.length) : rdNum bs 0 = (0, [], 3) := by unfold rdNum dec; rw [if_neg (by omega), if_neg h9, if_pos h]
theorem rdNum_leadF {bs : List UInt8} (h9 : lead bs < 9) (h : lead bs < bs.length) (hn : (numN (val (bs.take (lead bs + 1)))).length ≠ lead bs + 1) : rdNum bs 0 = (0, [], 2) := by
  have := Decidable.of_not_not (mt (lead_form h9 h).2 hn)
  unfold rdNum dec; rw [if_neg (by omega), if_neg (by omega), if_neg (by omega), if_pos this]
theorem rdNum_leadO {bs : List UInt8} (h9 : lead bs < 9) (h : lead bs < bs.length) (hn : (numN (val (bs.take (lead bs + 1)))).length = lead bs + 1) : rdNum bs 0 = (((val (bs.take (lead bs + 1)) : Nat) : Int), bs.drop (lead bs + 1), 0) := by
  have := (lead_form h9 h).1 hn
  unfold rdNum dec; rw [if_neg (by omega), if_neg (by omega), if_neg (by omega), if_neg this]
/-- A number that was laid is read as it was. -/
theorem rdNum_put {n : Nat} (h : n ≤ 9223372036854775807) (m : List UInt8) : rdNum (numN n ++ m) 0 = ((n : Int), m, 0) := by
  obtain ⟨hs, c, e, hh, hc, hv, h0⟩ := numN_shape n
  have hl := numN_le n h
  rw [e] at hl ⊢
  simp at hl
  have e1 := lead_app (m := m) hh hc (by omega)
  have ht : (hs ++ [c] ++ m).take (hs.length + 1) = hs ++ [c] := by
    rw [List.take_append_of_le_length (by simp)]; exact List.take_of_length_le (by simp)
  rw [rdNum_leadO (by omega) (by rw [e1]; simp) (by rw [e1, ht, hv, e]; simp), e1, ht, hv]
  congr 2
  rw [List.drop_append_of_le_length (by simp), List.drop_of_length_le (by simp)]; rfl
/-- ... and one that is cut off ends too soon. -/
theorem rdNum_cut {n k : Nat} (h : n ≤ 9223372036854775807) (hk : k < (numN n).length) : rdNum ((numN n).take k) 0 = (0, [], 3) := by
  obtain ⟨hs, c, e, hh, hc, hv, h0⟩ := numN_shape n
  have hl := numN_le n h
  rw [e] at hl hk ⊢
  simp at hl hk
  have ek : (hs ++ [c]).take k = hs.take k := List.take_append_of_le_length (by omega)
  rw [ek]
  have hlen : (hs.take k).length = k := by simp; omega
  have e1 : lead (hs.take k) = k := lead_stop (by omega) (by omega) (fun j hj => hh _ (List.mem_of_mem_take (getD_mem (by omega)))) (.inr (.inl hlen.symm))
  exact rdNum_leadS (by omega) (by omega)
/-- A zero behind bytes that go on is one byte too many. -/
theorem rdNum_zero {hs : List UInt8} (h1 : 0 < hs.length) (h9 : hs.length < 9) (hh : ∀ b ∈ hs, 128 ≤ b.toNat) : rdNum (hs ++ [0]) 0 = (0, [], 2) := by
  have e1 := lead_app (m := []) (c := 0) hh (by decide) h9
  rw [List.append_nil] at e1
  have hd : dec (hs ++ [0]) = .form := by
    unfold dec; rw [e1, if_neg (by omega), if_neg (by simp), if_pos ⟨h1, by simp [List.getD_eq_getElem?_getD]⟩]
  unfold rdNum; rw [if_neg (by omega), hd]
theorem rdNum_nine {hs m : List UInt8} (h9 : hs.length = 9) (hh : ∀ b ∈ hs, 128 ≤ b.toNat) : rdNum (hs ++ m) 0 = (0, [], 2) :=
  rdNum_lead9 (lead_stop (Nat.le_refl _) (by simp; omega) (fun j hj => by rw [getD_app_lt (by omega)]; exact hh _ (getD_mem (by omega))) (.inl rfl))
def rdEnd (bs : List UInt8) (er : Int) : Int := if er = 0 ∧ 0 < bs.length then 2 else er
/-! ### Rounds -/
theorem rdText_put {t m : List UInt8} {most : Int} (h : (t.length : Int) ≤ most) (h2 : t.length ≤ 9223372036854775807) : rdText most (numN t.length ++ t ++ m) 0 = (t, m, 0) := by
  have e : rdNum (numN t.length ++ t ++ m) 0 = ((t.length : Int), t ++ m, 0) := by rw [List.append_assoc]; exact rdNum_put h2 _
  rw [rdText_ok (by rw [e]; simp) (by rw [e]; simp only; omega) (by rw [e]; simp only [List.length_append]; omega), e]
  simp
theorem rdFlag_put (b : Bool) (m : List UInt8) : rdFlag ((if b then 1 else 0) :: m) 0 = (b, m, 0) := by cases b <;> rfl
def trip (l : List Int) (ss : List ByteArray) (fl : List Bool) (i : Nat) : List UInt8 :=
  numN (l.getD i 0).toNat ++ (numN ((bl (ss.getD i .empty)).take 20).length ++ (bl (ss.getD i .empty)).take 20) ++ [if fl.getD i false then 1 else 0]
def upto (l : List Int) (ss : List ByteArray) (fl : List Bool) (i : Nat) : List UInt8 := (List.range i).flatMap (trip l ss fl)
def since (l : List Int) (ss : List ByteArray) (fl : List Bool) (n i : Nat) : List UInt8 := (List.range' i (n - i)).flatMap (trip l ss fl)
theorem upto_succ (l : List Int) (ss : List ByteArray) (fl : List Bool) (i : Nat) : upto l ss fl (i + 1) = upto l ss fl i ++ trip l ss fl i := by
  unfold upto; rw [List.range_succ, List.flatMap_append]; simp
theorem since_zero (l : List Int) (ss : List ByteArray) (fl : List Bool) (n : Nat) : since l ss fl n 0 = upto l ss fl n := by unfold since upto; rw [List.range_eq_range', Nat.sub_zero]
theorem since_end (l : List Int) (ss : List ByteArray) (fl : List Bool) (n : Nat) : since l ss fl n n = [] := by unfold since; rw [Nat.sub_self]; rfl
theorem since_step (l : List Int) (ss : List ByteArray) (fl : List Bool) {n i : Nat} (h : i < n) : since l ss fl n i = trip l ss fl i ++ since l ss fl n (i + 1) := by
  unfold since; rw [show n - i = (n - (i + 1)) + 1 from by omega, List.range'_succ]; simp
theorem trip_len {l : List Int} (ss : List ByteArray) (fl : List Bool) (i : Nat) (hl : ∀ x ∈ l, x ≤ 9223372036854775807) : (trip l ss fl i).length ≤ 39 := by
  have h1 : (numN (l.getD i 0).toNat).length ≤ 9 := by
    apply numN_le
    rw [List.getD_eq_getElem?_getD]
    cases h : l[i]? with
    | none => simp
    | some x => have := hl x (List.mem_of_getElem? h); simp; omega
  have h2 : ((bl (ss.getD i .empty)).take 20).length ≤ 20 := by rw [List.length_take]; omega
  have h3 := numN_le ((bl (ss.getD i .empty)).take 20).length (by omega)
  unfold trip; simp only [List.length_append, List.length_singleton] at *; omega
theorem upto_len {l : List Int} (ss : List ByteArray) (fl : List Bool) (hl : ∀ x ∈ l, x ≤ 9223372036854775807) : ∀ i, (upto l ss fl i).length ≤ 39 * i
  | 0 => by simp [upto]
  | i + 1 => by
    have := upto_len ss fl hl i
    have := trip_len ss fl i hl
    rw [upto_succ, List.length_append]; omega
theorem since_len (l : List Int) (ss : List ByteArray) (fl : List Bool) (n i : Nat) {m : Nat} (h : (upto l ss fl n).length ≤ m) : (since l ss fl n i).length ≤ m := by
  rcases Nat.lt_or_ge n i with q | q
  · unfold since; rw [show n - i = 0 from by omega]; simp
  · have : upto l ss fl n = upto l ss fl i ++ since l ss fl n i := by
      unfold upto since
      rw [← List.flatMap_append, List.range_eq_range', List.range_eq_range']
      congr 1
      have := List.range'_append (s := 0) (m := i) (n := n - i) (step := 1)
      rw [Nat.zero_add, Nat.one_mul] at this
      rw [this]; congr 1; omega
    rw [this, List.length_append] at h; omega
theorem getD_of {α : Type} {l : List α} {i : Nat} {x d : α} (h : l[i]? = some x) : l.getD i d = x := by rw [List.getD_eq_getElem?_getD, h]; rfl
end Csl


end Go.Proofs.Ytbgjfpaigndbmaa
