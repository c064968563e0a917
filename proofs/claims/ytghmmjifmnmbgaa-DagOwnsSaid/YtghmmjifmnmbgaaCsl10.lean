/- Slices: parts of them. Nothing of a program stands here. -/
import Derived.Test.YtghmmjifmnmbgaaCsl9
set_option linter.unusedVariables false
set_option linter.unusedSimpArgs false
namespace Go.Proofs.Ytghmmjifmnmbgaa.Csl
open Go
theorem cutAt_self (a : Option Addr) (l sz : Nat) : cutAt a l l sz = a := by unfold cutAt; rw [if_pos rfl]
theorem cutAt_zero (a : Option Addr) (m sz : Nat) : cutAt a 0 m sz = a := by
  unfold cutAt; split
  · rfl
  · cases a with
    | none => rfl
    | some a => simp [Addr.add]
theorem SlR.nil {G : Gp} {T : TypeId} {sz : Nat} {a : Option Addr} : SlR G T sz a 0 [] := .inl ⟨rfl, rfl⟩
theorem SlR.sub {G : Gp} {T : TypeId} {sz : Nat} {a : Option Addr} {n cap : Nat} {cs : List Value} (i m : Nat) (h : SlR G T sz a n cs) (hi : i + m ≤ n) (hc : n ≤ cap) : SlR G T sz (cutAt a i cap sz) m ((cs.drop (i * sz)).take (m * sz)) := by
  by_cases hm : m = 0
  · subst hm; exact .inl ⟨rfl, by simp⟩
  rcases h with ⟨rfl, _⟩ | ⟨b, T', pre, post, rfl, h2, h3⟩
  · omega
  · right
    have e : cutAt (some ⟨b, pre.length, none⟩) i cap sz = some ⟨b, (pre ++ cs.take (i * sz)).length, none⟩ := by
      have : i * sz ≤ cs.length := by rw [h2]; exact Nat.mul_le_mul_right _ (by omega)
      unfold cutAt; rw [if_neg (by omega)]; simp [add_off, Nat.min_eq_left this]
    have l1 : ((cs.drop (i * sz)).take (m * sz)).length = m * sz := by
      rw [List.length_take, List.length_drop, h2, ← Nat.sub_mul]; exact Nat.min_eq_left (Nat.mul_le_mul_right _ (by omega))
    refine ⟨b, T', pre ++ cs.take (i * sz), (cs.drop (i * sz)).drop (m * sz) ++ post, e, l1, ?_⟩
    have : pre ++ cs.take (i * sz) ++ (cs.drop (i * sz)).take (m * sz) ++ ((cs.drop (i * sz)).drop (m * sz) ++ post) = pre ++ cs ++ post := by
      simp only [List.append_assoc]
      rw [← List.append_assoc (List.take (m * sz) _), List.take_append_drop, ← List.append_assoc (List.take (i * sz) cs), List.take_append_drop]
    rw [this]; exact h3
/-- The same, of bytes. -/
theorem SlR.subB {G : Gp} {T : TypeId} {a : Option Addr} {cap : Nat} {bs : List UInt8} (i m : Nat) (h : SlR G T 1 a bs.length (bs.map bv)) (hi : i + m ≤ bs.length) (hc : bs.length ≤ cap) : SlR G T 1 (cutAt a i cap 1) ((bs.drop i).take m).length (((bs.drop i).take m).map bv) := by
  have := h.sub i m hi hc
  rw [Nat.mul_one, Nat.mul_one, ← List.map_drop, ← List.map_take] at this
  rw [show ((bs.drop i).take m).length = m from by simp; omega]
  exact this
theorem SlR.toB {G : Gp} {T : TypeId} {a : Option Addr} {bs : List UInt8} (m : Nat) (h : SlR G T 1 a bs.length (bs.map bv)) : SlR G T 1 a (bs.take m).length ((bs.take m).map bv) := by
  by_cases hm : m ≤ bs.length
  · have := h.subB (cap := bs.length) 0 m (by omega) (Nat.le_refl _)
    rwa [cutAt_zero] at this
  · rw [List.take_of_length_le (by omega)]; exact h
theorem SlR.open1 {G : Gp} {T : TypeId} {sz : Nat} {a : Option Addr} {n : Nat} {cs : List Value} (h : SlR G T sz a n cs) (hn : 0 < n) : ∃ b T' pre post, a = some ⟨b, pre.length, none⟩ ∧ Ro G b T' (pre ++ cs ++ post) := by
  rcases h with ⟨rfl, _⟩ | ⟨b, T', pre, post, rfl, h2, h3⟩
  · omega
  · exact ⟨b, T', pre, post, rfl, h3⟩
theorem St.srcTake {P : Program} {G : Gp} {A : List HProp} {w : World} {T : TypeId} {sz : Nat} {a : Option Addr} {n cap : Nat} {cs : List Value} (m : Nat) (hm : m ≤ n) (s : St G (Sl T sz a n cap cs :: A) w) : Src P w sz (.slice a m cap) m (cs.take (m * sz)) := by
  obtain ⟨K, s', r, _⟩ := s.lend_Sl
  have h := (St.Sl_length s).2
  have := r.sub (cap := cap) 0 m (by omega) h
  rw [cutAt_zero, Nat.zero_mul, List.drop_zero] at this
  exact this.src s'
theorem St.srcTakeB {P : Program} {G : Gp} {A : List HProp} {w : World} {T : TypeId} {a : Option Addr} {cap : Nat} {bs : List UInt8} (m : Nat) (hm : m ≤ bs.length) (s : St G (Sl T 1 a bs.length cap (bs.map bv) :: A) w) : Src P w 1 (.slice a m cap) m ((bs.take m).map bv) := by
  have := s.srcTake (P := P) m hm
  rwa [Nat.mul_one, ← List.map_take] at this
theorem St.lenB {G : Gp} {A : List HProp} {w : World} {T : TypeId} {a : Option Addr} {cap : Nat} {bs : List UInt8} (s : St G (Sl T 1 a bs.length cap (bs.map bv) :: A) w) : bs.length ≤ cap := (St.Sl_length s).2
/-- A pure fact of what is owned. -/
theorem Run.know {c : Cx} {G : Gp} {st : List Item} {e : Env} {A : List HProp} {φ : Prop} (h : ∀ w, St G A w → φ) (next : φ → Run c G st e A) : Run c G st e A := fun a w ho s => next (h w s) a w ho s
theorem RunL.know {c : Cx} {G : Gp} {ops : Array Oper} {k : KT} {e : Env} {A : List HProp} {l : List Oper} {φ : Prop} (h : ∀ w, St G A w → φ) (next : φ → RunL c G ops l k e A) : RunL c G ops l k e A := fun a w ho s => next (h w s) a w ho s
theorem Run.asRow {c : Cx} {G : Gp} {st : List Item} {e : Env} {A A' : List HProp} {b : Nat} {T : TypeId} {cs : List Value} (cs' : List Value) (hf : Find (row b T cs) A A') (h : cs = cs') (next : Run c G st e (row b T cs' :: A')) : Run c G st e A := fun a w ho s => next a w ho (by rw [← h]; exact s.find hf)
theorem RunL.asRow {c : Cx} {G : Gp} {ops : Array Oper} {k : KT} {e : Env} {A A' : List HProp} {l : List Oper} {b : Nat} {T : TypeId} {cs : List Value} (cs' : List Value) (hf : Find (row b T cs) A A') (h : cs = cs') (next : RunL c G ops l k e (row b T cs' :: A')) : RunL c G ops l k e A := fun a w ho s => next a w ho (by rw [← h]; exact s.find hf)
theorem set_cell {pre post : List Value} {bs : List UInt8} {i : Nat} {v : Int} {x : UInt8} (h : i < bs.length) (hx : v = x.toNat) : (pre ++ bs.map bv ++ post).set (pre.length + i * 1) (.int .u8 v) = pre ++ (bs.set i x).map bv ++ post := by
  subst hx
  rw [Nat.mul_one, List.append_assoc, List.append_assoc, List.set_append_right _ _ (by omega), Nat.add_sub_cancel_left, List.set_append_left _ _ (by simpa using h), List.map_set]; rfl
end Go.Proofs.Ytghmmjifmnmbgaa.Csl
