/- Lending for the rest of a function; elements that are stored; parts of slices of structs. Nothing of a program stands here. -/
import Derived.Test.YtghmmjifmnmbgaaCsl15
set_option linter.unusedVariables false
set_option linter.unusedSimpArgs false
namespace Go.Proofs.Ytghmmjifmnmbgaa.Csl
open Go
theorem Ok.imp {P : Program} {f : FuncId} {R R' : Ending → World → Prop} {k : List Item} {a : Act} {w : World} (i : ∀ e w, R e w → R' e w) (o : Ok P f R k a w) : Ok P f R' k a w := by
  intro b cs hb hk
  obtain ⟨e, w', fr, h, r⟩ := o b cs hb hk
  exact ⟨e, w', fr, i _ _ h, r⟩
/-- What is lent for the rest of the function is only read from here on. -/
theorem Run.lendAll {P : Program} {f : FuncId} {fn : Func} {ds : List Deferred} {G : Gp} {post : Post} {F : List HProp} {st : List Item} {e : Env} {A A' : List HProp} {Q : HProp} {R : Gp → Prop} (hl : Lends Q R) (hf : Find Q A A')
    (next : ∀ G' : Gp, Gp.le G G' → R G' → Run ⟨P, f, fn, RR G' post F, ds⟩ G' st e A') : Run ⟨P, f, fn, RR G post F, ds⟩ G st e A := fun a w h s => by
  obtain ⟨K, r, s', back⟩ := hl G A' w (s.find hf)
  refine (next _ Gp.le_join r a w h s').imp fun en w' q => ?_
  obtain ⟨v, A2, he, hp, s2⟩ := q
  exact ⟨v, A2, he, hp, (back A2 w' s2).drop⟩
/-- A literal slice is lent, as the row that it is. -/
theorem Lends.litRow {T : TypeId} {sz n b : Nat} {cs : List Value} : Lends (Csl.Sl T sz (some ⟨b, 0, none⟩) n n cs) (fun G => ∃ post, Ro G b T ([] ++ cs ++ post)) := Lends.of fun G h q d => by
  rcases q with ⟨h0, _⟩ | ⟨b', pre, post, h0, h1, h2, h3, r⟩
  · cases h0
  · injection h0 with h0
    injection h0 with hb hp
    have : pre = [] := List.length_eq_zero_iff.1 hp.symm
    subst hb; subst this
    exact ⟨post, Ro.of_row r d⟩
theorem setRange_el {α : Type} {f : α → List Value} {sz : Nat} {xs : List α} {i j : Nat} {x y : α} {us pre post : List Value} (hl : ∀ x ∈ xs, (f x).length = sz) (h : xs[i]? = some x) (hj : j + us.length ≤ sz) (he : setRange (f x) j us = f y) :
    setRange (pre ++ xs.flatMap f ++ post) (pre.length + i * sz + j) us = pre ++ (xs.set i y).flatMap f ++ post := by
  have hi : i < xs.length := (List.getElem?_eq_some_iff.1 h).1
  have hfl := flatMap_length hl
  have hm := Nat.mul_le_mul_right sz (show i + 1 ≤ xs.length from hi)
  rw [Nat.add_mul, Nat.one_mul] at hm
  rw [Nat.add_assoc, setRange_mid (by omega), setRange_flat hl h hj he]
theorem set_el {α : Type} {f : α → List Value} {sz : Nat} {xs : List α} {i j : Nat} {x y : α} {v : Value} {pre post : List Value} (hl : ∀ x ∈ xs, (f x).length = sz) (h : xs[i]? = some x) (hj : j < sz) (he : (f x).set j v = f y) :
    (pre ++ xs.flatMap f ++ post).set (pre.length + i * sz + j) v = pre ++ (xs.set i y).flatMap f ++ post := by
  have hi : i < xs.length := (List.getElem?_eq_some_iff.1 h).1
  have hfl := flatMap_length hl
  have hm := Nat.mul_le_mul_right sz (show i + 1 ≤ xs.length from hi)
  rw [Nat.add_mul, Nat.one_mul] at hm
  have hx := hl x (List.mem_of_getElem? h)
  rw [set_eq_setRange (by simp only [List.length_append]; omega)]
  exact setRange_el hl h (by simp; omega) (by rw [← set_eq_setRange (by omega)]; exact he)
theorem set1_el {α : Type} {f : α → Value} {xs : List α} {i : Nat} {y : α} {pre post : List Value} (hi : i < xs.length) : (pre ++ xs.map f ++ post).set (pre.length + i * 1) (f y) = pre ++ (xs.set i y).map f ++ post := by
  rw [Nat.mul_one, List.append_assoc, List.append_assoc, List.set_append_right _ _ (by omega), Nat.add_sub_cancel_left, List.set_append_left _ _ (by simpa using hi), List.map_set]
theorem flatMap_takeN {α : Type} {f : α → List Value} {sz : Nat} : ∀ {xs : List α} {m : Nat}, (∀ x ∈ xs, (f x).length = sz) → (xs.flatMap f).take (m * sz) = (xs.take m).flatMap f
  | [], _, _ => by simp
  | x :: xs, 0, _ => by simp
  | x :: xs, m + 1, h => by
    have hx := h x (by simp)
    rw [List.flatMap_cons, List.take_succ_cons, List.flatMap_cons, ← flatMap_takeN (fun y hy => h y (by simp [hy])), List.take_append, hx, List.take_of_length_le (by rw [hx, Nat.add_mul]; omega)]
    congr 2; rw [Nat.add_mul]; omega
theorem flatMap_dropN {α : Type} {f : α → List Value} {sz : Nat} : ∀ {xs : List α} {m : Nat}, (∀ x ∈ xs, (f x).length = sz) → (xs.flatMap f).drop (m * sz) = (xs.drop m).flatMap f
  | [], _, _ => by simp
  | x :: xs, 0, _ => by simp
  | x :: xs, m + 1, h => by
    have hx := h x (by simp)
    rw [List.flatMap_cons, List.drop_succ_cons, ← flatMap_dropN (fun y hy => h y (by simp [hy])), List.drop_append, hx, List.drop_of_length_le (by rw [hx, Nat.add_mul]; omega), List.nil_append]
    congr 1; rw [Nat.add_mul]; omega
/-- Parts of a slice of elements, only read. -/
theorem SlR.subF {G : Gp} {T : TypeId} {a : Option Addr} {cap sz : Nat} {α : Type} {f : α → List Value} {xs : List α} (i m : Nat) (h : SlR G T sz a xs.length (xs.flatMap f)) (hl : ∀ x ∈ xs, (f x).length = sz) (hi : i + m ≤ xs.length) (hc : xs.length ≤ cap) : SlR G T sz (cutAt a i cap sz) m (((xs.drop i).take m).flatMap f) := by
  have := h.sub i m hi hc
  rwa [flatMap_dropN hl, flatMap_takeN (fun x hx => hl x (List.mem_of_mem_drop hx))] at this
theorem SlR.takeF {G : Gp} {T : TypeId} {a : Option Addr} {sz : Nat} {α : Type} {f : α → List Value} {xs : List α} (m : Nat) (h : SlR G T sz a xs.length (xs.flatMap f)) (hl : ∀ x ∈ xs, (f x).length = sz) (hi : m ≤ xs.length) : SlR G T sz a m ((xs.take m).flatMap f) := by
  have := h.subF (cap := xs.length) 0 m hl (by omega) (Nat.le_refl _)
  rwa [cutAt_zero, List.drop_zero] at this
theorem SlR.fromF {G : Gp} {T : TypeId} {a : Option Addr} {cap sz : Nat} {α : Type} {f : α → List Value} {xs : List α} (m : Nat) (h : SlR G T sz a xs.length (xs.flatMap f)) (hl : ∀ x ∈ xs, (f x).length = sz) (hi : m ≤ xs.length) (hc : xs.length ≤ cap) : SlR G T sz (cutAt a m cap sz) (xs.length - m) ((xs.drop m).flatMap f) := by
  have := h.subF (cap := cap) m (xs.length - m) hl (by omega) hc
  rwa [List.take_of_length_le (by simp)] at this
theorem St.slr {G : Gp} {A : List HProp} {w : World} {T : TypeId} {sz : Nat} {a : Option Addr} {n cap : Nat} {cs : List Value} (s : St G (Sl T sz a n cap cs :: A) w) : ∃ G', SlR G' T sz a n cs ∧ n ≤ cap ∧ St G' A w := by
  obtain ⟨K, s', r, _⟩ := s.lend_Sl
  exact ⟨_, r, (St.Sl_length s).2, s'⟩
theorem St.srcTakeF {P : Program} {G : Gp} {A : List HProp} {w : World} {T : TypeId} {sz : Nat} {a : Option Addr} {cap : Nat} {α : Type} {f : α → List Value} {xs : List α} (m : Nat) (hl : ∀ x ∈ xs, (f x).length = sz) (hm : m ≤ xs.length) (s : St G (Sl T sz a xs.length cap (xs.flatMap f) :: A) w) : Src P w sz (.slice a m cap) m ((xs.take m).flatMap f) := by
  obtain ⟨G', r, hc, s'⟩ := s.slr
  exact (r.takeF m hl hm).src s'
theorem St.srcFromF {P : Program} {G : Gp} {A : List HProp} {w : World} {T : TypeId} {sz : Nat} {a : Option Addr} {cap : Nat} {α : Type} {f : α → List Value} {xs : List α} (m : Nat) (hl : ∀ x ∈ xs, (f x).length = sz) (hm : m ≤ xs.length) (s : St G (Sl T sz a xs.length cap (xs.flatMap f) :: A) w) : Src P w sz (.slice (cutAt a m cap sz) (xs.length - m) (cap - m)) (xs.length - m) ((xs.drop m).flatMap f) := by
  obtain ⟨G', r, hc, s'⟩ := s.slr
  exact (r.fromF m hl hm hc).src s'
theorem isOne_flat {α : Type} {f : α → List Value} {xs : List α} (h : ∀ x, (f x).all Value.isOne = true) : ∀ u ∈ xs.flatMap f, u.isOne = true := by
  intro u hu
  obtain ⟨x, _, hx⟩ := List.mem_flatMap.1 hu
  exact all_one (h x) u hx
end Go.Proofs.Ytghmmjifmnmbgaa.Csl
