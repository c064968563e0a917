/- The reference's dags, plainly. -/
import Derived.Test.YtaaondbmkibkkaaGreatD5
set_option linter.unusedVariables false
set_option linter.unusedSimpArgs false
set_option linter.unusedSectionVars false
namespace Go.Proofs.YtaaondbmkibkkaaGreat
open Go Csl


namespace Csl
def atOf (l : EL) (x : ByteArray) : Int := match l.findIdx? fun v => decide (v.id = x) with
  | some i => (i : Nat)
  | none => -1
theorem at_cases (l : EL) (x : ByteArray) : (l.has x = false ∧ atOf l x = -1) ∨ ∃ (k : Nat) (v : Evt), l[k]? = some v ∧ v.id = x ∧ atOf l x = (k : Nat) ∧ l.get x = some v ∧ l.has x = true := by
  unfold atOf
  cases h : l.findIdx? fun v => decide (v.id = x) with
  | none =>
    refine .inl ⟨?_, rfl⟩
    rw [List.findIdx?_eq_none_iff] at h
    exact has_no.2 fun v hv => by simpa using h v hv
  | some i =>
    rw [List.findIdx?_eq_some_iff_getElem] at h
    obtain ⟨hi, h1, h2⟩ := h
    have h1' : (l[i]).id = x := by simpa using h1
    refine .inr ⟨i, l[i], List.getElem?_eq_getElem hi, h1', rfl, ?_, has_iff.2 ⟨_, List.getElem_mem hi, h1'⟩⟩
    unfold EL.get
    rw [List.find?_eq_some_iff_getElem]
    exact ⟨h1, i, hi, rfl, fun j hj => by simpa using h2 j hj⟩
theorem at_of {l : EL} {x : ByteArray} {i : Nat} {v : Evt} (hv : l[i]? = some v) (hx : v.id = x) (hn : ∀ j u, j < i → l[j]? = some u → u.id ≠ x) : atOf l x = (i : Nat) := by
  rcases at_cases l x with ⟨h, _⟩ | ⟨k, u, h1, h2, h3, _⟩
  · exact absurd hx (has_no.1 h v (List.mem_of_getElem? hv))
  · rw [h3]
    rcases Nat.lt_trichotomy k i with q | q | q
    · exact absurd h2 (hn k u q h1)
    · subst q; rfl
    · unfold atOf at h3
      cases h : l.findIdx? fun v => decide (v.id = x) with
      | none => rw [h] at h3; exact absurd h3 (by simp only; omega)
      | some m =>
        rw [h] at h3
        rw [List.findIdx?_eq_some_iff_getElem] at h
        obtain ⟨hm, _, h5⟩ := h
        have hmk : m = k := Int.ofNat.inj h3
        have := h5 i (by omega)
        rw [(List.getElem?_eq_some_iff.1 hv).2] at this
        exact absurd hx (by simpa using this)
theorem at_none {l : EL} {x : ByteArray} (h : ∀ v ∈ l, v.id ≠ x) : atOf l x = -1 := by
  rcases at_cases l x with ⟨_, h1⟩ | ⟨k, u, h1, h2, _⟩
  · exact h1
  · exact absurd h2 (h u (List.mem_of_getElem? h1))
theorem at_pos {l : EL} {x : ByteArray} : 0 ≤ atOf l x ↔ l.has x = true := by
  rcases at_cases l x with ⟨h, h1⟩ | ⟨k, u, _, _, h1, _, h⟩ <;> rw [h, h1] <;> simp
theorem at_neg {l : EL} {x : ByteArray} : atOf l x < 0 ↔ l.has x = false := by
  rcases at_cases l x with ⟨h, h1⟩ | ⟨k, u, _, _, h1, _, h⟩ <;> rw [h, h1]
  · simp
  · simp
def idAt (l : EL) (j : Nat) : ByteArray := ((l[j]?).map (·.id)).getD .empty
theorem idAt_eq {l : EL} {j : Nat} {v : Evt} (h : l[j]? = some v) : idAt l j = v.id := by unfold idAt; rw [h]; rfl
/-- The depths as they are found: those ahead of 'i', that of 'i' as far as it goes, none behind. -/
def dsA (l : EL) (k i : Nat) (m : Int) : List Int := (List.range (k + 1)).map fun j => if j < i then depthOf l (idAt l j) else if j = i then m else 0
theorem dsA_len (l : EL) (k i : Nat) (m : Int) : (dsA l k i m).length = k + 1 := by simp [dsA]
theorem dsA_get {l : EL} {k i j : Nat} {m : Int} (h : j < k + 1) : (dsA l k i m)[j]? = some (if j < i then depthOf l (idAt l j) else if j = i then m else 0) := by
  unfold dsA; rw [List.getElem?_map, List.getElem?_range h]; rfl
theorem dsA_zero (l : EL) (k : Nat) : dsA l k 0 0 = List.replicate (k + 1) 0 := by
  rw [List.eq_replicate_iff]
  refine ⟨dsA_len _ _ _ _, fun b hb => ?_⟩
  obtain ⟨j, _, rfl⟩ := List.mem_map.1 hb
  rw [if_neg (Nat.not_lt_zero _)]; split <;> rfl
theorem dsA_set {l : EL} {k i : Nat} {m m' : Int} : (dsA l k i m).set i m' = dsA l k i m' := by
  apply List.ext_getElem?
  intro j
  rcases Nat.lt_or_ge j (k + 1) with q | q
  · rw [List.getElem?_set, dsA_get q]
    by_cases hj : i = j
    · subst hj; rw [if_pos rfl, if_pos (by rw [dsA_len]; exact q), dsA_get q, if_neg (Nat.lt_irrefl _), if_pos rfl]
    · rw [if_neg hj, dsA_get q, if_neg (Ne.symm hj), if_neg (Ne.symm hj)]
  · rw [List.getElem?_eq_none (by rw [List.length_set, dsA_len]; exact q), List.getElem?_eq_none (by rw [dsA_len]; exact q)]
theorem dsA_next {l : EL} {k i : Nat} {v : Evt} (h : l[i]? = some v) : dsA l k i (depthOf l v.id) = dsA l k (i + 1) 0 := by
  unfold dsA
  refine List.map_congr_left fun j _ => ?_
  by_cases h1 : j < i
  · rw [if_pos h1, if_pos (by omega)]
  · by_cases h2 : j = i
    · subst h2; rw [if_neg h1, if_pos rfl, if_pos (by omega), idAt_eq h]
    · rw [if_neg h1, if_neg h2, if_neg (by omega)]; split <;> rfl
theorem cmpPos_before (a b : Pos) : cmpPos a b = if beforePos a b = true then -1 else if beforePos b a = true then 1 else 0 := by
  have h1 := @beforePos_cmp a b; have h2 := @beforePos_cmp b a; have h3 := cmpPos_law.anti a b
  have hr : cmpPos a b = -1 ∨ cmpPos a b = 0 ∨ cmpPos a b = 1 := by
    unfold cmpPos orI cmpI cmpS
    (repeat' split) <;> simp
  by_cases q1 : beforePos a b = true
  · rw [if_pos q1]; have := h1.1 q1; omega
  · rw [if_neg q1]
    by_cases q2 : beforePos b a = true
    · rw [if_pos q2]; have := h2.1 q2; omega
    · rw [if_neg q2]
      have q1' : ¬ cmpPos a b < 0 := fun q => q1 (h1.2 q)
      have q2' : ¬ cmpPos b a < 0 := fun q => q2 (h2.2 q)
      omega
theorem addSt {room : ByteArray} {l : EL} {v : Evt} (h : addRc room l v = 0 ∨ addRc room l v ≠ 0) : True := trivial
theorem take_map_next {α β : Type} {f : α → β} {xs ys : List α} {i : Nat} {x y : α} (h : (xs.take i).map f = (ys.take i).map f) (hx : xs[i]? = some x) (hy : ys[i]? = some y) (e : f x = f y) : (xs.take (i + 1)).map f = (ys.take (i + 1)).map f := by
  rw [List.take_add_one, List.take_add_one, hx, hy, List.map_append, List.map_append, h]
  simp [e]
/-- The row that is made by putting each where it belongs. -/
theorem ES_sorted {l : EL} {ys zs : ES} (hyl : ys.map (·.1) = l) (hn : (l.map (·.id)).Nodup) (h : Sd cmpPos (fun y : Evt × Sli => posOf l y.1) zs) (hp : zs.Perm ys) : zs.map (·.1) = allOf l := by
  have h1 : Sd cmpPos (posOf l) (zs.map (·.1)) := by unfold Sd; rw [List.pairwise_map]; exact h
  exact srt_eq cmpPos_law h1 (by rw [← hyl]; exact hp.map _)
theorem memB_take {x : ByteArray} {ps : List ByteArray} {j : Nat} {p : ByteArray} (h : ps[j]? = some p) : memB x (ps.take (j + 1)) = (memB x (ps.take j) || decide (p = x)) := by
  rw [List.take_add_one, h, memB_app]; congr 1; exact memB_one
theorem isPar_take {l : EL} {k : Nat} {v : Evt} (x : ByteArray) (h : l[k]? = some v) : isPar (l.take (k + 1)) x = (isPar (l.take k) x || memB x v.ps) := by
  rw [List.take_add_one, h]; exact isPar_snoc _ _ _
theorem headB (l : EL) (x : ByteArray) : isPar l x = l.any fun v => memB x v.ps := rfl
/-- What was put, behind what is held. -/
theorem HasES.snoc {G : Gp} {a : Option Addr} {c : Nat} {ys : ES} (h : SlR G 49 6 a ys.length (ys.flatMap cES)) (hc : ys.length ≤ c) (hk : ESok G ys) : HasES G ⟨a, ys.length, c⟩ ys := ⟨rfl, h, hc, hk⟩
theorem ES_get {ys : ES} {l : EL} (h : ys.map (·.1) = l) {i : Nat} {v : Evt} (hv : l[i]? = some v) : ∃ s, ys[i]? = some (v, s) := by
  rw [← h, List.getElem?_map] at hv
  cases hy : ys[i]? with
  | none => rw [hy] at hv; cases hv
  | some y => rw [hy] at hv; obtain ⟨v', s⟩ := y; cases hv; exact ⟨s, rfl⟩
theorem ES_len {ys : ES} {l : EL} (h : ys.map (·.1) = l) : l.length = ys.length := by rw [← h, List.length_map]
end Csl


end Go.Proofs.YtaaondbmkibkkaaGreat
