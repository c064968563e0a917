/- Dags, plainly. -/
import Derived.Test.YtaaondbmkibkkaaGreatG3
set_option linter.unusedVariables false
set_option linter.unusedSimpArgs false
set_option linter.unusedSectionVars false
namespace Go.Proofs.YtaaondbmkibkkaaGreat
open Go Csl


namespace Csl
theorem nodup_ne {α : Type} {l : List α} (h : l.Nodup) {i j : Nat} (hij : i < j) {x : α} (h1 : l[i]? = some x) (h2 : l[j]? = some x) : False := by
  obtain ⟨a1, b1⟩ := List.getElem?_eq_some_iff.1 h1
  obtain ⟨a2, b2⟩ := List.getElem?_eq_some_iff.1 h2
  exact List.pairwise_iff_getElem.1 h i j a1 a2 hij (b1.trans b2.symm)
def memB (x : ByteArray) (ps : List ByteArray) : Bool := ps.any fun p => decide (p = x)
theorem memB_iff {x : ByteArray} {ps : List ByteArray} : memB x ps = true ↔ x ∈ ps := by
  simp only [memB, List.any_eq_true, decide_eq_true_eq]
  exact ⟨fun ⟨p, h, e⟩ => e ▸ h, fun h => ⟨x, h, rfl⟩⟩
theorem memB_no {x : ByteArray} {ps : List ByteArray} : memB x ps = false ↔ x ∉ ps := by rw [← memB_iff]; cases memB x ps <;> simp
theorem memB_app {x : ByteArray} {ps qs : List ByteArray} : memB x (ps ++ qs) = (memB x ps || memB x qs) := by simp [memB]
theorem memB_one {x y : ByteArray} : memB x [y] = decide (y = x) := by simp [memB]
/-- An event, with its parents. -/
structure Evt where
  id : ByteArray
  room : ByteArray
  ps : List ByteArray
  thread : ByteArray
  user : ByteArray
  does : Int
  deriving DecidableEq
def Evt.evn (v : Evt) (s : Sli) : Evn := ⟨v.id, v.room, s, v.thread, v.user, v.does⟩
def Evn.ev (e : Evn) (ps : List ByteArray) : Evt := ⟨e.id, e.room, ps, e.thread, e.user, e.does⟩
theorem ev_evn (v : Evt) (s : Sli) : (v.evn s).ev v.ps = v := rfl
theorem evn_ev (e : Evn) (ps : List ByteArray) : (e.ev ps).evn e.par = e := rfl
def evOk (v : Evt) : Bool := evMay (v.evn ⟨none, 0, 0⟩) v.ps
theorem evMay_ok (e : Evn) (ps : List ByteArray) : evMay e ps = evOk (e.ev ps) := rfl
/-- What a machine can hold. -/
def evWf (v : Evt) : Prop := okEvn (v.evn ⟨none, 0, 0⟩) ∧ (∀ p ∈ v.ps, p.size ≤ 9223372036854775807) ∧ v.ps.length ≤ 1000
theorem evSame_eq (e : Evn) (ps : List ByteArray) (f : Evn) (qs : List ByteArray) : evSame e ps f qs = decide (e.ev ps = f.ev qs) := by
  rw [Bool.eq_iff_iff]
  simp only [evSame, Evn.ev, Bool.and_eq_true, decide_eq_true_eq, Evt.mk.injEq]
  constructor
  · rintro ⟨⟨⟨⟨⟨h1, h2⟩, h3⟩, h4⟩, h5⟩, h6⟩; exact ⟨h1, h2, h3, h4, h5, h6⟩
  · rintro ⟨h1, h2, h3, h4, h5, h6⟩; exact ⟨⟨⟨⟨⟨h1, h2⟩, h3⟩, h4⟩, h5⟩, h6⟩
abbrev EL := List Evt
def EL.has (l : EL) (x : ByteArray) : Bool := l.any fun v => decide (v.id = x)
def EL.get (l : EL) (x : ByteArray) : Option Evt := l.find? fun v => decide (v.id = x)
theorem has_iff {l : EL} {x : ByteArray} : l.has x = true ↔ ∃ v ∈ l, v.id = x := by simp [EL.has]
theorem has_no {l : EL} {x : ByteArray} : l.has x = false ↔ ∀ v ∈ l, v.id ≠ x := by simp [EL.has]
theorem has_app {l k : EL} {x : ByteArray} : EL.has (l ++ k) x = (l.has x || k.has x) := by simp [EL.has]
theorem has_mem {l : EL} {v : Evt} (h : v ∈ l) : l.has v.id = true := has_iff.2 ⟨v, h, rfl⟩
theorem get_has {l : EL} {x : ByteArray} : (l.get x).isSome = l.has x := by
  rw [Bool.eq_iff_iff, has_iff]; simp [EL.get, List.find?_isSome]
theorem get_of {l : EL} {x : ByteArray} {v : Evt} (h : l.get x = some v) : v ∈ l ∧ v.id = x := by
  refine ⟨List.mem_of_find?_eq_some h, by simpa using List.find?_some h⟩
theorem get_nil {l : EL} {x : ByteArray} : l.get x = none ↔ l.has x = false := by
  rw [← get_has]; cases l.get x <;> simp
theorem get_eq {l : EL} (hn : (l.map (·.id)).Nodup) {v : Evt} (h : v ∈ l) : l.get v.id = some v := by
  cases hg : l.get v.id with
  | none => rw [get_nil] at hg; rw [has_mem h] at hg; cases hg
  | some u =>
    obtain ⟨h1, h2⟩ := get_of hg
    obtain ⟨i, hi⟩ := List.getElem?_of_mem h
    obtain ⟨j, hj⟩ := List.getElem?_of_mem h1
    have e1 : (l.map (·.id))[i]? = some v.id := by rw [List.getElem?_map, hi]; rfl
    have e2 : (l.map (·.id))[j]? = some v.id := by rw [List.getElem?_map, hj, ← h2]; rfl
    rcases Nat.lt_trichotomy i j with q | q | q
    · exact (nodup_ne hn q e1 e2).elim
    · subst q; rw [hi] at hj; cases hj; rfl
    · exact (nodup_ne hn q e2 e1).elim
/-! ### Depths -/
def addDepth (f : ByteArray → Int) (ps : List ByteArray) : Int := ps.foldl (fun m p => max m (f p + 1)) 0
theorem addFold_ge (f : ByteArray → Int) : ∀ (ps : List ByteArray) (m : Int), m ≤ ps.foldl (fun m p => max m (f p + 1)) m ∧ ∀ p ∈ ps, f p + 1 ≤ ps.foldl (fun m p => max m (f p + 1)) m
  | [], m => ⟨Int.le_refl _, fun p h => by cases h⟩
  | p :: ps, m => by
    obtain ⟨h1, h2⟩ := addFold_ge f ps (max m (f p + 1))
    rw [List.foldl_cons]
    refine ⟨by omega, fun q hq => ?_⟩
    rcases List.mem_cons.1 hq with rfl | hq
    · omega
    · exact h2 q hq
theorem addFold_le (f : ByteArray → Int) (N : Int) : ∀ (ps : List ByteArray) (m : Int), m ≤ N → (∀ p ∈ ps, f p + 1 ≤ N) → ps.foldl (fun m p => max m (f p + 1)) m ≤ N
  | [], m, h, _ => h
  | p :: ps, m, h, h2 => by
    rw [List.foldl_cons]
    exact addFold_le f N ps _ (by have := h2 p List.mem_cons_self; omega) fun q hq => h2 q (List.mem_cons_of_mem _ hq)
theorem addFold_congr {f g : ByteArray → Int} : ∀ (ps : List ByteArray) (m : Int), (∀ p ∈ ps, f p = g p) → ps.foldl (fun m p => max m (f p + 1)) m = ps.foldl (fun m p => max m (g p + 1)) m
  | [], m, _ => rfl
  | p :: ps, m, h => by
    rw [List.foldl_cons, List.foldl_cons, h p List.mem_cons_self]
    exact addFold_congr ps _ fun q hq => h q (List.mem_cons_of_mem _ hq)
theorem addDepth_congr {f g : ByteArray → Int} {ps : List ByteArray} (h : ∀ p ∈ ps, f p = g p) : addDepth f ps = addDepth g ps := addFold_congr ps 0 h
theorem addDepth_nonneg (f : ByteArray → Int) (ps : List ByteArray) : 0 ≤ addDepth f ps := (addFold_ge f ps 0).1
theorem addDepth_mem {f : ByteArray → Int} {ps : List ByteArray} {p : ByteArray} (h : p ∈ ps) : f p + 1 ≤ addDepth f ps := (addFold_ge f ps 0).2 p h
theorem addDepth_take {f : ByteArray → Int} {ps : List ByteArray} {i : Nat} {p : ByteArray} (h : ps[i]? = some p) : addDepth f (ps.take (i + 1)) = max (addDepth f (ps.take i)) (f p + 1) := by
  have : ps.take (i + 1) = ps.take i ++ [p] := by rw [List.take_add_one, h]; rfl
  rw [this]; simp [addDepth, List.foldl_append]
def depStep (f : ByteArray → Int) (v : Evt) : ByteArray → Int := fun x => if x = v.id then addDepth f v.ps else f x
def depthOf (l : EL) : ByteArray → Int := l.foldl depStep fun _ => 0
theorem depthOf_snoc (l : EL) (v : Evt) : depthOf (l ++ [v]) = depStep (depthOf l) v := by simp [depthOf]
theorem depFold_other : ∀ (l : EL) (f : ByteArray → Int) (x : ByteArray), (∀ v ∈ l, v.id ≠ x) → l.foldl depStep f x = f x
  | [], f, x, _ => rfl
  | v :: l, f, x, h => by
    rw [List.foldl_cons, depFold_other l _ x fun u hu => h u (List.mem_cons_of_mem _ hu)]
    unfold depStep; rw [if_neg fun q => h v List.mem_cons_self q.symm]
theorem depthOf_app_other {l k : EL} {x : ByteArray} (h : ∀ v ∈ k, v.id ≠ x) : depthOf (l ++ k) x = depthOf l x := by
  unfold depthOf; rw [List.foldl_append]; exact depFold_other k _ x h
theorem depthOf_none {l : EL} {x : ByteArray} (h : l.has x = false) : depthOf l x = 0 := depFold_other l _ x (has_no.1 h)
theorem snoc_ind {α : Type} {P : List α → Prop} (h0 : P []) (h1 : ∀ l x, P l → P (l ++ [x])) (l : List α) : P l := by
  have : ∀ k : List α, P k.reverse := by
    intro k
    induction k with
    | nil => exact h0
    | cons x k ih => rw [List.reverse_cons]; exact h1 _ x ih
  simpa using this l.reverse
theorem depthOf_bounds (l : EL) : ∀ x, 0 ≤ depthOf l x ∧ depthOf l x ≤ (l.length : Nat) := by
  refine snoc_ind (P := fun l : EL => ∀ x, 0 ≤ depthOf l x ∧ depthOf l x ≤ (l.length : Nat)) ?_ ?_ l
  · intro x; exact ⟨Int.le_refl _, Int.le_refl _⟩
  · intro l v ih x
    rw [depthOf_snoc]; unfold depStep
    have hl : ((l ++ [v]).length : Int) = (l.length : Nat) + 1 := by simp
    split
    · refine ⟨addDepth_nonneg _ _, addFold_le _ _ _ _ (by omega) fun p _ => ?_⟩
      have := (ih p).2; omega
    · have := ih x; omega
def isPar (l : EL) (x : ByteArray) : Bool := l.any fun v => memB x v.ps
theorem isPar_snoc (l : EL) (v : Evt) (x : ByteArray) : isPar (l ++ [v]) x = (isPar l x || memB x v.ps) := by simp [isPar]
/-! ### What is added -/
def thrRc (l : EL) (v : Evt) : Int := if v.thread = .empty then 0 else match l.get v.thread with
  | none => 4
  | some r => if r.thread ≠ .empty ∨ r.does ≠ 0 then 7 else 0
def addRc (room : ByteArray) (l : EL) (v : Evt) : Int :=
  if evOk v = false ∨ v.room ≠ room then 1 else if l.has v.id = true then 9 else if v.ps.any (fun p => !l.has p) = true then 4 else thrRc l v
def addL (room : ByteArray) (l : EL) (v : Evt) : EL := if addRc room l v = 0 then l ++ [v] else l
theorem addL_ok {room : ByteArray} {l : EL} {v : Evt} (h : addRc room l v = 0) : addL room l v = l ++ [v] := if_pos h
theorem addL_no {room : ByteArray} {l : EL} {v : Evt} (h : addRc room l v ≠ 0) : addL room l v = l := if_neg h
theorem addRc_zero {room : ByteArray} {l : EL} {v : Evt} : addRc room l v = 0 ↔ evOk v = true ∧ v.room = room ∧ l.has v.id = false ∧ (∀ p ∈ v.ps, l.has p = true) ∧ thrRc l v = 0 := by
  unfold addRc
  constructor
  · intro h
    split at h
    · cases h
    rename_i h1
    split at h
    · cases h
    rename_i h2
    split at h
    · cases h
    rename_i h3
    refine ⟨by simpa using fun q => h1 (.inl q), Classical.byContradiction fun q => h1 (.inr q), by simpa using h2, fun p hp => ?_, h⟩
    simp only [List.any_eq_true, not_exists, not_and] at h3
    simpa using h3 p hp
  · rintro ⟨h1, h2, h3, h4, h5⟩
    rw [if_neg (by rw [h1, h2]; simp), if_neg (by rw [h3]; simp), if_neg (by simp only [List.any_eq_true, not_exists, not_and]; intro p hp; rw [h4 p hp]; simp), h5]
theorem thrRc_zero {l : EL} {v : Evt} : thrRc l v = 0 ↔ v.thread = .empty ∨ ∃ r, l.get v.thread = some r ∧ r.thread = .empty ∧ r.does = 0 := by
  unfold thrRc
  by_cases h : v.thread = .empty
  · simp [h]
  · rw [if_neg h]
    cases hg : l.get v.thread with
    | none => simp [h]
    | some r =>
      by_cases hr : r.thread ≠ .empty ∨ r.does ≠ 0
      · simp only [if_pos hr]
        constructor
        · intro q; cases q
        · rintro (q | ⟨r', e, h1, h2⟩)
          · exact absurd q h
          · cases e; rcases hr with q | q
            · exact absurd h1 q
            · exact absurd h2 q
      · simp only [if_neg hr, true_iff]
        refine .inr ⟨r, rfl, Classical.byContradiction fun q => hr (.inl q), Classical.byContradiction fun q => hr (.inr q)⟩
section
variable {room : ByteArray} {l : EL} {v r : Evt}
theorem addRc_1 (h : evOk v = false ∨ v.room ≠ room) : addRc room l v = 1 := if_pos h
theorem addRc_9 (h1 : evOk v = true) (h2 : v.room = room) (h3 : l.has v.id = true) : addRc room l v = 9 := by
  unfold addRc; rw [if_neg (by rw [h1, h2]; simp), if_pos h3]
theorem addRc_4 (h1 : evOk v = true) (h2 : v.room = room) (h3 : l.has v.id = false) (h4 : v.ps.any (fun p => !l.has p) = true) : addRc room l v = 4 := by
  unfold addRc; rw [if_neg (by rw [h1, h2]; simp), if_neg (by rw [h3]; simp), if_pos h4]
theorem addRc_thr (h1 : evOk v = true) (h2 : v.room = room) (h3 : l.has v.id = false) (h4 : v.ps.any (fun p => !l.has p) = false) : addRc room l v = thrRc l v := by
  unfold addRc; rw [if_neg (by rw [h1, h2]; simp), if_neg (by rw [h3]; simp), if_neg (by rw [h4]; simp)]
theorem thr_none (h : v.thread ≠ .empty) (hg : l.get v.thread = none) : thrRc l v = 4 := by unfold thrRc; rw [if_neg h, hg]
theorem thr_bad (h : v.thread ≠ .empty) (hg : l.get v.thread = some r) (hr : r.thread ≠ .empty ∨ r.does ≠ 0) : thrRc l v = 7 := by unfold thrRc; rw [if_neg h, hg]; exact if_pos hr
end
/-- Events that were added one by one. -/
def Good (room : ByteArray) (l : EL) : Prop := ∀ i v, l[i]? = some v → addRc room (l.take i) v = 0
theorem Good.nil (room : ByteArray) : Good room [] := fun i v h => by simp at h
theorem Good.snoc {room : ByteArray} {l : EL} {v : Evt} (h : Good room l) (hv : addRc room l v = 0) : Good room (l ++ [v]) := by
  intro i u hu
  rcases Nat.lt_trichotomy i l.length with q | q | q
  · rw [List.getElem?_append_left q] at hu
    rw [List.take_append_of_le_length (Nat.le_of_lt q)]
    exact h i u hu
  · subst q
    rw [List.getElem?_append_right (Nat.le_refl _), Nat.sub_self] at hu
    cases hu
    rw [List.take_append_of_le_length (Nat.le_refl _), List.take_length]; exact hv
  · rw [List.getElem?_eq_none (by simp; omega)] at hu; cases hu
theorem Good.add {room : ByteArray} {l : EL} {v : Evt} (h : Good room l) : Good room (addL room l v) := by
  unfold addL; split
  · rename_i q; exact h.snoc q
  · exact h
theorem Good.take {room : ByteArray} {l : EL} (h : Good room l) (n : Nat) : Good room (l.take n) := by
  intro i v hv
  have hi : i < n := by
    rcases Nat.lt_or_ge i n with q | q
    · exact q
    · rw [List.getElem?_eq_none (by simp; omega)] at hv; cases hv
  rw [List.getElem?_take, if_pos hi] at hv
  have := h i v hv
  rwa [List.take_take, Nat.min_eq_left (Nat.le_of_lt hi)]
theorem Good.mem {room : ByteArray} {l : EL} (h : Good room l) {v : Evt} (hv : v ∈ l) : evOk v = true ∧ v.room = room := by
  obtain ⟨i, hi⟩ := List.getElem?_of_mem hv
  have := addRc_zero.1 (h i v hi)
  exact ⟨this.1, this.2.1⟩
theorem Good.nodup {room : ByteArray} {l : EL} : Good room l → (l.map (·.id)).Nodup := by
  refine snoc_ind (P := fun l : EL => Good room l → (l.map (·.id)).Nodup) (fun _ => by simp) (fun l v ih h => ?_) l
  have h1 : Good room l := by have := h.take l.length; rwa [List.take_append_of_le_length (Nat.le_refl _), List.take_length] at this
  have h2 := addRc_zero.1 (h l.length v (by simp))
  rw [List.take_append_of_le_length (Nat.le_refl _), List.take_length] at h2
  rw [List.map_append, List.nodup_append]
  refine ⟨ih h1, by simp, ?_⟩
  intro a ha b hb
  simp only [List.map_cons, List.map_nil, List.mem_cons, List.not_mem_nil, or_false] at hb
  subst hb
  obtain ⟨u, hu, rfl⟩ := List.mem_map.1 ha
  exact has_no.1 h2.2.2.1 u hu
theorem Good.get {room : ByteArray} {l : EL} (h : Good room l) {v : Evt} (hv : v ∈ l) : l.get v.id = some v := get_eq h.nodup hv
theorem get_app {l k : EL} {x : ByteArray} {r : Evt} (h : l.get x = some r) : EL.get (l ++ k) x = some r := by
  unfold EL.get at h ⊢; rw [List.find?_append, h]; rfl
theorem mem_take {α : Type} {l : List α} {i : Nat} {x : α} (h : x ∈ l.take i) : x ∈ l := List.mem_of_mem_take h
/-- A parent stands ahead. -/
theorem Good.parent {room : ByteArray} {l : EL} (h : Good room l) {i : Nat} {v : Evt} (hv : l[i]? = some v) {p : ByteArray} (hp : p ∈ v.ps) : ∃ j u, j < i ∧ l[j]? = some u ∧ u.id = p := by
  have := (addRc_zero.1 (h i v hv)).2.2.2.1 p hp
  obtain ⟨u, hu, e⟩ := has_iff.1 this
  obtain ⟨j, hj⟩ := List.getElem?_of_mem hu
  have hi : j < i := by
    rcases Nat.lt_or_ge j i with q | q
    · exact q
    · rw [List.getElem?_eq_none (by simp; omega)] at hj; cases hj
  rw [List.getElem?_take, if_pos hi] at hj
  exact ⟨j, u, hi, hj, e⟩
theorem depthOf_take {l : EL} (hn : (l.map (·.id)).Nodup) {i j : Nat} {v : Evt} (hv : l[j]? = some v) (hj : j < i) : depthOf l v.id = depthOf (l.take i) v.id := by
  conv => lhs; rw [← List.take_append_drop i l]
  apply depthOf_app_other
  intro u hu q
  obtain ⟨k, hk⟩ := List.getElem?_of_mem hu
  rw [List.getElem?_drop] at hk
  have e1 : (l.map (·.id))[j]? = some v.id := by rw [List.getElem?_map, hv]; rfl
  have e2 : (l.map (·.id))[i + k]? = some v.id := by rw [List.getElem?_map, hk, ← q]; rfl
  exact nodup_ne hn (i := j) (j := i + k) (by omega) e1 e2
/-- An event's depth is of its parents'. -/
theorem Good.depthAt {room : ByteArray} {l : EL} (h : Good room l) {i : Nat} {v : Evt} (hv : l[i]? = some v) : depthOf l v.id = addDepth (depthOf (l.take i)) v.ps := by
  rw [depthOf_take h.nodup hv (Nat.lt_succ_self i)]
  have : l.take (i + 1) = l.take i ++ [v] := by rw [List.take_add_one, hv]; rfl
  rw [this, depthOf_snoc]; unfold depStep; rw [if_pos rfl]
theorem Good.depth {room : ByteArray} {l : EL} (h : Good room l) {v : Evt} (hv : v ∈ l) : depthOf l v.id = addDepth (depthOf l) v.ps := by
  obtain ⟨i, hi⟩ := List.getElem?_of_mem hv
  rw [h.depthAt hi]
  apply addDepth_congr
  intro p hp
  obtain ⟨j, u, hj, hu, rfl⟩ := h.parent hi hp
  exact (depthOf_take h.nodup hu hj).symm
theorem Good.less {room : ByteArray} {l : EL} (h : Good room l) {v : Evt} (hv : v ∈ l) {p : ByteArray} (hp : p ∈ v.ps) : depthOf l p + 1 ≤ depthOf l v.id := by
  rw [h.depth hv]; exact addDepth_mem hp
/-! ### The row -/
def posOf (l : EL) (v : Evt) : Pos := ⟨depthOf l v.id, v.id⟩
def allOf (l : EL) : EL := srt cmpPos (posOf l) l
def headsOf (l : EL) : List ByteArray := ((allOf l).filter fun v => !isPar l v.id).map (·.id)
theorem posOf_nodup {l k : EL} (hn : (k.map (·.id)).Nodup) : (k.map (posOf l)).Nodup := by
  have : (k.map (posOf l)).map (·.id) = k.map (·.id) := by rw [List.map_map]; rfl
  rw [← this] at hn
  exact List.Pairwise.of_map _ (fun a b h q => h (by rw [q])) hn
theorem allOf_sd {l : EL} (hn : (l.map (·.id)).Nodup) : Sd cmpPos (posOf l) (allOf l) := srt_sd cmpPos_law (posOf_nodup hn)
theorem allOf_perm (l : EL) : (allOf l).Perm l := srt_perm l
theorem allOf_mem {l : EL} {v : Evt} : v ∈ allOf l ↔ v ∈ l := (allOf_perm l).mem_iff
theorem allOf_len (l : EL) : (allOf l).length = l.length := srt_len l
end Csl


end Go.Proofs.YtaaondbmkibkkaaGreat
