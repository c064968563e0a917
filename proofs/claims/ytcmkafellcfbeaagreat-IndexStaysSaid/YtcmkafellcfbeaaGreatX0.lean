/- What is ahead, plainly. -/
import Derived.Test.YtcmkafellcfbeaaGreatM2
import Derived.Test.YtcmkafellcfbeaaGreatD6
set_option linter.unusedVariables false
set_option linter.unusedSimpArgs false
set_option linter.unusedSectionVars false
namespace Go.Proofs.YtcmkafellcfbeaaGreat
open Go Csl


namespace Csl
theorem choose_list {α β : Type} {P : α → β → Prop} : ∀ {l : List α}, (∀ x ∈ l, ∃ y, P x y) → ∃ zs : List (α × β), zs.map (·.1) = l ∧ ∀ z ∈ zs, P z.1 z.2
  | [], _ => ⟨[], rfl, fun z h => by cases h⟩
  | x :: l, h => by
    obtain ⟨y, hy⟩ := h x List.mem_cons_self
    obtain ⟨zs, h1, h2⟩ := choose_list fun u hu => h u (List.mem_cons_of_mem _ hu)
    refine ⟨(x, y) :: zs, by rw [List.map_cons, h1], fun z hz => ?_⟩
    rcases List.mem_cons.1 hz with rfl | hz
    · exact hy
    · exact h2 z hz
/-- What came in: what events are made of. -/
def PsIn (G : Gp) (e : Evn) : Prop := ∃ ps, HasPs G e ps
theorem ps_in {G : Gp} {e : Evn} {P : List ByteArray → Prop} {Q : Prop} (h : ∃ xs : List ByteArray, xs.length = e.par.n ∧ P xs ∧ SlR G 9 1 e.par.a xs.length (xs.map Value.string) ∧ Q) : PsIn G e := by
  obtain ⟨xs, h1, _, h2, _⟩ := h; exact ⟨xs, h1.symm, h2⟩
def GsIn (G : Gp) (gs : List GG) : Prop := ∃ xs : List GX, xs.map (·.1) = gs ∧ GXok G xs
theorem gs_in {G : Gp} {gs : List GG} {Q : GG → Prop} (h : ∀ x ∈ gs, okGG x ∧ ∃ zs : List Int, zs.length = x.par.n ∧ (∀ z ∈ zs, (Lit.int .i64 z).wf = true) ∧ SlR G 3 1 x.par.a zs.length (zs.map (Value.int .i64)) ∧ Q x) : GsIn G gs := by
  obtain ⟨zs, h1, h2⟩ := choose_list (P := fun x zs => okGG x ∧ HasI G x.par zs) (l := gs) fun x hx => by
    obtain ⟨h0, zs, a1, a2, a3, _⟩ := h x hx
    exact ⟨zs, h0, a1.symm, a3, a2⟩
  exact ⟨zs, h1, h2⟩
theorem gx_flat (xs : List GX) : (xs.map (·.1)).flatMap cGG = xs.flatMap cGX := by rw [List.flatMap_map]; rfl
end Csl

namespace Csl
/-! ### What is ahead -/
def ancStep (f : ByteArray → ByteArray → Bool) (v : Evt) : ByteArray → ByteArray → Bool := fun x => if x = v.id then fun a => v.ps.any fun p => decide (p = a) || f p a else f x
/-- What is ahead of an event: 'ancOf l b a' tells whether a is ahead of b. -/
def ancOf (l : EL) : ByteArray → ByteArray → Bool := l.foldl ancStep fun _ _ => false
theorem ancOf_snoc (l : EL) (v : Evt) : ancOf (l ++ [v]) = ancStep (ancOf l) v := by simp [ancOf]
theorem ancFold_other : ∀ (l : EL) (f : ByteArray → ByteArray → Bool) (x : ByteArray), (∀ v ∈ l, v.id ≠ x) → l.foldl ancStep f x = f x
  | [], f, x, _ => rfl
  | v :: l, f, x, h => by
    rw [List.foldl_cons, ancFold_other l _ x fun u hu => h u (List.mem_cons_of_mem _ hu)]
    unfold ancStep; rw [if_neg fun q => h v List.mem_cons_self q.symm]
theorem ancOf_none {l : EL} {x : ByteArray} (h : l.has x = false) : ancOf l x = fun _ => false := ancFold_other l _ x (has_no.1 h)
theorem ancOf_take {l : EL} (hn : (l.map (·.id)).Nodup) {i j : Nat} {v : Evt} (hv : l[j]? = some v) (hj : j < i) : ancOf l v.id = ancOf (l.take i) v.id := by
  conv => lhs; rw [← List.take_append_drop i l]
  unfold ancOf; rw [List.foldl_append]
  apply ancFold_other
  intro u hu q
  obtain ⟨k, hk⟩ := List.getElem?_of_mem hu
  rw [List.getElem?_drop] at hk
  have e1 : (l.map (·.id))[j]? = some v.id := by rw [List.getElem?_map, hv]; rfl
  have e2 : (l.map (·.id))[i + k]? = some v.id := by rw [List.getElem?_map, hk, ← q]; rfl
  exact nodup_ne hn (i := j) (j := i + k) (by omega) e1 e2
theorem any_congr' {α : Type} {ps : List α} {f g : α → Bool} (h : ∀ p ∈ ps, f p = g p) : ps.any f = ps.any g := by
  rw [Bool.eq_iff_iff, List.any_eq_true, List.any_eq_true]
  exact ⟨fun ⟨p, h1, h2⟩ => ⟨p, h1, by rw [← h p h1]; exact h2⟩, fun ⟨p, h1, h2⟩ => ⟨p, h1, by rw [h p h1]; exact h2⟩⟩
theorem Good.anc {room : ByteArray} {l : EL} (h : Good room l) {v : Evt} (hv : v ∈ l) (a : ByteArray) : ancOf l v.id a = v.ps.any fun p => decide (p = a) || ancOf l p a := by
  obtain ⟨i, hi⟩ := List.getElem?_of_mem hv
  rw [ancOf_take h.nodup hi (Nat.lt_succ_self i)]
  have : l.take (i + 1) = l.take i ++ [v] := by rw [List.take_add_one, hi]; rfl
  rw [this, ancOf_snoc]; unfold ancStep; rw [if_pos rfl]
  apply any_congr'
  intro p hp
  obtain ⟨j, u, hj, hu, rfl⟩ := h.parent hi hp
  rw [ancOf_take h.nodup hu hj]
theorem Good.anc_less {room : ByteArray} {l : EL} (h : Good room l) : ∀ {b a : ByteArray}, ancOf l b a = true → l.has b = true ∧ l.has a = true ∧ depthOf l a < depthOf l b := by
  have key : ∀ (i : Nat) (v : Evt), l[i]? = some v → ∀ a, ancOf l v.id a = true → l.has a = true ∧ depthOf l a < depthOf l v.id := by
    intro i
    induction i using Nat.strongRecOn with
    | ind i ih =>
      intro v hv a ha
      rw [h.anc (List.mem_of_getElem? hv), List.any_eq_true] at ha
      obtain ⟨p, hp, q⟩ := ha
      have hl := h.less (List.mem_of_getElem? hv) hp
      obtain ⟨j, u, hj, hu, rfl⟩ := h.parent hv hp
      rw [Bool.or_eq_true] at q
      rcases q with q | q
      · have e : u.id = a := by simpa using q
        subst e
        exact ⟨has_mem (List.mem_of_getElem? hu), by omega⟩
      · have := ih j hj u hu a q
        exact ⟨this.1, by omega⟩
  intro b a hb
  cases hh : l.has b with
  | false => rw [ancOf_none hh] at hb; cases hb
  | true =>
    obtain ⟨v, hv, rfl⟩ := has_iff.1 hh
    obtain ⟨i, hi⟩ := List.getElem?_of_mem hv
    exact ⟨rfl, key i v hi a hb⟩
theorem Good.anc_trans {room : ByteArray} {l : EL} (h : Good room l) {a b : ByteArray} (hab : ancOf l b a = true) : ∀ {c : ByteArray}, ancOf l c b = true → ancOf l c a = true := by
  have key : ∀ (i : Nat) (v : Evt), l[i]? = some v → ancOf l v.id b = true → ancOf l v.id a = true := by
    intro i
    induction i using Nat.strongRecOn with
    | ind i ih =>
      intro v hv hb
      rw [h.anc (List.mem_of_getElem? hv), List.any_eq_true] at hb ⊢
      obtain ⟨p, hp, q⟩ := hb
      refine ⟨p, hp, ?_⟩
      rw [Bool.or_eq_true] at q ⊢
      rcases q with q | q
      · have e : p = b := by simpa using q
        subst e; exact .inr hab
      · obtain ⟨j, u, hj, hu, rfl⟩ := h.parent hv hp
        exact .inr (ih j hj u hu q)
  intro c hc
  obtain ⟨h1, _⟩ := h.anc_less hc
  obtain ⟨v, hv, rfl⟩ := has_iff.1 h1
  obtain ⟨i, hi⟩ := List.getElem?_of_mem hv
  exact key i v hi hc
/-! ### Maps of those that are ahead -/
def AncM (f : ByteArray → Bool) (es : List (ByteArray × Int)) : Prop := KN es ∧ ∀ a, mget a es = if f a = true then some 1 else none
theorem AncM.nil : AncM (fun _ => false) [] := ⟨List.nodup_nil, fun a => rfl⟩
theorem AncM.put {f : ByteArray → Bool} {es : List (ByteArray × Int)} (h : AncM f es) (x : ByteArray) : AncM (fun a => f a || decide (a = x)) (mput x 1 es) :=
  ⟨h.1.mput, fun a => by
    rw [mget_mput, h.2 a]
    by_cases hx : a = x
    · simp [hx]
    · simp [hx]⟩
theorem AncM.congr {f g : ByteArray → Bool} {es : List (ByteArray × Int)} (h : AncM f es) (e : ∀ a, f a = g a) : AncM g es := ⟨h.1, fun a => by rw [h.2 a, e a]⟩
theorem AncM.keys {f : ByteArray → Bool} {es : List (ByteArray × Int)} (h : AncM f es) (a : ByteArray) : a ∈ es.map (·.1) ↔ f a = true := by
  have := mget_none (k := a) (l := es)
  rw [h.2 a] at this
  by_cases q : f a = true
  · simp [q] at this; simpa [q] using this
  · simp [q] at this; simpa [q] using this
/-! ### The row of events: parents stand ahead -/
theorem allOf_ahead {room : ByteArray} {l : EL} (h : Good room l) {i : Nat} {v : Evt} (hv : (allOf l)[i]? = some v) {p : ByteArray} (hp : p ∈ v.ps) : ∃ j u, j < i ∧ (allOf l)[j]? = some u ∧ u.id = p := by
  have hvl : v ∈ l := allOf_mem.1 (List.mem_of_getElem? hv)
  have hless := h.less hvl hp
  obtain ⟨k, hk⟩ := List.getElem?_of_mem hvl
  obtain ⟨m, u, _, hu, rfl⟩ := h.parent hk hp
  obtain ⟨j, hj⟩ := List.getElem?_of_mem (allOf_mem.2 (List.mem_of_getElem? hu))
  refine ⟨j, u, ?_, hj, rfl⟩
  rcases Nat.lt_trichotomy j i with q | q | q
  · exact q
  · subst q; rw [hv] at hj; cases hj; omega
  · exfalso
    obtain ⟨a1, b1⟩ := List.getElem?_eq_some_iff.1 hv
    obtain ⟨a2, b2⟩ := List.getElem?_eq_some_iff.1 hj
    have := List.pairwise_iff_getElem.1 (allOf_sd h.nodup) i j a1 a2 q
    rw [b1, b2] at this
    have hlt : (posOf l u).depth < (posOf l v).depth := by show depthOf l u.id < depthOf l v.id; omega
    have h2 := cmpPos_law.anti (posOf l v) (posOf l u)
    have h3 : cmpPos (posOf l u) (posOf l v) < 0 := by
      unfold cmpPos orI cmpI; rw [if_pos hlt]; show (if (-1 : Int) ≠ 0 then (-1 : Int) else _) < 0; rw [if_pos (by decide)]; decide
    omega
end Csl


end Go.Proofs.YtcmkafellcfbeaaGreat
