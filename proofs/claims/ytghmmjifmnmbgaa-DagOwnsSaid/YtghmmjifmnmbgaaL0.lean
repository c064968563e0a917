/- Dags that are the same. -/
import Derived.Test.YtghmmjifmnmbgaaM3
import Derived.Test.YtghmmjifmnmbgaaD6
set_option linter.unusedVariables false
set_option linter.unusedSimpArgs false
set_option linter.unusedSectionVars false
namespace Go.Proofs.Ytghmmjifmnmbgaa
open Go Csl


namespace Csl
theorem depth_perm {room room' : ByteArray} {k l : EL} (hk : Good room' k) (hl : Good room l) (hp : k.Perm l) : ∀ x, depthOf k x = depthOf l x := by
  have key : ∀ (i : Nat) (v : Evt), l[i]? = some v → depthOf k v.id = depthOf l v.id := by
    intro i
    induction i using Nat.strongRecOn with
    | ind i ih =>
      intro v hv
      have hvl := List.mem_of_getElem? hv
      rw [hl.depth hvl, hk.depth (hp.mem_iff.2 hvl)]
      apply addDepth_congr
      intro p hps
      obtain ⟨j, u, hj, hu, rfl⟩ := hl.parent hv hps
      exact ih j hj u hu
  intro x
  cases h : l.has x with
  | true =>
    obtain ⟨v, hv, rfl⟩ := has_iff.1 h
    obtain ⟨i, hi⟩ := List.getElem?_of_mem hv
    exact key i v hi
  | false =>
    rw [depthOf_none h, depthOf_none (has_no.2 fun v hv => has_no.1 h v (hp.mem_iff.1 hv))]
theorem has_perm {k l : EL} (hp : k.Perm l) (x : ByteArray) : k.has x = l.has x := by
  rw [Bool.eq_iff_iff, has_iff, has_iff]
  exact ⟨fun ⟨v, h, e⟩ => ⟨v, hp.mem_iff.1 h, e⟩, fun ⟨v, h, e⟩ => ⟨v, hp.mem_iff.2 h, e⟩⟩
theorem isPar_perm {k l : EL} (hp : k.Perm l) (x : ByteArray) : isPar k x = isPar l x := by
  unfold isPar
  rw [Bool.eq_iff_iff, List.any_eq_true, List.any_eq_true]
  exact ⟨fun ⟨v, h, e⟩ => ⟨v, hp.mem_iff.1 h, e⟩, fun ⟨v, h, e⟩ => ⟨v, hp.mem_iff.2 h, e⟩⟩
theorem allOf_eq {room room' : ByteArray} {k l : EL} (hk : Good room' k) (hl : Good room l) (hp : k.Perm l) : allOf k = allOf l := by
  unfold allOf
  have : posOf k = posOf l := by funext v; unfold posOf; rw [depth_perm hk hl hp]
  rw [this]
  exact srt_congr cmpPos_law (posOf_nodup hk.nodup) hp
theorem headsOf_eq {room room' : ByteArray} {k l : EL} (hk : Good room' k) (hl : Good room l) (hp : k.Perm l) : headsOf k = headsOf l := by
  unfold headsOf
  rw [allOf_eq hk hl hp]
  have : (fun v : Evt => !isPar k v.id) = fun v => !isPar l v.id := by funext v; rw [isPar_perm hp]
  rw [this]
theorem get_perm {room room' : ByteArray} {k l : EL} (hk : Good room' k) (hl : Good room l) (hp : k.Perm l) {v : Evt} (hv : v ∈ l) : k.get v.id = some v := hk.get (hp.mem_iff.2 hv)
theorem posAt_mem {room room' : ByteArray} {k l : EL} (hk : Good room' k) (hl : Good room l) (hp : k.Perm l) {v : Evt} (hv : v ∈ l) : posAt k v.id = ⟨depthOf l v.id, v.id⟩ := by
  unfold posAt; rw [has_perm hp, has_mem hv, if_pos rfl, depth_perm hk hl hp]
theorem Lends.slPs (ys : ES) : Lends (Stars (ys.map Csl.slPs)) (fun G => ∀ y ∈ ys, SlR G 9 1 y.2.a y.1.ps.length (y.1.ps.map Value.string)) := Lends.manySl (a := fun y : Evt × Sli => y.2.a) (n := fun y => y.1.ps.length) (c := fun y => y.2.c) (cs := fun y => y.1.ps.map Value.string) ys
theorem choose_list {α β : Type} {P : α → β → Prop} : ∀ {l : List α}, (∀ x ∈ l, ∃ y, P x y) → ∃ zs : List (α × β), zs.map (·.1) = l ∧ ∀ z ∈ zs, P z.1 z.2
  | [], _ => ⟨[], rfl, fun z h => by cases h⟩
  | x :: l, h => by
    obtain ⟨y, hy⟩ := h x List.mem_cons_self
    obtain ⟨zs, h1, h2⟩ := choose_list fun u hu => h u (List.mem_cons_of_mem _ hu)
    refine ⟨(x, y) :: zs, by rw [List.map_cons, h1], fun z hz => ?_⟩
    rcases List.mem_cons.1 hz with rfl | hz
    · exact hy
    · exact h2 z hz
/-- What came in: what events are made of. -/
def PsIn (G : Gp) (e : Evn) : Prop := ∃ ps, HasPs G e ps
theorem ps_in {G : Gp} {e : Evn} {P : List ByteArray → Prop} {Q : Prop} (h : ∃ xs : List ByteArray, xs.length = e.par.n ∧ P xs ∧ SlR G 9 1 e.par.a xs.length (xs.map Value.string) ∧ Q) : PsIn G e := by
  obtain ⟨xs, h1, _, h2, _⟩ := h; exact ⟨xs, h1.symm, h2⟩
def GsIn (G : Gp) (gs : List GG) : Prop := ∃ xs : List GX, xs.map (·.1) = gs ∧ GXok G xs
theorem gs_in {G : Gp} {gs : List GG} {Q : GG → Prop} (h : ∀ x ∈ gs, okGG x ∧ ∃ zs : List Int, zs.length = x.par.n ∧ (∀ z ∈ zs, (Lit.int .i64 z).wf = true) ∧ SlR G 3 1 x.par.a zs.length (zs.map (Value.int .i64)) ∧ Q x) : GsIn G gs := by
  obtain ⟨zs, h1, h2⟩ := choose_list (P := fun x zs => okGG x ∧ HasI G x.par zs) (l := gs) fun x hx => by
    obtain ⟨h0, zs, a1, a2, a3, _⟩ := h x hx
    exact ⟨zs, h0, a1.symm, a3, a2⟩
  exact ⟨zs, h1, h2⟩
theorem gx_flat (xs : List GX) : (xs.map (·.1)).flatMap cGG = xs.flatMap cGX := by rw [List.flatMap_map]; rfl
theorem addRc_twice {room : ByteArray} {l : EL} {v : Evt} (h : addRc room l v = 0) : addRc room (l ++ [v]) v = 9 := by
  have q := addRc_zero.1 h
  exact addRc_9 q.1 q.2.1 (has_mem (by simp))
theorem add_sm {room : ByteArray} {l : EL} {v : Evt} (hl : ∀ u ∈ l, evSm u) (hv : evSm v) : ∀ u ∈ addL room l v, evSm u := by
  unfold addL; split
  · intro u hu
    rcases List.mem_append.1 hu with hu | hu
    · exact hl u hu
    · obtain rfl := List.mem_singleton.1 hu; exact hv
  · exact hl
theorem addL_len (room : ByteArray) (l : EL) (v : Evt) : (addL room l v).length ≤ l.length + 1 := by
  unfold addL; split
  · simp
  · omega
theorem sub_len {k l : EL} : k.Nodup → (∀ v ∈ k, v ∈ l) → k.length ≤ l.length := by
  induction k generalizing l with
  | nil => intro _ _; exact Nat.zero_le _
  | cons x k ih =>
    intro hn hs
    obtain ⟨hx, hk⟩ := List.nodup_cons.1 hn
    obtain ⟨s, t, rfl⟩ := List.append_of_mem (hs x List.mem_cons_self)
    have := ih (l := s ++ t) hk fun v hv => by
      have h1 := hs v (List.mem_cons_of_mem _ hv)
      simp only [List.mem_append, List.mem_cons] at h1 ⊢
      rcases h1 with h1 | h1 | h1
      · exact .inl h1
      · subst h1; exact absurd hv hx
      · exact .inr h1
    simp only [List.length_cons, List.length_append] at this ⊢; omega
theorem Good.nd {room : ByteArray} {l : EL} (h : Good room l) : l.Nodup := List.Pairwise.of_map _ (fun a b h q => h (by rw [q])) h.nodup
theorem Good.same {room : ByteArray} {l : EL} (h : Good room l) {u v : Evt} (hu : u ∈ l) (hv : v ∈ l) (e : u.id = v.id) : u = v := by
  have h1 := h.get hu; have h2 := h.get hv; rw [e, h2] at h1; exact (Option.some.inj h1).symm
/-- A thread's root is of the list. -/
theorem Good.root {room : ByteArray} {l : EL} (h : Good room l) {i : Nat} {v : Evt} (hv : l[i]? = some v) (ht : v.thread ≠ .empty) : ∃ (j : Nat) (r : Evt), j < i ∧ l[j]? = some r ∧ r.id = v.thread ∧ r.thread = .empty ∧ r.does = 0 := by
  rcases thrRc_zero.1 (addRc_zero.1 (h i v hv)).2.2.2.2 with q | ⟨r, h1, h2, h3⟩
  · exact absurd q ht
  · obtain ⟨hm, e⟩ := get_of h1
    obtain ⟨j, hj⟩ := List.getElem?_of_mem hm
    have hi : j < i := by
      rcases Nat.lt_or_ge j i with q | q
      · exact q
      · rw [List.getElem?_eq_none (by simp; omega)] at hj; cases hj
    rw [List.getElem?_take, if_pos hi] at hj
    exact ⟨j, r, hi, hj, e, h2, h3⟩
section
variable {room : ByteArray} {k l : EL}
theorem rc_sub (hk : Good room k) (hl : Good room l) (hs : ∀ v ∈ k, v ∈ l) {v : Evt} (hv : v ∈ l) : addRc room k v = 0 ∨ addRc room k v = 4 ∨ addRc room k v = 9 := by
  obtain ⟨h1, h2⟩ := hl.mem hv
  by_cases h3 : k.has v.id = true
  · exact .inr (.inr (addRc_9 h1 h2 h3))
  · have h3' : k.has v.id = false := by simpa using h3
    by_cases h4 : v.ps.any (fun p => !k.has p) = true
    · exact .inr (.inl (addRc_4 h1 h2 h3' h4))
    · have h4' : v.ps.any (fun p => !k.has p) = false := by simpa using h4
      rw [addRc_thr h1 h2 h3' h4']
      by_cases h5 : v.thread = .empty
      · exact .inl (thrRc_zero.2 (.inl h5))
      · cases hg : k.get v.thread with
        | none => exact .inr (.inl (thr_none h5 hg))
        | some r =>
          obtain ⟨hr, he⟩ := get_of hg
          obtain ⟨i, hi⟩ := List.getElem?_of_mem hv
          obtain ⟨j, r', hj, hr', he', ht, hd⟩ := hl.root hi h5
          obtain rfl : r = r' := hl.same (hs r hr) (List.mem_of_getElem? hr') (he.trans he'.symm)
          exact .inl (thrRc_zero.2 (.inr ⟨r, hg, ht, hd⟩))
/-- All that stands ahead is there: then it is there behind that. -/
theorem rc_ready (hk : Good room k) (hl : Good room l) (hs : ∀ v ∈ k, v ∈ l) {i : Nat} {v : Evt} (hv : l[i]? = some v) (hr : ∀ (j : Nat) (u : Evt), j < i → l[j]? = some u → u ∈ k) : v ∈ addL room k v := by
  have hvm := List.mem_of_getElem? hv
  obtain ⟨h1, h2⟩ := hl.mem hvm
  by_cases h3 : k.has v.id = true
  · rw [addL_no (by rw [addRc_9 h1 h2 h3]; decide)]
    obtain ⟨u, hu, e⟩ := has_iff.1 h3
    rw [← hl.same (hs u hu) hvm e]; exact hu
  · have h3' : k.has v.id = false := by simpa using h3
    have h0 : addRc room k v = 0 := by
      refine addRc_zero.2 ⟨h1, h2, h3', fun p hp => ?_, ?_⟩
      · obtain ⟨j, u, hj, hu, rfl⟩ := hl.parent hv hp
        exact has_mem (hr j u hj hu)
      · by_cases h5 : v.thread = .empty
        · exact thrRc_zero.2 (.inl h5)
        · obtain ⟨j, r, hj, hr', he, ht, hd⟩ := hl.root hv h5
          exact thrRc_zero.2 (.inr ⟨r, by rw [← he]; exact hk.get (hr j r hj hr'), ht, hd⟩)
    rw [addL_ok h0]; simp
theorem sub_add (hs : ∀ v ∈ k, v ∈ l) {v : Evt} (hv : v ∈ l) : ∀ u ∈ addL room k v, u ∈ l := by
  unfold addL; split
  · intro u hu
    rcases List.mem_append.1 hu with hu | hu
    · exact hs u hu
    · obtain rfl := List.mem_singleton.1 hu; exact hv
  · exact hs
theorem mem_add {u v : Evt} (hu : u ∈ k) : u ∈ addL room k v := by
  unfold addL; split
  · exact List.mem_append.2 (.inl hu)
  · exact hu
theorem perm_of_sub (hk : Good room k) (hl : Good room l) (h1 : ∀ v ∈ k, v ∈ l) (h2 : ∀ v ∈ l, v ∈ k) : k.Perm l := (List.perm_ext_iff_of_nodup hk.nd hl.nd).2 fun a => ⟨h1 a, h2 a⟩
end
theorem cmpPos_less {p q : Pos} (h : p.depth < q.depth) : cmpPos p q = -1 := by
  unfold cmpPos orI cmpI; rw [if_pos h]; rfl
theorem stars_mono {α : Type} {P Q : α → HProp} (hpq : ∀ x h, P x h → Q x h) : ∀ (l : List α) {h : Hp}, stars (l.map P) h → stars (l.map Q) h
  | [], h, q => q
  | x :: l, h, ⟨h1, h2, d, e, p, q⟩ => ⟨h1, h2, d, e, hpq x h1 p, stars_mono hpq l q⟩
/-- A slice of an event's parents, whatever they are now. -/
def slAny (y : Evt × Sli) : HProp := Ex (fun ps : List ByteArray => ps.length = y.1.ps.length) (fun ps => [Sl 9 1 y.2.a ps.length y.2.c (ps.map Value.string)])
theorem slPs_any (y : Evt × Sli) (h : Hp) (q : slPs y h) : slAny y h := ⟨y.1.ps, rfl, h, Hp.empty, Hp.disj_empty h, (Hp.join_empty h).symm, q, rfl⟩
section
variable {c : Cx} {G : Gp} {e : Env} {A A' : List HProp} {st : List Item}
theorem Run.starsAny (ys : ES) (hf : Find (Stars (ys.map slPs)) A A') (next : Run c G st e (Stars (ys.map slAny) :: A')) : Run c G st e A := fun ac w h s => next ac w h ((s.find hf).imp fun k q => stars_mono slPs_any ys q)
theorem Run.openAny {y : Evt × Sli} (hf : Find (slAny y) A A') (next : ∀ ps : List ByteArray, ps.length = y.1.ps.length → Run c G st e (Sl 9 1 y.2.a ps.length y.2.c (ps.map Value.string) :: A')) : Run c G st e A := Run.openEx hf next
theorem Run.mkAny {y : Evt × Sli} (ps : List ByteArray) (hl : ps.length = y.1.ps.length) (ht : Take [Sl 9 1 y.2.a ps.length y.2.c (ps.map Value.string)] A A') (next : Run c G st e (slAny y :: A')) : Run c G st e A := Run.mkEx ps ht hl next
end
theorem split_map {α β : Type} (f : α → β) {l : List α} {i : Nat} {x : α} (h : l[i]? = some x) : l.map f = (l.take i).map f ++ f x :: (l.drop (i + 1)).map f := by
  obtain ⟨hi, he⟩ := List.getElem?_eq_some_iff.1 h
  conv => lhs; rw [← List.take_append_drop i l, List.drop_eq_getElem_cons hi, he]
  rw [List.map_append, List.map_cons]
theorem get_snoc {l : EL} {v : Evt} (h : l.has v.id = false) : EL.get (l ++ [v]) v.id = some v := by
  have := get_nil.2 h
  unfold EL.get at this ⊢
  rw [List.find?_append, this]; simp
theorem made_id {room : ByteArray} {xs : List GX} {v : Evt} (h : v ∈ madeL room xs) : ∃ j : Nat, v.id = eventOf (j : Nat) := by
  obtain ⟨j, hj⟩ := List.getElem?_of_mem h
  exact ⟨j, made_mids _ _ j v hj⟩
theorem made_size {room : ByteArray} {xs : List GX} {v : Evt} (h : v ∈ madeL room xs) : v.id.size = 3 := by
  obtain ⟨j, e⟩ := made_id h; rw [e, eventOf_size]
def ownV (room : ByteArray) (pp : List ByteArray) : Evt := ⟨⟨#[36, 120]⟩, room, pp, .empty, ⟨#[64, 97, 58, 115, 49]⟩, 0⟩
theorem own_no {room : ByteArray} {xs : List GX} {x : ByteArray} (h : x.size ≠ 3) : (madeL room xs).has x = false := has_no.2 fun v hv q => h (by rw [← q]; exact made_size hv)
theorem own_rc {room : ByteArray} {xs : List GX} {pp : List ByteArray} (hr : namedB 33 (bl room) = true) (h : pp = [] ∨ ∃ v ∈ madeL room xs, pp = [v.id]) : addRc room (madeL room xs) (ownV room pp) = 0 := by
  have hl : pp.length ≤ 1 := by rcases h with rfl | ⟨v, _, rfl⟩ <;> simp
  refine addRc_zero.2 ⟨evMay_yes ?_ ?_ ?_, rfl, own_no (by show (⟨#[36, 120]⟩ : ByteArray).size ≠ 3; decide), fun p hp => ?_, thrRc_zero.2 (.inl rfl)⟩
  · unfold headOk
    simp only [Bool.and_eq_true, decide_eq_true_eq]
    refine ⟨⟨⟨⟨⟨?_, hr⟩, ?_⟩, ?_⟩, ?_⟩, ?_⟩
    · show eventB (bl ⟨#[36, 120]⟩) = true; decide +kernel
    · show namedB 64 (bl ⟨#[64, 97, 58, 115, 49]⟩) = true; decide +kernel
    · show pp.length ≤ 4; omega
    · show (0 : Int) ≤ 0; omega
    · show (0 : Int) ≤ 2; omega
  · unfold thrOk; simp [ownV, Evt.evn]
  · intro i hi
    have hi' : i < pp.length := hi
    rcases h with rfl | ⟨v, hv, rfl⟩
    · cases hi'
    · obtain rfl : i = 0 := by simp at hi'; exact hi'
      obtain ⟨j, e⟩ := made_id hv
      refine ⟨v.id, rfl, by rw [e]; exact event_named _, fun q => ?_, fun q => absurd q (Nat.lt_irrefl _)⟩
      have h3 := made_size hv
      rw [q] at h3
      exact absurd h3 (by show (⟨#[36, 120]⟩ : ByteArray).size ≠ 3; decide)
  · have hp' : p ∈ pp := hp
    rcases h with rfl | ⟨v, hv, rfl⟩
    · cases hp'
    · obtain rfl := List.mem_singleton.1 hp'; exact has_mem hv
theorem own_wf {room : ByteArray} {xs : List GX} {pp : List ByteArray} (hr : room.size ≤ 1000) (h : pp = [] ∨ ∃ v ∈ madeL room xs, pp = [v.id]) : evWf (ownV room pp) := by
  refine evWf_of (by show (⟨#[36, 120]⟩ : ByteArray).size ≤ 1000; decide) hr (by show ByteArray.empty.size ≤ 1000; decide) (by show (⟨#[64, 97, 58, 115, 49]⟩ : ByteArray).size ≤ 1000; decide) (by show _ ≤ (0 : Int) ∧ (0 : Int) ≤ _; omega) (fun p hp => ?_) ?_
  · have hp' : p ∈ pp := hp
    rcases h with rfl | ⟨v, hv, rfl⟩
    · cases hp'
    · obtain rfl := List.mem_singleton.1 hp'; rw [made_size hv]; omega
  · show pp.length ≤ 1000
    rcases h with rfl | ⟨v, _, rfl⟩ <;> simp
/-- The document's example. -/
def liveA : Evt := ⟨⟨#[36, 97]⟩, ⟨#[33, 114, 58, 115]⟩, [], .empty, ⟨#[64, 97, 58, 115]⟩, 0⟩
def liveB : Evt := ⟨⟨#[36, 98]⟩, ⟨#[33, 114, 58, 115]⟩, [⟨#[36, 97]⟩], .empty, ⟨#[64, 97, 58, 115]⟩, 0⟩
def liveC : Evt := ⟨⟨#[36, 99]⟩, ⟨#[33, 114, 58, 115]⟩, [⟨#[36, 97]⟩], .empty, ⟨#[64, 97, 58, 115]⟩, 0⟩
def liveD : Evt := ⟨⟨#[36, 100]⟩, ⟨#[33, 114, 58, 115]⟩, [⟨#[36, 98]⟩, ⟨#[36, 99]⟩], .empty, ⟨#[64, 97, 58, 115]⟩, 0⟩
def liveL : EL := [liveA, liveB, liveC, liveD]
theorem live_good : Good ⟨#[33, 114, 58, 115]⟩ liveL := by
  have h0 : addRc ⟨#[33, 114, 58, 115]⟩ [] liveA = 0 := by decide +kernel
  have h1 : addRc ⟨#[33, 114, 58, 115]⟩ [liveA] liveB = 0 := by decide +kernel
  have h2 : addRc ⟨#[33, 114, 58, 115]⟩ [liveA, liveB] liveC = 0 := by decide +kernel
  have h3 : addRc ⟨#[33, 114, 58, 115]⟩ [liveA, liveB, liveC] liveD = 0 := by decide +kernel
  exact ((((Good.nil _).snoc h0).snoc h1).snoc h2).snoc h3
theorem live_pos : posAt liveL ⟨#[36, 100]⟩ = ⟨2, ⟨#[36, 100]⟩⟩ := by decide +kernel
theorem live_has : liveL.has ⟨#[36, 100]⟩ = true := by decide +kernel
theorem live_depth : depthOf liveL ⟨#[36, 100]⟩ = 2 := by decide +kernel
theorem live_wf : ∀ v ∈ liveL, evWf v := by
  have hs : ∀ v ∈ liveL, (v.id.size ≤ 1000 ∧ v.room.size ≤ 1000 ∧ v.thread.size ≤ 1000 ∧ v.user.size ≤ 1000) ∧ (v.does = 0 ∧ (∀ p ∈ v.ps, p.size ≤ 1000)) ∧ v.ps.length ≤ 1000 := by decide +kernel
  intro v hv
  obtain ⟨⟨h1, h2, h3, h4⟩, ⟨h5, h6⟩, h7⟩ := hs v hv
  exact evWf_of h1 h2 h3 h4 (by rw [h5]; decide) h6 h7
end Csl


end Go.Proofs.Ytghmmjifmnmbgaa
