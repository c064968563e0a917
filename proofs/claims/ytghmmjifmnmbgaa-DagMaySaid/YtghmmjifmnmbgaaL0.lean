/- Dags that are the same. -/
import Derived.Test.YtghmmjifmnmbgaaM3
import Derived.Test.YtghmmjifmnmbgaaD6
set_option linter.unusedVariables false
set_option linter.unusedSimpArgs false
set_option linter.unusedSectionVars false
namespace Go.Proofs.Ytghmmjifmnmbgaa
open Go Csl


namespace Csl
theorem depth_perm {room room' : ByteArray} {k l : EL} (hk : Good room' k) (hl : Good room l) (hp : k.Perm l) : ∀ x, depthOf k x = depthOf l x := by
  have key : ∀ (i : Nat) (v : Evt), l[i]? = some v → depthOf k v.id = depthOf l v.id := by
    intro i
    induction i using Nat.strongRecOn with
    | ind i ih =>
      intro v hv
      have hvl := List.mem_of_getElem? hv
      rw [hl.depth hvl, hk.depth (hp.mem_iff.2 hvl)]
      apply addDepth_congr
      intro p hps
      obtain ⟨j, u, hj, hu, rfl⟩ := hl.parent hv hps
      exact ih j hj u hu
  intro x
  cases h : l.has x with
  | true =>
    obtain ⟨v, hv, rfl⟩ := has_iff.1 h
    obtain ⟨i, hi⟩ := List.getElem?_of_mem hv
    exact key i v hi
  | false =>
    rw [depthOf_none h, depthOf_none (has_no.2 fun v hv => has_no.1 h v (hp.mem_iff.1 hv))]
theorem has_perm {k l : EL} (hp : k.Perm l) (x : ByteArray) : k.has x = l.has x := by
  rw [Bool.eq_iff_iff, has_iff, has_iff]
  exact ⟨fun ⟨v, h, e⟩ => ⟨v, hp.mem_iff.1 h, e⟩, fun ⟨v, h, e⟩ => ⟨v, hp.mem_iff.2 h, e⟩⟩
theorem isPar_perm {k l : EL} (hp : k.Perm l) (x : ByteArray) : isPar k x = isPar l x := by
  unfold isPar
  rw [Bool.eq_iff_iff, List.any_eq_true, List.any_eq_true]
  exact ⟨fun ⟨v, h, e⟩ => ⟨v, hp.mem_iff.1 h, e⟩, fun ⟨v, h, e⟩ => ⟨v, hp.mem_iff.2 h, e⟩⟩
theorem allOf_eq {room room' : ByteArray} {k l : EL} (hk : Good room' k) (hl : Good room l) (hp : k.Perm l) : allOf k = allOf l := by
  unfold allOf
  have : posOf k = posOf l := by funext v; unfold posOf; rw [depth_perm hk hl hp]
  rw [this]
  exact srt_congr cmpPos_law (posOf_nodup hk.nodup) hp
theorem headsOf_eq {room room' : ByteArray} {k l : EL} (hk : Good room' k) (hl : Good room l) (hp : k.Perm l) : headsOf k = headsOf l := by
  unfold headsOf
  rw [allOf_eq hk hl hp]
  have : (fun v : Evt => !isPar k v.id) = fun v => !isPar l v.id := by funext v; rw [isPar_perm hp]
  rw [this]
theorem get_perm {room room' : ByteArray} {k l : EL} (hk : Good room' k) (hl : Good room l) (hp : k.Perm l) {v : Evt} (hv : v ∈ l) : k.get v.id = some v := hk.get (hp.mem_iff.2 hv)
theorem posAt_mem {room room' : ByteArray} {k l : EL} (hk : Good room' k) (hl : Good room l) (hp : k.Perm l) {v : Evt} (hv : v ∈ l) : posAt k v.id = ⟨depthOf l v.id, v.id⟩ := by
  unfold posAt; rw [has_perm hp, has_mem hv, if_pos rfl, depth_perm hk hl hp]
theorem Lends.slPs (ys : ES) : Lends (Stars (ys.map Csl.slPs)) (fun G => ∀ y ∈ ys, SlR G 9 1 y.2.a y.1.ps.length (y.1.ps.map Value.string)) := Lends.manySl (a := fun y : Evt × Sli => y.2.a) (n := fun y => y.1.ps.length) (c := fun y => y.2.c) (cs := fun y => y.1.ps.map Value.string) ys
theorem choose_list {α β : Type} {P : α → β → Prop} : ∀ {l : List α}, (∀ x ∈ l, ∃ y, P x y) → ∃ zs : List (α × β), zs.map (·.1) = l ∧ ∀ z ∈ zs, P z.1 z.2
  | [], _ => ⟨[], rfl, fun z h => by cases h⟩
  | x :: l, h => by
    obtain ⟨y, hy⟩ := h x List.mem_cons_self
    obtain ⟨zs, h1, h2⟩ := choose_list fun u hu => h u (List.mem_cons_of_mem _ hu)
    refine ⟨(x, y) :: zs, by rw [List.map_cons, h1], fun z hz => ?_⟩
    rcases List.mem_cons.1 hz with rfl | hz
    · exact hy
    · exact h2 z hz
/-- What came in: what events are made of. -/
def PsIn (G : Gp) (e : Evn) : Prop := ∃ ps, HasPs G e ps
theorem ps_in {G : Gp} {e : Evn} {P : List ByteArray → Prop} {Q : Prop} (h : ∃ xs : List ByteArray, xs.length = e.par.n ∧ P xs ∧ SlR G 9 1 e.par.a xs.length (xs.map Value.string) ∧ Q) : PsIn G e := by
  obtain ⟨xs, h1, _, h2, _⟩ := h; exact ⟨xs, h1.symm, h2⟩
def GsIn (G : Gp) (gs : List GG) : Prop := ∃ xs : List GX, xs.map (·.1) = gs ∧ GXok G xs
theorem gs_in {G : Gp} {gs : List GG} {Q : GG → Prop} (h : ∀ x ∈ gs, okGG x ∧ ∃ zs : List Int, zs.length = x.par.n ∧ (∀ z ∈ zs, (Lit.int .i64 z).wf = true) ∧ SlR G 3 1 x.par.a zs.length (zs.map (Value.int .i64)) ∧ Q x) : GsIn G gs := by
  obtain ⟨zs, h1, h2⟩ := choose_list (P := fun x zs => okGG x ∧ HasI G x.par zs) (l := gs) fun x hx => by
    obtain ⟨h0, zs, a1, a2, a3, _⟩ := h x hx
    exact ⟨zs, h0, a1.symm, a3, a2⟩
  exact ⟨zs, h1, h2⟩
theorem gx_flat (xs : List GX) : (xs.map (·.1)).flatMap cGG = xs.flatMap cGX := by rw [List.flatMap_map]; rfl
/-- The document's example. -/
def liveA : Evt := ⟨⟨#[36, 97]⟩, ⟨#[33, 114, 58, 115]⟩, [], .empty, ⟨#[64, 97, 58, 115]⟩, 0⟩
def liveB : Evt := ⟨⟨#[36, 98]⟩, ⟨#[33, 114, 58, 115]⟩, [⟨#[36, 97]⟩], .empty, ⟨#[64, 97, 58, 115]⟩, 0⟩
def liveC : Evt := ⟨⟨#[36, 99]⟩, ⟨#[33, 114, 58, 115]⟩, [⟨#[36, 97]⟩], .empty, ⟨#[64, 97, 58, 115]⟩, 0⟩
def liveD : Evt := ⟨⟨#[36, 100]⟩, ⟨#[33, 114, 58, 115]⟩, [⟨#[36, 98]⟩, ⟨#[36, 99]⟩], .empty, ⟨#[64, 97, 58, 115]⟩, 0⟩
def liveL : EL := [liveA, liveB, liveC, liveD]
theorem live_good : Good ⟨#[33, 114, 58, 115]⟩ liveL := by
  have h0 : addRc ⟨#[33, 114, 58, 115]⟩ [] liveA = 0 := by decide +kernel
  have h1 : addRc ⟨#[33, 114, 58, 115]⟩ [liveA] liveB = 0 := by decide +kernel
  have h2 : addRc ⟨#[33, 114, 58, 115]⟩ [liveA, liveB] liveC = 0 := by decide +kernel
  have h3 : addRc ⟨#[33, 114, 58, 115]⟩ [liveA, liveB, liveC] liveD = 0 := by decide +kernel
  exact ((((Good.nil _).snoc h0).snoc h1).snoc h2).snoc h3
theorem live_pos : posAt liveL ⟨#[36, 100]⟩ = ⟨2, ⟨#[36, 100]⟩⟩ := by decide +kernel
theorem live_has : liveL.has ⟨#[36, 100]⟩ = true := by decide +kernel
theorem live_depth : depthOf liveL ⟨#[36, 100]⟩ = 2 := by decide +kernel
theorem live_wf : ∀ v ∈ liveL, evWf v := by
  have hs : ∀ v ∈ liveL, (v.id.size ≤ 1000 ∧ v.room.size ≤ 1000 ∧ v.thread.size ≤ 1000 ∧ v.user.size ≤ 1000) ∧ (v.does = 0 ∧ (∀ p ∈ v.ps, p.size ≤ 1000)) ∧ v.ps.length ≤ 1000 := by decide +kernel
  intro v hv
  obtain ⟨⟨h1, h2, h3, h4⟩, ⟨h5, h6⟩, h7⟩ := hs v hv
  exact evWf_of h1 h2 h3 h4 (by rw [h5]; decide) h6 h7
end Csl


end Go.Proofs.Ytghmmjifmnmbgaa
