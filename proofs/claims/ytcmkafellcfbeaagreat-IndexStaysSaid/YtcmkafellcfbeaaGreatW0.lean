/- The example, plainly. -/
import Derived.Test.YtcmkafellcfbeaaGreatZ3
import Derived.Test.YtcmkafellcfbeaaGreatY4
set_option linter.unusedVariables false
set_option linter.unusedSimpArgs false
set_option linter.unusedSectionVars false
namespace Go.Proofs.YtcmkafellcfbeaaGreat
open Go Csl


namespace Csl
def lvA : Evt := ⟨⟨#[36, 97]⟩, ⟨#[33, 114, 58, 115]⟩, [], .empty, ⟨#[64, 97, 58, 115]⟩, 0⟩
def lvB : Evt := ⟨⟨#[36, 98]⟩, ⟨#[33, 114, 58, 115]⟩, [⟨#[36, 97]⟩], .empty, ⟨#[64, 97, 58, 115]⟩, 0⟩
def lvC : Evt := ⟨⟨#[36, 99]⟩, ⟨#[33, 114, 58, 115]⟩, [⟨#[36, 97]⟩], .empty, ⟨#[64, 97, 58, 115]⟩, 0⟩
theorem whichM_0 (l : EL) (a b : ByteArray) : whichM l 0 a b = ancOf l a := by funext x; rfl
theorem whichM_1 (l : EL) (a b : ByteArray) : whichM l 1 a b = fun x => ancOf l x a := by funext x; rfl
theorem whichM_2 (l : EL) (a b : ByteArray) : whichM l 2 a b = fun x => ancOf l a x && ancOf l b x := by funext x; rfl
theorem which_nil {l : EL} {f : ByteArray → Bool} (h : ∀ x, f x = false) : whichL l f = [] := by
  unfold whichL
  rw [show f = fun _ => false from funext h]; simp
theorem Good.anc_no {room : ByteArray} {l : EL} (hg : Good room l) {a : ByteArray} (h : l.has a = false) (b : ByteArray) : ancOf l b a = false := by
  cases hh : ancOf l b a with
  | false => rfl
  | true => rw [(hg.anc_less hh).2.1] at h; cases h
theorem made_none {room : ByteArray} {xs : List GX} : (madeL room xs).has ⟨#[36, 110, 111, 110, 101]⟩ = false := has_no.2 fun v hv q => by
  obtain ⟨j, hj⟩ := List.getElem?_of_mem hv
  have e := made_mids _ _ j v hj
  have h3 : v.id.size = 3 := by rw [e, eventOf_size]
  rw [q] at h3
  exact absurd h3 (by decide)
theorem cmpPos_less {p q : Pos} (h : p.depth < q.depth) : cmpPos p q = -1 := by
  unfold cmpPos orI cmpI; rw [if_pos h]; rfl
theorem Good.upto {room : ByteArray} {l : EL} (h : Good room l) (q : Nat) : Good room (l.take q) := fun i v hv => by
  have hi : i < q := by
    rcases Nat.lt_or_ge i q with z | z
    · exact z
    · rw [List.getElem?_eq_none (by simp; omega)] at hv; cases hv
  rw [List.getElem?_take, if_pos hi] at hv
  rw [List.take_take, Nat.min_eq_left (by omega)]
  exact h i v hv
theorem HasES.upto {G : Gp} {sl : Sli} {ys : ES} (h : HasES G sl ys) {q : Nat} (hq : q ≤ ys.length) : HasES G ⟨sl.a, q, sl.c⟩ (ys.take q) := by
  obtain ⟨h1, h2, h3, h4⟩ := h
  have hl : (ys.take q).length = q := by rw [List.length_take]; omega
  refine ⟨hl.symm, ?_, by show q ≤ sl.c; omega, fun y hy => h4 y (List.mem_of_mem_take hy)⟩
  rw [hl]; exact h2.takeF q (fun x _ => rfl) hq
theorem posAt_in {l : EL} {v : Evt} (hv : v ∈ l) : posAt l v.id = ⟨depthOf l v.id, v.id⟩ := by unfold posAt; rw [has_mem hv, if_pos rfl]
theorem lv_0 : addRc ⟨#[33, 114, 58, 115]⟩ [] lvA = 0 := by decide +kernel
theorem lv_1 : addRc ⟨#[33, 114, 58, 115]⟩ [lvA] lvB = 0 := by decide +kernel
theorem lv_2 : addRc ⟨#[33, 114, 58, 115]⟩ [lvA, lvB] lvC = 0 := by decide +kernel
theorem lv_wf : ∀ v ∈ [lvA, lvB, lvC], evWf v := by
  have hs : ∀ v ∈ [lvA, lvB, lvC], (v.id.size ≤ 1000 ∧ v.room.size ≤ 1000 ∧ v.thread.size ≤ 1000 ∧ v.user.size ≤ 1000) ∧ (v.does = 0 ∧ (∀ p ∈ v.ps, p.size ≤ 1000)) ∧ v.ps.length ≤ 1000 := by decide +kernel
  intro v hv
  obtain ⟨⟨h1, h2, h3, h4⟩, ⟨h5, h6⟩, h7⟩ := hs v hv
  exact evWf_of h1 h2 h3 h4 (by rw [h5]; decide) h6 h7
theorem lv_anc : ancOf [lvA, lvB, lvC] ⟨#[36, 98]⟩ ⟨#[36, 97]⟩ = true := by decide +kernel
theorem lv_apart : apartB [lvA, lvB, lvC] ⟨#[36, 98]⟩ ⟨#[36, 99]⟩ = true := by decide +kernel
theorem lv_which : whichL [lvA, lvB, lvC] (fun x => ancOf [lvA, lvB, lvC] ⟨#[36, 98]⟩ x && ancOf [lvA, lvB, lvC] ⟨#[36, 99]⟩ x) = [⟨#[36, 97]⟩] := by decide +kernel
end Csl


end Go.Proofs.YtcmkafellcfbeaaGreat
