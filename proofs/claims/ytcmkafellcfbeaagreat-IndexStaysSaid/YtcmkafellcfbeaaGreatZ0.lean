/- The reference's answer, plainly. -/
import Derived.Test.YtcmkafellcfbeaaGreatY0
set_option linter.unusedVariables false
set_option linter.unusedSimpArgs false
set_option linter.unusedSectionVars false
namespace Go.Proofs.YtcmkafellcfbeaaGreat
open Go Csl


namespace Csl
theorem anc_yes {room : ByteArray} {l : EL} (hg : Good room l) {k i : Nat} {v : Evt} {x q a : ByteArray} (hk : l[k]? = some v) (hx : v.id = x) (hq : v.ps[i]? = some q) (h : q = a ∨ ancOf l q a = true) : ancOf l x a = true := by
  subst hx
  rw [hg.anc (List.mem_of_getElem? hk), List.any_eq_true]
  refine ⟨q, List.mem_of_getElem? hq, ?_⟩
  rcases h with rfl | h
  · simp
  · simp [h]
theorem anc_no {room : ByteArray} {l : EL} (hg : Good room l) {k i : Nat} {v : Evt} {x a : ByteArray} (hk : l[k]? = some v) (hx : v.id = x) (hi : ¬ i < v.ps.length) (h : ((v.ps.take i).any fun q => decide (q = a) || ancOf l q a) = false) : ancOf l x a = false := by
  subst hx
  rw [hg.anc (List.mem_of_getElem? hk), ← h, List.take_of_length_le (by omega)]
theorem anc_next {l : EL} {ps : List ByteArray} {i : Nat} {q a : ByteArray} (hq : ps[i]? = some q) (h : ((ps.take i).any fun q => decide (q = a) || ancOf l q a) = false) (h1 : ¬ q = a) (h2 : ancOf l q a = false) : ((ps.take (i + 1)).any fun q => decide (q = a) || ancOf l q a) = false := by
  rw [anc_take hq, h, h2]; simp [h1]
theorem which_yes {l : EL} {mt : ByteArray → Bool} {i : Nat} {v : Evt} {k : List ByteArray} (hk : k = (((allOf l).take i).map (·.id)).filter mt) (hv : (allOf l)[i]? = some v) (h : mt v.id = true) : k ++ [v.id] = (((allOf l).take (i + 1)).map (·.id)).filter mt := by
  rw [hk, List.take_add_one, hv, List.map_append, List.filter_append]; simp [h]
theorem which_no {l : EL} {mt : ByteArray → Bool} {i : Nat} {v : Evt} {k : List ByteArray} (hk : k = (((allOf l).take i).map (·.id)).filter mt) (hv : (allOf l)[i]? = some v) (h : mt v.id = false) : k = (((allOf l).take (i + 1)).map (·.id)).filter mt := by
  rw [hk, List.take_add_one, hv, List.map_append, List.filter_append]; simp [h]
theorem at_has (l : EL) (x : ByteArray) : l.has x = decide (0 ≤ atOf l x) := by
  rcases at_cases l x with ⟨h0, he⟩ | ⟨k, v, hk0, hkx, he, _, h1⟩
  · rw [h0, he]; rfl
  · rw [h1, he]; simp
def whichM (l : EL) (how : Int) (a b : ByteArray) : ByteArray → Bool := fun x => if how = 0 then ancOf l a x else if how = 1 then ancOf l x a else ancOf l a x && ancOf l b x
end Csl


end Go.Proofs.YtcmkafellcfbeaaGreat
