/- Names made again: plain laws. -/
import Derived.Test.YtlfldbkpndmdhaaM3
set_option linter.unusedVariables false
set_option linter.unusedSimpArgs false
set_option linter.unusedSectionVars false
namespace Go.Proofs.Ytlfldbkpndmdhaa
open Go Csl


namespace Csl
theorem colI_get : ∀ {l : List UInt8}, 0 ≤ colI l → l[(colI l).toNat]? = some 58
  | [], h => by simp [colI, Lib.indexByte] at h
  | c :: r, h => by
    have h0 := colI_cons c r
    by_cases h1 : c = 58
    · rw [if_pos h1] at h0; rw [h0, h1]; rfl
    · rw [if_neg h1] at h0
      have hge := colI_ge r
      split at h0
      · omega
      · have ih := colI_get (l := r) (by omega)
        rw [h0, show (colI r + 1).toNat = (colI r).toNat + 1 from by omega]; exact ih
theorem part_no58 {p : List UInt8} (h : mayB 0 p = true) : ∀ c ∈ p, c ≠ 58 := by
  intro c hc e
  subst e
  unfold mayB at h
  rw [Bool.and_eq_true, List.all_eq_true] at h
  have := h.1 58 hc
  exact absurd this (by decide)
theorem colI_app {p q : List UInt8} (h : ∀ c ∈ p, c ≠ 58) : colI (p ++ 58 :: q) = p.length := by
  refine colI_at (fun j c hj hc => ?_) (by rw [List.getElem?_append_right (Nat.le_refl _)]; simp)
  rw [List.getElem?_append_left hj] at hc
  exact h c (List.mem_of_getElem? hc)
theorem make_ok {c : UInt8} {p q : List UInt8} (hc : c = 64 ∨ c = 33) (hp : mayB 0 p = true) (hq : serverB q = true) :
    (∀ sg, namedB sg (c :: (p ++ 58 :: q)) = decide (c = sg)) ∧ localB (c :: (p ++ 58 :: q)) = p ∧ homeB (c :: (p ++ 58 :: q)) = q := by
  have h58 := part_no58 hp
  have hcol := colI_app (q := q) h58
  have hne : c ≠ 58 := by rcases hc with rfl | rfl <;> decide
  have hcol2 : colI (c :: (p ++ 58 :: q)) = p.length + 1 := by rw [colI_tail hne (by omega), hcol]
  have hn : ∀ sg, namedB sg (c :: (p ++ 58 :: q)) = decide (c = sg) := by
    intro sg
    rw [namedB_cons, hcol]
    have e1 : (p ++ 58 :: q).take ((p.length : Int)).toNat = p := by simp
    have e2 : (p ++ 58 :: q).drop (((p.length : Int)).toNat + 1) = q := by
      rw [List.drop_append]; simp
    rw [e1, e2, hp, hq]; simp
  have hany : (namedB 64 (c :: (p ++ 58 :: q)) || namedB 33 (c :: (p ++ 58 :: q))) = true := by
    rw [hn, hn]; rcases hc with rfl | rfl <;> decide
  refine ⟨hn, ?_, ?_⟩
  · unfold localB; rw [if_pos hany, List.drop_succ_cons, List.drop_zero, hcol]; simp
  · unfold homeB; rw [if_pos hany, hcol2, show ((p.length : Int) + 1).toNat + 1 = (p.length + 1) + 1 from by omega, List.drop_succ_cons, List.drop_append]; simp
theorem make_again {l : List UInt8} (h : namedB 64 l = true ∨ namedB 33 l = true) : ∃ c r, l = c :: r ∧ (c = 64 ∨ c = 33) ∧ mayB 0 (localB l) = true ∧ serverB (homeB l) = true ∧ c :: (localB l ++ 58 :: homeB l) = l := by
  have key : ∀ sg : UInt8, (sg = 64 ∨ sg = 33) → namedB sg l = true → (namedB 64 l || namedB 33 l) = true → ∃ c r, l = c :: r ∧ (c = 64 ∨ c = 33) ∧ mayB 0 (localB l) = true ∧ serverB (homeB l) = true ∧ c :: (localB l ++ 58 :: homeB l) = l := by
    intro sg hs hn hany
    obtain ⟨r, rfl, hr⟩ := named_head hn
    have hne : sg ≠ 58 := by rcases hs with rfl | rfl <;> decide
    have hcol := colI_tail hne hr
    have h1 : localB (sg :: r) = r.take (colI r).toNat := by unfold localB; rw [if_pos hany]; rfl
    have h2 : homeB (sg :: r) = r.drop ((colI r).toNat + 1) := by unfold homeB; rw [if_pos hany, hcol, show (colI r + 1).toNat + 1 = ((colI r).toNat + 1) + 1 from by omega, List.drop_succ_cons]
    rw [namedB_cons] at hn
    simp only [Bool.and_eq_true] at hn
    refine ⟨sg, r, rfl, hs, by rw [h1]; exact hn.2.2.1, by rw [h2]; exact hn.2.2.2, ?_⟩
    rw [h1, h2]
    congr 1
    have hg := colI_get hr
    have hlt := colI_lt hr
    have hd : r.drop (colI r).toNat = 58 :: r.drop ((colI r).toNat + 1) := by
      rw [List.drop_eq_getElem_cons hlt]; congr 1
      rw [List.getElem?_eq_getElem hlt] at hg; exact Option.some.inj hg
    rw [← hd, List.take_append_drop]
  rcases h with h | h
  · exact key 64 (.inl rfl) h (by rw [h]; rfl)
  · exact key 33 (.inr rfl) h (by rw [h]; simp)
theorem server_head {l : List UInt8} {c : UInt8} (h : l[0]? = some c) (hc : lowB c = false) : serverB l = false := by
  unfold serverB
  rw [show l.getD 0 0 = c from by rw [List.getD_eq_getElem?_getD, h]; rfl, hc]; simp
theorem event_is {l : List UInt8} (h : eventB l = true) : l[0]? = some 36 := by
  cases l with
  | nil => cases h
  | cons c r => simp [eventB] at h; simp [h.1]
theorem named_at {sg : UInt8} {l : List UInt8} (h : namedB sg l = true) : l[0]? = some sg := by
  obtain ⟨r, rfl, _⟩ := named_head h; rfl
theorem named_other {sg c : UInt8} {l : List UInt8} (h : l[0]? = some c) (hc : c ≠ sg) : namedB sg l = false := by
  cases l with
  | nil => rfl
  | cons d r => simp at h; subst h; rw [namedB_cons]; simp [hc]
theorem home_ne {l : List UInt8} (h : namedB 64 l = true ∨ namedB 33 l = true) : homeB l ≠ [] := by
  obtain ⟨c, r, _, _, _, hs, _⟩ := make_again h
  intro e; rw [e] at hs; cases hs
theorem home_no {l : List UInt8} (h1 : namedB 64 l = false) (h2 : namedB 33 l = false) : homeB l = [] ∧ localB l = [] := by unfold homeB localB; rw [h1, h2]; exact ⟨rfl, rfl⟩
end Csl


end Go.Proofs.Ytlfldbkpndmdhaa
