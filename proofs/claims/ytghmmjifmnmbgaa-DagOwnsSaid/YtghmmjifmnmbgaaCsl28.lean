/- Slices that are made whole. Nothing of a program stands here. -/
import Derived.Test.YtghmmjifmnmbgaaCsl27
import Derived.Laws.MakeOwn
set_option linter.unusedVariables false
set_option linter.unusedSimpArgs false
namespace Go.Proofs.Ytghmmjifmnmbgaa.Csl
open Go
theorem madeCells_one {z : Array Value} {v : Value} (h : z = #[v]) (n : Nat) : (madeCells z (n * 1)).toList = List.replicate n v := by
  subst h
  rw [List.eq_replicate_iff]
  refine ⟨by simp [madeCells], fun u hu => ?_⟩
  simp only [madeCells, Array.toList_map, List.mem_map] at hu
  obtain ⟨i, _, rfl⟩ := hu
  have : i % (#[v] : Array Value).size = 0 := Nat.mod_one i
  rw [this]; rfl
section
variable {c : Cx} {G : Gp} {ops : Array Oper} {k : KT} {e : Env} {A : List HProp} {l : List Oper} {d : Nat} {sT E tt : TypeId} {pos : String} {af : Array Edge} {gd : Option (Nat × Bool)} {x y : Operand}
theorem RunL.make1 {n : Nat} {kl kc : IntKind} {v z : Value} {by_ : Nat} (hx : opv e x = some (.int kl (n : Nat))) (hy : opv e y = some (.int kc (n : Nat))) (hu : c.P.underlying sT = some (.slice E)) (hs : sizeIs c.P E = some 1) (hz : zeroIs c.P E = some z) (hb : bytesIs c.P E = some by_) (hv : z.cells = #[v]) (hn : by_ * n ≤ 281474976710656) (hm : n ≤ 4611686018427387904)
    (hw : Wt ops e ⟨some d, .makeSlice sT x y, tt, pos, af, gd⟩ true) (hlt : Nat.blt d c.fn.ntmps = true)
    (next : ∀ b, RunL c G ops l k ((d, .slice (some ⟨b, 0, none⟩) n n) :: e) (Sl E 1 (some ⟨b, 0, none⟩) n n (List.replicate n v) :: A)) :
    RunL c G ops (⟨some d, .makeSlice sT x y, tt, pos, af, gd⟩ :: l) k e A := by
  obtain ⟨i, hi, hi1⟩ : ∃ i, c.P.info? E = some i ∧ i.size = 1 := by simpa [sizeIs] using hs
  have hi2 : i.zero = some z := by simpa [zeroIs, hi] using hz
  have hi3 : i.bytes = by_ := by simpa [bytesIs, hi] using hb
  refine RunL.val (X := Nat) (v := fun b => .slice (some ⟨b, 0, none⟩) n n) (A' := fun b => Sl E 1 (some ⟨b, 0, none⟩) n n (List.replicate n v) :: A) hw rfl hlt (fun a w h s => ?_) next
  have e1 := h.opv hx; have e2 := h.opv hy
  generalize a.eval = ρ at e1 e2 ⊢
  refine ⟨w.heap.size, w.alloc (.cells (madeCells z.cells (n * 1)) E), ?_, ?_⟩
  · have hbn : ((by_ * n : Nat) : Int) ≤ 281474976710656 := by omega
    have hr := run_make (P := c.P) w sT E i z hu hi hi2 kl kc (n : Nat) (n : Nat) (by omega) (Int.le_refl _) (by rw [hi3]; rwa [Int.natCast_mul] at hbn) (by omega)
    rw [hi1] at hr
    simp only [Int.toNat_natCast] at hr
    simp only [execOp, e1, e2, Sem.run_bind, hr, Result.andThen_ok, Sem.run_pure]
  · have h1 := s.alloc E (madeCells z.cells (n * 1)).toList
    rw [madeCells_one hv] at h1
    have h2 := St.Sl_mk (pre := []) (cs := List.replicate n v) (post := []) (sz := 1) (n := n) (cap := n) (by simp) (Nat.le_refl _) (by simp) (by simpa using h1)
    have hc : madeCells z.cells (n * 1) = (List.replicate n v).toArray := by rw [← madeCells_one hv]
    rw [hc]; exact h2
end
end Go.Proofs.Ytghmmjifmnmbgaa.Csl
