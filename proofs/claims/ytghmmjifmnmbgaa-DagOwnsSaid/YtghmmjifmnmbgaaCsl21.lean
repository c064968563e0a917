/- A tail cleared. Nothing of a program stands here. -/
import Derived.Test.YtghmmjifmnmbgaaCsl20
set_option linter.unusedVariables false
set_option linter.unusedSimpArgs false
namespace Go.Proofs.Ytghmmjifmnmbgaa.Csl
open Go
theorem zeroCells_len (z : Array Value) (n : Nat) : (Builtin.zeroCells z n).toList.length = n * z.size := by simp [Builtin.zeroCells]
theorem zeroCells_one {z : Array Value} {n : Nat} (h : ∀ i, i < z.size → (z[i]!).isOne = true) : ∀ v ∈ (Builtin.zeroCells z n).toList, v.isOne = true := by
  intro v hv
  simp only [Builtin.zeroCells, Array.toList_map, Array.toList_range, List.mem_map, List.mem_range] at hv
  obtain ⟨i, hi, rfl⟩ := hv
  have hz : 0 < z.size := by
    rcases Nat.eq_zero_or_pos z.size with q | q
    · rw [q] at hi; omega
    · exact q
  exact h _ (Nat.mod_lt _ hz)
theorem St.clear_tail {P : Program} {G : Gp} {A : List HProp} {w : World} {T t E ty : TypeId} {sz n cap i : Nat} {a : Option Addr} {cs : List Value} {z : Value} {ats : Array TypeId} (ha : ats[0]? = some t) (ht : P.underlying t = some (.slice E)) (hz : zeroIs P E = some z)
    (hs : z.cells.size = sz) (h1 : ∀ j, j < z.cells.size → (z.cells[j]!).isOne = true) (hi : i ≤ n) (s : St G (Sl T sz a n cap cs :: A) w) :
    ∃ w', (Builtin.clear_ ats ty #[.slice (cutAt a i cap sz) (n - i) (cap - i)]).run P w = .ok (.tuple #[]) w' ∧ St G (Sl T sz a i cap (cs.take (i * sz)) :: A) w' := by
  rcases Nat.lt_or_ge i n with q | q
  · rcases s.Sl_open with ⟨rfl, rfl, rfl, rfl, s'⟩ | ⟨b, pre, post, rfl, l1, l2, l3, s'⟩
    · omega
    · have hc : cutAt (some ⟨b, pre.length, none⟩) i cap sz = some ⟨b, pre.length + i * sz, none⟩ := by
        unfold cutAt
        rw [if_neg (by omega)]
        simp only [Option.map_some, Option.some.injEq]
        unfold Addr.add
        split <;> simp_all
      rw [hc]
      have e1 : n * sz = i * sz + (n - i) * sz := by rw [← Nat.add_mul]; congr 1; omega
      have hlen := zeroCells_len z.cells (n - i)
      rw [hs] at hlen
      obtain ⟨w', hr, s2⟩ := run_storeCells (P := P) (off := pre.length + i * sz) (Builtin.zeroCells z.cells (n - i)).toList w _ 0 s' (by rw [hlen]; simp only [List.length_append, l1]; omega) (zeroCells_one h1)
      refine ⟨w', ?_, ?_⟩
      · obtain ⟨m, hm⟩ : ∃ m, n - i = m + 1 := ⟨n - i - 1, by omega⟩
        rw [hm] at hr ⊢
        have hz' := run_zero (w := w) hz
        unfold Builtin.clear_
        simp only [ha, List.getElem?_toArray]
        simp [run_underlying ht, hz', hr]
      · rw [Nat.add_zero, setRange_mid (by rw [hlen, l1]; omega)] at s2
        have s3 := St.Sl_mk (n := n) (cap := cap) (sz := sz) (by rw [length_setRange (by rw [hlen, l1]; omega), l1]) l2 l3 s2
        have s4 := St.Sl_to i hi s3
        have : (setRange cs (i * sz) (Builtin.zeroCells z.cells (n - i)).toList).take (i * sz) = cs.take (i * sz) := by
          unfold setRange
          rw [List.append_assoc, List.take_append_of_le_length (by rw [List.length_take, l1]; omega), List.take_take, Nat.min_self]
        rw [this] at s4
        exact s4
  · obtain rfl : i = n := by omega
    refine ⟨w, ?_, St.Sl_to i (Nat.le_refl _) s⟩
    rw [Nat.sub_self]
    unfold Builtin.clear_
    simp only [ha, List.getElem?_toArray]
    cases cutAt a i cap sz <;> simp [run_underlying ht]
section
variable {c : Cx} {G : Gp} {ops : Array Oper} {kk : KT} {e : Env} {A A' : List HProp} {lo : List Oper} {tt t E T : TypeId} {pos : String} {af : Array Edge} {gd : Option (Nat × Bool)} {x : Operand}
theorem RunL.clearTail {sz n cap i : Nat} {a : Option Addr} {cs : List Value} {z : Value} {ats : Array TypeId} (hx : opv e x = some (.slice (cutAt a i cap sz) (n - i) (cap - i))) (ha : ats[0]? = some t) (hf : Find (Sl T sz a n cap cs) A A') (ht : c.P.underlying t = some (.slice E)) (hz : zeroIs c.P E = some z)
    (hs : z.cells.size = sz) (h1 : ∀ j, j < z.cells.size → (z.cells[j]!).isOne = true) (hi : i ≤ n)
    (hw : Wt ops e ⟨none, .call ⟨.builtin .clear, #[x], ats⟩, tt, pos, af, gd⟩ true) (next : RunL c G ops lo kk e (Sl T sz a i cap (cs.take (i * sz)) :: A')) : RunL c G ops (⟨none, .call ⟨.builtin .clear, #[x], ats⟩, tt, pos, af, gd⟩ :: lo) kk e A := by
  intro ac w ho s
  have e1 := ho.opv hx
  obtain ⟨w', hr, s'⟩ := St.clear_tail (P := c.P) (ty := tt) ha ht hz hs h1 hi (s.find hf)
  unfold wpList
  rw [if_pos (hw _ ac ho)]
  refine .inl ?_
  unfold Oper.wp
  have hx2 : (execOp ac.eval ⟨none, .call ⟨.builtin .clear, #[x], ats⟩, tt, pos, af, gd⟩).run c.P w = .ok (.value (.tuple #[])) w' := by
    generalize ac.eval = ρ at e1 ⊢
    simp only [execOp, resolve]
    simp [invoke, builtin, e1, hr]
  rw [hx2, Oper.upon_value]
  exact next _ _ ho s'
end
end Go.Proofs.Ytghmmjifmnmbgaa.Csl
