/- From a contract to a row: what came in is only read. Nothing of a program stands here. -/
import Derived.Test.YtghmmjifmnmbgaaCsl8
import Derived.Below
import Derived.ProofKit
set_option linter.unusedVariables false
set_option linter.unusedSimpArgs false
namespace Go.Proofs.Ytghmmjifmnmbgaa.Csl
open Go Go.RowKit

/-- All that a world holds, to be read. -/
def heapOf (w : World) : Gp := ⟨fun b => w.heap[b]?, w.os, w.tape, w.output, w.drawn⟩
theorem St.init (w : World) : St (heapOf w) [] w :=
  ⟨Hp.empty, ⟨fun _ _ h => h, rfl, rfl, rfl, Nat.le_refl _⟩, fun _ _ h => by simp [Hp.empty] at h, Hp.disj_empty _, rfl⟩
theorem St.below {w w' : World} {A : List HProp} (s : St (heapOf w) A w') : Below w.heap.size w w' := by
  obtain ⟨h, ⟨g, o1, o2, o3, _⟩, _⟩ := s
  have hb : ∀ k, k < w.heap.size → w'.heap[k]? = w.heap[k]? := by
    intro k hk
    have := Array.getElem?_eq_getElem hk
    rw [this]; exact g k _ this
  refine ⟨o1, o2, o3, ?_, hb⟩
  rcases Nat.lt_or_ge w'.heap.size w.heap.size with x | x
  · have := hb w'.heap.size x
    rw [Array.getElem?_eq_none (Nat.le_refl _), Array.getElem?_eq_getElem x] at this
    cases this
  · exact x
theorem Ctr.walk {P : Program} {f : FuncId} {args : List Value} {w : World} (h : Ctr P (heapOf w) f args [] (fun F v A => v = .bool true ∧ A = F)) :
    Calls P f args.toArray w fun e w' => e = .returned (.bool true) ∧ Below w.heap.size w w' :=
  (h.2 [] w (St.init w)).mono fun e w' ⟨v, A, he, ⟨hv, _⟩, s⟩ => ⟨by rw [he, hv], s.below⟩

def IsRow (k : IntKind) (w : World) (a : Option Addr) (len cap : Nat) (zs : List Int) : Prop :=
  (a = none ∧ len = 0 ∧ cap = 0 ∧ zs = []) ∨
  ∃ x, a = some x ∧ len ≤ cap ∧ cap ≤ maxLen ∧ zs.length = cap ∧ (∀ i, i < zs.length → w.cell? (x.add i) = some (.int k (zs.getD i 0))) ∧ ∀ n ∈ zs, (Lit.int k n).wf = true
theorem IsRow.cap {k : IntKind} {w : World} {a : Option Addr} {len cap : Nat} {zs : List Int} (h : IsRow k w a len cap zs) : len ≤ cap ∧ cap ≤ maxLen := by
  rcases h with ⟨_, rfl, rfl, _⟩ | ⟨x, _, h1, h2, _⟩
  · exact ⟨Nat.le_refl _, Nat.zero_le _⟩
  · exact ⟨h1, h2⟩
theorem IsRow.reads {k : IntKind} {w : World} {a : Option Addr} {len cap : Nat} {zs : List Int} (T : TypeId) (h : IsRow k w a len cap zs) : ∃ ys : List Int, ys.length = len ∧ (∀ n ∈ ys, (Lit.int k n).wf = true) ∧ SlR (heapOf w) T 1 a len (ys.map (Value.int k)) := by
  rcases h with ⟨rfl, rfl, rfl, rfl⟩ | ⟨x, rfl, h1, h2, h3, h4, h5⟩
  · exact ⟨[], rfl, by simp, .inl ⟨rfl, rfl⟩⟩
  · refine ⟨zs.take len, by simp; omega, fun n hn => h5 n (List.mem_of_mem_take hn), ?_⟩
    rcases Nat.eq_zero_or_pos len with h0 | h0
    · subst h0; left; simp
    · -- the first cell tells the block
      have hx := h4 0 (by omega)
      have hsp : x.spot = none := by
        have : x.add 0 = x := by simp [Addr.add]
        rw [this] at hx
        unfold World.cell? at hx
        split at hx
        · split at hx
          · cases hx
          · rename_i hs; cases hq : x.spot <;> simp_all
        · cases hx
      obtain ⟨b, off, sp⟩ := x
      simp only at hsp
      subst hsp
      have hblk : ∃ c T' fz, w.heap[b]? = some (.cells c T' fz) := by
        have : (⟨b, off, none⟩ : Addr).add 0 = ⟨b, off, none⟩ := by simp [Addr.add]
        rw [this] at hx
        unfold World.cell? at hx
        split at hx
        · rename_i c T' fz hh; exact ⟨c, T', fz, hh⟩
        · cases hx
      obtain ⟨c, T', fz, hh⟩ := hblk
      have hcell : ∀ i, i < cap → c[off + i]? = some (.int k (zs.getD i 0)) := by
        intro i hi
        have := h4 i (by omega)
        rw [add_off] at this
        simpa [World.cell?, hh] using this
      have hsize : off + cap ≤ c.size := by
        have := hcell (cap - 1) (by omega)
        have := (Array.getElem?_eq_some_iff.1 this).1
        omega
      right
      refine ⟨b, T', c.toList.take off, c.toList.drop (off + len), ?_, by simp; omega, ?_⟩
      · have : (c.toList.take off).length = off := by simp; omega
        rw [this]
      · refine ⟨fz, ?_⟩
        show w.heap[b]? = _
        rw [hh]
        congr 2
        apply Array.ext'
        rw [List.toList_toArray]
        apply List.ext_getElem?
        intro i
        rcases Nat.lt_or_ge i off with q | q
        · rw [List.append_assoc, List.getElem?_append_left (by simp; omega), List.getElem?_take_of_lt q]
        · rw [List.append_assoc, List.getElem?_append_right (by simp; omega)]
          have e1 : (c.toList.take off).length = off := by simp; omega
          rw [e1]
          rcases Nat.lt_or_ge (i - off) len with r | r
          · rw [List.getElem?_append_left (by simp; omega)]
            have := hcell (i - off) (by omega)
            rw [show off + (i - off) = i from by omega] at this
            rw [Array.getElem?_toList, this]
            have hz : (zs.take len)[i - off]? = some (zs.getD (i - off) 0) := by
              rw [List.getElem?_take_of_lt r, List.getD_eq_getElem?_getD, List.getElem?_eq_getElem (by omega)]; rfl
            simp only [List.getElem?_map, hz, Option.map_some]
          · rw [List.getElem?_append_right (by simp; omega)]
            have e2 : ((zs.take len).map (Value.int k)).length = len := by simp; omega
            rw [e2, List.getElem?_drop]
            congr 1; omega
theorem IsRow.bytes {w : World} {a : Option Addr} {len cap : Nat} {zs : List Int} (T : TypeId) (h : IsRow .u8 w a len cap zs) : ∃ bs : List UInt8, bs.length = len ∧ SlR (heapOf w) T 1 a bs.length (bs.map bv) := by
  obtain ⟨ys, h1, h2, h3⟩ := h.reads T
  refine ⟨ys.map fun n => UInt8.ofNat n.toNat, by simpa using h1, ?_⟩
  have e : (ys.map fun n => UInt8.ofNat n.toNat).map bv = ys.map (Value.int .u8) := by
    rw [List.map_map]
    apply List.map_congr_left
    intro n hn
    have hw := h2 n hn
    have hb : 0 ≤ n ∧ n ≤ 255 := by simpa [Lit.wf, IntKind.min, IntKind.max, IntKind.signed, IntKind.bits] using hw
    simp only [Function.comp, bv]
    have : ((UInt8.ofNat n.toNat).toNat : Int) = n := by rw [UInt8.toNat_ofNat_of_lt' (by simp [UInt8.size]; omega)]; omega
    rw [this]
  rw [e, List.length_map, h1]; exact h3
theorem wf_i64 {n : Int} (h : (Lit.int .i64 n).wf = true) : -9223372036854775808 ≤ n ∧ n ≤ 9223372036854775807 := by
  simpa [Lit.wf, IntKind.min, IntKind.max, IntKind.signed, IntKind.bits] using h
theorem wf_u8 {n : Int} (h : (Lit.int .u8 n).wf = true) : 0 ≤ n ∧ n ≤ 255 := by
  simpa [Lit.wf, IntKind.min, IntKind.max, IntKind.signed, IntKind.bits] using h
end Go.Proofs.Ytghmmjifmnmbgaa.Csl
