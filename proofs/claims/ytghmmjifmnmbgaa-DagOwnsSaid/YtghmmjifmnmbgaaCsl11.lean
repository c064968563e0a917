/- What came in, by its type: what its cells are. Nothing of a program stands here. -/
import Derived.Test.YtghmmjifmnmbgaaCsl10
import Derived.OpenShut
import Derived.ChangeSlices
set_option linter.unusedVariables false
set_option linter.unusedSimpArgs false
namespace Go.Proofs.Ytghmmjifmnmbgaa.Csl
open Go Go.RowKit
/-- Cells of a type, as a row reads them. -/
def Tr {H : Type} (enc : TypeId × Value → H) (P : Program) (w : World) (t : TypeId) (cs : List Value) : Prop := ∃ n x, DataW.trod enc P w 0 (fun _ => true) true n t cs = some x
section
variable {H : Type} {enc : TypeId × Value → H} {P : Program} {w : World} {t : TypeId} {cs : List Value}
theorem Tr.of {v : Value} {d : DataW H} {ps : List MemPlace} (h : DataW.Trod enc P w 0 (fun _ => true) true t v d ps) : Tr enc P w t v.cells.toList := by
  obtain ⟨n, h⟩ := h; exact ⟨n, _, h⟩
theorem Tr.bool (ht : P.underlying t = some .bool) (h : Tr enc P w t cs) : ∃ b, cs = [.bool b] := by
  obtain ⟨n, x, h⟩ := h; obtain ⟨b, rfl, _⟩ := DataW.trod_bool ht h; exact ⟨b, rfl⟩
theorem Tr.int {k : IntKind} (ht : P.underlying t = some (.int k)) (h : Tr enc P w t cs) : ∃ n, cs = [.int k n] ∧ (Lit.int k n).wf = true := by
  obtain ⟨n, x, h⟩ := h; obtain ⟨b, rfl, _, hw⟩ := DataW.trod_int ht h; exact ⟨b, rfl, hw⟩
theorem Tr.string (ht : P.underlying t = some .string) (h : Tr enc P w t cs) : ∃ s : ByteArray, cs = [.string s] ∧ s.size ≤ 9223372036854775807 := by
  obtain ⟨n, x, h⟩ := h; obtain ⟨b, rfl, _, hw⟩ := DataW.trod_string ht h; exact ⟨b, rfl, hw⟩
theorem Tr.struct {fs : Array Field} (ht : P.underlying t = some (.struct fs)) (h : Tr enc P w t cs) : cs.length = P.cellsOf t ∧ ∀ (i : Nat) (f : Field), fs[i]? = some f → Tr enc P w f.type ((cs.drop f.offset).take (P.cellsOf f.type)) := by
  obtain ⟨n, x, h⟩ := h; obtain ⟨xs, m, _, _, h1, h2, h3⟩ := DataW.trod_struct ht h
  refine ⟨h1, fun i f hf => ?_⟩
  have hi : i < xs.length := by rw [h2]; exact (Array.getElem?_eq_some_iff.1 hf).1
  exact ⟨m, xs[i], by rw [h3 i f hf, List.getElem?_eq_getElem hi]⟩
theorem Tr.fieldAt {fs : Array Field} (h : ∀ (i : Nat) (f : Field), fs[i]? = some f → Tr enc P w f.type ((cs.drop f.offset).take (P.cellsOf f.type))) (i : Nat) {ft off z : Nat} (hf : (fs[i]?).map (fun f => (f.type, f.offset)) = some (ft, off)) (hz : P.cellsOf ft = z) : Tr enc P w ft ((cs.drop off).take z) := by
  cases hq : fs[i]? with
  | none => rw [hq] at hf; cases hf
  | some f =>
    rw [hq] at hf
    simp only [Option.map_some, Option.some.injEq, Prod.mk.injEq] at hf
    obtain ⟨rfl, rfl⟩ := hf
    rw [← hz]; exact h i f hq
theorem Tr.array {n : Nat} {e : TypeId} (ht : P.underlying t = some (.array n e)) (h : Tr enc P w t cs) : cs.length = P.cellsOf t ∧ ∀ i, i < n → Tr enc P w e ((cs.drop (i * P.cellsOf e)).take (P.cellsOf e)) := by
  obtain ⟨k, x, h⟩ := h; obtain ⟨xs, m, _, _, h1, h2, h3⟩ := DataW.trod_array ht h
  refine ⟨h1, fun i hi => ?_⟩
  exact ⟨m, xs[i], by rw [h3 i hi, List.getElem?_eq_getElem (by omega)]⟩
theorem Tr.slice {e : TypeId} (ht : P.underlying t = some (.slice e)) (h : Tr enc P w t cs) :
    ∃ a len cap, cs = [.slice a len cap] ∧ len ≤ cap ∧ cap ≤ 9223372036854775807 ∧ ((a = none ∧ len = 0 ∧ cap = 0) ∨ ∃ x, a = some x ∧ ∀ i, i < len → ∃ vs, w.cells? 0 (x.add (i * P.cellsOf e)) (P.cellsOf e) = some vs ∧ Tr enc P w e vs) := by
  obtain ⟨n, y, h⟩ := h
  rcases DataW.trod_slice ht h with ⟨rfl, _⟩ | ⟨a, len, cap, elems, rest, m, _, rfl, _, _, h1, h2, h3, h4, _⟩
  · exact ⟨none, 0, 0, rfl, Nat.le_refl _, by omega, .inl ⟨rfl, rfl, rfl⟩⟩
  · refine ⟨some a, len, cap, rfl, h1, h2, .inr ⟨a, rfl, fun i hi => ?_⟩⟩
    have := h4 i hi
    rw [List.getElem?_eq_getElem (by omega)] at this
    obtain ⟨vs, e1, e2⟩ := Option.bind_eq_some_iff.1 this
    exact ⟨vs, e1, m, _, e2⟩
end
theorem exists_list {α : Type} {n : Nat} {p : Nat → α → Prop} (h : ∀ i, i < n → ∃ x, p i x) : ∃ xs : List α, xs.length = n ∧ ∀ i x, xs[i]? = some x → p i x := by
  induction n with
  | zero => exact ⟨[], rfl, by simp⟩
  | succ n ih =>
    obtain ⟨xs, h1, h2⟩ := ih (fun i hi => h i (by omega))
    obtain ⟨x, hx⟩ := h n (by omega)
    refine ⟨xs ++ [x], by simp [h1], fun i y hy => ?_⟩
    rcases Nat.lt_or_ge i n with q | q
    · rw [List.getElem?_append_left (by omega)] at hy; exact h2 i y hy
    · rw [List.getElem?_append_right (by omega), h1] at hy
      have : i = n := by
        rcases Nat.lt_or_ge n i with r | r
        · rw [List.getElem?_eq_none (by simp; omega)] at hy; cases hy
        · omega
      subst this
      simp at hy; subst hy; exact hx
theorem flatMap_length {α : Type} {f : α → List Value} {sz : Nat} {xs : List α} (h : ∀ x ∈ xs, (f x).length = sz) : (xs.flatMap f).length = xs.length * sz := by
  induction xs with
  | nil => simp
  | cons x xs ih => rw [List.flatMap_cons, List.length_append, ih (fun y hy => h y (by simp [hy])), h x (by simp), List.length_cons, Nat.add_mul, Nat.one_mul, Nat.add_comm]
theorem flatMap_get {α : Type} {f : α → List Value} {sz : Nat} : ∀ {xs : List α} {i j : Nat} {x : α}, (∀ x ∈ xs, (f x).length = sz) → xs[i]? = some x → j < sz → (xs.flatMap f)[i * sz + j]? = (f x)[j]?
  | [], i, j, x, _, h, _ => by simp at h
  | y :: xs, 0, j, x, hl, h, hj => by
    simp at h; subst h
    rw [Nat.zero_mul, Nat.zero_add, List.flatMap_cons, List.getElem?_append_left (by rw [hl y (by simp)]; exact hj)]
  | y :: xs, i + 1, j, x, hl, h, hj => by
    have hy := hl y (by simp)
    rw [List.flatMap_cons, List.getElem?_append_right (by rw [hy, Nat.add_mul]; omega), hy, show (i + 1) * sz + j - sz = i * sz + j from by rw [Nat.add_mul]; omega]
    exact flatMap_get (fun x hx => hl x (by simp [hx])) (by simpa using h) hj
theorem flatMap_take {α : Type} {f : α → List Value} {sz : Nat} {xs : List α} {i : Nat} {x : α} (hl : ∀ x ∈ xs, (f x).length = sz) (h : xs[i]? = some x) : ((xs.flatMap f).drop (i * sz)).take sz = f x := by
  have hx := hl x (List.mem_of_getElem? h)
  have hi : i < xs.length := (List.getElem?_eq_some_iff.1 h).1
  apply List.ext_getElem?
  intro j
  rcases Nat.lt_or_ge j sz with q | q
  · rw [List.getElem?_take_of_lt q, List.getElem?_drop, flatMap_get hl h q]
  · rw [List.getElem?_eq_none (by rw [List.length_take]; omega), List.getElem?_eq_none (by omega)]
/-- Cells that a world holds from an address on, as a slice that is only read. -/
theorem slr_of {α : Type} {f : α → List Value} {sz : Nat} {w : World} {x : Addr} {xs : List α} (T : TypeId) (hs : 0 < sz) (hl : ∀ y ∈ xs, (f y).length = sz) (hc : ∀ i y, xs[i]? = some y → w.cells? 0 (x.add (i * sz)) sz = some (f y)) :
    SlR (heapOf w) T sz (some x) xs.length (xs.flatMap f) := by
  rcases Nat.eq_zero_or_pos xs.length with h0 | h0
  · left; exact ⟨h0, by rw [List.length_eq_zero_iff.1 h0]; rfl⟩
  have hx0 := List.getElem?_eq_getElem h0
  have hf0 := hl _ (List.mem_of_getElem? hx0)
  have hsp : ∃ c T' fz, x.spot = none ∧ w.heap[x.block]? = some (.cells c T' fz) := by
    have h2 := (World.cells?_some (hc 0 _ hx0)).2.2 0 hs
    have e : (x.add (0 * sz)).add 0 = x := by simp [Addr.add]
    rw [e, List.getElem?_eq_getElem (by omega)] at h2
    unfold World.cell? at h2
    split at h2
    · split at h2
      · cases h2
      · rename_i c T' fz hh hq
        refine ⟨c, T', fz, ?_, hh⟩
        cases hq2 : x.spot <;> simp_all
    · cases h2
  obtain ⟨c, T', fz, hq, hh⟩ := hsp
  obtain ⟨b, off, sp⟩ := x
  simp only at hq hh
  subst hq
  have each : ∀ j v, (xs.flatMap f)[j]? = some v → c[off + j]? = some v := by
    intro j v hj
    have hjl : j < xs.length * sz := by rw [← flatMap_length hl]; exact (List.getElem?_eq_some_iff.1 hj).1
    have hi : j / sz < xs.length := (Nat.div_lt_iff_lt_mul hs).2 hjl
    have hy := List.getElem?_eq_getElem hi
    have hm := Nat.mod_lt j hs
    have e : j = j / sz * sz + j % sz := by rw [Nat.mul_comm]; exact (Nat.div_add_mod j sz).symm
    have h2 := (World.cells?_some (hc _ _ hy)).2.2 (j % sz) hm
    rw [← flatMap_get hl hy hm, ← e, hj, add_off, add_off, Nat.add_assoc, ← e] at h2
    simpa [World.cell?, hh] using h2
  have hlen : (xs.flatMap f).length = xs.length * sz := flatMap_length hl
  have hsize : off + (xs.flatMap f).length ≤ c.size := by
    have hp : 0 < (xs.flatMap f).length := by rw [hlen]; exact Nat.mul_pos h0 hs
    have := each ((xs.flatMap f).length - 1) _ (List.getElem?_eq_getElem (by omega))
    have := (Array.getElem?_eq_some_iff.1 this).1
    omega
  right
  refine ⟨b, T', c.toList.take off, c.toList.drop (off + (xs.flatMap f).length), ?_, hlen, ?_⟩
  · have : (c.toList.take off).length = off := by simp; omega
    rw [this]
  · refine ⟨fz, ?_⟩
    show w.heap[b]? = _
    rw [hh]
    congr 2
    apply Array.ext'
    rw [List.toList_toArray]
    apply List.ext_getElem?
    intro i
    rcases Nat.lt_or_ge i off with q | q
    · rw [List.append_assoc, List.getElem?_append_left (by simp; omega), List.getElem?_take_of_lt q]
    · rw [List.append_assoc, List.getElem?_append_right (by simp; omega)]
      have e1 : (c.toList.take off).length = off := by simp; omega
      rw [e1]
      rcases Nat.lt_or_ge (i - off) (xs.flatMap f).length with r | r
      · rw [List.getElem?_append_left r]
        have h2 := List.getElem?_eq_getElem r
        have := each _ _ h2
        rw [show off + (i - off) = i from by omega] at this
        rw [Array.getElem?_toList, this, h2]
      · rw [List.getElem?_append_right r, List.getElem?_drop]
        congr 1; omega
/-- A slice that came in, by its elements. -/
theorem Tr.rows {H : Type} {enc : TypeId × Value → H} {P : Program} {w : World} {t e : TypeId} {α : Type} {f : α → List Value} {φ : α → Prop} {sz : Nat} {a : Option Addr} {len cap : Nat} (T : TypeId) (h : Tr enc P w t [.slice a len cap]) (ht : P.underlying t = some (.slice e)) (hsz : P.cellsOf e = sz) (hs : 0 < sz)
    (hl : ∀ x, (f x).length = sz) (hx : ∀ vs, Tr enc P w e vs → ∃ x, vs = f x ∧ φ x) :
    ∃ xs : List α, xs.length = len ∧ (∀ x ∈ xs, φ x) ∧ SlR (heapOf w) T sz a xs.length (xs.flatMap f) ∧ len ≤ cap ∧ cap ≤ 9223372036854775807 := by
  obtain ⟨a', len', cap', e0, h1, h2, h3⟩ := h.slice ht
  cases e0
  rcases h3 with ⟨rfl, rfl, rfl⟩ | ⟨x, rfl, h4⟩
  · exact ⟨[], rfl, by simp, .inl ⟨rfl, rfl⟩, h1, h2⟩
  · rw [hsz] at h4
    obtain ⟨xs, q1, q2⟩ := exists_list (p := fun i (y : α) => φ y ∧ w.cells? 0 (x.add (i * sz)) sz = some (f y)) (fun i hi => by
      obtain ⟨vs, c1, c2⟩ := h4 i hi
      obtain ⟨y, rfl, hy⟩ := hx vs c2
      exact ⟨y, hy, c1⟩)
    refine ⟨xs, q1, fun y hy => ?_, slr_of T hs (fun y _ => hl y) (fun i y hy => (q2 i y hy).2), h1, h2⟩
    obtain ⟨i, hi⟩ := List.getElem?_of_mem hy
    exact (q2 i y hi).1
/-- The same, of elements of one cell. -/
theorem flatMap_one {α : Type} (f : α → Value) (xs : List α) : (xs.flatMap fun x => [f x]) = xs.map f := by
  induction xs with
  | nil => rfl
  | cons x xs ih => rw [List.flatMap_cons, ih]; rfl
theorem Tr.rows1 {H : Type} {enc : TypeId × Value → H} {P : Program} {w : World} {t e : TypeId} {α : Type} {f : α → Value} {φ : α → Prop} {a : Option Addr} {len cap : Nat} (T : TypeId) (h : Tr enc P w t [.slice a len cap]) (ht : P.underlying t = some (.slice e)) (hsz : P.cellsOf e = 1)
    (hx : ∀ vs, Tr enc P w e vs → ∃ x, vs = [f x] ∧ φ x) :
    ∃ xs : List α, xs.length = len ∧ (∀ x ∈ xs, φ x) ∧ SlR (heapOf w) T 1 a xs.length (xs.map f) ∧ len ≤ cap ∧ cap ≤ 9223372036854775807 := by
  obtain ⟨xs, h1, h2, h3, h4⟩ := h.rows (f := fun x => [f x]) T ht hsz (by decide) (fun _ => rfl) hx
  rw [flatMap_one] at h3
  exact ⟨xs, h1, h2, h3, h4⟩
/-- Indexing an array by its address. -/
theorem Pure.indexAddrArr {P : Program} {e : Env} {d : Option Tmp} {tt t : TypeId} {pos : String} {af : Array Edge} {gd : Option (Nat × Bool)} {x y : Operand} {b off n sz : Nat} {E : TypeId} {k : IntKind} {i : Int} (hx : opv e x = some (.pointer (some ⟨b, off, none⟩))) (hy : opv e y = some (.int k i)) (ht : P.underlying t = some (.array n E)) (hs : sizeIs P E = some sz)
    (h0 : 0 ≤ i) (h1 : i < n) : Pure P e ⟨d, .indexAddr t x y, tt, pos, af, gd⟩ (.pointer (some ⟨b, off + i.toNat * sz, none⟩)) := fun ρ w ho => by
  have e1 := ho _ _ hx; have e2 := ho _ _ hy
  simp only [execOp, e1, e2, Instr.indexAt, asIntOf]
  simp [run_underlying ht, run_sizeOf hs, h0, h1, add_off, Instr.sureAddr]
/-- A cell of an element. -/
theorem elem_at {α : Type} {f : α → List Value} {sz : Nat} {xs : List α} {x : α} {pre post : List Value} {i j : Nat} (hl : ∀ x ∈ xs, (f x).length = sz) (h : xs[i]? = some x) (hj : j < sz) : (pre ++ xs.flatMap f ++ post)[pre.length + i * sz + j]? = (f x)[j]? := by
  have hg := flatMap_get hl h hj
  have hlt : i * sz + j < (xs.flatMap f).length := by
    rw [flatMap_length hl]
    have : i < xs.length := (List.getElem?_eq_some_iff.1 h).1
    have := Nat.mul_le_mul_right sz (show i + 1 ≤ xs.length from this)
    rw [Nat.add_mul, Nat.one_mul] at this; omega
  rw [List.append_assoc, Nat.add_assoc, List.getElem?_append_right (by omega), Nat.add_sub_cancel_left, List.getElem?_append_left hlt, hg]
theorem elem1_at {α : Type} {f : α → Value} {xs : List α} {x : α} {pre post : List Value} {i : Nat} (h : xs[i]? = some x) : (pre ++ xs.map f ++ post)[pre.length + i * 1]? = some (f x) := by
  have hlt : i < (xs.map f).length := by rw [List.length_map]; exact (List.getElem?_eq_some_iff.1 h).1
  rw [Nat.mul_one, List.append_assoc, List.getElem?_append_right (by omega), Nat.add_sub_cancel_left, List.getElem?_append_left hlt, List.getElem?_map, h]; rfl
theorem get_some {α : Type} {xs : List α} {i : Nat} (h : i < xs.length) : ∃ x, xs[i]? = some x := ⟨_, List.getElem?_eq_getElem h⟩
/-- Two numbers. -/
def pairCells (p : Int × Int) : List Value := [.int .i64 p.1, .int .i64 p.2]
def PairOk (p : Int × Int) : Prop := (Lit.int .i64 p.1).wf = true ∧ (Lit.int .i64 p.2).wf = true
theorem Tr.pair {H : Type} {enc : TypeId × Value → H} {P : Program} {w : World} {t e : TypeId} {cs : List Value} (h : Tr enc P w t cs) (ht : P.underlying t = some (.array 2 e)) (he : P.underlying e = some (.int .i64)) (hc : P.cellsOf e = 1 ∧ P.cellsOf t = 2) : ∃ p, cs = pairCells p ∧ PairOk p := by
  obtain ⟨h1, h2⟩ := h.array ht
  rw [hc.2] at h1
  rw [hc.1] at h2
  match cs, h1 with
  | [u, v], _ =>
    obtain ⟨n, e1, w1⟩ := (h2 0 (by decide)).int he
    obtain ⟨m, e2, w2⟩ := (h2 1 (by decide)).int he
    simp at e1 e2
    exact ⟨(n, m), by rw [e1, e2]; rfl, w1, w2⟩
end Go.Proofs.Ytghmmjifmnmbgaa.Csl
