/- Memory: rows of cells, what is read and written there, and calls. Nothing of a program stands here. -/
import Derived.Test.YtghmmjifmnmbgaaCsl2
set_option linter.unusedVariables false
set_option linter.unusedSimpArgs false
namespace Go.Proofs.Ytghmmjifmnmbgaa.Csl
open Go

def _root_.Go.Value.isOne : Value → Bool
  | .agg _ | .tuple _ => false
  | _ => true
/-- A row of cells, owned. -/
def FzOk (n : Nat) (fz : Nat × Nat) : Prop := fz.2 ≤ fz.1 ∨ n ≤ fz.1
def row (b : Nat) (T : TypeId) (cs : List Value) : HProp := fun h => ∃ fz : Nat × Nat, FzOk cs.length fz ∧ h = Hp.one b (.cells cs.toArray T fz)
/-- A row of cells that is only read. -/
def Ro (G : Gp) (b : Nat) (T : TypeId) (cs : List Value) : Prop := ∃ fz : Nat × Nat, G b = some (.cells cs.toArray T fz)

theorem St.row_open {G : Gp} {b : Nat} {T : TypeId} {cs : List Value} {A : List HProp} {w : World} (s : St G (row b T cs :: A) w) :
    ∃ fz, FzOk cs.length fz ∧ St G (pt b (.cells cs.toArray T fz) :: A) w := by
  obtain ⟨h, g, s, d, h1, h2, d', e, ⟨fz, hz, p⟩, a⟩ := s
  exact ⟨fz, hz, h, g, s, d, h1, h2, d', e, p, a⟩
theorem St.mkrow {G : Gp} {b : Nat} {T : TypeId} {cs : List Value} {fz : Nat × Nat} {A : List HProp} {w : World} (hz : FzOk cs.length fz) (s : St G (pt b (.cells cs.toArray T fz) :: A) w) :
    St G (row b T cs :: A) w := s.imp fun h p => ⟨fz, hz, p⟩
theorem St.lend_row {G : Gp} {b : Nat} {T : TypeId} {cs : List Value} {A : List HProp} {w : World} (s : St G (row b T cs :: A) w) :
    ∃ fz, FzOk cs.length fz ∧ G b = none ∧ St (Gp.join G (Hp.one b (.cells cs.toArray T fz))) A w := by
  obtain ⟨fz, hz, s⟩ := s.row_open
  exact ⟨fz, hz, s.lend.1, s.lend.2⟩

/-- What the world holds of a row, owned or only read. -/
structure Seen (w : World) (b : Nat) (T : TypeId) (cs : List Value) : Prop where
  at_ : ∃ fz, w.heap[b]? = some (.cells cs.toArray T fz)
theorem St.seen {G : Gp} {b : Nat} {T : TypeId} {cs : List Value} {A : List HProp} {w : World} (s : St G (row b T cs :: A) w) : Seen w b T cs := by
  obtain ⟨fz, hz, s⟩ := s.row_open
  exact ⟨fz, s.pt_at⟩
theorem Ro.seen {G : Gp} {b : Nat} {T : TypeId} {cs : List Value} {A : List HProp} {w : World} (r : Ro G b T cs) (s : St G A w) : Seen w b T cs := by
  obtain ⟨fz, r⟩ := r
  exact ⟨fz, s.ro r⟩
theorem Ro.join {G : Gp} {b : Nat} {T : TypeId} {cs : List Value} {K : Hp} (r : Ro G b T cs) : Ro (Gp.join G K) b T cs := by
  obtain ⟨fz, r⟩ := r; exact ⟨fz, Hp.join_left r⟩
theorem Ro.one {G : Gp} {b : Nat} {T : TypeId} {cs : List Value} {fz : Nat × Nat} (n : G b = none) : Ro (Gp.join G (Hp.one b (.cells cs.toArray T fz))) b T cs := by
  refine ⟨fz, ?_⟩
  show Hp.join G.hp _ b = _
  unfold Hp.join; rw [show G.hp b = none from n]; exact Hp.one_self _ _

section
variable {w : World} {b : Nat} {T : TypeId} {cs : List Value}
theorem Seen.cell (s : Seen w b T cs) (i : Nat) : w.cell? ⟨b, i, none⟩ = cs[i]? := by
  obtain ⟨fz, h⟩ := s.at_
  simp [World.cell?, h]
theorem Seen.shape (s : Seen w b T cs) : w.shape? b = some (T, cs.length) := by
  obtain ⟨fz, h⟩ := s.at_
  simp [World.shape?, h]
theorem Seen.lt (s : Seen w b T cs) : b < w.heap.size := by
  obtain ⟨fz, h⟩ := s.at_
  rcases Nat.lt_or_ge b w.heap.size with x | x
  · exact x
  · rw [Array.getElem?_eq_none x] at h; cases h
end
theorem St.not_frozen {G : Gp} {b : Nat} {T : TypeId} {cs : List Value} {A : List HProp} {w : World} (s : St G (row b T cs :: A) w) {i : Nat} (hi : i < cs.length) : w.frozen? ⟨b, i, none⟩ = false := by
  obtain ⟨⟨lo, hi'⟩, hz, s⟩ := s.row_open
  have h := s.pt_at
  simp only [World.frozen?, h]
  rcases hz with hz | hz <;> simp at hz ⊢ <;> omega

theorem add_off (b off i : Nat) : Addr.add ⟨b, off, none⟩ i = ⟨b, off + i, none⟩ := by
  unfold Addr.add; split
  · rename_i h; subst h; rfl
  · rfl

theorem St.set_row {G : Gp} {b : Nat} {T : TypeId} {cs : List Value} {A : List HProp} {w : World} {i : Nat} {v : Value} (s : St G (row b T cs :: A) w) :
    St G (row b T (cs.set i v) :: A) (w.setCell ⟨b, i, none⟩ v) := by
  have hs := s.seen
  obtain ⟨fz, hz, s⟩ := s.row_open
  have hb := s.pt_at
  refine St.mkrow (fz := fz) (by simpa using hz) (s.pt_set ?_ ?_ ⟨rfl, rfl, rfl, Nat.le_refl _⟩)
  · have hlt := hs.lt
    simp [World.setCell, Array.getElem?_modify, hb]
  · intro c hc
    simp [World.setCell, Array.getElem?_modify, Ne.symm hc]

theorem run_load {P : Program} {w : World} {b : Nat} {T : TypeId} {cs : List Value} {i : Nat} {v : Value} (s : Seen w b T cs) (h : cs[i]? = some v) :
    (load ⟨b, i, none⟩).run P w = .ok v w := by
  unfold load; simp [Sem.run, s.cell, h]
theorem run_loadCellsFrom {P : Program} {w : World} {b : Nat} {T : TypeId} {cs : List Value} {off : Nat} (s : Seen w b T cs) :
    ∀ (n i : Nat) (acc : Array Value), off + i + n ≤ cs.length → (loadCellsFrom ⟨b, off, none⟩ i n acc).run P w = .ok (acc ++ ((cs.drop (off + i)).take n).toArray) w := by
  intro n
  induction n with
  | zero => intro i acc _; simp [loadCellsFrom]
  | succ n ih =>
    intro i acc h
    have hlt : off + i < cs.length := by omega
    have h0 : cs[off + i]? = some cs[off + i] := List.getElem?_eq_getElem hlt
    simp only [loadCellsFrom, add_off, Sem.run_bind, run_load s h0, Result.andThen]
    have := ih (i + 1) (acc.push cs[off + i]) (by omega)
    rw [this, show off + (i + 1) = off + i + 1 from by omega, List.drop_eq_getElem_cons hlt, List.take_succ_cons]
    congr 1; apply Array.ext'; simp
theorem run_loadCells {P : Program} {w : World} {b : Nat} {T : TypeId} {cs : List Value} {off n : Nat} (s : Seen w b T cs) (h : off + n ≤ cs.length) :
    (loadCells ⟨b, off, none⟩ n).run P w = .ok ((cs.drop off).take n).toArray w := by
  unfold loadCells; rw [run_loadCellsFrom s n 0 #[] (by omega)]; simp

/-- 'n' cells from 'i' on, replaced. -/
def setRange (cs : List Value) (i : Nat) (vs : List Value) : List Value := cs.take i ++ vs ++ cs.drop (i + vs.length)
theorem setRange_nil (cs : List Value) (i : Nat) : setRange cs i [] = cs := by simp [setRange]
theorem length_setRange {cs vs : List Value} {i : Nat} (h : i + vs.length ≤ cs.length) : (setRange cs i vs).length = cs.length := by
  simp [setRange]; omega
theorem set_setRange {cs vs : List Value} {i : Nat} {v : Value} (h : i + 1 + vs.length ≤ cs.length) : setRange (cs.set i v) (i + 1) vs = setRange cs i (v :: vs) := by
  unfold setRange
  have h1 : (cs.set i v).take (i + 1) = cs.take i ++ [v] := by
    rw [List.take_set, List.take_succ_eq_append_getElem (by omega)]
    rw [List.set_append_right _ _ (by simp; omega)]
    simp [Nat.min_eq_left (by omega : i ≤ cs.length)]
  rw [h1, List.drop_set_of_lt (by omega)]
  simp [Nat.add_assoc, Nat.add_comm 1]
theorem run_store {P : Program} {G : Gp} {w : World} {b : Nat} {T : TypeId} {cs : List Value} {A : List HProp} {i : Nat} {v : Value} (s : St G (row b T cs :: A) w) (hi : i < cs.length) (hv : v.isOne = true) :
    (store ⟨b, i, none⟩ v).run P w = .ok () (w.setCell ⟨b, i, none⟩ v) := by
  have hc := s.seen.cell i
  rw [List.getElem?_eq_getElem hi] at hc
  have hf := s.not_frozen hi
  unfold store
  cases v <;> simp_all [Sem.run, Value.isOne]
theorem run_storeCells {P : Program} {G : Gp} {b : Nat} {T : TypeId} {A : List HProp} {off : Nat} : ∀ (vs : List Value) (w : World) (cs : List Value) (i : Nat),
    St G (row b T cs :: A) w → off + i + vs.length ≤ cs.length → (∀ v ∈ vs, v.isOne = true) →
    ∃ w', (storeCells ⟨b, off, none⟩ vs i).run P w = .ok () w' ∧ St G (row b T (setRange cs (off + i) vs) :: A) w' := by
  intro vs
  induction vs with
  | nil => intro w cs i s _ _; exact ⟨w, by simp [storeCells], by rw [setRange_nil]; exact s⟩
  | cons v vs ih =>
    intro w cs i s h hv
    simp only [List.length_cons] at h
    have hi : off + i < cs.length := by omega
    have hr := run_store (P := P) s hi (hv v (by simp))
    obtain ⟨w', hr', s'⟩ := ih _ _ (i + 1) (s.set_row (i := off + i) (v := v)) (by simp; omega) (fun u hu => hv u (by simp [hu]))
    refine ⟨w', ?_, ?_⟩
    · simp only [storeCells, add_off, Sem.run_bind, hr, Result.andThen]; exact hr'
    · rw [show off + (i + 1) = off + i + 1 from by omega, set_setRange (by omega)] at s'; exact s'

theorem St.alloc {G : Gp} {A : List HProp} {w : World} (s : St G A w) (T : TypeId) (cs : List Value) :
    St G (row w.heap.size T cs :: A) { w with heap := w.heap.push (.cells cs.toArray T) } :=
  St.mkrow (fz := (0, 0)) (.inl (Nat.le_refl _)) (s.pt_new (by simp) (fun c hc => by simp [Array.getElem?_push, Nat.ne_of_lt hc]) ⟨rfl, rfl, rfl, Nat.le_refl _⟩)

/-! ### Facts on types, to be settled by the kernel -/
def isAggOf (P : Program) (t : TypeId) : Option Bool := (P.underlying t).map fun | .struct _ | .array _ _ => true | _ => false
def sizeIs (P : Program) (t : TypeId) : Option Nat := (P.info? t).map (·.size)
def bytesIs (P : Program) (t : TypeId) : Option Nat := (P.info? t).map (·.bytes)
def zeroIs (P : Program) (t : TypeId) : Option Value := (P.info? t).bind (·.zero)
def fieldOff (P : Program) (s : TypeId) (i : Nat) : Option Nat :=
  match P.underlying s with
  | some (.struct fs) => match fs[i]? with
    | some f => match P.info? f.type with
      | some n => if n.size = 0 then none else some f.offset
      | none => none
    | none => none
  | _ => none
def elemIs (P : Program) (t : TypeId) : Option TypeId := match P.underlying t with | some (.slice e) => some e | _ => none

section
variable {P : Program} {w : World} {t : TypeId}
theorem run_isAgg {b : Bool} (h : isAggOf P t = some b) : (isAgg t).run P w = .ok b w := by
  unfold isAggOf at h
  cases hu : P.underlying t with
  | none => simp [hu] at h
  | some d => simp only [isAgg, Sem.run_bind, run_underlying hu, Result.andThen]; rw [hu] at h; cases d <;> simp_all
theorem run_sizeOf {n : Nat} (h : sizeIs P t = some n) : (sizeOf t).run P w = .ok n w := by
  unfold sizeIs at h
  cases hi : P.info? t with
  | none => simp [hi] at h
  | some i => simp [hi] at h; simp [sizeOf, typeInfo, hi, h]
theorem run_bytes {n : Nat} (h : bytesIs P t = some n) : ∃ i, (typeInfo t).run P w = .ok i w ∧ i.bytes = n := by
  unfold bytesIs at h
  cases hi : P.info? t with
  | none => simp [hi] at h
  | some i => simp [hi] at h; exact ⟨i, by simp [typeInfo, hi], h⟩
theorem run_zero {v : Value} (h : zeroIs P t = some v) : (zeroValue t).run P w = .ok v w := by
  unfold zeroIs at h
  cases hi : P.info? t with
  | none => simp [hi] at h
  | some i => simp [hi] at h; simp [zeroValue, typeInfo, hi, h]
theorem run_loadVar1 {b : Nat} {T : TypeId} {cs : List Value} {i : Nat} {v : Value} (ha : isAggOf P t = some false) (s : Seen w b T cs) (h : cs[i]? = some v) : (loadVar t ⟨b, i, none⟩).run P w = .ok v w := by
  simp only [loadVar, Sem.run_bind, run_isAgg ha, Result.andThen]; simp [run_load s h]
theorem run_loadVarN {b : Nat} {T : TypeId} {cs : List Value} {i n : Nat} (ha : isAggOf P t = some true) (hn : sizeIs P t = some n) (s : Seen w b T cs) (h : i + n ≤ cs.length) :
    (loadVar t ⟨b, i, none⟩).run P w = .ok (.agg ((cs.drop i).take n).toArray) w := by
  simp only [loadVar, Sem.run_bind, run_isAgg ha, Result.andThen, if_true, run_sizeOf hn, run_loadCells s h]; simp
end
theorem run_storeVar {P : Program} {G : Gp} {w : World} {t : TypeId} {b : Nat} {T : TypeId} {cs : List Value} {A : List HProp} {i n : Nat} {v : Value} (hn : sizeIs P t = some n) (hv : v.cells.size = n) (h1 : ∀ u ∈ v.cells.toList, u.isOne = true)
    (s : St G (row b T cs :: A) w) (h : i + n ≤ cs.length) :
    ∃ w', (storeVar t ⟨b, i, none⟩ v).run P w = .ok () w' ∧ St G (row b T (setRange cs i v.cells.toList) :: A) w' := by
  obtain ⟨w', hr, s'⟩ := run_storeCells (P := P) (off := i) v.cells.toList w cs 0 s (by simp [hv]; omega) h1
  refine ⟨w', ?_, by simpa using s'⟩
  simp only [storeVar, Sem.run_bind, run_sizeOf hn, Result.andThen, hv]
  simp [hr]

end Go.Proofs.Ytghmmjifmnmbgaa.Csl
