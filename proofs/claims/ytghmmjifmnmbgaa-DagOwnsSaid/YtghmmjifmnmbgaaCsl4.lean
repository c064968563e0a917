/- Operations on memory, calls, returns. Nothing of a program stands here. -/
import Derived.Test.YtghmmjifmnmbgaaCsl3
set_option linter.unusedVariables false
set_option linter.unusedSimpArgs false
namespace Go.Proofs.Ytghmmjifmnmbgaa.Csl
open Go

theorem St.find {G : Gp} {p : HProp} {A B : List HProp} {w : World} (f : Find p A B) (s : St G A w) : St G (p :: B) w := s.perm f.perm

section
variable {c : Cx} {G : Gp} {ops : Array Oper} {k : KT} {e : Env} {A A' : List HProp} {l : List Oper}
variable {d : Nat} {t tt : TypeId} {pos : String} {af : Array Edge} {gd : Option (Nat × Bool)} {x y : Operand}
variable {b i n : Nat} {T : TypeId} {cs : List Value} {v : Value}

theorem RunL.load1 (hx : opv e x = some (.pointer (some ⟨b, i, none⟩))) (hf : Find (row b T cs) A A') (hc : cs[i]? = some v) (ha : isAggOf c.P t = some false)
    (hw : Wt ops e ⟨some d, .load t x, tt, pos, af, gd⟩ true) (hlt : Nat.blt d c.fn.ntmps = true) (next : RunL c G ops l k ((d, v) :: e) A) : RunL c G ops (⟨some d, .load t x, tt, pos, af, gd⟩ :: l) k e A := by
  refine RunL.val (X := Unit) (v := fun _ => v) (A' := fun _ => A) hw rfl hlt (fun a w h s => ⟨(), w, ?_, s⟩) (fun _ => next)
  have h1 := h.opv hx
  generalize a.eval = ρ at h1 ⊢
  simp only [execOp, h1, Instr.loadAt, Instr.sureAddr]
  simp [run_loadVar1 ha (s.find hf).seen hc]
theorem RunL.load1R (hx : opv e x = some (.pointer (some ⟨b, i, none⟩))) (hr : Ro G b T cs) (hc : cs[i]? = some v) (ha : isAggOf c.P t = some false)
    (hw : Wt ops e ⟨some d, .load t x, tt, pos, af, gd⟩ true) (hlt : Nat.blt d c.fn.ntmps = true) (next : RunL c G ops l k ((d, v) :: e) A) : RunL c G ops (⟨some d, .load t x, tt, pos, af, gd⟩ :: l) k e A := by
  refine RunL.val (X := Unit) (v := fun _ => v) (A' := fun _ => A) hw rfl hlt (fun a w h s => ⟨(), w, ?_, s⟩) (fun _ => next)
  have h1 := h.opv hx
  generalize a.eval = ρ at h1 ⊢
  simp only [execOp, h1, Instr.loadAt, Instr.sureAddr]
  simp [run_loadVar1 ha (hr.seen s) hc]
theorem RunL.loadN {vs : List Value} (hx : opv e x = some (.pointer (some ⟨b, i, none⟩))) (hf : Find (row b T cs) A A') (ha : isAggOf c.P t = some true) (hn : sizeIs c.P t = some n) (hl : i + n ≤ cs.length) (hc : (cs.drop i).take n = vs)
    (hw : Wt ops e ⟨some d, .load t x, tt, pos, af, gd⟩ true) (hlt : Nat.blt d c.fn.ntmps = true) (next : RunL c G ops l k ((d, .agg vs.toArray) :: e) A) : RunL c G ops (⟨some d, .load t x, tt, pos, af, gd⟩ :: l) k e A := by
  refine RunL.val (X := Unit) (v := fun _ => .agg vs.toArray) (A' := fun _ => A) hw rfl hlt (fun a w h s => ⟨(), w, ?_, s⟩) (fun _ => next)
  have h1 := h.opv hx
  generalize a.eval = ρ at h1 ⊢
  simp only [execOp, h1, Instr.loadAt, Instr.sureAddr]
  simp [run_loadVarN ha hn (s.find hf).seen hl, hc]
theorem RunL.loadNR {vs : List Value} (hx : opv e x = some (.pointer (some ⟨b, i, none⟩))) (hr : Ro G b T cs) (ha : isAggOf c.P t = some true) (hn : sizeIs c.P t = some n) (hl : i + n ≤ cs.length) (hc : (cs.drop i).take n = vs)
    (hw : Wt ops e ⟨some d, .load t x, tt, pos, af, gd⟩ true) (hlt : Nat.blt d c.fn.ntmps = true) (next : RunL c G ops l k ((d, .agg vs.toArray) :: e) A) : RunL c G ops (⟨some d, .load t x, tt, pos, af, gd⟩ :: l) k e A := by
  refine RunL.val (X := Unit) (v := fun _ => .agg vs.toArray) (A' := fun _ => A) hw rfl hlt (fun a w h s => ⟨(), w, ?_, s⟩) (fun _ => next)
  have h1 := h.opv hx
  generalize a.eval = ρ at h1 ⊢
  simp only [execOp, h1, Instr.loadAt, Instr.sureAddr]
  simp [run_loadVarN ha hn (hr.seen s) hl, hc]
/-- A store of 'n' cells. -/
theorem RunL.store (hx : opv e x = some (.pointer (some ⟨b, i, none⟩))) (hy : opv e y = some v) (hf : Find (row b T cs) A A') (hn : sizeIs c.P t = some n) (hv : v.cells.size = n) (h1 : ∀ u ∈ v.cells.toList, u.isOne = true) (hl : i + n ≤ cs.length)
    (hw : Wt ops e ⟨none, .store t x y, tt, pos, af, gd⟩ true) (next : RunL c G ops l k e (row b T (setRange cs i v.cells.toList) :: A')) : RunL c G ops (⟨none, .store t x y, tt, pos, af, gd⟩ :: l) k e A := by
  refine RunL.unit hw rfl (fun a w h s => ?_) next
  have e1 := h.opv hx; have e2 := h.opv hy
  generalize a.eval = ρ at e1 e2 ⊢
  obtain ⟨w', hr, s'⟩ := run_storeVar (P := c.P) hn hv h1 (s.find hf) hl
  refine ⟨w', ?_, s'⟩
  simp only [execOp, e1, e2, Instr.storeAt, Instr.sureAddr]
  simp [hr]
theorem setRange_one {cs : List Value} {i : Nat} {v : Value} (h : i < cs.length) : setRange cs i [v] = cs.set i v := by
  rw [← set_setRange (by simp only [List.length_nil]; omega), setRange_nil]
/-- A store of one cell. -/
theorem RunL.store1 (hx : opv e x = some (.pointer (some ⟨b, i, none⟩))) (hy : opv e y = some v) (hf : Find (row b T cs) A A') (hn : sizeIs c.P t = some 1) (hv : v.isOne = true) (hl : i < cs.length)
    (hw : Wt ops e ⟨none, .store t x y, tt, pos, af, gd⟩ true) (next : RunL c G ops l k e (row b T (cs.set i v) :: A')) : RunL c G ops (⟨none, .store t x y, tt, pos, af, gd⟩ :: l) k e A := by
  have hc : v.cells = #[v] := by cases v <;> first | rfl | cases hv
  refine RunL.store hx hy hf hn (by simp [hc]) (by simp [hc, hv]) (by omega) hw ?_
  rw [hc, setRange_one hl]; exact next

theorem RunL.alloc {z : Value} (hz : zeroIs c.P t = some z) (hw : Wt ops e ⟨some d, .alloc t, tt, pos, af, gd⟩ true) (hlt : Nat.blt d c.fn.ntmps = true)
    (next : ∀ b, RunL c G ops l k ((d, .pointer (some ⟨b, 0, none⟩)) :: e) (row b t z.cells.toList :: A)) : RunL c G ops (⟨some d, .alloc t, tt, pos, af, gd⟩ :: l) k e A := by
  refine RunL.val (v := fun b => .pointer (some ⟨b, 0, none⟩)) (A' := fun b => row b t z.cells.toList :: A) hw rfl hlt (fun a w h s => ⟨w.heap.size, { w with heap := w.heap.push (.cells z.cells t) }, ?_, by simpa using s.alloc t z.cells.toList⟩) next
  generalize a.eval = ρ
  simp only [execOp, Instr.alloc]
  simp [run_zero hz, newVar, newRow]
theorem RunL.box (hx : opv e x = some v) (hw : Wt ops e ⟨some d, .box t x, tt, pos, af, gd⟩ true) (hlt : Nat.blt d c.fn.ntmps = true)
    (next : ∀ b, RunL c G ops l k ((d, .pointer (some ⟨b, 0, none⟩)) :: e) (row b t v.cells.toList :: A)) : RunL c G ops (⟨some d, .box t x, tt, pos, af, gd⟩ :: l) k e A := by
  refine RunL.val (v := fun b => .pointer (some ⟨b, 0, none⟩)) (A' := fun b => row b t v.cells.toList :: A) hw rfl hlt (fun a w h s => ⟨w.heap.size, { w with heap := w.heap.push (.cells v.cells t) }, ?_, by simpa using s.alloc t v.cells.toList⟩) next
  have h1 := h.opv hx
  generalize a.eval = ρ at h1 ⊢
  simp only [execOp, h1, Instr.box]
  simp [newVar, newRow]
end

/-! ### Operations that touch no memory -/
section
variable {P : Program} {e : Env} {d : Option Tmp} {t tt : TypeId} {pos : String} {af : Array Edge} {gd : Option (Nat × Bool)} {x y : Operand}
theorem run_fieldAt {w : World} {b off i fo : Nat} (h : fieldOff P t i = some fo) : (Instr.fieldAt t (.pointer (some ⟨b, off, none⟩)) i).run P w = .ok (.pointer (some ⟨b, off + fo, none⟩)) w := by
  unfold fieldOff at h
  split at h
  · rename_i fs hu
    split at h
    · rename_i f hf
      split at h
      · rename_i n hn
        split at h
        · cases h
        · rename_i hs
          cases h
          simp only [Instr.fieldAt, Sem.run_bind, run_underlying hu, Result.andThen, hf, Instr.sureAddr, Sem.run_pure, fieldPlace, sizeOf, typeInfo, run_program]
          simp [hn, hs, add_off]
      · cases h
    · cases h
  · cases h
theorem Pure.fieldAddr {b off i fo : Nat} (hx : opv e x = some (.pointer (some ⟨b, off, none⟩))) (h : fieldOff P t i = some fo) : Pure P e ⟨d, .fieldAddr t x i, tt, pos, af, gd⟩ (.pointer (some ⟨b, off + fo, none⟩)) := fun ρ w ho => by
  have h1 := ho _ _ hx
  simp only [execOp, h1]; simp [run_fieldAt h]
theorem Pure.indexAddr {b off len cap sz : Nat} {E : TypeId} {k : IntKind} {i : Int} (hx : opv e x = some (.slice (some ⟨b, off, none⟩) len cap)) (hy : opv e y = some (.int k i)) (ht : P.underlying t = some (.slice E)) (hs : sizeIs P E = some sz)
    (h0 : 0 ≤ i) (h1 : i < len) : Pure P e ⟨d, .indexAddr t x y, tt, pos, af, gd⟩ (.pointer (some ⟨b, off + i.toNat * sz, none⟩)) := fun ρ w ho => by
  have e1 := ho _ _ hx; have e2 := ho _ _ hy
  simp only [execOp, e1, e2, Instr.indexAt, asIntOf]
  simp [run_underlying ht, run_sizeOf hs, h0, h1, add_off]
theorem Pure.indexStr {s : ByteArray} {k : IntKind} {i : Int} (hx : opv e x = some (.string s)) (hy : opv e y = some (.int k i)) (ht : P.underlying t = some .string)
    (h0 : 0 ≤ i) (h1 : i < s.size) : Pure P e ⟨d, .index t x y, tt, pos, af, gd⟩ (.int .u8 (s.data.toList.getD i.toNat 0).toNat) := fun ρ w ho => by
  have e1 := ho _ _ hx; have e2 := ho _ _ hy
  have hlt : i.toNat < s.size := by omega
  have hg : s[i.toNat]? = some (s.data.toList.getD i.toNat 0) := by
    rw [getElem?_pos s i.toNat hlt]
    congr 1
    rw [List.getD_eq_getElem?_getD, List.getElem?_eq_getElem (by simpa using hlt)]; rfl
  simp only [execOp, e1, e2, Instr.index, asIntOf]
  simp [run_underlying ht, h0, h1, hg]
  rfl
theorem Pure.lenStr {s : ByteArray} {ats : Array TypeId} {t0 : TypeId} (hx : opv e x = some (.string s)) (ha : ats[0]? = some t0) (ht : P.underlying t0 = some .string) : Pure P e ⟨d, .call ⟨.builtin .len, #[x], ats⟩, tt, pos, af, gd⟩ (.int .i64 s.size) := fun ρ w ho => by
  have e1 := ho _ _ hx
  simp only [execOp, resolve, invoke, builtin, Builtin.len_]
  simp [e1, ha, run_underlying ht, goInt, invoke, builtin, Builtin.len_]
theorem Pure.lenSl {a : Option Addr} {n m : Nat} {E : TypeId} {ats : Array TypeId} {t0 : TypeId} (hx : opv e x = some (.slice a n m)) (ha : ats[0]? = some t0) (ht : P.underlying t0 = some (.slice E)) : Pure P e ⟨d, .call ⟨.builtin .len, #[x], ats⟩, tt, pos, af, gd⟩ (.int .i64 n) := fun ρ w ho => by
  have e1 := ho _ _ hx
  simp only [execOp, resolve, invoke, builtin, Builtin.len_]
  simp [e1, ha, run_underlying ht, goInt, invoke, builtin, Builtin.len_]
theorem Pure.max2 {k : IntKind} {a b : Int} {ats : Array TypeId} (hx : opv e x = some (.int k a)) (hy : opv e y = some (.int k b)) : Pure P e ⟨d, .call ⟨.builtin .max, #[x, y], ats⟩, tt, pos, af, gd⟩ (.int k (max a b)) := fun ρ w ho => by
  have e1 := ho _ _ hx; have e2 := ho _ _ hy
  have hm : (if b > a then b else a) = max a b := by split <;> omega
  simp only [execOp, resolve]
  simp [e1, e2, invoke, builtin, Builtin.max_, Builtin.max2, hm]
theorem Pure.min2 {k : IntKind} {a b : Int} {ats : Array TypeId} (hx : opv e x = some (.int k a)) (hy : opv e y = some (.int k b)) : Pure P e ⟨d, .call ⟨.builtin .min, #[x, y], ats⟩, tt, pos, af, gd⟩ (.int k (min a b)) := fun ρ w ho => by
  have e1 := ho _ _ hx; have e2 := ho _ _ hy
  have hm : (if b < a then b else a) = min a b := by split <;> omega
  simp only [execOp, resolve]
  simp [e1, e2, invoke, builtin, Builtin.min_, Builtin.min2, hm]
theorem Pure.makeFunc {f : Fn} {as bs : Array Operand} {va vb : List Value} (ha : opvs e as.toList = some va) (hb : opvs e bs.toList = some vb) : Pure P e ⟨d, .makeFunc f as bs, tt, pos, af, gd⟩ (.func f va.toArray vb.toArray) := fun ρ w ho => by
  have h1 := Ev.opvs ho ha; have h2 := Ev.opvs ho hb
  have h1' : as.map ρ = va.toArray := by rw [← h1, List.map_toArray, Array.toArray_toList]
  have h2' : bs.map ρ = vb.toArray := by rw [← h2, List.map_toArray, Array.toArray_toList]
  simp [execOp, Instr.makeFunc, h1', h2']
theorem Pure.extract {vs : Array Value} {i : Nat} {v : Value} (hx : opv e x = some (.tuple vs)) (hv : vs[i]? = some v) : Pure P e ⟨d, .extract x i, tt, pos, af, gd⟩ v := fun ρ w ho => by
  have h1 := ho _ _ hx
  simp only [execOp, h1, Instr.extract, hv]; simp
theorem Pure.makeInterface {v : Value} {xt : TypeId} {dsc : TypeDesc} (hx : opv e x = some v) (ht : P.underlying xt = some dsc) (hi : (match dsc with | .interface _ => true | _ => false) = false) : Pure P e ⟨d, .makeInterface xt x, tt, pos, af, gd⟩ (.iface xt v) := fun ρ w ho => by
  have h1 := ho _ _ hx
  simp only [execOp, h1, Instr.makeInterface, Sem.run_bind, run_underlying ht, Result.andThen]
  cases dsc <;> first | (simp; done) | simp at hi
end
end Go.Proofs.Ytghmmjifmnmbgaa.Csl
