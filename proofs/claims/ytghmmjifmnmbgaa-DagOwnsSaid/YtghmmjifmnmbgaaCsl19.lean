/- Functions without a Go body; arrays by value. Nothing of a program stands here. -/
import Derived.Test.YtghmmjifmnmbgaaCsl18
import Derived.Lib.Bytealg
set_option linter.unusedVariables false
set_option linter.unusedSimpArgs false
namespace Go.Proofs.Ytghmmjifmnmbgaa.Csl
open Go
section
variable {P : Program} {e : Env} {d : Option Tmp} {t tt : TypeId} {pos : String} {af : Array Edge} {gd : Option (Nat × Bool)} {x y : Operand}
theorem Pure.callX {f : FuncId} {fo : Operand} {xs : Array Operand} {ats : Array TypeId} {vs : List Value} {v : Value} (hf : opv e fo = some (.func (.func f) #[] #[])) (hxs : opvs e xs.toList = some vs) (hc : ∀ w, (callFunc f vs.toArray).run P w = .ok (.value v) w) :
    Pure P e ⟨d, .call ⟨.value fo, xs, ats⟩, tt, pos, af, gd⟩ v := fun ρ w ho => by
  have e1 := ho _ _ hf
  have e2 := Ev.opvs ho hxs
  have e3 : xs.map ρ = vs.toArray := by rw [← e2, List.map_toArray, Array.toArray_toList]
  have h1 := hc w
  simp only [execOp, resolve, e1, e3, Deferred.ofValue, Sem.run_bind, Sem.run_pure, Result.andThen_ok, invoke]
  simpa using h1
theorem Pure.indexAgg {n : Nat} {E : TypeId} {k : IntKind} {i : Int} {cs : List Value} {v : Value} (hx : opv e x = some (.agg cs.toArray)) (hy : opv e y = some (.int k i)) (ht : P.underlying t = some (.array n E)) (ha : isAggOf P E = some false) (hs : sizeIs P E = some 1)
    (h0 : 0 ≤ i) (h1 : i < n) (hv : cs[i.toNat]? = some v) : Pure P e ⟨d, .index t x y, tt, pos, af, gd⟩ v := fun ρ w ho => by
  have e1 := ho _ _ hx; have e2 := ho _ _ hy
  have hv' : cs.toArray[i.toNat * 1]? = some v := by simpa using hv
  simp only [execOp, e1, e2, Instr.index, asIntOf]
  simp [run_underlying ht, run_sizeOf hs, h0, h1]
  have := run_part1 (P := P) (w := w) ha hv'
  simp only [Nat.mul_one] at this
  simp [this]
theorem parts_eq {ρ : Operand → Value} : ∀ (q : List (Nat × Operand)) (r : List (Nat × Value)), q.map (·.1) = r.map (·.1) → (q.map (·.2)).map ρ = r.map (·.2) → q.map (fun (i, x) => (i, ρ x)) = r := by
  intro q
  induction q with
  | nil => intro r a b; cases r <;> simp_all
  | cons y q ih =>
    intro r a b
    cases r with
    | nil => simp at a
    | cons u r =>
      simp only [List.map_cons, List.cons.injEq] at a b ⊢
      exact ⟨Prod.ext a.1 b.1, ih r a.2 b.2⟩
theorem Pure.buildArr {n sz : Nat} {E : TypeId} {p : Array (Nat × Operand)} {ps : List (Nat × Value)} {z : Value} {cs : Array Value} (ht : P.underlying t = some (.array n E)) (hs : sizeIs P E = some sz) (hz : zeroIs P t = some z)
    (hp : opvs e (p.toList.map (·.2)) = some (ps.map (·.2))) (hpi : p.toList.map (·.1) = ps.map (·.1))
    (hf : Instr.fill (fun i => some (i * sz, sz)) z.cells ps = some cs) : Pure P e ⟨d, .build t p, tt, pos, af, gd⟩ (.agg cs) := fun ρ w ho => by
  have h1 := Ev.opvs ho hp
  have h2 : (p.map fun (i, x) => (i, ρ x)).toList = ps := by
    rw [Array.toList_map]; exact parts_eq _ _ hpi h1
  simp only [execOp, Instr.build, Sem.run_bind, run_zero hz, Result.andThen_ok, run_underlying ht, run_sizeOf hs, h2, hf]
  simp
theorem Pure.indexStrC {s : ByteArray} {k : IntKind} {i : Int} {c : UInt8} (hx : opv e x = some (.string s)) (hy : opv e y = some (.int k i)) (ht : P.underlying t = some .string) (hc : (bl s)[i.toNat]? = some c) (h0 : 0 ≤ i) : Pure P e ⟨d, .index t x y, tt, pos, af, gd⟩ (.int .u8 (c.toNat : Nat)) := by
  have hlt := (List.getElem?_eq_some_iff.1 hc).1
  rw [bl_length] at hlt
  have := Pure.indexStr (P := P) (d := d) (tt := tt) (pos := pos) (af := af) (gd := gd) hx hy ht h0 (by omega)
  have e1 : s.data.toList.getD i.toNat 0 = c := by
    rw [List.getD_eq_getElem?_getD]
    rw [show s.data.toList = bl s from rfl, hc]; rfl
  rw [e1] at this; exact this
def mkS (l : List UInt8) : ByteArray := ⟨l.toArray⟩
theorem bl_mkS (l : List UInt8) : bl (mkS l) = l := rfl
theorem mkS_bl (s : ByteArray) : mkS (bl s) = s := bl_inj rfl
theorem mkS_size (l : List UInt8) : (mkS l).size = l.length := size_mk l
theorem u8_round (c : UInt8) : ((c.toNat : Nat) : Int).toNat.toUInt8 = c := by simp
theorem ext_mkS {s : ByteArray} {i j : Nat} : s.extract i j = mkS (((bl s).drop i).take (j - i)) := bl_inj (by rw [bl_extract, bl_mkS])
theorem ext_from {s : ByteArray} {i : Nat} : s.extract i s.size = mkS ((bl s).drop i) := by
  rw [ext_mkS, List.take_of_length_le (by rw [List.length_drop, bl_length]; omega)]
theorem ext_to {s : ByteArray} {j : Nat} : s.extract 0 j = mkS ((bl s).take j) := by rw [ext_mkS]; simp
theorem app_mkS (a b : ByteArray) : a ++ b = mkS (bl a ++ bl b) := bl_inj (by rw [bl_append, bl_mkS])
theorem run_indexByteX {f : FuncId} {fn : Func} (hf : P.funcs[f]? = some fn) (hname : (fn.name == "runtime.NumGoroutine") = false) (hb : fn.body.isNone = true) (hn : Extern.findNext fn = none) (he : Extern.find fn = some Extern.BytealgIndexByte.indexByte) (s : ByteArray) (c : Int) (w : World) :
    (callFunc f #[.string s, .int .u8 c]).run P w = .ok (.value (.int .i64 (Lib.indexByte s.data.toList c.toNat.toUInt8))) w := by
  rw [run_callFunc_extern hf hname hb hn he, Lib.run_indexByteString]; rfl
end
section
variable {c : Cx} {G : Gp} {ops : Array Oper} {e : Env} {A : List HProp} {n : Nat} {listed : Array Bool} {k : KT}
theorem RunD.many (h : ∀ i ∈ Region.ready .any ops listed, ∃ o, ops[i]? = some o ∧ RunL c G ops [o] (KD c G ops n (listed.setIfInBounds i true) k) e A) (hne : Region.ready .any ops listed ≠ []) : RunD c G ops (n + 1) listed k e A := by
  intro a w ho s
  refine ⟨fun hx => absurd hx hne, fun j hj => ?_⟩
  obtain ⟨o, hi, next⟩ := h j hj
  have := next a w ho s
  unfold wpList at this
  unfold wpOp
  simp only [hi]
  by_cases hw : Region.wanted o (yielded ops a.tmps) = true
  · rw [if_pos hw] at this ⊢
    rcases this with this | ⟨_, x1, x2, x3⟩
    · refine .inl ?_
      unfold Oper.wp at this ⊢
      generalize (execOp a.eval o).run c.P w = r at this ⊢
      cases r with
      | ok q w' =>
        cases q <;> simp only [Oper.upon, wpList] at this ⊢ <;> first | exact this | exact Calls.mono this (fun en w2 hh => by cases en <;> exact hh) | exact Rows.mono this (fun _ _ hh => hh)
      | halt x w' => cases x <;> simp only [Oper.upon] at this ⊢ <;> exact this
    · exact x3.elim
  · rw [if_neg hw] at this ⊢
    exact this
theorem RunD.three {i j l : Nat} {o o' o2 : Oper} (hr : Region.ready .any ops listed = [i, j, l]) (hi : ops[i]? = some o) (hj : ops[j]? = some o') (hl : ops[l]? = some o2)
    (n1 : RunL c G ops [o] (KD c G ops n (listed.setIfInBounds i true) k) e A) (n2 : RunL c G ops [o'] (KD c G ops n (listed.setIfInBounds j true) k) e A) (n3 : RunL c G ops [o2] (KD c G ops n (listed.setIfInBounds l true) k) e A) : RunD c G ops (n + 1) listed k e A :=
  RunD.many (fun x hx => by
    rw [hr] at hx
    simp only [List.mem_cons, List.not_mem_nil, or_false] at hx
    rcases hx with rfl | rfl | rfl
    · exact ⟨o, hi, n1⟩
    · exact ⟨o', hj, n2⟩
    · exact ⟨o2, hl, n3⟩) (by rw [hr]; simp)
end
end Go.Proofs.Ytghmmjifmnmbgaa.Csl
