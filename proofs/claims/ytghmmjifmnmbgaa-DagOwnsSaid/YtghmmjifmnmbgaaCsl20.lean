/- Bytes compared. Nothing of a program stands here. -/
import Derived.Test.YtghmmjifmnmbgaaCsl19
import Derived.Lib.BytesEntry
set_option linter.unusedVariables false
set_option linter.unusedSimpArgs false
namespace Go.Proofs.Ytghmmjifmnmbgaa.Csl
open Go
theorem run_bytesSl {P : Program} {G : Gp} {A : List HProp} {w : World} {T : TypeId} {a : Option Addr} {cap : Nat} {bs : List UInt8} (h : SlR G T 1 a bs.length (bs.map bv)) (s : St G A w) :
    (Extern.Bytes.bytesOf (.slice a bs.length cap)).run P w = .ok (mkS bs) w := by
  rcases h with ⟨h0, _⟩ | ⟨b, T', pre, post, rfl, hl, r⟩
  · obtain rfl := List.length_eq_zero_iff.1 h0
    cases a with
    | none => rfl
    | some a => rfl
  · have hs := r.seen s
    have hl := Lib.run_loadBytesX (P := P) w (bs.map fun c => (c.toNat : Int)) ⟨b, pre.length, none⟩ .empty (fun j x hj => by
      have e : (⟨b, pre.length, none⟩ : Addr).add j = ⟨b, pre.length + j, none⟩ := by unfold Addr.add; split <;> simp_all
      have hjl : j < bs.length := by have := (List.getElem?_eq_some_iff.1 hj).1; simpa using this
      rw [e, hs.cell, List.append_assoc, List.getElem?_append_right (by omega), Nat.add_sub_cancel_left, List.getElem?_append_left (by simpa using hjl)]
      simp only [List.getElem?_map] at hj ⊢
      cases hb : bs[j]? with
      | none => rw [hb] at hj; cases hj
      | some c => rw [hb] at hj; simp only [Option.map_some, Option.some.injEq] at hj ⊢; rw [← hj]; rfl)
    rw [List.length_map] at hl
    have hb : Lib.bytesOf (bs.map fun c => (c.toNat : Int)) = bs := by
      unfold Lib.bytesOf
      rw [List.map_map]
      conv => rhs; rw [← List.map_id bs]
      apply List.map_congr_left
      intro c _
      simp
    rw [hb] at hl
    show (Extern.Bytes.loadBytes ⟨b, pre.length, none⟩ bs.length .empty).run P w = _
    rw [hl]
    congr 2
    show (#[] : Array UInt8) ++ bs.toArray = bs.toArray
    simp
theorem run_compareX {P : Program} {f : FuncId} {fn : Func} (hf : P.funcs[f]? = some fn) (hname : (fn.name == "runtime.NumGoroutine") = false) (hb : fn.body.isNone = true) (hn : Extern.findNext fn = none) (he : Extern.find fn = some Extern.BytealgCompare.compare)
    {G : Gp} {A : List HProp} {w : World} {T T' : TypeId} {a a' : Option Addr} {cap cap' : Nat} {bs bs' : List UInt8} (h : SlR G T 1 a bs.length (bs.map bv)) (h' : SlR G T' 1 a' bs'.length (bs'.map bv)) (s : St G A w) :
    (callFunc f #[.slice a bs.length cap, .slice a' bs'.length cap']).run P w = .ok (.value (.int .i64 (Lib.compareBytes bs bs'))) w := by
  rw [run_callFunc_extern hf hname hb hn he]
  have : (Extern.BytealgCompare.compare #[.slice a bs.length cap, .slice a' bs'.length cap']).run P w = .ok (.int .i64 (Lib.compareBytes bs bs')) w := by
    change Sem.run P (do pure (goInt (Extern.BytealgCompare.cmp (← Extern.Bytes.bytesOf (.slice a bs.length cap)) (← Extern.Bytes.bytesOf (.slice a' bs'.length cap'))))) w = _
    simp only [Sem.run_bind, run_bytesSl h s, run_bytesSl h' s, Sem.run_pure, Result.andThen]
    rw [Lib.cmp_eq]
    rfl
  rw [this]; rfl
section
variable {c : Cx} {G : Gp} {ops : Array Oper} {k : KT} {e : Env} {A : List HProp} {l : List Oper} {d : Nat} {tt : TypeId} {pos : String} {af : Array Edge} {gd : Option (Nat × Bool)}
theorem RunL.callXw {f : FuncId} {fo : Operand} {xs : Array Operand} {ats : Array TypeId} {vs : List Value} {v : Value} (hf : opv e fo = some (.func (.func f) #[] #[])) (hxs : opvs e xs.toList = some vs)
    (hc : ∀ w, St G A w → (callFunc f vs.toArray).run c.P w = .ok (.value v) w) (hw : Wt ops e ⟨some d, .call ⟨.value fo, xs, ats⟩, tt, pos, af, gd⟩ true) (hlt : Nat.blt d c.fn.ntmps = true)
    (next : RunL c G ops l k ((d, v) :: e) A) : RunL c G ops (⟨some d, .call ⟨.value fo, xs, ats⟩, tt, pos, af, gd⟩ :: l) k e A :=
  RunL.val (X := Unit) (v := fun _ => v) (A' := fun _ => A) hw rfl hlt (fun a w h s => ⟨(), w, by
    have e1 := h.opv hf
    have e2 := h.opvs hxs
    have e3 : xs.map a.eval = vs.toArray := by rw [← e2, List.map_toArray, Array.toArray_toList]
    have h1 := hc w s
    generalize a.eval = ρ at e1 e3 ⊢
    simp only [execOp, resolve, e1, e3, Deferred.ofValue, Sem.run_bind, Sem.run_pure, Result.andThen_ok, invoke]
    simpa using h1, s⟩) (fun _ => next)
end
end Go.Proofs.Ytghmmjifmnmbgaa.Csl
