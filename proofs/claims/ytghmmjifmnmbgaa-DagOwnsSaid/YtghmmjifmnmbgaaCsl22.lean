/- Contracts over atoms that hide what they hold; arrays of one struct compared. Nothing of a program stands here. -/
import Derived.Test.YtghmmjifmnmbgaaCsl21
import Derived.ChangeKeysEq
set_option linter.unusedVariables false
set_option linter.unusedSimpArgs false
namespace Go.Proofs.Ytghmmjifmnmbgaa.Csl
open Go
section
variable {P : Program} {G : Gp} {f : FuncId} {args : List Value} {pre : List HProp} {post post' : Post}
theorem Ctr.exPre {X : Type} {φ : X → Prop} {L : X → List HProp} {pre0 : List HProp} (hc : Callable P f) (h : ∀ x, φ x → Ctr P G f args (L x ++ pre0) post) : Ctr P G f args (Ex φ L :: pre0) post :=
  ⟨hc, fun F w s => by
    obtain ⟨x, hx, s⟩ := St.openEx (A := pre0 ++ F) s
    exact (h x hx).2 F w (by rw [List.append_assoc]; exact s)⟩
theorem Ctr.postConv (h : Ctr P G f args pre post) (i : ∀ F v A, post F v A → ∃ A', post' F v A' ∧ ∀ w, St G A w → St G A' w) : Ctr P G f args pre post' :=
  ⟨h.1, fun F w s => (h.2 F w s).mono fun e w' ⟨v, A, e1, p, s'⟩ => by
    obtain ⟨A', p', c⟩ := i F v A p
    exact ⟨v, A', e1, p', c w' s'⟩⟩
end
section
variable {P : Program}
theorem Eqv.arr1 {n sz : Nat} {t E : TypeId} {xs ys : Array Value} {b : Bool} (hu : P.underlying t = some (.array 1 E)) (hc : P.cellsOf E = sz) (ha : isAggOf P E = some true) (hs : sizeIs P E = some sz) (hx : xs.size = sz) (hy : ys.size = sz) (he : Eqv P n E (.agg xs) (.agg ys) b) : Eqv P (n + 1) t (.agg xs) (.agg ys) b := fun d w => by
  obtain ⟨i, hi, _⟩ : ∃ i, P.info? E = some i ∧ i.size = sz := by simpa [sizeIs] using hs
  have e1 : xs.extract (0 * sz) (0 * sz + sz) = xs := by rw [Nat.zero_mul, Nat.zero_add, ← hx]; exact Array.extract_size
  have e2 : ys.extract (0 * sz) (0 * sz + sz) = ys := by rw [Nat.zero_mul, Nat.zero_add, ← hy]; exact Array.extract_size
  rw [← Nat.add_assoc, run_equalIn_array w (d + n) xs ys hu hi, hc]
  simp only [show List.range 1 = [0] from rfl, Op.eqItems, Sem.run_bind, run_partN ha hs e1, run_partN ha hs e2, Result.andThen_ok, he d w]
  cases b <;> simp
end
theorem Pure.buildArr1 {P : Program} {e : Env} {d : Option Tmp} {t tt : TypeId} {pos : String} {af : Array Edge} {gd : Option (Nat × Bool)} {x : Operand} {sz : Nat} {E : TypeId} {z : Value} {xs : List Value} (ht : P.underlying t = some (.array 1 E)) (hs : sizeIs P E = some sz) (hz : zeroIs P t = some z) (hzz : z.cells.size = sz) (hx : opv e x = some (.agg xs.toArray)) (hl : xs.length = sz) :
    Pure P e ⟨d, .build t #[(0, x)], tt, pos, af, gd⟩ (.agg xs.toArray) := by
  refine Pure.buildArr (ps := [(0, .agg xs.toArray)]) ht hs hz (by simp [opvs, hx]) rfl ?_
  have := fill_all (sz := sz) [.agg xs.toArray] 0 z.cells (by intro v hv; obtain rfl := List.mem_singleton.1 hv; simpa [Value.cells] using hl) (by simp [hzz])
  have hc : ([Value.agg xs.toArray].flatMap fun v => v.cells.toList) = xs := by simp [Value.cells]
  have e1 : setRange z.cells.toList (0 * sz) xs = xs := by
    unfold setRange
    rw [Nat.zero_mul, List.take_zero, List.nil_append, Nat.zero_add, List.drop_of_length_le (by rw [hl, Array.length_toList, hzz]; exact Nat.le_refl _), List.append_nil]
  rw [hc, e1] at this
  exact this
section
variable {P : Program} {e : Env} {d : Option Tmp} {t tt : TypeId} {pos : String} {af : Array Edge} {gd : Option (Nat × Bool)} {x y : Operand}
theorem run_equalIn_nil0 {w : World} {t E : TypeId} (n : Nat) (hu : P.underlying t = some (.pointer E)) : (Op.equalIn (n + 1) t (.pointer none) (.pointer none)).run P w = .ok true w := by
  simp only [Op.equalIn, Sem.run_bind, run_underlying hu, Result.andThen_ok, Sem.run_pure, Option.isNone_none]
theorem run_equal_nil0 {w : World} {t E : TypeId} (hu : P.underlying t = some (.pointer E)) : (Op.equal t (.pointer none) (.pointer none)).run P w = .ok true w := run_equalIn_nil0 9999 hu
theorem Pure.ptrEqNil0 {xt yt E : TypeId} (hx : opv e x = some (.pointer none)) (hy : opv e y = some (.pointer none)) (hu : P.underlying xt = some (.pointer E)) : Pure P e ⟨d, .binOp .eql xt x y yt, t, pos, af, gd⟩ (.bool true) := fun ρ w ho => by
  have h1 := ho _ _ hx; have h2 := ho _ _ hy
  simp only [execOp, h1, h2, eqGuard, binOp]
  simp [run_equal_nil0 hu]
theorem Pure.ptrNeNil0 {xt yt E : TypeId} (hx : opv e x = some (.pointer none)) (hy : opv e y = some (.pointer none)) (hu : P.underlying xt = some (.pointer E)) : Pure P e ⟨d, .binOp .neq xt x y yt, t, pos, af, gd⟩ (.bool false) := fun ρ w ho => by
  have h1 := ho _ _ hx; have h2 := ho _ _ hy
  simp only [execOp, h1, h2, eqGuard, binOp]
  simp [run_equal_nil0 hu]
end
section
variable {P : Program} {G : Gp} {e : Env} {A : List HProp}
theorem resV4 {fn : Func} {ds : List Deferred} {r1 r2 r3 r4 : ResultVar} {v1 v2 v3 v4 : Value} (hr : fn.results = #[r1, r2, r3, r4]) (h1 : Rv P G (fn.ntmps, ds) e A r1 v1) (h2 : Rv P G (fn.ntmps, ds) e A r2 v2) (h3 : Rv P G (fn.ntmps, ds) e A r3 v3) (h4 : Rv P G (fn.ntmps, ds) e A r4 v4) : ∀ a w, EnvOk (fn.ntmps, ds) e a → St G A w → (results fn a.tmps).run P w = .ok (.tuple #[v1, v2, v3, v4]) w := fun a w hh s => by
  have e1 := h1 a w hh s; have e2 := h2 a w hh s; have e3 := h3 a w hh s; have e4 := h4 a w hh s
  show ((fn.results.mapM (readRes a.tmps) >>= fun vs => pure (if h : vs.size = 1 then vs[0] else .tuple vs)) : Sem Value).run P w = _
  rw [hr]
  simp [e1, e2, e3, e4]
end
end Go.Proofs.Ytghmmjifmnmbgaa.Csl
