/- Structs: results out of cells, equality, fields, elements. Nothing of a program stands here. -/
import Derived.Test.YtghmmjifmnmbgaaCsl11
import Derived.Laws.StructEq
set_option linter.unusedVariables false
set_option linter.unusedSimpArgs false
namespace Go.Proofs.Ytghmmjifmnmbgaa.Csl
open Go

/-! ### Results that lie in cells -/
def readRes (tmps : Array Value) : ResultVar → Sem Value
  | .tmp t => pure (tmps.getD t undef)
  | .cell a t => do loadVar t (← asAddr (tmps.getD a undef))
def Rv (P : Program) (G : Gp) (n : Nd) (e : Env) (A : List HProp) (r : ResultVar) (v : Value) : Prop := ∀ a w, EnvOk n e a → St G A w → (readRes a.tmps r).run P w = .ok v w
section
variable {P : Program} {G : Gp} {n : Nd} {e : Env} {A A' : List HProp}
theorem Rv.tmp {t : Nat} {v : Value} (h : lk e t = some v) : Rv P G n e A (.tmp t) v := fun a w h1 s => by
  simp only [readRes, getD_lk h1 h]; simp
theorem Rv.cell1 {a : Nat} {t T : TypeId} {b i : Nat} {cs : List Value} {v : Value} (h : lk e a = some (.pointer (some ⟨b, i, none⟩))) (hf : Find (row b T cs) A A') (ha : isAggOf P t = some false) (hc : cs[i]? = some v) : Rv P G n e A (.cell a t) v := fun ac w h1 s => by
  simp only [readRes, getD_lk h1 h, Sem.run_bind, asAddr]
  simp [run_loadVar1 ha (s.find hf).seen hc]
theorem Rv.cellN {a : Nat} {t T : TypeId} {b i m : Nat} {cs us : List Value} (h : lk e a = some (.pointer (some ⟨b, i, none⟩))) (hf : Find (row b T cs) A A') (ha : isAggOf P t = some true) (hn : sizeIs P t = some m) (hl : i + m ≤ cs.length) (hc : (cs.drop i).take m = us) : Rv P G n e A (.cell a t) (.agg us.toArray) := fun ac w h1 s => by
  simp only [readRes, getD_lk h1 h, Sem.run_bind, asAddr]
  simp [run_loadVarN ha hn (s.find hf).seen hl, hc]
theorem resV1 {fn : Func} {ds : List Deferred} {r : ResultVar} {v : Value} (hr : fn.results = #[r]) (h : Rv P G (fn.ntmps, ds) e A r v) : ∀ a w, EnvOk (fn.ntmps, ds) e a → St G A w → (results fn a.tmps).run P w = .ok v w := fun a w h1 s => by
  have e1 := h a w h1 s
  show ((fn.results.mapM (readRes a.tmps) >>= fun vs => pure (if h : vs.size = 1 then vs[0] else .tuple vs)) : Sem Value).run P w = _
  rw [hr]
  simp [e1]
theorem resV2 {fn : Func} {ds : List Deferred} {r1 r2 : ResultVar} {v1 v2 : Value} (hr : fn.results = #[r1, r2]) (h1 : Rv P G (fn.ntmps, ds) e A r1 v1) (h2 : Rv P G (fn.ntmps, ds) e A r2 v2) : ∀ a w, EnvOk (fn.ntmps, ds) e a → St G A w → (results fn a.tmps).run P w = .ok (.tuple #[v1, v2]) w := fun a w hh s => by
  have e1 := h1 a w hh s; have e2 := h2 a w hh s
  show ((fn.results.mapM (readRes a.tmps) >>= fun vs => pure (if h : vs.size = 1 then vs[0] else .tuple vs)) : Sem Value).run P w = _
  rw [hr]
  simp [e1, e2]
theorem resV3 {fn : Func} {ds : List Deferred} {r1 r2 r3 : ResultVar} {v1 v2 v3 : Value} (hr : fn.results = #[r1, r2, r3]) (h1 : Rv P G (fn.ntmps, ds) e A r1 v1) (h2 : Rv P G (fn.ntmps, ds) e A r2 v2) (h3 : Rv P G (fn.ntmps, ds) e A r3 v3) : ∀ a w, EnvOk (fn.ntmps, ds) e a → St G A w → (results fn a.tmps).run P w = .ok (.tuple #[v1, v2, v3]) w := fun a w hh s => by
  have e1 := h1 a w hh s; have e2 := h2 a w hh s; have e3 := h3 a w hh s
  show ((fn.results.mapM (readRes a.tmps) >>= fun vs => pure (if h : vs.size = 1 then vs[0] else .tuple vs)) : Sem Value).run P w = _
  rw [hr]
  simp [e1, e2, e3]
end

/-! ### Structs: parts, equality -/
section
variable {P : Program}
theorem run_part1 {w : World} {t : TypeId} {xs : Array Value} {off : Nat} {v : Value} (ha : isAggOf P t = some false) (h : xs[off]? = some v) : (part t xs off).run P w = .ok v w := by
  simp only [part, Sem.run_bind, run_isAgg ha, Result.andThen_ok]
  simp [h]
theorem run_partN {w : World} {t : TypeId} {xs : Array Value} {off n : Nat} {ys : Array Value} (ha : isAggOf P t = some true) (hn : sizeIs P t = some n) (h : xs.extract off (off + n) = ys) : (part t xs off).run P w = .ok (.agg ys) w := by
  simp only [part, Sem.run_bind, run_isAgg ha, Result.andThen_ok, if_true, run_sizeOf hn]
  simp [h]
/-- That two values of a type are equal is told so. -/
def Eqv (P : Program) (n : Nat) (t : TypeId) (x y : Value) (b : Bool) : Prop := ∀ d w, (Op.equalIn (d + n) t x y).run P w = .ok b w
theorem Eqv.int {t : TypeId} {k : IntKind} {a b : Int} (h : P.underlying t = some (.int k)) : Eqv P 1 t (.int k a) (.int k b) (decide (a = b)) := fun d w => by
  rw [run_equalIn_int w d t k k a b h]; congr 1
theorem Eqv.bool {t : TypeId} {a b : Bool} (h : P.underlying t = some .bool) : Eqv P 1 t (.bool a) (.bool b) (decide (a = b)) := fun d w => by
  rw [run_equalIn_bool' w d t a b h]; cases a <;> cases b <;> rfl
theorem Eqv.string {t : TypeId} {a b : ByteArray} (h : P.underlying t = some .string) : Eqv P 1 t (.string a) (.string b) (decide (a = b)) := fun d w => by
  rw [run_equalIn_string w d t a b h]
  congr 1
  rw [Bool.eq_iff_iff, beq_iff_eq, decide_eq_true_iff, ByteArray.toList_eq, ByteArray.toList_eq]
  constructor
  · intro h; exact ByteArray.ext (Array.ext' h)
  · intro h; rw [h]
theorem Eqv.up {n m : Nat} {t : TypeId} {x y : Value} {b : Bool} (h : Eqv P n t x y b) (hm : n ≤ m) : Eqv P m t x y b := fun d w => by
  have := h (d + (m - n)) w
  rwa [show d + (m - n) + n = d + m from by omega] at this
/-- The fields of two structs, one by one. -/
inductive EqF (P : Program) (n : Nat) (xs ys : Array Value) : List Field → List Bool → Prop
  | nil : EqF P n xs ys [] []
  | cell {f : Field} {fs : List Field} {x y : Value} {b : Bool} {bs : List Bool} (hn : (f.name != "_") = true) (ha : isAggOf P f.type = some false) (hx : xs[f.offset]? = some x) (hy : ys[f.offset]? = some y) (he : Eqv P n f.type x y b) (r : EqF P n xs ys fs bs) : EqF P n xs ys (f :: fs) (b :: bs)
  | agg {f : Field} {fs : List Field} {x y : Array Value} {b : Bool} {bs : List Bool} {m : Nat} (hn : (f.name != "_") = true) (ha : isAggOf P f.type = some true) (hs : sizeIs P f.type = some m) (hx : xs.extract f.offset (f.offset + m) = x) (hy : ys.extract f.offset (f.offset + m) = y) (he : Eqv P n f.type (.agg x) (.agg y) b) (r : EqF P n xs ys fs bs) : EqF P n xs ys (f :: fs) (b :: bs)
theorem EqF.run {n : Nat} {xs ys : Array Value} {fs : List Field} {bs : List Bool} (h : EqF P n xs ys fs bs) : ∀ d w, (Op.eqFields (d + n) xs ys fs).run P w = .ok (bs.all id) w := by
  induction h with
  | nil => intro d w; simp [Op.eqFields]
  | @cell f fs x y b bs hn ha hx hy he r ih =>
    intro d w
    have hn' : f.name ≠ "_" := by simpa using hn
    simp only [Op.eqFields, hn', ne_eq, not_false_eq_true, if_true, Sem.run_bind, run_part1 ha hx, run_part1 ha hy, he d w, Result.andThen_ok]
    cases b <;> simp [ih d w]
  | @agg f fs x y b bs m hn ha hs hx hy he r ih =>
    intro d w
    have hn' : f.name ≠ "_" := by simpa using hn
    simp only [Op.eqFields, hn', ne_eq, not_false_eq_true, if_true, Sem.run_bind, run_partN ha hs hx, run_partN ha hs hy, he d w, Result.andThen_ok]
    cases b <;> simp [ih d w]
theorem Eqv.struct {n : Nat} {t : TypeId} {fs : Array Field} {xs ys : Array Value} {bs : List Bool} {b : Bool} (hu : P.underlying t = some (.struct fs)) (hp : P.stoodInHeld t = false) (h : EqF P n xs ys fs.toList bs) (hb : bs.all id = b) : Eqv P (n + 1) t (.agg xs) (.agg ys) b := fun d w => by
  have hf : P.fieldsOf t = fs := by simp [Program.fieldsOf, hu]
  rw [← Nat.add_assoc, run_equalIn_struct w (d + n) t xs ys (by rw [hf]; exact hu) hp, hf, h.run d w, hb]
theorem Eqv.top {n : Nat} {t : TypeId} {x y : Value} {b : Bool} (h : Eqv P n t x y b) (hn : n ≤ 10000) (w : World) : (Op.equalIn 10000 t x y).run P w = .ok b w := by
  have := h (10000 - n) w
  rwa [show 10000 - n + n = 10000 from by omega] at this
theorem Eqv.equal {n : Nat} {t : TypeId} {x y : Value} {b : Bool} (h : Eqv P n t x y b) (hn : n ≤ 10000) (w : World) : (Op.equal t x y).run P w = .ok b w := by
  have := h.top hn w
  simpa [Op.equal, Op.maxDepth] using this
variable {e : Env} {d : Option Tmp} {t tt : TypeId} {pos : String} {af : Array Edge} {gd : Option (Nat × Bool)} {x y : Operand}
theorem Pure.aeql {xs ys : Array Value} {xt yt : TypeId} {n : Nat} {b : Bool} (hx : opv e x = some (.agg xs)) (hy : opv e y = some (.agg ys)) (hm : P.eqGuardType P.depth xt = false) (he : Eqv P n xt (.agg xs) (.agg ys) b) (hn : n ≤ 10000) : Pure P e ⟨d, .binOp .eql xt x y yt, t, pos, af, gd⟩ (.bool b) := fun ρ w ho => by
  have h1 := ho _ _ hx; have h2 := ho _ _ hy
  simp only [execOp, h1, h2, Sem.run_bind]
  rw [run_eqGuard_agg w .eql xt x y xs ys hm]
  simp only [Result.andThen_ok, run_eql_struct w xt xs ys, he.top hn w]
  rfl
theorem Pure.aneq {xs ys : Array Value} {xt yt : TypeId} {n : Nat} {b : Bool} (hx : opv e x = some (.agg xs)) (hy : opv e y = some (.agg ys)) (hm : P.eqGuardType P.depth xt = false) (he : Eqv P n xt (.agg xs) (.agg ys) b) (hn : n ≤ 10000) : Pure P e ⟨d, .binOp .neq xt x y yt, t, pos, af, gd⟩ (.bool (!b)) := fun ρ w ho => by
  have h1 := ho _ _ hx; have h2 := ho _ _ hy
  simp only [execOp, h1, h2, Sem.run_bind]
  rw [run_eqGuard_agg w .neq xt x y xs ys hm]
  simp only [Result.andThen_ok, run_neq_struct w xt xs ys, he.top hn w]
  rfl
theorem Pure.field1 {xs : Array Value} {fs : Array Field} {f : Field} {i : Nat} {v : Value} (hx : opv e x = some (.agg xs)) (hu : P.underlying t = some (.struct fs)) (hf : fs[i]? = some f) (ha : isAggOf P f.type = some false) (hv : xs[f.offset]? = some v) : Pure P e ⟨d, .field t x i, tt, pos, af, gd⟩ v := fun ρ w ho => by
  have h1 := ho _ _ hx
  simp only [execOp, h1, Instr.field, Sem.run_bind, run_underlying hu, Result.andThen_ok, hf, asAgg]
  simp [run_part1 ha hv]
theorem Pure.fieldN {xs ys : Array Value} {fs : Array Field} {f : Field} {i n : Nat} (hx : opv e x = some (.agg xs)) (hu : P.underlying t = some (.struct fs)) (hf : fs[i]? = some f) (ha : isAggOf P f.type = some true) (hn : sizeIs P f.type = some n) (hv : xs.extract f.offset (f.offset + n) = ys) : Pure P e ⟨d, .field t x i, tt, pos, af, gd⟩ (.agg ys) := fun ρ w ho => by
  have h1 := ho _ _ hx
  simp only [execOp, h1, Instr.field, Sem.run_bind, run_underlying hu, Result.andThen_ok, hf, asAgg]
  simp [run_partN ha hn hv]
end

/-! ### Elements of several cells -/
theorem drop_take_app {pre mid post : List Value} {i n : Nat} (h : i + n ≤ mid.length) : ((pre ++ mid ++ post).drop (pre.length + i)).take n = (mid.drop i).take n := by
  rw [List.append_assoc, ← List.drop_drop, List.drop_left, List.drop_append_of_le_length (by omega), List.take_append_of_le_length (by rw [List.length_drop]; omega)]
theorem elemN_at {α : Type} {f : α → List Value} {sz : Nat} {xs : List α} {x : α} {pre post : List Value} {i j n : Nat} (hl : ∀ x ∈ xs, (f x).length = sz) (h : xs[i]? = some x) (hj : j + n ≤ sz) : ((pre ++ xs.flatMap f ++ post).drop (pre.length + i * sz + j)).take n = ((f x).drop j).take n := by
  have hi : i < xs.length := (List.getElem?_eq_some_iff.1 h).1
  have hlen := flatMap_length hl
  have hm := Nat.mul_le_mul_right sz (show i + 1 ≤ xs.length from hi)
  rw [Nat.add_mul, Nat.one_mul] at hm
  rw [Nat.add_assoc, drop_take_app (by omega)]
  have e1 := flatMap_take hl h
  have e2 : (f x).drop j = ((((xs.flatMap f).drop (i * sz)).take sz).drop j) := by rw [e1]
  rw [e2, List.drop_take, List.drop_drop, List.take_take]
  congr 1; omega
theorem elemN_len {α : Type} {f : α → List Value} {sz : Nat} {xs : List α} {x : α} {pre post : List Value} {i j n : Nat} (hl : ∀ x ∈ xs, (f x).length = sz) (h : xs[i]? = some x) (hj : j + n ≤ sz) : pre.length + i * sz + j + n ≤ (pre ++ xs.flatMap f ++ post).length := by
  have hi : i < xs.length := (List.getElem?_eq_some_iff.1 h).1
  have hlen := flatMap_length hl
  have hm := Nat.mul_le_mul_right sz (show i + 1 ≤ xs.length from hi)
  rw [Nat.add_mul, Nat.one_mul] at hm
  simp only [List.length_append]; omega
theorem flatMap_app {α : Type} (f : α → List Value) (a b : List α) : (a ++ b).flatMap f = a.flatMap f ++ b.flatMap f := List.flatMap_append
end Go.Proofs.Ytghmmjifmnmbgaa.Csl
