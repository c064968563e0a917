/- Keys of maps: texts, numbers, structs. Nothing of a program stands here. -/
import Derived.Test.YtghmmjifmnmbgaaCsl13
set_option linter.unusedVariables false
set_option linter.unusedSimpArgs false
namespace Go.Proofs.Ytghmmjifmnmbgaa.Csl
open Go
section
variable {P : Program}
def Ck (P : Program) (n : Nat) (t : TypeId) (v : Value) : Prop := ∀ d b w, (Instr.checkKey b (d + n) t v).run P w = .ok () w
theorem Ck.int {t : TypeId} {k : IntKind} {v : Value} (h : P.underlying t = some (.int k)) : Ck P 1 t v := fun d b w => by
  simp only [Instr.checkKey, Sem.run_bind, run_underlying h, Result.andThen_ok, Sem.run_pure]
theorem Ck.bool {t : TypeId} {v : Value} (h : P.underlying t = some .bool) : Ck P 1 t v := fun d b w => by
  simp only [Instr.checkKey, Sem.run_bind, run_underlying h, Result.andThen_ok, Sem.run_pure]
theorem Ck.string {t : TypeId} {v : Value} (h : P.underlying t = some .string) : Ck P 1 t v := fun d b w => by
  simp only [Instr.checkKey, Sem.run_bind, run_underlying h, Result.andThen_ok, Sem.run_pure]
theorem Ck.up {n m : Nat} {t : TypeId} {v : Value} (h : Ck P n t v) (hm : n ≤ m) : Ck P m t v := fun d b w => by
  have := h (d + (m - n)) b w
  rwa [show d + (m - n) + n = d + m from by omega] at this
inductive CkF (P : Program) (n : Nat) (xs : Array Value) : List Field → Prop
  | nil : CkF P n xs []
  | cell {f : Field} {fs : List Field} {x : Value} (hn : (f.name != "_") = true) (ha : isAggOf P f.type = some false) (hx : xs[f.offset]? = some x) (he : Ck P n f.type x) (r : CkF P n xs fs) : CkF P n xs (f :: fs)
  | agg {f : Field} {fs : List Field} {x : Array Value} {m : Nat} (hn : (f.name != "_") = true) (ha : isAggOf P f.type = some true) (hs : sizeIs P f.type = some m) (hx : xs.extract f.offset (f.offset + m) = x) (he : Ck P n f.type (.agg x)) (r : CkF P n xs fs) : CkF P n xs (f :: fs)
theorem Ck.struct {n : Nat} {t : TypeId} {fs : Array Field} {xs : Array Value} (hu : P.underlying t = some (.struct fs)) (h : CkF P n xs fs.toList) : Ck P (n + 1) t (.agg xs) := fun d b w => by
  rw [← Nat.add_assoc]
  simp only [Instr.checkKey, Sem.run_bind, run_underlying hu, Result.andThen_ok]
  rw [← Array.forIn_toList]
  generalize fs.toList = l at h
  induction h with
  | nil => simp
  | @cell f fs x hn ha hx he r ih =>
    have hn' : f.name ≠ "_" := by simpa using hn
    simp only [List.forIn_cons, Sem.run_bind, hn', ne_eq, not_false_eq_true, if_true, run_part1 ha hx, he d b w, Result.andThen_ok, Sem.run_pure]
    exact ih
  | @agg f fs x m hn ha hs hx he r ih =>
    have hn' : f.name ≠ "_" := by simpa using hn
    simp only [List.forIn_cons, Sem.run_bind, hn', ne_eq, not_false_eq_true, if_true, run_partN ha hs hx, he d b w, Result.andThen_ok, Sem.run_pure]
    exact ih
theorem bytes_refl (s : ByteArray) : (s == s) = true := by
  rw [beq_toListBytes]; simp
/-- A cell that is a number, a text, a flag. -/
def plainCell : Value → Bool
  | .int _ _ => true
  | .string _ => true
  | .bool _ => true
  | _ => false
theorem sameBits_cell {n : Nat} {v : Value} (h : plainCell v = true) : Instr.sameBits n v v = true := by
  cases v <;> simp [plainCell] at h <;> simp [Instr.sameBits, bytes_refl]
theorem sameBits_agg {n : Nat} {xs : List Value} (h : ∀ v ∈ xs, plainCell v = true) : Instr.sameBits (n + 1) (.agg xs.toArray) (.agg xs.toArray) = true := by
  simp only [Instr.sameBits, beq_self_eq_true, Bool.true_and, List.all_eq_true]
  intro p hp
  have : p.1 = p.2 ∧ p.1 ∈ xs := by
    have hp' : p ∈ xs.zip xs := by simpa using hp
    obtain ⟨i, hi⟩ := List.getElem?_of_mem hp'
    rw [List.getElem?_zip_eq_some] at hi
    exact ⟨Option.some.inj (hi.1.symm.trans hi.2), List.mem_of_getElem? hi.1⟩
  rw [← this.1]
  exact sameBits_cell (h _ this.2)
theorem KeyT.string {t : TypeId} (h : P.underlying t = some .string) : KeyT P t Value.string where
  eq := fun a b w => (Eqv.string h).equal (by decide) w
  ok := fun a b w => Ck.string h 9999 b w
  bits := fun a => sameBits_cell rfl
  und := ⟨_, h⟩
theorem KeyT.int {t : TypeId} {k : IntKind} (h : P.underlying t = some (.int k)) : KeyT P t (Value.int k) where
  eq := fun a b w => (Eqv.int h).equal (by decide) w
  ok := fun a b w => Ck.int h 9999 b w
  bits := fun a => sameBits_cell rfl
  und := ⟨_, h⟩
theorem KeyT.struct {t : TypeId} {K : Type} [DecidableEq K] {f : K → List Value} {fs : Array Field} {n m : Nat} (hu : P.underlying t = some (.struct fs)) (he : ∀ a b, Eqv P n t (.agg (f a).toArray) (.agg (f b).toArray) (decide (a = b))) (hn : n ≤ 10000) (hc : ∀ a, Ck P m t (.agg (f a).toArray)) (hm : m ≤ 10000) (hp : ∀ a, ∀ v ∈ f a, plainCell v = true) : KeyT P t (fun k => .agg (f k).toArray) where
  eq := fun a b w => (he a b).equal hn w
  ok := fun a b w => by
    have := hc a (10000 - m) b w
    rwa [show 10000 - m + m = 10000 from by omega] at this
  bits := fun a => sameBits_agg (hp a)
  und := ⟨_, hu⟩
end
end Go.Proofs.Ytghmmjifmnmbgaa.Csl
