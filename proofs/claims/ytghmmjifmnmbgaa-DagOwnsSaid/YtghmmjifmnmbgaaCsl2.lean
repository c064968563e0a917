/- The walk over symbolic frames and states: one rule an operation. Nothing of a program stands here. -/
import Derived.Test.YtghmmjifmnmbgaaCsl
import Derived.Laws.Bits
import Derived.WalkKit
set_option linter.unusedVariables false
set_option linter.unusedSimpArgs false
namespace Go.Proofs.Ytghmmjifmnmbgaa.Csl
open Go

/-! Short names for what the scripts rewrite with. -/
theorem ZA {p : Prop} [Decidable p] : (decide p = true) = p := decide_eq_true_eq
theorem ZB {p : Prop} [Decidable p] : decide p = false ↔ ¬p := decide_eq_false_iff_not
theorem ZC {α : Type} [BEq α] [LawfulBEq α] {a b : α} : (a == b) = true ↔ a = b := beq_iff_eq
theorem ZD {α : Type} [BEq α] [LawfulBEq α] {a b : α} : (a == b) = false ↔ a ≠ b := beq_eq_false_iff_ne
theorem ZE {α : Type} [BEq α] [LawfulBEq α] {a b : α} : (a != b) = true ↔ a ≠ b := bne_iff_ne
theorem ZF {α : Type} (a b : α) : (a ≠ b) = ¬(a = b) := ne_eq a b
theorem ZG (b : Bool) : ((!b) = true) = (b = false) := Bool.not_eq_true' b
theorem ZH (b : Bool) : ((!b) = false) = (b = true) := Bool.not_eq_false' b
theorem ZI (b : Bool) : (¬(b = true)) = (b = false) := Bool.not_eq_true b
theorem ZJ (b : Bool) : (¬(b = false)) = (b = true) := Bool.not_eq_false b
theorem ZK {a b : Int} : ¬a < b ↔ b ≤ a := Int.not_lt
theorem ZL {a b : Int} : ¬a ≤ b ↔ b < a := Int.not_le
theorem ZM {p : Prop} [Decidable p] : ¬¬p ↔ p := Decidable.not_not
theorem ZN {α : Type} [BEq α] [LawfulBEq α] {a b : α} : (a != b) = false ↔ a = b := bne_eq_false_iff_eq
theorem ZO {α : Type} [LT α] {a b : α} : a > b ↔ b < a := gt_iff_lt
theorem ZP {α : Type} [LE α] {a b : α} : a ≥ b ↔ b ≤ a := ge_iff_le
theorem ZQ (a b : Bool) : ((a || b) = true) = (a = true ∨ b = true) := Bool.or_eq_true a b
theorem ZR (a b : Bool) : ((a && b) = true) = (a = true ∧ b = true) := Bool.and_eq_true a b
theorem blt_lt {a b : Nat} (h : Nat.blt a b = true) : a < b := Nat.le_of_ble_eq_true h
abbrev Env := List (Nat × Value)
def lk : Env → Nat → Option Value
  | [], _ => none
  | (i, v) :: e, n => match Nat.beq i n with | true => some v | false => lk e n
def opv (e : Env) : Operand → Option Value
  | .tmp t => lk e t
  | .const v => some v
  | .global g => some (.pointer (some ⟨g, 0, none⟩))
  | .func f => some (.func (.func f) #[] #[])
def opvs (e : Env) : List Operand → Option (List Value)
  | [] => some []
  | x :: xs => match opv e x with
    | some v => match opvs e xs with
      | some vs => some (v :: vs)
      | none => none
    | none => none
abbrev Nd := Nat × List Deferred
def EnvOk (n : Nd) (e : Env) (a : Act) : Prop := a.defers = n.2 ∧ a.tmps.size = n.1 ∧ ∀ i v, lk e i = some v → a.tmps[i]? = some v

theorem EnvOk.opv {n : Nd} {e : Env} {a : Act} {x : Operand} {v : Value} (h : EnvOk n e a) (o : opv e x = some v) : a.eval x = v := by
  cases x with
  | tmp t => simp only [Csl.opv] at o; have := h.2.2 t v o; simp [Act.eval, Array.getD_eq_getD_getElem?, this]
  | const v' => simp only [Csl.opv] at o; cases o; rfl
  | global g => simp only [Csl.opv] at o; cases o; rfl
  | func f => simp only [Csl.opv] at o; cases o; rfl
theorem EnvOk.opvs {n : Nd} {e : Env} {a : Act} (h : EnvOk n e a) : ∀ {xs : List Operand} {vs : List Value}, opvs e xs = some vs → xs.map a.eval = vs
  | [], vs, o => by simp only [Csl.opvs] at o; cases o; rfl
  | x :: xs, vs, o => by
    simp only [Csl.opvs] at o
    split at o
    · rename_i v hv
      split at o
      · rename_i vs' hvs; cases o; simp [h.opv hv, h.opvs hvs]
      · cases o
    · cases o
theorem EnvOk.put {n : Nd} {e : Env} {a : Act} {d : Nat} {v : Value} (h : EnvOk n e a) (hd : d < n.1) : EnvOk n ((d, v) :: e) (a.put (some d) v) := by
  refine ⟨h.1, by simp [Act.put, h.2.1], fun i u hi => ?_⟩
  simp only [lk] at hi
  split at hi
  · rename_i hb
    have hb : d = i := Nat.eq_of_beq_eq_true hb
    cases hi; subst hb
    simp [Act.put, Array.getElem?_setIfInBounds, h.2.1, hd]
  · rename_i hb
    have hb : d ≠ i := fun c => by subst c; simp at hb
    simp only [Act.put, Array.getElem?_setIfInBounds, hb, if_false]
    exact h.2.2 i u hi
theorem EnvOk.sub {n : Nd} {e e' : Env} {a : Act} (h : EnvOk n e a) (s : ∀ i v, lk e' i = some v → lk e i = some v) : EnvOk n e' a :=
  ⟨h.1, h.2.1, fun i v hi => h.2.2 i v (s i v hi)⟩

/-- A part of a frame: 'is' are the slots that are kept. -/
inductive Keep (e : Env) : List Nat → Env → Prop
  | nil : Keep e [] []
  | cons {i : Nat} {is : List Nat} {v : Value} {e' : Env} (h : lk e i = some v) (k : Keep e is e') : Keep e (i :: is) ((i, v) :: e')
theorem Keep.sub {e e' : Env} {is : List Nat} (k : Keep e is e') : ∀ i v, lk e' i = some v → lk e i = some v := by
  induction k with
  | nil => intro i v h; simp [lk] at h
  | @cons j js u e' hj k ih =>
    intro i v h
    simp only [lk] at h
    split at h
    · rename_i hb; have hb := Nat.eq_of_beq_eq_true hb; cases h; subst hb; exact hj
    · exact ih i v h

structure Cx where
  P : Program
  f : FuncId
  fn : Func
  R : Ending → World → Prop
  ds : List Deferred
abbrev Cx.nd (c : Cx) : Nd := (c.fn.ntmps, c.ds)

def Run (c : Cx) (G : Gp) (k : List Item) (e : Env) (A : List HProp) : Prop :=
  ∀ a w, EnvOk c.nd e a → St G A w → Ok c.P c.f c.R k a w
abbrev KT := Act → World → Prop
def RunL (c : Cx) (G : Gp) (ops : Array Oper) (l : List Oper) (k : KT) (e : Env) (A : List HProp) : Prop :=
  ∀ a w, EnvOk c.nd e a → St G A w → wpList c.P ops (QOk c.P c.f c.fn c.ds c.R k) l a w

section
variable {c : Cx} {G : Gp} {k : List Item} {e : Env} {A : List HProp}
theorem Run.seq {x y : Code} (r : Run c G (.code x :: .code y :: k) e A) : Run c G (.code (.seq x y) :: k) e A := fun a w h s => (r a w h s).seq
theorem Run.skip (r : Run c G k e A) : Run c G (.code .skip :: k) e A := fun a w h s => (r a w h s).skip
theorem Run.label {l : Nat} (r : Run c G k e A) : Run c G (.code (.label l) :: k) e A := fun a w h s => (r a w h s).label
theorem Run.inBlock {i : Nat} (r : Run c G k e A) : Run c G (.inBlock i :: k) e A := fun a w h s => (r a w h s).inBlock
theorem Run.block {i : Nat} {x : Code} (r : Run c G (.code x :: .inBlock i :: k) e A) : Run c G (.code (.block i x) :: k) e A := fun a w h s => (r a w h s).block
theorem Run.loop0 {x : Code} (r : Run c G (.code x :: .inLoop x :: k) e A) : Run c G (.code (.loop x) :: k) e A := fun a w h s => (r a w h s).loop
theorem Run.inLoop {x : Code} (r : Run c G (.code x :: .inLoop x :: k) e A) : Run c G (.inLoop x :: k) e A := fun a w h s => (r a w h s).inLoop
theorem Run.exit {i : Nat} {k' : List Item} (h : exitTo i k = some k') (r : Run c G k' e A) : Run c G (.code (.exit i) :: k) e A := fun a w ho s => (r a w ho s).exit h
theorem Run.goto {i : Nat} {k' : List Item} (h : gotoIn i k = some k') (r : Run c G k' e A) : Run c G (.code (.goto i) :: k) e A := fun a w ho s => (r a w ho s).goto h
theorem Run.cond {x : Operand} {y z : Code} {b : Bool} (h : opv e x = some (.bool b)) (ht : b = true → Run c G (.code y :: k) e A) (hf : b = false → Run c G (.code z :: k) e A) :
    Run c G (.code (.cond x y z) :: k) e A := fun a w ho s => by
  refine Ok.cond (ho.opv h) ?_
  cases b
  · exact hf rfl a w ho s
  · exact ht rfl a w ho s
theorem Run.condT {x : Operand} {y z : Code} (h : opv e x = some (.bool true)) (r : Run c G (.code y :: k) e A) : Run c G (.code (.cond x y z) :: k) e A :=
  Run.cond h (fun _ => r) (fun h => by cases h)
theorem Run.condF {x : Operand} {y z : Code} (h : opv e x = some (.bool false)) (r : Run c G (.code z :: k) e A) : Run c G (.code (.cond x y z) :: k) e A :=
  Run.cond h (fun h => by cases h) (fun _ => r)
theorem Run.region {id : Nat} {l : List Oper} (r : RunL c G l.toArray l (Ok c.P c.f c.R k) e A) : Run c G (.code (.region id l.toArray false) :: k) e A :=
  fun a w h s => Ok.region (fn := c.fn) (ds := c.ds) (r a w h s)
theorem RunL.nil {ops : Array Oper} (r : Run c G k e A) : RunL c G ops [] (Ok c.P c.f c.R k) e A := fun a w h s => r a w h s
/-- The frame and the atoms: fewer, or in another row. -/
theorem Run.keep {is : List Nat} {e' : Env} (ke : Keep e is e') (r : Run c G k e' A) : Run c G k e A := fun a w h s => r a w (h.sub ke.sub) s
theorem Run.perm {A' : List HProp} (p : A.Perm A') (r : Run c G k e A') : Run c G k e A := fun a w h s => r a w h (s.perm p)
theorem Run.take {ps F : List HProp} (t : Take ps A F) (r : Run c G k e (ps ++ F)) : Run c G k e A := r.perm t.perm
theorem RunL.take {k : KT} {ops : Array Oper} {l : List Oper} {ps F : List HProp} (t : Take ps A F) (r : RunL c G ops l k e (ps ++ F)) : RunL c G ops l k e A := fun a w h s => r a w h (s.perm t.perm)
/-- What the state tells may be used. -/
theorem Run.open' (h : ∀ w, St G A w → Run c G k e A) : Run c G k e A := fun a w ho s => h w s a w ho s
theorem RunL.open' {k : KT} {ops : Array Oper} {l : List Oper} (h : ∀ w, St G A w → RunL c G ops l k e A) : RunL c G ops l k e A := fun a w ho s => h w s a w ho s
theorem Run.conv {A' : List HProp} (h : ∀ w, St G A w → St G A' w) (r : Run c G k e A') : Run c G k e A := fun a w ho s => r a w ho (h w s)
theorem RunL.conv {k : KT} {ops : Array Oper} {l : List Oper} {A' : List HProp} (h : ∀ w, St G A w → St G A' w) (r : RunL c G ops l k e A') : RunL c G ops l k e A := fun a w ho s => r a w ho (h w s)
theorem Run.convX {X : Type} {A' : X → List HProp} (h : ∀ w, St G A w → ∃ x, St G (A' x) w) (r : ∀ x, Run c G k e (A' x)) : Run c G k e A :=
  fun a w ho s => by obtain ⟨x, s'⟩ := h w s; exact r x a w ho s'
theorem RunL.convX {k : KT} {ops : Array Oper} {l : List Oper} {X : Type} {A' : X → List HProp} (h : ∀ w, St G A w → ∃ x, St G (A' x) w) (r : ∀ x, RunL c G ops l k e (A' x)) : RunL c G ops l k e A :=
  fun a w ho s => by obtain ⟨x, s'⟩ := h w s; exact r x a w ho s'
/-- A loop by an invariant over 'X' and a measure. -/
theorem Run.loop {x : Code} {X : Type} (E : X → Env) (B : X → List HProp) (μ : X → Nat) (x0 : X)
    (h0 : ∀ r : Run c G (.code (.loop x) :: k) (E x0) (B x0), Run c G (.code (.loop x) :: k) e A)
    (round : ∀ x1, (∀ x2, μ x2 < μ x1 → Run c G (.inLoop x :: k) (E x2) (B x2)) → Run c G (.code x :: .inLoop x :: k) (E x1) (B x1)) :
    Run c G (.code (.loop x) :: k) e A := by
  have key : ∀ n x1, μ x1 = n → Run c G (.code x :: .inLoop x :: k) (E x1) (B x1) := by
    intro n
    induction n using Nat.strongRecOn with
    | _ n ih => intro x1 hn; exact round x1 fun x2 hlt => (ih (μ x2) (hn ▸ hlt) x2 rfl).inLoop
  exact h0 (key _ x0 rfl).loop0
end

/-! ### Operations -/
def Wt (ops : Array Oper) (e : Env) (o : Oper) (b : Bool) : Prop := ∀ n a, EnvOk n e a → Region.wanted o (yielded ops a.tmps) = b
theorem Wt.none {ops : Array Oper} {e : Env} {o : Oper} (h : o.guard = .none) : Wt ops e o true := fun n a _ => by simp [Region.wanted, h]
theorem Wt.some {ops : Array Oper} {e : Env} {o : Oper} {j d : Nat} {b want : Bool} (h : o.guard = .some (j, want)) (hj : (ops[j]?).bind (·.dst) = .some d) (hv : lk e d = .some (.bool b)) :
    Wt ops e o (b == want) := fun n a ho => by
  have hy : yielded ops a.tmps j = Option.some b := by simp [yielded, hj, ho.2.2 d _ hv]
  simp only [Region.wanted, h, hy]
  cases b <;> cases want <;> rfl
theorem Wt.no {ops : Array Oper} {e : Env} {o : Oper} {j d : Nat} {want : Bool} (h : o.guard = .some (j, want)) (hj : (ops[j]?).bind (·.dst) = .some d) (hv : lk e d = .some (.bool (!want))) :
    Wt ops e o false := by have := Wt.some h hj hv; cases want <;> simpa using this
theorem Wt.yes {ops : Array Oper} {e : Env} {o : Oper} {j d : Nat} {want : Bool} (h : o.guard = .some (j, want)) (hj : (ops[j]?).bind (·.dst) = .some d) (hv : lk e d = .some (.bool want)) :
    Wt ops e o true := by have := Wt.some h hj hv; simpa using this

section
variable {c : Cx} {G : Gp} {ops : Array Oper} {k : KT} {e : Env} {A : List HProp} {o : Oper} {l : List Oper}
/-- The general rule of an operation that tells a value. -/
theorem RunL.val {d : Nat} {X : Type} {v : X → Value} {A' : X → List HProp} (hw : Wt ops e o true) (hd : o.dst = some d) (hlt : Nat.blt d c.fn.ntmps = true)
    (hx : ∀ a w, EnvOk c.nd e a → St G A w → ∃ x w', (execOp a.eval o).run c.P w = .ok (.value (v x)) w' ∧ St G (A' x) w')
    (next : ∀ x, RunL c G ops l k ((d, v x) :: e) (A' x)) : RunL c G ops (o :: l) k e A := by
  intro a w h s
  obtain ⟨x, w', hr, s'⟩ := hx a w h s
  unfold wpList
  rw [if_pos (hw _ a h)]
  refine .inl ?_
  unfold Oper.wp
  rw [hr, Oper.upon_value, hd]
  exact next x _ _ (h.put (blt_lt hlt)) s'
theorem RunL.unit {A' : List HProp} (hw : Wt ops e o true) (hd : o.dst = none)
    (hx : ∀ a w, EnvOk c.nd e a → St G A w → ∃ w', (execOp a.eval o).run c.P w = .ok .skip w' ∧ St G A' w')
    (next : RunL c G ops l k e A') : RunL c G ops (o :: l) k e A := by
  intro a w h s
  obtain ⟨w', hr, s'⟩ := hx a w h s
  unfold wpList
  rw [if_pos (hw _ a h)]
  refine .inl ?_
  unfold Oper.wp
  rw [hr, Oper.upon_skip, hd]
  exact next _ _ h s'
theorem RunL.not {d : Nat} (hw : Wt ops e o false) (hd : o.dst = some d) (hlt : Nat.blt d c.fn.ntmps = true) (next : RunL c G ops l k ((d, undef) :: e) A) : RunL c G ops (o :: l) k e A := by
  intro a w h s
  unfold wpList
  rw [hw _ a h, hd]
  exact next _ _ (h.put (blt_lt hlt)) s
theorem RunL.not0 (hw : Wt ops e o false) (hd : o.dst = none) (next : RunL c G ops l k e A) : RunL c G ops (o :: l) k e A := by
  intro a w h s
  unfold wpList
  rw [hw _ a h, hd]
  exact next _ _ h s
/-- A guard that is not decided: both ways. -/
theorem RunL.split {d : Nat} {b : Bool} (hv : lk e d = some (.bool b)) (ht : b = true → RunL c G ops l k ((d, .bool true) :: e) A) (hf : b = false → RunL c G ops l k ((d, .bool false) :: e) A) :
    RunL c G ops l k e A := by
  have sub : ∀ u, b = u → ∀ i v, lk ((d, .bool u) :: e) i = some v → lk e i = some v := by
    intro u hu i v h
    simp only [lk] at h
    split at h
    · rename_i hb; have hb := Nat.eq_of_beq_eq_true hb; cases h; subst hb; subst hu; exact hv
    · exact h
  intro a w h s
  cases b
  · exact hf rfl a w (h.sub (sub _ rfl)) s
  · exact ht rfl a w (h.sub (sub _ rfl)) s

/-- What an operation tells, whatever the world: no memory is touched. -/
def Ev (e : Env) (ρ : Operand → Value) : Prop := ∀ x v, opv e x = some v → ρ x = v
def Pure (P : Program) (e : Env) (o : Oper) (v : Value) : Prop := ∀ ρ w, Ev e ρ → (execOp ρ o).run P w = .ok (.value v) w
theorem EnvOk.ev {n : Nd} {a : Act} (h : EnvOk n e a) : Ev e a.eval := fun _ _ o => h.opv o
theorem RunL.pure {d : Nat} {v : Value} (hp : Pure c.P e o v) (hw : Wt ops e o true) (hd : o.dst = some d) (hlt : Nat.blt d c.fn.ntmps = true) (next : RunL c G ops l k ((d, v) :: e) A) :
    RunL c G ops (o :: l) k e A :=
  RunL.val (X := Unit) (v := fun _ => v) (A' := fun _ => A) hw hd hlt (fun a w h s => ⟨(), w, hp _ w h.ev, s⟩) (fun _ => next)
theorem Ev.opvs {ρ : Operand → Value} (h : Ev e ρ) : ∀ {xs : List Operand} {vs : List Value}, Csl.opvs e xs = some vs → xs.map ρ = vs
  | [], vs, o => by simp only [Csl.opvs] at o; cases o; rfl
  | x :: xs, vs, o => by
    simp only [Csl.opvs] at o
    split at o
    · rename_i v hv
      split at o
      · rename_i vs' hvs; cases o; simp [h _ _ hv, h.opvs hvs]
      · cases o
    · cases o
end

theorem wrap_i64 {n : Int} (h1 : -9223372036854775808 ≤ n) (h2 : n ≤ 9223372036854775807) : IntKind.i64.wrap n = n := IntWalk.i64_in n ⟨h1, h2⟩
theorem wrap_u8 {n : Int} (h1 : 0 ≤ n) (h2 : n ≤ 255) : IntKind.u8.wrap n = n := IntWalk.u8_in n ⟨h1, h2⟩
theorem wrap_i32 {n : Int} (h1 : -2147483648 ≤ n) (h2 : n ≤ 2147483647) : IntKind.i32.wrap n = n := IntWalk.i32_in n ⟨h1, h2⟩
section
variable {P : Program} {e : Env} {d : Option Tmp} {t : TypeId} {pos : String} {af : Array Edge} {gd : Option (Nat × Bool)} {x y : Operand}
theorem Pure.move {v : Value} (h : opv e x = some v) : Pure P e ⟨d, .move x, t, pos, af, gd⟩ v := fun ρ w ho => by simp [execOp, ho _ _ h]
theorem Pure.assign {v : Value} (h : opv e x = some v) : Pure P e ⟨d, .assign x, t, pos, af, gd⟩ v := fun ρ w ho => by simp [execOp, ho _ _ h]
theorem Pure.pickT {p q : Operand} {v : Value} (h : opv e x = some (.bool true)) (hv : opv e p = some v) : Pure P e ⟨d, .pick x p q, t, pos, af, gd⟩ v := fun ρ w ho => by simp [execOp, ho _ _ h, ho _ _ hv, asBool, go_sem]
theorem Pure.pickF {p q : Operand} {v : Value} (h : opv e x = some (.bool false)) (hv : opv e q = some v) : Pure P e ⟨d, .pick x p q, t, pos, af, gd⟩ v := fun ρ w ho => by simp [execOp, ho _ _ h, ho _ _ hv, asBool, go_sem]
theorem Pure.nilCheck {ad : Addr} (h : opv e x = some (.pointer (some ad))) : Pure P e ⟨d, .nilCheck x, t, pos, af, gd⟩ (.pointer (some ad)) := fun ρ w ho => by simp [execOp, ho _ _ h, go_sem]

section arith
variable {k : IntKind} {a b : Int} {xt yt : TypeId}
theorem Pure.add (hx : opv e x = some (.int k a)) (hy : opv e y = some (.int k b)) : Pure P e ⟨d, .binOp .add xt x y yt, t, pos, af, gd⟩ (.int k (k.wrap (a + b))) := fun ρ w ho => by
  have h1 := ho _ _ hx; have h2 := ho _ _ hy
  simp [execOp, h1, h2, eqGuard, binOp, Op.intArith]
theorem Pure.addI {a b : Int} (hx : opv e x = some (.int .i64 a)) (hy : opv e y = some (.int .i64 b)) (h : -9223372036854775808 ≤ (a + b) ∧ (a + b) ≤ 9223372036854775807) : Pure P e ⟨d, .binOp .add xt x y yt, t, pos, af, gd⟩ (.int .i64 (a + b)) := by
  have := Pure.add (P := P) (d := d) (t := t) (pos := pos) (af := af) (gd := gd) (xt := xt) (yt := yt) hx hy
  rw [wrap_i64 h.1 h.2] at this; exact this
theorem Pure.sub (hx : opv e x = some (.int k a)) (hy : opv e y = some (.int k b)) : Pure P e ⟨d, .binOp .sub xt x y yt, t, pos, af, gd⟩ (.int k (k.wrap (a - b))) := fun ρ w ho => by
  have h1 := ho _ _ hx; have h2 := ho _ _ hy
  simp [execOp, h1, h2, eqGuard, binOp, Op.intArith]
theorem Pure.subI {a b : Int} (hx : opv e x = some (.int .i64 a)) (hy : opv e y = some (.int .i64 b)) (h : -9223372036854775808 ≤ (a - b) ∧ (a - b) ≤ 9223372036854775807) : Pure P e ⟨d, .binOp .sub xt x y yt, t, pos, af, gd⟩ (.int .i64 (a - b)) := by
  have := Pure.sub (P := P) (d := d) (t := t) (pos := pos) (af := af) (gd := gd) (xt := xt) (yt := yt) hx hy
  rw [wrap_i64 h.1 h.2] at this; exact this
theorem Pure.mul (hx : opv e x = some (.int k a)) (hy : opv e y = some (.int k b)) : Pure P e ⟨d, .binOp .mul xt x y yt, t, pos, af, gd⟩ (.int k (k.wrap (a * b))) := fun ρ w ho => by
  have h1 := ho _ _ hx; have h2 := ho _ _ hy
  simp [execOp, h1, h2, eqGuard, binOp, Op.intArith]
theorem Pure.mulI {a b : Int} (hx : opv e x = some (.int .i64 a)) (hy : opv e y = some (.int .i64 b)) (h : -9223372036854775808 ≤ (a * b) ∧ (a * b) ≤ 9223372036854775807) : Pure P e ⟨d, .binOp .mul xt x y yt, t, pos, af, gd⟩ (.int .i64 (a * b)) := by
  have := Pure.mul (P := P) (d := d) (t := t) (pos := pos) (af := af) (gd := gd) (xt := xt) (yt := yt) hx hy
  rw [wrap_i64 h.1 h.2] at this; exact this
theorem Pure.eql (hx : opv e x = some (.int k a)) (hy : opv e y = some (.int k b)) : Pure P e ⟨d, .binOp .eql xt x y yt, t, pos, af, gd⟩ (.bool (a == b)) := fun ρ w ho => by
  have h1 := ho _ _ hx; have h2 := ho _ _ hy
  simp [execOp, h1, h2, eqGuard, binOp, Op.intCmp]
theorem Pure.neq (hx : opv e x = some (.int k a)) (hy : opv e y = some (.int k b)) : Pure P e ⟨d, .binOp .neq xt x y yt, t, pos, af, gd⟩ (.bool (a != b)) := fun ρ w ho => by
  have h1 := ho _ _ hx; have h2 := ho _ _ hy
  simp [execOp, h1, h2, eqGuard, binOp, Op.intCmp]
theorem Pure.lss (hx : opv e x = some (.int k a)) (hy : opv e y = some (.int k b)) : Pure P e ⟨d, .binOp .lss xt x y yt, t, pos, af, gd⟩ (.bool (decide (a < b))) := fun ρ w ho => by
  have h1 := ho _ _ hx; have h2 := ho _ _ hy
  simp [execOp, h1, h2, eqGuard, binOp, Op.intCmp]
theorem Pure.leq (hx : opv e x = some (.int k a)) (hy : opv e y = some (.int k b)) : Pure P e ⟨d, .binOp .leq xt x y yt, t, pos, af, gd⟩ (.bool (decide (a ≤ b))) := fun ρ w ho => by
  have h1 := ho _ _ hx; have h2 := ho _ _ hy
  simp [execOp, h1, h2, eqGuard, binOp, Op.intCmp]
theorem Pure.gtr (hx : opv e x = some (.int k a)) (hy : opv e y = some (.int k b)) : Pure P e ⟨d, .binOp .gtr xt x y yt, t, pos, af, gd⟩ (.bool (decide (a > b))) := fun ρ w ho => by
  have h1 := ho _ _ hx; have h2 := ho _ _ hy
  simp [execOp, h1, h2, eqGuard, binOp, Op.intCmp]
theorem Pure.geq (hx : opv e x = some (.int k a)) (hy : opv e y = some (.int k b)) : Pure P e ⟨d, .binOp .geq xt x y yt, t, pos, af, gd⟩ (.bool (decide (a ≥ b))) := fun ρ w ho => by
  have h1 := ho _ _ hx; have h2 := ho _ _ hy
  simp [execOp, h1, h2, eqGuard, binOp, Op.intCmp]
theorem Pure.rem (hx : opv e x = some (.int k a)) (hy : opv e y = some (.int k b)) (hb : b ≠ 0) : Pure P e ⟨d, .binOp .rem xt x y yt, t, pos, af, gd⟩ (.int k (a.tmod b)) := fun ρ w ho => by
  have h1 := ho _ _ hx; have h2 := ho _ _ hy
  simp [execOp, h1, h2, eqGuard, binOp, Op.intDiv, hb]
theorem Pure.remI (hx : opv e x = some (.int k a)) (hy : opv e y = some (.int k b)) (hb : 0 < b) (ha : 0 ≤ a) : Pure P e ⟨d, .binOp .rem xt x y yt, t, pos, af, gd⟩ (.int k (a % b)) := by
  have := Pure.rem (P := P) (d := d) (t := t) (pos := pos) (af := af) (gd := gd) (xt := xt) (yt := yt) hx hy (by omega)
  rw [Int.tmod_eq_emod_of_nonneg ha] at this; exact this
theorem Pure.quo (hx : opv e x = some (.int k a)) (hy : opv e y = some (.int k b)) (hb : b ≠ 0) : Pure P e ⟨d, .binOp .quo xt x y yt, t, pos, af, gd⟩ (.int k (k.wrap (a.tdiv b))) := fun ρ w ho => by
  have h1 := ho _ _ hx; have h2 := ho _ _ hy
  simp [execOp, h1, h2, eqGuard, binOp, Op.intDiv, hb]
theorem Pure.quoI {a b : Int} (hx : opv e x = some (.int .i64 a)) (hy : opv e y = some (.int .i64 b)) (hb : 0 < b) (ha : 0 ≤ a) (hm : a ≤ 9223372036854775807) : Pure P e ⟨d, .binOp .quo xt x y yt, t, pos, af, gd⟩ (.int .i64 (a / b)) := by
  have := Pure.quo (P := P) (d := d) (t := t) (pos := pos) (af := af) (gd := gd) (xt := xt) (yt := yt) hx hy (by omega)
  have h0 : 0 ≤ a / b := Int.ediv_nonneg ha (by omega)
  have h1 : a / b ≤ a := Int.ediv_le_self b ha
  rw [Int.tdiv_eq_ediv_of_nonneg ha, wrap_i64 (by omega) (by omega)] at this; exact this
theorem Pure.xor (hx : opv e x = some (.int k a)) (hy : opv e y = some (.int k b)) : Pure P e ⟨d, .binOp .xor xt x y yt, t, pos, af, gd⟩ (.int k (k.wrap (BitVec.ofInt k.bits a ^^^ BitVec.ofInt k.bits b).toNat)) := fun ρ w ho => by
  have h1 := ho _ _ hx; have h2 := ho _ _ hy
  simp [execOp, h1, h2, eqGuard, binOp, Op.intBits]
theorem Pure.neg (hx : opv e x = some (.int k a)) : Pure P e ⟨d, .unOp .neg xt x, t, pos, af, gd⟩ (.int k (k.wrap (0 - a))) := fun ρ w ho => by
  have h1 := ho _ _ hx
  simp [execOp, h1, Op.unary, Op.intArith]
theorem Pure.negI {a : Int} (hx : opv e x = some (.int .i64 a)) (h : -9223372036854775807 ≤ a ∧ a ≤ 9223372036854775807) : Pure P e ⟨d, .unOp .neg xt x, t, pos, af, gd⟩ (.int .i64 (-a)) := by
  have := Pure.neg (P := P) (d := d) (t := t) (pos := pos) (af := af) (gd := gd) (xt := xt) hx
  rw [wrap_i64 (by omega) (by omega), Int.zero_sub] at this; exact this
theorem Pure.not {b : Bool} (hx : opv e x = some (.bool b)) : Pure P e ⟨d, .unOp .not xt x, t, pos, af, gd⟩ (.bool (!b)) := fun ρ w ho => by
  have h1 := ho _ _ hx
  simp [execOp, h1, Op.unary]
theorem Pure.convInt {st dt : TypeId} {sd : TypeDesc} {k' : IntKind} (hs : P.underlying st = some sd) (hd : P.underlying dt = some (.int k')) (hx : opv e x = some (.int k a)) : Pure P e ⟨d, .convert st dt x, t, pos, af, gd⟩ (.int k' (k'.wrap a)) := fun ρ w ho => by
  have h1 := ho _ _ hx
  simp [execOp, h1, convert, run_underlying hs, run_underlying hd, Conv.intToInt]
theorem Pure.convStr {st dt : TypeId} {sd : TypeDesc} {s : ByteArray} (hs : P.underlying st = some sd) (hd : P.underlying dt = some .string) (hx : opv e x = some (.string s)) : Pure P e ⟨d, .convert st dt x, t, pos, af, gd⟩ (.string s) := fun ρ w ho => by
  have h1 := ho _ _ hx
  simp [execOp, h1, convert, run_underlying hs, run_underlying hd]
theorem Pure.convRune {st dt : TypeId} {sd : TypeDesc} (hs : P.underlying st = some sd) (hd : P.underlying dt = some .string) (hx : opv e x = some (.int k a)) : Pure P e ⟨d, .convert st dt x, t, pos, af, gd⟩ (.string (Utf8.encode a)) := fun ρ w ho => by
  have h1 := ho _ _ hx
  simp [execOp, h1, convert, run_underlying hs, run_underlying hd, Conv.intToString]
end arith

def bl (s : ByteArray) : List UInt8 := s.data.toList
theorem beq_dec (x y : List UInt8) : (x == y) = decide (x = y) := by rw [Bool.eq_iff_iff]; simp
theorem bl_eq (s : ByteArray) : s.toList = bl s := ByteArray.toList_eq s
theorem bl_inj {a b : ByteArray} (h : bl a = bl b) : a = b := by
  cases a; cases b; simp only [bl] at h; congr; exact Array.ext' h
theorem bl_length (s : ByteArray) : (bl s).length = s.size := by simp [bl]
theorem bl_extract {s : ByteArray} {i j : Nat} : bl (s.extract i j) = ((bl s).drop i).take (j - i) := by
  simp [bl, List.take_drop]
theorem bl_extract0 {s : ByteArray} {j : Nat} (h : j ≤ s.size) : bl (s.extract 0 j) = (bl s).take j := by
  rw [bl_extract]; simp
theorem bl_append (a b : ByteArray) : bl (a ++ b) = bl a ++ bl b := by simp [bl]
theorem size_mk (l : List UInt8) : (ByteArray.mk l.toArray).size = l.length := by simp [ByteArray.size]
theorem size_app (a b : ByteArray) : (a ++ b).size = a.size + b.size := by rw [← bl_length, ← bl_length, ← bl_length, bl_append, List.length_append]
theorem bl_mk (l : List UInt8) : bl ⟨l.toArray⟩ = l := rfl
section strs
variable {a b : ByteArray} {xt yt : TypeId}
theorem Pure.seql (hx : opv e x = some (.string a)) (hy : opv e y = some (.string b)) : Pure P e ⟨d, .binOp .eql xt x y yt, t, pos, af, gd⟩ (.bool (decide (bl a = bl b))) := fun ρ w ho => by
  have h1 := ho _ _ hx; have h2 := ho _ _ hy
  simp [execOp, h1, h2, eqGuard, binOp, Op.stringOp, bl_eq, beq_dec]
theorem Pure.sneq (hx : opv e x = some (.string a)) (hy : opv e y = some (.string b)) : Pure P e ⟨d, .binOp .neq xt x y yt, t, pos, af, gd⟩ (.bool (!decide (bl a = bl b))) := fun ρ w ho => by
  have h1 := ho _ _ hx; have h2 := ho _ _ hy
  simp [execOp, h1, h2, eqGuard, binOp, Op.stringOp, bl_eq, beq_dec]
theorem Pure.slss (hx : opv e x = some (.string a)) (hy : opv e y = some (.string b)) : Pure P e ⟨d, .binOp .lss xt x y yt, t, pos, af, gd⟩ (.bool (Op.bytesLess (bl a) (bl b))) := fun ρ w ho => by
  have h1 := ho _ _ hx; have h2 := ho _ _ hy
  simp [execOp, h1, h2, eqGuard, binOp, Op.stringOp, bl_eq, beq_dec]
theorem Pure.sleq (hx : opv e x = some (.string a)) (hy : opv e y = some (.string b)) : Pure P e ⟨d, .binOp .leq xt x y yt, t, pos, af, gd⟩ (.bool (Op.bytesLess (bl a) (bl b) || decide (bl a = bl b))) := fun ρ w ho => by
  have h1 := ho _ _ hx; have h2 := ho _ _ hy
  simp [execOp, h1, h2, eqGuard, binOp, Op.stringOp, bl_eq, beq_dec]
theorem Pure.sgtr (hx : opv e x = some (.string a)) (hy : opv e y = some (.string b)) : Pure P e ⟨d, .binOp .gtr xt x y yt, t, pos, af, gd⟩ (.bool (!(Op.bytesLess (bl a) (bl b) || decide (bl a = bl b)))) := fun ρ w ho => by
  have h1 := ho _ _ hx; have h2 := ho _ _ hy
  simp [execOp, h1, h2, eqGuard, binOp, Op.stringOp, bl_eq, beq_dec]
theorem Pure.sgeq (hx : opv e x = some (.string a)) (hy : opv e y = some (.string b)) : Pure P e ⟨d, .binOp .geq xt x y yt, t, pos, af, gd⟩ (.bool (!(Op.bytesLess (bl a) (bl b)))) := fun ρ w ho => by
  have h1 := ho _ _ hx; have h2 := ho _ _ hy
  simp [execOp, h1, h2, eqGuard, binOp, Op.stringOp, bl_eq, beq_dec]
theorem Pure.sadd (hx : opv e x = some (.string a)) (hy : opv e y = some (.string b)) (h : a.size + b.size ≤ 9223372036854775807) : Pure P e ⟨d, .binOp .add xt x y yt, t, pos, af, gd⟩ (.string (a ++ b)) := fun ρ w ho => by
  have h1 := ho _ _ hx; have h2 := ho _ _ hy
  have hm : ¬ (((a.size + b.size : Nat) : Int) > IntKind.i64.max) := by rw [show IntKind.i64.max = 9223372036854775807 from by decide]; omega
  simp only [execOp, h1, h2, eqGuard, binOp, Op.stringOp]
  simp only [if_neg hm]
  simp
end strs
end
end Go.Proofs.Ytghmmjifmnmbgaa.Csl
