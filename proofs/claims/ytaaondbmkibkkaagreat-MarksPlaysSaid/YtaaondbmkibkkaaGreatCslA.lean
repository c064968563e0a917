/- The framework, in one text. -/
import Derived.Tactics
import Derived.Defers
import Derived.KernelRfl
import Derived.Laws.Bits
import Derived.WalkKit
import Derived.Lib.ConvBytes
import Derived.Orders
import Derived.Below
import Derived.ProofKit
import Derived.OpenShut
import Derived.ChangeSlices
/- A small separation logic over the model's calls: heaplets, states, contracts, and rules that walk a function's text. Nothing of a program stands here. -/
namespace Go.Proofs.YtaaondbmkibkkaaGreat.Csl
open Go

/-! ### Heaplets -/
abbrev Hp := Nat → Option Obj
namespace Hp
def sub (h : Hp) (w : World) : Prop := ∀ b o, h b = some o → w.heap[b]? = some o
def disj (h k : Hp) : Prop := ∀ b, h b = none ∨ k b = none
def join (h k : Hp) : Hp := fun b => match h b with | some o => some o | none => k b
def empty : Hp := fun _ => none
def one (b : Nat) (o : Obj) : Hp := fun c => if c = b then some o else none
theorem one_self (b : Nat) (o : Obj) : one b o b = some o := by simp [one]
theorem one_ne {b c : Nat} (o : Obj) (h : c ≠ b) : one b o c = none := by simp [one, h]
theorem disj_comm {h k : Hp} (d : disj h k) : disj k h := fun b => (d b).symm
theorem join_comm {h k : Hp} (d : disj h k) : join h k = join k h := by
  funext b; unfold join; rcases d b with e | e
  · rw [e]; cases k b <;> rfl
  · rw [e]; cases h b <;> rfl
theorem join_assoc (h k l : Hp) : join (join h k) l = join h (join k l) := by
  funext b; unfold join; cases h b <;> simp
theorem join_empty (h : Hp) : join h empty = h := by funext b; unfold join empty; cases h b <;> rfl
theorem empty_join (h : Hp) : join empty h = h := by funext b; unfold join empty; rfl
theorem disj_empty (h : Hp) : disj h empty := fun _ => .inr rfl
theorem empty_disj (h : Hp) : disj empty h := fun _ => .inl rfl
theorem join_none {h k : Hp} {b : Nat} : join h k b = none ↔ h b = none ∧ k b = none := by
  unfold join; cases h b <;> simp
theorem disj_join {h k l : Hp} : disj h (join k l) ↔ disj h k ∧ disj h l := by
  constructor
  · intro d; exact ⟨fun b => (d b).imp id fun e => (join_none.1 e).1, fun b => (d b).imp id fun e => (join_none.1 e).2⟩
  · rintro ⟨d, e⟩ b
    rcases d b with x | x
    · exact .inl x
    · exact (e b).imp id fun y => join_none.2 ⟨x, y⟩
theorem join_disj {h k l : Hp} : disj (join h k) l ↔ disj h l ∧ disj k l := by
  constructor
  · intro d; have := disj_join.1 (disj_comm d); exact ⟨disj_comm this.1, disj_comm this.2⟩
  · rintro ⟨d, e⟩; exact disj_comm (disj_join.2 ⟨disj_comm d, disj_comm e⟩)
theorem join_left {h k : Hp} {b : Nat} {o : Obj} (e : h b = some o) : join h k b = some o := by unfold join; rw [e]
theorem join_right {h k : Hp} {b : Nat} {o : Obj} (d : disj h k) (e : k b = some o) : join h k b = some o := by
  unfold join; rcases d b with x | x
  · rw [x]; exact e
  · rw [x] at e; cases e
theorem sub_join {h k : Hp} {w : World} (d : disj h k) : (join h k).sub w ↔ h.sub w ∧ k.sub w := by
  constructor
  · intro s; exact ⟨fun b o e => s b o (join_left e), fun b o e => s b o (join_right d e)⟩
  · rintro ⟨s, t⟩ b o e
    unfold join at e; split at e
    · rename_i x hx; cases e; exact s b _ hx
    · exact t b o e
theorem sub_lt {h : Hp} {w : World} {b : Nat} {o : Obj} (s : h.sub w) (e : h b = some o) : b < w.heap.size := by
  have := s b o e
  rcases Nat.lt_or_ge b w.heap.size with x | x
  · exact x
  · rw [Array.getElem?_eq_none x] at this; cases this
end Hp

abbrev HProp := Hp → Prop
def stars : List HProp → HProp
  | [] => fun h => h = Hp.empty
  | P :: l => fun h => ∃ h1 h2, Hp.disj h1 h2 ∧ h = Hp.join h1 h2 ∧ P h1 ∧ stars l h2

theorem stars_append {A B : List HProp} : ∀ {h : Hp}, stars (A ++ B) h ↔ ∃ h1 h2, Hp.disj h1 h2 ∧ h = Hp.join h1 h2 ∧ stars A h1 ∧ stars B h2 := by
  induction A with
  | nil =>
    intro h; constructor
    · intro s; exact ⟨Hp.empty, h, Hp.empty_disj h, (Hp.empty_join h).symm, rfl, s⟩
    · rintro ⟨h1, h2, _, rfl, e, s⟩
      have e' : h1 = Hp.empty := e
      subst e'; rw [Hp.empty_join]; exact s
  | cons P A ih =>
    intro h; constructor
    · rintro ⟨h1, h2, d, rfl, p, s⟩
      obtain ⟨h3, h4, d', rfl, s1, s2⟩ := ih.1 s
      have dd := Hp.disj_join.1 d
      exact ⟨Hp.join h1 h3, h4, Hp.join_disj.2 ⟨dd.2, d'⟩, (Hp.join_assoc _ _ _).symm, ⟨h1, h3, dd.1, rfl, p, s1⟩, s2⟩
    · rintro ⟨h1, h2, d, rfl, ⟨h3, h4, d', rfl, p, s1⟩, s2⟩
      have dd := Hp.join_disj.1 d
      exact ⟨h3, Hp.join h4 h2, Hp.disj_join.2 ⟨d', dd.1⟩, Hp.join_assoc _ _ _, p, ih.2 ⟨h4, h2, dd.2, rfl, s1, s2⟩⟩

theorem stars_swap {P Q : HProp} {A : List HProp} {h : Hp} (s : stars (P :: Q :: A) h) : stars (Q :: P :: A) h := by
  obtain ⟨h1, h2, d, rfl, p, h3, h4, d', rfl, q, s⟩ := s
  have dd := Hp.disj_join.1 d
  refine ⟨h3, Hp.join h1 h4, Hp.disj_join.2 ⟨Hp.disj_comm dd.1, d'⟩, ?_, q, h1, h4, dd.2, rfl, p, s⟩
  rw [← Hp.join_assoc, Hp.join_comm dd.1, Hp.join_assoc]

theorem stars_perm {A B : List HProp} (p : A.Perm B) : ∀ {h : Hp}, stars A h → stars B h := by
  induction p with
  | nil => exact fun s => s
  | cons x _ ih => rintro h ⟨h1, h2, d, e, q, s⟩; exact ⟨h1, h2, d, e, q, ih s⟩
  | swap x y l => exact fun s => stars_swap s
  | trans _ _ ih1 ih2 => exact fun s => ih2 (ih1 s)

/-- What is only read, and what of the world stays besides. -/
structure Gp where
  hp : Hp
  os : Os
  tape : Nat → Question → Nat
  output : Array (Nat × ByteArray)
  dr : Nat
instance : CoeFun Gp (fun _ => Nat → Option Obj) := ⟨Gp.hp⟩
namespace Gp
def join (G : Gp) (K : Hp) : Gp := { G with hp := Hp.join G.hp K }
def sub (G : Gp) (w : World) : Prop := Hp.sub G.hp w ∧ w.os = G.os ∧ w.tape = G.tape ∧ w.output = G.output ∧ G.dr ≤ w.drawn
theorem join_empty (G : Gp) : join G Hp.empty = G := by unfold join; rw [Hp.join_empty]
structure le (G G' : Gp) : Prop where
  at_ : ∀ b o, G.hp b = some o → G'.hp b = some o
  sub : ∀ w, G'.sub w → G.sub w
end Gp
/-- Worlds that part in memory and in draws alone. -/
def Alike3 (w w' : World) : Prop := w'.os = w.os ∧ w'.tape = w.tape ∧ w'.output = w.output ∧ w.drawn ≤ w'.drawn
theorem Alike3.refl (w : World) : Alike3 w w := ⟨rfl, rfl, rfl, Nat.le_refl _⟩
theorem Gp.sub_of {G : Gp} {w w' : World} (e : Alike3 w w') (h : Hp.sub G.hp w') (g : G.sub w) : G.sub w' := ⟨h, e.1.trans g.2.1, e.2.1.trans g.2.2.1, e.2.2.1.trans g.2.2.2.1, Nat.le_trans g.2.2.2.2 e.2.2.2⟩

/-- The state: what is only read (G), and what is owned. -/
def St (G : Gp) (A : List HProp) (w : World) : Prop := ∃ h, G.sub w ∧ h.sub w ∧ Hp.disj G.hp h ∧ stars A h

theorem St.perm {G : Gp} {A B : List HProp} {w : World} (p : A.Perm B) (s : St G A w) : St G B w := by
  obtain ⟨h, g, s, d, a⟩ := s; exact ⟨h, g, s, d, stars_perm p a⟩
theorem St.imp {G : Gp} {P Q : HProp} {A : List HProp} {w : World} (i : ∀ h, P h → Q h) (s : St G (P :: A) w) : St G (Q :: A) w := by
  obtain ⟨h, g, s, d, h1, h2, d', e, p, a⟩ := s; exact ⟨h, g, s, d, h1, h2, d', e, i _ p, a⟩
theorem St.drop {G : Gp} {P : HProp} {A : List HProp} {w : World} (s : St G (P :: A) w) : St G A w := by
  obtain ⟨h, g, s, d, h1, h2, d', rfl, p, a⟩ := s
  exact ⟨h2, g, ((Hp.sub_join d').1 s).2, (Hp.disj_join.1 d).2, a⟩
theorem St.ro {G : Gp} {A : List HProp} {w : World} {b : Nat} {o : Obj} (s : St G A w) (g : G b = some o) : w.heap[b]? = some o := by
  obtain ⟨h, gs, _⟩ := s; exact gs.1 b o g
/-- The world counts only by its blocks. -/
theorem St.same {G : Gp} {A : List HProp} {w w' : World} (e : w'.heap = w.heap) (e3 : Alike3 w w') (s : St G A w) : St G A w' := by
  obtain ⟨h, g, s, r⟩ := s
  exact ⟨h, Gp.sub_of e3 (fun b o x => by rw [e]; exact g.1 b o x) g, fun b o x => by rw [e]; exact s b o x, r⟩

/-- One block, whole. -/
def pt (b : Nat) (o : Obj) : HProp := fun h => h = Hp.one b o
theorem St.pt_at {G : Gp} {A : List HProp} {w : World} {b : Nat} {o : Obj} (s : St G (pt b o :: A) w) : w.heap[b]? = some o := by
  obtain ⟨h, g, s, d, h1, h2, d', rfl, p, a⟩ := s
  have p' : h1 = Hp.one b o := p
  subst p'
  exact s b o (Hp.join_left (Hp.one_self b o))
theorem St.pt_set {G : Gp} {A : List HProp} {w w' : World} {b : Nat} {o o' : Obj} (s : St G (pt b o :: A) w)
    (hb : w'.heap[b]? = some o') (hne : ∀ c, c ≠ b → w'.heap[c]? = w.heap[c]?) (e3 : Alike3 w w') : St G (pt b o' :: A) w' := by
  obtain ⟨h, g, s, d, h1, h2, d', rfl, p, a⟩ := s
  have p' : h1 = Hp.one b o := p
  subst p'
  have ss := (Hp.sub_join d').1 s
  have dd := Hp.disj_join.1 d
  have d1 : Hp.disj G.hp (Hp.one b o') := fun c => by
    by_cases e : c = b
    · subst e; refine .inl ((dd.1 c).resolve_right ?_); rw [Hp.one_self]; simp
    · exact .inr (Hp.one_ne _ e)
  have d2 : Hp.disj (Hp.one b o') h2 := fun c => by
    by_cases e : c = b
    · subst e; refine .inr ((d' c).resolve_left ?_); rw [Hp.one_self]; simp
    · exact .inl (Hp.one_ne _ e)
  refine ⟨Hp.join (Hp.one b o') h2, Gp.sub_of e3 ?_ g, ?_, Hp.disj_join.2 ⟨d1, dd.2⟩, _, h2, d2, rfl, rfl, a⟩
  · intro c x hx
    by_cases e : c = b
    · subst e; rcases d1 c with y | y
      · rw [y] at hx; cases hx
      · rw [Hp.one_self] at y; cases y
    · rw [hne c e]; exact g.1 c x hx
  · refine (Hp.sub_join d2).2 ⟨?_, ?_⟩
    · intro c x hx
      by_cases e : c = b
      · subst e; rw [Hp.one_self] at hx; cases hx; exact hb
      · rw [Hp.one_ne _ e] at hx; cases hx
    · intro c x hx
      by_cases e : c = b
      · subst e; rcases d2 c with y | y
        · rw [Hp.one_self] at y; cases y
        · rw [y] at hx; cases hx
      · rw [hne c e]; exact ss.2 c x hx
theorem St.pt_new {G : Gp} {A : List HProp} {w w' : World} {o : Obj} (s : St G A w)
    (hb : w'.heap[w.heap.size]? = some o) (hne : ∀ c, c < w.heap.size → w'.heap[c]? = w.heap[c]?) (e3 : Alike3 w w') : St G (pt w.heap.size o :: A) w' := by
  obtain ⟨h, g, s, d, a⟩ := s
  have lt : ∀ {k : Hp}, k.sub w → k w.heap.size = none := fun {k} t => by
    cases e : k w.heap.size with
    | none => rfl
    | some x => exact absurd (Hp.sub_lt t e) (Nat.lt_irrefl _)
  have d1 : Hp.disj G.hp (Hp.one w.heap.size o) := fun c => by
    by_cases e : c = w.heap.size
    · subst e; exact .inl (lt g.1)
    · exact .inr (Hp.one_ne _ e)
  have d2 : Hp.disj (Hp.one w.heap.size o) h := fun c => by
    by_cases e : c = w.heap.size
    · subst e; exact .inr (lt s)
    · exact .inl (Hp.one_ne _ e)
  refine ⟨Hp.join (Hp.one w.heap.size o) h, Gp.sub_of e3 ?_ g, ?_, Hp.disj_join.2 ⟨d1, d⟩, _, h, d2, rfl, rfl, a⟩
  · intro c x hx; rw [hne c (Hp.sub_lt g.1 hx)]; exact g.1 c x hx
  · refine (Hp.sub_join d2).2 ⟨?_, fun c x hx => by rw [hne c (Hp.sub_lt s hx)]; exact s c x hx⟩
    intro c x hx
    by_cases e : c = w.heap.size
    · subst e; rw [Hp.one_self] at hx; cases hx; exact hb
    · rw [Hp.one_ne _ e] at hx; cases hx
/-- A block is lent: it is only read for a while. -/
theorem St.lend {G : Gp} {A : List HProp} {w : World} {b : Nat} {o : Obj} (s : St G (pt b o :: A) w) : G b = none ∧ St (Gp.join G (Hp.one b o)) A w := by
  obtain ⟨h, g, s, d, h1, h2, d', rfl, p, a⟩ := s
  have p' : h1 = Hp.one b o := p
  subst p'
  have ss := (Hp.sub_join d').1 s
  have dd := Hp.disj_join.1 d
  refine ⟨(dd.1 b).resolve_right (by rw [Hp.one_self]; simp), h2, ⟨(Hp.sub_join dd.1).2 ⟨g.1, ss.1⟩, g.2⟩, ss.2, Hp.join_disj.2 ⟨dd.2, d'⟩, a⟩
theorem St.back {G : Gp} {A : List HProp} {w : World} {b : Nat} {o : Obj} (n : G b = none) (s : St (Gp.join G (Hp.one b o)) A w) : St G (pt b o :: A) w := by
  obtain ⟨h, g, s, d, a⟩ := s
  have d0 : Hp.disj G.hp (Hp.one b o) := fun c => by
    by_cases e : c = b
    · subst e; exact .inl n
    · exact .inr (Hp.one_ne _ e)
  have gg := (Hp.sub_join d0).1 g.1
  have dd := Hp.join_disj.1 d
  exact ⟨Hp.join (Hp.one b o) h, ⟨gg.1, g.2⟩, (Hp.sub_join dd.2).2 ⟨gg.2, s⟩, Hp.disj_join.2 ⟨d0, dd.1⟩, _, h, dd.2, rfl, rfl, a⟩
theorem St.lt {G : Gp} {A : List HProp} {w : World} {b : Nat} {o : Obj} (s : St G A w) (g : G b = some o) : b < w.heap.size := by
  obtain ⟨h, gs, _⟩ := s; exact Hp.sub_lt gs.1 g

/-! ### Finding atoms -/
inductive Find {α : Type} (p : α) : List α → List α → Prop
  | here (A : List α) : Find p (p :: A) A
  | there {q : α} {A B : List α} (f : Find p A B) : Find p (q :: A) (q :: B)
theorem F0 {α : Type} {p : α} (A : List α) : Find p (p :: A) A := Find.here A
theorem F1 {α : Type} {p q : α} {A B : List α} (f : Find p A B) : Find p (q :: A) (q :: B) := .there f
theorem Find.perm {α : Type} {p : α} {A B : List α} (f : Find p A B) : A.Perm (p :: B) := by
  induction f with
  | here A => exact .refl _
  | there f ih => exact (ih.cons _).trans (.swap _ _ _)
/-- The atoms 'ps' stand among 'A', 'F' is the rest. -/
inductive Take {α : Type} : List α → List α → List α → Prop
  | nil (A : List α) : Take [] A A
  | cons {p : α} {ps A B F : List α} (f : Find p A B) (t : Take ps B F) : Take (p :: ps) A F
theorem Take.perm {α : Type} {ps A F : List α} (t : Take ps A F) : A.Perm (ps ++ F) := by
  induction t with
  | nil A => exact .refl _
  | cons f t ih => exact f.perm.trans (ih.cons _)

/-! ### Walking -/
/-- From the frame 'a' with the stack 'k' the function comes to an end that 'R' lets in. -/
def Ok (P : Program) (f : FuncId) (R : Ending → World → Prop) (k : List Item) (a : Act) (w : World) : Prop :=
  ∀ (b : Frame) (cs : List Frame), b.fn = f → b.kind = .normal →
    ∃ e w' fr, R e w' ∧ Comes P (lone (b.at a k) cs w) (lone fr cs w') e ∧ fr.fn = f ∧ fr.leaving P w' e

section
variable {P : Program} {f : FuncId} {R : Ending → World → Prop} {k : List Item} {a : Act} {w : World}
theorem Ok.steps {k' : List Item} {a' : Act} {w' : World} (h : ∀ (b : Frame) cs, b.fn = f → Steps P (lone (b.at a k) cs w) (lone (b.at a' k') cs w')) (o : Ok P f R k' a' w') : Ok P f R k a w := by
  intro b cs hb hk
  obtain ⟨e, w2, fr, r, c, l⟩ := o b cs hb hk
  exact ⟨e, w2, fr, r, Comes.of_steps (h b cs hb) c, l⟩
theorem Ok.seq {x y : Code} (o : Ok P f R (.code x :: .code y :: k) a w) : Ok P f R (.code (.seq x y) :: k) a w :=
  o.steps fun _ _ _ => .one step_seq
theorem Ok.skip (o : Ok P f R k a w) : Ok P f R (.code .skip :: k) a w := o.steps fun _ _ _ => .one step_skip
theorem Ok.label {l : Nat} (o : Ok P f R k a w) : Ok P f R (.code (.label l) :: k) a w := o.steps fun _ _ _ => .one step_label
theorem Ok.inBlock {i : Nat} (o : Ok P f R k a w) : Ok P f R (.inBlock i :: k) a w := o.steps fun _ _ _ => .one step_inBlock
theorem Ok.block {i : Nat} {c : Code} (o : Ok P f R (.code c :: .inBlock i :: k) a w) : Ok P f R (.code (.block i c) :: k) a w := o.steps fun _ _ _ => .one step_block
theorem Ok.loop {c : Code} (o : Ok P f R (.code c :: .inLoop c :: k) a w) : Ok P f R (.code (.loop c) :: k) a w := o.steps fun _ _ _ => .one step_loop
theorem Ok.inLoop {c : Code} (o : Ok P f R (.code c :: .inLoop c :: k) a w) : Ok P f R (.inLoop c :: k) a w := o.steps fun _ _ _ => .one step_inLoop
theorem Ok.exit {i : Nat} {k' : List Item} (h : exitTo i k = some k') (o : Ok P f R k' a w) : Ok P f R (.code (.exit i) :: k) a w := o.steps fun _ _ _ => .one (step_exit h)
theorem Ok.goto {i : Nat} {k' : List Item} (h : gotoIn i k = some k') (o : Ok P f R k' a w) : Ok P f R (.code (.goto i) :: k) a w := o.steps fun _ _ _ => .one (step_goto h)
theorem Ok.cond {c : Operand} {x y : Code} {t : Bool} (h : a.eval c = .bool t) (o : Ok P f R (.code (if t then x else y) :: k) a w) : Ok P f R (.code (.cond c x y) :: k) a w :=
  o.steps fun _ _ _ => .one (step_cond h)
theorem Ok.ret {fn : Func} {v : Value} (hf : P.funcs[f]? = some fn) (hd : a.defers = []) (hr : (results fn a.tmps).run P w = .ok v w) (r : R (.returned v) w) : Ok P f R (.code .ret :: k) a w := by
  intro b cs hb hk
  exact ⟨.returned v, w, _, r, .one step_ret, hb, rfl, hd, hk, fn, hb ▸ hf, hr⟩
theorem Ok.fin {fn : Func} {v : Value} (hf : P.funcs[f]? = some fn) (hd : a.defers = []) (hr : (results fn a.tmps).run P w = .ok v w) (r : R (.returned v) w) : Ok P f R [] a w := by
  intro b cs hb hk
  exact ⟨.returned v, w, _, r, .one step_end, hb, rfl, hd, hk, fn, hb ▸ hf, hr⟩
theorem Ok.retD {fn : Func} (hf : P.funcs[f]? = some fn) (h : Leaves P fn a.tmps R a.defers .returning w) : Ok P f R (.code .ret :: k) a w := by
  intro b cs hb hk
  obtain ⟨e', w'', fr', hR, hs, hfn, hl⟩ := leaves_steps a.defers .returning w { b.at a (.code .ret :: k) with mode := .returning } cs rfl rfl rfl (hb ▸ hf) hk h
  exact ⟨e', w'', fr', hR, Comes.of_steps (.one step_ret) hs, hfn.trans hb, hl⟩
theorem Ok.finD {fn : Func} (hf : P.funcs[f]? = some fn) (h : Leaves P fn a.tmps R a.defers .returning w) : Ok P f R [] a w := by
  intro b cs hb hk
  obtain ⟨e', w'', fr', hR, hs, hfn, hl⟩ := leaves_steps a.defers .returning w { b.at a [] with mode := .returning } cs rfl rfl rfl (hb ▸ hf) hk h
  exact ⟨e', w'', fr', hR, Comes.of_steps (.one step_end) hs, hfn.trans hb, hl⟩

/-- What stands behind a region. -/
def QOk (P : Program) (f : FuncId) (fn : Func) (ds : List Deferred) (R : Ending → World → Prop) (k : Act → World → Prop) : Exit → Act → World → Prop
  | .normal, a, w => k a w
  | .panic chain, a, w => P.funcs[f]? = some fn ∧ (ds = [] → a.defers = [] ∧ R (.panicked chain) w) ∧ (ds ≠ [] → Leaves P fn a.tmps R a.defers (.panicking chain) w)
  | _, _, _ => False

theorem Ok.ops {fn : Func} {ds : List Deferred} {ops : Array Oper} {l : List Nat} (h : wpOps P ops (QOk P f fn ds R (Ok P f R k)) l a w) : Ok P f R (.inRegion ops l :: k) a w := by
  intro b cs hb hk
  obtain ⟨e, a', w', q, arr⟩ := wp_ops l a w h b k cs
  cases e with
  | normal =>
    obtain ⟨e, w2, fr, r, c, l⟩ := q b cs hb hk
    exact ⟨e, w2, fr, r, Comes.of_steps arr c, l⟩
  | panic chain =>
    obtain ⟨hf, h1, h2⟩ := q
    obtain ⟨todo, s⟩ := arr
    have hq : Leaves P fn a'.tmps R a'.defers (.panicking chain) w' := by
      by_cases hds : ds = []
      · obtain ⟨hd, r⟩ := h1 hds; rw [hd]; exact r
      · exact h2 hds
    obtain ⟨e', w'', fr', hR, hs, hfn, hl⟩ := leaves_steps a'.defers (.panicking chain) w' { b.at a' todo with mode := .panicking chain } cs rfl rfl rfl (hb ▸ hf) hk hq
    exact ⟨e', w'', fr', hR, Comes.of_steps s hs, hfn.trans hb, hl⟩
  | exit id => exact q.elim
  | goto l => exact q.elim
  | ret => exact q.elim
  | outgrown => exact q.elim
theorem Ok.region {fn : Func} {ds : List Deferred} {id : Nat} {l : List Oper} (h : wpList P l.toArray (QOk P f fn ds R (Ok P f R k)) l a w) : Ok P f R (.code (.region id l.toArray false) :: k) a w := by
  refine Ok.steps (k' := .inRegion l.toArray (List.range l.toArray.size) :: k) (fun _ _ _ => .one step_region) (Ok.ops (fn := fn) (ds := ds) ?_)
  rw [List.range_eq_range', ← Array.length_toList, wpOps_eq_wpList l.toArray.toList 0 (by simp)]
  simpa using h
theorem Ok.regionD {fn : Func} {ds : List Deferred} {id : Nat} {ops : Array Oper} (h : ∀ t, wpOps P ops (QOk P f fn ds R (Ok P f R k)) (Region.schedule (P.follows .mixedOrders) ops t) a { w with drawn := w.drawn + 1 }) :
    Ok P f R (.code (.region id ops true) :: k) a w := by
  intro b cs hb hk
  obtain ⟨e, w2, fr, r, c, l⟩ := Ok.ops (ds := ds) (h _) b cs hb hk
  exact ⟨e, w2, fr, r, Comes.of_steps (.one step_region_draw) c, l⟩
theorem Calls.of_ok {fn : Func} {c : Code} {args : Array Value} (hf : P.funcs[f]? = some fn) (hb : fn.body = some c)
    (o : Ok P f R [.code c] { tmps := args ++ Array.replicate (fn.ntmps - args.size) undef, defers := [] } w) : Calls P f args w R := by
  intro cs
  let b : Frame := { (default : Frame) with fn := f, kind := .normal }
  have henter : Frame.enter P f args .normal = b.at { tmps := args ++ Array.replicate (fn.ntmps - args.size) undef, defers := [] } [.code c] := by
    simp [Frame.enter, Frame.at, hf, hb, b]
  obtain ⟨e, w', fr, r, co, l1, l2⟩ := o b cs rfl rfl
  rw [← henter] at co
  exact ⟨e, w', fr, r, co, l1, l2⟩
end

end Go.Proofs.YtaaondbmkibkkaaGreat.Csl

/- The walk over symbolic frames and states: one rule an operation. Nothing of a program stands here. -/
set_option linter.unusedVariables false
set_option linter.unusedSimpArgs false
namespace Go.Proofs.YtaaondbmkibkkaaGreat.Csl
open Go

/-! Short names for what the scripts rewrite with. -/
theorem ZA {p : Prop} [Decidable p] : (decide p = true) = p := decide_eq_true_eq
theorem ZB {p : Prop} [Decidable p] : decide p = false ↔ ¬p := decide_eq_false_iff_not
theorem ZC {α : Type} [BEq α] [LawfulBEq α] {a b : α} : (a == b) = true ↔ a = b := beq_iff_eq
theorem ZD {α : Type} [BEq α] [LawfulBEq α] {a b : α} : (a == b) = false ↔ a ≠ b := beq_eq_false_iff_ne
theorem ZE {α : Type} [BEq α] [LawfulBEq α] {a b : α} : (a != b) = true ↔ a ≠ b := bne_iff_ne
theorem ZF {α : Type} (a b : α) : (a ≠ b) = ¬(a = b) := ne_eq a b
theorem ZG (b : Bool) : ((!b) = true) = (b = false) := Bool.not_eq_true' b
theorem ZH (b : Bool) : ((!b) = false) = (b = true) := Bool.not_eq_false' b
theorem ZI (b : Bool) : (¬(b = true)) = (b = false) := Bool.not_eq_true b
theorem ZJ (b : Bool) : (¬(b = false)) = (b = true) := Bool.not_eq_false b
theorem ZK {a b : Int} : ¬a < b ↔ b ≤ a := Int.not_lt
theorem ZL {a b : Int} : ¬a ≤ b ↔ b < a := Int.not_le
theorem ZM {p : Prop} [Decidable p] : ¬¬p ↔ p := Decidable.not_not
theorem ZN {α : Type} [BEq α] [LawfulBEq α] {a b : α} : (a != b) = false ↔ a = b := bne_eq_false_iff_eq
theorem ZO {α : Type} [LT α] {a b : α} : a > b ↔ b < a := gt_iff_lt
theorem ZP {α : Type} [LE α] {a b : α} : a ≥ b ↔ b ≤ a := ge_iff_le
theorem ZQ (a b : Bool) : ((a || b) = true) = (a = true ∨ b = true) := Bool.or_eq_true a b
theorem ZR (a b : Bool) : ((a && b) = true) = (a = true ∧ b = true) := Bool.and_eq_true a b
theorem blt_lt {a b : Nat} (h : Nat.blt a b = true) : a < b := Nat.le_of_ble_eq_true h
abbrev Env := List (Nat × Value)
def lk : Env → Nat → Option Value
  | [], _ => none
  | (i, v) :: e, n => match Nat.beq i n with | true => some v | false => lk e n
def opv (e : Env) : Operand → Option Value
  | .tmp t => lk e t
  | .const v => some v
  | .global g => some (.pointer (some ⟨g, 0, none⟩))
  | .func f => some (.func (.func f) #[] #[])
def opvs (e : Env) : List Operand → Option (List Value)
  | [] => some []
  | x :: xs => match opv e x with
    | some v => match opvs e xs with
      | some vs => some (v :: vs)
      | none => none
    | none => none
abbrev Nd := Nat × List Deferred
def EnvOk (n : Nd) (e : Env) (a : Act) : Prop := a.defers = n.2 ∧ a.tmps.size = n.1 ∧ ∀ i v, lk e i = some v → a.tmps[i]? = some v

theorem EnvOk.opv {n : Nd} {e : Env} {a : Act} {x : Operand} {v : Value} (h : EnvOk n e a) (o : opv e x = some v) : a.eval x = v := by
  cases x with
  | tmp t => simp only [Csl.opv] at o; have := h.2.2 t v o; simp [Act.eval, Array.getD_eq_getD_getElem?, this]
  | const v' => simp only [Csl.opv] at o; cases o; rfl
  | global g => simp only [Csl.opv] at o; cases o; rfl
  | func f => simp only [Csl.opv] at o; cases o; rfl
theorem EnvOk.opvs {n : Nd} {e : Env} {a : Act} (h : EnvOk n e a) : ∀ {xs : List Operand} {vs : List Value}, opvs e xs = some vs → xs.map a.eval = vs
  | [], vs, o => by simp only [Csl.opvs] at o; cases o; rfl
  | x :: xs, vs, o => by
    simp only [Csl.opvs] at o
    split at o
    · rename_i v hv
      split at o
      · rename_i vs' hvs; cases o; simp [h.opv hv, h.opvs hvs]
      · cases o
    · cases o
theorem EnvOk.put {n : Nd} {e : Env} {a : Act} {d : Nat} {v : Value} (h : EnvOk n e a) (hd : d < n.1) : EnvOk n ((d, v) :: e) (a.put (some d) v) := by
  refine ⟨h.1, by simp [Act.put, h.2.1], fun i u hi => ?_⟩
  simp only [lk] at hi
  split at hi
  · rename_i hb
    have hb : d = i := Nat.eq_of_beq_eq_true hb
    cases hi; subst hb
    simp [Act.put, Array.getElem?_setIfInBounds, h.2.1, hd]
  · rename_i hb
    have hb : d ≠ i := fun c => by subst c; simp at hb
    simp only [Act.put, Array.getElem?_setIfInBounds, hb, if_false]
    exact h.2.2 i u hi
theorem EnvOk.sub {n : Nd} {e e' : Env} {a : Act} (h : EnvOk n e a) (s : ∀ i v, lk e' i = some v → lk e i = some v) : EnvOk n e' a :=
  ⟨h.1, h.2.1, fun i v hi => h.2.2 i v (s i v hi)⟩

/-- A part of a frame: 'is' are the slots that are kept. -/
inductive Keep (e : Env) : List Nat → Env → Prop
  | nil : Keep e [] []
  | cons {i : Nat} {is : List Nat} {v : Value} {e' : Env} (h : lk e i = some v) (k : Keep e is e') : Keep e (i :: is) ((i, v) :: e')
theorem Keep.sub {e e' : Env} {is : List Nat} (k : Keep e is e') : ∀ i v, lk e' i = some v → lk e i = some v := by
  induction k with
  | nil => intro i v h; simp [lk] at h
  | @cons j js u e' hj k ih =>
    intro i v h
    simp only [lk] at h
    split at h
    · rename_i hb; have hb := Nat.eq_of_beq_eq_true hb; cases h; subst hb; exact hj
    · exact ih i v h

structure Cx where
  P : Program
  f : FuncId
  fn : Func
  R : Ending → World → Prop
  ds : List Deferred
abbrev Cx.nd (c : Cx) : Nd := (c.fn.ntmps, c.ds)

def Run (c : Cx) (G : Gp) (k : List Item) (e : Env) (A : List HProp) : Prop :=
  ∀ a w, EnvOk c.nd e a → St G A w → Ok c.P c.f c.R k a w
abbrev KT := Act → World → Prop
def RunL (c : Cx) (G : Gp) (ops : Array Oper) (l : List Oper) (k : KT) (e : Env) (A : List HProp) : Prop :=
  ∀ a w, EnvOk c.nd e a → St G A w → wpList c.P ops (QOk c.P c.f c.fn c.ds c.R k) l a w

section
variable {c : Cx} {G : Gp} {k : List Item} {e : Env} {A : List HProp}
theorem Run.seq {x y : Code} (r : Run c G (.code x :: .code y :: k) e A) : Run c G (.code (.seq x y) :: k) e A := fun a w h s => (r a w h s).seq
theorem Run.skip (r : Run c G k e A) : Run c G (.code .skip :: k) e A := fun a w h s => (r a w h s).skip
theorem Run.label {l : Nat} (r : Run c G k e A) : Run c G (.code (.label l) :: k) e A := fun a w h s => (r a w h s).label
theorem Run.inBlock {i : Nat} (r : Run c G k e A) : Run c G (.inBlock i :: k) e A := fun a w h s => (r a w h s).inBlock
theorem Run.block {i : Nat} {x : Code} (r : Run c G (.code x :: .inBlock i :: k) e A) : Run c G (.code (.block i x) :: k) e A := fun a w h s => (r a w h s).block
theorem Run.loop0 {x : Code} (r : Run c G (.code x :: .inLoop x :: k) e A) : Run c G (.code (.loop x) :: k) e A := fun a w h s => (r a w h s).loop
theorem Run.inLoop {x : Code} (r : Run c G (.code x :: .inLoop x :: k) e A) : Run c G (.inLoop x :: k) e A := fun a w h s => (r a w h s).inLoop
theorem Run.exit {i : Nat} {k' : List Item} (h : exitTo i k = some k') (r : Run c G k' e A) : Run c G (.code (.exit i) :: k) e A := fun a w ho s => (r a w ho s).exit h
theorem Run.goto {i : Nat} {k' : List Item} (h : gotoIn i k = some k') (r : Run c G k' e A) : Run c G (.code (.goto i) :: k) e A := fun a w ho s => (r a w ho s).goto h
theorem Run.cond {x : Operand} {y z : Code} {b : Bool} (h : opv e x = some (.bool b)) (ht : b = true → Run c G (.code y :: k) e A) (hf : b = false → Run c G (.code z :: k) e A) :
    Run c G (.code (.cond x y z) :: k) e A := fun a w ho s => by
  refine Ok.cond (ho.opv h) ?_
  cases b
  · exact hf rfl a w ho s
  · exact ht rfl a w ho s
theorem Run.condT {x : Operand} {y z : Code} (h : opv e x = some (.bool true)) (r : Run c G (.code y :: k) e A) : Run c G (.code (.cond x y z) :: k) e A :=
  Run.cond h (fun _ => r) (fun h => by cases h)
theorem Run.condF {x : Operand} {y z : Code} (h : opv e x = some (.bool false)) (r : Run c G (.code z :: k) e A) : Run c G (.code (.cond x y z) :: k) e A :=
  Run.cond h (fun h => by cases h) (fun _ => r)
theorem Run.region {id : Nat} {l : List Oper} (r : RunL c G l.toArray l (Ok c.P c.f c.R k) e A) : Run c G (.code (.region id l.toArray false) :: k) e A :=
  fun a w h s => Ok.region (fn := c.fn) (ds := c.ds) (r a w h s)
theorem RunL.nil {ops : Array Oper} (r : Run c G k e A) : RunL c G ops [] (Ok c.P c.f c.R k) e A := fun a w h s => r a w h s
/-- The frame and the atoms: fewer, or in another row. -/
theorem Run.keep {is : List Nat} {e' : Env} (ke : Keep e is e') (r : Run c G k e' A) : Run c G k e A := fun a w h s => r a w (h.sub ke.sub) s
theorem Run.perm {A' : List HProp} (p : A.Perm A') (r : Run c G k e A') : Run c G k e A := fun a w h s => r a w h (s.perm p)
theorem Run.take {ps F : List HProp} (t : Take ps A F) (r : Run c G k e (ps ++ F)) : Run c G k e A := r.perm t.perm
theorem RunL.take {k : KT} {ops : Array Oper} {l : List Oper} {ps F : List HProp} (t : Take ps A F) (r : RunL c G ops l k e (ps ++ F)) : RunL c G ops l k e A := fun a w h s => r a w h (s.perm t.perm)
/-- What the state tells may be used. -/
theorem Run.open' (h : ∀ w, St G A w → Run c G k e A) : Run c G k e A := fun a w ho s => h w s a w ho s
theorem RunL.open' {k : KT} {ops : Array Oper} {l : List Oper} (h : ∀ w, St G A w → RunL c G ops l k e A) : RunL c G ops l k e A := fun a w ho s => h w s a w ho s
theorem Run.conv {A' : List HProp} (h : ∀ w, St G A w → St G A' w) (r : Run c G k e A') : Run c G k e A := fun a w ho s => r a w ho (h w s)
theorem RunL.conv {k : KT} {ops : Array Oper} {l : List Oper} {A' : List HProp} (h : ∀ w, St G A w → St G A' w) (r : RunL c G ops l k e A') : RunL c G ops l k e A := fun a w ho s => r a w ho (h w s)
theorem Run.convX {X : Type} {A' : X → List HProp} (h : ∀ w, St G A w → ∃ x, St G (A' x) w) (r : ∀ x, Run c G k e (A' x)) : Run c G k e A :=
  fun a w ho s => by obtain ⟨x, s'⟩ := h w s; exact r x a w ho s'
theorem RunL.convX {k : KT} {ops : Array Oper} {l : List Oper} {X : Type} {A' : X → List HProp} (h : ∀ w, St G A w → ∃ x, St G (A' x) w) (r : ∀ x, RunL c G ops l k e (A' x)) : RunL c G ops l k e A :=
  fun a w ho s => by obtain ⟨x, s'⟩ := h w s; exact r x a w ho s'
/-- A loop by an invariant over 'X' and a measure. -/
theorem Run.loop {x : Code} {X : Type} (E : X → Env) (B : X → List HProp) (μ : X → Nat) (x0 : X)
    (h0 : ∀ r : Run c G (.code (.loop x) :: k) (E x0) (B x0), Run c G (.code (.loop x) :: k) e A)
    (round : ∀ x1, (∀ x2, μ x2 < μ x1 → Run c G (.inLoop x :: k) (E x2) (B x2)) → Run c G (.code x :: .inLoop x :: k) (E x1) (B x1)) :
    Run c G (.code (.loop x) :: k) e A := by
  have key : ∀ n x1, μ x1 = n → Run c G (.code x :: .inLoop x :: k) (E x1) (B x1) := by
    intro n
    induction n using Nat.strongRecOn with
    | _ n ih => intro x1 hn; exact round x1 fun x2 hlt => (ih (μ x2) (hn ▸ hlt) x2 rfl).inLoop
  exact h0 (key _ x0 rfl).loop0
end

/-! ### Operations -/
def Wt (ops : Array Oper) (e : Env) (o : Oper) (b : Bool) : Prop := ∀ n a, EnvOk n e a → Region.wanted o (yielded ops a.tmps) = b
theorem Wt.none {ops : Array Oper} {e : Env} {o : Oper} (h : o.guard = .none) : Wt ops e o true := fun n a _ => by simp [Region.wanted, h]
theorem Wt.some {ops : Array Oper} {e : Env} {o : Oper} {j d : Nat} {b want : Bool} (h : o.guard = .some (j, want)) (hj : (ops[j]?).bind (·.dst) = .some d) (hv : lk e d = .some (.bool b)) :
    Wt ops e o (b == want) := fun n a ho => by
  have hy : yielded ops a.tmps j = Option.some b := by simp [yielded, hj, ho.2.2 d _ hv]
  simp only [Region.wanted, h, hy]
  cases b <;> cases want <;> rfl
theorem Wt.no {ops : Array Oper} {e : Env} {o : Oper} {j d : Nat} {want : Bool} (h : o.guard = .some (j, want)) (hj : (ops[j]?).bind (·.dst) = .some d) (hv : lk e d = .some (.bool (!want))) :
    Wt ops e o false := by have := Wt.some h hj hv; cases want <;> simpa using this
theorem Wt.yes {ops : Array Oper} {e : Env} {o : Oper} {j d : Nat} {want : Bool} (h : o.guard = .some (j, want)) (hj : (ops[j]?).bind (·.dst) = .some d) (hv : lk e d = .some (.bool want)) :
    Wt ops e o true := by have := Wt.some h hj hv; simpa using this

section
variable {c : Cx} {G : Gp} {ops : Array Oper} {k : KT} {e : Env} {A : List HProp} {o : Oper} {l : List Oper}
/-- The general rule of an operation that tells a value. -/
theorem RunL.val {d : Nat} {X : Type} {v : X → Value} {A' : X → List HProp} (hw : Wt ops e o true) (hd : o.dst = some d) (hlt : Nat.blt d c.fn.ntmps = true)
    (hx : ∀ a w, EnvOk c.nd e a → St G A w → ∃ x w', (execOp a.eval o).run c.P w = .ok (.value (v x)) w' ∧ St G (A' x) w')
    (next : ∀ x, RunL c G ops l k ((d, v x) :: e) (A' x)) : RunL c G ops (o :: l) k e A := by
  intro a w h s
  obtain ⟨x, w', hr, s'⟩ := hx a w h s
  unfold wpList
  rw [if_pos (hw _ a h)]
  refine .inl ?_
  unfold Oper.wp
  rw [hr, Oper.upon_value, hd]
  exact next x _ _ (h.put (blt_lt hlt)) s'
theorem RunL.unit {A' : List HProp} (hw : Wt ops e o true) (hd : o.dst = none)
    (hx : ∀ a w, EnvOk c.nd e a → St G A w → ∃ w', (execOp a.eval o).run c.P w = .ok .skip w' ∧ St G A' w')
    (next : RunL c G ops l k e A') : RunL c G ops (o :: l) k e A := by
  intro a w h s
  obtain ⟨w', hr, s'⟩ := hx a w h s
  unfold wpList
  rw [if_pos (hw _ a h)]
  refine .inl ?_
  unfold Oper.wp
  rw [hr, Oper.upon_skip, hd]
  exact next _ _ h s'
theorem RunL.not {d : Nat} (hw : Wt ops e o false) (hd : o.dst = some d) (hlt : Nat.blt d c.fn.ntmps = true) (next : RunL c G ops l k ((d, undef) :: e) A) : RunL c G ops (o :: l) k e A := by
  intro a w h s
  unfold wpList
  rw [hw _ a h, hd]
  exact next _ _ (h.put (blt_lt hlt)) s
theorem RunL.not0 (hw : Wt ops e o false) (hd : o.dst = none) (next : RunL c G ops l k e A) : RunL c G ops (o :: l) k e A := by
  intro a w h s
  unfold wpList
  rw [hw _ a h, hd]
  exact next _ _ h s
/-- A guard that is not decided: both ways. -/
theorem RunL.split {d : Nat} {b : Bool} (hv : lk e d = some (.bool b)) (ht : b = true → RunL c G ops l k ((d, .bool true) :: e) A) (hf : b = false → RunL c G ops l k ((d, .bool false) :: e) A) :
    RunL c G ops l k e A := by
  have sub : ∀ u, b = u → ∀ i v, lk ((d, .bool u) :: e) i = some v → lk e i = some v := by
    intro u hu i v h
    simp only [lk] at h
    split at h
    · rename_i hb; have hb := Nat.eq_of_beq_eq_true hb; cases h; subst hb; subst hu; exact hv
    · exact h
  intro a w h s
  cases b
  · exact hf rfl a w (h.sub (sub _ rfl)) s
  · exact ht rfl a w (h.sub (sub _ rfl)) s

/-- What an operation tells, whatever the world: no memory is touched. -/
def Ev (e : Env) (ρ : Operand → Value) : Prop := ∀ x v, opv e x = some v → ρ x = v
def Pure (P : Program) (e : Env) (o : Oper) (v : Value) : Prop := ∀ ρ w, Ev e ρ → (execOp ρ o).run P w = .ok (.value v) w
theorem EnvOk.ev {n : Nd} {a : Act} (h : EnvOk n e a) : Ev e a.eval := fun _ _ o => h.opv o
theorem RunL.pure {d : Nat} {v : Value} (hp : Pure c.P e o v) (hw : Wt ops e o true) (hd : o.dst = some d) (hlt : Nat.blt d c.fn.ntmps = true) (next : RunL c G ops l k ((d, v) :: e) A) :
    RunL c G ops (o :: l) k e A :=
  RunL.val (X := Unit) (v := fun _ => v) (A' := fun _ => A) hw hd hlt (fun a w h s => ⟨(), w, hp _ w h.ev, s⟩) (fun _ => next)
theorem Ev.opvs {ρ : Operand → Value} (h : Ev e ρ) : ∀ {xs : List Operand} {vs : List Value}, Csl.opvs e xs = some vs → xs.map ρ = vs
  | [], vs, o => by simp only [Csl.opvs] at o; cases o; rfl
  | x :: xs, vs, o => by
    simp only [Csl.opvs] at o
    split at o
    · rename_i v hv
      split at o
      · rename_i vs' hvs; cases o; simp [h _ _ hv, h.opvs hvs]
      · cases o
    · cases o
end

theorem wrap_i64 {n : Int} (h1 : -9223372036854775808 ≤ n) (h2 : n ≤ 9223372036854775807) : IntKind.i64.wrap n = n := IntWalk.i64_in n ⟨h1, h2⟩
theorem wrap_u8 {n : Int} (h1 : 0 ≤ n) (h2 : n ≤ 255) : IntKind.u8.wrap n = n := IntWalk.u8_in n ⟨h1, h2⟩
theorem wrap_i32 {n : Int} (h1 : -2147483648 ≤ n) (h2 : n ≤ 2147483647) : IntKind.i32.wrap n = n := IntWalk.i32_in n ⟨h1, h2⟩
section
variable {P : Program} {e : Env} {d : Option Tmp} {t : TypeId} {pos : String} {af : Array Edge} {gd : Option (Nat × Bool)} {x y : Operand}
theorem Pure.move {v : Value} (h : opv e x = some v) : Pure P e ⟨d, .move x, t, pos, af, gd⟩ v := fun ρ w ho => by simp [execOp, ho _ _ h]
theorem Pure.assign {v : Value} (h : opv e x = some v) : Pure P e ⟨d, .assign x, t, pos, af, gd⟩ v := fun ρ w ho => by simp [execOp, ho _ _ h]
theorem Pure.pickT {p q : Operand} {v : Value} (h : opv e x = some (.bool true)) (hv : opv e p = some v) : Pure P e ⟨d, .pick x p q, t, pos, af, gd⟩ v := fun ρ w ho => by simp [execOp, ho _ _ h, ho _ _ hv, asBool, go_sem]
theorem Pure.pickF {p q : Operand} {v : Value} (h : opv e x = some (.bool false)) (hv : opv e q = some v) : Pure P e ⟨d, .pick x p q, t, pos, af, gd⟩ v := fun ρ w ho => by simp [execOp, ho _ _ h, ho _ _ hv, asBool, go_sem]
theorem Pure.nilCheck {ad : Addr} (h : opv e x = some (.pointer (some ad))) : Pure P e ⟨d, .nilCheck x, t, pos, af, gd⟩ (.pointer (some ad)) := fun ρ w ho => by simp [execOp, ho _ _ h, go_sem]

section arith
variable {k : IntKind} {a b : Int} {xt yt : TypeId}
theorem Pure.add (hx : opv e x = some (.int k a)) (hy : opv e y = some (.int k b)) : Pure P e ⟨d, .binOp .add xt x y yt, t, pos, af, gd⟩ (.int k (k.wrap (a + b))) := fun ρ w ho => by
  have h1 := ho _ _ hx; have h2 := ho _ _ hy
  simp [execOp, h1, h2, eqGuard, binOp, Op.intArith]
theorem Pure.addI {a b : Int} (hx : opv e x = some (.int .i64 a)) (hy : opv e y = some (.int .i64 b)) (h : -9223372036854775808 ≤ (a + b) ∧ (a + b) ≤ 9223372036854775807) : Pure P e ⟨d, .binOp .add xt x y yt, t, pos, af, gd⟩ (.int .i64 (a + b)) := by
  have := Pure.add (P := P) (d := d) (t := t) (pos := pos) (af := af) (gd := gd) (xt := xt) (yt := yt) hx hy
  rw [wrap_i64 h.1 h.2] at this; exact this
theorem Pure.sub (hx : opv e x = some (.int k a)) (hy : opv e y = some (.int k b)) : Pure P e ⟨d, .binOp .sub xt x y yt, t, pos, af, gd⟩ (.int k (k.wrap (a - b))) := fun ρ w ho => by
  have h1 := ho _ _ hx; have h2 := ho _ _ hy
  simp [execOp, h1, h2, eqGuard, binOp, Op.intArith]
theorem Pure.subI {a b : Int} (hx : opv e x = some (.int .i64 a)) (hy : opv e y = some (.int .i64 b)) (h : -9223372036854775808 ≤ (a - b) ∧ (a - b) ≤ 9223372036854775807) : Pure P e ⟨d, .binOp .sub xt x y yt, t, pos, af, gd⟩ (.int .i64 (a - b)) := by
  have := Pure.sub (P := P) (d := d) (t := t) (pos := pos) (af := af) (gd := gd) (xt := xt) (yt := yt) hx hy
  rw [wrap_i64 h.1 h.2] at this; exact this
theorem Pure.mul (hx : opv e x = some (.int k a)) (hy : opv e y = some (.int k b)) : Pure P e ⟨d, .binOp .mul xt x y yt, t, pos, af, gd⟩ (.int k (k.wrap (a * b))) := fun ρ w ho => by
  have h1 := ho _ _ hx; have h2 := ho _ _ hy
  simp [execOp, h1, h2, eqGuard, binOp, Op.intArith]
theorem Pure.mulI {a b : Int} (hx : opv e x = some (.int .i64 a)) (hy : opv e y = some (.int .i64 b)) (h : -9223372036854775808 ≤ (a * b) ∧ (a * b) ≤ 9223372036854775807) : Pure P e ⟨d, .binOp .mul xt x y yt, t, pos, af, gd⟩ (.int .i64 (a * b)) := by
  have := Pure.mul (P := P) (d := d) (t := t) (pos := pos) (af := af) (gd := gd) (xt := xt) (yt := yt) hx hy
  rw [wrap_i64 h.1 h.2] at this; exact this
theorem Pure.eql (hx : opv e x = some (.int k a)) (hy : opv e y = some (.int k b)) : Pure P e ⟨d, .binOp .eql xt x y yt, t, pos, af, gd⟩ (.bool (a == b)) := fun ρ w ho => by
  have h1 := ho _ _ hx; have h2 := ho _ _ hy
  simp [execOp, h1, h2, eqGuard, binOp, Op.intCmp]
theorem Pure.neq (hx : opv e x = some (.int k a)) (hy : opv e y = some (.int k b)) : Pure P e ⟨d, .binOp .neq xt x y yt, t, pos, af, gd⟩ (.bool (a != b)) := fun ρ w ho => by
  have h1 := ho _ _ hx; have h2 := ho _ _ hy
  simp [execOp, h1, h2, eqGuard, binOp, Op.intCmp]
theorem Pure.lss (hx : opv e x = some (.int k a)) (hy : opv e y = some (.int k b)) : Pure P e ⟨d, .binOp .lss xt x y yt, t, pos, af, gd⟩ (.bool (decide (a < b))) := fun ρ w ho => by
  have h1 := ho _ _ hx; have h2 := ho _ _ hy
  simp [execOp, h1, h2, eqGuard, binOp, Op.intCmp]
theorem Pure.leq (hx : opv e x = some (.int k a)) (hy : opv e y = some (.int k b)) : Pure P e ⟨d, .binOp .leq xt x y yt, t, pos, af, gd⟩ (.bool (decide (a ≤ b))) := fun ρ w ho => by
  have h1 := ho _ _ hx; have h2 := ho _ _ hy
  simp [execOp, h1, h2, eqGuard, binOp, Op.intCmp]
theorem Pure.gtr (hx : opv e x = some (.int k a)) (hy : opv e y = some (.int k b)) : Pure P e ⟨d, .binOp .gtr xt x y yt, t, pos, af, gd⟩ (.bool (decide (a > b))) := fun ρ w ho => by
  have h1 := ho _ _ hx; have h2 := ho _ _ hy
  simp [execOp, h1, h2, eqGuard, binOp, Op.intCmp]
theorem Pure.geq (hx : opv e x = some (.int k a)) (hy : opv e y = some (.int k b)) : Pure P e ⟨d, .binOp .geq xt x y yt, t, pos, af, gd⟩ (.bool (decide (a ≥ b))) := fun ρ w ho => by
  have h1 := ho _ _ hx; have h2 := ho _ _ hy
  simp [execOp, h1, h2, eqGuard, binOp, Op.intCmp]
theorem Pure.rem (hx : opv e x = some (.int k a)) (hy : opv e y = some (.int k b)) (hb : b ≠ 0) : Pure P e ⟨d, .binOp .rem xt x y yt, t, pos, af, gd⟩ (.int k (a.tmod b)) := fun ρ w ho => by
  have h1 := ho _ _ hx; have h2 := ho _ _ hy
  simp [execOp, h1, h2, eqGuard, binOp, Op.intDiv, hb]
theorem Pure.remI (hx : opv e x = some (.int k a)) (hy : opv e y = some (.int k b)) (hb : 0 < b) (ha : 0 ≤ a) : Pure P e ⟨d, .binOp .rem xt x y yt, t, pos, af, gd⟩ (.int k (a % b)) := by
  have := Pure.rem (P := P) (d := d) (t := t) (pos := pos) (af := af) (gd := gd) (xt := xt) (yt := yt) hx hy (by omega)
  rw [Int.tmod_eq_emod_of_nonneg ha] at this; exact this
theorem Pure.quo (hx : opv e x = some (.int k a)) (hy : opv e y = some (.int k b)) (hb : b ≠ 0) : Pure P e ⟨d, .binOp .quo xt x y yt, t, pos, af, gd⟩ (.int k (k.wrap (a.tdiv b))) := fun ρ w ho => by
  have h1 := ho _ _ hx; have h2 := ho _ _ hy
  simp [execOp, h1, h2, eqGuard, binOp, Op.intDiv, hb]
theorem Pure.quoI {a b : Int} (hx : opv e x = some (.int .i64 a)) (hy : opv e y = some (.int .i64 b)) (hb : 0 < b) (ha : 0 ≤ a) (hm : a ≤ 9223372036854775807) : Pure P e ⟨d, .binOp .quo xt x y yt, t, pos, af, gd⟩ (.int .i64 (a / b)) := by
  have := Pure.quo (P := P) (d := d) (t := t) (pos := pos) (af := af) (gd := gd) (xt := xt) (yt := yt) hx hy (by omega)
  have h0 : 0 ≤ a / b := Int.ediv_nonneg ha (by omega)
  have h1 : a / b ≤ a := Int.ediv_le_self b ha
  rw [Int.tdiv_eq_ediv_of_nonneg ha, wrap_i64 (by omega) (by omega)] at this; exact this
theorem Pure.xor (hx : opv e x = some (.int k a)) (hy : opv e y = some (.int k b)) : Pure P e ⟨d, .binOp .xor xt x y yt, t, pos, af, gd⟩ (.int k (k.wrap (BitVec.ofInt k.bits a ^^^ BitVec.ofInt k.bits b).toNat)) := fun ρ w ho => by
  have h1 := ho _ _ hx; have h2 := ho _ _ hy
  simp [execOp, h1, h2, eqGuard, binOp, Op.intBits]
theorem Pure.neg (hx : opv e x = some (.int k a)) : Pure P e ⟨d, .unOp .neg xt x, t, pos, af, gd⟩ (.int k (k.wrap (0 - a))) := fun ρ w ho => by
  have h1 := ho _ _ hx
  simp [execOp, h1, Op.unary, Op.intArith]
theorem Pure.negI {a : Int} (hx : opv e x = some (.int .i64 a)) (h : -9223372036854775807 ≤ a ∧ a ≤ 9223372036854775807) : Pure P e ⟨d, .unOp .neg xt x, t, pos, af, gd⟩ (.int .i64 (-a)) := by
  have := Pure.neg (P := P) (d := d) (t := t) (pos := pos) (af := af) (gd := gd) (xt := xt) hx
  rw [wrap_i64 (by omega) (by omega), Int.zero_sub] at this; exact this
theorem Pure.not {b : Bool} (hx : opv e x = some (.bool b)) : Pure P e ⟨d, .unOp .not xt x, t, pos, af, gd⟩ (.bool (!b)) := fun ρ w ho => by
  have h1 := ho _ _ hx
  simp [execOp, h1, Op.unary]
theorem Pure.convInt {st dt : TypeId} {sd : TypeDesc} {k' : IntKind} (hs : P.underlying st = some sd) (hd : P.underlying dt = some (.int k')) (hx : opv e x = some (.int k a)) : Pure P e ⟨d, .convert st dt x, t, pos, af, gd⟩ (.int k' (k'.wrap a)) := fun ρ w ho => by
  have h1 := ho _ _ hx
  simp [execOp, h1, convert, run_underlying hs, run_underlying hd, Conv.intToInt]
theorem Pure.convStr {st dt : TypeId} {sd : TypeDesc} {s : ByteArray} (hs : P.underlying st = some sd) (hd : P.underlying dt = some .string) (hx : opv e x = some (.string s)) : Pure P e ⟨d, .convert st dt x, t, pos, af, gd⟩ (.string s) := fun ρ w ho => by
  have h1 := ho _ _ hx
  simp [execOp, h1, convert, run_underlying hs, run_underlying hd]
theorem Pure.convRune {st dt : TypeId} {sd : TypeDesc} (hs : P.underlying st = some sd) (hd : P.underlying dt = some .string) (hx : opv e x = some (.int k a)) : Pure P e ⟨d, .convert st dt x, t, pos, af, gd⟩ (.string (Utf8.encode a)) := fun ρ w ho => by
  have h1 := ho _ _ hx
  simp [execOp, h1, convert, run_underlying hs, run_underlying hd, Conv.intToString]
end arith

def bl (s : ByteArray) : List UInt8 := s.data.toList
theorem beq_dec (x y : List UInt8) : (x == y) = decide (x = y) := by rw [Bool.eq_iff_iff]; simp
theorem bl_eq (s : ByteArray) : s.toList = bl s := ByteArray.toList_eq s
theorem bl_inj {a b : ByteArray} (h : bl a = bl b) : a = b := by
  cases a; cases b; simp only [bl] at h; congr; exact Array.ext' h
theorem bl_length (s : ByteArray) : (bl s).length = s.size := by simp [bl]
theorem bl_extract {s : ByteArray} {i j : Nat} : bl (s.extract i j) = ((bl s).drop i).take (j - i) := by
  simp [bl, List.take_drop]
theorem bl_extract0 {s : ByteArray} {j : Nat} (h : j ≤ s.size) : bl (s.extract 0 j) = (bl s).take j := by
  rw [bl_extract]; simp
theorem bl_append (a b : ByteArray) : bl (a ++ b) = bl a ++ bl b := by simp [bl]
theorem size_mk (l : List UInt8) : (ByteArray.mk l.toArray).size = l.length := by simp [ByteArray.size]
theorem size_app (a b : ByteArray) : (a ++ b).size = a.size + b.size := by rw [← bl_length, ← bl_length, ← bl_length, bl_append, List.length_append]
theorem bl_mk (l : List UInt8) : bl ⟨l.toArray⟩ = l := rfl
section strs
variable {a b : ByteArray} {xt yt : TypeId}
theorem Pure.seql (hx : opv e x = some (.string a)) (hy : opv e y = some (.string b)) : Pure P e ⟨d, .binOp .eql xt x y yt, t, pos, af, gd⟩ (.bool (decide (bl a = bl b))) := fun ρ w ho => by
  have h1 := ho _ _ hx; have h2 := ho _ _ hy
  simp [execOp, h1, h2, eqGuard, binOp, Op.stringOp, bl_eq, beq_dec]
theorem Pure.sneq (hx : opv e x = some (.string a)) (hy : opv e y = some (.string b)) : Pure P e ⟨d, .binOp .neq xt x y yt, t, pos, af, gd⟩ (.bool (!decide (bl a = bl b))) := fun ρ w ho => by
  have h1 := ho _ _ hx; have h2 := ho _ _ hy
  simp [execOp, h1, h2, eqGuard, binOp, Op.stringOp, bl_eq, beq_dec]
theorem Pure.slss (hx : opv e x = some (.string a)) (hy : opv e y = some (.string b)) : Pure P e ⟨d, .binOp .lss xt x y yt, t, pos, af, gd⟩ (.bool (Op.bytesLess (bl a) (bl b))) := fun ρ w ho => by
  have h1 := ho _ _ hx; have h2 := ho _ _ hy
  simp [execOp, h1, h2, eqGuard, binOp, Op.stringOp, bl_eq, beq_dec]
theorem Pure.sleq (hx : opv e x = some (.string a)) (hy : opv e y = some (.string b)) : Pure P e ⟨d, .binOp .leq xt x y yt, t, pos, af, gd⟩ (.bool (Op.bytesLess (bl a) (bl b) || decide (bl a = bl b))) := fun ρ w ho => by
  have h1 := ho _ _ hx; have h2 := ho _ _ hy
  simp [execOp, h1, h2, eqGuard, binOp, Op.stringOp, bl_eq, beq_dec]
theorem Pure.sgtr (hx : opv e x = some (.string a)) (hy : opv e y = some (.string b)) : Pure P e ⟨d, .binOp .gtr xt x y yt, t, pos, af, gd⟩ (.bool (!(Op.bytesLess (bl a) (bl b) || decide (bl a = bl b)))) := fun ρ w ho => by
  have h1 := ho _ _ hx; have h2 := ho _ _ hy
  simp [execOp, h1, h2, eqGuard, binOp, Op.stringOp, bl_eq, beq_dec]
theorem Pure.sgeq (hx : opv e x = some (.string a)) (hy : opv e y = some (.string b)) : Pure P e ⟨d, .binOp .geq xt x y yt, t, pos, af, gd⟩ (.bool (!(Op.bytesLess (bl a) (bl b)))) := fun ρ w ho => by
  have h1 := ho _ _ hx; have h2 := ho _ _ hy
  simp [execOp, h1, h2, eqGuard, binOp, Op.stringOp, bl_eq, beq_dec]
theorem Pure.sadd (hx : opv e x = some (.string a)) (hy : opv e y = some (.string b)) (h : a.size + b.size ≤ 9223372036854775807) : Pure P e ⟨d, .binOp .add xt x y yt, t, pos, af, gd⟩ (.string (a ++ b)) := fun ρ w ho => by
  have h1 := ho _ _ hx; have h2 := ho _ _ hy
  have hm : ¬ (((a.size + b.size : Nat) : Int) > IntKind.i64.max) := by rw [show IntKind.i64.max = 9223372036854775807 from by decide]; omega
  simp only [execOp, h1, h2, eqGuard, binOp, Op.stringOp]
  simp only [if_neg hm]
  simp
end strs
end
end Go.Proofs.YtaaondbmkibkkaaGreat.Csl

/- Memory: rows of cells, what is read and written there, and calls. Nothing of a program stands here. -/
set_option linter.unusedVariables false
set_option linter.unusedSimpArgs false
namespace Go.Proofs.YtaaondbmkibkkaaGreat.Csl
open Go

def _root_.Go.Value.isOne : Value → Bool
  | .agg _ | .tuple _ => false
  | _ => true
/-- A row of cells, owned. -/
def FzOk (n : Nat) (fz : Nat × Nat) : Prop := fz.2 ≤ fz.1 ∨ n ≤ fz.1
def row (b : Nat) (T : TypeId) (cs : List Value) : HProp := fun h => ∃ fz : Nat × Nat, FzOk cs.length fz ∧ h = Hp.one b (.cells cs.toArray T fz)
/-- A row of cells that is only read. -/
def Ro (G : Gp) (b : Nat) (T : TypeId) (cs : List Value) : Prop := ∃ fz : Nat × Nat, G b = some (.cells cs.toArray T fz)

theorem St.row_open {G : Gp} {b : Nat} {T : TypeId} {cs : List Value} {A : List HProp} {w : World} (s : St G (row b T cs :: A) w) :
    ∃ fz, FzOk cs.length fz ∧ St G (pt b (.cells cs.toArray T fz) :: A) w := by
  obtain ⟨h, g, s, d, h1, h2, d', e, ⟨fz, hz, p⟩, a⟩ := s
  exact ⟨fz, hz, h, g, s, d, h1, h2, d', e, p, a⟩
theorem St.mkrow {G : Gp} {b : Nat} {T : TypeId} {cs : List Value} {fz : Nat × Nat} {A : List HProp} {w : World} (hz : FzOk cs.length fz) (s : St G (pt b (.cells cs.toArray T fz) :: A) w) :
    St G (row b T cs :: A) w := s.imp fun h p => ⟨fz, hz, p⟩
theorem St.lend_row {G : Gp} {b : Nat} {T : TypeId} {cs : List Value} {A : List HProp} {w : World} (s : St G (row b T cs :: A) w) :
    ∃ fz, FzOk cs.length fz ∧ G b = none ∧ St (Gp.join G (Hp.one b (.cells cs.toArray T fz))) A w := by
  obtain ⟨fz, hz, s⟩ := s.row_open
  exact ⟨fz, hz, s.lend.1, s.lend.2⟩

/-- What the world holds of a row, owned or only read. -/
structure Seen (w : World) (b : Nat) (T : TypeId) (cs : List Value) : Prop where
  at_ : ∃ fz, w.heap[b]? = some (.cells cs.toArray T fz)
theorem St.seen {G : Gp} {b : Nat} {T : TypeId} {cs : List Value} {A : List HProp} {w : World} (s : St G (row b T cs :: A) w) : Seen w b T cs := by
  obtain ⟨fz, hz, s⟩ := s.row_open
  exact ⟨fz, s.pt_at⟩
theorem Ro.seen {G : Gp} {b : Nat} {T : TypeId} {cs : List Value} {A : List HProp} {w : World} (r : Ro G b T cs) (s : St G A w) : Seen w b T cs := by
  obtain ⟨fz, r⟩ := r
  exact ⟨fz, s.ro r⟩
theorem Ro.join {G : Gp} {b : Nat} {T : TypeId} {cs : List Value} {K : Hp} (r : Ro G b T cs) : Ro (Gp.join G K) b T cs := by
  obtain ⟨fz, r⟩ := r; exact ⟨fz, Hp.join_left r⟩
theorem Ro.one {G : Gp} {b : Nat} {T : TypeId} {cs : List Value} {fz : Nat × Nat} (n : G b = none) : Ro (Gp.join G (Hp.one b (.cells cs.toArray T fz))) b T cs := by
  refine ⟨fz, ?_⟩
  show Hp.join G.hp _ b = _
  unfold Hp.join; rw [show G.hp b = none from n]; exact Hp.one_self _ _

section
variable {w : World} {b : Nat} {T : TypeId} {cs : List Value}
theorem Seen.cell (s : Seen w b T cs) (i : Nat) : w.cell? ⟨b, i, none⟩ = cs[i]? := by
  obtain ⟨fz, h⟩ := s.at_
  simp [World.cell?, h]
theorem Seen.shape (s : Seen w b T cs) : w.shape? b = some (T, cs.length) := by
  obtain ⟨fz, h⟩ := s.at_
  simp [World.shape?, h]
theorem Seen.lt (s : Seen w b T cs) : b < w.heap.size := by
  obtain ⟨fz, h⟩ := s.at_
  rcases Nat.lt_or_ge b w.heap.size with x | x
  · exact x
  · rw [Array.getElem?_eq_none x] at h; cases h
end
theorem St.not_frozen {G : Gp} {b : Nat} {T : TypeId} {cs : List Value} {A : List HProp} {w : World} (s : St G (row b T cs :: A) w) {i : Nat} (hi : i < cs.length) : w.frozen? ⟨b, i, none⟩ = false := by
  obtain ⟨⟨lo, hi'⟩, hz, s⟩ := s.row_open
  have h := s.pt_at
  simp only [World.frozen?, h]
  rcases hz with hz | hz <;> simp at hz ⊢ <;> omega

theorem add_off (b off i : Nat) : Addr.add ⟨b, off, none⟩ i = ⟨b, off + i, none⟩ := by
  unfold Addr.add; split
  · rename_i h; subst h; rfl
  · rfl

theorem St.set_row {G : Gp} {b : Nat} {T : TypeId} {cs : List Value} {A : List HProp} {w : World} {i : Nat} {v : Value} (s : St G (row b T cs :: A) w) :
    St G (row b T (cs.set i v) :: A) (w.setCell ⟨b, i, none⟩ v) := by
  have hs := s.seen
  obtain ⟨fz, hz, s⟩ := s.row_open
  have hb := s.pt_at
  refine St.mkrow (fz := fz) (by simpa using hz) (s.pt_set ?_ ?_ ⟨rfl, rfl, rfl, Nat.le_refl _⟩)
  · have hlt := hs.lt
    simp [World.setCell, Array.getElem?_modify, hb]
  · intro c hc
    simp [World.setCell, Array.getElem?_modify, Ne.symm hc]

theorem run_load {P : Program} {w : World} {b : Nat} {T : TypeId} {cs : List Value} {i : Nat} {v : Value} (s : Seen w b T cs) (h : cs[i]? = some v) :
    (load ⟨b, i, none⟩).run P w = .ok v w := by
  unfold load; simp [Sem.run, s.cell, h]
theorem run_loadCellsFrom {P : Program} {w : World} {b : Nat} {T : TypeId} {cs : List Value} {off : Nat} (s : Seen w b T cs) :
    ∀ (n i : Nat) (acc : Array Value), off + i + n ≤ cs.length → (loadCellsFrom ⟨b, off, none⟩ i n acc).run P w = .ok (acc ++ ((cs.drop (off + i)).take n).toArray) w := by
  intro n
  induction n with
  | zero => intro i acc _; simp [loadCellsFrom]
  | succ n ih =>
    intro i acc h
    have hlt : off + i < cs.length := by omega
    have h0 : cs[off + i]? = some cs[off + i] := List.getElem?_eq_getElem hlt
    simp only [loadCellsFrom, add_off, Sem.run_bind, run_load s h0, Result.andThen]
    have := ih (i + 1) (acc.push cs[off + i]) (by omega)
    rw [this, show off + (i + 1) = off + i + 1 from by omega, List.drop_eq_getElem_cons hlt, List.take_succ_cons]
    congr 1; apply Array.ext'; simp
theorem run_loadCells {P : Program} {w : World} {b : Nat} {T : TypeId} {cs : List Value} {off n : Nat} (s : Seen w b T cs) (h : off + n ≤ cs.length) :
    (loadCells ⟨b, off, none⟩ n).run P w = .ok ((cs.drop off).take n).toArray w := by
  unfold loadCells; rw [run_loadCellsFrom s n 0 #[] (by omega)]; simp

/-- 'n' cells from 'i' on, replaced. -/
def setRange (cs : List Value) (i : Nat) (vs : List Value) : List Value := cs.take i ++ vs ++ cs.drop (i + vs.length)
theorem setRange_nil (cs : List Value) (i : Nat) : setRange cs i [] = cs := by simp [setRange]
theorem length_setRange {cs vs : List Value} {i : Nat} (h : i + vs.length ≤ cs.length) : (setRange cs i vs).length = cs.length := by
  simp [setRange]; omega
theorem set_setRange {cs vs : List Value} {i : Nat} {v : Value} (h : i + 1 + vs.length ≤ cs.length) : setRange (cs.set i v) (i + 1) vs = setRange cs i (v :: vs) := by
  unfold setRange
  have h1 : (cs.set i v).take (i + 1) = cs.take i ++ [v] := by
    rw [List.take_set, List.take_succ_eq_append_getElem (by omega)]
    rw [List.set_append_right _ _ (by simp; omega)]
    simp [Nat.min_eq_left (by omega : i ≤ cs.length)]
  rw [h1, List.drop_set_of_lt (by omega)]
  simp [Nat.add_assoc, Nat.add_comm 1]
theorem run_store {P : Program} {G : Gp} {w : World} {b : Nat} {T : TypeId} {cs : List Value} {A : List HProp} {i : Nat} {v : Value} (s : St G (row b T cs :: A) w) (hi : i < cs.length) (hv : v.isOne = true) :
    (store ⟨b, i, none⟩ v).run P w = .ok () (w.setCell ⟨b, i, none⟩ v) := by
  have hc := s.seen.cell i
  rw [List.getElem?_eq_getElem hi] at hc
  have hf := s.not_frozen hi
  unfold store
  cases v <;> simp_all [Sem.run, Value.isOne]
theorem run_storeCells {P : Program} {G : Gp} {b : Nat} {T : TypeId} {A : List HProp} {off : Nat} : ∀ (vs : List Value) (w : World) (cs : List Value) (i : Nat),
    St G (row b T cs :: A) w → off + i + vs.length ≤ cs.length → (∀ v ∈ vs, v.isOne = true) →
    ∃ w', (storeCells ⟨b, off, none⟩ vs i).run P w = .ok () w' ∧ St G (row b T (setRange cs (off + i) vs) :: A) w' := by
  intro vs
  induction vs with
  | nil => intro w cs i s _ _; exact ⟨w, by simp [storeCells], by rw [setRange_nil]; exact s⟩
  | cons v vs ih =>
    intro w cs i s h hv
    simp only [List.length_cons] at h
    have hi : off + i < cs.length := by omega
    have hr := run_store (P := P) s hi (hv v (by simp))
    obtain ⟨w', hr', s'⟩ := ih _ _ (i + 1) (s.set_row (i := off + i) (v := v)) (by simp; omega) (fun u hu => hv u (by simp [hu]))
    refine ⟨w', ?_, ?_⟩
    · simp only [storeCells, add_off, Sem.run_bind, hr, Result.andThen]; exact hr'
    · rw [show off + (i + 1) = off + i + 1 from by omega, set_setRange (by omega)] at s'; exact s'

theorem St.alloc {G : Gp} {A : List HProp} {w : World} (s : St G A w) (T : TypeId) (cs : List Value) :
    St G (row w.heap.size T cs :: A) { w with heap := w.heap.push (.cells cs.toArray T) } :=
  St.mkrow (fz := (0, 0)) (.inl (Nat.le_refl _)) (s.pt_new (by simp) (fun c hc => by simp [Array.getElem?_push, Nat.ne_of_lt hc]) ⟨rfl, rfl, rfl, Nat.le_refl _⟩)

/-! ### Facts on types, to be settled by the kernel -/
def isAggOf (P : Program) (t : TypeId) : Option Bool := (P.underlying t).map fun | .struct _ | .array _ _ => true | _ => false
def sizeIs (P : Program) (t : TypeId) : Option Nat := (P.info? t).map (·.size)
def bytesIs (P : Program) (t : TypeId) : Option Nat := (P.info? t).map (·.bytes)
def zeroIs (P : Program) (t : TypeId) : Option Value := (P.info? t).bind (·.zero)
def fieldOff (P : Program) (s : TypeId) (i : Nat) : Option Nat :=
  match P.underlying s with
  | some (.struct fs) => match fs[i]? with
    | some f => match P.info? f.type with
      | some n => if n.size = 0 then none else some f.offset
      | none => none
    | none => none
  | _ => none
def elemIs (P : Program) (t : TypeId) : Option TypeId := match P.underlying t with | some (.slice e) => some e | _ => none

section
variable {P : Program} {w : World} {t : TypeId}
theorem run_isAgg {b : Bool} (h : isAggOf P t = some b) : (isAgg t).run P w = .ok b w := by
  unfold isAggOf at h
  cases hu : P.underlying t with
  | none => simp [hu] at h
  | some d => simp only [isAgg, Sem.run_bind, run_underlying hu, Result.andThen]; rw [hu] at h; cases d <;> simp_all
theorem run_sizeOf {n : Nat} (h : sizeIs P t = some n) : (sizeOf t).run P w = .ok n w := by
  unfold sizeIs at h
  cases hi : P.info? t with
  | none => simp [hi] at h
  | some i => simp [hi] at h; simp [sizeOf, typeInfo, hi, h]
theorem run_bytes {n : Nat} (h : bytesIs P t = some n) : ∃ i, (typeInfo t).run P w = .ok i w ∧ i.bytes = n := by
  unfold bytesIs at h
  cases hi : P.info? t with
  | none => simp [hi] at h
  | some i => simp [hi] at h; exact ⟨i, by simp [typeInfo, hi], h⟩
theorem run_zero {v : Value} (h : zeroIs P t = some v) : (zeroValue t).run P w = .ok v w := by
  unfold zeroIs at h
  cases hi : P.info? t with
  | none => simp [hi] at h
  | some i => simp [hi] at h; simp [zeroValue, typeInfo, hi, h]
theorem run_loadVar1 {b : Nat} {T : TypeId} {cs : List Value} {i : Nat} {v : Value} (ha : isAggOf P t = some false) (s : Seen w b T cs) (h : cs[i]? = some v) : (loadVar t ⟨b, i, none⟩).run P w = .ok v w := by
  simp only [loadVar, Sem.run_bind, run_isAgg ha, Result.andThen]; simp [run_load s h]
theorem run_loadVarN {b : Nat} {T : TypeId} {cs : List Value} {i n : Nat} (ha : isAggOf P t = some true) (hn : sizeIs P t = some n) (s : Seen w b T cs) (h : i + n ≤ cs.length) :
    (loadVar t ⟨b, i, none⟩).run P w = .ok (.agg ((cs.drop i).take n).toArray) w := by
  simp only [loadVar, Sem.run_bind, run_isAgg ha, Result.andThen, if_true, run_sizeOf hn, run_loadCells s h]; simp
end
theorem run_storeVar {P : Program} {G : Gp} {w : World} {t : TypeId} {b : Nat} {T : TypeId} {cs : List Value} {A : List HProp} {i n : Nat} {v : Value} (hn : sizeIs P t = some n) (hv : v.cells.size = n) (h1 : ∀ u ∈ v.cells.toList, u.isOne = true)
    (s : St G (row b T cs :: A) w) (h : i + n ≤ cs.length) :
    ∃ w', (storeVar t ⟨b, i, none⟩ v).run P w = .ok () w' ∧ St G (row b T (setRange cs i v.cells.toList) :: A) w' := by
  obtain ⟨w', hr, s'⟩ := run_storeCells (P := P) (off := i) v.cells.toList w cs 0 s (by simp [hv]; omega) h1
  refine ⟨w', ?_, by simpa using s'⟩
  simp only [storeVar, Sem.run_bind, run_sizeOf hn, Result.andThen, hv]
  simp [hr]

end Go.Proofs.YtaaondbmkibkkaaGreat.Csl

/- Operations on memory, calls, returns. Nothing of a program stands here. -/
set_option linter.unusedVariables false
set_option linter.unusedSimpArgs false
namespace Go.Proofs.YtaaondbmkibkkaaGreat.Csl
open Go

theorem St.find {G : Gp} {p : HProp} {A B : List HProp} {w : World} (f : Find p A B) (s : St G A w) : St G (p :: B) w := s.perm f.perm

section
variable {c : Cx} {G : Gp} {ops : Array Oper} {k : KT} {e : Env} {A A' : List HProp} {l : List Oper}
variable {d : Nat} {t tt : TypeId} {pos : String} {af : Array Edge} {gd : Option (Nat × Bool)} {x y : Operand}
variable {b i n : Nat} {T : TypeId} {cs : List Value} {v : Value}

theorem RunL.load1 (hx : opv e x = some (.pointer (some ⟨b, i, none⟩))) (hf : Find (row b T cs) A A') (hc : cs[i]? = some v) (ha : isAggOf c.P t = some false)
    (hw : Wt ops e ⟨some d, .load t x, tt, pos, af, gd⟩ true) (hlt : Nat.blt d c.fn.ntmps = true) (next : RunL c G ops l k ((d, v) :: e) A) : RunL c G ops (⟨some d, .load t x, tt, pos, af, gd⟩ :: l) k e A := by
  refine RunL.val (X := Unit) (v := fun _ => v) (A' := fun _ => A) hw rfl hlt (fun a w h s => ⟨(), w, ?_, s⟩) (fun _ => next)
  have h1 := h.opv hx
  generalize a.eval = ρ at h1 ⊢
  simp only [execOp, h1, Instr.loadAt, Instr.sureAddr]
  simp [run_loadVar1 ha (s.find hf).seen hc]
theorem RunL.load1R (hx : opv e x = some (.pointer (some ⟨b, i, none⟩))) (hr : Ro G b T cs) (hc : cs[i]? = some v) (ha : isAggOf c.P t = some false)
    (hw : Wt ops e ⟨some d, .load t x, tt, pos, af, gd⟩ true) (hlt : Nat.blt d c.fn.ntmps = true) (next : RunL c G ops l k ((d, v) :: e) A) : RunL c G ops (⟨some d, .load t x, tt, pos, af, gd⟩ :: l) k e A := by
  refine RunL.val (X := Unit) (v := fun _ => v) (A' := fun _ => A) hw rfl hlt (fun a w h s => ⟨(), w, ?_, s⟩) (fun _ => next)
  have h1 := h.opv hx
  generalize a.eval = ρ at h1 ⊢
  simp only [execOp, h1, Instr.loadAt, Instr.sureAddr]
  simp [run_loadVar1 ha (hr.seen s) hc]
theorem RunL.loadN {vs : List Value} (hx : opv e x = some (.pointer (some ⟨b, i, none⟩))) (hf : Find (row b T cs) A A') (ha : isAggOf c.P t = some true) (hn : sizeIs c.P t = some n) (hl : i + n ≤ cs.length) (hc : (cs.drop i).take n = vs)
    (hw : Wt ops e ⟨some d, .load t x, tt, pos, af, gd⟩ true) (hlt : Nat.blt d c.fn.ntmps = true) (next : RunL c G ops l k ((d, .agg vs.toArray) :: e) A) : RunL c G ops (⟨some d, .load t x, tt, pos, af, gd⟩ :: l) k e A := by
  refine RunL.val (X := Unit) (v := fun _ => .agg vs.toArray) (A' := fun _ => A) hw rfl hlt (fun a w h s => ⟨(), w, ?_, s⟩) (fun _ => next)
  have h1 := h.opv hx
  generalize a.eval = ρ at h1 ⊢
  simp only [execOp, h1, Instr.loadAt, Instr.sureAddr]
  simp [run_loadVarN ha hn (s.find hf).seen hl, hc]
theorem RunL.loadNR {vs : List Value} (hx : opv e x = some (.pointer (some ⟨b, i, none⟩))) (hr : Ro G b T cs) (ha : isAggOf c.P t = some true) (hn : sizeIs c.P t = some n) (hl : i + n ≤ cs.length) (hc : (cs.drop i).take n = vs)
    (hw : Wt ops e ⟨some d, .load t x, tt, pos, af, gd⟩ true) (hlt : Nat.blt d c.fn.ntmps = true) (next : RunL c G ops l k ((d, .agg vs.toArray) :: e) A) : RunL c G ops (⟨some d, .load t x, tt, pos, af, gd⟩ :: l) k e A := by
  refine RunL.val (X := Unit) (v := fun _ => .agg vs.toArray) (A' := fun _ => A) hw rfl hlt (fun a w h s => ⟨(), w, ?_, s⟩) (fun _ => next)
  have h1 := h.opv hx
  generalize a.eval = ρ at h1 ⊢
  simp only [execOp, h1, Instr.loadAt, Instr.sureAddr]
  simp [run_loadVarN ha hn (hr.seen s) hl, hc]
/-- A store of 'n' cells. -/
theorem RunL.store (hx : opv e x = some (.pointer (some ⟨b, i, none⟩))) (hy : opv e y = some v) (hf : Find (row b T cs) A A') (hn : sizeIs c.P t = some n) (hv : v.cells.size = n) (h1 : ∀ u ∈ v.cells.toList, u.isOne = true) (hl : i + n ≤ cs.length)
    (hw : Wt ops e ⟨none, .store t x y, tt, pos, af, gd⟩ true) (next : RunL c G ops l k e (row b T (setRange cs i v.cells.toList) :: A')) : RunL c G ops (⟨none, .store t x y, tt, pos, af, gd⟩ :: l) k e A := by
  refine RunL.unit hw rfl (fun a w h s => ?_) next
  have e1 := h.opv hx; have e2 := h.opv hy
  generalize a.eval = ρ at e1 e2 ⊢
  obtain ⟨w', hr, s'⟩ := run_storeVar (P := c.P) hn hv h1 (s.find hf) hl
  refine ⟨w', ?_, s'⟩
  simp only [execOp, e1, e2, Instr.storeAt, Instr.sureAddr]
  simp [hr]
theorem setRange_one {cs : List Value} {i : Nat} {v : Value} (h : i < cs.length) : setRange cs i [v] = cs.set i v := by
  rw [← set_setRange (by simp only [List.length_nil]; omega), setRange_nil]
/-- A store of one cell. -/
theorem RunL.store1 (hx : opv e x = some (.pointer (some ⟨b, i, none⟩))) (hy : opv e y = some v) (hf : Find (row b T cs) A A') (hn : sizeIs c.P t = some 1) (hv : v.isOne = true) (hl : i < cs.length)
    (hw : Wt ops e ⟨none, .store t x y, tt, pos, af, gd⟩ true) (next : RunL c G ops l k e (row b T (cs.set i v) :: A')) : RunL c G ops (⟨none, .store t x y, tt, pos, af, gd⟩ :: l) k e A := by
  have hc : v.cells = #[v] := by cases v <;> first | rfl | cases hv
  refine RunL.store hx hy hf hn (by simp [hc]) (by simp [hc, hv]) (by omega) hw ?_
  rw [hc, setRange_one hl]; exact next

theorem RunL.alloc {z : Value} (hz : zeroIs c.P t = some z) (hw : Wt ops e ⟨some d, .alloc t, tt, pos, af, gd⟩ true) (hlt : Nat.blt d c.fn.ntmps = true)
    (next : ∀ b, RunL c G ops l k ((d, .pointer (some ⟨b, 0, none⟩)) :: e) (row b t z.cells.toList :: A)) : RunL c G ops (⟨some d, .alloc t, tt, pos, af, gd⟩ :: l) k e A := by
  refine RunL.val (v := fun b => .pointer (some ⟨b, 0, none⟩)) (A' := fun b => row b t z.cells.toList :: A) hw rfl hlt (fun a w h s => ⟨w.heap.size, { w with heap := w.heap.push (.cells z.cells t) }, ?_, by simpa using s.alloc t z.cells.toList⟩) next
  generalize a.eval = ρ
  simp only [execOp, Instr.alloc]
  simp [run_zero hz, newVar, newRow]
theorem RunL.box (hx : opv e x = some v) (hw : Wt ops e ⟨some d, .box t x, tt, pos, af, gd⟩ true) (hlt : Nat.blt d c.fn.ntmps = true)
    (next : ∀ b, RunL c G ops l k ((d, .pointer (some ⟨b, 0, none⟩)) :: e) (row b t v.cells.toList :: A)) : RunL c G ops (⟨some d, .box t x, tt, pos, af, gd⟩ :: l) k e A := by
  refine RunL.val (v := fun b => .pointer (some ⟨b, 0, none⟩)) (A' := fun b => row b t v.cells.toList :: A) hw rfl hlt (fun a w h s => ⟨w.heap.size, { w with heap := w.heap.push (.cells v.cells t) }, ?_, by simpa using s.alloc t v.cells.toList⟩) next
  have h1 := h.opv hx
  generalize a.eval = ρ at h1 ⊢
  simp only [execOp, h1, Instr.box]
  simp [newVar, newRow]
end

/-! ### Operations that touch no memory -/
section
variable {P : Program} {e : Env} {d : Option Tmp} {t tt : TypeId} {pos : String} {af : Array Edge} {gd : Option (Nat × Bool)} {x y : Operand}
theorem run_fieldAt {w : World} {b off i fo : Nat} (h : fieldOff P t i = some fo) : (Instr.fieldAt t (.pointer (some ⟨b, off, none⟩)) i).run P w = .ok (.pointer (some ⟨b, off + fo, none⟩)) w := by
  unfold fieldOff at h
  split at h
  · rename_i fs hu
    split at h
    · rename_i f hf
      split at h
      · rename_i n hn
        split at h
        · cases h
        · rename_i hs
          cases h
          simp only [Instr.fieldAt, Sem.run_bind, run_underlying hu, Result.andThen, hf, Instr.sureAddr, Sem.run_pure, fieldPlace, sizeOf, typeInfo, run_program]
          simp [hn, hs, add_off]
      · cases h
    · cases h
  · cases h
theorem Pure.fieldAddr {b off i fo : Nat} (hx : opv e x = some (.pointer (some ⟨b, off, none⟩))) (h : fieldOff P t i = some fo) : Pure P e ⟨d, .fieldAddr t x i, tt, pos, af, gd⟩ (.pointer (some ⟨b, off + fo, none⟩)) := fun ρ w ho => by
  have h1 := ho _ _ hx
  simp only [execOp, h1]; simp [run_fieldAt h]
theorem Pure.indexAddr {b off len cap sz : Nat} {E : TypeId} {k : IntKind} {i : Int} (hx : opv e x = some (.slice (some ⟨b, off, none⟩) len cap)) (hy : opv e y = some (.int k i)) (ht : P.underlying t = some (.slice E)) (hs : sizeIs P E = some sz)
    (h0 : 0 ≤ i) (h1 : i < len) : Pure P e ⟨d, .indexAddr t x y, tt, pos, af, gd⟩ (.pointer (some ⟨b, off + i.toNat * sz, none⟩)) := fun ρ w ho => by
  have e1 := ho _ _ hx; have e2 := ho _ _ hy
  simp only [execOp, e1, e2, Instr.indexAt, asIntOf]
  simp [run_underlying ht, run_sizeOf hs, h0, h1, add_off]
theorem Pure.indexStr {s : ByteArray} {k : IntKind} {i : Int} (hx : opv e x = some (.string s)) (hy : opv e y = some (.int k i)) (ht : P.underlying t = some .string)
    (h0 : 0 ≤ i) (h1 : i < s.size) : Pure P e ⟨d, .index t x y, tt, pos, af, gd⟩ (.int .u8 (s.data.toList.getD i.toNat 0).toNat) := fun ρ w ho => by
  have e1 := ho _ _ hx; have e2 := ho _ _ hy
  have hlt : i.toNat < s.size := by omega
  have hg : s[i.toNat]? = some (s.data.toList.getD i.toNat 0) := by
    rw [getElem?_pos s i.toNat hlt]
    congr 1
    rw [List.getD_eq_getElem?_getD, List.getElem?_eq_getElem (by simpa using hlt)]; rfl
  simp only [execOp, e1, e2, Instr.index, asIntOf]
  simp [run_underlying ht, h0, h1, hg]
  rfl
theorem Pure.lenStr {s : ByteArray} {ats : Array TypeId} {t0 : TypeId} (hx : opv e x = some (.string s)) (ha : ats[0]? = some t0) (ht : P.underlying t0 = some .string) : Pure P e ⟨d, .call ⟨.builtin .len, #[x], ats⟩, tt, pos, af, gd⟩ (.int .i64 s.size) := fun ρ w ho => by
  have e1 := ho _ _ hx
  simp only [execOp, resolve, invoke, builtin, Builtin.len_]
  simp [e1, ha, run_underlying ht, goInt, invoke, builtin, Builtin.len_]
theorem Pure.lenSl {a : Option Addr} {n m : Nat} {E : TypeId} {ats : Array TypeId} {t0 : TypeId} (hx : opv e x = some (.slice a n m)) (ha : ats[0]? = some t0) (ht : P.underlying t0 = some (.slice E)) : Pure P e ⟨d, .call ⟨.builtin .len, #[x], ats⟩, tt, pos, af, gd⟩ (.int .i64 n) := fun ρ w ho => by
  have e1 := ho _ _ hx
  simp only [execOp, resolve, invoke, builtin, Builtin.len_]
  simp [e1, ha, run_underlying ht, goInt, invoke, builtin, Builtin.len_]
theorem Pure.max2 {k : IntKind} {a b : Int} {ats : Array TypeId} (hx : opv e x = some (.int k a)) (hy : opv e y = some (.int k b)) : Pure P e ⟨d, .call ⟨.builtin .max, #[x, y], ats⟩, tt, pos, af, gd⟩ (.int k (max a b)) := fun ρ w ho => by
  have e1 := ho _ _ hx; have e2 := ho _ _ hy
  have hm : (if b > a then b else a) = max a b := by split <;> omega
  simp only [execOp, resolve]
  simp [e1, e2, invoke, builtin, Builtin.max_, Builtin.max2, hm]
theorem Pure.min2 {k : IntKind} {a b : Int} {ats : Array TypeId} (hx : opv e x = some (.int k a)) (hy : opv e y = some (.int k b)) : Pure P e ⟨d, .call ⟨.builtin .min, #[x, y], ats⟩, tt, pos, af, gd⟩ (.int k (min a b)) := fun ρ w ho => by
  have e1 := ho _ _ hx; have e2 := ho _ _ hy
  have hm : (if b < a then b else a) = min a b := by split <;> omega
  simp only [execOp, resolve]
  simp [e1, e2, invoke, builtin, Builtin.min_, Builtin.min2, hm]
theorem Pure.makeFunc {f : Fn} {as bs : Array Operand} {va vb : List Value} (ha : opvs e as.toList = some va) (hb : opvs e bs.toList = some vb) : Pure P e ⟨d, .makeFunc f as bs, tt, pos, af, gd⟩ (.func f va.toArray vb.toArray) := fun ρ w ho => by
  have h1 := Ev.opvs ho ha; have h2 := Ev.opvs ho hb
  have h1' : as.map ρ = va.toArray := by rw [← h1, List.map_toArray, Array.toArray_toList]
  have h2' : bs.map ρ = vb.toArray := by rw [← h2, List.map_toArray, Array.toArray_toList]
  simp [execOp, Instr.makeFunc, h1', h2']
theorem Pure.extract {vs : Array Value} {i : Nat} {v : Value} (hx : opv e x = some (.tuple vs)) (hv : vs[i]? = some v) : Pure P e ⟨d, .extract x i, tt, pos, af, gd⟩ v := fun ρ w ho => by
  have h1 := ho _ _ hx
  simp only [execOp, h1, Instr.extract, hv]; simp
theorem Pure.makeInterface {v : Value} {xt : TypeId} {dsc : TypeDesc} (hx : opv e x = some v) (ht : P.underlying xt = some dsc) (hi : (match dsc with | .interface _ => true | _ => false) = false) : Pure P e ⟨d, .makeInterface xt x, tt, pos, af, gd⟩ (.iface xt v) := fun ρ w ho => by
  have h1 := ho _ _ hx
  simp only [execOp, h1, Instr.makeInterface, Sem.run_bind, run_underlying ht, Result.andThen]
  cases dsc <;> first | (simp; done) | simp at hi
end
end Go.Proofs.YtaaondbmkibkkaaGreat.Csl

/- Slices: what a slice value stands for, owned or only read; slicing, appending, conversions. Nothing of a program stands here. -/
set_option linter.unusedVariables false
set_option linter.unusedSimpArgs false
namespace Go.Proofs.YtaaondbmkibkkaaGreat.Csl
open Go

/-- The slice '.slice a n cap' of elements of type 'T', 'sz' cells each, that owns its block and holds the cells 'cs'. -/
def Sl (T : TypeId) (sz : Nat) (a : Option Addr) (n cap : Nat) (cs : List Value) : HProp := fun h =>
  (a = none ∧ n = 0 ∧ cap = 0 ∧ cs = [] ∧ h = Hp.empty) ∨
  ∃ b pre post, a = some ⟨b, pre.length, none⟩ ∧ cs.length = n * sz ∧ n ≤ cap ∧ (cap - n) * sz ≤ post.length ∧ row b T (pre ++ cs ++ post) h
/-- The same, only read. -/
def SlR (G : Gp) (T : TypeId) (sz : Nat) (a : Option Addr) (n : Nat) (cs : List Value) : Prop :=
  (n = 0 ∧ cs = []) ∨ ∃ b T' pre post, a = some ⟨b, pre.length, none⟩ ∧ cs.length = n * sz ∧ Ro G b T' (pre ++ cs ++ post)

theorem SlR.length {G : Gp} {T : TypeId} {sz : Nat} {a : Option Addr} {n : Nat} {cs : List Value} (h : SlR G T sz a n cs) : cs.length = n * sz := by
  rcases h with ⟨rfl, rfl⟩ | ⟨b, T', pre, post, _, h, _⟩
  · simp
  · exact h
theorem SlR.join {G : Gp} {T : TypeId} {sz : Nat} {a : Option Addr} {n : Nat} {cs : List Value} {K : Hp} (h : SlR G T sz a n cs) : SlR (Gp.join G K) T sz a n cs := by
  rcases h with h | ⟨b, T', pre, post, h1, h2, h3⟩
  · exact .inl h
  · exact .inr ⟨b, T', pre, post, h1, h2, h3.join⟩
theorem St.emp {G : Gp} {A : List HProp} {w : World} (s : St G A w) : St G ((fun h => h = Hp.empty) :: A) w := by
  obtain ⟨h, g, s, d, a⟩ := s
  exact ⟨h, g, s, d, Hp.empty, h, Hp.empty_disj h, (Hp.empty_join h).symm, rfl, a⟩
theorem St.Sl_nil {G : Gp} {A : List HProp} {w : World} (T : TypeId) (sz : Nat) (s : St G A w) : St G (Sl T sz none 0 0 [] :: A) w :=
  s.emp.imp fun h e => .inl ⟨rfl, rfl, rfl, rfl, e⟩
theorem St.cases {G : Gp} {P Q : HProp} {A : List HProp} {w : World} (s : St G ((fun h => P h ∨ Q h) :: A) w) : St G (P :: A) w ∨ St G (Q :: A) w := by
  obtain ⟨h, g, s, d, h1, h2, d', e, p | q, a⟩ := s
  · exact .inl ⟨h, g, s, d, h1, h2, d', e, p, a⟩
  · exact .inr ⟨h, g, s, d, h1, h2, d', e, q, a⟩
theorem St.Sl_open {G : Gp} {A : List HProp} {w : World} {T : TypeId} {sz : Nat} {a : Option Addr} {n cap : Nat} {cs : List Value} (s : St G (Sl T sz a n cap cs :: A) w) :
    (a = none ∧ n = 0 ∧ cap = 0 ∧ cs = [] ∧ St G A w) ∨ ∃ b pre post, a = some ⟨b, pre.length, none⟩ ∧ cs.length = n * sz ∧ n ≤ cap ∧ (cap - n) * sz ≤ post.length ∧ St G (row b T (pre ++ cs ++ post) :: A) w := by
  have s0 := s
  obtain ⟨h, g, s, d, h1, h2, d', e, p | ⟨b, pre, post, x1, x2, x3, x4, x5⟩, a'⟩ := s
  · obtain ⟨p1, p2, p3, p4, p5⟩ := p
    exact .inl ⟨p1, p2, p3, p4, s0.drop⟩
  · exact .inr ⟨b, pre, post, x1, x2, x3, x4, h, g, s, d, h1, h2, d', e, x5, a'⟩
theorem St.Sl_mk {G : Gp} {A : List HProp} {w : World} {T : TypeId} {sz n cap b : Nat} {cs pre post : List Value} (h1 : cs.length = n * sz) (h2 : n ≤ cap) (h3 : (cap - n) * sz ≤ post.length)
    (s : St G (row b T (pre ++ cs ++ post) :: A) w) : St G (Sl T sz (some ⟨b, pre.length, none⟩) n cap cs :: A) w :=
  s.imp fun h r => .inr ⟨b, pre, post, rfl, h1, h2, h3, r⟩
theorem St.Sl_length {G : Gp} {A : List HProp} {w : World} {T : TypeId} {sz : Nat} {a : Option Addr} {n cap : Nat} {cs : List Value} (s : St G (Sl T sz a n cap cs :: A) w) : cs.length = n * sz ∧ n ≤ cap := by
  rcases s.Sl_open with ⟨_, rfl, rfl, rfl, _⟩ | ⟨_, _, _, _, h, h', _⟩
  · simp
  · exact ⟨h, h'⟩
/-- A slice is lent. -/
theorem St.lend_Sl {G : Gp} {A : List HProp} {w : World} {T : TypeId} {sz : Nat} {a : Option Addr} {n cap : Nat} {cs : List Value} (s : St G (Sl T sz a n cap cs :: A) w) :
    ∃ K : Hp, St (Gp.join G K) A w ∧ SlR (Gp.join G K) T sz a n cs ∧ ∀ A' w', St (Gp.join G K) A' w' → St G (Sl T sz a n cap cs :: A') w' := by
  rcases s.Sl_open with ⟨rfl, rfl, rfl, rfl, s1⟩ | ⟨b, pre, post, rfl, h1, h2, h3, s⟩
  · refine ⟨Hp.empty, by rw [Gp.join_empty]; exact s1, .inl ⟨rfl, rfl⟩, fun A' w' s' => ?_⟩
    rw [Gp.join_empty] at s'; exact s'.Sl_nil T sz
  · obtain ⟨fz, hz, hn, s⟩ := s.lend_row
    refine ⟨_, s, .inr ⟨b, T, pre, post, rfl, h1, Ro.one hn⟩, fun A' w' s' => ?_⟩
    exact St.Sl_mk h1 h2 h3 (St.mkrow hz (s'.back hn))

/-! ### Where elements come from -/
/-- 'm' elements of 'sz' cells, 'vs' all together, told by the value 'x' in the world 'w'. -/
def Src (P : Program) (w : World) (sz : Nat) (x : Value) (m : Nat) (vs : List Value) : Prop :=
  (∀ w' : World, (Builtin.lenOf x).run P w' = .ok m w') ∧ (∀ w' : World, w'.heap = w.heap → (Builtin.firstCells sz m x).run P w' = .ok vs.toArray w') ∧ vs.length = m * sz
theorem Seen.same {w w' : World} {b : Nat} {T : TypeId} {cs : List Value} (e : w'.heap = w.heap) (s : Seen w b T cs) : Seen w' b T cs := by
  obtain ⟨fz, h⟩ := s.at_; exact ⟨fz, by rw [e]; exact h⟩
theorem Seen.src {P : Program} {w : World} {b : Nat} {T : TypeId} {sz m cap : Nat} {pre vs post : List Value} (s : Seen w b T (pre ++ vs ++ post)) (h : vs.length = m * sz) : Src P w sz (.slice (some ⟨b, pre.length, none⟩) m cap) m vs := by
  refine ⟨fun _ => by simp [Builtin.lenOf], fun w' e => ?_, h⟩
  simp only [Builtin.firstCells]
  rw [run_loadCells (s.same e) (by simp; omega)]
  congr 2
  rw [List.append_assoc, List.drop_append_of_le_length (Nat.le_refl _), List.drop_length, List.nil_append, ← h, List.take_append_of_le_length (Nat.le_refl _), List.take_length]
theorem SlR.src {P : Program} {G : Gp} {A : List HProp} {w : World} {T : TypeId} {sz : Nat} {a : Option Addr} {n cap : Nat} {cs : List Value} (r : SlR G T sz a n cs) (s : St G A w) : Src P w sz (.slice a n cap) n cs := by
  rcases r with ⟨rfl, rfl⟩ | ⟨b, T', pre, post, rfl, h, r⟩
  · refine ⟨fun _ => by simp [Builtin.lenOf], fun w' e => ?_, by simp⟩
    cases a with
    | none => simp [Builtin.firstCells]
    | some a => simp [Builtin.firstCells, loadCells, loadCellsFrom]
  · exact (r.seen s).src h
theorem St.src {P : Program} {G : Gp} {A : List HProp} {w : World} {T : TypeId} {sz : Nat} {a : Option Addr} {n cap : Nat} {cs : List Value} (s : St G (Sl T sz a n cap cs :: A) w) : Src P w sz (.slice a n cap) n cs := by
  rcases s.Sl_open with ⟨rfl, rfl, rfl, rfl, s⟩ | ⟨b, pre, post, rfl, h1, h2, h3, s⟩
  · exact ⟨fun _ => by simp [Builtin.lenOf], fun _ _ => by simp [Builtin.firstCells], by simp⟩
  · exact s.seen.src h1
def bv (b : UInt8) : Value := .int .u8 b.toNat
theorem Src.str {P : Program} {w : World} (s : ByteArray) : Src P w 1 (.string s) s.size (s.data.toList.map bv) := by
  refine ⟨fun _ => by simp [Builtin.lenOf], fun w' _ => ?_, by simp⟩
  have : s.extract 0 s.size = s := ByteArray.extract_zero_size
  simp only [Builtin.firstCells, this, Sem.run_pure]
  congr 1
  apply Array.ext'
  simp [bv]

/-! ### append -/
theorem growBy_bound {need : Nat} : ∀ r c, c ≤ 2 * need + 400 → Builtin.growBy need r c ≤ 2 * need + 400
  | 0, c, h => h
  | r + 1, c, h => by
    unfold Builtin.growBy; split
    · exact h
    · rename_i hc; exact growBy_bound r _ (by omega)
theorem nextslicecap_bound {need old : Nat} (h : old < need) : Builtin.nextslicecap need old ≤ 2 * need + 400 := by
  unfold Builtin.nextslicecap; split
  · omega
  · split
    · omega
    · exact growBy_bound 4 old (by omega)
theorem length_zeroCells (z : Array Value) (n : Nat) : (Builtin.zeroCells z n).toList.length = n * z.size := by
  simp [Builtin.zeroCells]

def isInt : TypeDesc → Bool | .string => false | .slice _ => false | _ => true
/-- Where there is no room: a new row. -/
theorem run_append_new {P : Program} {G : Gp} {A : List HProp} {w : World} {st xt E : TypeId} {ats : Array TypeId} {ty : TypeId} {xd : TypeDesc} {z : Value} {sz by_ : Nat} {a : Option Addr} {n cap m : Nat} {x : Value} {cs vs : List Value}
    (hs : ats[0]? = some st) (hx : ats[1]? = some xt) (hu : P.underlying st = some (.slice E)) (hxu : P.underlying xt = some xd) (hxi : isInt xd = false)
    (hsz : sizeIs P E = some sz) (hz : zeroIs P E = some z) (hzz : z.cells.size = sz) (hb : bytesIs P E = some by_)
    (hroom : cap < n + m) (hbig : (2 * (n + m) + 400) * by_ ≤ 281474976710656) (hlen : n + m ≤ 9223372036854775807)
    (so : Src P w sz (.slice a n cap) n cs) (sx : Src P w sz x m vs) (s : St G A w) :
    ∃ a' cap' w', (Builtin.append_ ats ty #[.slice a n cap, x]).run P w = .ok (.slice a' (n + m) cap') w' ∧ St G (Sl E sz a' (n + m) cap' (cs ++ vs) :: A) w' := by
  have hi : ∀ w' : World, ∃ i, (typeInfo E).run P w' = .ok i w' ∧ i.bytes = by_ := fun w' => run_bytes hb
  have hcapb := nextslicecap_bound hroom
  have h1 : ¬ (Builtin.nextslicecap (n + m) cap * by_ > 2 ^ 48) := by
    have := Nat.mul_le_mul_right by_ hcapb
    omega
  generalize hw2 : ({ w with drawn := w.drawn + 1 } : World) = w2
  have e2 : w2.heap = w.heap := by rw [← hw2]
  generalize hq : (Question.appendCap (n + m) cap E).cut (w.tape w.drawn (.appendCap (n + m) cap E)) = newCap
  have hge : n + m ≤ newCap := by rw [← hq]; simp only [Question.cut]; exact Nat.le_add_right _ _
  have s2 : St G A w2 := s.same e2 (by rw [← hw2]; exact ⟨rfl, rfl, rfl, Nat.le_succ _⟩)
  have hmax : ¬ (((n + m : Nat) : Int) > IntKind.i64.max) := by rw [show IntKind.i64.max = 9223372036854775807 from by decide]; omega
  obtain ⟨i1, hi1, hb1⟩ := hi w
  obtain ⟨i2, hi2, hb2⟩ := hi w2
  refine ⟨some ⟨w2.heap.size, 0, none⟩, newCap, { w2 with heap := w2.heap.push (.cells (cs.toArray ++ vs.toArray ++ Builtin.zeroCells z.cells (newCap - (n + m))) E) }, ?_, ?_⟩
  · obtain ⟨so1, so2, so3⟩ := so
    obtain ⟨sx1, sx2, sx3⟩ := sx
    have hnle : ¬ (n + m ≤ cap) := by omega
    simp only [Builtin.append_, hs, hx]
    simp only [List.getElem?_toArray, List.getElem?_cons_zero, List.getElem?_cons_succ, Sem.run_bind, run_underlying hu, run_underlying hxu, Result.andThen_ok, run_sizeOf hsz, Sem.run_pure]
    have hxs : xd = .string ∨ ∃ E', xd = .slice E' := by cases xd <;> first | exact .inl rfl | exact .inr ⟨_, rfl⟩ | simp [isInt] at hxi
    rcases hxs with rfl | ⟨E', rfl⟩
    all_goals
      simp only [Bool.false_eq_true, if_false, Sem.run_bind, sx1, Result.andThen_ok, if_neg hnle, hi1, hb1, hmax, false_and, h1, run_choose, Question.forced, hq, hw2, hi2, hb2, run_askRoom, so2 w2 e2, sx2 w2 e2, Bool.not_false, if_true, run_zero hz]
      simp [newRow]
  · have hlz := length_zeroCells z.cells (newCap - (n + m))
    rw [hzz] at hlz
    have := s2.alloc E (([] : List Value) ++ (cs ++ vs) ++ (Builtin.zeroCells z.cells (newCap - (n + m))).toList)
    refine St.Sl_mk (pre := []) (post := (Builtin.zeroCells z.cells (newCap - (n + m))).toList) (by rw [List.length_append, so.2.2, sx.2.2, Nat.add_mul]) hge (by rw [hlz]; exact Nat.le_refl _) ?_
    have e : (([] : List Value) ++ (cs ++ vs) ++ (Builtin.zeroCells z.cells (newCap - (n + m))).toList).toArray = cs.toArray ++ vs.toArray ++ Builtin.zeroCells z.cells (newCap - (n + m)) := by
      apply Array.ext'; simp
    rw [e] at this; exact this

/-- Where there is room: the slice's own block is written. -/
theorem run_append_room {P : Program} {G : Gp} {A : List HProp} {w : World} {st xt E : TypeId} {ats : Array TypeId} {ty : TypeId} {xd : TypeDesc} {sz : Nat} {a : Option Addr} {n cap m : Nat} {x : Value} {cs vs : List Value}
    (hs : ats[0]? = some st) (hx : ats[1]? = some xt) (hu : P.underlying st = some (.slice E)) (hxu : P.underlying xt = some xd) (hxi : isInt xd = false)
    (hsz : sizeIs P E = some sz) (hroom : n + m ≤ cap) (sx : Src P w sz x m vs) (h1 : ∀ u ∈ vs, u.isOne = true) (s : St G (Sl E sz a n cap cs :: A) w) :
    ∃ a' cap' w', (Builtin.append_ ats ty #[.slice a n cap, x]).run P w = .ok (.slice a' (n + m) cap') w' ∧ St G (Sl E sz a' (n + m) cap' (cs ++ vs) :: A) w' := by
  obtain ⟨sx1, sx2, sx3⟩ := sx
  have sx2' := sx2 w rfl
  have hxs : xd = .string ∨ ∃ E', xd = .slice E' := by cases xd <;> first | exact .inl rfl | exact .inr ⟨_, rfl⟩ | simp [isInt] at hxi
  rcases s.Sl_open with ⟨rfl, rfl, rfl, rfl, s'⟩ | ⟨b, pre, post, rfl, g1, g2, g3, s'⟩
  · have hm : m = 0 := by omega
    subst hm
    have hv : vs = [] := by rw [Nat.zero_mul] at sx3; exact List.length_eq_zero_iff.1 sx3
    subst hv
    refine ⟨none, 0, w, ?_, by simpa using s⟩
    simp only [Builtin.append_, hs, hx]
    simp only [List.getElem?_toArray, List.getElem?_cons_zero, List.getElem?_cons_succ, Sem.run_bind, run_underlying hu, run_underlying hxu, Result.andThen_ok, run_sizeOf hsz, Sem.run_pure]
    rcases hxs with rfl | ⟨E', rfl⟩
    all_goals
      simp only [Bool.false_eq_true, if_false, Sem.run_bind, sx1, Result.andThen_ok, if_pos hroom, sx2', Bool.not_false, if_true]
      simp
  · have hmz : m * sz ≤ post.length := by
      have : m * sz ≤ (cap - n) * sz := Nat.mul_le_mul_right _ (by omega)
      omega
    obtain ⟨w', hr, s2⟩ := run_storeCells (P := P) (off := pre.length + n * sz) vs w (pre ++ cs ++ post) 0 s' (by simp; omega) h1
    refine ⟨some ⟨b, pre.length, none⟩, cap, w', ?_, ?_⟩
    · simp only [Builtin.append_, hs, hx]
      simp only [List.getElem?_toArray, List.getElem?_cons_zero, List.getElem?_cons_succ, Sem.run_bind, run_underlying hu, run_underlying hxu, Result.andThen_ok, run_sizeOf hsz, Sem.run_pure]
      rcases hxs with rfl | ⟨E', rfl⟩
      all_goals
        simp only [Bool.false_eq_true, if_false, Sem.run_bind, sx1, Result.andThen_ok, if_pos hroom, sx2', Bool.not_false, if_true, add_off, hr]
        simp
    · have e : setRange (pre ++ cs ++ post) (pre.length + n * sz + 0) vs = pre ++ (cs ++ vs) ++ post.drop vs.length := by
        unfold setRange
        have e1 : pre.length + n * sz + 0 = (pre ++ cs).length := by simp [g1]
        rw [e1, List.take_append_of_le_length (Nat.le_refl _), List.take_length, List.drop_append, List.drop_of_length_le (by omega)]
        simp [List.append_assoc]
      rw [e] at s2
      refine St.Sl_mk (by rw [List.length_append, g1, sx3, Nat.add_mul]) hroom ?_ s2
      rw [List.length_drop, sx3]
      have : (cap - (n + m)) * sz + m * sz = (cap - n) * sz := by rw [← Nat.add_mul]; congr 1; omega
      omega

section
variable {c : Cx} {G : Gp} {ops : Array Oper} {k : KT} {e : Env} {A A' : List HProp} {l : List Oper}
variable {d : Nat} {tt st xt E : TypeId} {pos : String} {af : Array Edge} {gd : Option (Nat × Bool)} {x y : Operand} {ats : Array TypeId} {xd : TypeDesc} {z xv : Value} {sz by_ : Nat} {a : Option Addr} {n cap m : Nat} {cs vs : List Value}
theorem exec_append {ρ : Operand → Value} {P : Program} {w : World} {dd : Option Tmp} : (execOp ρ ⟨dd, .call ⟨.builtin .append, #[x, y], ats⟩, tt, pos, af, gd⟩).run P w = ((Builtin.append_ ats tt #[ρ x, ρ y]).run P w).andThen fun v w' => .ok (.value v) w' := by
  simp only [execOp, resolve]
  simp [invoke, builtin]
/-- 'append' onto a slice that is owned. -/
theorem RunL.append (hx : opv e x = some (.slice a n cap)) (hy : opv e y = some xv) (hf : Find (Sl E sz a n cap cs) A A') (hs : ats[0]? = some st) (hxt : ats[1]? = some xt) (hu : c.P.underlying st = some (.slice E)) (hxu : c.P.underlying xt = some xd) (hxi : isInt xd = false)
    (hsz : sizeIs c.P E = some sz) (hz : zeroIs c.P E = some z) (hzz : z.cells.size = sz) (hb : bytesIs c.P E = some by_) (hbig : (2 * (n + m) + 400) * by_ ≤ 281474976710656) (hlen : n + m ≤ 9223372036854775807)
    (hsrc : ∀ w, St G A w → Src c.P w sz xv m vs) (h1 : ∀ u ∈ vs, u.isOne = true)
    {n' : Nat} {cs' : List Value} (hn' : n + m = n') (hc' : cs ++ vs = cs') (hw : Wt ops e ⟨some d, .call ⟨.builtin .append, #[x, y], ats⟩, tt, pos, af, gd⟩ true) (hlt : Nat.blt d c.fn.ntmps = true)
    (next : ∀ a' cap', RunL c G ops l k ((d, .slice a' n' cap') :: e) (Sl E sz a' n' cap' cs' :: A')) :
    RunL c G ops (⟨some d, .call ⟨.builtin .append, #[x, y], ats⟩, tt, pos, af, gd⟩ :: l) k e A := by
  subst hn'; subst hc'
  refine RunL.val (X := Option Addr × Nat) (v := fun q => .slice q.1 (n + m) q.2) (A' := fun q => Sl E sz q.1 (n + m) q.2 (cs ++ vs) :: A') hw rfl hlt (fun w0 w h s => ?_) (fun q => next q.1 q.2)
  have e1 := h.opv hx; have e2 := h.opv hy
  rw [exec_append, e1, e2]
  have s' := s.find hf
  have key : ∃ a' cap' w', (Builtin.append_ ats tt #[.slice a n cap, xv]).run c.P w = .ok (.slice a' (n + m) cap') w' ∧ St G (Sl E sz a' (n + m) cap' (cs ++ vs) :: A') w' := by
    rcases Nat.lt_or_ge cap (n + m) with hr | hr
    · obtain ⟨a', cap', w', hr', s2⟩ := run_append_new (ty := tt) hs hxt hu hxu hxi hsz hz hzz hb hr hbig hlen s'.src (hsrc w s) s'
      exact ⟨a', cap', w', hr', (s2.perm (.swap _ _ _)).drop⟩
    · exact run_append_room hs hxt hu hxu hxi hsz hr (hsrc w s) h1 s'
  obtain ⟨a', cap', w', hr, s2⟩ := key
  exact ⟨(a', cap'), w', by rw [hr]; rfl, s2⟩
/-- 'append' onto a slice without room: it is only read. -/
theorem RunL.appendN (hx : opv e x = some (.slice a n cap)) (hy : opv e y = some xv) (hs : ats[0]? = some st) (hxt : ats[1]? = some xt) (hu : c.P.underlying st = some (.slice E)) (hxu : c.P.underlying xt = some xd) (hxi : isInt xd = false)
    (hsz : sizeIs c.P E = some sz) (hz : zeroIs c.P E = some z) (hzz : z.cells.size = sz) (hb : bytesIs c.P E = some by_) (hbig : (2 * (n + m) + 400) * by_ ≤ 281474976710656) (hlen : n + m ≤ 9223372036854775807)
    (hroom : cap < n + m) (hso : ∀ w, St G A w → Src c.P w sz (.slice a n cap) n cs) (hsrc : ∀ w, St G A w → Src c.P w sz xv m vs)
    {n' : Nat} {cs' : List Value} (hn' : n + m = n') (hc' : cs ++ vs = cs') (hw : Wt ops e ⟨some d, .call ⟨.builtin .append, #[x, y], ats⟩, tt, pos, af, gd⟩ true) (hlt : Nat.blt d c.fn.ntmps = true)
    (next : ∀ a' cap', RunL c G ops l k ((d, .slice a' n' cap') :: e) (Sl E sz a' n' cap' cs' :: A)) :
    RunL c G ops (⟨some d, .call ⟨.builtin .append, #[x, y], ats⟩, tt, pos, af, gd⟩ :: l) k e A := by
  subst hn'; subst hc'
  refine RunL.val (X := Option Addr × Nat) (v := fun q => .slice q.1 (n + m) q.2) (A' := fun q => Sl E sz q.1 (n + m) q.2 (cs ++ vs) :: A) hw rfl hlt (fun w0 w h s => ?_) (fun q => next q.1 q.2)
  have e1 := h.opv hx; have e2 := h.opv hy
  rw [exec_append, e1, e2]
  obtain ⟨a', cap', w', hr, s2⟩ := run_append_new (ty := tt) hs hxt hu hxu hxi hsz hz hzz hb hroom hbig hlen (hso w s) (hsrc w s) s
  exact ⟨(a', cap'), w', by rw [hr]; rfl, s2⟩
/-- 'append' onto nil. -/
theorem RunL.append0 (hx : opv e x = some (.slice none 0 0)) (hy : opv e y = some xv) (hs : ats[0]? = some st) (hxt : ats[1]? = some xt) (hu : c.P.underlying st = some (.slice E)) (hxu : c.P.underlying xt = some xd) (hxi : isInt xd = false)
    (hsz : sizeIs c.P E = some sz) (hz : zeroIs c.P E = some z) (hzz : z.cells.size = sz) (hb : bytesIs c.P E = some by_) (hbig : (2 * m + 400) * by_ ≤ 281474976710656) (hlen : m ≤ 9223372036854775807)
    (hsrc : ∀ w, St G A w → Src c.P w sz xv m vs)
    (hw : Wt ops e ⟨some d, .call ⟨.builtin .append, #[x, y], ats⟩, tt, pos, af, gd⟩ true) (hlt : Nat.blt d c.fn.ntmps = true)
    (next : ∀ a' cap', RunL c G ops l k ((d, .slice a' m cap') :: e) (Sl E sz a' m cap' vs :: A)) :
    RunL c G ops (⟨some d, .call ⟨.builtin .append, #[x, y], ats⟩, tt, pos, af, gd⟩ :: l) k e A := by
  refine RunL.val (X := Option Addr × Nat) (v := fun q => .slice q.1 m q.2) (A' := fun q => Sl E sz q.1 m q.2 vs :: A) hw rfl hlt (fun w0 w h s => ?_) (fun q => next q.1 q.2)
  have e1 := h.opv hx; have e2 := h.opv hy
  rw [exec_append, e1, e2]
  have s' := s.Sl_nil E sz
  have sx := hsrc w s
  have key : ∃ a' cap' w', (Builtin.append_ ats tt #[.slice none 0 0, xv]).run c.P w = .ok (.slice a' (0 + m) cap') w' ∧ St G (Sl E sz a' (0 + m) cap' ([] ++ vs) :: A) w' := by
    rcases Nat.eq_zero_or_pos m with hm | hm
    · subst hm
      have hv : vs = [] := by have := sx.2.2; rw [Nat.zero_mul] at this; exact List.length_eq_zero_iff.1 this
      subst hv
      exact run_append_room hs hxt hu hxu hxi hsz (by omega) sx (by simp) s'
    · obtain ⟨a', cap', w', hr', s2⟩ := run_append_new (ty := tt) hs hxt hu hxu hxi hsz hz hzz hb (by omega : 0 < 0 + m) (by rw [Nat.zero_add]; exact hbig) (by omega) s'.src sx s'
      exact ⟨a', cap', w', hr', (s2.perm (.swap _ _ _)).drop⟩
  obtain ⟨a', cap', w', hr, s2⟩ := key
  rw [Nat.zero_add] at hr s2
  exact ⟨(a', cap'), w', by rw [hr]; rfl, s2⟩

theorem RunL.buildSlice {p : Array (Nat × Operand)} {n : Nat} {vs : List Value} {ps : List (Nat × Value)} (hu : c.P.underlying st = some (.slice E)) (hsz : sizeIs c.P E = some sz) (hz : zeroIs c.P E = some z) (hn : n * sz ≤ 16777216) (hpos : n * sz ≠ 0)
    (hp : opvs e (p.toList.map (·.2)) = some (ps.map (·.2))) (hpi : p.toList.map (·.1) = ps.map (·.1))
    (hv : Instr.fill (fun i => some (i * sz, sz)) ((Array.range (n * sz)).map (z.cells[· % z.cells.size]!)) ps = some vs.toArray) (hl : vs.length = n * sz)
    (hw : Wt ops e ⟨some d, .buildSlice st n p, tt, pos, af, gd⟩ true) (hlt : Nat.blt d c.fn.ntmps = true)
    (next : ∀ b, RunL c G ops l k ((d, .slice (some ⟨b, 0, none⟩) n n) :: e) (Sl E sz (some ⟨b, 0, none⟩) n n vs :: A)) :
    RunL c G ops (⟨some d, .buildSlice st n p, tt, pos, af, gd⟩ :: l) k e A := by
  refine RunL.val (v := fun b => .slice (some ⟨b, 0, none⟩) n n) (A' := fun b => Sl E sz (some ⟨b, 0, none⟩) n n vs :: A) hw rfl hlt (fun a w h s => ?_) next
  have h1 := Ev.opvs h.ev hp
  generalize a.eval = ρ at h1 ⊢
  have h2 : (p.map fun (i, x) => (i, ρ x)).toList = ps := by
    rw [Array.toList_map]
    have : ∀ (q : List (Nat × Operand)) (r : List (Nat × Value)), q.map (·.1) = r.map (·.1) → (q.map (·.2)).map ρ = r.map (·.2) → q.map (fun (i, x) => (i, ρ x)) = r := by
      intro q
      induction q with
      | nil => intro r a b; cases r <;> simp_all
      | cons y q ih =>
        intro r a b
        cases r with
        | nil => simp at a
        | cons u r =>
          simp only [List.map_cons, List.cons.injEq] at a b ⊢
          exact ⟨Prod.ext a.1 b.1, ih r a.2 b.2⟩
    exact this _ _ hpi h1
  have hn' : ¬ (n * sz > 2 ^ 24) := by omega
  refine ⟨w.heap.size, { w with heap := w.heap.push (.cells vs.toArray E) }, ?_, ?_⟩
  · simp only [execOp, Instr.buildSlice, Sem.run_bind, run_underlying hu, Result.andThen_ok, run_sizeOf hsz, if_neg hn', if_neg hpos, run_zero hz, Sem.run_pure, h2, hv]
    simp [newRow, run_zero hz, hv, h2]
  · have := s.alloc E ([] ++ vs ++ [])
    simp only [List.nil_append, List.append_nil] at this
    exact St.Sl_mk (pre := []) (post := []) hl (Nat.le_refl _) (by simp) (by simpa using this)
end
end Go.Proofs.YtaaondbmkibkkaaGreat.Csl

/- Conversions, slicing, calls, returns, contracts. Nothing of a program stands here. -/
set_option linter.unusedVariables false
set_option linter.unusedSimpArgs false
namespace Go.Proofs.YtaaondbmkibkkaaGreat.Csl
open Go

theorem foldl_push (bs : List UInt8) : ∀ s : ByteArray, (bs.map fun b => (b.toNat : Int)).foldl (fun r n => r.push (UInt8.ofNat n.toNat)) s = ⟨s.data ++ bs.toArray⟩ := by
  induction bs with
  | nil => intro s; simp
  | cons b bs ih =>
    intro s
    simp only [List.map_cons, List.foldl_cons]
    rw [ih]
    have : (s.push (UInt8.ofNat (b.toNat : Int).toNat)).data = s.data.push b := by
      simp [ByteArray.push]
    rw [this]
    congr 1
    apply Array.ext'; simp
theorem run_bytesStr {P : Program} {w : World} {st dt E : TypeId} {a : Option Addr} {n cap : Nat} {bs : List UInt8} (hs : P.underlying st = some (.slice E)) (he : P.underlying E = some (.int .u8)) (hd : P.underlying dt = some .string)
    (h : Src P w 1 (.slice a n cap) n (bs.map bv)) : (convert st dt (.slice a n cap)).run P w = .ok (.string ⟨bs.toArray⟩) w := by
  rw [run_convert_bytes_string w st dt E a n cap hs he hd]
  have hn : bs.length = n := by have := h.2.2; simp at this; omega
  cases a with
  | none =>
    have := h.2.1 w rfl
    simp only [Builtin.firstCells, Sem.run_pure] at this
    have hb : bs = [] := by
      have h2 : (bs.map bv).toArray = #[] := by injection this with h2 _; exact h2.symm
      simpa using h2
    subst hb
    simp only [Conv.bytesToString, Sem.run_pure]; rfl
  | some ad =>
    have h1 := h.2.1 w rfl
    simp only [Builtin.firstCells, Nat.mul_one] at h1
    have h2 : (bs.map bv) = (bs.map fun b => (b.toNat : Int)).map (Value.int .u8) := by simp [bv]
    rw [h2] at h1
    rw [run_bytesToString w ad n cap _ h1, foldl_push]
    congr 3
    apply Array.ext'; simp

section
variable {c : Cx} {G : Gp} {ops : Array Oper} {k : KT} {e : Env} {A A' : List HProp} {l : List Oper}
variable {d : Nat} {tt st dt E : TypeId} {pos : String} {af : Array Edge} {gd : Option (Nat × Bool)} {x y : Operand}
theorem RunL.bytesStr {a : Option Addr} {n cap : Nat} {bs : List UInt8} (hx : opv e x = some (.slice a n cap)) (hs : c.P.underlying st = some (.slice E)) (he : c.P.underlying E = some (.int .u8)) (hd : c.P.underlying dt = some .string)
    (hsrc : ∀ w, St G A w → Src c.P w 1 (.slice a n cap) n (bs.map bv))
    (hw : Wt ops e ⟨some d, .convert st dt x, tt, pos, af, gd⟩ true) (hlt : Nat.blt d c.fn.ntmps = true) (next : RunL c G ops l k ((d, .string ⟨bs.toArray⟩) :: e) A) : RunL c G ops (⟨some d, .convert st dt x, tt, pos, af, gd⟩ :: l) k e A := by
  refine RunL.val (X := Unit) (v := fun _ => .string ⟨bs.toArray⟩) (A' := fun _ => A) hw rfl hlt (fun a w h s => ⟨(), w, ?_, s⟩) (fun _ => next)
  have h1 := h.opv hx
  generalize a.eval = ρ at h1 ⊢
  simp only [execOp, h1, Sem.run_bind, run_bytesStr hs he hd (hsrc w s), Result.andThen_ok, Sem.run_pure]
theorem RunL.strBytes {s : ByteArray} {u : TypeDesc} (hx : opv e x = some (.string s)) (hs : c.P.underlying st = some u) (hd : c.P.underlying dt = some (.slice E)) (he : c.P.underlying E = some (.int .u8))
    (hw : Wt ops e ⟨some d, .convert st dt x, tt, pos, af, gd⟩ true) (hlt : Nat.blt d c.fn.ntmps = true)
    (next : ∀ a cap, RunL c G ops l k ((d, .slice a s.size cap) :: e) (Sl E 1 a s.size cap (s.data.toList.map bv) :: A)) : RunL c G ops (⟨some d, .convert st dt x, tt, pos, af, gd⟩ :: l) k e A := by
  refine RunL.val (X := Option Addr × Nat) (v := fun q => .slice q.1 s.size q.2) (A' := fun q => Sl E 1 q.1 s.size q.2 (s.data.toList.map bv) :: A) hw rfl hlt (fun a w h sx => ?_) (fun q => next q.1 q.2)
  have h1 := h.opv hx
  generalize a.eval = ρ at h1 ⊢
  refine ⟨(some ⟨w.heap.size, 0, none⟩, grownCap w s.size 0 E), Lib.bytesWorld w E s, ?_, ?_⟩
  · simp only [execOp, h1, Sem.run_bind, Lib.run_convert_string_bytes w st dt E s hs hd he, Result.andThen_ok, Sem.run_pure]
  · have hnew := Lib.bytesWorld_at_new w E s
    have hs2 := sx.pt_new (w' := Lib.bytesWorld w E s) hnew (fun c hc => Lib.bytesWorld_at_old w E s c hc) (by simp [Alike3, Lib.bytesWorld, World.freeze, World.alloc, World.drew, -World.alloc_eq, -World.drew_eq])
    have hcells : Lib.bytesCells w E s = ([] ++ s.data.toList.map bv ++ List.replicate (grownCap w s.size 0 E - s.size) (Value.int .u8 0)).toArray := by
      apply Array.ext'; simp [Lib.bytesCells, bv]
    rw [hcells] at hs2
    have hge : s.size ≤ grownCap w s.size 0 E := by
      unfold grownCap; simp only [Question.cut]; omega
    refine St.Sl_mk (pre := []) (by simp) hge (by simp) (St.mkrow (fz := _) ?_ hs2)
    right; simp
end

/-! ### Slicing -/
section
variable {P : Program} {e : Env} {d : Option Tmp} {t tt : TypeId} {pos : String} {af : Array Edge} {gd : Option (Nat × Bool)} {x y z : Operand}
theorem run_sliceBound {w : World} {kk : IntKind} {i : Int} {y : Nat} {code : BoundsCode} (h0 : 0 ≤ i) (h1 : i ≤ y) : (Instr.sliceBound (.int kk i) y code).run P w = .ok i.toNat w := by
  simp [Instr.sliceBound, asIntOf, h0, h1]
/-- s[i:j] of a text. -/
theorem Pure.sliceStr {s : ByteArray} {k1 k2 : IntKind} {i j : Int} (hx : opv e x = some (.string s)) (hy : opv e y = some (.int k1 i)) (hz : opv e z = some (.int k2 j)) (ht : P.underlying t = some .string)
    (h0 : 0 ≤ i) (h1 : i ≤ j) (h2 : j ≤ s.size) : Pure P e ⟨d, .slice t x (some y) (some z) none, tt, pos, af, gd⟩ (.string (s.extract i.toNat j.toNat)) := fun ρ w ho => by
  have e1 := ho _ _ hx; have e2 := ho _ _ hy; have e3 := ho _ _ hz
  simp only [execOp, e1, Instr.sliceAt, Option.map_some, e2, e3, Option.map_none, Sem.run_bind, run_underlying ht, Result.andThen_ok, Instr.slice]
  simp only [Instr.sliceBounds, Sem.run_bind, Option.isSome_none, Bool.false_eq_true, if_false, Sem.run_pure, Result.andThen_ok, run_sliceBound (P := P) (w := w) (kk := k2) (code := .sliceAlen) (by omega : 0 ≤ j) h2]
  rw [run_sliceBound h0 (by omega)]
  simp
/-- s[i:] of a text. -/
theorem Pure.sliceStrFrom {s : ByteArray} {k1 : IntKind} {i : Int} (hx : opv e x = some (.string s)) (hy : opv e y = some (.int k1 i)) (ht : P.underlying t = some .string)
    (h0 : 0 ≤ i) (h1 : i ≤ s.size) : Pure P e ⟨d, .slice t x (some y) none none, tt, pos, af, gd⟩ (.string (s.extract i.toNat s.size)) := fun ρ w ho => by
  have e1 := ho _ _ hx; have e2 := ho _ _ hy
  simp only [execOp, e1, Instr.sliceAt, Option.map_some, e2, Option.map_none, Sem.run_bind, run_underlying ht, Result.andThen_ok, Instr.slice]
  simp only [Instr.sliceBounds, Sem.run_bind, Option.isSome_none, Bool.false_eq_true, if_false, Sem.run_pure, Result.andThen_ok]
  rw [run_sliceBound h0 h1]
  simp
/-- s[:j] of a text. -/
theorem Pure.sliceStrTo {s : ByteArray} {k2 : IntKind} {j : Int} (hx : opv e x = some (.string s)) (hz : opv e z = some (.int k2 j)) (ht : P.underlying t = some .string)
    (h0 : 0 ≤ j) (h2 : j ≤ s.size) : Pure P e ⟨d, .slice t x none (some z) none, tt, pos, af, gd⟩ (.string (s.extract 0 j.toNat)) := fun ρ w ho => by
  have e1 := ho _ _ hx; have e3 := ho _ _ hz
  simp only [execOp, e1, Instr.sliceAt, Option.map_some, e3, Option.map_none, Sem.run_bind, run_underlying ht, Result.andThen_ok, Instr.slice]
  simp only [Instr.sliceBounds, Sem.run_bind, Option.isSome_none, Bool.false_eq_true, if_false, Sem.run_pure, Result.andThen_ok, run_sliceBound (P := P) (w := w) (kk := k2) (code := .sliceAlen) h0 h2]
/-- Where the cut slice begins. -/
def cutAt (a : Option Addr) (l m sz : Nat) : Option Addr := if m = l then a else a.map (·.add (l * sz))
theorem run_sliceSl {w : World} {E : TypeId} {sz : Nat} {a : Option Addr} {n cap : Nat} {lo hi mx : Option Value} {l h m : Nat} (ht : P.underlying t = some (.slice E)) (hs : sizeIs P E = some sz)
    (hb : (Instr.sliceBounds true n cap lo hi mx).run P w = .ok (l, h, m) w) : (Instr.sliceAt t (.slice a n cap) lo hi mx).run P w = .ok (.slice (cutAt a l m sz) (h - l) (m - l)) w := by
  simp only [Instr.sliceAt, Sem.run_bind, run_underlying ht, Result.andThen_ok, Instr.slice, hb, run_sizeOf hs, Sem.run_pure, cutAt]
theorem Pure.sliceTo {E : TypeId} {sz : Nat} {a : Option Addr} {n cap : Nat} {k2 : IntKind} {j : Int} (hx : opv e x = some (.slice a n cap)) (hz : opv e z = some (.int k2 j)) (ht : P.underlying t = some (.slice E)) (hs : sizeIs P E = some sz)
    (h0 : 0 ≤ j) (h2 : j ≤ cap) : Pure P e ⟨d, .slice t x none (some z) none, tt, pos, af, gd⟩ (.slice a j.toNat cap) := fun ρ w ho => by
  have e1 := ho _ _ hx; have e3 := ho _ _ hz
  simp only [execOp, e1, Option.map_some, e3, Option.map_none, Sem.run_bind]
  rw [run_sliceSl ht hs (l := 0) (h := j.toNat) (m := cap) (by simp [Instr.sliceBounds, run_sliceBound h0 h2])]
  have : cutAt a 0 cap sz = a := by
    unfold cutAt; split
    · rfl
    · cases a with
      | none => rfl
      | some a => simp [Addr.add]
  simp [this]
theorem Pure.sliceTo3 {E : TypeId} {sz : Nat} {a : Option Addr} {n cap : Nat} {k2 k3 : IntKind} {j m : Int} {u : Operand} (hx : opv e x = some (.slice a n cap)) (hz : opv e z = some (.int k2 j)) (hu : opv e u = some (.int k3 m)) (ht : P.underlying t = some (.slice E)) (hs : sizeIs P E = some sz)
    (h0 : 0 ≤ j) (h1 : j ≤ m) (h2 : m ≤ cap) : Pure P e ⟨d, .slice t x none (some z) (some u), tt, pos, af, gd⟩ (.slice a j.toNat m.toNat) := fun ρ w ho => by
  have e1 := ho _ _ hx; have e3 := ho _ _ hz; have e4 := ho _ _ hu
  simp only [execOp, e1, Option.map_some, e3, e4, Option.map_none, Sem.run_bind]
  rw [run_sliceSl ht hs (l := 0) (h := j.toNat) (m := m.toNat) (by simp [Instr.sliceBounds, run_sliceBound (P := P) (w := w) (kk := k3) (code := .slice3Acap) (by omega : 0 ≤ m) h2, run_sliceBound (P := P) (w := w) (kk := k2) (code := .slice3B) h0 (by omega : j ≤ (m.toNat : Nat))])]
  have : cutAt a 0 m.toNat sz = a := by
    unfold cutAt; split
    · rfl
    · cases a with
      | none => rfl
      | some a => simp [Addr.add]
  simp [this]
theorem Pure.sliceFrom {E : TypeId} {sz : Nat} {a : Option Addr} {n cap : Nat} {k1 : IntKind} {i : Int} (hx : opv e x = some (.slice a n cap)) (hy : opv e y = some (.int k1 i)) (ht : P.underlying t = some (.slice E)) (hs : sizeIs P E = some sz)
    (h0 : 0 ≤ i) (h2 : i ≤ n) : Pure P e ⟨d, .slice t x (some y) none none, tt, pos, af, gd⟩ (.slice (cutAt a i.toNat cap sz) (n - i.toNat) (cap - i.toNat)) := fun ρ w ho => by
  have e1 := ho _ _ hx; have e3 := ho _ _ hy
  simp only [execOp, e1, Option.map_some, e3, Option.map_none, Sem.run_bind]
  rw [run_sliceSl ht hs (l := i.toNat) (h := n) (m := cap) (by simp [Instr.sliceBounds, run_sliceBound h0 h2])]
  rfl
theorem Pure.sliceMid {E : TypeId} {sz : Nat} {a : Option Addr} {n cap : Nat} {k1 k2 : IntKind} {i j : Int} (hx : opv e x = some (.slice a n cap)) (hy : opv e y = some (.int k1 i)) (hz : opv e z = some (.int k2 j)) (ht : P.underlying t = some (.slice E)) (hs : sizeIs P E = some sz)
    (h0 : 0 ≤ i) (h1 : i ≤ j) (h2 : j ≤ cap) : Pure P e ⟨d, .slice t x (some y) (some z) none, tt, pos, af, gd⟩ (.slice (cutAt a i.toNat cap sz) (j.toNat - i.toNat) (cap - i.toNat)) := fun ρ w ho => by
  have e1 := ho _ _ hx; have e3 := ho _ _ hy; have e4 := ho _ _ hz
  simp only [execOp, e1, Option.map_some, e3, e4, Option.map_none, Sem.run_bind]
  rw [run_sliceSl ht hs (l := i.toNat) (h := j.toNat) (m := cap) (by simp [Instr.sliceBounds, run_sliceBound (P := P) (w := w) (kk := k2) (code := .sliceAcap) (by omega : 0 ≤ j) h2, run_sliceBound (P := P) (w := w) (kk := k1) (code := .sliceB) h0 (by omega : i ≤ (j.toNat : Nat))])]
  simp
end

/-! ### Contracts and calls -/
def Callable (P : Program) (f : FuncId) : Prop := ∃ fn, P.funcs[f]? = some fn ∧ (fn.name == "runtime.NumGoroutine") = false ∧ fn.body.isNone = false
abbrev Post := List HProp → Value → List HProp → Prop
/-- What a call of a function comes to: 'pre' is owned; 'post F v A' tells of the value 'v' and of all that is owned behind, 'F' being what the call did not touch. -/
def Ctr (P : Program) (G : Gp) (f : FuncId) (args : List Value) (pre : List HProp) (post : Post) : Prop :=
  Callable P f ∧ ∀ F w, St G (pre ++ F) w → Calls P f args.toArray w fun e w' => ∃ v A, e = .returned v ∧ post F v A ∧ St G A w'

def RR (G : Gp) (post : Post) (F : List HProp) (e : Ending) (w' : World) : Prop := ∃ v A, e = .returned v ∧ post F v A ∧ St G A w'
def par : Nat → List Value → Env
  | _, [] => []
  | i, v :: vs => (i, v) :: par (i + 1) vs
theorem lk_par : ∀ (vs : List Value) (i j : Nat) (v : Value), lk (par i vs) j = some v → i ≤ j ∧ vs[j - i]? = some v
  | [], i, j, v, h => by simp [par, lk] at h
  | u :: vs, i, j, v, h => by
    simp only [par, lk] at h
    split at h
    · rename_i hb; have hb := Nat.eq_of_beq_eq_true hb; cases h; subst hb; exact ⟨Nat.le_refl _, by simp⟩
    · rename_i hb
      obtain ⟨h1, h2⟩ := lk_par vs (i + 1) j v h
      refine ⟨by omega, ?_⟩
      rw [show j - i = (j - (i + 1)) + 1 from by omega, List.getElem?_cons_succ]; exact h2
theorem Ctr.intro {P : Program} {G : Gp} {f : FuncId} {fn : Func} {cd : Code} {args : List Value} {pre : List HProp} {post : Post}
    (hf : P.funcs[f]? = some fn) (hb : fn.body = some cd) (hn : (fn.name == "runtime.NumGoroutine") = false) (hl : Nat.ble args.length fn.ntmps = true)
    (h : ∀ F, Run ⟨P, f, fn, RR G post F, []⟩ G [.code cd] (par 0 args) (pre ++ F)) : Ctr P G f args pre post := by
  refine ⟨⟨fn, hf, hn, by rw [hb]; rfl⟩, fun F w s => Calls.of_ok hf hb (h F _ _ ⟨rfl, by have := Nat.le_of_ble_eq_true hl; simp; omega, fun i v hi => ?_⟩ s)⟩
  obtain ⟨_, h2⟩ := lk_par args 0 i v hi
  simp only [Nat.sub_zero] at h2
  have hlt : i < args.length := by
    rcases Nat.lt_or_ge i args.length with x | x
    · exact x
    · rw [List.getElem?_eq_none x] at h2; cases h2
  rw [Array.getElem?_append_left (by simpa using hlt)]
  simpa using h2
theorem Ctr.mono {P : Program} {G : Gp} {f : FuncId} {args : List Value} {pre : List HProp} {post post' : Post} (h : Ctr P G f args pre post) (i : ∀ F v A, post F v A → post' F v A) : Ctr P G f args pre post' :=
  ⟨h.1, fun F w s => (h.2 F w s).mono fun e w' ⟨v, A, e1, p, s'⟩ => ⟨v, A, e1, i F v A p, s'⟩⟩

/-- The frame's rest: what is dropped at the end. -/
inductive Rest (F : List HProp) : List HProp → Prop
  | here : Rest F F
  | there {p : HProp} {A : List HProp} (r : Rest F A) : Rest F (p :: A)
theorem St.rest {G : Gp} {F : List HProp} {w : World} {A : List HProp} (r : Rest F A) : St G A w → St G F w := by
  induction r with
  | here => exact id
  | there r ih => intro s; exact ih s.drop
/-- 'A2' is some of the atoms of 'A' in front of 'F'. -/
inductive Fin (F : List HProp) : List HProp → List HProp → Prop
  | done {B : List HProp} (r : Rest F B) : Fin F F B
  | cons {p : HProp} {A B A2 : List HProp} (f : Find p A B) (t : Fin F A2 B) : Fin F (p :: A2) A
theorem Fin.st {F A2 A : List HProp} (t : Fin F A2 A) : ∀ {G : Gp} {w : World}, St G A w → St G A2 w := by
  induction t with
  | done r => exact fun s => s.rest r
  | cons f t ih =>
    rintro G w s
    obtain ⟨h, g, s1, d, h1, h2, d', rfl, p, a⟩ := s.find f
    have ss := (Hp.sub_join d').1 s1
    have dd := Hp.disj_join.1 d
    -- the rest is changed with the first atom's part lent
    have s2 : St (Gp.join G h1) _ w := ⟨h2, ⟨(Hp.sub_join dd.1).2 ⟨g.1, ss.1⟩, g.2⟩, ss.2, Hp.join_disj.2 ⟨dd.2, d'⟩, a⟩
    obtain ⟨h3, g3, s3, d3, a3⟩ := ih s2
    have d4 := Hp.join_disj.1 d3
    exact ⟨Hp.join h1 h3, g, (Hp.sub_join d4.2).2 ⟨ss.1, s3⟩, Hp.disj_join.2 ⟨dd.1, d4.1⟩, h1, h3, d4.2, rfl, p, a3⟩
/-- The same atoms in another row, some of them dropped: for a loop's head, a cut. -/
theorem Run.fit {c : Cx} {G : Gp} {k : List Item} {e : Env} {F A A2 : List HProp} (t : Fin F A2 A) (r : Run c G k e A2) : Run c G k e A := fun a w h s => r a w h (t.st s)

section
variable {P : Program} {f : FuncId} {fn : Func} {G : Gp} {post : Post} {F : List HProp} {k : List Item} {e : Env} {A B A2 : List HProp} {ds : List Deferred}
theorem Run.ret {v : Value} (hf : P.funcs[f]? = some fn) (hr : ∀ a w, EnvOk (fn.ntmps, []) e a → St G A w → (results fn a.tmps).run P w = .ok v w) (hp : post F v A2) (ht : Fin F A2 A) :
    Run ⟨P, f, fn, RR G post F, []⟩ G (.code .ret :: k) e A := fun a w h s => Ok.ret hf h.1 (hr a w h s) ⟨v, A2, rfl, hp, ht.st s⟩
theorem Run.fin {v : Value} (hf : P.funcs[f]? = some fn) (hr : ∀ a w, EnvOk (fn.ntmps, []) e a → St G A w → (results fn a.tmps).run P w = .ok v w) (hp : post F v A2) (ht : Fin F A2 A) :
    Run ⟨P, f, fn, RR G post F, []⟩ G [] e A := fun a w h s => Ok.fin hf h.1 (hr a w h s) ⟨v, A2, rfl, hp, ht.st s⟩
theorem getD_lk {n : Nd} {t : Nat} {a : Act} {v : Value} (h : EnvOk n e a) (hv : lk e t = some v) : a.tmps.getD t undef = v := by
  have := h.2.2 t v hv
  simp [Array.getD_eq_getD_getElem?, this]
theorem res0 (hr : fn.results = #[]) : ∀ a w, EnvOk (fn.ntmps, ds) e a → St G A w → (results fn a.tmps).run P w = .ok (.tuple #[]) w := fun a w _ _ => results_none hr _ _ _
theorem res1 {t : Nat} {v : Value} (hr : fn.results = #[.tmp t]) (hv : lk e t = some v) : ∀ a w, EnvOk (fn.ntmps, ds) e a → St G A w → (results fn a.tmps).run P w = .ok v w := fun a w h _ => by
  rw [results_tmp hr, getD_lk h hv]
theorem res2 {t u : Nat} {v1 v2 : Value} (hr : fn.results = #[.tmp t, .tmp u]) (h1 : lk e t = some v1) (h2 : lk e u = some v2) : ∀ a w, EnvOk (fn.ntmps, ds) e a → St G A w → (results fn a.tmps).run P w = .ok (.tuple #[v1, v2]) w := fun a w h _ => by
  rw [results_tmp2 hr, getD_lk h h1, getD_lk h h2]
theorem res3 {t u q : Nat} {v1 v2 v3 : Value} (hr : fn.results = #[.tmp t, .tmp u, .tmp q]) (h1 : lk e t = some v1) (h2 : lk e u = some v2) (h3 : lk e q = some v3) : ∀ a w, EnvOk (fn.ntmps, ds) e a → St G A w → (results fn a.tmps).run P w = .ok (.tuple #[v1, v2, v3]) w := fun a w h _ => by
  have x1 := getD_lk h h1; have x2 := getD_lk h h2; have x3 := getD_lk h h3
  simp [results, hr, x1, x2, x3]
  simp [Array.getD_eq_getD_getElem?] at x1 x2 x3
  simp [x1, x2, x3]
end

theorem run_callFunc {P : Program} {f : FuncId} (h : Callable P f) (args : Array Value) (w : World) : (callFunc f args).run P w = .ok (.enter f args) w := by
  obtain ⟨fn, h1, h2, h3⟩ := h
  simp only [callFunc, Sem.run_bind, run_program, Result.andThen_ok, h1, h2, h3, Bool.false_eq_true, if_false, Sem.run_pure]

section
variable {c : Cx} {G : Gp} {ops : Array Oper} {k : KT} {e : Env} {A F : List HProp} {l : List Oper}
variable {tt : TypeId} {pos : String} {af : Array Edge} {gd : Option (Nat × Bool)} {fo : Operand} {xs : Array Operand} {ats : Array TypeId}
variable {f : FuncId} {fst cap : Array Value} {vs : List Value} {pre : List HProp} {post : Post}
/-- A call, by the callee's contract. -/
theorem RunL.callG {dd : Option Tmp} {args : List Value} (hf : opv e fo = some (.func (.func f) fst cap)) (hxs : opvs e xs.toList = some vs) (hargs : (fst ++ vs.toArray ++ cap) = args.toArray) (ht : Take pre A F) (hs : Ctr c.P G f args pre post)
    (hw : Wt ops e ⟨dd, .call ⟨.value fo, xs, ats⟩, tt, pos, af, gd⟩ true)
    (next : ∀ v A', post F v A' → ∀ a w, EnvOk c.nd e a → St G A' w → wpList c.P ops (QOk c.P c.f c.fn c.ds c.R k) l (a.put dd v) w) :
    RunL c G ops (⟨dd, .call ⟨.value fo, xs, ats⟩, tt, pos, af, gd⟩ :: l) k e A := by
  intro a w h s
  unfold wpList
  rw [if_pos (hw _ a h)]
  refine .inl ?_
  unfold Oper.wp
  have e1 := h.opv hf
  have e2 := h.opvs hxs
  have e3 : xs.map a.eval = vs.toArray := by rw [← e2, List.map_toArray, Array.toArray_toList]
  have hr : (execOp a.eval ⟨dd, .call ⟨.value fo, xs, ats⟩, tt, pos, af, gd⟩).run c.P w = .ok (.enter f args.toArray) w := by
    have h1 := run_callFunc hs.1 (fst ++ vs.toArray ++ cap) w
    generalize a.eval = ρ at e1 e3 ⊢
    simp only [execOp, resolve, e1, e3, Deferred.ofValue, Sem.run_bind, Sem.run_pure, Result.andThen_ok, invoke, h1]
    rw [hargs]
  rw [hr, Oper.upon_enter]
  refine (hs.2 F w (s.perm ht.perm)).mono ?_
  rintro en w' ⟨v, A', rfl, hp, s'⟩
  exact next v A' hp a w' h s'
theorem RunL.call {d : Nat} {args : List Value} (hf : opv e fo = some (.func (.func f) fst cap)) (hxs : opvs e xs.toList = some vs) (hargs : (fst ++ vs.toArray ++ cap) = args.toArray) (ht : Take pre A F) (hs : Ctr c.P G f args pre post)
    (hw : Wt ops e ⟨some d, .call ⟨.value fo, xs, ats⟩, tt, pos, af, gd⟩ true) (hlt : Nat.blt d c.fn.ntmps = true)
    (next : ∀ v A', post F v A' → RunL c G ops l k ((d, v) :: e) A') :
    RunL c G ops (⟨some d, .call ⟨.value fo, xs, ats⟩, tt, pos, af, gd⟩ :: l) k e A :=
  RunL.callG hf hxs hargs ht hs hw fun v A' hp a w h s => next v A' hp _ _ (h.put (blt_lt hlt)) s
theorem RunL.call0 {args : List Value} (hf : opv e fo = some (.func (.func f) fst cap)) (hxs : opvs e xs.toList = some vs) (hargs : (fst ++ vs.toArray ++ cap) = args.toArray) (ht : Take pre A F) (hs : Ctr c.P G f args pre post)
    (hw : Wt ops e ⟨none, .call ⟨.value fo, xs, ats⟩, tt, pos, af, gd⟩ true)
    (next : ∀ v A', post F v A' → RunL c G ops l k e A') :
    RunL c G ops (⟨none, .call ⟨.value fo, xs, ats⟩, tt, pos, af, gd⟩ :: l) k e A :=
  RunL.callG hf hxs hargs ht hs hw fun v A' hp a w h s => next v A' hp _ _ h s
end

/-! ### Lending to a call -/
theorem Gp.le_join {G : Gp} {K : Hp} : Gp.le G (Gp.join G K) := ⟨fun _ _ h => Hp.join_left h, fun w s => ⟨fun b o h => s.1 b o (Hp.join_left h), s.2⟩⟩
theorem Gp.le_refl (G : Gp) : Gp.le G G := ⟨fun _ _ h => h, fun _ h => h⟩
theorem Gp.le.trans {G1 G2 G3 : Gp} (h : Gp.le G1 G2) (h' : Gp.le G2 G3) : Gp.le G1 G3 := ⟨fun b o x => h'.at_ b o (h.at_ b o x), fun w s => h.sub w (h'.sub w s)⟩
theorem Ro.mono {G G' : Gp} {b : Nat} {T : TypeId} {cs : List Value} (h : Gp.le G G') (r : Ro G b T cs) : Ro G' b T cs := by
  obtain ⟨fz, r⟩ := r; exact ⟨fz, h.at_ _ _ r⟩
theorem SlR.mono {G G' : Gp} {T : TypeId} {sz : Nat} {a : Option Addr} {n : Nat} {cs : List Value} (h : Gp.le G G') (r : SlR G T sz a n cs) : SlR G' T sz a n cs := by
  rcases r with r | ⟨b, T', pre, post, h1, h2, h3⟩
  · exact .inl r
  · exact .inr ⟨b, T', pre, post, h1, h2, h3.mono h⟩
/-- An atom 'Q' that may be lent: what is known of it while it is. -/
def Lends (Q : HProp) (R : Gp → Prop) : Prop := ∀ (G : Gp) (A : List HProp) (w : World), St G (Q :: A) w → ∃ K, R (Gp.join G K) ∧ St (Gp.join G K) A w ∧ ∀ A' w', St (Gp.join G K) A' w' → St G (Q :: A') w'
theorem Lends.Sl {T : TypeId} {sz : Nat} {a : Option Addr} {n cap : Nat} {cs : List Value} : Lends (Sl T sz a n cap cs) (fun G => SlR G T sz a n cs ∧ n ≤ cap) := fun G A w s => by
  obtain ⟨K, s1, r, back⟩ := s.lend_Sl
  exact ⟨K, ⟨r, s.Sl_length.2⟩, s1, back⟩
theorem Lends.row {b : Nat} {T : TypeId} {cs : List Value} : Lends (row b T cs) (fun G => Ro G b T cs) := fun G A w s => by
  obtain ⟨fz, hz, hn, s1⟩ := s.lend_row
  exact ⟨_, Ro.one hn, s1, fun A' w' s' => St.mkrow hz (s'.back hn)⟩
/-- A contract that only reads 'Q' may be lent it. -/
theorem Ctr.lend {P : Program} {G : Gp} {f : FuncId} {args : List Value} {pre : List HProp} {post : Post} {Q : HProp} {R : Gp → Prop} (hl : Lends Q R) (hc : Callable P f)
    (hs : ∀ G', Gp.le G G' → R G' → Ctr P G' f args pre post) : Ctr P G f args (Q :: pre) (fun F v A => ∃ A', A = Q :: A' ∧ post F v A') := by
  refine ⟨hc, fun F w s => ?_⟩
  obtain ⟨K, hR, s1, back⟩ := hl G _ _ s
  refine ((hs _ Gp.le_join hR).2 F w s1).mono ?_
  rintro en w' ⟨v, A', rfl, hp, s'⟩
  exact ⟨v, Q :: A', rfl, ⟨A', rfl, hp⟩, back _ _ s'⟩

/-! ### Loops and cuts -/
theorem Run.loopR {c : Cx} {G : Gp} {k : List Item} {e : Env} {A : List HProp} {x : Code} (I : Nat → Env → List HProp → Prop) (n : Nat) (h0 : I n e A)
    (round : ∀ n e A, I n e A → (∀ m e' A', m < n → I m e' A' → Run c G (.inLoop x :: k) e' A') → Run c G (.code x :: .inLoop x :: k) e A) : Run c G (.code (.loop x) :: k) e A := by
  have key : ∀ n e A, I n e A → Run c G (.code x :: .inLoop x :: k) e A := by
    intro n
    induction n using Nat.strongRecOn with
    | _ n ih => intro e A h; exact round n e A h fun m e' A' hlt h' => (ih m hlt e' A' h').inLoop
  exact (key n e A h0).loop0
theorem Run.cut {c : Cx} {G : Gp} {k : List Item} {e : Env} {A : List HProp} {i : Item} (M : Env → List HProp → Prop) (hk : ∀ e A, M e A → Run c G k e A) (h : (∀ e A, M e A → Run c G k e A) → Run c G (i :: k) e A) : Run c G (i :: k) e A := h hk
end Go.Proofs.YtaaondbmkibkkaaGreat.Csl

/- A region whose order is drawn: what only reads what stays may be taken first; the rest comes up one by one. Nothing of a program stands here. -/
set_option linter.unusedVariables false
set_option linter.unusedSimpArgs false
namespace Go.Proofs.YtaaondbmkibkkaaGreat.Csl
open Go

/-- In every world that meets 'S' the operation leaves 'v' and nothing else. -/
def Tells (P : Program) (ops : Array Oper) (S : World → Prop) (o : Oper) (v : Value) (a : Act) : Prop :=
  (Region.wanted o (yielded ops a.tmps) = true ∧ ∀ w, S w → (execOp a.eval o).run P w = .ok (.value v) w) ∨ (Region.wanted o (yielded ops a.tmps) = false ∧ v = undef)
theorem Tells.same {P : Program} {ops : Array Oper} {S : World → Prop} {o : Oper} {v : Value} {a a' : Act} (h : Tells P ops S o v a) (he : execOp a'.eval o = execOp a.eval o) (hw : Region.wanted o (yielded ops a'.tmps) = Region.wanted o (yielded ops a.tmps)) :
    Tells P ops S o v a' := by unfold Tells at *; rw [he, hw]; exact h
theorem Tells.mono {P : Program} {ops : Array Oper} {S S' : World → Prop} {o : Oper} {v : Value} {a : Act} (i : ∀ w, S' w → S w) (h : Tells P ops S o v a) : Tells P ops S' o v a :=
  h.imp (fun ⟨hw, hv⟩ => ⟨hw, fun w hs => hv w (i w hs)⟩) id
/-- All orders, with a condition on the world that only grows. -/
def AnyS (P : Program) (ops : Array Oper) (Q : Exit → Act → World → Prop) : Nat → (World → Prop) → Array Bool → Act → World → Prop
  | 0, _, listed, a, w => Region.ready .any ops listed = [] ∧ Q .normal a w
  | n + 1, S, listed, a, w => (Region.ready .any ops listed = [] → Q .normal a w) ∧
      ∀ i ∈ Region.ready .any ops listed, wpOp P ops Q i (fun a' w' => ∃ S' : World → Prop, (∀ w, S' w → S w) ∧ S' w' ∧ AnyS P ops Q n S' (listed.setIfInBounds i true) a' w') a w
section
variable {P : Program} {ops : Array Oper} {Q : Exit → Act → World → Prop}
theorem AnyS.sound : ∀ (n : Nat) (S : World → Prop) (listed : Array Bool) (a : Act) (w : World), AnyS P ops Q n S listed a w → wpAny P .any ops Q n listed a w := by
  intro n
  induction n with
  | zero => exact fun S listed a w h => h
  | succ n ih => exact fun S listed a w h => ⟨h.1, fun i hi => wpOp_mono (fun a' w' ⟨S', _, _, r⟩ => ih S' _ _ _ r) (h.2 i hi)⟩
theorem AnyS.wide {n : Nat} {S S' : World → Prop} {listed : Array Bool} {a : Act} {w : World} (i : ∀ w, S' w → S w) (h : AnyS P ops Q n S' listed a w) : AnyS P ops Q n S listed a w := by
  cases n with
  | zero => exact h
  | succ n => exact ⟨h.1, fun j hj => wpOp_mono (fun a' w' ⟨S2, h1, h2, r⟩ => ⟨S2, fun w x => i w (h1 w x), h2, r⟩) (h.2 j hj)⟩
theorem Tells.wpOp {i : Nat} {o : Oper} {v : Value} {S : World → Prop} {a : Act} (hi : ops[i]? = some o) (hy : Tells P ops S o v a) {K : Act → World → Prop} {w : World} (hS : S w) (h : K (a.put o.dst v) w) : wpOp P ops Q i K a w := by
  unfold Go.wpOp
  simp only [hi]
  rcases hy with ⟨hw, hv⟩ | ⟨hw, rfl⟩
  · simp only [hw, if_true, Oper.wp, hv w hS, Oper.upon]; exact .inl h
  · simp only [hw, Bool.false_eq_true, if_false]; exact h
/-- An operation apart from 'oi' does not see whether 'oi' has been. -/
theorem wpOp_past {j : Nat} {oi oj : Oper} {v : Value} {S : World → Prop} (hj : ops[j]? = some oj) (hap : oi.apart ops oj = true) (hsi : ∀ cs b, oi.op ≠ .select cs b) (hsj : ∀ cs b, oj.op ≠ .select cs b)
    (hQ : ∀ c a w, Q (.panic c) (a.put oi.dst v) w → Q (.panic c) a w) {K : Act → World → Prop} {a : Act} {w : World} (hy : Tells P ops S oi v a) (h : wpOp P ops Q j K (a.put oi.dst v) w) :
    wpOp P ops Q j (fun a' w' => Tells P ops S oi v a' ∧ K (a'.put oi.dst v) w') a w := by
  obtain ⟨h1, h2, h3⟩ := Oper.apart_spec hap
  have keep : ∀ (a : Act), Tells P ops S oi v a → ∀ u, Tells P ops S oi v (a.put oj.dst u) := fun a hy u => hy.same (execOp_put oi hsi a oj.dst u h3) (wanted_put oi a oj.dst u h3)
  have keepD : ∀ d, Tells P ops S oi v { a with defers := d :: a.defers } := fun d => hy.same rfl rfl
  unfold wpOp at *
  simp only [hj] at *
  rw [wanted_put oj a oi.dst v h1] at h
  by_cases hw : Region.wanted oj (yielded ops a.tmps) = true
  · rw [if_pos hw] at h ⊢
    rcases h with h | ⟨hasks, hlets⟩
    case inr => exact .inr ⟨by unfold Oper.asks at *; rw [execOp_put oj hsj a oi.dst v h1] at hasks; exact hasks, hlets⟩
    refine .inl ?_
    unfold Oper.wp at *
    rw [execOp_put oj hsj a oi.dst v h1] at h
    generalize (execOp a.eval oj).run P w = r at *
    cases r with
    | ok n w' =>
      cases n <;> simp only [Oper.upon] at h ⊢
      case value u => exact ⟨keep a hy u, by rw [← Act.put_comm a v u h2]; exact h⟩
      case skip => exact ⟨keep a hy _, by rw [← Act.put_comm a v undef h2]; exact h⟩
      case defer d =>
        refine ⟨keep _ (keepD d) _, ?_⟩
        rw [← Act.put_comm _ v undef h2, ← Act.put_defers]
        exact h
      case enter f args =>
        refine Calls.mono h fun e w'' he => ?_
        cases e with
        | returned u => exact ⟨keep a hy u, by rw [← Act.put_comm a v u h2]; exact he⟩
        | panicked c => exact hQ _ _ _ he
        | outgrown => exact he
      case row row args => exact Rows.mono h fun u w'' he => ⟨keep a hy u, by rw [← Act.put_comm a v u h2]; exact he⟩
    | halt x w' =>
      cases x <;> simp only [Oper.upon] at h ⊢
      case panic u => exact hQ _ _ _ h
  · rw [if_neg hw] at h ⊢
    exact ⟨keep a hy _, by rw [← Act.put_comm a v undef h2]; exact h⟩
/-- What is apart: 'i' and each that is not behind it. -/
def apartAll (ops : Array Oper) (i : Nat) (oi : Oper) : Prop := ∀ j oj, ops[j]? = some oj → j ≠ i → (∀ e ∈ oj.after, Region.binds .any e = true → e.on ≠ i) → (∀ e ∈ oi.after, Region.binds .any e = true → e.on ≠ j) → oi.apart ops oj = true
def noSelect (o : Oper) : Bool := match o.op with | .select .. => false | _ => true
theorem AnyS.first {i : Nat} {oi : Oper} {v : Value} (hi : ops[i]? = some oi) (hsel : ∀ (j : Nat) (o : Oper) cs b, ops[j]? = some o → o.op ≠ .select cs b) (hQ : ∀ c a w, Q (.panic c) (a.put oi.dst v) w → Q (.panic c) a w)
    (hap : apartAll ops i oi) :
    ∀ (n : Nat) (S : World → Prop) (listed : Array Bool) (a : Act) (w : World), S w → i ∈ Region.ready .any ops listed → Tells P ops S oi v a →
      AnyS P ops Q n S (listed.setIfInBounds i true) (a.put oi.dst v) w → AnyS P ops Q (n + 1) S listed a w := by
  intro n
  induction n with
  | zero =>
    intro S listed a w hS hr hy H
    refine ⟨fun h => (by rw [h] at hr; cases hr), fun j hj => ?_⟩
    by_cases hji : j = i
    · subst hji
      exact hy.wpOp hi hS ⟨S, fun _ x => x, hS, H⟩
    · have := ready_mono hj hji
      rw [H.1] at this; cases this
  | succ n ih =>
    intro S listed a w hS hr hy H
    refine ⟨fun h => (by rw [h] at hr; cases hr), fun j hj => ?_⟩
    by_cases hji : j = i
    · subst hji
      exact hy.wpOp hi hS ⟨S, fun _ x => x, hS, H⟩
    · have hj' := ready_mono hj hji
      have hstep := H.2 j hj'
      obtain ⟨hl, oj, hoj, haft⟩ := mem_ready.1 hj
      have hil := (mem_ready.1 hr).1
      have hnot : ∀ e ∈ oj.after, Region.binds .any e = true → e.on ≠ i := by
        intro e he hb heq
        have := haft e he hb
        rw [heq] at this
        have hlt : i < listed.size := by
          rcases Nat.lt_or_ge i listed.size with x | x
          · exact x
          · simp [Array.getElem?_eq_none x] at this
        simp [hlt] at this hil
        rw [this] at hil; cases hil
      have hnot2 : ∀ e ∈ oi.after, Region.binds .any e = true → e.on ≠ j := by
        intro e he hb heq
        obtain ⟨_, oi', hoi', haft'⟩ := mem_ready.1 hr
        rw [hi] at hoi'
        cases hoi'
        have := haft' e he hb
        rw [heq] at this
        have hlt : j < listed.size := by
          rcases Nat.lt_or_ge j listed.size with x | x
          · exact x
          · simp [Array.getElem?_eq_none x] at this
        simp [hlt] at this hl
        rw [this] at hl; cases hl
      have hA := hap j oj hoj hji hnot hnot2
      refine wpOp_mono ?_ (wpOp_past hoj hA (hsel i oi · · hi) (hsel j oj · · hoj) hQ hy hstep)
      rintro a' w' ⟨hy', S', hSS, hS', hrec⟩
      refine ⟨S', hSS, hS', ?_⟩
      have hir : i ∈ Region.ready .any ops (listed.setIfInBounds j true) := ready_mono hr (fun h => hji h.symm)
      refine ih S' _ a' w' hS' hir (hy'.mono hSS) ?_
      rw [Array.setIfInBounds_comm _ _ hji]; exact hrec
end

/-! ### The symbolic form -/
/-- What is to be settled by the kernel once a region: no select, and who is apart from whom. -/
def regionOk (ops : Array Oper) : Bool :=
  ops.all noSelect && (List.range ops.size).all fun i => (List.range ops.size).all fun j =>
    i == j || (match ops[i]?, ops[j]? with
      | some oi, some oj => oj.after.any (fun e => Region.binds .any e && e.on == i) || (oi.after.any (fun e => Region.binds .any e && e.on == j) || oi.apart ops oj)
      | _, _ => true)
theorem regionOk.sel {ops : Array Oper} (h : regionOk ops = true) (j : Nat) (o : Oper) (cs : Array SelectCase) (b : Bool) (ho : ops[j]? = some o) : o.op ≠ .select cs b := by
  intro hc
  unfold regionOk at h
  rw [Bool.and_eq_true] at h
  have := Array.all_eq_true_iff_forall_mem.1 h.1 o (Array.mem_of_getElem? ho)
  simp [noSelect, hc] at this
theorem regionOk.ap {ops : Array Oper} (h : regionOk ops = true) {i : Nat} {oi : Oper} (hi : ops[i]? = some oi) : apartAll ops i oi := by
  intro j oj hj hji hn hn2
  unfold regionOk at h
  rw [Bool.and_eq_true] at h
  have li : i < ops.size := (Array.getElem?_eq_some_iff.1 hi).1
  have lj : j < ops.size := (Array.getElem?_eq_some_iff.1 hj).1
  have h2 := List.all_eq_true.1 (List.all_eq_true.1 h.2 i (List.mem_range.2 li)) j (List.mem_range.2 lj)
  simp only [hi, hj, Bool.or_eq_true] at h2
  have no : ∀ {es : Array Edge} {m : Nat}, (∀ e ∈ es, Region.binds .any e = true → e.on ≠ m) → es.any (fun e => Region.binds .any e && e.on == m) = true → False := by
    intro es m hm ha
    rw [Array.any_eq_true] at ha
    obtain ⟨k, hk, hb⟩ := ha
    rw [Bool.and_eq_true] at hb
    exact absurd (by simpa using hb.2) (hm _ (Array.getElem_mem hk) hb.1)
  rcases h2 with h2 | h2 | h2 | h2
  · exact absurd (by simpa using h2) (Ne.symm hji)
  · exact (no hn h2).elim
  · exact (no hn2 h2).elim
  · exact h2

def RunD (c : Cx) (G : Gp) (ops : Array Oper) (n : Nat) (listed : Array Bool) (k : KT) (e : Env) (A : List HProp) : Prop :=
  ∀ a w, EnvOk c.nd e a → St G A w → AnyS c.P ops (QOk c.P c.f c.fn c.ds c.R k) n (fun w => Gp.sub G w) listed a w
/-- What stands behind one operation of such a region. -/
def KD (c : Cx) (G : Gp) (ops : Array Oper) (n : Nat) (listed : Array Bool) (k : KT) : KT := fun a w =>
  ∃ S' : World → Prop, (∀ w, S' w → G.sub w) ∧ S' w ∧ AnyS c.P ops (QOk c.P c.f c.fn c.ds c.R k) n S' listed a w
theorem St.gsub {G : Gp} {A : List HProp} {w : World} (s : St G A w) : G.sub w := by obtain ⟨h, g, _⟩ := s; exact g

section
variable {c : Cx} {G : Gp} {ops : Array Oper} {k : List Item} {e : Env} {A A' : List HProp} {n : Nat} {listed : Array Bool} {kk : KT}
theorem Run.regionD {id : Nat} {l : List Oper} (hm : c.P.follows .mixedOrders = true) (r : RunD c G l.toArray l.length (Array.replicate l.length false) (Ok c.P c.f c.R k) e A) : Run c G (.code (.region id l.toArray true) :: k) e A := by
  intro a w h s
  refine Ok.regionD (fn := c.fn) (ds := c.ds) fun t => ?_
  have h2 := AnyS.sound _ _ _ _ _ (r a { w with drawn := w.drawn + 1 } h (St.same (w := w) (w' := { w with drawn := w.drawn + 1 }) rfl ⟨rfl, rfl, rfl, Nat.le_succ w.drawn⟩ s))
  simp only [Region.schedule, hm, Bool.true_or, if_true]
  exact wpAny_sound l.toArray.size t _ a _ (by simpa using h2)
/-- A quiet operation, taken first. -/
theorem RunD.quiet {i d : Nat} {o : Oper} {v : Value} (hok : regionOk ops = true) (hi : ops[i]? = some o) (hr : (Region.ready .any ops listed).contains i = true) (hd : o.dst = some d) (hlt : Nat.blt d c.fn.ntmps = true) (hw : Wt ops e o true)
    (hv : ∀ ρ w, Ev e ρ → G.sub w → (execOp ρ o).run c.P w = .ok (.value v) w)
    (next : RunD c G ops n (listed.setIfInBounds i true) kk ((d, v) :: e) A) (hds : c.ds = [] := by rfl) : RunD c G ops (n + 1) listed kk e A := by
  intro a w h s
  refine AnyS.first hi (regionOk.sel hok) ?_ (regionOk.ap hok hi) n _ listed a w s.gsub (by simpa using hr) (.inl ⟨hw _ a h, fun w' hs => hv _ w' h.ev hs⟩) ?_
  · rintro ch a' w' ⟨h1, h2, h3⟩; exact ⟨h1, fun q => by have := (h2 q).1; rw [hd] at this; exact ⟨this, (h2 q).2⟩, fun q => absurd hds q⟩
  · rw [hd]; exact next _ w (h.put (blt_lt hlt)) s
theorem RunD.pure {i d : Nat} {o : Oper} {v : Value} (hok : regionOk ops = true) (hi : ops[i]? = some o) (hr : (Region.ready .any ops listed).contains i = true) (hp : Pure c.P e o v) (hw : Wt ops e o true) (hd : o.dst = some d) (hlt : Nat.blt d c.fn.ntmps = true)
    (next : RunD c G ops n (listed.setIfInBounds i true) kk ((d, v) :: e) A) (hds : c.ds = [] := by rfl) : RunD c G ops (n + 1) listed kk e A :=
  RunD.quiet hok hi hr hd hlt hw (fun ρ w he _ => hp ρ w he) next hds
theorem RunD.not {i d : Nat} {o : Oper} (hok : regionOk ops = true) (hi : ops[i]? = some o) (hr : (Region.ready .any ops listed).contains i = true) (hd : o.dst = some d) (hlt : Nat.blt d c.fn.ntmps = true) (hw : Wt ops e o false)
    (next : RunD c G ops n (listed.setIfInBounds i true) kk ((d, undef) :: e) A) (hds : c.ds = [] := by rfl) : RunD c G ops (n + 1) listed kk e A := by
  intro a w h s
  refine AnyS.first hi (regionOk.sel hok) ?_ (regionOk.ap hok hi) n _ listed a w s.gsub (by simpa using hr) (.inr ⟨hw _ a h, rfl⟩) ?_
  · rintro ch a' w' ⟨h1, h2, h3⟩; exact ⟨h1, fun q => by have := (h2 q).1; rw [hd] at this; exact ⟨this, (h2 q).2⟩, fun q => absurd hds q⟩
  · rw [hd]; exact next _ w (h.put (blt_lt hlt)) s
theorem RunD.not0 {i : Nat} {o : Oper} (hok : regionOk ops = true) (hi : ops[i]? = some o) (hr : (Region.ready .any ops listed).contains i = true) (hd : o.dst = none) (hw : Wt ops e o false)
    (next : RunD c G ops n (listed.setIfInBounds i true) kk e A) (hds : c.ds = [] := by rfl) : RunD c G ops (n + 1) listed kk e A := by
  intro a w h s
  refine AnyS.first (v := undef) hi (regionOk.sel hok) ?_ (regionOk.ap hok hi) n _ listed a w s.gsub (by simpa using hr) (.inr ⟨hw _ a h, rfl⟩) ?_
  · rintro ch a' w' ⟨h1, h2, h3⟩; exact ⟨h1, fun q => by have := (h2 q).1; rw [hd] at this; exact ⟨this, (h2 q).2⟩, fun q => absurd hds q⟩
  · rw [hd]; exact next _ w h s
/-- The one that is ready. -/
theorem RunD.one {i : Nat} {o : Oper} (hr : Region.ready .any ops listed = [i]) (hi : ops[i]? = some o) (next : RunL c G ops [o] (KD c G ops n (listed.setIfInBounds i true) kk) e A) : RunD c G ops (n + 1) listed kk e A := by
  intro a w h s
  refine ⟨fun hx => (by rw [hr] at hx; cases hx), fun j hj => ?_⟩
  have hj : j ∈ Region.ready .any ops listed := hj
  rw [hr] at hj
  have : j = i := by simpa using hj
  subst this
  have := next a w h s
  unfold wpList at this
  unfold wpOp
  simp only [hi]
  by_cases hw : Region.wanted o (yielded ops a.tmps) = true
  · rw [if_pos hw] at this ⊢
    rcases this with this | ⟨_, x1, x2, x3⟩
    · refine .inl ?_
      unfold Oper.wp at this ⊢
      generalize (execOp a.eval o).run c.P w = r at this ⊢
      cases r with
      | ok q w' =>
        cases q <;> simp only [Oper.upon, wpList] at this ⊢ <;> first | exact this | exact Calls.mono this (fun en w2 hh => by cases en <;> exact hh) | exact Rows.mono this (fun _ _ hh => hh)
      | halt x w' => cases x <;> simp only [Oper.upon] at this ⊢ <;> exact this
    · exact x3.elim
  · rw [if_neg hw] at this ⊢
    exact this
theorem RunL.nilD {l2 : Array Bool} {G' : Gp} (hg : ∀ w, Gp.sub G' w → Gp.sub G w) (r : RunD c G' ops n l2 kk e A) : ∀ a w, EnvOk c.nd e a → St G' A w → KD c G ops n l2 kk a w := fun a w h s => ⟨fun w => Gp.sub G' w, hg, s.gsub, r a w h s⟩
theorem RunL.nilD' {l2 : Array Bool} (r : RunD c G ops n l2 kk e A) : RunL c G ops [] (KD c G ops n l2 kk) e A := fun a w h s => ⟨fun w => Gp.sub G w, fun _ x => x, s.gsub, r a w h s⟩
theorem RunD.nil {listed : Array Bool} (hr : Region.ready .any ops listed = []) (r : ∀ a w, EnvOk c.nd e a → St G A w → kk a w) : RunD c G ops 0 listed kk e A := fun a w h s => ⟨hr, r a w h s⟩
theorem RunD.split {d : Nat} {b : Bool} (hv : lk e d = some (.bool b)) (ht : b = true → RunD c G ops n listed kk ((d, .bool true) :: e) A) (hf : b = false → RunD c G ops n listed kk ((d, .bool false) :: e) A) : RunD c G ops n listed kk e A := by
  have sub : ∀ u, b = u → ∀ i v, lk ((d, .bool u) :: e) i = some v → lk e i = some v := by
    intro u hu i v h
    simp only [lk] at h
    split at h
    · rename_i hb; have hb := Nat.eq_of_beq_eq_true hb; cases h; subst hb; subst hu; exact hv
    · exact h
  intro a w h s
  cases b
  · exact hf rfl a w (h.sub (sub _ rfl)) s
  · exact ht rfl a w (h.sub (sub _ rfl)) s
/-- Something is lent for the rest of the region. -/
theorem RunD.lend {Q : HProp} {R : Gp → Prop} (hl : Lends Q R) (hf : Find Q A A') (next : ∀ G' : Gp, Gp.le G G' → R G' → (∀ A' w', St G' A' w' → St G (Q :: A') w') → RunD c G' ops n listed kk e A') : RunD c G ops n listed kk e A := by
  intro a w h s
  obtain ⟨K, hR, s1, back⟩ := hl G _ _ (s.find hf)
  have hd : Gp.le G (Gp.join G K) := Gp.le_join
  exact AnyS.wide hd.sub (next (Gp.join G K) hd hR back a w h s1)
theorem RunD.conv {A1 : List HProp} (h : ∀ w, St G A w → St G A1 w) (r : RunD c G ops n listed kk e A1) : RunD c G ops n listed kk e A := fun a w ho s => r a w ho (h w s)
end
end Go.Proofs.YtaaondbmkibkkaaGreat.Csl

/- Short forms for the scripts. Nothing of a program stands here. -/
set_option linter.unusedVariables false
set_option linter.unusedSimpArgs false
namespace Go.Proofs.YtaaondbmkibkkaaGreat.Csl
open Go

section
variable {c : Cx} {G : Gp} {ops : Array Oper} {k : KT} {e : Env} {A A' : List HProp} {l : List Oper} {st : List Item}
variable {d : Nat} {t tt : TypeId} {pos : String} {af : Array Edge} {gd : Option (Nat × Bool)} {x y : Operand} {v : Value}
theorem Run.sr {id : Nat} {l : List Oper} {z : Code} (r : RunL c G l.toArray l (Ok c.P c.f c.R (.code z :: st)) e A) : Run c G (.code (.seq (.region id l.toArray false) z) :: st) e A := Run.seq (Run.region r)
theorem RunL.mv (hx : opv e x = some v) (hlt : Nat.blt d c.fn.ntmps = true) (next : RunL c G ops l k ((d, v) :: e) A) : RunL c G ops (⟨some d, .move x, tt, pos, af, none⟩ :: l) k e A := RunL.pure (Pure.move hx) (Wt.none rfl) rfl hlt next
theorem RunL.as (hx : opv e x = some v) (hlt : Nat.blt d c.fn.ntmps = true) (next : RunL c G ops l k ((d, v) :: e) A) : RunL c G ops (⟨some d, .assign x, tt, pos, af, none⟩ :: l) k e A := RunL.pure (Pure.assign hx) (Wt.none rfl) rfl hlt next
end
section
variable {P : Program} {e : Env} {d : Option Tmp} {t tt : TypeId} {pos : String} {af : Array Edge} {gd : Option (Nat × Bool)} {x y : Operand}
theorem Pure.convId {k k' : IntKind} {a : Int} {st dt : TypeId} {sd : TypeDesc} (hs : P.underlying st = some sd) (hd : P.underlying dt = some (.int k')) (hx : opv e x = some (.int k a)) (h : k'.wrap a = a) : Pure P e ⟨d, .convert st dt x, tt, pos, af, gd⟩ (.int k' a) := by
  have := Pure.convInt (P := P) (d := d) (t := tt) (pos := pos) (af := af) (gd := gd) hs hd hx
  rw [h] at this; exact this
theorem Pure.addK {k : IntKind} {a b : Int} {xt yt : TypeId} (hx : opv e x = some (.int k a)) (hy : opv e y = some (.int k b)) (h : k.wrap (a + b) = a + b) : Pure P e ⟨d, .binOp .add xt x y yt, t, pos, af, gd⟩ (.int k (a + b)) := by
  have := Pure.add (P := P) (d := d) (t := t) (pos := pos) (af := af) (gd := gd) (xt := xt) (yt := yt) hx hy
  rw [h] at this; exact this
theorem run_equalIn_bool {w : World} {t : TypeId} {a b : Bool} (n : Nat) (hu : P.underlying t = some .bool) : (Op.equalIn (n + 1) t (.bool a) (.bool b)).run P w = .ok (a == b) w := by
  simp only [Op.equalIn, Sem.run_bind, run_underlying hu, Result.andThen_ok, Sem.run_pure]
theorem run_equalIn_nil {w : World} {t E : TypeId} {ad : Addr} (n : Nat) (hu : P.underlying t = some (.pointer E)) : (Op.equalIn (n + 1) t (.pointer (some ad)) (.pointer none)).run P w = .ok false w := by
  simp only [Op.equalIn, Sem.run_bind, run_underlying hu, Result.andThen_ok, Sem.run_pure]
theorem run_equal_bool {w : World} {t : TypeId} {a b : Bool} (hu : P.underlying t = some .bool) : (Op.equal t (.bool a) (.bool b)).run P w = .ok (a == b) w := run_equalIn_bool 9999 hu
theorem run_equal_nil {w : World} {t E : TypeId} {ad : Addr} (hu : P.underlying t = some (.pointer E)) : (Op.equal t (.pointer (some ad)) (.pointer none)).run P w = .ok false w := run_equalIn_nil 9999 hu
theorem Pure.beql {a b : Bool} {xt yt : TypeId} (hx : opv e x = some (.bool a)) (hy : opv e y = some (.bool b)) (hu : P.underlying xt = some .bool) : Pure P e ⟨d, .binOp .eql xt x y yt, t, pos, af, gd⟩ (.bool (a == b)) := fun ρ w ho => by
  have h1 := ho _ _ hx; have h2 := ho _ _ hy
  simp only [execOp, h1, h2, eqGuard, binOp]
  simp [run_equal_bool hu]
theorem Pure.bneq {a b : Bool} {xt yt : TypeId} (hx : opv e x = some (.bool a)) (hy : opv e y = some (.bool b)) (hu : P.underlying xt = some .bool) : Pure P e ⟨d, .binOp .neq xt x y yt, t, pos, af, gd⟩ (.bool (!(a == b))) := fun ρ w ho => by
  have h1 := ho _ _ hx; have h2 := ho _ _ hy
  simp only [execOp, h1, h2, eqGuard, binOp]
  simp [run_equal_bool hu]
/-- A pointer that is none, against nil. -/
theorem Pure.ptrEqNil {ad : Addr} {xt yt E : TypeId} (hx : opv e x = some (.pointer (some ad))) (hy : opv e y = some (.pointer none)) (hu : P.underlying xt = some (.pointer E)) : Pure P e ⟨d, .binOp .eql xt x y yt, t, pos, af, gd⟩ (.bool false) := fun ρ w ho => by
  have h1 := ho _ _ hx; have h2 := ho _ _ hy
  simp only [execOp, h1, h2, eqGuard, binOp]
  simp [run_equal_nil hu]
theorem Pure.ptrNeNil {ad : Addr} {xt yt E : TypeId} (hx : opv e x = some (.pointer (some ad))) (hy : opv e y = some (.pointer none)) (hu : P.underlying xt = some (.pointer E)) : Pure P e ⟨d, .binOp .neq xt x y yt, t, pos, af, gd⟩ (.bool true) := fun ρ w ho => by
  have h1 := ho _ _ hx; have h2 := ho _ _ hy
  simp only [execOp, h1, h2, eqGuard, binOp]
  simp [run_equal_nil hu]
end

/-! ### A struct or an array put together -/
/-- The places of a struct's fields, and its zero's cells. -/
def placesOf (P : Program) (t : TypeId) : Option (List (Nat × Nat) × Value) :=
  match P.underlying t with
  | some (.struct fs) => match fs.toList.mapM fun f => (P.info? f.type).map fun i => (f.offset, i.size) with
    | some l => (zeroIs P t).map fun z => (l, z)
    | none => none
  | _ => none
theorem run_mapM_places {P : Program} {w : World} : ∀ (fs : List Field) (l : List (Nat × Nat)), (fs.mapM fun f => (P.info? f.type).map fun i => (f.offset, i.size)) = some l →
    (fs.mapM fun f => do pure (f.offset, ← sizeOf f.type) : Sem (List (Nat × Nat))).run P w = .ok l w
  | [], l, h => by simp at h; subst h; simp
  | f :: fs, l, h => by
    simp only [List.mapM_cons] at h ⊢
    cases hi : P.info? f.type with
    | none => simp [hi] at h
    | some i =>
      simp only [hi, Option.map_some, Option.bind_eq_bind, Option.bind_some] at h
      cases hl : (fs.mapM fun f => (P.info? f.type).map fun i => (f.offset, i.size)) with
      | none => rw [hl] at h; simp at h
      | some l' =>
        rw [hl] at h
        simp at h
        subst h
        have ih := run_mapM_places (w := w) fs l' hl
        simp only [Sem.run_bind, sizeOf, typeInfo, run_program, Result.andThen_ok, hi, Sem.run_pure] at ih ⊢
        rw [ih]; rfl
section
variable {P : Program} {e : Env} {d : Option Tmp} {t tt : TypeId} {pos : String} {af : Array Edge} {gd : Option (Nat × Bool)}
theorem Pure.build {p : Array (Nat × Operand)} {ps : List (Nat × Value)} {l : List (Nat × Nat)} {z : Value} {cs : Array Value} (hpl : placesOf P t = some (l, z))
    (hp : opvs e (p.toList.map (·.2)) = some (ps.map (·.2))) (hpi : p.toList.map (·.1) = ps.map (·.1))
    (hf : Instr.fill (fun i => l.toArray[i]?) z.cells ps = some cs) : Pure P e ⟨d, .build t p, tt, pos, af, gd⟩ (.agg cs) := fun ρ w ho => by
  have h1 := Ev.opvs ho hp
  have h2 : (p.map fun (i, x) => (i, ρ x)).toList = ps := by
    rw [Array.toList_map]
    have : ∀ (q : List (Nat × Operand)) (r : List (Nat × Value)), q.map (·.1) = r.map (·.1) → (q.map (·.2)).map ρ = r.map (·.2) → q.map (fun (i, x) => (i, ρ x)) = r := by
      intro q
      induction q with
      | nil => intro r a b; cases r <;> simp_all
      | cons y q ih =>
        intro r a b
        cases r with
        | nil => simp at a
        | cons u r =>
          simp only [List.map_cons, List.cons.injEq] at a b ⊢
          exact ⟨Prod.ext a.1 b.1, ih r a.2 b.2⟩
    exact this _ _ hpi h1
  unfold placesOf at hpl
  split at hpl
  · rename_i fs hu
    split at hpl
    · rename_i l' hl
      cases hz : zeroIs P t with
      | none => simp [hz] at hpl
      | some z' =>
        simp [hz] at hpl
        obtain ⟨rfl, rfl⟩ := hpl
        have hm : (fs.mapM fun f => do pure (f.offset, ← sizeOf f.type) : Sem (Array (Nat × Nat))).run P w = .ok l'.toArray w := by
          have := run_mapM_places (P := P) (w := w) fs.toList l' hl
          rw [Array.mapM_eq_mapM_toList, Sem.run_map, this]; rfl
        simp only [execOp, Instr.build, Sem.run_bind, run_zero hz, Result.andThen_ok, run_underlying hu, hm]
        have hf' : Instr.fill (fun i => l'[i]?) z'.cells ps = some cs := by simpa using hf
        simp only [h2]
        simp [hf']
    · cases hpl
  · cases hpl
end
section
variable {c : Cx} {G : Gp} {ops : Array Oper} {k : KT} {e : Env} {A A' : List HProp} {n : Nat} {listed : Array Bool} {st : List Item}
variable {t tt : TypeId} {pos : String} {af : Array Edge} {gd : Option (Nat × Bool)} {x y : Operand}
theorem Run.regionD' {id : Nat} {l : List Oper} (hm : c.P.follows .mixedOrders = true) (hok : regionOk l.toArray = true) (r : regionOk l.toArray = true → RunD c G l.toArray l.length (Array.replicate l.length false) (Ok c.P c.f c.R st) e A) : Run c G (.code (.region id l.toArray true) :: st) e A :=
  Run.regionD hm (r hok)
theorem RunD.load1R {i d b j : Nat} {T : TypeId} {cs : List Value} {v : Value} (hok : regionOk ops = true) (hi : ops[i]? = some ⟨some d, .load t x, tt, pos, af, gd⟩) (hr : (Region.ready .any ops listed).contains i = true) (hx : opv e x = some (.pointer (some ⟨b, j, none⟩))) (hro : Ro G b T cs) (hc : cs[j]? = some v) (ha : isAggOf c.P t = some false)
    (hw : Wt ops e ⟨some d, .load t x, tt, pos, af, gd⟩ true) (hlt : Nat.blt d c.fn.ntmps = true) (next : RunD c G ops n (listed.setIfInBounds i true) k ((d, v) :: e) A) (hds : c.ds = [] := by rfl) : RunD c G ops (n + 1) listed k e A := by
  refine RunD.quiet hok hi hr rfl hlt hw (fun ρ w he hs => ?_) next hds
  have h1 := he _ _ hx
  obtain ⟨fz, hg⟩ := hro
  simp only [execOp, h1, Instr.loadAt, Instr.sureAddr]
  simp [run_loadVar1 ha (⟨fz, hs.1 _ _ hg⟩ : Seen w b T cs) hc]
theorem RunD.loadNR {i d b j m : Nat} {T : TypeId} {cs vs : List Value} (hok : regionOk ops = true) (hi : ops[i]? = some ⟨some d, .load t x, tt, pos, af, gd⟩) (hr : (Region.ready .any ops listed).contains i = true) (hx : opv e x = some (.pointer (some ⟨b, j, none⟩))) (hro : Ro G b T cs) (ha : isAggOf c.P t = some true) (hn : sizeIs c.P t = some m) (hl : j + m ≤ cs.length) (hc : (cs.drop j).take m = vs)
    (hw : Wt ops e ⟨some d, .load t x, tt, pos, af, gd⟩ true) (hlt : Nat.blt d c.fn.ntmps = true) (next : RunD c G ops n (listed.setIfInBounds i true) k ((d, .agg vs.toArray) :: e) A) (hds : c.ds = [] := by rfl) : RunD c G ops (n + 1) listed k e A := by
  refine RunD.quiet hok hi hr rfl hlt hw (fun ρ w he hs => ?_) next hds
  have h1 := he _ _ hx
  obtain ⟨fz, hg⟩ := hro
  simp only [execOp, h1, Instr.loadAt, Instr.sureAddr]
  simp [run_loadVarN ha hn (⟨fz, hs.1 _ _ hg⟩ : Seen w b T cs) hl, hc]
theorem SlR.srcG {P : Program} {w : World} {T : TypeId} {sz : Nat} {a : Option Addr} {n cap : Nat} {cs : List Value} (r : SlR G T sz a n cs) (hs : Gp.sub G w) : Src P w sz (.slice a n cap) n cs :=
  r.src (A := []) ⟨Hp.empty, hs, fun _ _ h => by simp [Hp.empty] at h, Hp.disj_empty G.hp, rfl⟩
theorem RunD.bytesStr {i d m cap : Nat} {sT dT E : TypeId} {a : Option Addr} {bs : List UInt8} (hok : regionOk ops = true) (hi : ops[i]? = some ⟨some d, .convert sT dT x, tt, pos, af, gd⟩) (hr : (Region.ready .any ops listed).contains i = true) (hx : opv e x = some (.slice a m cap)) (hs : c.P.underlying sT = some (.slice E)) (he : c.P.underlying E = some (.int .u8)) (hd : c.P.underlying dT = some .string)
    (hro : SlR G E 1 a m (bs.map bv))
    (hw : Wt ops e ⟨some d, .convert sT dT x, tt, pos, af, gd⟩ true) (hlt : Nat.blt d c.fn.ntmps = true) (next : RunD c G ops n (listed.setIfInBounds i true) k ((d, .string ⟨bs.toArray⟩) :: e) A) (hds : c.ds = [] := by rfl) : RunD c G ops (n + 1) listed k e A := by
  refine RunD.quiet hok hi hr rfl hlt hw (fun ρ w hev hg => ?_) next hds
  have h1 := hev _ _ hx
  simp only [execOp, h1, Sem.run_bind, run_bytesStr hs he hd (hro.srcG hg), Result.andThen_ok, Sem.run_pure]
theorem RunD.nilR {listed : Array Bool} (hr : Region.ready .any ops listed = []) (r : Run c G st e A) : RunD c G ops 0 listed (Ok c.P c.f c.R st) e A := RunD.nil hr r
theorem RunD.nilB {G0 : Gp} {A0 : List HProp} {listed : Array Bool} (hr : Region.ready .any ops listed = []) (hb : ∀ w, St G A w → St G0 A0 w) (r : Run c G0 st e A0) : RunD c G ops 0 listed (Ok c.P c.f c.R st) e A := RunD.nil hr fun a w h s => r a w h (hb w s)
/-- Two are ready. -/
theorem RunD.two {i j : Nat} {o o' : Oper} (hr : Region.ready .any ops listed = [i, j]) (hi : ops[i]? = some o) (hj : ops[j]? = some o') (n1 : RunL c G ops [o] (KD c G ops n (listed.setIfInBounds i true) k) e A) (n2 : RunL c G ops [o'] (KD c G ops n (listed.setIfInBounds j true) k) e A) : RunD c G ops (n + 1) listed k e A := by
  have key : ∀ {m : Nat} {q : Oper}, ops[m]? = some q → RunL c G ops [q] (KD c G ops n (listed.setIfInBounds m true) k) e A → ∀ a w, EnvOk c.nd e a → St G A w →
      wpOp c.P ops (QOk c.P c.f c.fn c.ds c.R k) m (fun a' w' => ∃ S' : World → Prop, (∀ w, S' w → Gp.sub G w) ∧ S' w' ∧ AnyS c.P ops (QOk c.P c.f c.fn c.ds c.R k) n S' (listed.setIfInBounds m true) a' w') a w := by
    intro m q hm next a w h s
    have := next a w h s
    unfold wpList at this
    unfold wpOp
    simp only [hm]
    by_cases hw : Region.wanted q (yielded ops a.tmps) = true
    · rw [if_pos hw] at this ⊢
      rcases this with this | ⟨_, x1, x2, x3⟩
      · refine .inl ?_
        unfold Oper.wp at this ⊢
        generalize (execOp a.eval q).run c.P w = r at this ⊢
        cases r with
        | ok q w' =>
          cases q <;> simp only [Oper.upon, wpList] at this ⊢ <;> first | exact this | exact Calls.mono this (fun en w2 hh => by cases en <;> exact hh) | exact Rows.mono this (fun _ _ hh => hh)
        | halt x w' => cases x <;> simp only [Oper.upon] at this ⊢ <;> exact this
      · exact x3.elim
    · rw [if_neg hw] at this ⊢
      exact this
  intro a w h s
  refine ⟨fun hx => (by rw [hr] at hx; cases hx), fun q hq => ?_⟩
  have hq : q ∈ Region.ready .any ops listed := hq
  rw [hr] at hq
  have hq : q = i ∨ q = j := by simpa using hq
  rcases hq with rfl | rfl
  · exact key hi n1 a w h s
  · exact key hj n2 a w h s
end

/-! ### A slice put together -/
theorem foldl_set (vs : List Value) : ∀ (off j : Nat) (cells : Array Value), off + j + vs.length ≤ cells.size →
    ((vs.zipIdx j).foldl (fun cs (p : Value × Nat) => cs.setIfInBounds (off + p.2) p.1) cells) = (setRange cells.toList (off + j) vs).toArray := by
  induction vs with
  | nil => intro off j cells _; simp [setRange_nil]
  | cons v vs ih =>
    intro off j cells h
    simp only [List.length_cons] at h
    simp only [List.zipIdx_cons, List.foldl_cons]
    rw [ih off (j + 1) _ (by simp; omega)]
    rw [Array.toList_setIfInBounds, show off + (j + 1) = off + j + 1 from by omega, set_setRange (by simp; omega)]
theorem fill_all {sz : Nat} : ∀ (vals : List Value) (i : Nat) (cells : Array Value), (∀ v ∈ vals, v.cells.size = sz) → (i + vals.length) * sz ≤ cells.size →
    Instr.fill (fun i => some (i * sz, sz)) cells ((List.range' i vals.length).zip vals) = some (setRange cells.toList (i * sz) (vals.flatMap fun v => v.cells.toList)).toArray := by
  intro vals
  induction vals with
  | nil => intro i cells _ _; simp [Instr.fill, setRange_nil]
  | cons v vs ih =>
    intro i cells hv h
    have hs := hv v (by simp)
    simp only [List.length_cons] at h
    have hm : (i + (vs.length + 1)) * sz = i * sz + sz + vs.length * sz := by rw [Nat.add_mul, Nat.add_mul, Nat.one_mul]; omega
    have hle : i * sz + sz ≤ cells.size := by rw [hm] at h; omega
    have hc : ¬ (v.cells.size ≠ sz ∨ i * sz + v.cells.size > cells.size) := by rw [hs]; omega
    simp only [List.length_cons, List.range'_succ, List.zip_cons_cons, Instr.fill]
    rw [if_neg (by simpa using (by rw [hs]; omega : v.cells.size = sz ∧ i * sz + v.cells.size ≤ cells.size) )]
    have hf := foldl_set v.cells.toList (i * sz) 0 cells (by rw [Nat.add_zero, Array.length_toList, hs]; exact hle)
    have hf2 : v.cells.zipIdx.foldl (fun cs (p : Value × Nat) => cs.setIfInBounds (i * sz + p.2) p.1) cells = (setRange cells.toList (i * sz) v.cells.toList).toArray := by
      rw [← Array.foldl_toList, Array.toList_zipIdx]; exact hf
    have hlen : (setRange cells.toList (i * sz) v.cells.toList).length = cells.size := by rw [length_setRange (by simp [hs]; exact hle)]; simp
    have := ih (i + 1) (setRange cells.toList (i * sz) v.cells.toList).toArray (fun u hu => hv u (by simp [hu])) (by rw [List.size_toArray, hlen, show (i + 1 + vs.length) * sz = (i + (vs.length + 1)) * sz from by congr 1; omega]; exact h)
    rw [show (fun (cs : Array Value) (x : Value × Nat) => match x with | (c, j) => cs.setIfInBounds (i * sz + j) c) = (fun cs p => cs.setIfInBounds (i * sz + p.2) p.1) from rfl, hf2, this]
    congr 2
    -- two ranges in a row
    have e1 : (i + 1) * sz = i * sz + sz := by rw [Nat.add_mul, Nat.one_mul]
    rw [e1]
    simp only [List.flatMap_cons, List.toList_toArray]
    generalize hu : (vs.flatMap fun v => v.cells.toList) = us
    have hul : us.length = vs.length * sz := by
      rw [← hu]
      have : ∀ l : List Value, (∀ u ∈ l, u.cells.size = sz) → (l.flatMap fun v => v.cells.toList).length = l.length * sz := by
        intro l
        induction l with
        | nil => simp
        | cons x l ihl =>
          intro hx
          rw [List.flatMap_cons, List.length_append, ihl (fun u hu => hx u (by simp [hu])), Array.length_toList, hx x (by simp), List.length_cons, Nat.add_mul, Nat.one_mul]; omega
      exact this vs (fun u hu => hv u (by simp [hu]))
    have hcl : cells.toList.length = cells.size := by simp
    have hvl : v.cells.toList.length = sz := by simp [hs]
    unfold setRange
    have t1 : (cells.toList.take (i * sz) ++ v.cells.toList ++ cells.toList.drop (i * sz + v.cells.toList.length)).take (i * sz + sz) = cells.toList.take (i * sz) ++ v.cells.toList := by
      rw [List.take_append_of_le_length (by simp [hvl]; omega), List.take_of_length_le (by simp [hvl]; omega)]
    have t2 : (cells.toList.take (i * sz) ++ v.cells.toList ++ cells.toList.drop (i * sz + v.cells.toList.length)).drop (i * sz + sz + us.length) = cells.toList.drop (i * sz + (v.cells.toList ++ us).length) := by
      have l1 : (cells.toList.take (i * sz) ++ v.cells.toList).length = i * sz + sz := by simp [hvl]; omega
      rw [List.drop_append, l1, List.drop_of_length_le (by rw [l1]; omega), List.nil_append, List.drop_drop]
      congr 1; simp [hvl]; omega
    rw [t1, t2]; simp
section
variable {c : Cx} {G : Gp} {ops : Array Oper} {k : KT} {e : Env} {A : List HProp} {l : List Oper}
variable {d : Nat} {tt sT E : TypeId} {pos : String} {af : Array Edge} {gd : Option (Nat × Bool)} {z : Value} {sz : Nat}
theorem RunL.lit {p : Array (Nat × Operand)} {n : Nat} {vals vs : List Value} (hu : c.P.underlying sT = some (.slice E)) (hsz : sizeIs c.P E = some sz) (hz : zeroIs c.P E = some z) (hzz : z.cells.size = sz) (hn : Nat.ble (n * sz) 16777216 = true) (hpos : Nat.beq (n * sz) 0 = false)
    (hp : opvs e (p.toList.map (·.2)) = some vals) (hpi : p.toList.map (·.1) = List.range' 0 n) (hl : vals.length = n) (hv : ∀ v ∈ vals, v.cells.size = sz) (hvs : vals.flatMap (fun v => v.cells.toList) = vs)
    (hw : Wt ops e ⟨some d, .buildSlice sT n p, tt, pos, af, gd⟩ true) (hlt : Nat.blt d c.fn.ntmps = true)
    (next : ∀ b, RunL c G ops l k ((d, .slice (some ⟨b, 0, none⟩) n n) :: e) (Sl E sz (some ⟨b, 0, none⟩) n n vs :: A)) :
    RunL c G ops (⟨some d, .buildSlice sT n p, tt, pos, af, gd⟩ :: l) k e A := by
  subst hl; subst hvs
  have hlen : ∀ l : List Value, (∀ u ∈ l, u.cells.size = sz) → (l.flatMap fun v => v.cells.toList).length = l.length * sz := by
    intro l
    induction l with
    | nil => simp
    | cons x l ihl =>
      intro hx
      rw [List.flatMap_cons, List.length_append, ihl (fun u hu => hx u (by simp [hu])), Array.length_toList, hx x (by simp), List.length_cons, Nat.add_mul, Nat.one_mul]; omega
  have hL := hlen vals hv
  have hpos' : vals.length * sz ≠ 0 := fun h => by rw [h] at hpos; cases hpos
  have hrl : (List.range' 0 vals.length).length = vals.length := by simp
  refine RunL.buildSlice (ps := (List.range' 0 vals.length).zip vals) hu hsz hz (Nat.le_of_ble_eq_true hn) hpos' (by rw [List.map_snd_zip (by simp)]; exact hp) (by rw [List.map_fst_zip (by simp)]; exact hpi) ?_ hL hw hlt next
  rw [fill_all vals 0 _ hv (by simp [hzz])]
  congr 2
  unfold setRange
  rw [Nat.zero_mul, List.take_zero, List.nil_append, Nat.zero_add, hL, List.drop_of_length_le (by simp), List.append_nil]
end

/-! ### Atoms of several, opened and shut -/
/-- Some 'x' with a property, and the atoms of it. -/
def Ex {X : Type} (φ : X → Prop) (L : X → List HProp) : HProp := fun h => ∃ x, φ x ∧ stars (L x) h
theorem St.openEx {G : Gp} {A : List HProp} {w : World} {X : Type} {φ : X → Prop} {L : X → List HProp} (s : St G (Ex φ L :: A) w) : ∃ x, φ x ∧ St G (L x ++ A) w := by
  obtain ⟨h, g, s, d, h1, h2, d', e, ⟨x, hx, p⟩, a⟩ := s
  exact ⟨x, hx, h, g, s, d, stars_append.2 ⟨h1, h2, d', e, p, a⟩⟩
theorem St.mkEx {G : Gp} {A : List HProp} {w : World} {X : Type} {φ : X → Prop} {L : X → List HProp} {x : X} (hx : φ x) (s : St G (L x ++ A) w) : St G (Ex φ L :: A) w := by
  obtain ⟨h, g, s, d, a⟩ := s
  obtain ⟨h1, h2, d', e, p, a⟩ := stars_append.1 a
  exact ⟨h, g, s, d, h1, h2, d', e, ⟨x, hx, p⟩, a⟩
/-- Whatever is owned may be lent. -/
theorem Lends.of {Q : HProp} {R : Gp → Prop} (hq : ∀ (G : Gp) (h : Hp), Q h → Hp.disj G.hp h → R (Gp.join G h)) : Lends Q R := fun G A w s => by
  obtain ⟨h, g, s, d, h1, h2, d', rfl, p, a⟩ := s
  have ss := (Hp.sub_join d').1 s
  have dd := Hp.disj_join.1 d
  refine ⟨h1, hq G h1 p dd.1, ⟨h2, ⟨(Hp.sub_join dd.1).2 ⟨g.1, ss.1⟩, g.2⟩, ss.2, Hp.join_disj.2 ⟨dd.2, d'⟩, a⟩, ?_⟩
  rintro A' w' ⟨h3, g3, s3, d3, a3⟩
  have gg := (Hp.sub_join dd.1).1 g3.1
  have d4 := Hp.join_disj.1 d3
  exact ⟨Hp.join h1 h3, ⟨gg.1, g3.2⟩, (Hp.sub_join d4.2).2 ⟨gg.2, s3⟩, Hp.disj_join.2 ⟨dd.1, d4.1⟩, h1, h3, d4.2, rfl, p, a3⟩
theorem Ro.of_row {G : Gp} {h : Hp} {b : Nat} {T : TypeId} {cs : List Value} (r : row b T cs h) (d : Hp.disj G.hp h) : Ro (Gp.join G h) b T cs := by
  obtain ⟨fz, hz, rfl⟩ := r
  refine ⟨fz, ?_⟩
  have := d b
  rw [Hp.one_self] at this
  have hb : G.hp b = none := this.resolve_right (by simp)
  show Hp.join G.hp _ b = _
  unfold Hp.join; rw [hb]; exact Hp.one_self _ _
theorem Ro.in_join {G : Gp} {h1 h2 : Hp} {b : Nat} {T : TypeId} {cs : List Value} (d : Hp.disj G.hp (Hp.join h1 h2)) (r : Ro (Gp.join G h1) b T cs) : Ro (Gp.join G (Hp.join h1 h2)) b T cs := by
  obtain ⟨fz, r⟩ := r
  refine ⟨fz, ?_⟩
  show Hp.join G.hp (Hp.join h1 h2) b = _
  rw [← Hp.join_assoc]
  exact Hp.join_left r
section
variable {c : Cx} {G : Gp} {ops : Array Oper} {k : KT} {e : Env} {A A' : List HProp} {l : List Oper} {st : List Item}
variable {T : TypeId} {sz n cap b : Nat} {a : Option Addr} {cs pre post : List Value}
theorem RunL.openEx {X : Type} {φ : X → Prop} {L : X → List HProp} (hf : Find (Ex φ L) A A') (next : ∀ x, φ x → RunL c G ops l k e (L x ++ A')) : RunL c G ops l k e A := fun a w h s => by
  obtain ⟨x, hx, s'⟩ := (s.find hf).openEx; exact next x hx a w h s'
theorem Run.openEx {X : Type} {φ : X → Prop} {L : X → List HProp} (hf : Find (Ex φ L) A A') (next : ∀ x, φ x → Run c G st e (L x ++ A')) : Run c G st e A := fun a w h s => by
  obtain ⟨x, hx, s'⟩ := (s.find hf).openEx; exact next x hx a w h s'
theorem RunL.mkEx {X : Type} {φ : X → Prop} {L : X → List HProp} (x : X) (ht : Take (L x) A A') (hx : φ x) (next : RunL c G ops l k e (Ex φ L :: A')) : RunL c G ops l k e A := fun a w h s => next a w h (St.mkEx hx (s.perm ht.perm))
theorem Run.mkEx {X : Type} {φ : X → Prop} {L : X → List HProp} (x : X) (ht : Take (L x) A A') (hx : φ x) (next : Run c G st e (Ex φ L :: A')) : Run c G st e A := fun a w h s => next a w h (St.mkEx hx (s.perm ht.perm))
theorem RunL.openSl (hf : Find (Sl T sz a n cap cs) A A') (hn : 0 < n) (next : ∀ b pre post, a = some ⟨b, pre.length, none⟩ → cs.length = n * sz → n ≤ cap → (cap - n) * sz ≤ post.length → RunL c G ops l k e (row b T (pre ++ cs ++ post) :: A')) : RunL c G ops l k e A := fun ac w h s => by
  rcases (s.find hf).Sl_open with ⟨_, rfl, _⟩ | ⟨b, pre, post, h1, h2, h3, h4, s'⟩
  · exact absurd hn (Nat.lt_irrefl _)
  · exact next b pre post h1 h2 h3 h4 ac w h s'
theorem Run.openSl (hf : Find (Sl T sz a n cap cs) A A') (hn : 0 < n) (next : ∀ b pre post, a = some ⟨b, pre.length, none⟩ → cs.length = n * sz → n ≤ cap → (cap - n) * sz ≤ post.length → Run c G st e (row b T (pre ++ cs ++ post) :: A')) : Run c G st e A := fun ac w h s => by
  rcases (s.find hf).Sl_open with ⟨_, rfl, _⟩ | ⟨b, pre, post, h1, h2, h3, h4, s'⟩
  · exact absurd hn (Nat.lt_irrefl _)
  · exact next b pre post h1 h2 h3 h4 ac w h s'
theorem RunL.mkSl (hf : Find (row b T (pre ++ cs ++ post)) A A') (h1 : cs.length = n * sz) (h2 : n ≤ cap) (h3 : (cap - n) * sz ≤ post.length) (next : RunL c G ops l k e (Sl T sz (some ⟨b, pre.length, none⟩) n cap cs :: A')) : RunL c G ops l k e A := fun ac w h s => next ac w h (St.Sl_mk h1 h2 h3 (s.find hf))
theorem Run.mkSl (hf : Find (row b T (pre ++ cs ++ post)) A A') (h1 : cs.length = n * sz) (h2 : n ≤ cap) (h3 : (cap - n) * sz ≤ post.length) (next : Run c G st e (Sl T sz (some ⟨b, pre.length, none⟩) n cap cs :: A')) : Run c G st e A := fun ac w h s => next ac w h (St.Sl_mk h1 h2 h3 (s.find hf))
end
theorem Run.nilSl {c : Cx} {G : Gp} {e : Env} {A : List HProp} {st : List Item} (T : TypeId) (sz : Nat) (next : Run c G st e (Sl T sz none 0 0 [] :: A)) : Run c G st e A := fun ac w h s => next ac w h (s.Sl_nil T sz)
theorem RunL.nilSl {c : Cx} {G : Gp} {ops : Array Oper} {k : KT} {e : Env} {A : List HProp} {l : List Oper} (T : TypeId) (sz : Nat) (next : RunL c G ops l k e (Sl T sz none 0 0 [] :: A)) : RunL c G ops l k e A := fun ac w h s => next ac w h (s.Sl_nil T sz)
/-- x[i:] of a slice that is owned. -/
theorem St.Sl_from {G : Gp} {A : List HProp} {w : World} {T : TypeId} {sz : Nat} {a : Option Addr} {n cap : Nat} {cs : List Value} (i : Nat) (hi : i ≤ n) (s : St G (Sl T sz a n cap cs :: A) w) : St G (Sl T sz (cutAt a i cap sz) (n - i) (cap - i) (cs.drop (i * sz)) :: A) w := by
  rcases s.Sl_open with ⟨rfl, rfl, rfl, rfl, s'⟩ | ⟨b, pre, post, rfl, h1, h2, h3, s'⟩
  · have : i = 0 := by omega
    subst this
    have e : cutAt none 0 0 sz = none := by unfold cutAt; simp
    rw [e]; simpa using s
  · have hm : i * sz ≤ cs.length := by rw [h1]; exact Nat.mul_le_mul_right _ hi
    have hd : (cs.drop (i * sz)).length = (n - i) * sz := by rw [List.length_drop, h1, ← Nat.sub_mul]
    by_cases hc : cap = i
    · have e : cutAt (some ⟨b, pre.length, none⟩) i cap sz = some ⟨b, pre.length, none⟩ := by unfold cutAt; rw [if_pos hc]
      have hn : n = i := by omega
      rw [e]
      have h0 : cs.drop (i * sz) = [] := by apply List.length_eq_zero_iff.1; rw [hd]; simp [hn]
      rw [h0]
      refine St.Sl_mk (pre := pre) (post := cs ++ post) (by simp [hn]) (by omega) (by simp [hc]) ?_
      simpa using s'
    · have e : cutAt (some ⟨b, pre.length, none⟩) i cap sz = some ⟨b, (pre ++ cs.take (i * sz)).length, none⟩ := by
        unfold cutAt; rw [if_neg hc]
        simp [add_off, Nat.min_eq_left hm]
      rw [e]
      refine St.Sl_mk (pre := pre ++ cs.take (i * sz)) (post := post) hd (by omega) (by rw [show cap - i - (n - i) = cap - n from by omega]; exact h3) ?_
      rw [List.append_assoc pre, List.take_append_drop]; exact s'
theorem RunL.cutSl {c : Cx} {G : Gp} {ops : Array Oper} {k : KT} {e : Env} {A A' : List HProp} {l : List Oper} {T : TypeId} {sz n cap : Nat} {a : Option Addr} {cs : List Value} (i : Nat) (hf : Find (Sl T sz a n cap cs) A A') (hi : i ≤ n) (next : RunL c G ops l k e (Sl T sz (cutAt a i cap sz) (n - i) (cap - i) (cs.drop (i * sz)) :: A')) : RunL c G ops l k e A := fun ac w h s => next ac w h ((s.find hf).Sl_from i hi)
theorem Run.cutSl {c : Cx} {G : Gp} {st : List Item} {e : Env} {A A' : List HProp} {T : TypeId} {sz n cap : Nat} {a : Option Addr} {cs : List Value} (i : Nat) (hf : Find (Sl T sz a n cap cs) A A') (hi : i ≤ n) (next : Run c G st e (Sl T sz (cutAt a i cap sz) (n - i) (cap - i) (cs.drop (i * sz)) :: A')) : Run c G st e A := fun ac w h s => next ac w h ((s.find hf).Sl_from i hi)
theorem cell_at {pre post : List Value} {bs : List UInt8} {i : Nat} (h : i < bs.length) : (pre ++ bs.map bv ++ post)[pre.length + i * 1]? = some (bv (bs.getD i 0)) := by
  rw [Nat.mul_one, List.append_assoc, List.getElem?_append_right (by omega), Nat.add_sub_cancel_left, List.getElem?_append_left (by simpa using h)]
  rw [List.getD_eq_getElem?_getD, List.getElem?_eq_getElem h]
  simp [h]
end Go.Proofs.YtaaondbmkibkkaaGreat.Csl

/- From a contract to a row: what came in is only read. Nothing of a program stands here. -/
set_option linter.unusedVariables false
set_option linter.unusedSimpArgs false
namespace Go.Proofs.YtaaondbmkibkkaaGreat.Csl
open Go Go.RowKit

/-- All that a world holds, to be read. -/
def heapOf (w : World) : Gp := ⟨fun b => w.heap[b]?, w.os, w.tape, w.output, w.drawn⟩
theorem St.init (w : World) : St (heapOf w) [] w :=
  ⟨Hp.empty, ⟨fun _ _ h => h, rfl, rfl, rfl, Nat.le_refl _⟩, fun _ _ h => by simp [Hp.empty] at h, Hp.disj_empty _, rfl⟩
theorem St.below {w w' : World} {A : List HProp} (s : St (heapOf w) A w') : Below w.heap.size w w' := by
  obtain ⟨h, ⟨g, o1, o2, o3, _⟩, _⟩ := s
  have hb : ∀ k, k < w.heap.size → w'.heap[k]? = w.heap[k]? := by
    intro k hk
    have := Array.getElem?_eq_getElem hk
    rw [this]; exact g k _ this
  refine ⟨o1, o2, o3, ?_, hb⟩
  rcases Nat.lt_or_ge w'.heap.size w.heap.size with x | x
  · have := hb w'.heap.size x
    rw [Array.getElem?_eq_none (Nat.le_refl _), Array.getElem?_eq_getElem x] at this
    cases this
  · exact x
theorem Ctr.walk {P : Program} {f : FuncId} {args : List Value} {w : World} (h : Ctr P (heapOf w) f args [] (fun F v A => v = .bool true ∧ A = F)) :
    Calls P f args.toArray w fun e w' => e = .returned (.bool true) ∧ Below w.heap.size w w' :=
  (h.2 [] w (St.init w)).mono fun e w' ⟨v, A, he, ⟨hv, _⟩, s⟩ => ⟨by rw [he, hv], s.below⟩

def IsRow (k : IntKind) (w : World) (a : Option Addr) (len cap : Nat) (zs : List Int) : Prop :=
  (a = none ∧ len = 0 ∧ cap = 0 ∧ zs = []) ∨
  ∃ x, a = some x ∧ len ≤ cap ∧ cap ≤ maxLen ∧ zs.length = cap ∧ (∀ i, i < zs.length → w.cell? (x.add i) = some (.int k (zs.getD i 0))) ∧ ∀ n ∈ zs, (Lit.int k n).wf = true
theorem IsRow.cap {k : IntKind} {w : World} {a : Option Addr} {len cap : Nat} {zs : List Int} (h : IsRow k w a len cap zs) : len ≤ cap ∧ cap ≤ maxLen := by
  rcases h with ⟨_, rfl, rfl, _⟩ | ⟨x, _, h1, h2, _⟩
  · exact ⟨Nat.le_refl _, Nat.zero_le _⟩
  · exact ⟨h1, h2⟩
theorem IsRow.reads {k : IntKind} {w : World} {a : Option Addr} {len cap : Nat} {zs : List Int} (T : TypeId) (h : IsRow k w a len cap zs) : ∃ ys : List Int, ys.length = len ∧ (∀ n ∈ ys, (Lit.int k n).wf = true) ∧ SlR (heapOf w) T 1 a len (ys.map (Value.int k)) := by
  rcases h with ⟨rfl, rfl, rfl, rfl⟩ | ⟨x, rfl, h1, h2, h3, h4, h5⟩
  · exact ⟨[], rfl, by simp, .inl ⟨rfl, rfl⟩⟩
  · refine ⟨zs.take len, by simp; omega, fun n hn => h5 n (List.mem_of_mem_take hn), ?_⟩
    rcases Nat.eq_zero_or_pos len with h0 | h0
    · subst h0; left; simp
    · -- the first cell tells the block
      have hx := h4 0 (by omega)
      have hsp : x.spot = none := by
        have : x.add 0 = x := by simp [Addr.add]
        rw [this] at hx
        unfold World.cell? at hx
        split at hx
        · split at hx
          · cases hx
          · rename_i hs; cases hq : x.spot <;> simp_all
        · cases hx
      obtain ⟨b, off, sp⟩ := x
      simp only at hsp
      subst hsp
      have hblk : ∃ c T' fz, w.heap[b]? = some (.cells c T' fz) := by
        have : (⟨b, off, none⟩ : Addr).add 0 = ⟨b, off, none⟩ := by simp [Addr.add]
        rw [this] at hx
        unfold World.cell? at hx
        split at hx
        · rename_i c T' fz hh; exact ⟨c, T', fz, hh⟩
        · cases hx
      obtain ⟨c, T', fz, hh⟩ := hblk
      have hcell : ∀ i, i < cap → c[off + i]? = some (.int k (zs.getD i 0)) := by
        intro i hi
        have := h4 i (by omega)
        rw [add_off] at this
        simpa [World.cell?, hh] using this
      have hsize : off + cap ≤ c.size := by
        have := hcell (cap - 1) (by omega)
        have := (Array.getElem?_eq_some_iff.1 this).1
        omega
      right
      refine ⟨b, T', c.toList.take off, c.toList.drop (off + len), ?_, by simp; omega, ?_⟩
      · have : (c.toList.take off).length = off := by simp; omega
        rw [this]
      · refine ⟨fz, ?_⟩
        show w.heap[b]? = _
        rw [hh]
        congr 2
        apply Array.ext'
        rw [List.toList_toArray]
        apply List.ext_getElem?
        intro i
        rcases Nat.lt_or_ge i off with q | q
        · rw [List.append_assoc, List.getElem?_append_left (by simp; omega), List.getElem?_take_of_lt q]
        · rw [List.append_assoc, List.getElem?_append_right (by simp; omega)]
          have e1 : (c.toList.take off).length = off := by simp; omega
          rw [e1]
          rcases Nat.lt_or_ge (i - off) len with r | r
          · rw [List.getElem?_append_left (by simp; omega)]
            have := hcell (i - off) (by omega)
            rw [show off + (i - off) = i from by omega] at this
            rw [Array.getElem?_toList, this]
            have hz : (zs.take len)[i - off]? = some (zs.getD (i - off) 0) := by
              rw [List.getElem?_take_of_lt r, List.getD_eq_getElem?_getD, List.getElem?_eq_getElem (by omega)]; rfl
            simp only [List.getElem?_map, hz, Option.map_some]
          · rw [List.getElem?_append_right (by simp; omega)]
            have e2 : ((zs.take len).map (Value.int k)).length = len := by simp; omega
            rw [e2, List.getElem?_drop]
            congr 1; omega
theorem IsRow.bytes {w : World} {a : Option Addr} {len cap : Nat} {zs : List Int} (T : TypeId) (h : IsRow .u8 w a len cap zs) : ∃ bs : List UInt8, bs.length = len ∧ SlR (heapOf w) T 1 a bs.length (bs.map bv) := by
  obtain ⟨ys, h1, h2, h3⟩ := h.reads T
  refine ⟨ys.map fun n => UInt8.ofNat n.toNat, by simpa using h1, ?_⟩
  have e : (ys.map fun n => UInt8.ofNat n.toNat).map bv = ys.map (Value.int .u8) := by
    rw [List.map_map]
    apply List.map_congr_left
    intro n hn
    have hw := h2 n hn
    have hb : 0 ≤ n ∧ n ≤ 255 := by simpa [Lit.wf, IntKind.min, IntKind.max, IntKind.signed, IntKind.bits] using hw
    simp only [Function.comp, bv]
    have : ((UInt8.ofNat n.toNat).toNat : Int) = n := by rw [UInt8.toNat_ofNat_of_lt' (by simp [UInt8.size]; omega)]; omega
    rw [this]
  rw [e, List.length_map, h1]; exact h3
theorem wf_i64 {n : Int} (h : (Lit.int .i64 n).wf = true) : -9223372036854775808 ≤ n ∧ n ≤ 9223372036854775807 := by
  simpa [Lit.wf, IntKind.min, IntKind.max, IntKind.signed, IntKind.bits] using h
theorem wf_u8 {n : Int} (h : (Lit.int .u8 n).wf = true) : 0 ≤ n ∧ n ≤ 255 := by
  simpa [Lit.wf, IntKind.min, IntKind.max, IntKind.signed, IntKind.bits] using h
end Go.Proofs.YtaaondbmkibkkaaGreat.Csl

/- Slices: parts of them. Nothing of a program stands here. -/
set_option linter.unusedVariables false
set_option linter.unusedSimpArgs false
namespace Go.Proofs.YtaaondbmkibkkaaGreat.Csl
open Go
theorem cutAt_self (a : Option Addr) (l sz : Nat) : cutAt a l l sz = a := by unfold cutAt; rw [if_pos rfl]
theorem cutAt_zero (a : Option Addr) (m sz : Nat) : cutAt a 0 m sz = a := by
  unfold cutAt; split
  · rfl
  · cases a with
    | none => rfl
    | some a => simp [Addr.add]
theorem SlR.nil {G : Gp} {T : TypeId} {sz : Nat} {a : Option Addr} : SlR G T sz a 0 [] := .inl ⟨rfl, rfl⟩
theorem SlR.sub {G : Gp} {T : TypeId} {sz : Nat} {a : Option Addr} {n cap : Nat} {cs : List Value} (i m : Nat) (h : SlR G T sz a n cs) (hi : i + m ≤ n) (hc : n ≤ cap) : SlR G T sz (cutAt a i cap sz) m ((cs.drop (i * sz)).take (m * sz)) := by
  by_cases hm : m = 0
  · subst hm; exact .inl ⟨rfl, by simp⟩
  rcases h with ⟨rfl, _⟩ | ⟨b, T', pre, post, rfl, h2, h3⟩
  · omega
  · right
    have e : cutAt (some ⟨b, pre.length, none⟩) i cap sz = some ⟨b, (pre ++ cs.take (i * sz)).length, none⟩ := by
      have : i * sz ≤ cs.length := by rw [h2]; exact Nat.mul_le_mul_right _ (by omega)
      unfold cutAt; rw [if_neg (by omega)]; simp [add_off, Nat.min_eq_left this]
    have l1 : ((cs.drop (i * sz)).take (m * sz)).length = m * sz := by
      rw [List.length_take, List.length_drop, h2, ← Nat.sub_mul]; exact Nat.min_eq_left (Nat.mul_le_mul_right _ (by omega))
    refine ⟨b, T', pre ++ cs.take (i * sz), (cs.drop (i * sz)).drop (m * sz) ++ post, e, l1, ?_⟩
    have : pre ++ cs.take (i * sz) ++ (cs.drop (i * sz)).take (m * sz) ++ ((cs.drop (i * sz)).drop (m * sz) ++ post) = pre ++ cs ++ post := by
      simp only [List.append_assoc]
      rw [← List.append_assoc (List.take (m * sz) _), List.take_append_drop, ← List.append_assoc (List.take (i * sz) cs), List.take_append_drop]
    rw [this]; exact h3
/-- The same, of bytes. -/
theorem SlR.subB {G : Gp} {T : TypeId} {a : Option Addr} {cap : Nat} {bs : List UInt8} (i m : Nat) (h : SlR G T 1 a bs.length (bs.map bv)) (hi : i + m ≤ bs.length) (hc : bs.length ≤ cap) : SlR G T 1 (cutAt a i cap 1) ((bs.drop i).take m).length (((bs.drop i).take m).map bv) := by
  have := h.sub i m hi hc
  rw [Nat.mul_one, Nat.mul_one, ← List.map_drop, ← List.map_take] at this
  rw [show ((bs.drop i).take m).length = m from by simp; omega]
  exact this
theorem SlR.toB {G : Gp} {T : TypeId} {a : Option Addr} {bs : List UInt8} (m : Nat) (h : SlR G T 1 a bs.length (bs.map bv)) : SlR G T 1 a (bs.take m).length ((bs.take m).map bv) := by
  by_cases hm : m ≤ bs.length
  · have := h.subB (cap := bs.length) 0 m (by omega) (Nat.le_refl _)
    rwa [cutAt_zero] at this
  · rw [List.take_of_length_le (by omega)]; exact h
theorem SlR.open1 {G : Gp} {T : TypeId} {sz : Nat} {a : Option Addr} {n : Nat} {cs : List Value} (h : SlR G T sz a n cs) (hn : 0 < n) : ∃ b T' pre post, a = some ⟨b, pre.length, none⟩ ∧ Ro G b T' (pre ++ cs ++ post) := by
  rcases h with ⟨rfl, _⟩ | ⟨b, T', pre, post, rfl, h2, h3⟩
  · omega
  · exact ⟨b, T', pre, post, rfl, h3⟩
theorem St.srcTake {P : Program} {G : Gp} {A : List HProp} {w : World} {T : TypeId} {sz : Nat} {a : Option Addr} {n cap : Nat} {cs : List Value} (m : Nat) (hm : m ≤ n) (s : St G (Sl T sz a n cap cs :: A) w) : Src P w sz (.slice a m cap) m (cs.take (m * sz)) := by
  obtain ⟨K, s', r, _⟩ := s.lend_Sl
  have h := (St.Sl_length s).2
  have := r.sub (cap := cap) 0 m (by omega) h
  rw [cutAt_zero, Nat.zero_mul, List.drop_zero] at this
  exact this.src s'
theorem St.srcTakeB {P : Program} {G : Gp} {A : List HProp} {w : World} {T : TypeId} {a : Option Addr} {cap : Nat} {bs : List UInt8} (m : Nat) (hm : m ≤ bs.length) (s : St G (Sl T 1 a bs.length cap (bs.map bv) :: A) w) : Src P w 1 (.slice a m cap) m ((bs.take m).map bv) := by
  have := s.srcTake (P := P) m hm
  rwa [Nat.mul_one, ← List.map_take] at this
theorem St.lenB {G : Gp} {A : List HProp} {w : World} {T : TypeId} {a : Option Addr} {cap : Nat} {bs : List UInt8} (s : St G (Sl T 1 a bs.length cap (bs.map bv) :: A) w) : bs.length ≤ cap := (St.Sl_length s).2
/-- A pure fact of what is owned. -/
theorem Run.know {c : Cx} {G : Gp} {st : List Item} {e : Env} {A : List HProp} {φ : Prop} (h : ∀ w, St G A w → φ) (next : φ → Run c G st e A) : Run c G st e A := fun a w ho s => next (h w s) a w ho s
theorem RunL.know {c : Cx} {G : Gp} {ops : Array Oper} {k : KT} {e : Env} {A : List HProp} {l : List Oper} {φ : Prop} (h : ∀ w, St G A w → φ) (next : φ → RunL c G ops l k e A) : RunL c G ops l k e A := fun a w ho s => next (h w s) a w ho s
theorem Run.asRow {c : Cx} {G : Gp} {st : List Item} {e : Env} {A A' : List HProp} {b : Nat} {T : TypeId} {cs : List Value} (cs' : List Value) (hf : Find (row b T cs) A A') (h : cs = cs') (next : Run c G st e (row b T cs' :: A')) : Run c G st e A := fun a w ho s => next a w ho (by rw [← h]; exact s.find hf)
theorem RunL.asRow {c : Cx} {G : Gp} {ops : Array Oper} {k : KT} {e : Env} {A A' : List HProp} {l : List Oper} {b : Nat} {T : TypeId} {cs : List Value} (cs' : List Value) (hf : Find (row b T cs) A A') (h : cs = cs') (next : RunL c G ops l k e (row b T cs' :: A')) : RunL c G ops l k e A := fun a w ho s => next a w ho (by rw [← h]; exact s.find hf)
theorem set_cell {pre post : List Value} {bs : List UInt8} {i : Nat} {v : Int} {x : UInt8} (h : i < bs.length) (hx : v = x.toNat) : (pre ++ bs.map bv ++ post).set (pre.length + i * 1) (.int .u8 v) = pre ++ (bs.set i x).map bv ++ post := by
  subst hx
  rw [Nat.mul_one, List.append_assoc, List.append_assoc, List.set_append_right _ _ (by omega), Nat.add_sub_cancel_left, List.set_append_left _ _ (by simpa using h), List.map_set]; rfl
end Go.Proofs.YtaaondbmkibkkaaGreat.Csl

/- What came in, by its type: what its cells are. Nothing of a program stands here. -/
set_option linter.unusedVariables false
set_option linter.unusedSimpArgs false
namespace Go.Proofs.YtaaondbmkibkkaaGreat.Csl
open Go Go.RowKit
/-- Cells of a type, as a row reads them. -/
def Tr {H : Type} (enc : TypeId × Value → H) (P : Program) (w : World) (t : TypeId) (cs : List Value) : Prop := ∃ n x, DataW.trod enc P w 0 (fun _ => true) true n t cs = some x
section
variable {H : Type} {enc : TypeId × Value → H} {P : Program} {w : World} {t : TypeId} {cs : List Value}
theorem Tr.of {v : Value} {d : DataW H} {ps : List MemPlace} (h : DataW.Trod enc P w 0 (fun _ => true) true t v d ps) : Tr enc P w t v.cells.toList := by
  obtain ⟨n, h⟩ := h; exact ⟨n, _, h⟩
theorem Tr.bool (ht : P.underlying t = some .bool) (h : Tr enc P w t cs) : ∃ b, cs = [.bool b] := by
  obtain ⟨n, x, h⟩ := h; obtain ⟨b, rfl, _⟩ := DataW.trod_bool ht h; exact ⟨b, rfl⟩
theorem Tr.int {k : IntKind} (ht : P.underlying t = some (.int k)) (h : Tr enc P w t cs) : ∃ n, cs = [.int k n] ∧ (Lit.int k n).wf = true := by
  obtain ⟨n, x, h⟩ := h; obtain ⟨b, rfl, _, hw⟩ := DataW.trod_int ht h; exact ⟨b, rfl, hw⟩
theorem Tr.string (ht : P.underlying t = some .string) (h : Tr enc P w t cs) : ∃ s : ByteArray, cs = [.string s] ∧ s.size ≤ 9223372036854775807 := by
  obtain ⟨n, x, h⟩ := h; obtain ⟨b, rfl, _, hw⟩ := DataW.trod_string ht h; exact ⟨b, rfl, hw⟩
theorem Tr.struct {fs : Array Field} (ht : P.underlying t = some (.struct fs)) (h : Tr enc P w t cs) : cs.length = P.cellsOf t ∧ ∀ (i : Nat) (f : Field), fs[i]? = some f → Tr enc P w f.type ((cs.drop f.offset).take (P.cellsOf f.type)) := by
  obtain ⟨n, x, h⟩ := h; obtain ⟨xs, m, _, _, h1, h2, h3⟩ := DataW.trod_struct ht h
  refine ⟨h1, fun i f hf => ?_⟩
  have hi : i < xs.length := by rw [h2]; exact (Array.getElem?_eq_some_iff.1 hf).1
  exact ⟨m, xs[i], by rw [h3 i f hf, List.getElem?_eq_getElem hi]⟩
theorem Tr.fieldAt {fs : Array Field} (h : ∀ (i : Nat) (f : Field), fs[i]? = some f → Tr enc P w f.type ((cs.drop f.offset).take (P.cellsOf f.type))) (i : Nat) {ft off z : Nat} (hf : (fs[i]?).map (fun f => (f.type, f.offset)) = some (ft, off)) (hz : P.cellsOf ft = z) : Tr enc P w ft ((cs.drop off).take z) := by
  cases hq : fs[i]? with
  | none => rw [hq] at hf; cases hf
  | some f =>
    rw [hq] at hf
    simp only [Option.map_some, Option.some.injEq, Prod.mk.injEq] at hf
    obtain ⟨rfl, rfl⟩ := hf
    rw [← hz]; exact h i f hq
theorem Tr.array {n : Nat} {e : TypeId} (ht : P.underlying t = some (.array n e)) (h : Tr enc P w t cs) : cs.length = P.cellsOf t ∧ ∀ i, i < n → Tr enc P w e ((cs.drop (i * P.cellsOf e)).take (P.cellsOf e)) := by
  obtain ⟨k, x, h⟩ := h; obtain ⟨xs, m, _, _, h1, h2, h3⟩ := DataW.trod_array ht h
  refine ⟨h1, fun i hi => ?_⟩
  exact ⟨m, xs[i], by rw [h3 i hi, List.getElem?_eq_getElem (by omega)]⟩
theorem Tr.slice {e : TypeId} (ht : P.underlying t = some (.slice e)) (h : Tr enc P w t cs) :
    ∃ a len cap, cs = [.slice a len cap] ∧ len ≤ cap ∧ cap ≤ 9223372036854775807 ∧ ((a = none ∧ len = 0 ∧ cap = 0) ∨ ∃ x, a = some x ∧ ∀ i, i < len → ∃ vs, w.cells? 0 (x.add (i * P.cellsOf e)) (P.cellsOf e) = some vs ∧ Tr enc P w e vs) := by
  obtain ⟨n, y, h⟩ := h
  rcases DataW.trod_slice ht h with ⟨rfl, _⟩ | ⟨a, len, cap, elems, rest, m, _, rfl, _, _, h1, h2, h3, h4, _⟩
  · exact ⟨none, 0, 0, rfl, Nat.le_refl _, by omega, .inl ⟨rfl, rfl, rfl⟩⟩
  · refine ⟨some a, len, cap, rfl, h1, h2, .inr ⟨a, rfl, fun i hi => ?_⟩⟩
    have := h4 i hi
    rw [List.getElem?_eq_getElem (by omega)] at this
    obtain ⟨vs, e1, e2⟩ := Option.bind_eq_some_iff.1 this
    exact ⟨vs, e1, m, _, e2⟩
end
theorem exists_list {α : Type} {n : Nat} {p : Nat → α → Prop} (h : ∀ i, i < n → ∃ x, p i x) : ∃ xs : List α, xs.length = n ∧ ∀ i x, xs[i]? = some x → p i x := by
  induction n with
  | zero => exact ⟨[], rfl, by simp⟩
  | succ n ih =>
    obtain ⟨xs, h1, h2⟩ := ih (fun i hi => h i (by omega))
    obtain ⟨x, hx⟩ := h n (by omega)
    refine ⟨xs ++ [x], by simp [h1], fun i y hy => ?_⟩
    rcases Nat.lt_or_ge i n with q | q
    · rw [List.getElem?_append_left (by omega)] at hy; exact h2 i y hy
    · rw [List.getElem?_append_right (by omega), h1] at hy
      have : i = n := by
        rcases Nat.lt_or_ge n i with r | r
        · rw [List.getElem?_eq_none (by simp; omega)] at hy; cases hy
        · omega
      subst this
      simp at hy; subst hy; exact hx
theorem flatMap_length {α : Type} {f : α → List Value} {sz : Nat} {xs : List α} (h : ∀ x ∈ xs, (f x).length = sz) : (xs.flatMap f).length = xs.length * sz := by
  induction xs with
  | nil => simp
  | cons x xs ih => rw [List.flatMap_cons, List.length_append, ih (fun y hy => h y (by simp [hy])), h x (by simp), List.length_cons, Nat.add_mul, Nat.one_mul, Nat.add_comm]
theorem flatMap_get {α : Type} {f : α → List Value} {sz : Nat} : ∀ {xs : List α} {i j : Nat} {x : α}, (∀ x ∈ xs, (f x).length = sz) → xs[i]? = some x → j < sz → (xs.flatMap f)[i * sz + j]? = (f x)[j]?
  | [], i, j, x, _, h, _ => by simp at h
  | y :: xs, 0, j, x, hl, h, hj => by
    simp at h; subst h
    rw [Nat.zero_mul, Nat.zero_add, List.flatMap_cons, List.getElem?_append_left (by rw [hl y (by simp)]; exact hj)]
  | y :: xs, i + 1, j, x, hl, h, hj => by
    have hy := hl y (by simp)
    rw [List.flatMap_cons, List.getElem?_append_right (by rw [hy, Nat.add_mul]; omega), hy, show (i + 1) * sz + j - sz = i * sz + j from by rw [Nat.add_mul]; omega]
    exact flatMap_get (fun x hx => hl x (by simp [hx])) (by simpa using h) hj
theorem flatMap_take {α : Type} {f : α → List Value} {sz : Nat} {xs : List α} {i : Nat} {x : α} (hl : ∀ x ∈ xs, (f x).length = sz) (h : xs[i]? = some x) : ((xs.flatMap f).drop (i * sz)).take sz = f x := by
  have hx := hl x (List.mem_of_getElem? h)
  have hi : i < xs.length := (List.getElem?_eq_some_iff.1 h).1
  apply List.ext_getElem?
  intro j
  rcases Nat.lt_or_ge j sz with q | q
  · rw [List.getElem?_take_of_lt q, List.getElem?_drop, flatMap_get hl h q]
  · rw [List.getElem?_eq_none (by rw [List.length_take]; omega), List.getElem?_eq_none (by omega)]
/-- Cells that a world holds from an address on, as a slice that is only read. -/
theorem slr_of {α : Type} {f : α → List Value} {sz : Nat} {w : World} {x : Addr} {xs : List α} (T : TypeId) (hs : 0 < sz) (hl : ∀ y ∈ xs, (f y).length = sz) (hc : ∀ i y, xs[i]? = some y → w.cells? 0 (x.add (i * sz)) sz = some (f y)) :
    SlR (heapOf w) T sz (some x) xs.length (xs.flatMap f) := by
  rcases Nat.eq_zero_or_pos xs.length with h0 | h0
  · left; exact ⟨h0, by rw [List.length_eq_zero_iff.1 h0]; rfl⟩
  have hx0 := List.getElem?_eq_getElem h0
  have hf0 := hl _ (List.mem_of_getElem? hx0)
  have hsp : ∃ c T' fz, x.spot = none ∧ w.heap[x.block]? = some (.cells c T' fz) := by
    have h2 := (World.cells?_some (hc 0 _ hx0)).2.2 0 hs
    have e : (x.add (0 * sz)).add 0 = x := by simp [Addr.add]
    rw [e, List.getElem?_eq_getElem (by omega)] at h2
    unfold World.cell? at h2
    split at h2
    · split at h2
      · cases h2
      · rename_i c T' fz hh hq
        refine ⟨c, T', fz, ?_, hh⟩
        cases hq2 : x.spot <;> simp_all
    · cases h2
  obtain ⟨c, T', fz, hq, hh⟩ := hsp
  obtain ⟨b, off, sp⟩ := x
  simp only at hq hh
  subst hq
  have each : ∀ j v, (xs.flatMap f)[j]? = some v → c[off + j]? = some v := by
    intro j v hj
    have hjl : j < xs.length * sz := by rw [← flatMap_length hl]; exact (List.getElem?_eq_some_iff.1 hj).1
    have hi : j / sz < xs.length := (Nat.div_lt_iff_lt_mul hs).2 hjl
    have hy := List.getElem?_eq_getElem hi
    have hm := Nat.mod_lt j hs
    have e : j = j / sz * sz + j % sz := by rw [Nat.mul_comm]; exact (Nat.div_add_mod j sz).symm
    have h2 := (World.cells?_some (hc _ _ hy)).2.2 (j % sz) hm
    rw [← flatMap_get hl hy hm, ← e, hj, add_off, add_off, Nat.add_assoc, ← e] at h2
    simpa [World.cell?, hh] using h2
  have hlen : (xs.flatMap f).length = xs.length * sz := flatMap_length hl
  have hsize : off + (xs.flatMap f).length ≤ c.size := by
    have hp : 0 < (xs.flatMap f).length := by rw [hlen]; exact Nat.mul_pos h0 hs
    have := each ((xs.flatMap f).length - 1) _ (List.getElem?_eq_getElem (by omega))
    have := (Array.getElem?_eq_some_iff.1 this).1
    omega
  right
  refine ⟨b, T', c.toList.take off, c.toList.drop (off + (xs.flatMap f).length), ?_, hlen, ?_⟩
  · have : (c.toList.take off).length = off := by simp; omega
    rw [this]
  · refine ⟨fz, ?_⟩
    show w.heap[b]? = _
    rw [hh]
    congr 2
    apply Array.ext'
    rw [List.toList_toArray]
    apply List.ext_getElem?
    intro i
    rcases Nat.lt_or_ge i off with q | q
    · rw [List.append_assoc, List.getElem?_append_left (by simp; omega), List.getElem?_take_of_lt q]
    · rw [List.append_assoc, List.getElem?_append_right (by simp; omega)]
      have e1 : (c.toList.take off).length = off := by simp; omega
      rw [e1]
      rcases Nat.lt_or_ge (i - off) (xs.flatMap f).length with r | r
      · rw [List.getElem?_append_left r]
        have h2 := List.getElem?_eq_getElem r
        have := each _ _ h2
        rw [show off + (i - off) = i from by omega] at this
        rw [Array.getElem?_toList, this, h2]
      · rw [List.getElem?_append_right r, List.getElem?_drop]
        congr 1; omega
/-- A slice that came in, by its elements. -/
theorem Tr.rows {H : Type} {enc : TypeId × Value → H} {P : Program} {w : World} {t e : TypeId} {α : Type} {f : α → List Value} {φ : α → Prop} {sz : Nat} {a : Option Addr} {len cap : Nat} (T : TypeId) (h : Tr enc P w t [.slice a len cap]) (ht : P.underlying t = some (.slice e)) (hsz : P.cellsOf e = sz) (hs : 0 < sz)
    (hl : ∀ x, (f x).length = sz) (hx : ∀ vs, Tr enc P w e vs → ∃ x, vs = f x ∧ φ x) :
    ∃ xs : List α, xs.length = len ∧ (∀ x ∈ xs, φ x) ∧ SlR (heapOf w) T sz a xs.length (xs.flatMap f) ∧ len ≤ cap ∧ cap ≤ 9223372036854775807 := by
  obtain ⟨a', len', cap', e0, h1, h2, h3⟩ := h.slice ht
  cases e0
  rcases h3 with ⟨rfl, rfl, rfl⟩ | ⟨x, rfl, h4⟩
  · exact ⟨[], rfl, by simp, .inl ⟨rfl, rfl⟩, h1, h2⟩
  · rw [hsz] at h4
    obtain ⟨xs, q1, q2⟩ := exists_list (p := fun i (y : α) => φ y ∧ w.cells? 0 (x.add (i * sz)) sz = some (f y)) (fun i hi => by
      obtain ⟨vs, c1, c2⟩ := h4 i hi
      obtain ⟨y, rfl, hy⟩ := hx vs c2
      exact ⟨y, hy, c1⟩)
    refine ⟨xs, q1, fun y hy => ?_, slr_of T hs (fun y _ => hl y) (fun i y hy => (q2 i y hy).2), h1, h2⟩
    obtain ⟨i, hi⟩ := List.getElem?_of_mem hy
    exact (q2 i y hi).1
/-- The same, of elements of one cell. -/
theorem flatMap_one {α : Type} (f : α → Value) (xs : List α) : (xs.flatMap fun x => [f x]) = xs.map f := by
  induction xs with
  | nil => rfl
  | cons x xs ih => rw [List.flatMap_cons, ih]; rfl
theorem Tr.rows1 {H : Type} {enc : TypeId × Value → H} {P : Program} {w : World} {t e : TypeId} {α : Type} {f : α → Value} {φ : α → Prop} {a : Option Addr} {len cap : Nat} (T : TypeId) (h : Tr enc P w t [.slice a len cap]) (ht : P.underlying t = some (.slice e)) (hsz : P.cellsOf e = 1)
    (hx : ∀ vs, Tr enc P w e vs → ∃ x, vs = [f x] ∧ φ x) :
    ∃ xs : List α, xs.length = len ∧ (∀ x ∈ xs, φ x) ∧ SlR (heapOf w) T 1 a xs.length (xs.map f) ∧ len ≤ cap ∧ cap ≤ 9223372036854775807 := by
  obtain ⟨xs, h1, h2, h3, h4⟩ := h.rows (f := fun x => [f x]) T ht hsz (by decide) (fun _ => rfl) hx
  rw [flatMap_one] at h3
  exact ⟨xs, h1, h2, h3, h4⟩
/-- Indexing an array by its address. -/
theorem Pure.indexAddrArr {P : Program} {e : Env} {d : Option Tmp} {tt t : TypeId} {pos : String} {af : Array Edge} {gd : Option (Nat × Bool)} {x y : Operand} {b off n sz : Nat} {E : TypeId} {k : IntKind} {i : Int} (hx : opv e x = some (.pointer (some ⟨b, off, none⟩))) (hy : opv e y = some (.int k i)) (ht : P.underlying t = some (.array n E)) (hs : sizeIs P E = some sz)
    (h0 : 0 ≤ i) (h1 : i < n) : Pure P e ⟨d, .indexAddr t x y, tt, pos, af, gd⟩ (.pointer (some ⟨b, off + i.toNat * sz, none⟩)) := fun ρ w ho => by
  have e1 := ho _ _ hx; have e2 := ho _ _ hy
  simp only [execOp, e1, e2, Instr.indexAt, asIntOf]
  simp [run_underlying ht, run_sizeOf hs, h0, h1, add_off, Instr.sureAddr]
/-- A cell of an element. -/
theorem elem_at {α : Type} {f : α → List Value} {sz : Nat} {xs : List α} {x : α} {pre post : List Value} {i j : Nat} (hl : ∀ x ∈ xs, (f x).length = sz) (h : xs[i]? = some x) (hj : j < sz) : (pre ++ xs.flatMap f ++ post)[pre.length + i * sz + j]? = (f x)[j]? := by
  have hg := flatMap_get hl h hj
  have hlt : i * sz + j < (xs.flatMap f).length := by
    rw [flatMap_length hl]
    have : i < xs.length := (List.getElem?_eq_some_iff.1 h).1
    have := Nat.mul_le_mul_right sz (show i + 1 ≤ xs.length from this)
    rw [Nat.add_mul, Nat.one_mul] at this; omega
  rw [List.append_assoc, Nat.add_assoc, List.getElem?_append_right (by omega), Nat.add_sub_cancel_left, List.getElem?_append_left hlt, hg]
theorem elem1_at {α : Type} {f : α → Value} {xs : List α} {x : α} {pre post : List Value} {i : Nat} (h : xs[i]? = some x) : (pre ++ xs.map f ++ post)[pre.length + i * 1]? = some (f x) := by
  have hlt : i < (xs.map f).length := by rw [List.length_map]; exact (List.getElem?_eq_some_iff.1 h).1
  rw [Nat.mul_one, List.append_assoc, List.getElem?_append_right (by omega), Nat.add_sub_cancel_left, List.getElem?_append_left hlt, List.getElem?_map, h]; rfl
theorem get_some {α : Type} {xs : List α} {i : Nat} (h : i < xs.length) : ∃ x, xs[i]? = some x := ⟨_, List.getElem?_eq_getElem h⟩
/-- Two numbers. -/
def pairCells (p : Int × Int) : List Value := [.int .i64 p.1, .int .i64 p.2]
def PairOk (p : Int × Int) : Prop := (Lit.int .i64 p.1).wf = true ∧ (Lit.int .i64 p.2).wf = true
theorem Tr.pair {H : Type} {enc : TypeId × Value → H} {P : Program} {w : World} {t e : TypeId} {cs : List Value} (h : Tr enc P w t cs) (ht : P.underlying t = some (.array 2 e)) (he : P.underlying e = some (.int .i64)) (hc : P.cellsOf e = 1 ∧ P.cellsOf t = 2) : ∃ p, cs = pairCells p ∧ PairOk p := by
  obtain ⟨h1, h2⟩ := h.array ht
  rw [hc.2] at h1
  rw [hc.1] at h2
  match cs, h1 with
  | [u, v], _ =>
    obtain ⟨n, e1, w1⟩ := (h2 0 (by decide)).int he
    obtain ⟨m, e2, w2⟩ := (h2 1 (by decide)).int he
    simp at e1 e2
    exact ⟨(n, m), by rw [e1, e2]; rfl, w1, w2⟩
end Go.Proofs.YtaaondbmkibkkaaGreat.Csl

