/- A small separation logic over the model's calls: heaplets, states, contracts, and rules that walk a function's text. Nothing of a program stands here. -/
import Derived.Tactics
import Derived.Defers
import Derived.KernelRfl
namespace Go.Proofs.Ytghmmjifmnmbgaa.Csl
open Go

/-! ### Heaplets -/
abbrev Hp := Nat → Option Obj
namespace Hp
def sub (h : Hp) (w : World) : Prop := ∀ b o, h b = some o → w.heap[b]? = some o
def disj (h k : Hp) : Prop := ∀ b, h b = none ∨ k b = none
def join (h k : Hp) : Hp := fun b => match h b with | some o => some o | none => k b
def empty : Hp := fun _ => none
def one (b : Nat) (o : Obj) : Hp := fun c => if c = b then some o else none
theorem one_self (b : Nat) (o : Obj) : one b o b = some o := by simp [one]
theorem one_ne {b c : Nat} (o : Obj) (h : c ≠ b) : one b o c = none := by simp [one, h]
theorem disj_comm {h k : Hp} (d : disj h k) : disj k h := fun b => (d b).symm
theorem join_comm {h k : Hp} (d : disj h k) : join h k = join k h := by
  funext b; unfold join; rcases d b with e | e
  · rw [e]; cases k b <;> rfl
  · rw [e]; cases h b <;> rfl
theorem join_assoc (h k l : Hp) : join (join h k) l = join h (join k l) := by
  funext b; unfold join; cases h b <;> simp
theorem join_empty (h : Hp) : join h empty = h := by funext b; unfold join empty; cases h b <;> rfl
theorem empty_join (h : Hp) : join empty h = h := by funext b; unfold join empty; rfl
theorem disj_empty (h : Hp) : disj h empty := fun _ => .inr rfl
theorem empty_disj (h : Hp) : disj empty h := fun _ => .inl rfl
theorem join_none {h k : Hp} {b : Nat} : join h k b = none ↔ h b = none ∧ k b = none := by
  unfold join; cases h b <;> simp
theorem disj_join {h k l : Hp} : disj h (join k l) ↔ disj h k ∧ disj h l := by
  constructor
  · intro d; exact ⟨fun b => (d b).imp id fun e => (join_none.1 e).1, fun b => (d b).imp id fun e => (join_none.1 e).2⟩
  · rintro ⟨d, e⟩ b
    rcases d b with x | x
    · exact .inl x
    · exact (e b).imp id fun y => join_none.2 ⟨x, y⟩
theorem join_disj {h k l : Hp} : disj (join h k) l ↔ disj h l ∧ disj k l := by
  constructor
  · intro d; have := disj_join.1 (disj_comm d); exact ⟨disj_comm this.1, disj_comm this.2⟩
  · rintro ⟨d, e⟩; exact disj_comm (disj_join.2 ⟨disj_comm d, disj_comm e⟩)
theorem join_left {h k : Hp} {b : Nat} {o : Obj} (e : h b = some o) : join h k b = some o := by unfold join; rw [e]
theorem join_right {h k : Hp} {b : Nat} {o : Obj} (d : disj h k) (e : k b = some o) : join h k b = some o := by
  unfold join; rcases d b with x | x
  · rw [x]; exact e
  · rw [x] at e; cases e
theorem sub_join {h k : Hp} {w : World} (d : disj h k) : (join h k).sub w ↔ h.sub w ∧ k.sub w := by
  constructor
  · intro s; exact ⟨fun b o e => s b o (join_left e), fun b o e => s b o (join_right d e)⟩
  · rintro ⟨s, t⟩ b o e
    unfold join at e; split at e
    · rename_i x hx; cases e; exact s b _ hx
    · exact t b o e
theorem sub_lt {h : Hp} {w : World} {b : Nat} {o : Obj} (s : h.sub w) (e : h b = some o) : b < w.heap.size := by
  have := s b o e
  rcases Nat.lt_or_ge b w.heap.size with x | x
  · exact x
  · rw [Array.getElem?_eq_none x] at this; cases this
end Hp

abbrev HProp := Hp → Prop
def stars : List HProp → HProp
  | [] => fun h => h = Hp.empty
  | P :: l => fun h => ∃ h1 h2, Hp.disj h1 h2 ∧ h = Hp.join h1 h2 ∧ P h1 ∧ stars l h2

theorem stars_append {A B : List HProp} : ∀ {h : Hp}, stars (A ++ B) h ↔ ∃ h1 h2, Hp.disj h1 h2 ∧ h = Hp.join h1 h2 ∧ stars A h1 ∧ stars B h2 := by
  induction A with
  | nil =>
    intro h; constructor
    · intro s; exact ⟨Hp.empty, h, Hp.empty_disj h, (Hp.empty_join h).symm, rfl, s⟩
    · rintro ⟨h1, h2, _, rfl, e, s⟩
      have e' : h1 = Hp.empty := e
      subst e'; rw [Hp.empty_join]; exact s
  | cons P A ih =>
    intro h; constructor
    · rintro ⟨h1, h2, d, rfl, p, s⟩
      obtain ⟨h3, h4, d', rfl, s1, s2⟩ := ih.1 s
      have dd := Hp.disj_join.1 d
      exact ⟨Hp.join h1 h3, h4, Hp.join_disj.2 ⟨dd.2, d'⟩, (Hp.join_assoc _ _ _).symm, ⟨h1, h3, dd.1, rfl, p, s1⟩, s2⟩
    · rintro ⟨h1, h2, d, rfl, ⟨h3, h4, d', rfl, p, s1⟩, s2⟩
      have dd := Hp.join_disj.1 d
      exact ⟨h3, Hp.join h4 h2, Hp.disj_join.2 ⟨d', dd.1⟩, Hp.join_assoc _ _ _, p, ih.2 ⟨h4, h2, dd.2, rfl, s1, s2⟩⟩

theorem stars_swap {P Q : HProp} {A : List HProp} {h : Hp} (s : stars (P :: Q :: A) h) : stars (Q :: P :: A) h := by
  obtain ⟨h1, h2, d, rfl, p, h3, h4, d', rfl, q, s⟩ := s
  have dd := Hp.disj_join.1 d
  refine ⟨h3, Hp.join h1 h4, Hp.disj_join.2 ⟨Hp.disj_comm dd.1, d'⟩, ?_, q, h1, h4, dd.2, rfl, p, s⟩
  rw [← Hp.join_assoc, Hp.join_comm dd.1, Hp.join_assoc]

theorem stars_perm {A B : List HProp} (p : A.Perm B) : ∀ {h : Hp}, stars A h → stars B h := by
  induction p with
  | nil => exact fun s => s
  | cons x _ ih => rintro h ⟨h1, h2, d, e, q, s⟩; exact ⟨h1, h2, d, e, q, ih s⟩
  | swap x y l => exact fun s => stars_swap s
  | trans _ _ ih1 ih2 => exact fun s => ih2 (ih1 s)

/-- What is only read, and what of the world stays besides. -/
structure Gp where
  hp : Hp
  os : Os
  tape : Nat → Question → Nat
  output : Array (Nat × ByteArray)
  dr : Nat
instance : CoeFun Gp (fun _ => Nat → Option Obj) := ⟨Gp.hp⟩
namespace Gp
def join (G : Gp) (K : Hp) : Gp := { G with hp := Hp.join G.hp K }
def sub (G : Gp) (w : World) : Prop := Hp.sub G.hp w ∧ w.os = G.os ∧ w.tape = G.tape ∧ w.output = G.output ∧ G.dr ≤ w.drawn
theorem join_empty (G : Gp) : join G Hp.empty = G := by unfold join; rw [Hp.join_empty]
structure le (G G' : Gp) : Prop where
  at_ : ∀ b o, G.hp b = some o → G'.hp b = some o
  sub : ∀ w, G'.sub w → G.sub w
end Gp
/-- Worlds that part in memory and in draws alone. -/
def Alike3 (w w' : World) : Prop := w'.os = w.os ∧ w'.tape = w.tape ∧ w'.output = w.output ∧ w.drawn ≤ w'.drawn
theorem Alike3.refl (w : World) : Alike3 w w := ⟨rfl, rfl, rfl, Nat.le_refl _⟩
theorem Gp.sub_of {G : Gp} {w w' : World} (e : Alike3 w w') (h : Hp.sub G.hp w') (g : G.sub w) : G.sub w' := ⟨h, e.1.trans g.2.1, e.2.1.trans g.2.2.1, e.2.2.1.trans g.2.2.2.1, Nat.le_trans g.2.2.2.2 e.2.2.2⟩

/-- The state: what is only read (G), and what is owned. -/
def St (G : Gp) (A : List HProp) (w : World) : Prop := ∃ h, G.sub w ∧ h.sub w ∧ Hp.disj G.hp h ∧ stars A h

theorem St.perm {G : Gp} {A B : List HProp} {w : World} (p : A.Perm B) (s : St G A w) : St G B w := by
  obtain ⟨h, g, s, d, a⟩ := s; exact ⟨h, g, s, d, stars_perm p a⟩
theorem St.imp {G : Gp} {P Q : HProp} {A : List HProp} {w : World} (i : ∀ h, P h → Q h) (s : St G (P :: A) w) : St G (Q :: A) w := by
  obtain ⟨h, g, s, d, h1, h2, d', e, p, a⟩ := s; exact ⟨h, g, s, d, h1, h2, d', e, i _ p, a⟩
theorem St.drop {G : Gp} {P : HProp} {A : List HProp} {w : World} (s : St G (P :: A) w) : St G A w := by
  obtain ⟨h, g, s, d, h1, h2, d', rfl, p, a⟩ := s
  exact ⟨h2, g, ((Hp.sub_join d').1 s).2, (Hp.disj_join.1 d).2, a⟩
theorem St.ro {G : Gp} {A : List HProp} {w : World} {b : Nat} {o : Obj} (s : St G A w) (g : G b = some o) : w.heap[b]? = some o := by
  obtain ⟨h, gs, _⟩ := s; exact gs.1 b o g
/-- The world counts only by its blocks. -/
theorem St.same {G : Gp} {A : List HProp} {w w' : World} (e : w'.heap = w.heap) (e3 : Alike3 w w') (s : St G A w) : St G A w' := by
  obtain ⟨h, g, s, r⟩ := s
  exact ⟨h, Gp.sub_of e3 (fun b o x => by rw [e]; exact g.1 b o x) g, fun b o x => by rw [e]; exact s b o x, r⟩

/-- One block, whole. -/
def pt (b : Nat) (o : Obj) : HProp := fun h => h = Hp.one b o
theorem St.pt_at {G : Gp} {A : List HProp} {w : World} {b : Nat} {o : Obj} (s : St G (pt b o :: A) w) : w.heap[b]? = some o := by
  obtain ⟨h, g, s, d, h1, h2, d', rfl, p, a⟩ := s
  have p' : h1 = Hp.one b o := p
  subst p'
  exact s b o (Hp.join_left (Hp.one_self b o))
theorem St.pt_set {G : Gp} {A : List HProp} {w w' : World} {b : Nat} {o o' : Obj} (s : St G (pt b o :: A) w)
    (hb : w'.heap[b]? = some o') (hne : ∀ c, c ≠ b → w'.heap[c]? = w.heap[c]?) (e3 : Alike3 w w') : St G (pt b o' :: A) w' := by
  obtain ⟨h, g, s, d, h1, h2, d', rfl, p, a⟩ := s
  have p' : h1 = Hp.one b o := p
  subst p'
  have ss := (Hp.sub_join d').1 s
  have dd := Hp.disj_join.1 d
  have d1 : Hp.disj G.hp (Hp.one b o') := fun c => by
    by_cases e : c = b
    · subst e; refine .inl ((dd.1 c).resolve_right ?_); rw [Hp.one_self]; simp
    · exact .inr (Hp.one_ne _ e)
  have d2 : Hp.disj (Hp.one b o') h2 := fun c => by
    by_cases e : c = b
    · subst e; refine .inr ((d' c).resolve_left ?_); rw [Hp.one_self]; simp
    · exact .inl (Hp.one_ne _ e)
  refine ⟨Hp.join (Hp.one b o') h2, Gp.sub_of e3 ?_ g, ?_, Hp.disj_join.2 ⟨d1, dd.2⟩, _, h2, d2, rfl, rfl, a⟩
  · intro c x hx
    by_cases e : c = b
    · subst e; rcases d1 c with y | y
      · rw [y] at hx; cases hx
      · rw [Hp.one_self] at y; cases y
    · rw [hne c e]; exact g.1 c x hx
  · refine (Hp.sub_join d2).2 ⟨?_, ?_⟩
    · intro c x hx
      by_cases e : c = b
      · subst e; rw [Hp.one_self] at hx; cases hx; exact hb
      · rw [Hp.one_ne _ e] at hx; cases hx
    · intro c x hx
      by_cases e : c = b
      · subst e; rcases d2 c with y | y
        · rw [Hp.one_self] at y; cases y
        · rw [y] at hx; cases hx
      · rw [hne c e]; exact ss.2 c x hx
theorem St.pt_new {G : Gp} {A : List HProp} {w w' : World} {o : Obj} (s : St G A w)
    (hb : w'.heap[w.heap.size]? = some o) (hne : ∀ c, c < w.heap.size → w'.heap[c]? = w.heap[c]?) (e3 : Alike3 w w') : St G (pt w.heap.size o :: A) w' := by
  obtain ⟨h, g, s, d, a⟩ := s
  have lt : ∀ {k : Hp}, k.sub w → k w.heap.size = none := fun {k} t => by
    cases e : k w.heap.size with
    | none => rfl
    | some x => exact absurd (Hp.sub_lt t e) (Nat.lt_irrefl _)
  have d1 : Hp.disj G.hp (Hp.one w.heap.size o) := fun c => by
    by_cases e : c = w.heap.size
    · subst e; exact .inl (lt g.1)
    · exact .inr (Hp.one_ne _ e)
  have d2 : Hp.disj (Hp.one w.heap.size o) h := fun c => by
    by_cases e : c = w.heap.size
    · subst e; exact .inr (lt s)
    · exact .inl (Hp.one_ne _ e)
  refine ⟨Hp.join (Hp.one w.heap.size o) h, Gp.sub_of e3 ?_ g, ?_, Hp.disj_join.2 ⟨d1, d⟩, _, h, d2, rfl, rfl, a⟩
  · intro c x hx; rw [hne c (Hp.sub_lt g.1 hx)]; exact g.1 c x hx
  · refine (Hp.sub_join d2).2 ⟨?_, fun c x hx => by rw [hne c (Hp.sub_lt s hx)]; exact s c x hx⟩
    intro c x hx
    by_cases e : c = w.heap.size
    · subst e; rw [Hp.one_self] at hx; cases hx; exact hb
    · rw [Hp.one_ne _ e] at hx; cases hx
/-- A block is lent: it is only read for a while. -/
theorem St.lend {G : Gp} {A : List HProp} {w : World} {b : Nat} {o : Obj} (s : St G (pt b o :: A) w) : G b = none ∧ St (Gp.join G (Hp.one b o)) A w := by
  obtain ⟨h, g, s, d, h1, h2, d', rfl, p, a⟩ := s
  have p' : h1 = Hp.one b o := p
  subst p'
  have ss := (Hp.sub_join d').1 s
  have dd := Hp.disj_join.1 d
  refine ⟨(dd.1 b).resolve_right (by rw [Hp.one_self]; simp), h2, ⟨(Hp.sub_join dd.1).2 ⟨g.1, ss.1⟩, g.2⟩, ss.2, Hp.join_disj.2 ⟨dd.2, d'⟩, a⟩
theorem St.back {G : Gp} {A : List HProp} {w : World} {b : Nat} {o : Obj} (n : G b = none) (s : St (Gp.join G (Hp.one b o)) A w) : St G (pt b o :: A) w := by
  obtain ⟨h, g, s, d, a⟩ := s
  have d0 : Hp.disj G.hp (Hp.one b o) := fun c => by
    by_cases e : c = b
    · subst e; exact .inl n
    · exact .inr (Hp.one_ne _ e)
  have gg := (Hp.sub_join d0).1 g.1
  have dd := Hp.join_disj.1 d
  exact ⟨Hp.join (Hp.one b o) h, ⟨gg.1, g.2⟩, (Hp.sub_join dd.2).2 ⟨gg.2, s⟩, Hp.disj_join.2 ⟨d0, dd.1⟩, _, h, dd.2, rfl, rfl, a⟩
theorem St.lt {G : Gp} {A : List HProp} {w : World} {b : Nat} {o : Obj} (s : St G A w) (g : G b = some o) : b < w.heap.size := by
  obtain ⟨h, gs, _⟩ := s; exact Hp.sub_lt gs.1 g

/-! ### Finding atoms -/
inductive Find {α : Type} (p : α) : List α → List α → Prop
  | here (A : List α) : Find p (p :: A) A
  | there {q : α} {A B : List α} (f : Find p A B) : Find p (q :: A) (q :: B)
theorem F0 {α : Type} {p : α} (A : List α) : Find p (p :: A) A := Find.here A
theorem F1 {α : Type} {p q : α} {A B : List α} (f : Find p A B) : Find p (q :: A) (q :: B) := .there f
theorem Find.perm {α : Type} {p : α} {A B : List α} (f : Find p A B) : A.Perm (p :: B) := by
  induction f with
  | here A => exact .refl _
  | there f ih => exact (ih.cons _).trans (.swap _ _ _)
/-- The atoms 'ps' stand among 'A', 'F' is the rest. -/
inductive Take {α : Type} : List α → List α → List α → Prop
  | nil (A : List α) : Take [] A A
  | cons {p : α} {ps A B F : List α} (f : Find p A B) (t : Take ps B F) : Take (p :: ps) A F
theorem Take.perm {α : Type} {ps A F : List α} (t : Take ps A F) : A.Perm (ps ++ F) := by
  induction t with
  | nil A => exact .refl _
  | cons f t ih => exact f.perm.trans (ih.cons _)

/-! ### Walking -/
/-- From the frame 'a' with the stack 'k' the function comes to an end that 'R' lets in. -/
def Ok (P : Program) (f : FuncId) (R : Ending → World → Prop) (k : List Item) (a : Act) (w : World) : Prop :=
  ∀ (b : Frame) (cs : List Frame), b.fn = f → b.kind = .normal →
    ∃ e w' fr, R e w' ∧ Comes P (lone (b.at a k) cs w) (lone fr cs w') e ∧ fr.fn = f ∧ fr.leaving P w' e

section
variable {P : Program} {f : FuncId} {R : Ending → World → Prop} {k : List Item} {a : Act} {w : World}
theorem Ok.steps {k' : List Item} {a' : Act} {w' : World} (h : ∀ (b : Frame) cs, b.fn = f → Steps P (lone (b.at a k) cs w) (lone (b.at a' k') cs w')) (o : Ok P f R k' a' w') : Ok P f R k a w := by
  intro b cs hb hk
  obtain ⟨e, w2, fr, r, c, l⟩ := o b cs hb hk
  exact ⟨e, w2, fr, r, Comes.of_steps (h b cs hb) c, l⟩
theorem Ok.seq {x y : Code} (o : Ok P f R (.code x :: .code y :: k) a w) : Ok P f R (.code (.seq x y) :: k) a w :=
  o.steps fun _ _ _ => .one step_seq
theorem Ok.skip (o : Ok P f R k a w) : Ok P f R (.code .skip :: k) a w := o.steps fun _ _ _ => .one step_skip
theorem Ok.label {l : Nat} (o : Ok P f R k a w) : Ok P f R (.code (.label l) :: k) a w := o.steps fun _ _ _ => .one step_label
theorem Ok.inBlock {i : Nat} (o : Ok P f R k a w) : Ok P f R (.inBlock i :: k) a w := o.steps fun _ _ _ => .one step_inBlock
theorem Ok.block {i : Nat} {c : Code} (o : Ok P f R (.code c :: .inBlock i :: k) a w) : Ok P f R (.code (.block i c) :: k) a w := o.steps fun _ _ _ => .one step_block
theorem Ok.loop {c : Code} (o : Ok P f R (.code c :: .inLoop c :: k) a w) : Ok P f R (.code (.loop c) :: k) a w := o.steps fun _ _ _ => .one step_loop
theorem Ok.inLoop {c : Code} (o : Ok P f R (.code c :: .inLoop c :: k) a w) : Ok P f R (.inLoop c :: k) a w := o.steps fun _ _ _ => .one step_inLoop
theorem Ok.exit {i : Nat} {k' : List Item} (h : exitTo i k = some k') (o : Ok P f R k' a w) : Ok P f R (.code (.exit i) :: k) a w := o.steps fun _ _ _ => .one (step_exit h)
theorem Ok.goto {i : Nat} {k' : List Item} (h : gotoIn i k = some k') (o : Ok P f R k' a w) : Ok P f R (.code (.goto i) :: k) a w := o.steps fun _ _ _ => .one (step_goto h)
theorem Ok.cond {c : Operand} {x y : Code} {t : Bool} (h : a.eval c = .bool t) (o : Ok P f R (.code (if t then x else y) :: k) a w) : Ok P f R (.code (.cond c x y) :: k) a w :=
  o.steps fun _ _ _ => .one (step_cond h)
theorem Ok.ret {fn : Func} {v : Value} (hf : P.funcs[f]? = some fn) (hd : a.defers = []) (hr : (results fn a.tmps).run P w = .ok v w) (r : R (.returned v) w) : Ok P f R (.code .ret :: k) a w := by
  intro b cs hb hk
  exact ⟨.returned v, w, _, r, .one step_ret, hb, rfl, hd, hk, fn, hb ▸ hf, hr⟩
theorem Ok.fin {fn : Func} {v : Value} (hf : P.funcs[f]? = some fn) (hd : a.defers = []) (hr : (results fn a.tmps).run P w = .ok v w) (r : R (.returned v) w) : Ok P f R [] a w := by
  intro b cs hb hk
  exact ⟨.returned v, w, _, r, .one step_end, hb, rfl, hd, hk, fn, hb ▸ hf, hr⟩
theorem Ok.retD {fn : Func} (hf : P.funcs[f]? = some fn) (h : Leaves P fn a.tmps R a.defers .returning w) : Ok P f R (.code .ret :: k) a w := by
  intro b cs hb hk
  obtain ⟨e', w'', fr', hR, hs, hfn, hl⟩ := leaves_steps a.defers .returning w { b.at a (.code .ret :: k) with mode := .returning } cs rfl rfl rfl (hb ▸ hf) hk h
  exact ⟨e', w'', fr', hR, Comes.of_steps (.one step_ret) hs, hfn.trans hb, hl⟩
theorem Ok.finD {fn : Func} (hf : P.funcs[f]? = some fn) (h : Leaves P fn a.tmps R a.defers .returning w) : Ok P f R [] a w := by
  intro b cs hb hk
  obtain ⟨e', w'', fr', hR, hs, hfn, hl⟩ := leaves_steps a.defers .returning w { b.at a [] with mode := .returning } cs rfl rfl rfl (hb ▸ hf) hk h
  exact ⟨e', w'', fr', hR, Comes.of_steps (.one step_end) hs, hfn.trans hb, hl⟩

/-- What stands behind a region. -/
def QOk (P : Program) (f : FuncId) (fn : Func) (ds : List Deferred) (R : Ending → World → Prop) (k : Act → World → Prop) : Exit → Act → World → Prop
  | .normal, a, w => k a w
  | .panic chain, a, w => P.funcs[f]? = some fn ∧ (ds = [] → a.defers = [] ∧ R (.panicked chain) w) ∧ (ds ≠ [] → Leaves P fn a.tmps R a.defers (.panicking chain) w)
  | _, _, _ => False

theorem Ok.ops {fn : Func} {ds : List Deferred} {ops : Array Oper} {l : List Nat} (h : wpOps P ops (QOk P f fn ds R (Ok P f R k)) l a w) : Ok P f R (.inRegion ops l :: k) a w := by
  intro b cs hb hk
  obtain ⟨e, a', w', q, arr⟩ := wp_ops l a w h b k cs
  cases e with
  | normal =>
    obtain ⟨e, w2, fr, r, c, l⟩ := q b cs hb hk
    exact ⟨e, w2, fr, r, Comes.of_steps arr c, l⟩
  | panic chain =>
    obtain ⟨hf, h1, h2⟩ := q
    obtain ⟨todo, s⟩ := arr
    have hq : Leaves P fn a'.tmps R a'.defers (.panicking chain) w' := by
      by_cases hds : ds = []
      · obtain ⟨hd, r⟩ := h1 hds; rw [hd]; exact r
      · exact h2 hds
    obtain ⟨e', w'', fr', hR, hs, hfn, hl⟩ := leaves_steps a'.defers (.panicking chain) w' { b.at a' todo with mode := .panicking chain } cs rfl rfl rfl (hb ▸ hf) hk hq
    exact ⟨e', w'', fr', hR, Comes.of_steps s hs, hfn.trans hb, hl⟩
  | exit id => exact q.elim
  | goto l => exact q.elim
  | ret => exact q.elim
  | outgrown => exact q.elim
theorem Ok.region {fn : Func} {ds : List Deferred} {id : Nat} {l : List Oper} (h : wpList P l.toArray (QOk P f fn ds R (Ok P f R k)) l a w) : Ok P f R (.code (.region id l.toArray false) :: k) a w := by
  refine Ok.steps (k' := .inRegion l.toArray (List.range l.toArray.size) :: k) (fun _ _ _ => .one step_region) (Ok.ops (fn := fn) (ds := ds) ?_)
  rw [List.range_eq_range', ← Array.length_toList, wpOps_eq_wpList l.toArray.toList 0 (by simp)]
  simpa using h
theorem Ok.regionD {fn : Func} {ds : List Deferred} {id : Nat} {ops : Array Oper} (h : ∀ t, wpOps P ops (QOk P f fn ds R (Ok P f R k)) (Region.schedule (P.follows .mixedOrders) ops t) a { w with drawn := w.drawn + 1 }) :
    Ok P f R (.code (.region id ops true) :: k) a w := by
  intro b cs hb hk
  obtain ⟨e, w2, fr, r, c, l⟩ := Ok.ops (ds := ds) (h _) b cs hb hk
  exact ⟨e, w2, fr, r, Comes.of_steps (.one step_region_draw) c, l⟩
theorem Calls.of_ok {fn : Func} {c : Code} {args : Array Value} (hf : P.funcs[f]? = some fn) (hb : fn.body = some c)
    (o : Ok P f R [.code c] { tmps := args ++ Array.replicate (fn.ntmps - args.size) undef, defers := [] } w) : Calls P f args w R := by
  intro cs
  let b : Frame := { (default : Frame) with fn := f, kind := .normal }
  have henter : Frame.enter P f args .normal = b.at { tmps := args ++ Array.replicate (fn.ntmps - args.size) undef, defers := [] } [.code c] := by
    simp [Frame.enter, Frame.at, hf, hb, b]
  obtain ⟨e, w', fr, r, co, l1, l2⟩ := o b cs rfl rfl
  rw [← henter] at co
  exact ⟨e, w', fr, r, co, l1, l2⟩
end

end Go.Proofs.Ytghmmjifmnmbgaa.Csl
