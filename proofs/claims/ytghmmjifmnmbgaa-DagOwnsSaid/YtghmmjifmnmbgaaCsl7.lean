/- A region whose order is drawn: what only reads what stays may be taken first; the rest comes up one by one. Nothing of a program stands here. -/
import Derived.Test.YtghmmjifmnmbgaaCsl6
import Derived.Orders
set_option linter.unusedVariables false
set_option linter.unusedSimpArgs false
namespace Go.Proofs.Ytghmmjifmnmbgaa.Csl
open Go

/-- In every world that meets 'S' the operation leaves 'v' and nothing else. -/
def Tells (P : Program) (ops : Array Oper) (S : World → Prop) (o : Oper) (v : Value) (a : Act) : Prop :=
  (Region.wanted o (yielded ops a.tmps) = true ∧ ∀ w, S w → (execOp a.eval o).run P w = .ok (.value v) w) ∨ (Region.wanted o (yielded ops a.tmps) = false ∧ v = undef)
theorem Tells.same {P : Program} {ops : Array Oper} {S : World → Prop} {o : Oper} {v : Value} {a a' : Act} (h : Tells P ops S o v a) (he : execOp a'.eval o = execOp a.eval o) (hw : Region.wanted o (yielded ops a'.tmps) = Region.wanted o (yielded ops a.tmps)) :
    Tells P ops S o v a' := by unfold Tells at *; rw [he, hw]; exact h
theorem Tells.mono {P : Program} {ops : Array Oper} {S S' : World → Prop} {o : Oper} {v : Value} {a : Act} (i : ∀ w, S' w → S w) (h : Tells P ops S o v a) : Tells P ops S' o v a :=
  h.imp (fun ⟨hw, hv⟩ => ⟨hw, fun w hs => hv w (i w hs)⟩) id
/-- All orders, with a condition on the world that only grows. -/
def AnyS (P : Program) (ops : Array Oper) (Q : Exit → Act → World → Prop) : Nat → (World → Prop) → Array Bool → Act → World → Prop
  | 0, _, listed, a, w => Region.ready .any ops listed = [] ∧ Q .normal a w
  | n + 1, S, listed, a, w => (Region.ready .any ops listed = [] → Q .normal a w) ∧
      ∀ i ∈ Region.ready .any ops listed, wpOp P ops Q i (fun a' w' => ∃ S' : World → Prop, (∀ w, S' w → S w) ∧ S' w' ∧ AnyS P ops Q n S' (listed.setIfInBounds i true) a' w') a w
section
variable {P : Program} {ops : Array Oper} {Q : Exit → Act → World → Prop}
theorem AnyS.sound : ∀ (n : Nat) (S : World → Prop) (listed : Array Bool) (a : Act) (w : World), AnyS P ops Q n S listed a w → wpAny P .any ops Q n listed a w := by
  intro n
  induction n with
  | zero => exact fun S listed a w h => h
  | succ n ih => exact fun S listed a w h => ⟨h.1, fun i hi => wpOp_mono (fun a' w' ⟨S', _, _, r⟩ => ih S' _ _ _ r) (h.2 i hi)⟩
theorem AnyS.wide {n : Nat} {S S' : World → Prop} {listed : Array Bool} {a : Act} {w : World} (i : ∀ w, S' w → S w) (h : AnyS P ops Q n S' listed a w) : AnyS P ops Q n S listed a w := by
  cases n with
  | zero => exact h
  | succ n => exact ⟨h.1, fun j hj => wpOp_mono (fun a' w' ⟨S2, h1, h2, r⟩ => ⟨S2, fun w x => i w (h1 w x), h2, r⟩) (h.2 j hj)⟩
theorem Tells.wpOp {i : Nat} {o : Oper} {v : Value} {S : World → Prop} {a : Act} (hi : ops[i]? = some o) (hy : Tells P ops S o v a) {K : Act → World → Prop} {w : World} (hS : S w) (h : K (a.put o.dst v) w) : wpOp P ops Q i K a w := by
  unfold Go.wpOp
  simp only [hi]
  rcases hy with ⟨hw, hv⟩ | ⟨hw, rfl⟩
  · simp only [hw, if_true, Oper.wp, hv w hS, Oper.upon]; exact .inl h
  · simp only [hw, Bool.false_eq_true, if_false]; exact h
/-- An operation apart from 'oi' does not see whether 'oi' has been. -/
theorem wpOp_past {j : Nat} {oi oj : Oper} {v : Value} {S : World → Prop} (hj : ops[j]? = some oj) (hap : oi.apart ops oj = true) (hsi : ∀ cs b, oi.op ≠ .select cs b) (hsj : ∀ cs b, oj.op ≠ .select cs b)
    (hQ : ∀ c a w, Q (.panic c) (a.put oi.dst v) w → Q (.panic c) a w) {K : Act → World → Prop} {a : Act} {w : World} (hy : Tells P ops S oi v a) (h : wpOp P ops Q j K (a.put oi.dst v) w) :
    wpOp P ops Q j (fun a' w' => Tells P ops S oi v a' ∧ K (a'.put oi.dst v) w') a w := by
  obtain ⟨h1, h2, h3⟩ := Oper.apart_spec hap
  have keep : ∀ (a : Act), Tells P ops S oi v a → ∀ u, Tells P ops S oi v (a.put oj.dst u) := fun a hy u => hy.same (execOp_put oi hsi a oj.dst u h3) (wanted_put oi a oj.dst u h3)
  have keepD : ∀ d, Tells P ops S oi v { a with defers := d :: a.defers } := fun d => hy.same rfl rfl
  unfold wpOp at *
  simp only [hj] at *
  rw [wanted_put oj a oi.dst v h1] at h
  by_cases hw : Region.wanted oj (yielded ops a.tmps) = true
  · rw [if_pos hw] at h ⊢
    rcases h with h | ⟨hasks, hlets⟩
    case inr => exact .inr ⟨by unfold Oper.asks at *; rw [execOp_put oj hsj a oi.dst v h1] at hasks; exact hasks, hlets⟩
    refine .inl ?_
    unfold Oper.wp at *
    rw [execOp_put oj hsj a oi.dst v h1] at h
    generalize (execOp a.eval oj).run P w = r at *
    cases r with
    | ok n w' =>
      cases n <;> simp only [Oper.upon] at h ⊢
      case value u => exact ⟨keep a hy u, by rw [← Act.put_comm a v u h2]; exact h⟩
      case skip => exact ⟨keep a hy _, by rw [← Act.put_comm a v undef h2]; exact h⟩
      case defer d =>
        refine ⟨keep _ (keepD d) _, ?_⟩
        rw [← Act.put_comm _ v undef h2, ← Act.put_defers]
        exact h
      case enter f args =>
        refine Calls.mono h fun e w'' he => ?_
        cases e with
        | returned u => exact ⟨keep a hy u, by rw [← Act.put_comm a v u h2]; exact he⟩
        | panicked c => exact hQ _ _ _ he
        | outgrown => exact he
      case row row args => exact Rows.mono h fun u w'' he => ⟨keep a hy u, by rw [← Act.put_comm a v u h2]; exact he⟩
    | halt x w' =>
      cases x <;> simp only [Oper.upon] at h ⊢
      case panic u => exact hQ _ _ _ h
  · rw [if_neg hw] at h ⊢
    exact ⟨keep a hy _, by rw [← Act.put_comm a v undef h2]; exact h⟩
/-- What is apart: 'i' and each that is not behind it. -/
def apartAll (ops : Array Oper) (i : Nat) (oi : Oper) : Prop := ∀ j oj, ops[j]? = some oj → j ≠ i → (∀ e ∈ oj.after, Region.binds .any e = true → e.on ≠ i) → (∀ e ∈ oi.after, Region.binds .any e = true → e.on ≠ j) → oi.apart ops oj = true
def noSelect (o : Oper) : Bool := match o.op with | .select .. => false | _ => true
theorem AnyS.first {i : Nat} {oi : Oper} {v : Value} (hi : ops[i]? = some oi) (hsel : ∀ (j : Nat) (o : Oper) cs b, ops[j]? = some o → o.op ≠ .select cs b) (hQ : ∀ c a w, Q (.panic c) (a.put oi.dst v) w → Q (.panic c) a w)
    (hap : apartAll ops i oi) :
    ∀ (n : Nat) (S : World → Prop) (listed : Array Bool) (a : Act) (w : World), S w → i ∈ Region.ready .any ops listed → Tells P ops S oi v a →
      AnyS P ops Q n S (listed.setIfInBounds i true) (a.put oi.dst v) w → AnyS P ops Q (n + 1) S listed a w := by
  intro n
  induction n with
  | zero =>
    intro S listed a w hS hr hy H
    refine ⟨fun h => (by rw [h] at hr; cases hr), fun j hj => ?_⟩
    by_cases hji : j = i
    · subst hji
      exact hy.wpOp hi hS ⟨S, fun _ x => x, hS, H⟩
    · have := ready_mono hj hji
      rw [H.1] at this; cases this
  | succ n ih =>
    intro S listed a w hS hr hy H
    refine ⟨fun h => (by rw [h] at hr; cases hr), fun j hj => ?_⟩
    by_cases hji : j = i
    · subst hji
      exact hy.wpOp hi hS ⟨S, fun _ x => x, hS, H⟩
    · have hj' := ready_mono hj hji
      have hstep := H.2 j hj'
      obtain ⟨hl, oj, hoj, haft⟩ := mem_ready.1 hj
      have hil := (mem_ready.1 hr).1
      have hnot : ∀ e ∈ oj.after, Region.binds .any e = true → e.on ≠ i := by
        intro e he hb heq
        have := haft e he hb
        rw [heq] at this
        have hlt : i < listed.size := by
          rcases Nat.lt_or_ge i listed.size with x | x
          · exact x
          · simp [Array.getElem?_eq_none x] at this
        simp [hlt] at this hil
        rw [this] at hil; cases hil
      have hnot2 : ∀ e ∈ oi.after, Region.binds .any e = true → e.on ≠ j := by
        intro e he hb heq
        obtain ⟨_, oi', hoi', haft'⟩ := mem_ready.1 hr
        rw [hi] at hoi'
        cases hoi'
        have := haft' e he hb
        rw [heq] at this
        have hlt : j < listed.size := by
          rcases Nat.lt_or_ge j listed.size with x | x
          · exact x
          · simp [Array.getElem?_eq_none x] at this
        simp [hlt] at this hl
        rw [this] at hl; cases hl
      have hA := hap j oj hoj hji hnot hnot2
      refine wpOp_mono ?_ (wpOp_past hoj hA (hsel i oi · · hi) (hsel j oj · · hoj) hQ hy hstep)
      rintro a' w' ⟨hy', S', hSS, hS', hrec⟩
      refine ⟨S', hSS, hS', ?_⟩
      have hir : i ∈ Region.ready .any ops (listed.setIfInBounds j true) := ready_mono hr (fun h => hji h.symm)
      refine ih S' _ a' w' hS' hir (hy'.mono hSS) ?_
      rw [Array.setIfInBounds_comm _ _ hji]; exact hrec
end

/-! ### The symbolic form -/
/-- What is to be settled by the kernel once a region: no select, and who is apart from whom. -/
def regionOk (ops : Array Oper) : Bool :=
  ops.all noSelect && (List.range ops.size).all fun i => (List.range ops.size).all fun j =>
    i == j || (match ops[i]?, ops[j]? with
      | some oi, some oj => oj.after.any (fun e => Region.binds .any e && e.on == i) || (oi.after.any (fun e => Region.binds .any e && e.on == j) || oi.apart ops oj)
      | _, _ => true)
theorem regionOk.sel {ops : Array Oper} (h : regionOk ops = true) (j : Nat) (o : Oper) (cs : Array SelectCase) (b : Bool) (ho : ops[j]? = some o) : o.op ≠ .select cs b := by
  intro hc
  unfold regionOk at h
  rw [Bool.and_eq_true] at h
  have := Array.all_eq_true_iff_forall_mem.1 h.1 o (Array.mem_of_getElem? ho)
  simp [noSelect, hc] at this
theorem regionOk.ap {ops : Array Oper} (h : regionOk ops = true) {i : Nat} {oi : Oper} (hi : ops[i]? = some oi) : apartAll ops i oi := by
  intro j oj hj hji hn hn2
  unfold regionOk at h
  rw [Bool.and_eq_true] at h
  have li : i < ops.size := (Array.getElem?_eq_some_iff.1 hi).1
  have lj : j < ops.size := (Array.getElem?_eq_some_iff.1 hj).1
  have h2 := List.all_eq_true.1 (List.all_eq_true.1 h.2 i (List.mem_range.2 li)) j (List.mem_range.2 lj)
  simp only [hi, hj, Bool.or_eq_true] at h2
  have no : ∀ {es : Array Edge} {m : Nat}, (∀ e ∈ es, Region.binds .any e = true → e.on ≠ m) → es.any (fun e => Region.binds .any e && e.on == m) = true → False := by
    intro es m hm ha
    rw [Array.any_eq_true] at ha
    obtain ⟨k, hk, hb⟩ := ha
    rw [Bool.and_eq_true] at hb
    exact absurd (by simpa using hb.2) (hm _ (Array.getElem_mem hk) hb.1)
  rcases h2 with h2 | h2 | h2 | h2
  · exact absurd (by simpa using h2) (Ne.symm hji)
  · exact (no hn h2).elim
  · exact (no hn2 h2).elim
  · exact h2

def RunD (c : Cx) (G : Gp) (ops : Array Oper) (n : Nat) (listed : Array Bool) (k : KT) (e : Env) (A : List HProp) : Prop :=
  ∀ a w, EnvOk c.nd e a → St G A w → AnyS c.P ops (QOk c.P c.f c.fn c.ds c.R k) n (fun w => Gp.sub G w) listed a w
/-- What stands behind one operation of such a region. -/
def KD (c : Cx) (G : Gp) (ops : Array Oper) (n : Nat) (listed : Array Bool) (k : KT) : KT := fun a w =>
  ∃ S' : World → Prop, (∀ w, S' w → G.sub w) ∧ S' w ∧ AnyS c.P ops (QOk c.P c.f c.fn c.ds c.R k) n S' listed a w
theorem St.gsub {G : Gp} {A : List HProp} {w : World} (s : St G A w) : G.sub w := by obtain ⟨h, g, _⟩ := s; exact g

section
variable {c : Cx} {G : Gp} {ops : Array Oper} {k : List Item} {e : Env} {A A' : List HProp} {n : Nat} {listed : Array Bool} {kk : KT}
theorem Run.regionD {id : Nat} {l : List Oper} (hm : c.P.follows .mixedOrders = true) (r : RunD c G l.toArray l.length (Array.replicate l.length false) (Ok c.P c.f c.R k) e A) : Run c G (.code (.region id l.toArray true) :: k) e A := by
  intro a w h s
  refine Ok.regionD (fn := c.fn) (ds := c.ds) fun t => ?_
  have h2 := AnyS.sound _ _ _ _ _ (r a { w with drawn := w.drawn + 1 } h (St.same (w := w) (w' := { w with drawn := w.drawn + 1 }) rfl ⟨rfl, rfl, rfl, Nat.le_succ w.drawn⟩ s))
  simp only [Region.schedule, hm, Bool.true_or, if_true]
  exact wpAny_sound l.toArray.size t _ a _ (by simpa using h2)
/-- A quiet operation, taken first. -/
theorem RunD.quiet {i d : Nat} {o : Oper} {v : Value} (hok : regionOk ops = true) (hi : ops[i]? = some o) (hr : (Region.ready .any ops listed).contains i = true) (hd : o.dst = some d) (hlt : Nat.blt d c.fn.ntmps = true) (hw : Wt ops e o true)
    (hv : ∀ ρ w, Ev e ρ → G.sub w → (execOp ρ o).run c.P w = .ok (.value v) w)
    (next : RunD c G ops n (listed.setIfInBounds i true) kk ((d, v) :: e) A) (hds : c.ds = [] := by rfl) : RunD c G ops (n + 1) listed kk e A := by
  intro a w h s
  refine AnyS.first hi (regionOk.sel hok) ?_ (regionOk.ap hok hi) n _ listed a w s.gsub (by simpa using hr) (.inl ⟨hw _ a h, fun w' hs => hv _ w' h.ev hs⟩) ?_
  · rintro ch a' w' ⟨h1, h2, h3⟩; exact ⟨h1, fun q => by have := (h2 q).1; rw [hd] at this; exact ⟨this, (h2 q).2⟩, fun q => absurd hds q⟩
  · rw [hd]; exact next _ w (h.put (blt_lt hlt)) s
theorem RunD.pure {i d : Nat} {o : Oper} {v : Value} (hok : regionOk ops = true) (hi : ops[i]? = some o) (hr : (Region.ready .any ops listed).contains i = true) (hp : Pure c.P e o v) (hw : Wt ops e o true) (hd : o.dst = some d) (hlt : Nat.blt d c.fn.ntmps = true)
    (next : RunD c G ops n (listed.setIfInBounds i true) kk ((d, v) :: e) A) (hds : c.ds = [] := by rfl) : RunD c G ops (n + 1) listed kk e A :=
  RunD.quiet hok hi hr hd hlt hw (fun ρ w he _ => hp ρ w he) next hds
theorem RunD.not {i d : Nat} {o : Oper} (hok : regionOk ops = true) (hi : ops[i]? = some o) (hr : (Region.ready .any ops listed).contains i = true) (hd : o.dst = some d) (hlt : Nat.blt d c.fn.ntmps = true) (hw : Wt ops e o false)
    (next : RunD c G ops n (listed.setIfInBounds i true) kk ((d, undef) :: e) A) (hds : c.ds = [] := by rfl) : RunD c G ops (n + 1) listed kk e A := by
  intro a w h s
  refine AnyS.first hi (regionOk.sel hok) ?_ (regionOk.ap hok hi) n _ listed a w s.gsub (by simpa using hr) (.inr ⟨hw _ a h, rfl⟩) ?_
  · rintro ch a' w' ⟨h1, h2, h3⟩; exact ⟨h1, fun q => by have := (h2 q).1; rw [hd] at this; exact ⟨this, (h2 q).2⟩, fun q => absurd hds q⟩
  · rw [hd]; exact next _ w (h.put (blt_lt hlt)) s
theorem RunD.not0 {i : Nat} {o : Oper} (hok : regionOk ops = true) (hi : ops[i]? = some o) (hr : (Region.ready .any ops listed).contains i = true) (hd : o.dst = none) (hw : Wt ops e o false)
    (next : RunD c G ops n (listed.setIfInBounds i true) kk e A) (hds : c.ds = [] := by rfl) : RunD c G ops (n + 1) listed kk e A := by
  intro a w h s
  refine AnyS.first (v := undef) hi (regionOk.sel hok) ?_ (regionOk.ap hok hi) n _ listed a w s.gsub (by simpa using hr) (.inr ⟨hw _ a h, rfl⟩) ?_
  · rintro ch a' w' ⟨h1, h2, h3⟩; exact ⟨h1, fun q => by have := (h2 q).1; rw [hd] at this; exact ⟨this, (h2 q).2⟩, fun q => absurd hds q⟩
  · rw [hd]; exact next _ w h s
/-- The one that is ready. -/
theorem RunD.one {i : Nat} {o : Oper} (hr : Region.ready .any ops listed = [i]) (hi : ops[i]? = some o) (next : RunL c G ops [o] (KD c G ops n (listed.setIfInBounds i true) kk) e A) : RunD c G ops (n + 1) listed kk e A := by
  intro a w h s
  refine ⟨fun hx => (by rw [hr] at hx; cases hx), fun j hj => ?_⟩
  have hj : j ∈ Region.ready .any ops listed := hj
  rw [hr] at hj
  have : j = i := by simpa using hj
  subst this
  have := next a w h s
  unfold wpList at this
  unfold wpOp
  simp only [hi]
  by_cases hw : Region.wanted o (yielded ops a.tmps) = true
  · rw [if_pos hw] at this ⊢
    rcases this with this | ⟨_, x1, x2, x3⟩
    · refine .inl ?_
      unfold Oper.wp at this ⊢
      generalize (execOp a.eval o).run c.P w = r at this ⊢
      cases r with
      | ok q w' =>
        cases q <;> simp only [Oper.upon, wpList] at this ⊢ <;> first | exact this | exact Calls.mono this (fun en w2 hh => by cases en <;> exact hh) | exact Rows.mono this (fun _ _ hh => hh)
      | halt x w' => cases x <;> simp only [Oper.upon] at this ⊢ <;> exact this
    · exact x3.elim
  · rw [if_neg hw] at this ⊢
    exact this
theorem RunL.nilD {l2 : Array Bool} {G' : Gp} (hg : ∀ w, Gp.sub G' w → Gp.sub G w) (r : RunD c G' ops n l2 kk e A) : ∀ a w, EnvOk c.nd e a → St G' A w → KD c G ops n l2 kk a w := fun a w h s => ⟨fun w => Gp.sub G' w, hg, s.gsub, r a w h s⟩
theorem RunL.nilD' {l2 : Array Bool} (r : RunD c G ops n l2 kk e A) : RunL c G ops [] (KD c G ops n l2 kk) e A := fun a w h s => ⟨fun w => Gp.sub G w, fun _ x => x, s.gsub, r a w h s⟩
theorem RunD.nil {listed : Array Bool} (hr : Region.ready .any ops listed = []) (r : ∀ a w, EnvOk c.nd e a → St G A w → kk a w) : RunD c G ops 0 listed kk e A := fun a w h s => ⟨hr, r a w h s⟩
theorem RunD.split {d : Nat} {b : Bool} (hv : lk e d = some (.bool b)) (ht : b = true → RunD c G ops n listed kk ((d, .bool true) :: e) A) (hf : b = false → RunD c G ops n listed kk ((d, .bool false) :: e) A) : RunD c G ops n listed kk e A := by
  have sub : ∀ u, b = u → ∀ i v, lk ((d, .bool u) :: e) i = some v → lk e i = some v := by
    intro u hu i v h
    simp only [lk] at h
    split at h
    · rename_i hb; have hb := Nat.eq_of_beq_eq_true hb; cases h; subst hb; subst hu; exact hv
    · exact h
  intro a w h s
  cases b
  · exact hf rfl a w (h.sub (sub _ rfl)) s
  · exact ht rfl a w (h.sub (sub _ rfl)) s
/-- Something is lent for the rest of the region. -/
theorem RunD.lend {Q : HProp} {R : Gp → Prop} (hl : Lends Q R) (hf : Find Q A A') (next : ∀ G' : Gp, Gp.le G G' → R G' → (∀ A' w', St G' A' w' → St G (Q :: A') w') → RunD c G' ops n listed kk e A') : RunD c G ops n listed kk e A := by
  intro a w h s
  obtain ⟨K, hR, s1, back⟩ := hl G _ _ (s.find hf)
  have hd : Gp.le G (Gp.join G K) := Gp.le_join
  exact AnyS.wide hd.sub (next (Gp.join G K) hd hR back a w h s1)
theorem RunD.conv {A1 : List HProp} (h : ∀ w, St G A w → St G A1 w) (r : RunD c G ops n listed kk e A1) : RunD c G ops n listed kk e A := fun a w ho s => r a w ho (h w s)
end
end Go.Proofs.Ytghmmjifmnmbgaa.Csl
