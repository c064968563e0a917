/- Blocks that nobody writes any more, in one atom that grows; many rows in one atom. Nothing of a program stands here. -/
import Derived.Test.YtghmmjifmnmbgaaCsl25
set_option linter.unusedVariables false
set_option linter.unusedSimpArgs false
namespace Go.Proofs.Ytghmmjifmnmbgaa.Csl
open Go
/-! ### A pool: what is in it stays as it is -/
def Pool (K : Hp) : HProp := fun h => h = K
/-- A pool's blocks, to be read. -/
def gk (K : Hp) : Gp := { (heapOf (default : World)) with hp := K }
def Hp.le (K K' : Hp) : Prop := ∀ b o, K b = some o → K' b = some o
theorem Hp.le_refl (K : Hp) : Hp.le K K := fun _ _ h => h
theorem Hp.le.trans {K1 K2 K3 : Hp} (h : Hp.le K1 K2) (h' : Hp.le K2 K3) : Hp.le K1 K3 := fun b o q => h' b o (h b o q)
def Holds (G : Gp) (K : Hp) : Prop := Hp.le K G.hp
theorem Holds.mono {G G' : Gp} {K : Hp} (h : Gp.le G G') (q : Holds G K) : Holds G' K := fun b o x => h.at_ b o (q b o x)
theorem Lends.Pool {K : Hp} : Lends (Csl.Pool K) (fun G => Holds G K) := Lends.of fun G h q d => by
  have q' : h = K := q
  subst q'
  exact fun b o x => Hp.join_right d x
theorem Ro.hp {G G' : Gp} {b : Nat} {T : TypeId} {cs : List Value} (r : Ro G b T cs) (h : Hp.le G.hp G'.hp) : Ro G' b T cs := by
  obtain ⟨fz, q⟩ := r; exact ⟨fz, h _ _ q⟩
theorem SlR.hp {G G' : Gp} {T : TypeId} {sz : Nat} {a : Option Addr} {n : Nat} {cs : List Value} (r : SlR G T sz a n cs) (h : Hp.le G.hp G'.hp) : SlR G' T sz a n cs := by
  rcases r with h0 | ⟨b, T', pre, post, h1, h2, h3⟩
  · exact .inl h0
  · exact .inr ⟨b, T', pre, post, h1, h2, h3.hp h⟩
theorem SlR.ofPool {G : Gp} {K : Hp} {T : TypeId} {sz : Nat} {a : Option Addr} {n : Nat} {cs : List Value} (r : SlR (gk K) T sz a n cs) (h : Holds G K) : SlR G T sz a n cs := r.hp h
theorem SlR.pool {K K' : Hp} {T : TypeId} {sz : Nat} {a : Option Addr} {n : Nat} {cs : List Value} (r : SlR (gk K) T sz a n cs) (h : Hp.le K K') : SlR (gk K') T sz a n cs := r.hp h
theorem St.poolNew {G : Gp} {A : List HProp} {w : World} (s : St G A w) : St G (Pool Hp.empty :: A) w := s.emp
/-- Two pools are one. -/
theorem St.poolJoin {G : Gp} {A : List HProp} {w : World} {K1 K2 : Hp} (s : St G (Pool K1 :: Pool K2 :: A) w) : Hp.le K1 (Hp.join K1 K2) ∧ Hp.le K2 (Hp.join K1 K2) ∧ St G (Pool (Hp.join K1 K2) :: A) w := by
  obtain ⟨h, g, s, d, h1, h2, d', rfl, p, h3, h4, d'', rfl, q, a⟩ := s
  have p' : h1 = K1 := p
  have q' : h3 = K2 := q
  subst p' q'
  have dd := Hp.disj_join.1 d'
  refine ⟨fun b o x => Hp.join_left x, fun b o x => Hp.join_right dd.1 x, ?_⟩
  have e : Hp.join h1 (Hp.join h3 h4) = Hp.join (Hp.join h1 h3) h4 := (Hp.join_assoc _ _ _).symm
  refine ⟨_, g, s, d, Hp.join h1 h3, h4, Hp.join_disj.2 ⟨dd.2, d''⟩, e, rfl, a⟩
/-- A slice goes into the pool. -/
theorem St.poolSl {G : Gp} {A : List HProp} {w : World} {K : Hp} {T : TypeId} {sz : Nat} {a : Option Addr} {n cap : Nat} {cs : List Value} (s : St G (Sl T sz a n cap cs :: Pool K :: A) w) :
    ∃ K', Hp.le K K' ∧ SlR (gk K') T sz a n cs ∧ St G (Pool K' :: A) w := by
  obtain ⟨h, g, s, d, h1, h2, d', rfl, p, h3, h4, d'', rfl, q, a'⟩ := s
  have q' : h3 = K := q
  subst q'
  have dd := Hp.disj_join.1 d'
  refine ⟨Hp.join h1 h3, fun b o x => Hp.join_right dd.1 x, ?_, _, g, s, d, Hp.join h1 h3, h4, Hp.join_disj.2 ⟨dd.2, d''⟩, (Hp.join_assoc _ _ _).symm, rfl, a'⟩
  rcases p with ⟨_, rfl, _, rfl, _⟩ | ⟨b, pre, post, rfl, e1, e2, e3, fz, hz, rfl⟩
  · exact .inl ⟨rfl, rfl⟩
  · exact .inr ⟨b, T, pre, post, rfl, e1, fz, Hp.join_left (Hp.one_self _ _)⟩
section
variable {c : Cx} {G : Gp} {ops : Array Oper} {kk : KT} {e : Env} {A A' : List HProp} {lo : List Oper} {st : List Item} {K : Hp} {T : TypeId} {sz n cap : Nat} {a : Option Addr} {cs : List Value}
theorem Run.poolNew (next : Run c G st e (Pool Hp.empty :: A)) : Run c G st e A := fun ac w h s => next ac w h s.poolNew
theorem RunL.poolNew (next : RunL c G ops lo kk e (Pool Hp.empty :: A)) : RunL c G ops lo kk e A := fun ac w h s => next ac w h s.poolNew
theorem Run.poolSl (ht : Take [Sl T sz a n cap cs, Pool K] A A') (next : ∀ K', Hp.le K K' → SlR (gk K') T sz a n cs → Run c G st e (Pool K' :: A')) : Run c G st e A := fun ac w h s => by
  obtain ⟨K', h1, h2, s'⟩ := (s.perm ht.perm).poolSl
  exact next K' h1 h2 ac w h s'
theorem RunL.poolSl (ht : Take [Sl T sz a n cap cs, Pool K] A A') (next : ∀ K', Hp.le K K' → SlR (gk K') T sz a n cs → RunL c G ops lo kk e (Pool K' :: A')) : RunL c G ops lo kk e A := fun ac w h s => by
  obtain ⟨K', h1, h2, s'⟩ := (s.perm ht.perm).poolSl
  exact next K' h1 h2 ac w h s'
theorem Run.poolJoin {K1 K2 : Hp} (ht : Take [Pool K1, Pool K2] A A') (next : ∀ K', Hp.le K1 K' → Hp.le K2 K' → Run c G st e (Pool K' :: A')) : Run c G st e A := fun ac w h s => by
  obtain ⟨h1, h2, s'⟩ := (s.perm ht.perm).poolJoin
  exact next _ h1 h2 ac w h s'
theorem RunL.poolJoin {K1 K2 : Hp} (ht : Take [Pool K1, Pool K2] A A') (next : ∀ K', Hp.le K1 K' → Hp.le K2 K' → RunL c G ops lo kk e (Pool K' :: A')) : RunL c G ops lo kk e A := fun ac w h s => by
  obtain ⟨h1, h2, s'⟩ := (s.perm ht.perm).poolJoin
  exact next _ h1 h2 ac w h s'
end
/-! ### Many rows -/
def Rows (T : TypeId) (l : List (Nat × List Value)) : HProp := fun h => stars (l.map fun x => row x.1 T x.2) h
theorem stars_one {P : HProp} {A : List HProp} {h : Hp} : stars (P :: A) h ↔ ∃ h1 h2, Hp.disj h1 h2 ∧ h = Hp.join h1 h2 ∧ P h1 ∧ stars A h2 := Iff.rfl
theorem St.rows_split {G : Gp} {A : List HProp} {w : World} {T : TypeId} {l : List (Nat × List Value)} : St G (Rows T l :: A) w ↔ St G (l.map (fun x => row x.1 T x.2) ++ A) w := by
  constructor
  · rintro ⟨h, g, s, d, h1, h2, d', e, p, a⟩
    exact ⟨h, g, s, d, stars_append.2 ⟨h1, h2, d', e, p, a⟩⟩
  · rintro ⟨h, g, s, d, a⟩
    obtain ⟨h1, h2, d', e, p, a'⟩ := stars_append.1 a
    exact ⟨h, g, s, d, h1, h2, d', e, p, a'⟩
theorem St.rows_peel {G : Gp} {A : List HProp} {w : World} {T : TypeId} {s t : List (Nat × List Value)} {x : Nat × List Value} : St G (Rows T (s ++ x :: t) :: A) w ↔ St G (row x.1 T x.2 :: Rows T (s ++ t) :: A) w := by
  have pm : ((s ++ x :: t).map (fun x => row x.1 T x.2) ++ A).Perm (row x.1 T x.2 :: ((s ++ t).map (fun x => row x.1 T x.2) ++ A)) := by
    rw [List.map_append, List.map_cons, List.map_append, List.append_assoc, List.append_assoc]
    exact List.perm_middle
  constructor
  · intro q
    have q1 := (St.rows_split.1 q).perm pm
    have q2 : St G ((s ++ t).map (fun x => row x.1 T x.2) ++ (row x.1 T x.2 :: A)) w := q1.perm (List.perm_middle.symm)
    exact (St.rows_split.2 q2).perm (.swap _ _ _)
  · intro q
    have q1 := St.rows_split.1 (q.perm (.swap _ _ _))
    have q2 : St G (row x.1 T x.2 :: ((s ++ t).map (fun x => row x.1 T x.2) ++ A)) w := q1.perm List.perm_middle
    exact St.rows_split.2 (q2.perm pm.symm)
theorem St.rows_nil {G : Gp} {A : List HProp} {w : World} (T : TypeId) (s : St G A w) : St G (Rows T [] :: A) w := St.rows_split.2 s
/-- The rows, to be read. -/
def RowsR (G : Gp) (T : TypeId) (l : List (Nat × List Value)) : Prop := ∀ x ∈ l, Ro G x.1 T x.2
theorem RowsR.mono {G G' : Gp} {T : TypeId} {l : List (Nat × List Value)} (h : Gp.le G G') (r : RowsR G T l) : RowsR G' T l := fun x hx => (r x hx).mono h
theorem Lends.Rows {T : TypeId} {l : List (Nat × List Value)} : Lends (Csl.Rows T l) (fun G => RowsR G T l) := Lends.of fun G h q d => by
  intro x hx
  obtain ⟨s, t, rfl⟩ := List.append_of_mem hx
  have q1 : stars ((s ++ x :: t).map fun x => Csl.row x.1 T x.2) h := q
  rw [List.map_append, List.map_cons] at q1
  have q2 : stars (Csl.row x.1 T x.2 :: (s.map (fun x => Csl.row x.1 T x.2) ++ t.map (fun x => Csl.row x.1 T x.2))) h := stars_perm List.perm_middle q1
  obtain ⟨h1, h2, d', rfl, ⟨fz, hz, rfl⟩, _⟩ := q2
  exact ⟨fz, Hp.join_right d (Hp.join_left (Hp.one_self _ _))⟩
section
variable {c : Cx} {G : Gp} {ops : Array Oper} {kk : KT} {e : Env} {A A' : List HProp} {lo : List Oper} {st : List Item} {T : TypeId} {s t : List (Nat × List Value)} {x : Nat × List Value}
theorem Run.rowsPeel (l : List (Nat × List Value)) (hf : Find (Rows T l) A A') (hl : l = s ++ x :: t) (next : Run c G st e (row x.1 T x.2 :: Rows T (s ++ t) :: A')) : Run c G st e A := fun ac w h q => next ac w h (St.rows_peel.1 (by rw [← hl]; exact q.find hf))
theorem RunL.rowsPeel (l : List (Nat × List Value)) (hf : Find (Rows T l) A A') (hl : l = s ++ x :: t) (next : RunL c G ops lo kk e (row x.1 T x.2 :: Rows T (s ++ t) :: A')) : RunL c G ops lo kk e A := fun ac w h q => next ac w h (St.rows_peel.1 (by rw [← hl]; exact q.find hf))
theorem Run.rowsBack (l : List (Nat × List Value)) {b : Nat} {cs : List Value} (ht : Take [row b T cs, Rows T (s ++ t)] A A') (hl : s ++ (b, cs) :: t = l) (next : Run c G st e (Rows T l :: A')) : Run c G st e A := fun ac w h q => next ac w h (by rw [← hl]; exact St.rows_peel.2 (q.perm ht.perm))
theorem RunL.rowsBack (l : List (Nat × List Value)) {b : Nat} {cs : List Value} (ht : Take [row b T cs, Rows T (s ++ t)] A A') (hl : s ++ (b, cs) :: t = l) (next : RunL c G ops lo kk e (Rows T l :: A')) : RunL c G ops lo kk e A := fun ac w h q => next ac w h (by rw [← hl]; exact St.rows_peel.2 (q.perm ht.perm))
end
theorem opvSl {e : Env} {x : Operand} {a : Option Addr} {ad : Addr} {n c : Nat} (h : opv e x = some (.slice a n c)) (ha : a = some ad) : opv e x = some (.slice (some ad) n c) := ha ▸ h
/-! ### A slice against nil -/
section
variable {P : Program} {e : Env} {d : Option Tmp} {t tt : TypeId} {pos : String} {af : Array Edge} {gd : Option (Nat × Bool)} {x y : Operand}
theorem run_equalIn_sl {w : World} (k : Nat) {t E : TypeId} {a : Option Addr} {n c : Nat} (hu : P.underlying t = some (.slice E)) : (Op.equalIn (k + 1) t (.slice a n c) (.slice none 0 0)).run P w = .ok a.isNone w := by
  simp only [Op.equalIn, Sem.run_bind, run_underlying hu, Result.andThen_ok, Sem.run_pure]
  cases a <;> rfl
theorem Pure.slEqNil {a : Option Addr} {n c : Nat} {xt yt E : TypeId} (hx : opv e x = some (.slice a n c)) (hy : opv e y = some (.slice none 0 0)) (hu : P.underlying xt = some (.slice E)) : Pure P e ⟨d, .binOp .eql xt x y yt, t, pos, af, gd⟩ (.bool a.isNone) := fun ρ w ho => by
  have h1 := ho _ _ hx; have h2 := ho _ _ hy
  simp only [execOp, h1, h2, eqGuard, binOp]
  have := run_equalIn_sl (w := w) 9999 (a := a) (n := n) (c := c) hu
  simp [Op.equal, Op.maxDepth, this]
end
/-! ### A literal without elements -/
section
variable {c : Cx} {G : Gp} {ops : Array Oper} {k : KT} {e : Env} {A : List HProp} {l : List Oper} {d : Nat} {sT E tt : TypeId} {sz : Nat} {pos : String} {af : Array Edge} {gd : Option (Nat × Bool)}
theorem RunL.lit0 (hu : c.P.underlying sT = some (.slice E)) (hsz : sizeIs c.P E = some sz) (hw : Wt ops e ⟨some d, .buildSlice sT 0 #[], tt, pos, af, gd⟩ true) (hlt : Nat.blt d c.fn.ntmps = true)
    (next : ∀ b, RunL c G ops l k ((d, .slice (some ⟨b, 0, none⟩) 0 0) :: e) (Sl E sz (some ⟨b, 0, none⟩) 0 0 [] :: A)) :
    RunL c G ops (⟨some d, .buildSlice sT 0 #[], tt, pos, af, gd⟩ :: l) k e A := by
  refine RunL.val (X := Nat) (v := fun b => .slice (some ⟨b, 0, none⟩) 0 0) (A' := fun b => Sl E sz (some ⟨b, 0, none⟩) 0 0 [] :: A) hw rfl hlt (fun a w h s => ?_) next
  refine ⟨w.heap.size, { w with heap := w.heap.push (.cells #[] E) }, ?_, ?_⟩
  · generalize a.eval = ρ
    simp [execOp, Instr.buildSlice, run_underlying hu, run_sizeOf hsz, Instr.fill, newRow, newObj, Sem.run_bind, Sem.run]
    rw [show Array.map (fun _ => (default : Value)) (Array.range 0) = #[] from by simp]
  · exact St.Sl_mk (pre := []) (post := []) (by simp) (Nat.le_refl _) (by simp) (s.alloc E [])
end
/-! ### Scopes -/
theorem Run.scope {c : Cx} {G : Gp} {k : List Item} {e : Env} {A : List HProp} {x : Code} (r : Run c G (.code x :: .inScope x :: k) e A) : Run c G (.code (.scope x) :: k) e A := fun a w h s => (r a w h s).steps fun _ _ _ => .one step_scope
theorem Run.inScope {c : Cx} {G : Gp} {k : List Item} {e : Env} {A : List HProp} {x : Code} (r : Run c G k e A) : Run c G (.inScope x :: k) e A := fun a w h s => (r a w h s).steps fun _ _ _ => .one step_inScope
end Go.Proofs.Ytghmmjifmnmbgaa.Csl
