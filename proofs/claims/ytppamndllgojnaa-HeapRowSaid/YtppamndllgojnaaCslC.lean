/- Ranges over functions: the function that is ranged over by a contract for whatever yield, the rounds walked in the caller's frame. Nothing of a program stands here. -/
import Derived.Test.YtppamndllgojnaaCslB
import Derived.RangeFuncLeaves
import Derived.RangeFuncRecord
import Derived.TacticsIn
set_option linter.unusedVariables false
set_option linter.unusedSimpArgs false
namespace Go.Proofs.Ytppamndllgojnaa.Csl
open Go
/-! ### Two atoms in one -/
def Both (P Q : HProp) : HProp := fun h => stars [P, Q] h
theorem St.unboth {G : Gp} {A : List HProp} {w : World} {P Q : HProp} (s : St G (Both P Q :: A) w) : St G (P :: Q :: A) w := by
  obtain ⟨h, g, s, d, h1, h2, d', e, p, a⟩ := s
  exact ⟨h, g, s, d, stars_append.2 ⟨h1, h2, d', e, p, a⟩⟩
theorem St.both {G : Gp} {A : List HProp} {w : World} {P Q : HProp} (s : St G (P :: Q :: A) w) : St G (Both P Q :: A) w := by
  obtain ⟨h, g, s, d, a⟩ := s
  obtain ⟨h1, h2, d', e, p, a'⟩ := stars_append.1 (show stars ([P, Q] ++ A) h from a)
  exact ⟨h, g, s, d, h1, h2, d', e, p, a'⟩
/-! ### The region that calls yield -/
def YieldC (P : Program) (G : Gp) (l : Nat) (vs : List Value) (p q : HProp) : Prop :=
  ∀ F w, St G (p :: F) w → ∃ fn tmps assign body, (Instr.yield l vs.toArray).run P w = .ok (.round l fn tmps assign body) w ∧
    RoundIn Fence.wide 0 P l fn tmps assign body w fun e w' => e = .returned (.bool true) ∧ St G (q :: F) w'
/-- What 'g' gives, with 'lb' behind its yield: 'xs', one behind the other. -/
def SeqC {α : Type} (P : Program) (G : Gp) (gf : FuncId) (lb : List Value) (enc : α → List Value) (xs : List α) : Prop :=
  ∀ (l : Nat) (J : List α → HProp), (∀ pre x suf, xs = pre ++ x :: suf → YieldC P G l (enc x) (J pre) (J (pre ++ [x]))) →
    Ctr P G gf (.func (.yield l) #[] #[] :: lb) [J []] (fun F v A => v = .tuple #[] ∧ A = J xs :: F)
theorem wpIn_of_wp {P : Program} {o : Oper} {a : Act} {w : World} {K : Act → World → Prop} {Q Q' : Exit → Act → World → Prop} {F : Fence} (hF : F = Fence.wide ∨ ∃ l, F = Fence.wide.inRound l) {n : Nat} (hd : ∀ c, o.op ≠ .defer c) (hl : ¬ LetsOut Q) (hp : ∀ ch a w, Q (.panic ch) a w → Q' (.panic ch) a w)
    (h : o.wp P a w K Q) : o.wpIn F n P a w K Q' := by
  have hfn : ∀ f, F.fn f := fun f => by rcases hF with rfl | ⟨l, rfl⟩ <;> trivial
  have hdp : F.depth.isSome = true → 1 ≤ n := fun q => by rcases hF with rfl | ⟨l, rfl⟩ <;> simp [Fence.wide] at q
  unfold Oper.wpIn
  refine ⟨fun f _ => hfn f, ?_⟩
  rw [Oper.semAt_eq _ _ _ hd]
  unfold Oper.wp at h
  generalize (execOp a.eval o).run P w = r at h ⊢
  have hc : ∀ {f args w'} {R : Ending → World → Prop}, Calls P f args w' R → CallsIn F (n - 1) P f args w' R := fun {f args w' R} q => by
    rcases hF with rfl | ⟨l, rfl⟩
    · exact callsIn_wide.2 q
    · exact (callsIn_wide.2 q : CallsIn Fence.wide (n - 1) P f args w' R)
  cases r with
  | ok x w' =>
    cases x with
    | value v => exact h
    | skip => exact h
    | defer d => exact h
    | enter f args =>
      refine ⟨hdp, (hc h).mono ?_⟩
      intro e w2 q
      cases e with
      | returned v => exact q
      | panicked ch => exact hp _ _ _ q
      | outgrown => exact absurd q hl
    | row r args =>
      refine ⟨hdp, ?_⟩
      intro c cs _
      obtain ⟨v, w2, hr, hs⟩ := h c cs
      refine ⟨v, w2, hr, ?_⟩
      rcases hF with rfl | ⟨l, rfl⟩ <;> exact stepsIn_wide.2 hs
    | _ => exact (h : False).elim
  | halt x w' => cases x <;> first | exact hp _ _ _ h | exact (h : False).elim
def RunI (c : Cx) (G : Gp) (ops : Array Oper) (l : List Oper) (k : KT) (e : Env) (A : List HProp) : Prop :=
  ∀ a w, EnvOk c.nd e a → St G A w → wpListIn Fence.wide 1 c.P ops (QOk c.P c.f c.fn c.ds c.R k) l a w
section
variable {c : Cx} {G : Gp} {ops : Array Oper} {k : KT} {e : Env} {A A' F : List HProp} {l : List Oper} {o : Oper} {st : List Item}
theorem qok_letsOut : ¬ LetsOut (QOk c.P c.f c.fn c.ds c.R k) := fun ⟨_, _, h⟩ => h
theorem RunI.step (hd : ∀ d, o.op ≠ .defer d) (r : RunL c G ops [o] (fun a w => wpListIn Fence.wide 1 c.P ops (QOk c.P c.f c.fn c.ds c.R k) l a w) e A) : RunI c G ops (o :: l) k e A := fun a w h s => by
  have q := r a w h s
  unfold wpListIn
  unfold wpList at q
  split at q
  · rename_i hw
    rw [if_pos hw]
    rcases q with q | ⟨_, q⟩
    · exact wpIn_of_wp (.inl rfl) hd qok_letsOut (fun ch a w h => h) q
    · exact absurd q qok_letsOut
  · rename_i hw
    rw [if_neg hw]
    exact ⟨fun f _ => trivial, q⟩
theorem RunI.back (r : RunI c G ops l k e A) : RunL c G ops [] (fun a w => wpListIn Fence.wide 1 c.P ops (QOk c.P c.f c.fn c.ds c.R k) l a w) e A := fun a w h s => r a w h s
theorem RunI.nil (r : Run c G st e A) : RunI c G ops [] (Ok c.P c.f c.R st) e A := fun a w h s => r a w h s

theorem RunI.yield {d : Nat} {tt : TypeId} {pos : String} {af : Array Edge} {gd : Option (Nat × Bool)} {fo : Operand} {xs : Array Operand} {ats : Array TypeId} {lp : Nat} {vs : List Value} {p q : HProp} (hf : opv e fo = some (.func (.yield lp) #[] #[])) (hxs : opvs e xs.toList = some vs)
    (hy : YieldC c.P G lp vs p q) (ht : Find p A A') (hw : Wt ops e ⟨some d, .call ⟨.value fo, xs, ats⟩, tt, pos, af, gd⟩ true) (hlt : Nat.blt d c.fn.ntmps = true) (next : RunI c G ops l k ((d, .bool true) :: e) (q :: A')) : RunI c G ops (⟨some d, .call ⟨.value fo, xs, ats⟩, tt, pos, af, gd⟩ :: l) k e A := fun a w h s => by
  obtain ⟨fn, tmps, assign, body, hr, hR⟩ := hy A' w (s.find ht)
  unfold wpListIn
  rw [if_pos (hw _ a h)]
  unfold Oper.wpIn
  refine ⟨fun _ _ => trivial, ?_⟩
  have e1 := h.opv hf
  have e2 := h.opvs hxs
  have e3 : xs.map a.eval = vs.toArray := by rw [← e2, List.map_toArray, Array.toArray_toList]
  have hx : (execOp a.eval (⟨some d, .call ⟨.value fo, xs, ats⟩, tt, pos, af, gd⟩ : Oper)).run c.P w = .ok (.round lp fn tmps assign body) w := by
    generalize a.eval = ρ at e1 e3 ⊢
    simp only [execOp, resolve, e1, e3, Deferred.ofValue, Sem.run_bind, Sem.run_pure, Result.andThen_ok, invoke]
    simpa using hr
  rw [Oper.semAt_eq _ _ _ (fun _ q => by cases q), hx]
  refine ⟨fun q => by simp [Fence.wide] at q, hR.mono ?_⟩
  rintro en w' ⟨rfl, s'⟩
  exact next _ _ (h.put (blt_lt hlt)) s'
theorem Ok.ofWp {P : Program} {f : FuncId} {R : Ending → World → Prop} {k : List Item} {a : Act} {w : World} {fn : Func} {ds : List Deferred} {cd : Code} (h : cd.wp P (QOk P f fn ds R (Ok P f R k)) a w) : Ok P f R (.code cd :: k) a w := by
  intro b cs hb hk
  obtain ⟨e, a', w', q, arr⟩ := h b k cs
  cases e with
  | normal =>
    obtain ⟨e, w2, fr, r, c, l⟩ := q b cs hb hk
    exact ⟨e, w2, fr, r, Comes.of_steps arr c, l⟩
  | panic chain =>
    obtain ⟨hf, h1, h2⟩ := q
    obtain ⟨todo, s⟩ := arr
    have hq : Leaves P fn a'.tmps R a'.defers (.panicking chain) w' := by
      by_cases hds : ds = []
      · obtain ⟨hd, r⟩ := h1 hds; rw [hd]; exact r
      · exact h2 hds
    obtain ⟨e', w'', fr', hR, hs, hfn, hl⟩ := leaves_steps a'.defers (.panicking chain) w' { b.at a' todo with mode := .panicking chain } cs rfl rfl rfl (hb ▸ hf) hk hq
    exact ⟨e', w'', fr', hR, Comes.of_steps s hs, hfn.trans hb, hl⟩
  | exit id => exact q.elim
  | goto l => exact q.elim
  | ret => exact q.elim
  | outgrown => exact q.elim
theorem Run.regionI {id : Nat} {l : List Oper} (r : RunI c G l.toArray l (Ok c.P c.f c.R st) e A) : Run c G (.code (.region id l.toArray false) :: st) e A := fun a w h s =>
  Ok.ofWp (fn := c.fn) (ds := c.ds) (wpIn_wide.1 (wpIn_region_lit (F := Fence.wide) (n := 1) (r a w h s)))
end
/-! ### Rounds -/
section
variable {P : Program} {nd : Nd} {lp : Nat} {G : Gp} {ops : Array Oper} {e : Env} {A A' F : List HProp} {l : List Oper} {o : Oper} {K : Act → World → Prop}
/-- A walk in a round: it comes to its end, and there 'K'. -/
def RunC (P : Program) (nd : Nd) (lp : Nat) (G : Gp) (cd : Code) (K : Act → World → Prop) (e : Env) (A : List HProp) : Prop :=
  ∀ a w, EnvOk nd e a → St G A w → cd.wpIn (Fence.wide.inRound lp) 0 P (Exit.then K (fun _ _ _ => False)) a w
def RunR (P : Program) (nd : Nd) (lp : Nat) (G : Gp) (ops : Array Oper) (l : List Oper) (K : Act → World → Prop) (e : Env) (A : List HProp) : Prop :=
  ∀ a w, EnvOk nd e a → St G A w → wpListIn (Fence.wide.inRound lp) 0 P ops (Exit.then K (fun _ _ _ => False)) l a w
theorem RunC.region {id : Nat} {l : List Oper} (r : RunR P nd lp G l.toArray l K e A) : RunC P nd lp G (.region id l.toArray false) K e A := fun a w h s => wpIn_region_lit (r a w h s)
theorem RunC.block {id : Nat} {cd : Code} (r : RunC P nd lp G cd K e A) : RunC P nd lp G (.block id cd) K e A := fun a w h s =>
  wpIn_block (wpIn_mono (r a w h s) fun ex a w q => by cases ex <;> first | exact q | exact q.elim)
theorem RunR.nil (h : ∀ a w, EnvOk nd e a → St G A w → K a w) : RunR P nd lp G ops [] K e A := fun a w he s => h a w he s
/-- The frame of a walk of operations within a round. -/
abbrev rcx (P : Program) (fn : Func) : Cx := ⟨P, 0, fn, fun _ _ => False, []⟩
theorem RunR.step {fn : Func} (hd : ∀ d, o.op ≠ .defer d) (r : RunL (rcx P fn) G ops [o] (fun a w => wpListIn (Fence.wide.inRound lp) 0 P ops (Exit.then K (fun _ _ _ => False)) l a w) e A) : RunR P (fn.ntmps, []) lp G ops (o :: l) K e A := fun a w h s => by
  have q := r a w h s
  unfold wpListIn
  unfold wpList at q
  split at q
  · rename_i hw
    rw [if_pos hw]
    rcases q with q | ⟨_, q⟩
    · refine wpIn_of_wp (.inr ⟨lp, rfl⟩) hd qok_letsOut (fun ch a w h => ?_) q
      exact ((h.2.1 rfl).2 : False)
    · exact absurd q qok_letsOut
  · rename_i hw
    rw [if_neg hw]
    exact ⟨fun f _ => trivial, q⟩
theorem RunR.back {fn : Func} (r : RunR P (fn.ntmps, []) lp G ops l K e A) : RunL (rcx P fn) G ops [] (fun a w => wpListIn (Fence.wide.inRound lp) 0 P ops (Exit.then K (fun _ _ _ => False)) l a w) e A := fun a w h s => r a w h s
theorem run_getL {w : World} {A : List HProp} {o : Obj} (s : St G (pt lp o :: A) w) : w.heap[lp]? = some o := s.pt_at
theorem St.putObj {w : World} {A : List HProp} {o o' : Obj} (s : St G (pt lp o :: A) w) : St G (pt lp o' :: A) (w.putObj lp o') :=
  s.pt_set (World.putObj_heap_same (Array.getElem?_eq_some_iff.1 s.pt_at).1) (fun c hc => World.putObj_heap_other hc) ⟨rfl, rfl, rfl, Nat.le_refl _⟩
/-- One round: the assignments, the body. -/
theorem YieldC.mk {rec : Loop} {vs : List Value} {p q : HProp} {e : Env} (hst : rec.state = .ready) (hpe : rec.pending = none) (hn : vs.length = rec.params.size)
    (he : EnvOk nd e { tmps := (rec.params.zip vs.toArray).foldl (fun t (p, v) => t.setIfInBounds p v) rec.tmps, defers := [] })
    (h : ∀ F, RunC P nd lp G rec.assign (fun a w => ∃ e1 B, EnvOk nd e1 a ∧ St G (pt lp (.loop rec) :: B) w ∧
      RunC P nd lp G rec.body (fun a w => St G (pt lp (.loop { rec with state := .busy }) :: q :: F) w) e1 (pt lp (.loop { rec with state := .busy }) :: B)) e (pt lp (.loop rec) :: p :: F)) :
    YieldC P G lp vs (Both (pt lp (.loop rec)) p) (Both (pt lp (.loop rec)) q) := fun F w s => by
  have s := s.unboth
  refine ⟨rec.fn, _, rec.assign, rec.body, run_yield s.pt_at (by simpa using hn), roundIn_of_wpIn trivial (wpIn_mono (h F _ w he s) ?_)⟩
  intro ex a1 w1 hq
  cases ex with
  | normal =>
    obtain ⟨e1, B, h1, s1, hb⟩ := hq
    refine ⟨_, run_beginRound s1.pt_at hst, wpIn_mono (hb _ _ h1 s1.putObj) ?_⟩
    intro ex2 a2 w2 hq2
    cases ex2 with
    | normal =>
      refine ⟨_, _, run_endRound none (St.pt_at hq2), rfl, ?_⟩
      have s3 := St.putObj (o' := .loop rec) hq2
      have hrec : ({ { rec with state := LoopState.busy } with state := if (none : Option Code).isNone = true then .ready else .done, pending := none } : Loop) = rec := by
        cases rec; simp at hst hpe ⊢; exact ⟨hst.symm, hpe.symm⟩
      rw [hrec]
      exact s3.both
    | _ => exact (hq2 : False).elim
  | _ => exact (hq : False).elim
end
/-! ### The range -/
section
variable {c : Cx} {G : Gp} {e : Env} {A F : List HProp} {st : List Item}
theorem Run.rangeFunc {α : Type} {g : Operand} {ps : Array Tmp} {assign body : Code} {gf : FuncId} {lb : Array Value} {enc : α → List Value} {xs : List α} {J : List α → HProp} (hg : opv e g = some (.func (.func gf) #[] lb)) (hds : c.ds = [])
    (hseq : SeqC c.P G gf lb.toList enc xs) (hcal : Callable c.P gf) (ht : Take [J []] A F)
    (hround : ∀ (lp : Nat) (rec : Loop) pre x suf, rec.state = .ready → rec.pending = none → rec.params = ps → rec.assign = assign → rec.body = body → EnvOk (c.fn.ntmps, []) e { tmps := rec.tmps, defers := [] } → xs = pre ++ x :: suf →
      YieldC c.P G lp (enc x) (Both (pt lp (.loop rec)) (J pre)) (Both (pt lp (.loop rec)) (J (pre ++ [x]))))
    (next : ∀ D, Run { c with ds := [⟨.collected D, #[]⟩] } G st e (J xs :: pt D (.deferred (some [])) :: F)) : Run c G (.code (.rangeFunc g ps assign body) :: st) e A := fun a w h s => by
  have hdf : a.defers = [] := h.1.trans hds
  refine Ok.ofWp (fn := c.fn) (ds := c.ds) ((wpIn_wide (n := 1)).1 (wpIn_rangeFunc (F := Fence.wide) (n := 1) fun fn _ => ?_))
  have hev := h.opv hg
  let rec0 : Loop := { state := .ready, pending := none, fn, tmps := a.tmps, params := ps, assign, body, defers := w.heap.size }
  have s1 : St G (pt w.heap.size (.deferred (some [])) :: J [] :: F) (w.alloc (.deferred (some []))) :=
    St.pt_new (s.perm ht.perm) (World.alloc_heap_new w _) (fun c hc => (Array.getElem?_push (xs := World.heap _)).trans (if_neg (Nat.ne_of_lt hc))) ⟨rfl, rfl, rfl, Nat.le_refl _⟩
  have s2 : St G (pt (w.heap.size + 1) (.loop rec0) :: pt w.heap.size (.deferred (some [])) :: J [] :: F) ((w.alloc (.deferred (some []))).alloc (.loop rec0)) := by
    have := St.pt_new (o := .loop rec0) s1 (World.alloc_heap_new _ _) (fun c hc => (Array.getElem?_push (xs := World.heap _)).trans (if_neg (Nat.ne_of_lt hc))) ⟨rfl, rfl, rfl, Nat.le_refl _⟩
    rwa [World.size_alloc] at this
  refine ⟨w.heap.size + 1, [⟨.collected w.heap.size, #[]⟩], ((w.alloc (.deferred (some []))).alloc (.loop rec0)), { target := .fn (.func gf) lb, args := #[.func (.yield (w.heap.size + 1)) #[] #[]] }, ((w.alloc (.deferred (some []))).alloc (.loop rec0)), gf, #[.func (.yield (w.heap.size + 1)) #[] #[]] ++ lb, ((w.alloc (.deferred (some []))).alloc (.loop rec0)), run_enterLoop_outer _ _ _ _ _, ?_, fun _ _ => trivial, ?_, fun q => by simp [Fence.wide] at q, ?_⟩
  · simp only [resolve, hev]
    simp [go_sem]
  · have := run_callFunc hcal (#[.func (.yield (w.heap.size + 1)) #[] #[]] ++ lb) ((w.alloc (.deferred (some []))).alloc (.loop rec0))
    simpa [invoke] using this
  · have hc := hseq (w.heap.size + 1) (fun pre => Both (pt (w.heap.size + 1) (.loop rec0)) (J pre)) (fun pre x suf hx => hround _ rec0 pre x suf rfl rfl rfl rfl rfl ⟨rfl, h.2⟩ hx)
    have s3 : St G (Both (pt (w.heap.size + 1) (.loop rec0)) (J []) :: pt w.heap.size (.deferred (some [])) :: F) ((w.alloc (.deferred (some []))).alloc (.loop rec0)) := by
      refine St.both (s2.perm ?_)
      exact (List.Perm.swap _ _ _).cons _
    have hcall := hc.2 (pt w.heap.size (.deferred (some [])) :: F) _ s3
    have harr : (.func (.yield (w.heap.size + 1)) #[] #[] :: lb.toList : List Value).toArray = #[.func (.yield (w.heap.size + 1)) #[] #[]] ++ lb := by
      apply Array.ext'; simp
    rw [harr] at hcall
    refine (callsIn_wide.2 hcall).mono ?_
    rintro en w3 ⟨v, A2, rfl, ⟨_, rfl⟩, s4⟩
    have s5 := s4.unboth
    refine ⟨none, _, run_endLoop s5.pt_at (by simp [rec0]), ?_⟩
    have s6 := (St.putObj (o' := .loop { rec0 with state := .exhausted }) s5).drop
    refine next w.heap.size _ _ ?_ s6
    refine ⟨?_, h.2⟩
    show [(⟨.collected w.heap.size, #[]⟩ : Deferred)] ++ a.defers = _
    rw [hdf]; rfl
theorem Ok.retM {P : Program} {f : FuncId} {R : Ending → World → Prop} {k : List Item} {a : Act} {w w' : World} {fn : Func} {v : Value} {D : Nat} (hf : P.funcs[f]? = some fn) (hd : a.defers = [⟨.collected D, #[]⟩]) (ht : (Instr.takeDeferred D).run P w = .ok [] w') (hr : (results fn a.tmps).run P w' = .ok v w') (r : R (.returned v) w') : Ok P f R (.code .ret :: k) a w := by
  intro b cs hb hk
  have h1 : Steps P (lone (b.at a (.code .ret :: k)) cs w) (lone { b.at a (.code .ret :: k) with mode := .returning } cs w) := .one step_ret
  have h2 := step_collected (P := P) (fr := { b.at a (.code .ret :: k) with mode := .returning }) (cs := cs) (w := w) (w' := w') (r := D) (calls := []) (ds := []) (by simp) (by show a.defers = _; exact hd) rfl ht
  exact ⟨.returned v, w', _, r, h1.trans (.one h2), hb, rfl, rfl, hk, fn, hb ▸ hf, hr⟩
theorem Run.retM {P : Program} {f : FuncId} {fn : Func} {post : Post} {F A A' A2 : List HProp} {v : Value} {D : Nat} (hf : P.funcs[f]? = some fn) (hD : Find (pt D (.deferred (some []))) A A') (hr : ∀ a w, EnvOk (fn.ntmps, [⟨.collected D, #[]⟩]) e a → St G A' w → (results fn a.tmps).run P w = .ok v w) (hp : post F v A2) (ht : Fin F A2 A') :
    Run ⟨P, f, fn, RR G post F, [⟨.collected D, #[]⟩]⟩ G (.code .ret :: st) e A := fun a w h s => by
  have s1 := s.find hD
  have s2 := (St.putObj (o' := .deferred none) s1).drop
  exact Ok.retM hf h.1 (run_takeDeferred s1.pt_at) (hr a _ h s2) ⟨v, A2, rfl, hp, ht.st s2⟩
end
end Go.Proofs.Ytppamndllgojnaa.Csl
