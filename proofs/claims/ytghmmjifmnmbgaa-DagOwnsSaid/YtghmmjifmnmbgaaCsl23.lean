/- Functions that panic, that defer, that recover. Nothing of a program stands here. -/
import Derived.Test.YtghmmjifmnmbgaaCsl22
import Derived.Recover
set_option linter.unusedVariables false
set_option linter.unusedSimpArgs false
namespace Go.Proofs.Ytghmmjifmnmbgaa.Csl
open Go
/-- A call that panics with 'v'. -/
def CtrP (P : Program) (G : Gp) (f : FuncId) (args : List Value) (pre : List HProp) (v : Value) (post : List HProp → List HProp → Prop) : Prop :=
  Callable P f ∧ ∀ F w, St G (pre ++ F) w → Calls P f args.toArray w fun e w' => ∃ A, e = .panicked [{ v := v, recovered := false }] ∧ post F A ∧ St G A w'
def RRP (G : Gp) (v : Value) (post : List HProp → List HProp → Prop) (F : List HProp) (e : Ending) (w' : World) : Prop := ∃ A, e = .panicked [{ v := v, recovered := false }] ∧ post F A ∧ St G A w'
theorem par_ok (args : List Value) {fn : Func} (hl : Nat.ble args.length fn.ntmps = true) : EnvOk (fn.ntmps, []) (par 0 args) { tmps := args.toArray ++ Array.replicate (fn.ntmps - args.toArray.size) undef, defers := [] } := by
  have hl' : args.length ≤ fn.ntmps := Nat.le_of_ble_eq_true hl
  refine ⟨rfl, by simp; omega, fun i v h => ?_⟩
  obtain ⟨_, h2⟩ := lk_par args 0 i v h
  have hi : i < args.length := by
    rcases Nat.lt_or_ge i args.length with q | q
    · exact q
    · rw [Nat.sub_zero, List.getElem?_eq_none q] at h2; cases h2
  rw [Nat.sub_zero] at h2
  show (args.toArray ++ _)[i]? = some v
  rw [Array.getElem?_append_left (by simpa using hi)]
  simpa using h2
theorem CtrP.intro {P : Program} {G : Gp} {f : FuncId} {fn : Func} {cd : Code} {args : List Value} {pre : List HProp} {v : Value} {post : List HProp → List HProp → Prop}
    (hf : P.funcs[f]? = some fn) (hb : fn.body = some cd) (hn : (fn.name == "runtime.NumGoroutine") = false) (hl : Nat.ble args.length fn.ntmps = true)
    (h : ∀ F, Run ⟨P, f, fn, RRP G v post F, []⟩ G [.code cd] (par 0 args) (pre ++ F)) : CtrP P G f args pre v post :=
  ⟨⟨fn, hf, hn, by rw [hb]; rfl⟩, fun F w s => Calls.of_ok hf hb (h F _ w (par_ok args hl) s)⟩
section
variable {P : Program} {f : FuncId} {fn : Func} {R : Ending → World → Prop} {ds : List Deferred}
variable {G : Gp} {ops : Array Oper} {k : KT} {e : Env} {A F : List HProp} {l : List Oper} {tt : TypeId} {pos : String} {af : Array Edge} {gd : Option (Nat × Bool)} {x fo : Operand} {xs : Array Operand} {ats : Array TypeId} {g : FuncId} {fst cap : Array Value} {vs : List Value} {pre : List HProp} {st : List Item}
theorem RunL.panicOp {t : TypeId} {u : Value} {post : List HProp → List HProp → Prop} {A2 : List HProp} (hf : P.funcs[f]? = some fn) (hx : opv e x = some (.iface t u)) (hw : Wt ops e ⟨none, .panic x, tt, pos, af, gd⟩ true) (hp : post F A2) (ht : Fin F A2 A) :
    RunL ⟨P, f, fn, RRP G (.iface t u) post F, []⟩ G ops (⟨none, .panic x, tt, pos, af, gd⟩ :: l) k e A := by
  intro a w h s
  unfold wpList
  rw [if_pos (hw _ a h)]
  refine .inl ?_
  unfold Oper.wp
  have h1 := h.ev _ _ hx
  have hr : (execOp a.eval ⟨none, .panic x, tt, pos, af, gd⟩).run P w = .halt (.panic (.iface t u)) w := by
    generalize a.eval = ρ at h1 ⊢
    simp only [execOp, h1, Instr.panic, goPanic]
    rfl
  rw [hr, Oper.upon_panic]
  exact ⟨hf, fun _ => ⟨h.1, A2, rfl, hp, ht.st s⟩, fun q => absurd rfl q⟩
/-- The last operation of a region defers a call. -/
theorem RunL.deferLast (hx : opv e x = some (.func (.func g) #[] cap)) (hw : Wt ops e ⟨none, .defer ⟨.value x, #[], ats⟩, tt, pos, af, gd⟩ true)
    (next : Run ⟨P, f, fn, R, ⟨.fn (.func g) cap, #[]⟩ :: ds⟩ G st e A) : RunL ⟨P, f, fn, R, ds⟩ G ops [⟨none, .defer ⟨.value x, #[], ats⟩, tt, pos, af, gd⟩] (Ok P f R st) e A := by
  intro a w h s
  unfold wpList
  rw [if_pos (hw _ a h)]
  refine .inl ?_
  unfold Oper.wp
  have h1 := h.ev _ _ hx
  have hr : (execOp a.eval ⟨none, .defer ⟨.value x, #[], ats⟩, tt, pos, af, gd⟩).run P w = .ok (.defer ⟨.fn (.func g) cap, #[]⟩) w := by
    generalize a.eval = ρ at h1 ⊢
    simp [execOp, resolve, h1, Deferred.ofValue, Sem.run_bind, Sem.run_pure, Result.andThen_ok]
  rw [hr, Oper.upon_defer]
  unfold wpList
  refine next _ w ⟨?_, ?_, ?_⟩ s
  · show ({ a with defers := _ :: a.defers }.put none undef).defers = _
    simp only [Act.put, h.1]
  · have := h.2.1; simpa [Act.put] using this
  · intro i v q; have := h.2.2 i v q; simpa [Act.put] using this
theorem RunL.callP {d : Deferred} {dd : Option Tmp} {args : List Value} {v : Value} {post : List HProp → List HProp → Prop} (hf : P.funcs[f]? = some fn) (hfo : opv e fo = some (.func (.func g) fst cap)) (hxs : opvs e xs.toList = some vs) (hargs : (fst ++ vs.toArray ++ cap) = args.toArray) (ht : Take pre A F) (hs : CtrP P G g args pre v post)
    (hw : Wt ops e ⟨dd, .call ⟨.value fo, xs, ats⟩, tt, pos, af, gd⟩ true)
    (next : ∀ A', post F A' → ∀ a w, EnvOk (fn.ntmps, d :: ds) e a → St G A' w → Leaves P fn a.tmps R (d :: ds) (.panicking [{ v := v, recovered := false }]) w) :
    RunL ⟨P, f, fn, R, d :: ds⟩ G ops (⟨dd, .call ⟨.value fo, xs, ats⟩, tt, pos, af, gd⟩ :: l) k e A := by
  intro a w h s
  unfold wpList
  rw [if_pos (hw _ a h)]
  refine .inl ?_
  unfold Oper.wp
  have e1 := h.opv hfo
  have e2 := h.opvs hxs
  have e3 : xs.map a.eval = vs.toArray := by rw [← e2, List.map_toArray, Array.toArray_toList]
  have hr : (execOp a.eval ⟨dd, .call ⟨.value fo, xs, ats⟩, tt, pos, af, gd⟩).run P w = .ok (.enter g args.toArray) w := by
    have h1 := run_callFunc hs.1 (fst ++ vs.toArray ++ cap) w
    generalize a.eval = ρ at e1 e3 ⊢
    simp only [execOp, resolve, e1, e3, Deferred.ofValue, Sem.run_bind, Sem.run_pure, Result.andThen_ok, invoke, h1]
    rw [hargs]
  rw [hr, Oper.upon_enter]
  refine (hs.2 F w (s.perm ht.perm)).mono ?_
  rintro en w' ⟨A', rfl, hp, s'⟩
  have := next A' hp a w' h s'
  refine ⟨hf, (fun q => by cases q), fun _ => ?_⟩
  have h0 : a.defers = d :: ds := h.1
  rw [h0]; exact this
end

section
variable {P : Program} {f : FuncId} {fn : Func} {R : Ending → World → Prop} {ds : List Deferred}
variable {G : Gp} {ops : Array Oper} {k : KT} {e : Env} {A : List HProp} {l : List Oper} {tt : TypeId} {pos : String} {af : Array Edge} {gd : Option (Nat × Bool)} {fo : Operand} {xs : Array Operand} {ats : Array TypeId} {g : FuncId}
/-- A call that goes on where its one argument holds, and panics where not. -/
theorem RunL.callMust {d : Deferred} {dd : Nat} {u : Value} {b : Bool} (hf : P.funcs[f]? = some fn) (hfo : opv e fo = some (.func (.func g) #[] #[])) (hxs : opvs e xs.toList = some [.bool b]) (hT : Ctr P G g [.bool true] [] (fun F v A => v = .tuple #[] ∧ A = F)) (hF : CtrP P G g [.bool false] [] u (fun F A => A = F))
    (hw : Wt ops e ⟨some dd, .call ⟨.value fo, xs, ats⟩, tt, pos, af, gd⟩ true) (hlt : Nat.blt dd fn.ntmps = true)
    (nextT : b = true → RunL ⟨P, f, fn, R, d :: ds⟩ G ops l k ((dd, .tuple #[]) :: e) A)
    (gone : b = false → ∀ a w, EnvOk (fn.ntmps, d :: ds) e a → St G A w → Leaves P fn a.tmps R (d :: ds) (.panicking [{ v := u, recovered := false }]) w) :
    RunL ⟨P, f, fn, R, d :: ds⟩ G ops (⟨some dd, .call ⟨.value fo, xs, ats⟩, tt, pos, af, gd⟩ :: l) k e A := by
  cases b with
  | true =>
    refine RunL.call (f := g) (args := [.bool true]) hfo hxs (by simp) (Take.nil _) hT hw hlt ?_
    rintro _ _ ⟨rfl, rfl⟩
    exact nextT rfl
  | false =>
    refine RunL.callP (g := g) (args := [.bool false]) hf hfo hxs (by simp) (Take.nil _) hF hw ?_
    rintro _ rfl
    exact gone rfl
end
/-! ### The deferred call -/
/-- What a deferred call comes to: the mode of the one that deferred it turns from 'u' to 'u''. -/
def CtrD (P : Program) (G : Gp) (f : FuncId) (args : List Value) (pre : List HProp) (u u' : FrameMode) (post : List HProp → List HProp → Prop) : Prop :=
  Callable P f ∧ ∀ F w, St G (pre ++ F) w → CallsD P f args.toArray u w fun e m w' => ∃ v A, e = .returned v ∧ m = u' ∧ post F A ∧ St G A w'
section
variable {P : Program} {f : FuncId} {fn : Func} {G : Gp} {post : Post} {F F' : List HProp} {g : FuncId} {cap : Array Value} {pre A : List HProp} {u u' : FrameMode} {postD : List HProp → List HProp → Prop} {e : Env} {ds : List Deferred} {st : List Item}
theorem leaves_one {a : Act} {w : World} (hu : u ≠ .run) (hs : settle u' = .returning) (hc : CtrD P G g cap.toList pre u u' postD) (s : St G A w) (ht : Take pre A F')
    (hr : ∀ A', postD F' A' → ∀ w', St G A' w' → ∃ v A2, (results fn a.tmps).run P w' = .ok v w' ∧ post F v A2 ∧ St G A2 w') :
    Leaves P fn a.tmps (RR G post F) [⟨.fn (.func g) cap, #[]⟩] u w := by
  refine leaves_cons hu (f := g) (args := cap) ?_ ?_
  · have := run_callFunc hc.1 (#[] ++ cap) w
    simp only [invoke]
    simpa using this
  · have hcap : cap.toList.toArray = cap := Array.toArray_toList
    have h1 := hc.2 F' w (s.perm ht.perm)
    rw [hcap] at h1
    refine h1.mono ?_
    rintro en m w' ⟨v, A', rfl, rfl, hp, s'⟩
    obtain ⟨v2, A2, h2, h3, h4⟩ := hr A' hp w' s'
    show Leaves P fn a.tmps _ [] (settle m) w'
    rw [hs]
    exact ⟨v2, h2, v2, A2, rfl, h3, h4⟩
theorem Run.retD {v : Value} {A2 : List HProp} (hf : P.funcs[f]? = some fn) (hc : CtrD P G g cap.toList pre .returning .returning postD) (ht : Take pre A F') (hp : post F v A2)
    (hr : ∀ A', postD F' A' → (∀ a w', EnvOk (fn.ntmps, [⟨.fn (.func g) cap, #[]⟩]) e a → St G A' w' → (results fn a.tmps).run P w' = .ok v w') ∧ Fin F A2 A') :
    Run ⟨P, f, fn, RR G post F, [⟨.fn (.func g) cap, #[]⟩]⟩ G (.code .ret :: st) e A := fun a w h s => by
  refine Ok.retD hf ?_
  have h0 : a.defers = [⟨.fn (.func g) cap, #[]⟩] := h.1
  rw [h0]
  exact leaves_one (by simp) rfl hc s ht fun A' q w' s' => ⟨v, A2, (hr A' q).1 a w' h s', hp, (hr A' q).2.st s'⟩
end

/-! ### Walking a deferred call -/
theorem recoverD_pan {c : Frame} {cs : List Frame} {v : Value} {older : List PanicEntry} (h : c.mode = .panicking ({ v := v, recovered := false } :: older)) :
    recoverD (c :: cs) = some (v, { c with mode := .panicking ({ v := v, recovered := true } :: older) } :: cs) := by
  simp [recoverD, h]
theorem recoverD_ret {c : Frame} {cs : List Frame} (h : c.mode = .returning) : recoverD (c :: cs) = none := by
  simp [recoverD, h]
section
variable {P : Program} {ops : Array Oper} {Qk : Exit → Act → World → Prop} {Q : Exit → Act → List Frame → World → Prop} {cs : List Frame}
theorem wpOpsS_of_list (hn : ∀ a w, Qk .normal a w → Q .normal a cs w) (hx : ∀ e a w, Qk e a w → e = .normal) : ∀ (l : List Oper) (j : Nat), (∀ i, l[i]? = ops[j + i]?) → ∀ a w, wpList P ops Qk l a w → wpOpsS P ops Q (List.range' j l.length) a cs w
  | [], j, _, a, w, h => hn a w h
  | o :: l, j, hl, a, w, h => by
    have hlo : ¬ LetsOut Qk := by rintro ⟨a', w', q⟩; cases hx _ _ _ q
    have ho : ops[j]? = some o := by have := hl 0; simpa using this.symm
    have ih := wpOpsS_of_list hn hx l (j + 1) (fun i => by have := hl (i + 1); simpa [Nat.add_assoc, Nat.add_comm 1 i] using this)
    show wpOpsS P ops Q (j :: List.range' (j + 1) l.length) a cs w
    unfold wpOpsS
    rw [ho]
    simp only
    unfold wpList at h
    by_cases hw : Region.wanted o (yielded ops a.tmps) = true
    · rw [if_pos hw] at h ⊢
      rcases h with h | ⟨_, h⟩
      · unfold Oper.wp at h
        generalize (execOp a.eval o).run P w = r at h ⊢
        cases r with
        | ok nx w' =>
          cases nx with
          | value v => exact ih _ _ h
          | skip => exact ih _ _ h
          | defer d => exact ih _ _ h
          | enter f args =>
            refine Calls.mono h ?_
            rintro (v | chain | _) w'' q
            · exact ih _ _ q
            · cases hx _ _ _ q
            · exact absurd q hlo
          | row row args => exact Rows.mono h fun v w'' q => ih _ _ q
          | _ => exact h.elim
        | halt st w' =>
          cases st with
          | panic v => cases hx _ _ _ h
          | _ => exact h.elim
      · exact absurd h hlo
    · rw [if_neg hw] at h ⊢
      exact ih _ _ h
end
section
variable {c : Cx} {G : Gp} {e e' : Env} {A A' : List HProp} {a : Act} {w : World} {cs cs' : List Frame} {Q : Exit → Act → List Frame → World → Prop} {id : Nat} {l : List Oper}
def EndK (c : Cx) (G : Gp) (e' : Env) (A' : List HProp) : KT := fun a w => EnvOk c.nd e' a ∧ St G A' w
theorem qok_normal {c : Cx} (hR : c.R = fun _ _ => False) (hd : c.ds = []) {k : KT} : ∀ ex a w, QOk c.P c.f c.fn c.ds c.R k ex a w → ex = .normal := by
  intro ex a w h
  cases ex with
  | normal => rfl
  | panic ch => have := (h.2.1 hd).2; rw [hR] at this; exact this.elim
  | _ => exact h.elim
theorem RunL.endTo {ops : Array Oper} {is : List Nat} {F : List HProp} (ke : Keep e is e') (t : Fin F A' A) : RunL c G ops [] (EndK c G e' A') e A := fun a w h s => ⟨h.sub ke.sub, t.st s⟩
theorem wpS_list (hR : c.R = fun _ _ => False) (hd : c.ds = []) (r : RunL c G l.toArray l (EndK c G e' A') e A) (hE : EnvOk c.nd e a) (s : St G A w) (next : ∀ a' w', EnvOk c.nd e' a' → St G A' w' → Q .normal a' cs w') :
    (Code.region id l.toArray false).wpS c.P Q a cs w := by
  refine wpS_region ?_
  have := wpOpsS_of_list (P := c.P) (ops := l.toArray) (Q := Q) (cs := cs) (fun a w q => next a w q.1 q.2) (qok_normal hR hd) l 0 (by simp) a w (r a w hE s)
  simpa [List.range_eq_range'] using this
theorem wpS_recover {d : Nat} {t : TypeId} {pos : String} {v : Value} (hR : c.R = fun _ _ => False) (hd : c.ds = []) (hlt : Nat.blt d c.fn.ntmps = true)
    (hrec : recoverD cs = some (v, cs') ∨ (recoverD cs = none ∧ v = .nilIface ∧ cs' = cs))
    (r : RunL c G (⟨some d, .call ⟨.builtin .recover, #[], #[]⟩, t, pos, #[], none⟩ :: l).toArray l (EndK c G e' A') ((d, v) :: e) A) (hE : EnvOk c.nd e a) (s : St G A w) (next : ∀ a' w', EnvOk c.nd e' a' → St G A' w' → Q .normal a' cs' w') :
    (Code.region id (⟨some d, .call ⟨.builtin .recover, #[], #[]⟩, t, pos, #[], none⟩ :: l).toArray false).wpS c.P Q a cs w := by
  refine wpS_region ?_
  rw [List.range_eq_range', show (⟨some d, .call ⟨.builtin .recover, #[], #[]⟩, t, pos, #[], none⟩ :: l : List Oper).toArray.size = l.length + 1 from by simp]
  show wpOpsS c.P _ Q (0 :: List.range' 1 l.length) a cs w
  have hw : Region.wanted (⟨some d, .call ⟨.builtin .recover, #[], #[]⟩, t, pos, #[], none⟩ : Oper) (yielded (⟨some d, .call ⟨.builtin .recover, #[], #[]⟩, t, pos, #[], none⟩ :: l : List Oper).toArray a.tmps) = true := by simp [Region.wanted]
  have hr : (execOp a.eval (⟨some d, .call ⟨.builtin .recover, #[], #[]⟩, t, pos, #[], none⟩ : Oper)).run c.P w = .ok .recover w := by
    simp [execOp, resolve, Sem.run_bind, Sem.run_pure, Result.andThen_ok, invoke, builtin]
  unfold wpOpsS
  simp only [List.getElem?_toArray, List.getElem?_cons_zero, hw, if_true, hr]
  have key := wpOpsS_of_list (P := c.P) (ops := (⟨some d, .call ⟨.builtin .recover, #[], #[]⟩, t, pos, #[], none⟩ :: l : List Oper).toArray) (Q := Q) (cs := cs') (fun a w q => next a w q.1 q.2) (qok_normal hR hd) l 1 (by intro i; simp [Nat.add_comm 1 i]) (a.put (some d) v) w (r _ w (hE.put (blt_lt hlt)) s)
  rcases hrec with q | ⟨q, rfl, rfl⟩
  · rw [q]; exact key
  · rw [q]; exact key
end
section
variable {P : Program} {e : Env} {d : Option Tmp} {t tt xt : TypeId} {pos : String} {af : Array Edge} {gd : Option (Nat × Bool)} {x y : Operand}
theorem Pure.assertYes {v : Value} {dsc : TypeDesc} (hx : opv e x = some (.iface t v)) (ht : P.underlying t = some dsc) (hi : (match dsc with | .interface _ => true | _ => false) = false) : Pure P e ⟨d, .typeAssert x xt t true, tt, pos, af, gd⟩ (.tuple #[v, .bool true]) := fun ρ w ho => by
  have h1 := ho _ _ hx
  simp only [execOp, h1, Instr.typeAssert, Sem.run_bind, run_underlying ht, Result.andThen_ok]
  cases dsc <;> first | (cases hi; done) | simp
theorem Pure.assertNil {z : Value} {dsc : TypeDesc} (hx : opv e x = some .nilIface) (ht : P.underlying t = some dsc) (hz : zeroIs P t = some z) : Pure P e ⟨d, .typeAssert x xt t true, tt, pos, af, gd⟩ (.tuple #[z, .bool false]) := fun ρ w ho => by
  have h1 := ho _ _ hx
  simp only [execOp, h1, Instr.typeAssert, Sem.run_bind, run_underlying ht, Result.andThen_ok]
  cases dsc <;> simp [run_zero hz]
end
end Go.Proofs.Ytghmmjifmnmbgaa.Csl
