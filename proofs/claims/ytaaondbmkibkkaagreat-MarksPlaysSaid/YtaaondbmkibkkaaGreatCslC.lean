/- The framework, in one text. -/
import Derived.Test.YtaaondbmkibkkaaGreatCslB
/- Short forms of the rules, for printed scripts. Nothing of a program stands here. -/
set_option linter.unusedVariables false
set_option linter.unusedSimpArgs false
namespace Go.Proofs.YtaaondbmkibkkaaGreat.Csl
open Go
theorem Z : (∀ {p : Prop} [Decidable p], (decide p = true) = p) ∧ (∀ {p : Prop} [Decidable p], decide p = false ↔ ¬p) ∧ (∀ {α : Type} [BEq α] [LawfulBEq α] {a b : α}, (a == b) = true ↔ a = b) ∧
  (∀ {α : Type} [BEq α] [LawfulBEq α] {a b : α}, (a == b) = false ↔ a ≠ b) ∧ (∀ {α : Type} [BEq α] [LawfulBEq α] {a b : α}, (a != b) = true ↔ a ≠ b) ∧ (∀ {α : Type} (a b : α), (a ≠ b) = ¬(a = b)) ∧
  (∀ (b : Bool), ((!b) = true) = (b = false)) ∧ (∀ b : Bool, ((!b) = false) = (b = true)) ∧ (∀ b : Bool, (¬(b = true)) = (b = false)) ∧ (∀ b : Bool, (¬(b = false)) = (b = true)) ∧ (∀ {a b : Int}, ¬a < b ↔ b ≤ a) ∧
  (∀ {a b : Int}, ¬a ≤ b ↔ b < a) ∧ (∀ {p : Prop} [Decidable p], ¬¬p ↔ p) ∧ (∀ {α : Type} [BEq α] [LawfulBEq α] {a b : α}, (a != b) = false ↔ a = b) ∧ (∀ {α : Type} [LT α] {a b : α}, a > b ↔ b < a) ∧
  (∀ {α : Type} [LE α] {a b : α}, a ≥ b ↔ b ≤ a) ∧ (∀ (a b : Bool), ((a || b) = true) = (a = true ∨ b = true)) ∧ (∀ (a b : Bool), ((a && b) = true) = (a = true ∧ b = true)) :=
  ⟨ZA, ZB, ZC, ZD, ZE, ZF, ZG, ZH, ZI, ZJ, ZK, ZL, ZM, ZN, ZO, ZP, ZQ, ZR⟩
section
variable {c : Cx} {G : Gp} {e e' : Env} {A A' : List HProp} {st : List Item}
theorem sr' {id : Nat} {l : List Oper} {z : Code} (r : RunL c G l.toArray l (Ok c.P c.f c.R (.code z :: st)) e A) : Run c G (.code (.seq (.region id l.toArray false) z) :: st) e A := Run.sr r
theorem rg' {id : Nat} {l : List Oper} (r : RunL c G l.toArray l (Ok c.P c.f c.R st) e A) : Run c G (.code (.region id l.toArray false) :: st) e A := Run.region r
theorem nl' {ops : Array Oper} (r : Run c G st e A) : RunL c G ops [] (Ok c.P c.f c.R st) e A := RunL.nil r
theorem sq' {x y : Code} (r : Run c G (.code x :: .code y :: st) e A) : Run c G (.code (.seq x y) :: st) e A := Run.seq r
theorem sk' (r : Run c G st e A) : Run c G (.code .skip :: st) e A := Run.skip r
theorem ib' {i : Nat} (r : Run c G st e A) : Run c G (.inBlock i :: st) e A := Run.inBlock r
theorem bl' {i : Nat} {x : Code} (r : Run c G (.code x :: .inBlock i :: st) e A) : Run c G (.code (.block i x) :: st) e A := Run.block r
theorem ex' {i : Nat} {k' : List Item} (h : exitTo i st = some k') (r : Run c G k' e A) : Run c G (.code (.exit i) :: st) e A := Run.exit h r
theorem cT' {x : Operand} {y z : Code} (r : Run c G (.code y :: st) e A) (h : opv e x = some (.bool true) := by exact rfl) : Run c G (.code (.cond x y z) :: st) e A := Run.condT h r
theorem cF' {x : Operand} {y z : Code} (r : Run c G (.code z :: st) e A) (h : opv e x = some (.bool false) := by exact rfl) : Run c G (.code (.cond x y z) :: st) e A := Run.condF h r
theorem kp' (is : List Nat) (r : Run c G st e' A) (ke : Keep e is e' := by repeat (first | exact Keep.nil | (apply Keep.cons; exact rfl))) : Run c G st e A := Run.keep ke r
end
section
variable {c : Cx} {G : Gp} {ops : Array Oper} {k : KT} {e : Env} {A A' F : List HProp} {l : List Oper} {d b i n : Nat} {v : Value} {t tt T : TypeId} {pos : String} {af : Array Edge} {gd : Option (Nat × Bool)} {x y : Operand} {op : Op} {cs : List Value}
theorem mv' (hx : opv e x = some v) (next : RunL c G ops l k ((d, v) :: e) A) (hlt : Nat.blt d c.fn.ntmps = true := by exact rfl) : RunL c G ops (⟨some d, .move x, tt, pos, af, none⟩ :: l) k e A := RunL.mv hx hlt next
theorem as' (hx : opv e x = some v) (next : RunL c G ops l k ((d, v) :: e) A) (hlt : Nat.blt d c.fn.ntmps = true := by exact rfl) : RunL c G ops (⟨some d, .assign x, tt, pos, af, none⟩ :: l) k e A := RunL.as hx hlt next
theorem no' (next : RunL c G ops l k ((d, undef) :: e) A) (hw : Wt ops e ⟨some d, op, tt, pos, af, gd⟩ false := by exact Wt.no rfl rfl rfl) (hlt : Nat.blt d c.fn.ntmps = true := by exact rfl) : RunL c G ops (⟨some d, op, tt, pos, af, gd⟩ :: l) k e A := RunL.not hw rfl hlt next
theorem un' (next : RunL c G ops l k ((d, undef) :: e) A) (hw : Wt ops e ⟨some d, op, tt, pos, af, gd⟩ false := by exact Wt.un rfl rfl rfl) (hlt : Nat.blt d c.fn.ntmps = true := by exact rfl) : RunL c G ops (⟨some d, op, tt, pos, af, gd⟩ :: l) k e A := RunL.not hw rfl hlt next
theorem pp' (hp : Pure c.P e ⟨some d, op, tt, pos, af, none⟩ v) (next : RunL c G ops l k ((d, v) :: e) A) (hlt : Nat.blt d c.fn.ntmps = true := by exact rfl) : RunL c G ops (⟨some d, op, tt, pos, af, none⟩ :: l) k e A := RunL.pure hp (Wt.none rfl) rfl hlt next
theorem py' (hp : Pure c.P e ⟨some d, op, tt, pos, af, gd⟩ v) (next : RunL c G ops l k ((d, v) :: e) A) (hw : Wt ops e ⟨some d, op, tt, pos, af, gd⟩ true := by exact Wt.yes rfl rfl rfl) (hlt : Nat.blt d c.fn.ntmps = true := by exact rfl) : RunL c G ops (⟨some d, op, tt, pos, af, gd⟩ :: l) k e A := RunL.pure hp hw rfl hlt next
/-- Owned, or only read. -/
abbrev Held (G : Gp) (A : List HProp) (b : Nat) (T : TypeId) (cs : List Value) : Prop := (∃ A', Find (row b T cs) A A') ∨ Ro G b T cs
theorem Held.own (h : Find (row b T cs) A A') : Held G A b T cs := .inl ⟨_, h⟩
theorem l1' (hx : opv e x = some (.pointer (some ⟨b, i, none⟩))) (ha : isAggOf c.P t = some false) (next : RunL c G ops l k ((d, v) :: e) A) (hr : Held G A b T cs := by first | (apply Held.own; first | ((repeat (first | (with_reducible exact F0 _) | apply F1)); done) | ((repeat (first | exact F0 _ | apply F1)); done)) | exact .inr (by assumption)) (hc : cs[i]? = some v := by rfl)
    (hw : Wt ops e ⟨some d, .load t x, tt, pos, af, gd⟩ true := by first | exact Wt.none rfl | exact Wt.yes rfl rfl rfl) (hlt : Nat.blt d c.fn.ntmps = true := by exact rfl) : RunL c G ops (⟨some d, .load t x, tt, pos, af, gd⟩ :: l) k e A :=
  hr.elim (fun ⟨_, h⟩ => RunL.load1 hx h hc ha hw hlt next) (fun h => RunL.load1R hx h hc ha hw hlt next)
theorem lA' (vs : List Value) (hx : opv e x = some (.pointer (some ⟨b, i, none⟩))) (ha : isAggOf c.P t = some true) (hn : sizeIs c.P t = some n) (next : RunL c G ops l k ((d, .agg vs.toArray) :: e) A) (hr : Held G A b T cs := by first | (apply Held.own; first | ((repeat (first | (with_reducible exact F0 _) | apply F1)); done) | ((repeat (first | exact F0 _ | apply F1)); done)) | exact .inr (by assumption))
    (hl : i + n ≤ cs.length := by first | exact Nat.le_of_ble_eq_true rfl | (simp; done) | (simp; omega)) (hc : (cs.drop i).take n = vs := by exact rfl) (hw : Wt ops e ⟨some d, .load t x, tt, pos, af, gd⟩ true := by first | exact Wt.none rfl | exact Wt.yes rfl rfl rfl) (hlt : Nat.blt d c.fn.ntmps = true := by exact rfl) : RunL c G ops (⟨some d, .load t x, tt, pos, af, gd⟩ :: l) k e A :=
  hr.elim (fun ⟨_, h⟩ => RunL.loadA hx h ha hn hl hc hw hlt next) (fun h => RunL.loadNR hx h ha hn hl hc hw hlt next)
theorem sW' (xs : List Value) (hx : opv e x = some (.pointer (some ⟨b, 0, none⟩))) (hy : opv e y = some (.agg xs.toArray)) (hn : sizeIs c.P t = some n) (next : RunL c G ops l k e (row b T xs :: A')) (hf : Find (row b T cs) A A' := by first | ((repeat (first | (with_reducible exact F0 _) | apply F1)); done) | (repeat (first | exact F0 _ | apply F1))) (hv : xs.length = n := by rfl) (h1 : xs.all Value.isOne = true := by rfl) (hl : cs.length = n := by rfl)
    (hw : Wt ops e ⟨none, .store t x y, tt, pos, af, gd⟩ true := by first | exact Wt.none rfl | exact Wt.yes rfl rfl rfl) : RunL c G ops (⟨none, .store t x y, tt, pos, af, gd⟩ :: l) k e A := RunL.storeW hx hy hf hn hv h1 hl hw next
theorem ca' {f : FuncId} {args vs : List Value} {fst cap : Array Value} {fo : Operand} {xs : Array Operand} {ats : Array TypeId} {pre : List HProp} {post : Post} (hf : opv e fo = some (.func (.func f) fst cap)) (hxs : opvs e xs.toList = some vs) (hargs : (fst ++ vs.toArray ++ cap) = args.toArray := by rfl) (ht : Take pre A F := by repeat (first | (with_reducible exact Take.nil _) | (apply Take.cons (by first | ((repeat (first | (with_reducible exact F0 _) | apply F1)); done) | (repeat (first | exact F0 _ | apply F1)))))) (s : Ctr c.P G f args pre post)
    (hw : Wt ops e ⟨some d, .call ⟨.value fo, xs, ats⟩, tt, pos, af, gd⟩ true := by first | exact Wt.none rfl | exact Wt.yes rfl rfl rfl) (hlt : Nat.blt d c.fn.ntmps = true := by exact rfl)
    (q : ∀ v A', post F v A' → RunL c G ops l k ((d, v) :: e) A') :
    RunL c G ops (⟨some d, .call ⟨.value fo, xs, ats⟩, tt, pos, af, gd⟩ :: l) k e A := RunL.call hf hxs hargs ht s hw hlt q
theorem la' {P : Program} {f : FuncId} {fn : Func} {ds : List Deferred} {post : Post} {st : List Item} (Q : HProp) {R : Gp → Prop} (hl : Lends Q R)
    (next : ∀ G' : Gp, Gp.le G G' → R G' → Run ⟨P, f, fn, RR G' post F, ds⟩ G' st e A') (hf : Find Q A A' := by first | ((repeat (first | (with_reducible exact F0 _) | apply F1)); done) | (repeat (first | exact F0 _ | apply F1))) : Run ⟨P, f, fn, RR G post F, ds⟩ G st e A := Run.lendAll hl hf next
theorem lb' {st : List Item} (Q : HProp) {R : Gp → Prop} (hl : Lends Q R) (next : ∀ G' : Gp, Gp.le G G' → R G' → (∀ A' w', St G' A' w' → St G (Q :: A') w') → Run c G' st e A') (hf : Find Q A A' := by first | ((repeat (first | (with_reducible exact F0 _) | apply F1)); done) | (repeat (first | exact F0 _ | apply F1))) : Run c G st e A := Run.lendB hl hf next
theorem lB' (Q : HProp) {R : Gp → Prop} (hl : Lends Q R) (next : ∀ G' : Gp, Gp.le G G' → R G' → (∀ A' w', St G' A' w' → St G (Q :: A') w') → RunL c G' ops l k e A') (hf : Find Q A A' := by first | ((repeat (first | (with_reducible exact F0 _) | apply F1)); done) | (repeat (first | exact F0 _ | apply F1))) : RunL c G ops l k e A := RunL.lendB hl hf next
theorem ld' {listed : Array Bool} (Q : HProp) {R : Gp → Prop} (hl : Lends Q R) (next : ∀ G' : Gp, Gp.le G G' → R G' → (∀ A' w', St G' A' w' → St G (Q :: A') w') → RunD c G' ops n listed k e A') (hf : Find Q A A' := by first | ((repeat (first | (with_reducible exact F0 _) | apply F1)); done) | (repeat (first | exact F0 _ | apply F1))) : RunD c G ops n listed k e A := RunD.lend hl hf next
end
section
variable {P : Program} {f : FuncId} {fn : Func} {G : Gp} {post : Post} {F : List HProp} {k : List Item} {e : Env} {A A2 : List HProp} {v : Value}
theorem rt' (hf : P.funcs[f]? = some fn) (hr : ∀ a w, EnvOk (fn.ntmps, []) e a → St G A w → (results fn a.tmps).run P w = .ok v w) (hp : post F v A2) (ht : Fin F A2 A := by repeat (first | (with_reducible exact Fin.done (by repeat (first | (with_reducible exact Rest.here) | apply Rest.there))) | (apply Fin.cons (by first | ((repeat (first | (with_reducible exact F0 _) | apply F1)); done) | (repeat (first | exact F0 _ | apply F1)))))) : Run ⟨P, f, fn, RR G post F, []⟩ G (.code .ret :: k) e A := Run.ret hf hr hp ht
theorem fi' (hf : P.funcs[f]? = some fn) (hr : ∀ a w, EnvOk (fn.ntmps, []) e a → St G A w → (results fn a.tmps).run P w = .ok v w) (hp : post F v A2) (ht : Fin F A2 A := by repeat (first | (with_reducible exact Fin.done (by repeat (first | (with_reducible exact Rest.here) | apply Rest.there))) | (apply Fin.cons (by first | ((repeat (first | (with_reducible exact F0 _) | apply F1)); done) | (repeat (first | exact F0 _ | apply F1)))))) : Run ⟨P, f, fn, RR G post F, []⟩ G [] e A := Run.fin hf hr hp ht
variable {c : Cx}
theorem ag' (F : List HProp) {I : Nat → Env → List HProp → Prop} {n m : Nat} (ih : ∀ m e' A', m < n → I m e' A' → Run c G k e' A') (hI : I m e A2) (t : Fin F A2 A := by repeat (first | (with_reducible exact Fin.done (by repeat (first | (with_reducible exact Rest.here) | apply Rest.there))) | (apply Fin.cons (by first | ((repeat (first | (with_reducible exact F0 _) | apply F1)); done) | (repeat (first | exact F0 _ | apply F1)))))) (hlt : m < n := by omega) : Run c G k e A := Run.againF ih hI t hlt
theorem me' (F : List HProp) {M : Env → List HProp → Prop} (hk : ∀ e A, M e A → Run c G k e A) (hM : M e A2) (t : Fin F A2 A := by repeat (first | (with_reducible exact Fin.done (by repeat (first | (with_reducible exact Rest.here) | apply Rest.there))) | (apply Fin.cons (by first | ((repeat (first | (with_reducible exact F0 _) | apply F1)); done) | (repeat (first | exact F0 _ | apply F1)))))) : Run c G k e A := Run.meetF hk hM t
theorem lp' (F : List HProp) {x : Code} (I : Nat → Env → List HProp → Prop) (n : Nat) (h0 : I n e A2)
    (round : ∀ n e A, I n e A → (∀ m e' A', m < n → I m e' A' → Run c G (.inLoop x :: k) e' A') → Run c G (.code x :: .inLoop x :: k) e A) (t : Fin F A2 A := by repeat (first | (with_reducible exact Fin.done (by repeat (first | (with_reducible exact Rest.here) | apply Rest.there))) | (apply Fin.cons (by first | ((repeat (first | (with_reducible exact F0 _) | apply F1)); done) | (repeat (first | exact F0 _ | apply F1)))))) : Run c G (.code (.loop x) :: k) e A := Run.loopF I n h0 t round
end
section
variable {c : Cx} {G : Gp} {ops : Array Oper} {k : KT} {e : Env} {A : List HProp} {d n : Nat} {v : Value} {t tt : TypeId} {pos : String} {af : Array Edge} {gd : Option (Nat × Bool)} {x : Operand} {op : Op} {listed : Array Bool}
theorem dp' (i : Nat) (hok : regionOk ops = true) (hi : ops[i]? = some ⟨some d, op, tt, pos, af, gd⟩) (hp : Pure c.P e ⟨some d, op, tt, pos, af, gd⟩ v) (next : RunD c G ops n (listed.setIfInBounds i true) k ((d, v) :: e) A)
    (hr : (Region.ready .any ops listed).contains i = true := by kernel_rfl) (hw : Wt ops e ⟨some d, op, tt, pos, af, gd⟩ true := by first | exact Wt.none rfl | exact Wt.yes rfl rfl rfl) (hlt : Nat.blt d c.fn.ntmps = true := by exact rfl) (hds : c.ds = [] := by rfl) : RunD c G ops (n + 1) listed k e A := RunD.pure hok hi hr hp hw rfl hlt next hds
theorem dn' (i : Nat) (hok : regionOk ops = true) (hi : ops[i]? = some ⟨some d, op, tt, pos, af, gd⟩) (next : RunD c G ops n (listed.setIfInBounds i true) k ((d, undef) :: e) A)
    (hr : (Region.ready .any ops listed).contains i = true := by kernel_rfl) (hw : Wt ops e ⟨some d, op, tt, pos, af, gd⟩ false := by first | exact Wt.no rfl rfl rfl | exact Wt.un rfl rfl rfl) (hlt : Nat.blt d c.fn.ntmps = true := by exact rfl) (hds : c.ds = [] := by rfl) : RunD c G ops (n + 1) listed k e A := RunD.not hok hi hr rfl hlt hw next hds
theorem dl' (i : Nat) {b j : Nat} {T : TypeId} {cs : List Value} (hok : regionOk ops = true) (hi : ops[i]? = some ⟨some d, .load t x, tt, pos, af, gd⟩) (hx : opv e x = some (.pointer (some ⟨b, j, none⟩))) (ha : isAggOf c.P t = some false) (next : RunD c G ops n (listed.setIfInBounds i true) k ((d, v) :: e) A)
    (hr : (Region.ready .any ops listed).contains i = true := by kernel_rfl) (hro : Ro G b T cs := by assumption) (hc : cs[j]? = some v := by rfl) (hw : Wt ops e ⟨some d, .load t x, tt, pos, af, gd⟩ true := by first | exact Wt.none rfl | exact Wt.yes rfl rfl rfl) (hlt : Nat.blt d c.fn.ntmps = true := by exact rfl) (hds : c.ds = [] := by rfl) : RunD c G ops (n + 1) listed k e A := RunD.load1R hok hi hr hx hro hc ha hw hlt next hds
end
end Go.Proofs.YtaaondbmkibkkaaGreat.Csl

