/- Conversions, slicing, calls, returns, contracts. Nothing of a program stands here. -/
import Derived.Test.YtghmmjifmnmbgaaCsl5
import Derived.Lib.ConvBytes
set_option linter.unusedVariables false
set_option linter.unusedSimpArgs false
namespace Go.Proofs.Ytghmmjifmnmbgaa.Csl
open Go

theorem foldl_push (bs : List UInt8) : ∀ s : ByteArray, (bs.map fun b => (b.toNat : Int)).foldl (fun r n => r.push (UInt8.ofNat n.toNat)) s = ⟨s.data ++ bs.toArray⟩ := by
  induction bs with
  | nil => intro s; simp
  | cons b bs ih =>
    intro s
    simp only [List.map_cons, List.foldl_cons]
    rw [ih]
    have : (s.push (UInt8.ofNat (b.toNat : Int).toNat)).data = s.data.push b := by
      simp [ByteArray.push]
    rw [this]
    congr 1
    apply Array.ext'; simp
theorem run_bytesStr {P : Program} {w : World} {st dt E : TypeId} {a : Option Addr} {n cap : Nat} {bs : List UInt8} (hs : P.underlying st = some (.slice E)) (he : P.underlying E = some (.int .u8)) (hd : P.underlying dt = some .string)
    (h : Src P w 1 (.slice a n cap) n (bs.map bv)) : (convert st dt (.slice a n cap)).run P w = .ok (.string ⟨bs.toArray⟩) w := by
  rw [run_convert_bytes_string w st dt E a n cap hs he hd]
  have hn : bs.length = n := by have := h.2.2; simp at this; omega
  cases a with
  | none =>
    have := h.2.1 w rfl
    simp only [Builtin.firstCells, Sem.run_pure] at this
    have hb : bs = [] := by
      have h2 : (bs.map bv).toArray = #[] := by injection this with h2 _; exact h2.symm
      simpa using h2
    subst hb
    simp only [Conv.bytesToString, Sem.run_pure]; rfl
  | some ad =>
    have h1 := h.2.1 w rfl
    simp only [Builtin.firstCells, Nat.mul_one] at h1
    have h2 : (bs.map bv) = (bs.map fun b => (b.toNat : Int)).map (Value.int .u8) := by simp [bv]
    rw [h2] at h1
    rw [run_bytesToString w ad n cap _ h1, foldl_push]
    congr 3
    apply Array.ext'; simp

section
variable {c : Cx} {G : Gp} {ops : Array Oper} {k : KT} {e : Env} {A A' : List HProp} {l : List Oper}
variable {d : Nat} {tt st dt E : TypeId} {pos : String} {af : Array Edge} {gd : Option (Nat × Bool)} {x y : Operand}
theorem RunL.bytesStr {a : Option Addr} {n cap : Nat} {bs : List UInt8} (hx : opv e x = some (.slice a n cap)) (hs : c.P.underlying st = some (.slice E)) (he : c.P.underlying E = some (.int .u8)) (hd : c.P.underlying dt = some .string)
    (hsrc : ∀ w, St G A w → Src c.P w 1 (.slice a n cap) n (bs.map bv))
    (hw : Wt ops e ⟨some d, .convert st dt x, tt, pos, af, gd⟩ true) (hlt : Nat.blt d c.fn.ntmps = true) (next : RunL c G ops l k ((d, .string ⟨bs.toArray⟩) :: e) A) : RunL c G ops (⟨some d, .convert st dt x, tt, pos, af, gd⟩ :: l) k e A := by
  refine RunL.val (X := Unit) (v := fun _ => .string ⟨bs.toArray⟩) (A' := fun _ => A) hw rfl hlt (fun a w h s => ⟨(), w, ?_, s⟩) (fun _ => next)
  have h1 := h.opv hx
  generalize a.eval = ρ at h1 ⊢
  simp only [execOp, h1, Sem.run_bind, run_bytesStr hs he hd (hsrc w s), Result.andThen_ok, Sem.run_pure]
theorem RunL.strBytes {s : ByteArray} {u : TypeDesc} (hx : opv e x = some (.string s)) (hs : c.P.underlying st = some u) (hd : c.P.underlying dt = some (.slice E)) (he : c.P.underlying E = some (.int .u8))
    (hw : Wt ops e ⟨some d, .convert st dt x, tt, pos, af, gd⟩ true) (hlt : Nat.blt d c.fn.ntmps = true)
    (next : ∀ a cap, RunL c G ops l k ((d, .slice a s.size cap) :: e) (Sl E 1 a s.size cap (s.data.toList.map bv) :: A)) : RunL c G ops (⟨some d, .convert st dt x, tt, pos, af, gd⟩ :: l) k e A := by
  refine RunL.val (X := Option Addr × Nat) (v := fun q => .slice q.1 s.size q.2) (A' := fun q => Sl E 1 q.1 s.size q.2 (s.data.toList.map bv) :: A) hw rfl hlt (fun a w h sx => ?_) (fun q => next q.1 q.2)
  have h1 := h.opv hx
  generalize a.eval = ρ at h1 ⊢
  refine ⟨(some ⟨w.heap.size, 0, none⟩, grownCap w s.size 0 E), Lib.bytesWorld w E s, ?_, ?_⟩
  · simp only [execOp, h1, Sem.run_bind, Lib.run_convert_string_bytes w st dt E s hs hd he, Result.andThen_ok, Sem.run_pure]
  · have hnew := Lib.bytesWorld_at_new w E s
    have hs2 := sx.pt_new (w' := Lib.bytesWorld w E s) hnew (fun c hc => Lib.bytesWorld_at_old w E s c hc) (by simp [Alike3, Lib.bytesWorld, World.freeze, World.alloc, World.drew, -World.alloc_eq, -World.drew_eq])
    have hcells : Lib.bytesCells w E s = ([] ++ s.data.toList.map bv ++ List.replicate (grownCap w s.size 0 E - s.size) (Value.int .u8 0)).toArray := by
      apply Array.ext'; simp [Lib.bytesCells, bv]
    rw [hcells] at hs2
    have hge : s.size ≤ grownCap w s.size 0 E := by
      unfold grownCap; simp only [Question.cut]; omega
    refine St.Sl_mk (pre := []) (by simp) hge (by simp) (St.mkrow (fz := _) ?_ hs2)
    right; simp
end

/-! ### Slicing -/
section
variable {P : Program} {e : Env} {d : Option Tmp} {t tt : TypeId} {pos : String} {af : Array Edge} {gd : Option (Nat × Bool)} {x y z : Operand}
theorem run_sliceBound {w : World} {kk : IntKind} {i : Int} {y : Nat} {code : BoundsCode} (h0 : 0 ≤ i) (h1 : i ≤ y) : (Instr.sliceBound (.int kk i) y code).run P w = .ok i.toNat w := by
  simp [Instr.sliceBound, asIntOf, h0, h1]
/-- s[i:j] of a text. -/
theorem Pure.sliceStr {s : ByteArray} {k1 k2 : IntKind} {i j : Int} (hx : opv e x = some (.string s)) (hy : opv e y = some (.int k1 i)) (hz : opv e z = some (.int k2 j)) (ht : P.underlying t = some .string)
    (h0 : 0 ≤ i) (h1 : i ≤ j) (h2 : j ≤ s.size) : Pure P e ⟨d, .slice t x (some y) (some z) none, tt, pos, af, gd⟩ (.string (s.extract i.toNat j.toNat)) := fun ρ w ho => by
  have e1 := ho _ _ hx; have e2 := ho _ _ hy; have e3 := ho _ _ hz
  simp only [execOp, e1, Instr.sliceAt, Option.map_some, e2, e3, Option.map_none, Sem.run_bind, run_underlying ht, Result.andThen_ok, Instr.slice]
  simp only [Instr.sliceBounds, Sem.run_bind, Option.isSome_none, Bool.false_eq_true, if_false, Sem.run_pure, Result.andThen_ok, run_sliceBound (P := P) (w := w) (kk := k2) (code := .sliceAlen) (by omega : 0 ≤ j) h2]
  rw [run_sliceBound h0 (by omega)]
  simp
/-- s[i:] of a text. -/
theorem Pure.sliceStrFrom {s : ByteArray} {k1 : IntKind} {i : Int} (hx : opv e x = some (.string s)) (hy : opv e y = some (.int k1 i)) (ht : P.underlying t = some .string)
    (h0 : 0 ≤ i) (h1 : i ≤ s.size) : Pure P e ⟨d, .slice t x (some y) none none, tt, pos, af, gd⟩ (.string (s.extract i.toNat s.size)) := fun ρ w ho => by
  have e1 := ho _ _ hx; have e2 := ho _ _ hy
  simp only [execOp, e1, Instr.sliceAt, Option.map_some, e2, Option.map_none, Sem.run_bind, run_underlying ht, Result.andThen_ok, Instr.slice]
  simp only [Instr.sliceBounds, Sem.run_bind, Option.isSome_none, Bool.false_eq_true, if_false, Sem.run_pure, Result.andThen_ok]
  rw [run_sliceBound h0 h1]
  simp
/-- s[:j] of a text. -/
theorem Pure.sliceStrTo {s : ByteArray} {k2 : IntKind} {j : Int} (hx : opv e x = some (.string s)) (hz : opv e z = some (.int k2 j)) (ht : P.underlying t = some .string)
    (h0 : 0 ≤ j) (h2 : j ≤ s.size) : Pure P e ⟨d, .slice t x none (some z) none, tt, pos, af, gd⟩ (.string (s.extract 0 j.toNat)) := fun ρ w ho => by
  have e1 := ho _ _ hx; have e3 := ho _ _ hz
  simp only [execOp, e1, Instr.sliceAt, Option.map_some, e3, Option.map_none, Sem.run_bind, run_underlying ht, Result.andThen_ok, Instr.slice]
  simp only [Instr.sliceBounds, Sem.run_bind, Option.isSome_none, Bool.false_eq_true, if_false, Sem.run_pure, Result.andThen_ok, run_sliceBound (P := P) (w := w) (kk := k2) (code := .sliceAlen) h0 h2]
/-- Where the cut slice begins. -/
def cutAt (a : Option Addr) (l m sz : Nat) : Option Addr := if m = l then a else a.map (·.add (l * sz))
theorem run_sliceSl {w : World} {E : TypeId} {sz : Nat} {a : Option Addr} {n cap : Nat} {lo hi mx : Option Value} {l h m : Nat} (ht : P.underlying t = some (.slice E)) (hs : sizeIs P E = some sz)
    (hb : (Instr.sliceBounds true n cap lo hi mx).run P w = .ok (l, h, m) w) : (Instr.sliceAt t (.slice a n cap) lo hi mx).run P w = .ok (.slice (cutAt a l m sz) (h - l) (m - l)) w := by
  simp only [Instr.sliceAt, Sem.run_bind, run_underlying ht, Result.andThen_ok, Instr.slice, hb, run_sizeOf hs, Sem.run_pure, cutAt]
theorem Pure.sliceTo {E : TypeId} {sz : Nat} {a : Option Addr} {n cap : Nat} {k2 : IntKind} {j : Int} (hx : opv e x = some (.slice a n cap)) (hz : opv e z = some (.int k2 j)) (ht : P.underlying t = some (.slice E)) (hs : sizeIs P E = some sz)
    (h0 : 0 ≤ j) (h2 : j ≤ cap) : Pure P e ⟨d, .slice t x none (some z) none, tt, pos, af, gd⟩ (.slice a j.toNat cap) := fun ρ w ho => by
  have e1 := ho _ _ hx; have e3 := ho _ _ hz
  simp only [execOp, e1, Option.map_some, e3, Option.map_none, Sem.run_bind]
  rw [run_sliceSl ht hs (l := 0) (h := j.toNat) (m := cap) (by simp [Instr.sliceBounds, run_sliceBound h0 h2])]
  have : cutAt a 0 cap sz = a := by
    unfold cutAt; split
    · rfl
    · cases a with
      | none => rfl
      | some a => simp [Addr.add]
  simp [this]
theorem Pure.sliceTo3 {E : TypeId} {sz : Nat} {a : Option Addr} {n cap : Nat} {k2 k3 : IntKind} {j m : Int} {u : Operand} (hx : opv e x = some (.slice a n cap)) (hz : opv e z = some (.int k2 j)) (hu : opv e u = some (.int k3 m)) (ht : P.underlying t = some (.slice E)) (hs : sizeIs P E = some sz)
    (h0 : 0 ≤ j) (h1 : j ≤ m) (h2 : m ≤ cap) : Pure P e ⟨d, .slice t x none (some z) (some u), tt, pos, af, gd⟩ (.slice a j.toNat m.toNat) := fun ρ w ho => by
  have e1 := ho _ _ hx; have e3 := ho _ _ hz; have e4 := ho _ _ hu
  simp only [execOp, e1, Option.map_some, e3, e4, Option.map_none, Sem.run_bind]
  rw [run_sliceSl ht hs (l := 0) (h := j.toNat) (m := m.toNat) (by simp [Instr.sliceBounds, run_sliceBound (P := P) (w := w) (kk := k3) (code := .slice3Acap) (by omega : 0 ≤ m) h2, run_sliceBound (P := P) (w := w) (kk := k2) (code := .slice3B) h0 (by omega : j ≤ (m.toNat : Nat))])]
  have : cutAt a 0 m.toNat sz = a := by
    unfold cutAt; split
    · rfl
    · cases a with
      | none => rfl
      | some a => simp [Addr.add]
  simp [this]
theorem Pure.sliceFrom {E : TypeId} {sz : Nat} {a : Option Addr} {n cap : Nat} {k1 : IntKind} {i : Int} (hx : opv e x = some (.slice a n cap)) (hy : opv e y = some (.int k1 i)) (ht : P.underlying t = some (.slice E)) (hs : sizeIs P E = some sz)
    (h0 : 0 ≤ i) (h2 : i ≤ n) : Pure P e ⟨d, .slice t x (some y) none none, tt, pos, af, gd⟩ (.slice (cutAt a i.toNat cap sz) (n - i.toNat) (cap - i.toNat)) := fun ρ w ho => by
  have e1 := ho _ _ hx; have e3 := ho _ _ hy
  simp only [execOp, e1, Option.map_some, e3, Option.map_none, Sem.run_bind]
  rw [run_sliceSl ht hs (l := i.toNat) (h := n) (m := cap) (by simp [Instr.sliceBounds, run_sliceBound h0 h2])]
  rfl
theorem Pure.sliceMid {E : TypeId} {sz : Nat} {a : Option Addr} {n cap : Nat} {k1 k2 : IntKind} {i j : Int} (hx : opv e x = some (.slice a n cap)) (hy : opv e y = some (.int k1 i)) (hz : opv e z = some (.int k2 j)) (ht : P.underlying t = some (.slice E)) (hs : sizeIs P E = some sz)
    (h0 : 0 ≤ i) (h1 : i ≤ j) (h2 : j ≤ cap) : Pure P e ⟨d, .slice t x (some y) (some z) none, tt, pos, af, gd⟩ (.slice (cutAt a i.toNat cap sz) (j.toNat - i.toNat) (cap - i.toNat)) := fun ρ w ho => by
  have e1 := ho _ _ hx; have e3 := ho _ _ hy; have e4 := ho _ _ hz
  simp only [execOp, e1, Option.map_some, e3, e4, Option.map_none, Sem.run_bind]
  rw [run_sliceSl ht hs (l := i.toNat) (h := j.toNat) (m := cap) (by simp [Instr.sliceBounds, run_sliceBound (P := P) (w := w) (kk := k2) (code := .sliceAcap) (by omega : 0 ≤ j) h2, run_sliceBound (P := P) (w := w) (kk := k1) (code := .sliceB) h0 (by omega : i ≤ (j.toNat : Nat))])]
  simp
end

/-! ### Contracts and calls -/
def Callable (P : Program) (f : FuncId) : Prop := ∃ fn, P.funcs[f]? = some fn ∧ (fn.name == "runtime.NumGoroutine") = false ∧ fn.body.isNone = false
abbrev Post := List HProp → Value → List HProp → Prop
/-- What a call of a function comes to: 'pre' is owned; 'post F v A' tells of the value 'v' and of all that is owned behind, 'F' being what the call did not touch. -/
def Ctr (P : Program) (G : Gp) (f : FuncId) (args : List Value) (pre : List HProp) (post : Post) : Prop :=
  Callable P f ∧ ∀ F w, St G (pre ++ F) w → Calls P f args.toArray w fun e w' => ∃ v A, e = .returned v ∧ post F v A ∧ St G A w'

def RR (G : Gp) (post : Post) (F : List HProp) (e : Ending) (w' : World) : Prop := ∃ v A, e = .returned v ∧ post F v A ∧ St G A w'
def par : Nat → List Value → Env
  | _, [] => []
  | i, v :: vs => (i, v) :: par (i + 1) vs
theorem lk_par : ∀ (vs : List Value) (i j : Nat) (v : Value), lk (par i vs) j = some v → i ≤ j ∧ vs[j - i]? = some v
  | [], i, j, v, h => by simp [par, lk] at h
  | u :: vs, i, j, v, h => by
    simp only [par, lk] at h
    split at h
    · rename_i hb; have hb := Nat.eq_of_beq_eq_true hb; cases h; subst hb; exact ⟨Nat.le_refl _, by simp⟩
    · rename_i hb
      obtain ⟨h1, h2⟩ := lk_par vs (i + 1) j v h
      refine ⟨by omega, ?_⟩
      rw [show j - i = (j - (i + 1)) + 1 from by omega, List.getElem?_cons_succ]; exact h2
theorem Ctr.intro {P : Program} {G : Gp} {f : FuncId} {fn : Func} {cd : Code} {args : List Value} {pre : List HProp} {post : Post}
    (hf : P.funcs[f]? = some fn) (hb : fn.body = some cd) (hn : (fn.name == "runtime.NumGoroutine") = false) (hl : Nat.ble args.length fn.ntmps = true)
    (h : ∀ F, Run ⟨P, f, fn, RR G post F, []⟩ G [.code cd] (par 0 args) (pre ++ F)) : Ctr P G f args pre post := by
  refine ⟨⟨fn, hf, hn, by rw [hb]; rfl⟩, fun F w s => Calls.of_ok hf hb (h F _ _ ⟨rfl, by have := Nat.le_of_ble_eq_true hl; simp; omega, fun i v hi => ?_⟩ s)⟩
  obtain ⟨_, h2⟩ := lk_par args 0 i v hi
  simp only [Nat.sub_zero] at h2
  have hlt : i < args.length := by
    rcases Nat.lt_or_ge i args.length with x | x
    · exact x
    · rw [List.getElem?_eq_none x] at h2; cases h2
  rw [Array.getElem?_append_left (by simpa using hlt)]
  simpa using h2
theorem Ctr.mono {P : Program} {G : Gp} {f : FuncId} {args : List Value} {pre : List HProp} {post post' : Post} (h : Ctr P G f args pre post) (i : ∀ F v A, post F v A → post' F v A) : Ctr P G f args pre post' :=
  ⟨h.1, fun F w s => (h.2 F w s).mono fun e w' ⟨v, A, e1, p, s'⟩ => ⟨v, A, e1, i F v A p, s'⟩⟩

/-- The frame's rest: what is dropped at the end. -/
inductive Rest (F : List HProp) : List HProp → Prop
  | here : Rest F F
  | there {p : HProp} {A : List HProp} (r : Rest F A) : Rest F (p :: A)
theorem St.rest {G : Gp} {F : List HProp} {w : World} {A : List HProp} (r : Rest F A) : St G A w → St G F w := by
  induction r with
  | here => exact id
  | there r ih => intro s; exact ih s.drop
/-- 'A2' is some of the atoms of 'A' in front of 'F'. -/
inductive Fin (F : List HProp) : List HProp → List HProp → Prop
  | done {B : List HProp} (r : Rest F B) : Fin F F B
  | cons {p : HProp} {A B A2 : List HProp} (f : Find p A B) (t : Fin F A2 B) : Fin F (p :: A2) A
theorem Fin.st {F A2 A : List HProp} (t : Fin F A2 A) : ∀ {G : Gp} {w : World}, St G A w → St G A2 w := by
  induction t with
  | done r => exact fun s => s.rest r
  | cons f t ih =>
    rintro G w s
    obtain ⟨h, g, s1, d, h1, h2, d', rfl, p, a⟩ := s.find f
    have ss := (Hp.sub_join d').1 s1
    have dd := Hp.disj_join.1 d
    -- the rest is changed with the first atom's part lent
    have s2 : St (Gp.join G h1) _ w := ⟨h2, ⟨(Hp.sub_join dd.1).2 ⟨g.1, ss.1⟩, g.2⟩, ss.2, Hp.join_disj.2 ⟨dd.2, d'⟩, a⟩
    obtain ⟨h3, g3, s3, d3, a3⟩ := ih s2
    have d4 := Hp.join_disj.1 d3
    exact ⟨Hp.join h1 h3, g, (Hp.sub_join d4.2).2 ⟨ss.1, s3⟩, Hp.disj_join.2 ⟨dd.1, d4.1⟩, h1, h3, d4.2, rfl, p, a3⟩
/-- The same atoms in another row, some of them dropped: for a loop's head, a cut. -/
theorem Run.fit {c : Cx} {G : Gp} {k : List Item} {e : Env} {F A A2 : List HProp} (t : Fin F A2 A) (r : Run c G k e A2) : Run c G k e A := fun a w h s => r a w h (t.st s)

section
variable {P : Program} {f : FuncId} {fn : Func} {G : Gp} {post : Post} {F : List HProp} {k : List Item} {e : Env} {A B A2 : List HProp} {ds : List Deferred}
theorem Run.ret {v : Value} (hf : P.funcs[f]? = some fn) (hr : ∀ a w, EnvOk (fn.ntmps, []) e a → St G A w → (results fn a.tmps).run P w = .ok v w) (hp : post F v A2) (ht : Fin F A2 A) :
    Run ⟨P, f, fn, RR G post F, []⟩ G (.code .ret :: k) e A := fun a w h s => Ok.ret hf h.1 (hr a w h s) ⟨v, A2, rfl, hp, ht.st s⟩
theorem Run.fin {v : Value} (hf : P.funcs[f]? = some fn) (hr : ∀ a w, EnvOk (fn.ntmps, []) e a → St G A w → (results fn a.tmps).run P w = .ok v w) (hp : post F v A2) (ht : Fin F A2 A) :
    Run ⟨P, f, fn, RR G post F, []⟩ G [] e A := fun a w h s => Ok.fin hf h.1 (hr a w h s) ⟨v, A2, rfl, hp, ht.st s⟩
theorem getD_lk {n : Nd} {t : Nat} {a : Act} {v : Value} (h : EnvOk n e a) (hv : lk e t = some v) : a.tmps.getD t undef = v := by
  have := h.2.2 t v hv
  simp [Array.getD_eq_getD_getElem?, this]
theorem res0 (hr : fn.results = #[]) : ∀ a w, EnvOk (fn.ntmps, ds) e a → St G A w → (results fn a.tmps).run P w = .ok (.tuple #[]) w := fun a w _ _ => results_none hr _ _ _
theorem res1 {t : Nat} {v : Value} (hr : fn.results = #[.tmp t]) (hv : lk e t = some v) : ∀ a w, EnvOk (fn.ntmps, ds) e a → St G A w → (results fn a.tmps).run P w = .ok v w := fun a w h _ => by
  rw [results_tmp hr, getD_lk h hv]
theorem res2 {t u : Nat} {v1 v2 : Value} (hr : fn.results = #[.tmp t, .tmp u]) (h1 : lk e t = some v1) (h2 : lk e u = some v2) : ∀ a w, EnvOk (fn.ntmps, ds) e a → St G A w → (results fn a.tmps).run P w = .ok (.tuple #[v1, v2]) w := fun a w h _ => by
  rw [results_tmp2 hr, getD_lk h h1, getD_lk h h2]
theorem res3 {t u q : Nat} {v1 v2 v3 : Value} (hr : fn.results = #[.tmp t, .tmp u, .tmp q]) (h1 : lk e t = some v1) (h2 : lk e u = some v2) (h3 : lk e q = some v3) : ∀ a w, EnvOk (fn.ntmps, ds) e a → St G A w → (results fn a.tmps).run P w = .ok (.tuple #[v1, v2, v3]) w := fun a w h _ => by
  have x1 := getD_lk h h1; have x2 := getD_lk h h2; have x3 := getD_lk h h3
  simp [results, hr, x1, x2, x3]
  simp [Array.getD_eq_getD_getElem?] at x1 x2 x3
  simp [x1, x2, x3]
end

theorem run_callFunc {P : Program} {f : FuncId} (h : Callable P f) (args : Array Value) (w : World) : (callFunc f args).run P w = .ok (.enter f args) w := by
  obtain ⟨fn, h1, h2, h3⟩ := h
  simp only [callFunc, Sem.run_bind, run_program, Result.andThen_ok, h1, h2, h3, Bool.false_eq_true, if_false, Sem.run_pure]

section
variable {c : Cx} {G : Gp} {ops : Array Oper} {k : KT} {e : Env} {A F : List HProp} {l : List Oper}
variable {tt : TypeId} {pos : String} {af : Array Edge} {gd : Option (Nat × Bool)} {fo : Operand} {xs : Array Operand} {ats : Array TypeId}
variable {f : FuncId} {fst cap : Array Value} {vs : List Value} {pre : List HProp} {post : Post}
/-- A call, by the callee's contract. -/
theorem RunL.callG {dd : Option Tmp} {args : List Value} (hf : opv e fo = some (.func (.func f) fst cap)) (hxs : opvs e xs.toList = some vs) (hargs : (fst ++ vs.toArray ++ cap) = args.toArray) (ht : Take pre A F) (hs : Ctr c.P G f args pre post)
    (hw : Wt ops e ⟨dd, .call ⟨.value fo, xs, ats⟩, tt, pos, af, gd⟩ true)
    (next : ∀ v A', post F v A' → ∀ a w, EnvOk c.nd e a → St G A' w → wpList c.P ops (QOk c.P c.f c.fn c.ds c.R k) l (a.put dd v) w) :
    RunL c G ops (⟨dd, .call ⟨.value fo, xs, ats⟩, tt, pos, af, gd⟩ :: l) k e A := by
  intro a w h s
  unfold wpList
  rw [if_pos (hw _ a h)]
  refine .inl ?_
  unfold Oper.wp
  have e1 := h.opv hf
  have e2 := h.opvs hxs
  have e3 : xs.map a.eval = vs.toArray := by rw [← e2, List.map_toArray, Array.toArray_toList]
  have hr : (execOp a.eval ⟨dd, .call ⟨.value fo, xs, ats⟩, tt, pos, af, gd⟩).run c.P w = .ok (.enter f args.toArray) w := by
    have h1 := run_callFunc hs.1 (fst ++ vs.toArray ++ cap) w
    generalize a.eval = ρ at e1 e3 ⊢
    simp only [execOp, resolve, e1, e3, Deferred.ofValue, Sem.run_bind, Sem.run_pure, Result.andThen_ok, invoke, h1]
    rw [hargs]
  rw [hr, Oper.upon_enter]
  refine (hs.2 F w (s.perm ht.perm)).mono ?_
  rintro en w' ⟨v, A', rfl, hp, s'⟩
  exact next v A' hp a w' h s'
theorem RunL.call {d : Nat} {args : List Value} (hf : opv e fo = some (.func (.func f) fst cap)) (hxs : opvs e xs.toList = some vs) (hargs : (fst ++ vs.toArray ++ cap) = args.toArray) (ht : Take pre A F) (hs : Ctr c.P G f args pre post)
    (hw : Wt ops e ⟨some d, .call ⟨.value fo, xs, ats⟩, tt, pos, af, gd⟩ true) (hlt : Nat.blt d c.fn.ntmps = true)
    (next : ∀ v A', post F v A' → RunL c G ops l k ((d, v) :: e) A') :
    RunL c G ops (⟨some d, .call ⟨.value fo, xs, ats⟩, tt, pos, af, gd⟩ :: l) k e A :=
  RunL.callG hf hxs hargs ht hs hw fun v A' hp a w h s => next v A' hp _ _ (h.put (blt_lt hlt)) s
theorem RunL.call0 {args : List Value} (hf : opv e fo = some (.func (.func f) fst cap)) (hxs : opvs e xs.toList = some vs) (hargs : (fst ++ vs.toArray ++ cap) = args.toArray) (ht : Take pre A F) (hs : Ctr c.P G f args pre post)
    (hw : Wt ops e ⟨none, .call ⟨.value fo, xs, ats⟩, tt, pos, af, gd⟩ true)
    (next : ∀ v A', post F v A' → RunL c G ops l k e A') :
    RunL c G ops (⟨none, .call ⟨.value fo, xs, ats⟩, tt, pos, af, gd⟩ :: l) k e A :=
  RunL.callG hf hxs hargs ht hs hw fun v A' hp a w h s => next v A' hp _ _ h s
end

/-! ### Lending to a call -/
theorem Gp.le_join {G : Gp} {K : Hp} : Gp.le G (Gp.join G K) := ⟨fun _ _ h => Hp.join_left h, fun w s => ⟨fun b o h => s.1 b o (Hp.join_left h), s.2⟩⟩
theorem Gp.le_refl (G : Gp) : Gp.le G G := ⟨fun _ _ h => h, fun _ h => h⟩
theorem Gp.le.trans {G1 G2 G3 : Gp} (h : Gp.le G1 G2) (h' : Gp.le G2 G3) : Gp.le G1 G3 := ⟨fun b o x => h'.at_ b o (h.at_ b o x), fun w s => h.sub w (h'.sub w s)⟩
theorem Ro.mono {G G' : Gp} {b : Nat} {T : TypeId} {cs : List Value} (h : Gp.le G G') (r : Ro G b T cs) : Ro G' b T cs := by
  obtain ⟨fz, r⟩ := r; exact ⟨fz, h.at_ _ _ r⟩
theorem SlR.mono {G G' : Gp} {T : TypeId} {sz : Nat} {a : Option Addr} {n : Nat} {cs : List Value} (h : Gp.le G G') (r : SlR G T sz a n cs) : SlR G' T sz a n cs := by
  rcases r with r | ⟨b, T', pre, post, h1, h2, h3⟩
  · exact .inl r
  · exact .inr ⟨b, T', pre, post, h1, h2, h3.mono h⟩
/-- An atom 'Q' that may be lent: what is known of it while it is. -/
def Lends (Q : HProp) (R : Gp → Prop) : Prop := ∀ (G : Gp) (A : List HProp) (w : World), St G (Q :: A) w → ∃ K, R (Gp.join G K) ∧ St (Gp.join G K) A w ∧ ∀ A' w', St (Gp.join G K) A' w' → St G (Q :: A') w'
theorem Lends.Sl {T : TypeId} {sz : Nat} {a : Option Addr} {n cap : Nat} {cs : List Value} : Lends (Sl T sz a n cap cs) (fun G => SlR G T sz a n cs ∧ n ≤ cap) := fun G A w s => by
  obtain ⟨K, s1, r, back⟩ := s.lend_Sl
  exact ⟨K, ⟨r, s.Sl_length.2⟩, s1, back⟩
theorem Lends.row {b : Nat} {T : TypeId} {cs : List Value} : Lends (row b T cs) (fun G => Ro G b T cs) := fun G A w s => by
  obtain ⟨fz, hz, hn, s1⟩ := s.lend_row
  exact ⟨_, Ro.one hn, s1, fun A' w' s' => St.mkrow hz (s'.back hn)⟩
/-- A contract that only reads 'Q' may be lent it. -/
theorem Ctr.lend {P : Program} {G : Gp} {f : FuncId} {args : List Value} {pre : List HProp} {post : Post} {Q : HProp} {R : Gp → Prop} (hl : Lends Q R) (hc : Callable P f)
    (hs : ∀ G', Gp.le G G' → R G' → Ctr P G' f args pre post) : Ctr P G f args (Q :: pre) (fun F v A => ∃ A', A = Q :: A' ∧ post F v A') := by
  refine ⟨hc, fun F w s => ?_⟩
  obtain ⟨K, hR, s1, back⟩ := hl G _ _ s
  refine ((hs _ Gp.le_join hR).2 F w s1).mono ?_
  rintro en w' ⟨v, A', rfl, hp, s'⟩
  exact ⟨v, Q :: A', rfl, ⟨A', rfl, hp⟩, back _ _ s'⟩

/-! ### Loops and cuts -/
theorem Run.loopR {c : Cx} {G : Gp} {k : List Item} {e : Env} {A : List HProp} {x : Code} (I : Nat → Env → List HProp → Prop) (n : Nat) (h0 : I n e A)
    (round : ∀ n e A, I n e A → (∀ m e' A', m < n → I m e' A' → Run c G (.inLoop x :: k) e' A') → Run c G (.code x :: .inLoop x :: k) e A) : Run c G (.code (.loop x) :: k) e A := by
  have key : ∀ n e A, I n e A → Run c G (.code x :: .inLoop x :: k) e A := by
    intro n
    induction n using Nat.strongRecOn with
    | _ n ih => intro e A h; exact round n e A h fun m e' A' hlt h' => (ih m hlt e' A' h').inLoop
  exact (key n e A h0).loop0
theorem Run.cut {c : Cx} {G : Gp} {k : List Item} {e : Env} {A : List HProp} {i : Item} (M : Env → List HProp → Prop) (hk : ∀ e A, M e A → Run c G k e A) (h : (∀ e A, M e A → Run c G k e A) → Run c G (i :: k) e A) : Run c G (i :: k) e A := h hk
end Go.Proofs.Ytghmmjifmnmbgaa.Csl
