/- Short forms for the scripts. Nothing of a program stands here. -/
import Derived.Test.YtghmmjifmnmbgaaCsl7
set_option linter.unusedVariables false
set_option linter.unusedSimpArgs false
namespace Go.Proofs.Ytghmmjifmnmbgaa.Csl
open Go

section
variable {c : Cx} {G : Gp} {ops : Array Oper} {k : KT} {e : Env} {A A' : List HProp} {l : List Oper} {st : List Item}
variable {d : Nat} {t tt : TypeId} {pos : String} {af : Array Edge} {gd : Option (Nat × Bool)} {x y : Operand} {v : Value}
theorem Run.sr {id : Nat} {l : List Oper} {z : Code} (r : RunL c G l.toArray l (Ok c.P c.f c.R (.code z :: st)) e A) : Run c G (.code (.seq (.region id l.toArray false) z) :: st) e A := Run.seq (Run.region r)
theorem RunL.mv (hx : opv e x = some v) (hlt : Nat.blt d c.fn.ntmps = true) (next : RunL c G ops l k ((d, v) :: e) A) : RunL c G ops (⟨some d, .move x, tt, pos, af, none⟩ :: l) k e A := RunL.pure (Pure.move hx) (Wt.none rfl) rfl hlt next
theorem RunL.as (hx : opv e x = some v) (hlt : Nat.blt d c.fn.ntmps = true) (next : RunL c G ops l k ((d, v) :: e) A) : RunL c G ops (⟨some d, .assign x, tt, pos, af, none⟩ :: l) k e A := RunL.pure (Pure.assign hx) (Wt.none rfl) rfl hlt next
end
section
variable {P : Program} {e : Env} {d : Option Tmp} {t tt : TypeId} {pos : String} {af : Array Edge} {gd : Option (Nat × Bool)} {x y : Operand}
theorem Pure.convId {k k' : IntKind} {a : Int} {st dt : TypeId} {sd : TypeDesc} (hs : P.underlying st = some sd) (hd : P.underlying dt = some (.int k')) (hx : opv e x = some (.int k a)) (h : k'.wrap a = a) : Pure P e ⟨d, .convert st dt x, tt, pos, af, gd⟩ (.int k' a) := by
  have := Pure.convInt (P := P) (d := d) (t := tt) (pos := pos) (af := af) (gd := gd) hs hd hx
  rw [h] at this; exact this
theorem Pure.addK {k : IntKind} {a b : Int} {xt yt : TypeId} (hx : opv e x = some (.int k a)) (hy : opv e y = some (.int k b)) (h : k.wrap (a + b) = a + b) : Pure P e ⟨d, .binOp .add xt x y yt, t, pos, af, gd⟩ (.int k (a + b)) := by
  have := Pure.add (P := P) (d := d) (t := t) (pos := pos) (af := af) (gd := gd) (xt := xt) (yt := yt) hx hy
  rw [h] at this; exact this
theorem run_equalIn_bool {w : World} {t : TypeId} {a b : Bool} (n : Nat) (hu : P.underlying t = some .bool) : (Op.equalIn (n + 1) t (.bool a) (.bool b)).run P w = .ok (a == b) w := by
  simp only [Op.equalIn, Sem.run_bind, run_underlying hu, Result.andThen_ok, Sem.run_pure]
theorem run_equalIn_nil {w : World} {t E : TypeId} {ad : Addr} (n : Nat) (hu : P.underlying t = some (.pointer E)) : (Op.equalIn (n + 1) t (.pointer (some ad)) (.pointer none)).run P w = .ok false w := by
  simp only [Op.equalIn, Sem.run_bind, run_underlying hu, Result.andThen_ok, Sem.run_pure]
theorem run_equal_bool {w : World} {t : TypeId} {a b : Bool} (hu : P.underlying t = some .bool) : (Op.equal t (.bool a) (.bool b)).run P w = .ok (a == b) w := run_equalIn_bool 9999 hu
theorem run_equal_nil {w : World} {t E : TypeId} {ad : Addr} (hu : P.underlying t = some (.pointer E)) : (Op.equal t (.pointer (some ad)) (.pointer none)).run P w = .ok false w := run_equalIn_nil 9999 hu
theorem Pure.beql {a b : Bool} {xt yt : TypeId} (hx : opv e x = some (.bool a)) (hy : opv e y = some (.bool b)) (hu : P.underlying xt = some .bool) : Pure P e ⟨d, .binOp .eql xt x y yt, t, pos, af, gd⟩ (.bool (a == b)) := fun ρ w ho => by
  have h1 := ho _ _ hx; have h2 := ho _ _ hy
  simp only [execOp, h1, h2, eqGuard, binOp]
  simp [run_equal_bool hu]
theorem Pure.bneq {a b : Bool} {xt yt : TypeId} (hx : opv e x = some (.bool a)) (hy : opv e y = some (.bool b)) (hu : P.underlying xt = some .bool) : Pure P e ⟨d, .binOp .neq xt x y yt, t, pos, af, gd⟩ (.bool (!(a == b))) := fun ρ w ho => by
  have h1 := ho _ _ hx; have h2 := ho _ _ hy
  simp only [execOp, h1, h2, eqGuard, binOp]
  simp [run_equal_bool hu]
/-- A pointer that is none, against nil. -/
theorem Pure.ptrEqNil {ad : Addr} {xt yt E : TypeId} (hx : opv e x = some (.pointer (some ad))) (hy : opv e y = some (.pointer none)) (hu : P.underlying xt = some (.pointer E)) : Pure P e ⟨d, .binOp .eql xt x y yt, t, pos, af, gd⟩ (.bool false) := fun ρ w ho => by
  have h1 := ho _ _ hx; have h2 := ho _ _ hy
  simp only [execOp, h1, h2, eqGuard, binOp]
  simp [run_equal_nil hu]
theorem Pure.ptrNeNil {ad : Addr} {xt yt E : TypeId} (hx : opv e x = some (.pointer (some ad))) (hy : opv e y = some (.pointer none)) (hu : P.underlying xt = some (.pointer E)) : Pure P e ⟨d, .binOp .neq xt x y yt, t, pos, af, gd⟩ (.bool true) := fun ρ w ho => by
  have h1 := ho _ _ hx; have h2 := ho _ _ hy
  simp only [execOp, h1, h2, eqGuard, binOp]
  simp [run_equal_nil hu]
end

/-! ### A struct or an array put together -/
/-- The places of a struct's fields, and its zero's cells. -/
def placesOf (P : Program) (t : TypeId) : Option (List (Nat × Nat) × Value) :=
  match P.underlying t with
  | some (.struct fs) => match fs.toList.mapM fun f => (P.info? f.type).map fun i => (f.offset, i.size) with
    | some l => (zeroIs P t).map fun z => (l, z)
    | none => none
  | _ => none
theorem run_mapM_places {P : Program} {w : World} : ∀ (fs : List Field) (l : List (Nat × Nat)), (fs.mapM fun f => (P.info? f.type).map fun i => (f.offset, i.size)) = some l →
    (fs.mapM fun f => do pure (f.offset, ← sizeOf f.type) : Sem (List (Nat × Nat))).run P w = .ok l w
  | [], l, h => by simp at h; subst h; simp
  | f :: fs, l, h => by
    simp only [List.mapM_cons] at h ⊢
    cases hi : P.info? f.type with
    | none => simp [hi] at h
    | some i =>
      simp only [hi, Option.map_some, Option.bind_eq_bind, Option.bind_some] at h
      cases hl : (fs.mapM fun f => (P.info? f.type).map fun i => (f.offset, i.size)) with
      | none => rw [hl] at h; simp at h
      | some l' =>
        rw [hl] at h
        simp at h
        subst h
        have ih := run_mapM_places (w := w) fs l' hl
        simp only [Sem.run_bind, sizeOf, typeInfo, run_program, Result.andThen_ok, hi, Sem.run_pure] at ih ⊢
        rw [ih]; rfl
section
variable {P : Program} {e : Env} {d : Option Tmp} {t tt : TypeId} {pos : String} {af : Array Edge} {gd : Option (Nat × Bool)}
theorem Pure.build {p : Array (Nat × Operand)} {ps : List (Nat × Value)} {l : List (Nat × Nat)} {z : Value} {cs : Array Value} (hpl : placesOf P t = some (l, z))
    (hp : opvs e (p.toList.map (·.2)) = some (ps.map (·.2))) (hpi : p.toList.map (·.1) = ps.map (·.1))
    (hf : Instr.fill (fun i => l.toArray[i]?) z.cells ps = some cs) : Pure P e ⟨d, .build t p, tt, pos, af, gd⟩ (.agg cs) := fun ρ w ho => by
  have h1 := Ev.opvs ho hp
  have h2 : (p.map fun (i, x) => (i, ρ x)).toList = ps := by
    rw [Array.toList_map]
    have : ∀ (q : List (Nat × Operand)) (r : List (Nat × Value)), q.map (·.1) = r.map (·.1) → (q.map (·.2)).map ρ = r.map (·.2) → q.map (fun (i, x) => (i, ρ x)) = r := by
      intro q
      induction q with
      | nil => intro r a b; cases r <;> simp_all
      | cons y q ih =>
        intro r a b
        cases r with
        | nil => simp at a
        | cons u r =>
          simp only [List.map_cons, List.cons.injEq] at a b ⊢
          exact ⟨Prod.ext a.1 b.1, ih r a.2 b.2⟩
    exact this _ _ hpi h1
  unfold placesOf at hpl
  split at hpl
  · rename_i fs hu
    split at hpl
    · rename_i l' hl
      cases hz : zeroIs P t with
      | none => simp [hz] at hpl
      | some z' =>
        simp [hz] at hpl
        obtain ⟨rfl, rfl⟩ := hpl
        have hm : (fs.mapM fun f => do pure (f.offset, ← sizeOf f.type) : Sem (Array (Nat × Nat))).run P w = .ok l'.toArray w := by
          have := run_mapM_places (P := P) (w := w) fs.toList l' hl
          rw [Array.mapM_eq_mapM_toList, Sem.run_map, this]; rfl
        simp only [execOp, Instr.build, Sem.run_bind, run_zero hz, Result.andThen_ok, run_underlying hu, hm]
        have hf' : Instr.fill (fun i => l'[i]?) z'.cells ps = some cs := by simpa using hf
        simp only [h2]
        simp [hf']
    · cases hpl
  · cases hpl
end
section
variable {c : Cx} {G : Gp} {ops : Array Oper} {k : KT} {e : Env} {A A' : List HProp} {n : Nat} {listed : Array Bool} {st : List Item}
variable {t tt : TypeId} {pos : String} {af : Array Edge} {gd : Option (Nat × Bool)} {x y : Operand}
theorem Run.regionD' {id : Nat} {l : List Oper} (hm : c.P.follows .mixedOrders = true) (hok : regionOk l.toArray = true) (r : regionOk l.toArray = true → RunD c G l.toArray l.length (Array.replicate l.length false) (Ok c.P c.f c.R st) e A) : Run c G (.code (.region id l.toArray true) :: st) e A :=
  Run.regionD hm (r hok)
theorem RunD.load1R {i d b j : Nat} {T : TypeId} {cs : List Value} {v : Value} (hok : regionOk ops = true) (hi : ops[i]? = some ⟨some d, .load t x, tt, pos, af, gd⟩) (hr : (Region.ready .any ops listed).contains i = true) (hx : opv e x = some (.pointer (some ⟨b, j, none⟩))) (hro : Ro G b T cs) (hc : cs[j]? = some v) (ha : isAggOf c.P t = some false)
    (hw : Wt ops e ⟨some d, .load t x, tt, pos, af, gd⟩ true) (hlt : Nat.blt d c.fn.ntmps = true) (next : RunD c G ops n (listed.setIfInBounds i true) k ((d, v) :: e) A) (hds : c.ds = [] := by rfl) : RunD c G ops (n + 1) listed k e A := by
  refine RunD.quiet hok hi hr rfl hlt hw (fun ρ w he hs => ?_) next hds
  have h1 := he _ _ hx
  obtain ⟨fz, hg⟩ := hro
  simp only [execOp, h1, Instr.loadAt, Instr.sureAddr]
  simp [run_loadVar1 ha (⟨fz, hs.1 _ _ hg⟩ : Seen w b T cs) hc]
theorem RunD.loadNR {i d b j m : Nat} {T : TypeId} {cs vs : List Value} (hok : regionOk ops = true) (hi : ops[i]? = some ⟨some d, .load t x, tt, pos, af, gd⟩) (hr : (Region.ready .any ops listed).contains i = true) (hx : opv e x = some (.pointer (some ⟨b, j, none⟩))) (hro : Ro G b T cs) (ha : isAggOf c.P t = some true) (hn : sizeIs c.P t = some m) (hl : j + m ≤ cs.length) (hc : (cs.drop j).take m = vs)
    (hw : Wt ops e ⟨some d, .load t x, tt, pos, af, gd⟩ true) (hlt : Nat.blt d c.fn.ntmps = true) (next : RunD c G ops n (listed.setIfInBounds i true) k ((d, .agg vs.toArray) :: e) A) (hds : c.ds = [] := by rfl) : RunD c G ops (n + 1) listed k e A := by
  refine RunD.quiet hok hi hr rfl hlt hw (fun ρ w he hs => ?_) next hds
  have h1 := he _ _ hx
  obtain ⟨fz, hg⟩ := hro
  simp only [execOp, h1, Instr.loadAt, Instr.sureAddr]
  simp [run_loadVarN ha hn (⟨fz, hs.1 _ _ hg⟩ : Seen w b T cs) hl, hc]
theorem SlR.srcG {P : Program} {w : World} {T : TypeId} {sz : Nat} {a : Option Addr} {n cap : Nat} {cs : List Value} (r : SlR G T sz a n cs) (hs : Gp.sub G w) : Src P w sz (.slice a n cap) n cs :=
  r.src (A := []) ⟨Hp.empty, hs, fun _ _ h => by simp [Hp.empty] at h, Hp.disj_empty G.hp, rfl⟩
theorem RunD.bytesStr {i d m cap : Nat} {sT dT E : TypeId} {a : Option Addr} {bs : List UInt8} (hok : regionOk ops = true) (hi : ops[i]? = some ⟨some d, .convert sT dT x, tt, pos, af, gd⟩) (hr : (Region.ready .any ops listed).contains i = true) (hx : opv e x = some (.slice a m cap)) (hs : c.P.underlying sT = some (.slice E)) (he : c.P.underlying E = some (.int .u8)) (hd : c.P.underlying dT = some .string)
    (hro : SlR G E 1 a m (bs.map bv))
    (hw : Wt ops e ⟨some d, .convert sT dT x, tt, pos, af, gd⟩ true) (hlt : Nat.blt d c.fn.ntmps = true) (next : RunD c G ops n (listed.setIfInBounds i true) k ((d, .string ⟨bs.toArray⟩) :: e) A) (hds : c.ds = [] := by rfl) : RunD c G ops (n + 1) listed k e A := by
  refine RunD.quiet hok hi hr rfl hlt hw (fun ρ w hev hg => ?_) next hds
  have h1 := hev _ _ hx
  simp only [execOp, h1, Sem.run_bind, run_bytesStr hs he hd (hro.srcG hg), Result.andThen_ok, Sem.run_pure]
theorem RunD.nilR {listed : Array Bool} (hr : Region.ready .any ops listed = []) (r : Run c G st e A) : RunD c G ops 0 listed (Ok c.P c.f c.R st) e A := RunD.nil hr r
theorem RunD.nilB {G0 : Gp} {A0 : List HProp} {listed : Array Bool} (hr : Region.ready .any ops listed = []) (hb : ∀ w, St G A w → St G0 A0 w) (r : Run c G0 st e A0) : RunD c G ops 0 listed (Ok c.P c.f c.R st) e A := RunD.nil hr fun a w h s => r a w h (hb w s)
/-- Two are ready. -/
theorem RunD.two {i j : Nat} {o o' : Oper} (hr : Region.ready .any ops listed = [i, j]) (hi : ops[i]? = some o) (hj : ops[j]? = some o') (n1 : RunL c G ops [o] (KD c G ops n (listed.setIfInBounds i true) k) e A) (n2 : RunL c G ops [o'] (KD c G ops n (listed.setIfInBounds j true) k) e A) : RunD c G ops (n + 1) listed k e A := by
  have key : ∀ {m : Nat} {q : Oper}, ops[m]? = some q → RunL c G ops [q] (KD c G ops n (listed.setIfInBounds m true) k) e A → ∀ a w, EnvOk c.nd e a → St G A w →
      wpOp c.P ops (QOk c.P c.f c.fn c.ds c.R k) m (fun a' w' => ∃ S' : World → Prop, (∀ w, S' w → Gp.sub G w) ∧ S' w' ∧ AnyS c.P ops (QOk c.P c.f c.fn c.ds c.R k) n S' (listed.setIfInBounds m true) a' w') a w := by
    intro m q hm next a w h s
    have := next a w h s
    unfold wpList at this
    unfold wpOp
    simp only [hm]
    by_cases hw : Region.wanted q (yielded ops a.tmps) = true
    · rw [if_pos hw] at this ⊢
      rcases this with this | ⟨_, x1, x2, x3⟩
      · refine .inl ?_
        unfold Oper.wp at this ⊢
        generalize (execOp a.eval q).run c.P w = r at this ⊢
        cases r with
        | ok q w' =>
          cases q <;> simp only [Oper.upon, wpList] at this ⊢ <;> first | exact this | exact Calls.mono this (fun en w2 hh => by cases en <;> exact hh) | exact Rows.mono this (fun _ _ hh => hh)
        | halt x w' => cases x <;> simp only [Oper.upon] at this ⊢ <;> exact this
      · exact x3.elim
    · rw [if_neg hw] at this ⊢
      exact this
  intro a w h s
  refine ⟨fun hx => (by rw [hr] at hx; cases hx), fun q hq => ?_⟩
  have hq : q ∈ Region.ready .any ops listed := hq
  rw [hr] at hq
  have hq : q = i ∨ q = j := by simpa using hq
  rcases hq with rfl | rfl
  · exact key hi n1 a w h s
  · exact key hj n2 a w h s
end

/-! ### A slice put together -/
theorem foldl_set (vs : List Value) : ∀ (off j : Nat) (cells : Array Value), off + j + vs.length ≤ cells.size →
    ((vs.zipIdx j).foldl (fun cs (p : Value × Nat) => cs.setIfInBounds (off + p.2) p.1) cells) = (setRange cells.toList (off + j) vs).toArray := by
  induction vs with
  | nil => intro off j cells _; simp [setRange_nil]
  | cons v vs ih =>
    intro off j cells h
    simp only [List.length_cons] at h
    simp only [List.zipIdx_cons, List.foldl_cons]
    rw [ih off (j + 1) _ (by simp; omega)]
    rw [Array.toList_setIfInBounds, show off + (j + 1) = off + j + 1 from by omega, set_setRange (by simp; omega)]
theorem fill_all {sz : Nat} : ∀ (vals : List Value) (i : Nat) (cells : Array Value), (∀ v ∈ vals, v.cells.size = sz) → (i + vals.length) * sz ≤ cells.size →
    Instr.fill (fun i => some (i * sz, sz)) cells ((List.range' i vals.length).zip vals) = some (setRange cells.toList (i * sz) (vals.flatMap fun v => v.cells.toList)).toArray := by
  intro vals
  induction vals with
  | nil => intro i cells _ _; simp [Instr.fill, setRange_nil]
  | cons v vs ih =>
    intro i cells hv h
    have hs := hv v (by simp)
    simp only [List.length_cons] at h
    have hm : (i + (vs.length + 1)) * sz = i * sz + sz + vs.length * sz := by rw [Nat.add_mul, Nat.add_mul, Nat.one_mul]; omega
    have hle : i * sz + sz ≤ cells.size := by rw [hm] at h; omega
    have hc : ¬ (v.cells.size ≠ sz ∨ i * sz + v.cells.size > cells.size) := by rw [hs]; omega
    simp only [List.length_cons, List.range'_succ, List.zip_cons_cons, Instr.fill]
    rw [if_neg (by simpa using (by rw [hs]; omega : v.cells.size = sz ∧ i * sz + v.cells.size ≤ cells.size) )]
    have hf := foldl_set v.cells.toList (i * sz) 0 cells (by rw [Nat.add_zero, Array.length_toList, hs]; exact hle)
    have hf2 : v.cells.zipIdx.foldl (fun cs (p : Value × Nat) => cs.setIfInBounds (i * sz + p.2) p.1) cells = (setRange cells.toList (i * sz) v.cells.toList).toArray := by
      rw [← Array.foldl_toList, Array.toList_zipIdx]; exact hf
    have hlen : (setRange cells.toList (i * sz) v.cells.toList).length = cells.size := by rw [length_setRange (by simp [hs]; exact hle)]; simp
    have := ih (i + 1) (setRange cells.toList (i * sz) v.cells.toList).toArray (fun u hu => hv u (by simp [hu])) (by rw [List.size_toArray, hlen, show (i + 1 + vs.length) * sz = (i + (vs.length + 1)) * sz from by congr 1; omega]; exact h)
    rw [show (fun (cs : Array Value) (x : Value × Nat) => match x with | (c, j) => cs.setIfInBounds (i * sz + j) c) = (fun cs p => cs.setIfInBounds (i * sz + p.2) p.1) from rfl, hf2, this]
    congr 2
    -- two ranges in a row
    have e1 : (i + 1) * sz = i * sz + sz := by rw [Nat.add_mul, Nat.one_mul]
    rw [e1]
    simp only [List.flatMap_cons, List.toList_toArray]
    generalize hu : (vs.flatMap fun v => v.cells.toList) = us
    have hul : us.length = vs.length * sz := by
      rw [← hu]
      have : ∀ l : List Value, (∀ u ∈ l, u.cells.size = sz) → (l.flatMap fun v => v.cells.toList).length = l.length * sz := by
        intro l
        induction l with
        | nil => simp
        | cons x l ihl =>
          intro hx
          rw [List.flatMap_cons, List.length_append, ihl (fun u hu => hx u (by simp [hu])), Array.length_toList, hx x (by simp), List.length_cons, Nat.add_mul, Nat.one_mul]; omega
      exact this vs (fun u hu => hv u (by simp [hu]))
    have hcl : cells.toList.length = cells.size := by simp
    have hvl : v.cells.toList.length = sz := by simp [hs]
    unfold setRange
    have t1 : (cells.toList.take (i * sz) ++ v.cells.toList ++ cells.toList.drop (i * sz + v.cells.toList.length)).take (i * sz + sz) = cells.toList.take (i * sz) ++ v.cells.toList := by
      rw [List.take_append_of_le_length (by simp [hvl]; omega), List.take_of_length_le (by simp [hvl]; omega)]
    have t2 : (cells.toList.take (i * sz) ++ v.cells.toList ++ cells.toList.drop (i * sz + v.cells.toList.length)).drop (i * sz + sz + us.length) = cells.toList.drop (i * sz + (v.cells.toList ++ us).length) := by
      have l1 : (cells.toList.take (i * sz) ++ v.cells.toList).length = i * sz + sz := by simp [hvl]; omega
      rw [List.drop_append, l1, List.drop_of_length_le (by rw [l1]; omega), List.nil_append, List.drop_drop]
      congr 1; simp [hvl]; omega
    rw [t1, t2]; simp
section
variable {c : Cx} {G : Gp} {ops : Array Oper} {k : KT} {e : Env} {A : List HProp} {l : List Oper}
variable {d : Nat} {tt sT E : TypeId} {pos : String} {af : Array Edge} {gd : Option (Nat × Bool)} {z : Value} {sz : Nat}
theorem RunL.lit {p : Array (Nat × Operand)} {n : Nat} {vals vs : List Value} (hu : c.P.underlying sT = some (.slice E)) (hsz : sizeIs c.P E = some sz) (hz : zeroIs c.P E = some z) (hzz : z.cells.size = sz) (hn : Nat.ble (n * sz) 16777216 = true) (hpos : Nat.beq (n * sz) 0 = false)
    (hp : opvs e (p.toList.map (·.2)) = some vals) (hpi : p.toList.map (·.1) = List.range' 0 n) (hl : vals.length = n) (hv : ∀ v ∈ vals, v.cells.size = sz) (hvs : vals.flatMap (fun v => v.cells.toList) = vs)
    (hw : Wt ops e ⟨some d, .buildSlice sT n p, tt, pos, af, gd⟩ true) (hlt : Nat.blt d c.fn.ntmps = true)
    (next : ∀ b, RunL c G ops l k ((d, .slice (some ⟨b, 0, none⟩) n n) :: e) (Sl E sz (some ⟨b, 0, none⟩) n n vs :: A)) :
    RunL c G ops (⟨some d, .buildSlice sT n p, tt, pos, af, gd⟩ :: l) k e A := by
  subst hl; subst hvs
  have hlen : ∀ l : List Value, (∀ u ∈ l, u.cells.size = sz) → (l.flatMap fun v => v.cells.toList).length = l.length * sz := by
    intro l
    induction l with
    | nil => simp
    | cons x l ihl =>
      intro hx
      rw [List.flatMap_cons, List.length_append, ihl (fun u hu => hx u (by simp [hu])), Array.length_toList, hx x (by simp), List.length_cons, Nat.add_mul, Nat.one_mul]; omega
  have hL := hlen vals hv
  have hpos' : vals.length * sz ≠ 0 := fun h => by rw [h] at hpos; cases hpos
  have hrl : (List.range' 0 vals.length).length = vals.length := by simp
  refine RunL.buildSlice (ps := (List.range' 0 vals.length).zip vals) hu hsz hz (Nat.le_of_ble_eq_true hn) hpos' (by rw [List.map_snd_zip (by simp)]; exact hp) (by rw [List.map_fst_zip (by simp)]; exact hpi) ?_ hL hw hlt next
  rw [fill_all vals 0 _ hv (by simp [hzz])]
  congr 2
  unfold setRange
  rw [Nat.zero_mul, List.take_zero, List.nil_append, Nat.zero_add, hL, List.drop_of_length_le (by simp), List.append_nil]
end

/-! ### Atoms of several, opened and shut -/
/-- Some 'x' with a property, and the atoms of it. -/
def Ex {X : Type} (φ : X → Prop) (L : X → List HProp) : HProp := fun h => ∃ x, φ x ∧ stars (L x) h
theorem St.openEx {G : Gp} {A : List HProp} {w : World} {X : Type} {φ : X → Prop} {L : X → List HProp} (s : St G (Ex φ L :: A) w) : ∃ x, φ x ∧ St G (L x ++ A) w := by
  obtain ⟨h, g, s, d, h1, h2, d', e, ⟨x, hx, p⟩, a⟩ := s
  exact ⟨x, hx, h, g, s, d, stars_append.2 ⟨h1, h2, d', e, p, a⟩⟩
theorem St.mkEx {G : Gp} {A : List HProp} {w : World} {X : Type} {φ : X → Prop} {L : X → List HProp} {x : X} (hx : φ x) (s : St G (L x ++ A) w) : St G (Ex φ L :: A) w := by
  obtain ⟨h, g, s, d, a⟩ := s
  obtain ⟨h1, h2, d', e, p, a⟩ := stars_append.1 a
  exact ⟨h, g, s, d, h1, h2, d', e, ⟨x, hx, p⟩, a⟩
/-- Whatever is owned may be lent. -/
theorem Lends.of {Q : HProp} {R : Gp → Prop} (hq : ∀ (G : Gp) (h : Hp), Q h → Hp.disj G.hp h → R (Gp.join G h)) : Lends Q R := fun G A w s => by
  obtain ⟨h, g, s, d, h1, h2, d', rfl, p, a⟩ := s
  have ss := (Hp.sub_join d').1 s
  have dd := Hp.disj_join.1 d
  refine ⟨h1, hq G h1 p dd.1, ⟨h2, ⟨(Hp.sub_join dd.1).2 ⟨g.1, ss.1⟩, g.2⟩, ss.2, Hp.join_disj.2 ⟨dd.2, d'⟩, a⟩, ?_⟩
  rintro A' w' ⟨h3, g3, s3, d3, a3⟩
  have gg := (Hp.sub_join dd.1).1 g3.1
  have d4 := Hp.join_disj.1 d3
  exact ⟨Hp.join h1 h3, ⟨gg.1, g3.2⟩, (Hp.sub_join d4.2).2 ⟨gg.2, s3⟩, Hp.disj_join.2 ⟨dd.1, d4.1⟩, h1, h3, d4.2, rfl, p, a3⟩
theorem Ro.of_row {G : Gp} {h : Hp} {b : Nat} {T : TypeId} {cs : List Value} (r : row b T cs h) (d : Hp.disj G.hp h) : Ro (Gp.join G h) b T cs := by
  obtain ⟨fz, hz, rfl⟩ := r
  refine ⟨fz, ?_⟩
  have := d b
  rw [Hp.one_self] at this
  have hb : G.hp b = none := this.resolve_right (by simp)
  show Hp.join G.hp _ b = _
  unfold Hp.join; rw [hb]; exact Hp.one_self _ _
theorem Ro.in_join {G : Gp} {h1 h2 : Hp} {b : Nat} {T : TypeId} {cs : List Value} (d : Hp.disj G.hp (Hp.join h1 h2)) (r : Ro (Gp.join G h1) b T cs) : Ro (Gp.join G (Hp.join h1 h2)) b T cs := by
  obtain ⟨fz, r⟩ := r
  refine ⟨fz, ?_⟩
  show Hp.join G.hp (Hp.join h1 h2) b = _
  rw [← Hp.join_assoc]
  exact Hp.join_left r
section
variable {c : Cx} {G : Gp} {ops : Array Oper} {k : KT} {e : Env} {A A' : List HProp} {l : List Oper} {st : List Item}
variable {T : TypeId} {sz n cap b : Nat} {a : Option Addr} {cs pre post : List Value}
theorem RunL.openEx {X : Type} {φ : X → Prop} {L : X → List HProp} (hf : Find (Ex φ L) A A') (next : ∀ x, φ x → RunL c G ops l k e (L x ++ A')) : RunL c G ops l k e A := fun a w h s => by
  obtain ⟨x, hx, s'⟩ := (s.find hf).openEx; exact next x hx a w h s'
theorem Run.openEx {X : Type} {φ : X → Prop} {L : X → List HProp} (hf : Find (Ex φ L) A A') (next : ∀ x, φ x → Run c G st e (L x ++ A')) : Run c G st e A := fun a w h s => by
  obtain ⟨x, hx, s'⟩ := (s.find hf).openEx; exact next x hx a w h s'
theorem RunL.mkEx {X : Type} {φ : X → Prop} {L : X → List HProp} (x : X) (ht : Take (L x) A A') (hx : φ x) (next : RunL c G ops l k e (Ex φ L :: A')) : RunL c G ops l k e A := fun a w h s => next a w h (St.mkEx hx (s.perm ht.perm))
theorem Run.mkEx {X : Type} {φ : X → Prop} {L : X → List HProp} (x : X) (ht : Take (L x) A A') (hx : φ x) (next : Run c G st e (Ex φ L :: A')) : Run c G st e A := fun a w h s => next a w h (St.mkEx hx (s.perm ht.perm))
theorem RunL.openSl (hf : Find (Sl T sz a n cap cs) A A') (hn : 0 < n) (next : ∀ b pre post, a = some ⟨b, pre.length, none⟩ → cs.length = n * sz → n ≤ cap → (cap - n) * sz ≤ post.length → RunL c G ops l k e (row b T (pre ++ cs ++ post) :: A')) : RunL c G ops l k e A := fun ac w h s => by
  rcases (s.find hf).Sl_open with ⟨_, rfl, _⟩ | ⟨b, pre, post, h1, h2, h3, h4, s'⟩
  · exact absurd hn (Nat.lt_irrefl _)
  · exact next b pre post h1 h2 h3 h4 ac w h s'
theorem Run.openSl (hf : Find (Sl T sz a n cap cs) A A') (hn : 0 < n) (next : ∀ b pre post, a = some ⟨b, pre.length, none⟩ → cs.length = n * sz → n ≤ cap → (cap - n) * sz ≤ post.length → Run c G st e (row b T (pre ++ cs ++ post) :: A')) : Run c G st e A := fun ac w h s => by
  rcases (s.find hf).Sl_open with ⟨_, rfl, _⟩ | ⟨b, pre, post, h1, h2, h3, h4, s'⟩
  · exact absurd hn (Nat.lt_irrefl _)
  · exact next b pre post h1 h2 h3 h4 ac w h s'
theorem RunL.mkSl (hf : Find (row b T (pre ++ cs ++ post)) A A') (h1 : cs.length = n * sz) (h2 : n ≤ cap) (h3 : (cap - n) * sz ≤ post.length) (next : RunL c G ops l k e (Sl T sz (some ⟨b, pre.length, none⟩) n cap cs :: A')) : RunL c G ops l k e A := fun ac w h s => next ac w h (St.Sl_mk h1 h2 h3 (s.find hf))
theorem Run.mkSl (hf : Find (row b T (pre ++ cs ++ post)) A A') (h1 : cs.length = n * sz) (h2 : n ≤ cap) (h3 : (cap - n) * sz ≤ post.length) (next : Run c G st e (Sl T sz (some ⟨b, pre.length, none⟩) n cap cs :: A')) : Run c G st e A := fun ac w h s => next ac w h (St.Sl_mk h1 h2 h3 (s.find hf))
end
theorem Run.nilSl {c : Cx} {G : Gp} {e : Env} {A : List HProp} {st : List Item} (T : TypeId) (sz : Nat) (next : Run c G st e (Sl T sz none 0 0 [] :: A)) : Run c G st e A := fun ac w h s => next ac w h (s.Sl_nil T sz)
theorem RunL.nilSl {c : Cx} {G : Gp} {ops : Array Oper} {k : KT} {e : Env} {A : List HProp} {l : List Oper} (T : TypeId) (sz : Nat) (next : RunL c G ops l k e (Sl T sz none 0 0 [] :: A)) : RunL c G ops l k e A := fun ac w h s => next ac w h (s.Sl_nil T sz)
/-- x[i:] of a slice that is owned. -/
theorem St.Sl_from {G : Gp} {A : List HProp} {w : World} {T : TypeId} {sz : Nat} {a : Option Addr} {n cap : Nat} {cs : List Value} (i : Nat) (hi : i ≤ n) (s : St G (Sl T sz a n cap cs :: A) w) : St G (Sl T sz (cutAt a i cap sz) (n - i) (cap - i) (cs.drop (i * sz)) :: A) w := by
  rcases s.Sl_open with ⟨rfl, rfl, rfl, rfl, s'⟩ | ⟨b, pre, post, rfl, h1, h2, h3, s'⟩
  · have : i = 0 := by omega
    subst this
    have e : cutAt none 0 0 sz = none := by unfold cutAt; simp
    rw [e]; simpa using s
  · have hm : i * sz ≤ cs.length := by rw [h1]; exact Nat.mul_le_mul_right _ hi
    have hd : (cs.drop (i * sz)).length = (n - i) * sz := by rw [List.length_drop, h1, ← Nat.sub_mul]
    by_cases hc : cap = i
    · have e : cutAt (some ⟨b, pre.length, none⟩) i cap sz = some ⟨b, pre.length, none⟩ := by unfold cutAt; rw [if_pos hc]
      have hn : n = i := by omega
      rw [e]
      have h0 : cs.drop (i * sz) = [] := by apply List.length_eq_zero_iff.1; rw [hd]; simp [hn]
      rw [h0]
      refine St.Sl_mk (pre := pre) (post := cs ++ post) (by simp [hn]) (by omega) (by simp [hc]) ?_
      simpa using s'
    · have e : cutAt (some ⟨b, pre.length, none⟩) i cap sz = some ⟨b, (pre ++ cs.take (i * sz)).length, none⟩ := by
        unfold cutAt; rw [if_neg hc]
        simp [add_off, Nat.min_eq_left hm]
      rw [e]
      refine St.Sl_mk (pre := pre ++ cs.take (i * sz)) (post := post) hd (by omega) (by rw [show cap - i - (n - i) = cap - n from by omega]; exact h3) ?_
      rw [List.append_assoc pre, List.take_append_drop]; exact s'
theorem RunL.cutSl {c : Cx} {G : Gp} {ops : Array Oper} {k : KT} {e : Env} {A A' : List HProp} {l : List Oper} {T : TypeId} {sz n cap : Nat} {a : Option Addr} {cs : List Value} (i : Nat) (hf : Find (Sl T sz a n cap cs) A A') (hi : i ≤ n) (next : RunL c G ops l k e (Sl T sz (cutAt a i cap sz) (n - i) (cap - i) (cs.drop (i * sz)) :: A')) : RunL c G ops l k e A := fun ac w h s => next ac w h ((s.find hf).Sl_from i hi)
theorem Run.cutSl {c : Cx} {G : Gp} {st : List Item} {e : Env} {A A' : List HProp} {T : TypeId} {sz n cap : Nat} {a : Option Addr} {cs : List Value} (i : Nat) (hf : Find (Sl T sz a n cap cs) A A') (hi : i ≤ n) (next : Run c G st e (Sl T sz (cutAt a i cap sz) (n - i) (cap - i) (cs.drop (i * sz)) :: A')) : Run c G st e A := fun ac w h s => next ac w h ((s.find hf).Sl_from i hi)
theorem cell_at {pre post : List Value} {bs : List UInt8} {i : Nat} (h : i < bs.length) : (pre ++ bs.map bv ++ post)[pre.length + i * 1]? = some (bv (bs.getD i 0)) := by
  rw [Nat.mul_one, List.append_assoc, List.getElem?_append_right (by omega), Nat.add_sub_cancel_left, List.getElem?_append_left (by simpa using h)]
  rw [List.getD_eq_getElem?_getD, List.getElem?_eq_getElem h]
  simp [h]
end Go.Proofs.Ytghmmjifmnmbgaa.Csl
