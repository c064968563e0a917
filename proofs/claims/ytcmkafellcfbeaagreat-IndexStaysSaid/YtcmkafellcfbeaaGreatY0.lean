/- What an index holds, plainly. -/
import Derived.Test.YtcmkafellcfbeaaGreatX0
set_option linter.unusedVariables false
set_option linter.unusedSimpArgs false
set_option linter.unusedSectionVars false
namespace Go.Proofs.YtcmkafellcfbeaaGreat
open Go Csl


namespace Csl
def eI (z : Int) : Value := .int .i64 z
def eM (b : Nat) : Value := .map (some b)
theorem MpR.hp {G G' : Gp} {r : Nat} {es : List (Value × Value)} (q : MpR G r es) (h : Hp.le G.hp G'.hp) : MpR G' r es := by
  obtain ⟨arr, clock, mi, g⟩ := q; exact ⟨arr, clock, mi, h _ _ g⟩
/-- A table of what is ahead. -/
def TOk (G : Gp) (l : EL) (tbl : List (ByteArray × Nat)) : Prop := ∀ x ∈ tbl, ∃ es, MpR G x.2 (menc eS eI es) ∧ AncM (ancOf l x.1) es
theorem TOk.hp {G G' : Gp} {l : EL} {tbl : List (ByteArray × Nat)} (q : TOk G l tbl) (h : Hp.le G.hp G'.hp) : TOk G' l tbl := fun x hx => by
  obtain ⟨es, h1, h2⟩ := q x hx; exact ⟨es, h1.hp h, h2⟩
theorem tbl_get {tbl : List (ByteArray × Nat)} {x : ByteArray} (hx : x ∈ tbl.map (·.1)) : ∃ r, mget x tbl = some r ∧ (x, r) ∈ tbl := by
  cases h : mget x tbl with
  | none => exact absurd hx (mget_none.1 h)
  | some r => exact ⟨r, rfl, mget_mem h⟩
theorem tbl_put {tbl : List (ByteArray × Nat)} {x : ByteArray} {r : Nat} (hx : x ∉ tbl.map (·.1)) : mput x r tbl = tbl ++ [(x, r)] := by
  refine mput_new (i := 0) ?_
  have h1 := midx_get x tbl 0
  rw [mget_none.2 hx] at h1
  cases h : midx x tbl 0 with
  | none => rfl
  | some q => rw [h] at h1; cases h1
theorem TOk.snoc {G : Gp} {l : EL} {tbl : List (ByteArray × Nat)} (q : TOk G l tbl) {x : ByteArray} {r : Nat} {es : List (ByteArray × Int)} (h1 : MpR G r (menc eS eI es)) (h2 : AncM (ancOf l x) es) : TOk G l (tbl ++ [(x, r)]) := fun y hy => by
  rcases List.mem_append.1 hy with hy | hy
  · exact q y hy
  · obtain rfl := List.mem_singleton.1 hy; exact ⟨es, h1, h2⟩
/-- A map goes into the pool. -/
theorem St.poolMp {G : Gp} {A : List HProp} {w : World} {K : Hp} {r : Nat} {es : List (Value × Value)} (s : St G (Mp r es :: Pool K :: A) w) : ∃ K', Hp.le K K' ∧ MpR (gk K') r es ∧ St G (Pool K' :: A) w := by
  obtain ⟨h, g, s, d, h1, h2, d', rfl, p, h3, h4, d'', rfl, q, a'⟩ := s
  have q' : h3 = K := q
  subst q'
  have dd := Hp.disj_join.1 d'
  refine ⟨Hp.join h1 h3, fun b o x => Hp.join_right dd.1 x, ?_, _, g, s, d, Hp.join h1 h3, h4, Hp.join_disj.2 ⟨dd.2, d''⟩, (Hp.join_assoc _ _ _).symm, rfl, a'⟩
  obtain ⟨arr, clock, m, rfl⟩ := p
  exact ⟨arr, clock, m, Hp.join_left (Hp.one_self _ _)⟩
section
variable {c : Cx} {G : Gp} {ops : Array Oper} {kk : KT} {e : Env} {A A' : List HProp} {lo : List Oper} {st : List Item} {K : Hp} {r : Nat} {es : List (Value × Value)} {n : Nat} {listed : Array Bool}
theorem Run.poolMp (ht : Take [Mp r es, Pool K] A A') (next : ∀ K', Hp.le K K' → MpR (gk K') r es → Run c G st e (Pool K' :: A')) : Run c G st e A := fun ac w h s => by
  obtain ⟨K', h1, h2, s'⟩ := (s.perm ht.perm).poolMp
  exact next K' h1 h2 ac w h s'
end
section
variable {P : Program} {kt mt et : TypeId} {K : Type} [DecidableEq K] {ek : K → Value}
theorem run_lookupNil {k : K} {z : Value} {w : World} (ht : P.underlying mt = some (.map kt et)) (hz : zeroIs P et = some z) (h : KeyT P kt ek) : (Instr.lookup mt (.map none) (ek k) false).run P w = .ok z w := by
  have hk := run_findKey (w := w) (ev := fun _ : Unit => Value.bool true) (arr := #[]) (l := []) h k rfl
  simp only [Instr.lookup, Sem.run_bind, run_underlying ht, Result.andThen_ok, Sem.run_pure, h.ok, hk]
  simp [midx, run_zero hz]
variable {c : Cx} {G : Gp} {ops : Array Oper} {kk : KT} {e : Env} {A : List HProp} {lo : List Oper} {d : Nat} {tt : TypeId} {pos : String} {af : Array Edge} {gd : Option (Nat × Bool)} {x y : Operand} {zv : Value}
theorem RunL.lookupNil {k : K} (hx : opv e x = some (.map none)) (hy : opv e y = some (ek k)) (ht : c.P.underlying mt = some (.map kt et)) (hz : zeroIs c.P et = some zv) (hk : KeyT c.P kt ek)
    (hw : Wt ops e ⟨some d, .lookup mt x y false, tt, pos, af, gd⟩ true) (hlt : Nat.blt d c.fn.ntmps = true)
    (next : RunL c G ops lo kk ((d, zv) :: e) A) : RunL c G ops (⟨some d, .lookup mt x y false, tt, pos, af, gd⟩ :: lo) kk e A := by
  refine RunL.val (X := Unit) (v := fun _ => zv) (A' := fun _ => A) hw rfl hlt (fun a w h s => ⟨(), w, ?_, s⟩) (fun _ => next)
  have e1 := h.opv hx
  have e2 := h.opv hy
  generalize a.eval = ρ at e1 e2 ⊢
  simp only [execOp, e1, e2, Sem.run_bind, run_lookupNil ht hz hk, Result.andThen_ok, Sem.run_pure]
theorem run_equalIn_mp {w : World} (k : Nat) {t et : TypeId} {m : Option Nat} (hu : P.underlying t = some (.map kt et)) : (Op.equalIn (k + 1) t (.map m) (.map none)).run P w = .ok m.isNone w := by
  simp only [Op.equalIn, Sem.run_bind, run_underlying hu, Result.andThen_ok, Sem.run_pure]
  cases m <;> rfl
theorem Pure.mapNeNil {m : Option Nat} {xt yt t : TypeId} {d : Option Tmp} (hx : opv e x = some (.map m)) (hy : opv e y = some (.map none)) (hu : P.underlying xt = some (.map kt et)) : Pure P e ⟨d, .binOp .neq xt x y yt, t, pos, af, gd⟩ (.bool m.isSome) := fun ρ w ho => by
  have h1 := ho _ _ hx; have h2 := ho _ _ hy
  simp only [execOp, h1, h2, eqGuard, binOp]
  have := run_equalIn_mp (w := w) 9999 (m := m) hu
  cases m <;> simp_all [Op.equal, Op.maxDepth]
end
theorem or_put {X : Bool} {ds : List (ByteArray × Int)} {y : ByteArray × Int} {a : ByteArray} : ((X || memB a (ds.map fun x => x.1)) || decide (a = y.1)) = (X || memB a ((ds ++ [y]).map fun x => x.1)) := by
  rw [List.map_append, memB_app, List.map_cons, List.map_nil, memB_one, Bool.or_assoc, show decide (a = y.1) = decide (y.1 = a) from decide_eq_decide.2 eq_comm]
theorem allOf_new {room : ByteArray} {l : EL} (h : Good room l) {i : Nat} {v : Evt} (hv : (allOf l)[i]? = some v) : v.id ∉ ((allOf l).take i).map (·.id) := by
  intro q
  obtain ⟨u, hu, e⟩ := List.mem_map.1 q
  obtain ⟨j, hj⟩ := List.getElem?_of_mem hu
  have hji : j < i := by
    rcases Nat.lt_or_ge j i with z | z
    · exact z
    · rw [List.getElem?_eq_none (by simp; omega)] at hj; cases hj
  rw [List.getElem?_take, if_pos hji] at hj
  have h1 := h.get (allOf_mem.1 (List.mem_of_getElem? hj))
  have h2 := h.get (allOf_mem.1 (List.mem_of_getElem? hv))
  have e' : u.id = v.id := e
  rw [e', h2] at h1
  obtain rfl := Option.some.inj h1
  obtain ⟨a1, b1⟩ := List.getElem?_eq_some_iff.1 hj
  obtain ⟨a2, b2⟩ := List.getElem?_eq_some_iff.1 hv
  have h3 := List.pairwise_iff_getElem.1 (allOf_sd h.nodup) j i a1 a2 hji
  rw [b1, b2] at h3
  have h4 := cmpPos_law.anti (posOf l v) (posOf l v)
  have h5 : cmpPos (posOf l v) (posOf l v) < 0 := h3
  omega
/-! ### An index -/
def IxF (room : ByteArray) (l : EL) (K : Hp) (sl : Sli) (ys : ES) : Prop := Good room l ∧ ys.map (·.1) = allOf l ∧ HasES (gk K) sl ys ∧ sl.n ≤ 1000000
def TbF (l : EL) (K : Hp) (tbl : List (ByteArray × Nat)) : Prop := tbl.map (·.1) = (allOf l).map (·.id) ∧ TOk (gk K) l tbl
theorem IxF.le {room : ByteArray} {l : EL} {K K1 : Hp} {sl : Sli} {ys : ES} (h : IxF room l K sl ys) (hle : Hp.le K K1) : IxF room l K1 sl ys := ⟨h.1, h.2.1, HasES.hp (G' := gk K1) h.2.2.1 hle, h.2.2.2⟩
/-- An index, asked or not: what is in its pool is 'K' at least. -/
def Ix (p : Nat) (l : EL) (K : Hp) (sl : Sli) : HProp := fun h =>
  Ex (fun K1 : Hp => Hp.le K K1) (fun K1 => [row p 73 [.slice sl.a sl.n sl.c, .int .u32 0, .int .i32 0, .int .u32 0, .map none], Pool K1]) h ∨
  Ex (fun x : Hp × Nat × List (ByteArray × Nat) => Hp.le K x.1 ∧ TbF l x.1 x.2.2) (fun x => [row p 73 [.slice sl.a sl.n sl.c, .int .u32 1, .int .i32 0, .int .u32 0, .map (some x.2.1)], Mp x.2.1 (menc eS eM x.2.2), Pool x.1]) h
theorem St.or {G : Gp} {A : List HProp} {w : World} {P Q : HProp} (s : St G ((fun h => P h ∨ Q h) :: A) w) : St G (P :: A) w ∨ St G (Q :: A) w := by
  obtain ⟨h, g, s, d, h1, h2, d', e, p | p, a⟩ := s
  · exact .inl ⟨h, g, s, d, h1, h2, d', e, p, a⟩
  · exact .inr ⟨h, g, s, d, h1, h2, d', e, p, a⟩
section
variable {c : Cx} {G : Gp} {ops : Array Oper} {kk : KT} {e : Env} {A A' : List HProp} {lo : List Oper} {st : List Item} {p : Nat} {l : EL} {K : Hp} {sl : Sli}
theorem Run.openIx (hf : Find (Ix p l K sl) A A') (n0 : ∀ K1, Hp.le K K1 → Run c G st e (row p 73 [.slice sl.a sl.n sl.c, .int .u32 0, .int .i32 0, .int .u32 0, .map none] :: Pool K1 :: A'))
    (n1 : ∀ K1 m tbl, Hp.le K K1 → TbF l K1 tbl → Run c G st e (row p 73 [.slice sl.a sl.n sl.c, .int .u32 1, .int .i32 0, .int .u32 0, .map (some m)] :: Mp m (menc eS eM tbl) :: Pool K1 :: A')) : Run c G st e A := fun ac w h s => by
  rcases St.or (s.find hf) with s1 | s1
  · exact Run.openEx (F0 _) (fun x hx => n0 x hx) ac w h s1
  · exact Run.openEx (F0 _) (fun x hx => n1 x.1 x.2.1 x.2.2 hx.1 hx.2) ac w h s1
theorem Run.mkIxN {K1 : Hp} (hle : Hp.le K K1) (ht : Take [row p 73 [.slice sl.a sl.n sl.c, .int .u32 0, .int .i32 0, .int .u32 0, .map none], Pool K1] A A') (next : Run c G st e (Ix p l K sl :: A')) : Run c G st e A :=
  Run.mkEx (φ := fun K1 : Hp => Hp.le K K1) (L := fun K1 => [row p 73 [.slice sl.a sl.n sl.c, .int .u32 0, .int .i32 0, .int .u32 0, .map none], Pool K1]) K1 ht hle fun ac w h s => next ac w h (s.imp fun k q => .inl q)
theorem Run.mkIxY {K1 : Hp} {m : Nat} {tbl : List (ByteArray × Nat)} (hle : Hp.le K K1) (hy : TbF l K1 tbl) (ht : Take [row p 73 [.slice sl.a sl.n sl.c, .int .u32 1, .int .i32 0, .int .u32 0, .map (some m)], Mp m (menc eS eM tbl), Pool K1] A A') (next : Run c G st e (Ix p l K sl :: A')) : Run c G st e A :=
  Run.mkEx (φ := fun x : Hp × Nat × List (ByteArray × Nat) => Hp.le K x.1 ∧ TbF l x.1 x.2.2) (L := fun x => [row p 73 [.slice sl.a sl.n sl.c, .int .u32 1, .int .i32 0, .int .u32 0, .map (some x.2.1)], Mp x.2.1 (menc eS eM x.2.2), Pool x.1]) (K1, m, tbl) ht ⟨hle, hy⟩ fun ac w h s => next ac w h (s.imp fun k q => .inr q)
theorem RunL.openIx (hf : Find (Ix p l K sl) A A') (n0 : ∀ K1, Hp.le K K1 → RunL c G ops lo kk e (row p 73 [.slice sl.a sl.n sl.c, .int .u32 0, .int .i32 0, .int .u32 0, .map none] :: Pool K1 :: A'))
    (n1 : ∀ K1 m tbl, Hp.le K K1 → TbF l K1 tbl → RunL c G ops lo kk e (row p 73 [.slice sl.a sl.n sl.c, .int .u32 1, .int .i32 0, .int .u32 0, .map (some m)] :: Mp m (menc eS eM tbl) :: Pool K1 :: A')) : RunL c G ops lo kk e A := fun ac w h s => by
  rcases St.or (s.find hf) with s1 | s1
  · exact RunL.openEx (F0 _) (fun x hx => n0 x hx) ac w h s1
  · exact RunL.openEx (F0 _) (fun x hx => n1 x.1 x.2.1 x.2.2 hx.1 hx.2) ac w h s1
theorem RunL.mkIxN {K1 : Hp} (hle : Hp.le K K1) (ht : Take [row p 73 [.slice sl.a sl.n sl.c, .int .u32 0, .int .i32 0, .int .u32 0, .map none], Pool K1] A A') (next : RunL c G ops lo kk e (Ix p l K sl :: A')) : RunL c G ops lo kk e A :=
  RunL.mkEx (φ := fun K1 : Hp => Hp.le K K1) (L := fun K1 => [row p 73 [.slice sl.a sl.n sl.c, .int .u32 0, .int .i32 0, .int .u32 0, .map none], Pool K1]) K1 ht hle fun ac w h s => next ac w h (s.imp fun k q => .inl q)
theorem RunL.mkIxY {K1 : Hp} {m : Nat} {tbl : List (ByteArray × Nat)} (hle : Hp.le K K1) (hy : TbF l K1 tbl) (ht : Take [row p 73 [.slice sl.a sl.n sl.c, .int .u32 1, .int .i32 0, .int .u32 0, .map (some m)], Mp m (menc eS eM tbl), Pool K1] A A') (next : RunL c G ops lo kk e (Ix p l K sl :: A')) : RunL c G ops lo kk e A :=
  RunL.mkEx (φ := fun x : Hp × Nat × List (ByteArray × Nat) => Hp.le K x.1 ∧ TbF l x.1 x.2.2) (L := fun x => [row p 73 [.slice sl.a sl.n sl.c, .int .u32 1, .int .i32 0, .int .u32 0, .map (some x.2.1)], Mp x.2.1 (menc eS eM x.2.2), Pool x.1]) (K1, m, tbl) ht ⟨hle, hy⟩ fun ac w h s => next ac w h (s.imp fun k q => .inr q)
end
theorem mvalM (o : Option Nat) : mval eM (.map none) o = .map o := by cases o <;> rfl
theorem St.mkIxY {G : Gp} {A : List HProp} {w : World} {p : Nat} {l : EL} {K K1 : Hp} {sl : Sli} {m : Nat} {tbl : List (ByteArray × Nat)} (hle : Hp.le K K1) (hy : TbF l K1 tbl) (s : St G (row p 73 [.slice sl.a sl.n sl.c, .int .u32 1, .int .i32 0, .int .u32 0, .map (some m)] :: Mp m (menc eS eM tbl) :: Pool K1 :: A) w) : St G (Ix p l K sl :: A) w :=
  (St.mkEx (φ := fun x : Hp × Nat × List (ByteArray × Nat) => Hp.le K x.1 ∧ TbF l x.1 x.2.2) (L := fun x => [row p 73 [.slice sl.a sl.n sl.c, .int .u32 1, .int .i32 0, .int .u32 0, .map (some x.2.1)], Mp x.2.1 (menc eS eM x.2.2), Pool x.1]) (x := (K1, m, tbl)) ⟨hle, hy⟩ s).imp fun k q => .inr q
/-- An index, to be read. -/
def IxR (G : Gp) (p : Nat) (K : Hp) (sl : Sli) : Prop := Holds G K ∧ ∃ x1 x2 x3 x4, Ro G p 73 [.slice sl.a sl.n sl.c, x1, x2, x3, x4]
theorem Lends.Ix {p : Nat} {l : EL} {K : Hp} {sl : Sli} : Lends (Csl.Ix p l K sl) (fun G => IxR G p K sl) := Lends.of fun G h q d => by
  rcases q with ⟨K1, hle, h1, h2, d1, rfl, ⟨fz, hz, rfl⟩, h3, h4, d2, rfl, q2, q3⟩ | ⟨⟨K1, m, tbl⟩, ⟨hle, _⟩, h1, h2, d1, rfl, ⟨fz, hz, rfl⟩, h5, h6, d3, rfl, q4, h3, h4, d2, rfl, q2, q3⟩
  · have q2' : h3 = K1 := q2
    subst q2'
    exact ⟨fun b o x => Hp.join_right d (Hp.join_right d1 (Hp.join_left (hle b o x))), _, _, _, _, fz, Hp.join_right d (Hp.join_left (Hp.one_self _ _))⟩
  · have q2' : h3 = K1 := q2
    subst q2'
    exact ⟨fun b o x => Hp.join_right d (Hp.join_right d1 (Hp.join_right d3 (Hp.join_left (hle b o x)))), _, _, _, _, fz, Hp.join_right d (Hp.join_left (Hp.one_self _ _))⟩
/-- Those that are meant, by their positions. -/
def whichL (l : EL) (mt : ByteArray → Bool) : List ByteArray := ((allOf l).map (·.id)).filter mt
theorem whichL_len (l : EL) (mt : ByteArray → Bool) : (whichL l mt).length ≤ l.length := by
  unfold whichL
  have := List.length_filter_le mt ((allOf l).map (·.id))
  rw [List.length_map, allOf_len] at this; exact this
def apartB (l : EL) (a b : ByteArray) : Bool := l.has a && l.has b && !decide (bl a = bl b) && !ancOf l b a && !ancOf l a b
theorem Run.poolPs {c : Cx} {G : Gp} {e : Env} {A A' : List HProp} {st : List Item} {K : Hp} (ys : ES) (ht : Take [Stars (ys.map slPs), Pool K] A A') (next : ∀ K', Hp.le K K' → (∀ y ∈ ys, SlR (gk K') 9 1 y.2.a y.1.ps.length (y.1.ps.map Value.string)) → Run c G st e (Pool K' :: A')) : Run c G st e A := fun ac w h s => by
  obtain ⟨K', h1, h2, s'⟩ := St.poolStars (a := fun y : Evt × Sli => y.2.a) (n := fun y => y.1.ps.length) (cap := fun y => y.2.c) (cs := fun y => y.1.ps.map Value.string) ys (s.perm ht.perm)
  exact next K' h1 h2 ac w h s'
theorem TbF.none {l : EL} {K : Hp} {tbl : List (ByteArray × Nat)} (h : TbF l K tbl) {b : ByteArray} : mget b tbl = none ↔ l.has b = false := by
  rw [mget_none, h.1, has_no]
  simp only [List.mem_map, not_exists, not_and]
  exact ⟨fun q v hv => q v (allOf_mem.2 hv), fun q v hv => q v (allOf_mem.1 hv)⟩
theorem TbF.isSome {l : EL} {K : Hp} {tbl : List (ByteArray × Nat)} (h : TbF l K tbl) {b : ByteArray} : (mget b tbl).isSome = l.has b := by
  have := h.none (b := b)
  cases hm : mget b tbl with
  | none => rw [(this.1 hm)]; rfl
  | some r =>
    cases hh : l.has b with
    | true => rfl
    | false => rw [this.2 hh] at hm; cases hm
theorem anc_val (x : Bool) : mval eI (.int .i64 0) (if x = true then some 1 else none) = .int .i64 (if x = true then 1 else 0) := by cases x <;> rfl
theorem anc_take {l : EL} {ps : List ByteArray} {j : Nat} {p a : ByteArray} (h : ps[j]? = some p) : ((ps.take (j + 1)).any fun q => decide (q = a) || ancOf l q a) = (((ps.take j).any fun q => decide (q = a) || ancOf l q a) || (decide (p = a) || ancOf l p a)) := by
  rw [List.take_add_one, h, List.any_append]; simp
end Csl


end Go.Proofs.YtcmkafellcfbeaaGreat
