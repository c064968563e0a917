/- Positions, nodes. -/
import Derived.Test.YtcmkafellcfbeaaGreatG2
set_option linter.unusedVariables false
set_option linter.unusedSimpArgs false
set_option linter.unusedSectionVars false
namespace Go.Proofs.YtcmkafellcfbeaaGreat
open Go Csl


namespace Csl
def cmpPos (a b : Pos) : Int := orI (cmpI a.depth b.depth) (cmpS a.id b.id)
theorem cmpPos_law : LawCmp cmpPos := (cmpI_law.lex cmpS_law).map (f := fun p : Pos => (p.depth, p.id)) (fun a b h => by cases a; cases b; simp_all)
def beforePos (a b : Pos) : Bool := decide (a.depth < b.depth) || (decide (a.depth = b.depth) && Op.bytesLess (bl a.id) (bl b.id))
theorem beforePos_cmp {a b : Pos} : beforePos a b = true ↔ cmpPos a b < 0 := by
  unfold beforePos cmpPos orI cmpI
  by_cases h1 : a.depth < b.depth
  · simp [h1]
  · by_cases h2 : a.depth = b.depth
    · simp [h2, cmpS_lt]
    · have : a.depth > b.depth := by omega
      simp [h1, h2, this]
def eS (s : ByteArray) : Value := .string s
def eN (b : Nat) : Value := .pointer (some ⟨b, 0, none⟩)
/-- A dag's nodes: ID, block, what it holds. -/
abbrev NL := List (ByteArray × Nat × Nde)
def NL.ids (ns : NL) : List (ByteArray × Nat) := ns.map fun x => (x.1, x.2.1)
def NL.rows (ns : NL) : List (Nat × List Value) := ns.map fun x => (x.2.1, cNde x.2.2)
def DagA (p : Nat) (room : ByteArray) (ns : NL) : HProp := Ex (fun _ : Nat => True) (fun r => [row p 85 [.string room, .map (some r)], Mp r (menc eS eN ns.ids), Rows 91 ns.rows])
def DagR (G : Gp) (p : Nat) (room : ByteArray) (ns : NL) : Prop := ∃ r, Ro G p 85 [.string room, .map (some r)] ∧ MpR G r (menc eS eN ns.ids) ∧ RowsR G 91 ns.rows
section
variable {c : Cx} {G : Gp} {ops : Array Oper} {kk : KT} {e : Env} {A A' : List HProp} {lo : List Oper} {st : List Item} {p r : Nat} {room : ByteArray} {ns : NL}
theorem Run.rowsNil (T : TypeId) (next : Run c G st e (Rows T [] :: A)) : Run c G st e A := fun ac w h s => next ac w h (s.rows_nil T)
theorem Run.openDag (hf : Find (DagA p room ns) A A') (next : ∀ r, Run c G st e (row p 85 [.string room, .map (some r)] :: Mp r (menc eS eN ns.ids) :: Rows 91 ns.rows :: A')) : Run c G st e A := Run.openEx hf fun r _ => next r
theorem RunL.openDag (hf : Find (DagA p room ns) A A') (next : ∀ r, RunL c G ops lo kk e (row p 85 [.string room, .map (some r)] :: Mp r (menc eS eN ns.ids) :: Rows 91 ns.rows :: A')) : RunL c G ops lo kk e A := RunL.openEx hf fun r _ => next r
theorem Run.mkDag (ns : NL) (ht : Take [row p 85 [.string room, .map (some r)], Mp r (menc eS eN ns.ids), Rows 91 ns.rows] A A') (next : Run c G st e (DagA p room ns :: A')) : Run c G st e A := Run.mkEx r ht trivial next
theorem RunL.mkDag (ns : NL) (ht : Take [row p 85 [.string room, .map (some r)], Mp r (menc eS eN ns.ids), Rows 91 ns.rows] A A') (next : RunL c G ops lo kk e (DagA p room ns :: A')) : RunL c G ops lo kk e A := RunL.mkEx r ht trivial next
end
theorem DagR.mono {G G' : Gp} {p : Nat} {room : ByteArray} {ns : NL} (h : Gp.le G G') (q : DagR G p room ns) : DagR G' p room ns := by
  obtain ⟨r, h1, h2, h3⟩ := q; exact ⟨r, h1.mono h, h2.mono h, h3.mono h⟩
theorem RowsR.in_join {G : Gp} {h1 h2 : Hp} {T : TypeId} {l : List (Nat × List Value)} (d : Hp.disj G.hp (Hp.join h1 h2)) (d' : Hp.disj h1 h2) (r : ∀ x ∈ l, Ro (Gp.join G h2) x.1 T x.2) : RowsR (Gp.join G (Hp.join h1 h2)) T l := fun x hx => by
  obtain ⟨fz, q⟩ := r x hx
  refine ⟨fz, ?_⟩
  have q' : Hp.join G.hp h2 x.1 = some (.cells x.2.toArray T fz) := q
  show Hp.join G.hp (Hp.join h1 h2) x.1 = _
  unfold Hp.join at q' ⊢
  cases hG : G.hp x.1 with
  | some o => rw [hG] at q'; exact q'
  | none =>
    rw [hG] at q'
    rcases d' x.1 with z | z
    · simp only [z]; exact q'
    · rw [z] at q'; cases q'
theorem RowsR.of_rows {G : Gp} {h : Hp} {T : TypeId} {l : List (Nat × List Value)} (q : Csl.Rows T l h) (d : Hp.disj G.hp h) : RowsR (Gp.join G h) T l := by
  intro x hx
  obtain ⟨s, t, rfl⟩ := List.append_of_mem hx
  have q1 : stars ((s ++ x :: t).map fun x => Csl.row x.1 T x.2) h := q
  rw [List.map_append, List.map_cons] at q1
  have q2 : stars (Csl.row x.1 T x.2 :: (s.map (fun x => Csl.row x.1 T x.2) ++ t.map (fun x => Csl.row x.1 T x.2))) h := stars_perm List.perm_middle q1
  obtain ⟨h1, h2, d', rfl, ⟨fz, hz, rfl⟩, _⟩ := q2
  exact ⟨fz, Hp.join_right d (Hp.join_left (Hp.one_self _ _))⟩
theorem Lends.DagA {p : Nat} {room : ByteArray} {ns : NL} : Lends (Csl.DagA p room ns) (fun G => DagR G p room ns) := Lends.of fun G h q d => by
  obtain ⟨r, _, h1, h2, d1, rfl, q1, h3, h4, d2, rfl, q2, h5, h6, d3, rfl, q3, q4⟩ := q
  have e6 : h6 = Hp.empty := q4
  subst e6
  rw [Hp.join_empty] at d d1 d2 ⊢
  have dd := Hp.disj_join.1 d
  have dd2 := Hp.disj_join.1 dd.2
  have m : MpR (Gp.join G (Hp.join h3 h5)) r (menc eS eN ns.ids) := by
    have := MpR.of_mp q2 dd2.1
    obtain ⟨arr, clock, mi, g⟩ := this
    refine ⟨arr, clock, mi, ?_⟩
    have g' : Hp.join G.hp h3 r = some (.map arr clock) := g
    show Hp.join G.hp (Hp.join h3 h5) r = _
    rw [← Hp.join_assoc]; exact Hp.join_left g'
  have rr : RowsR (Gp.join G (Hp.join h3 h5)) 91 ns.rows := RowsR.in_join dd.2 d2 (RowsR.of_rows q3 dd2.2)
  refine ⟨r, ?_, MpR.in_join d m d1, RowsR.in_join d d1 rr⟩
  obtain ⟨fz, hz, e⟩ := q1
  subst e
  exact ⟨fz, Hp.join_right d (Hp.join_left (Hp.one_self _ _))⟩
theorem ids_some {ns : NL} {id : ByteArray} {b : Nat} (h : mget id ns.ids = some b) : ∃ n : Nde, (id, b, n) ∈ ns := by
  obtain ⟨x, hx, he⟩ := List.mem_map.1 (mget_mem h)
  obtain ⟨i, b', n⟩ := x
  cases he
  exact ⟨n, hx⟩
theorem rows_node {G : Gp} {ns : NL} {id : ByteArray} {b : Nat} {n : Nde} (h : RowsR G 91 ns.rows) (hm : (id, b, n) ∈ ns) : Ro G b 91 (cNde n) :=
  h (b, cNde n) (List.mem_map.2 ⟨(id, b, n), hm, rfl⟩)
/-- A node by its ID. -/
def NL.get (ns : NL) (id : ByteArray) : Option Nde := (ns.find? fun x => decide (x.1 = id)).map fun x => x.2.2
theorem get_none {ns : NL} {id : ByteArray} (h : mget id ns.ids = none) : ns.get id = none := by
  induction ns with
  | nil => rfl
  | cons x l ih =>
    unfold NL.ids at h; rw [List.map_cons, mget] at h
    split at h
    · cases h
    · rename_i hk
      unfold NL.get; rw [List.find?_cons_of_neg (by simpa using fun q => hk q.symm)]
      exact ih h
theorem get_some2 {ns : NL} {id : ByteArray} {b : Nat} (h : mget id ns.ids = some b) : ∃ n : Nde, (id, b, n) ∈ ns ∧ ns.get id = some n := by
  induction ns with
  | nil => cases h
  | cons x l ih =>
    unfold NL.ids at h; rw [List.map_cons, mget] at h
    split at h
    · rename_i hk
      obtain ⟨i, b', n⟩ := x
      simp only at hk h
      subst hk; cases h
      exact ⟨n, List.mem_cons_self, by unfold NL.get; rw [List.find?_cons_of_pos (by simp)]; rfl⟩
    · rename_i hk
      obtain ⟨n, h1, h2⟩ := ih h
      refine ⟨n, List.mem_cons_of_mem _ h1, ?_⟩
      unfold NL.get; rw [List.find?_cons_of_neg (by simpa using fun q => hk q.symm)]; exact h2
def notIn (ns : NL) (x : ByteArray) : Bool := !(mget x ns.ids).isSome
def noPos : Pos := ⟨0, .empty⟩
def noEv : Evn := ⟨.empty, .empty, ⟨none, 0, 0⟩, .empty, .empty, 0⟩
def NL.pos (ns : NL) (id : ByteArray) : Pos := match ns.get id with
  | some n => ⟨n.depth, id⟩
  | none => noPos
end Csl

set_option maxHeartbeats 4000000 in
set_option maxRecDepth 100000 in
theorem dagCompare_ctr {G : Gp} {p q : Pos} :
    Ctr Tryz.prog G 28 [.agg (cPos p).toArray, .agg (cPos q).toArray] [] (fun F v A => v = .int .i64 (cmpPos p q) ∧ A = F) := by
  refine Ctr.intro Tryz.func28 rfl (by kernel_rfl) rfl (fun F => ?_)
  simp only [List.nil_append]
  refine Run.sr ?_
  refine RunL.boxA (xs := (cPos p)) rfl (Wt.none rfl) rfl ?_; intro b2
  refine RunL.boxA (xs := (cPos q)) rfl (Wt.none rfl) rfl ?_; intro b3
  refine RunL.as rfl rfl ?_
  refine RunL.nil ?_
  refine Run.lendAll (Q := row b2 54 _) Lends.row (by first | ((repeat (first | (with_reducible exact F0 _) | apply F1)); done) | (repeat (first | exact F0 _ | apply F1))) (fun G2 hleG2 hrb2 => ?_)
  refine Run.lendAll (Q := row b3 54 _) Lends.row (by first | ((repeat (first | (with_reducible exact F0 _) | apply F1)); done) | (repeat (first | exact F0 _ | apply F1))) (fun G3 hleG3 hrb3 => ?_)
  replace hrb2 := hrb2.mono hleG3
  refine Run.seq ?_
  refine Run.regionD' (by kernel_rfl) (by kernel_rfl) (fun hok9 => ?_)
  refine RunD.pure (i := 0) hok9 rfl (by kernel_rfl) (Pure.fieldAddr rfl fo54_0) (Wt.none rfl) rfl rfl ?_
  refine RunD.load1R (i := 1) hok9 rfl (by kernel_rfl) rfl (by assumption) (by rfl) agg3 (Wt.none rfl) rfl ?_
  refine RunD.pure (i := 2) hok9 rfl (by kernel_rfl) (Pure.fieldAddr rfl fo54_0) (Wt.none rfl) rfl rfl ?_
  refine RunD.load1R (i := 3) hok9 rfl (by kernel_rfl) rfl (by assumption) (by rfl) agg3 (Wt.none rfl) rfl ?_
  refine RunD.pure (i := 5) hok9 rfl (by kernel_rfl) (Pure.fieldAddr rfl fo54_1) (Wt.none rfl) rfl rfl ?_
  refine RunD.load1R (i := 6) hok9 rfl (by kernel_rfl) rfl (by assumption) (by rfl) agg9 (Wt.none rfl) rfl ?_
  refine RunD.pure (i := 7) hok9 rfl (by kernel_rfl) (Pure.fieldAddr rfl fo54_1) (Wt.none rfl) rfl rfl ?_
  refine RunD.load1R (i := 8) hok9 rfl (by kernel_rfl) rfl (by assumption) (by rfl) agg9 (Wt.none rfl) rfl ?_
  refine RunD.one (i := 4) (by kernel_rfl) rfl ?_
  refine RunL.call rfl rfl (by rfl) (by repeat (first | (with_reducible exact Take.nil _) | (apply Take.cons (by first | ((repeat (first | (with_reducible exact F0 _) | apply F1)); done) | (repeat (first | exact F0 _ | apply F1)))))) (cmpI_ctr) (Wt.none rfl) rfl ?_
  rintro _ _ ⟨rfl, hA_⟩
  replace hA_ := hA_.symm; subst hA_
  refine RunL.nilD' ?_
  refine RunD.one (i := 9) (by kernel_rfl) rfl ?_
  refine RunL.call rfl rfl (by rfl) (by repeat (first | (with_reducible exact Take.nil _) | (apply Take.cons (by first | ((repeat (first | (with_reducible exact F0 _) | apply F1)); done) | (repeat (first | exact F0 _ | apply F1)))))) (cmpS_ctr) (Wt.none rfl) rfl ?_
  rintro _ _ ⟨rfl, hA_⟩
  replace hA_ := hA_.symm; subst hA_
  refine RunL.nilD' ?_
  refine RunD.one (i := 10) (by kernel_rfl) rfl ?_
  refine RunL.lit (vals := [_, _]) (vs := [_, _]) und77 sz3 zz3 rfl rfl rfl rfl rfl rfl (by simp [Value.cells, bv, cDD, cEvn, cGG, cNde, cPos]) rfl (Wt.none rfl) rfl ?_; intro b15
  refine RunL.nilD' ?_
  refine RunD.one (i := 11) (by kernel_rfl) rfl ?_
  refine RunL.call rfl rfl (by rfl) (by repeat (first | (with_reducible exact Take.nil _) | (apply Take.cons (by first | ((repeat (first | (with_reducible exact F0 _) | apply F1)); done) | (repeat (first | exact F0 _ | apply F1)))))) (Ctr.lend (R := fun G => SlR G 3 1 _ _ _ ∧ _ ≤ _) Lends.Sl cb45 (fun G' hle hr => Or_ctr (zs := [cmpI p.depth q.depth, cmpS p.id q.id]) hr.1 (by simp))) (Wt.none rfl) rfl ?_
  rintro _ _ ⟨_, rfl, rfl, hA_⟩
  replace hA_ := hA_.symm; subst hA_
  refine RunL.nilD' ?_
  refine RunD.pure (i := 12) hok9 rfl (by kernel_rfl) (Pure.assign rfl) (Wt.none rfl) rfl rfl ?_
  refine RunD.nilR (by kernel_rfl) ?_
  exact Run.ret Tryz.func28 (res1 rfl rfl) (by exact ⟨by simp only [orL, orI_zero]; rfl, rfl⟩) (by repeat (first | (with_reducible exact Fin.done (by repeat (first | (with_reducible exact Rest.here) | apply Rest.there))) | (apply Fin.cons (by first | ((repeat (first | (with_reducible exact F0 _) | apply F1)); done) | (repeat (first | exact F0 _ | apply F1))))))

set_option maxHeartbeats 4000000 in
set_option maxRecDepth 100000 in
theorem beforePos_ctr {G : Gp} {p q : Pos} :
    Ctr Tryz.prog G 59 [.agg (cPos p).toArray, .agg (cPos q).toArray] [] (fun F v A => v = .bool (beforePos p q) ∧ A = F) := by
  refine Ctr.intro Tryz.func59 rfl (by kernel_rfl) rfl (fun F => ?_)
  simp only [List.nil_append]
  refine Run.sr ?_
  refine RunL.boxA (xs := (cPos p)) rfl (Wt.none rfl) rfl ?_; intro b2
  refine RunL.boxA (xs := (cPos q)) rfl (Wt.none rfl) rfl ?_; intro b3
  refine RunL.as rfl rfl ?_
  refine RunL.nil ?_
  refine Run.lendAll (Q := row b2 54 _) Lends.row (by first | ((repeat (first | (with_reducible exact F0 _) | apply F1)); done) | (repeat (first | exact F0 _ | apply F1))) (fun G2 hleG2 hrb2 => ?_)
  refine Run.lendAll (Q := row b3 54 _) Lends.row (by first | ((repeat (first | (with_reducible exact F0 _) | apply F1)); done) | (repeat (first | exact F0 _ | apply F1))) (fun G3 hleG3 hrb3 => ?_)
  replace hrb2 := hrb2.mono hleG3
  refine Run.sr ?_
  refine RunL.pure (Pure.fieldAddr rfl fo54_0) (Wt.none rfl) rfl rfl ?_
  first | refine RunL.load1 rfl (by first | ((repeat (first | (with_reducible exact F0 _) | apply F1)); done) | (repeat (first | exact F0 _ | apply F1))) (by rfl) agg3 (Wt.none rfl) rfl ?_ | refine RunL.load1R rfl (by assumption) (by rfl) agg3 (Wt.none rfl) rfl ?_
  refine RunL.pure (Pure.fieldAddr rfl fo54_0) (Wt.none rfl) rfl rfl ?_
  first | refine RunL.load1 rfl (by first | ((repeat (first | (with_reducible exact F0 _) | apply F1)); done) | (repeat (first | exact F0 _ | apply F1))) (by rfl) agg3 (Wt.none rfl) rfl ?_ | refine RunL.load1R rfl (by assumption) (by rfl) agg3 (Wt.none rfl) rfl ?_
  refine RunL.pure (Pure.lss rfl rfl) (Wt.none rfl) rfl rfl ?_
  refine RunL.mv rfl rfl ?_
  refine RunL.split (d := 10) rfl (fun h1 => ?_) (fun h1 => ?_)
  · try simp only [ZA, ZB, ZC, ZD, ZE, ZF, ZG, ZH, ZI, ZJ, ZK, ZL, ZM, ZN, ZO, ZP, ZQ, ZR] at h1
    refine RunL.not (Wt.no rfl rfl rfl) rfl rfl ?_
    refine RunL.not (Wt.no rfl rfl rfl) rfl rfl ?_
    refine RunL.not (Wt.no rfl rfl rfl) rfl rfl ?_
    refine RunL.not (Wt.no rfl rfl rfl) rfl rfl ?_
    refine RunL.not (Wt.no rfl rfl rfl) rfl rfl ?_
    refine RunL.not (Wt.no rfl rfl rfl) rfl rfl ?_
    refine RunL.not (Wt.un rfl rfl rfl) rfl rfl ?_
    refine RunL.not (Wt.un rfl rfl rfl) rfl rfl ?_
    refine RunL.not (Wt.un rfl rfl rfl) rfl rfl ?_
    refine RunL.not (Wt.un rfl rfl rfl) rfl rfl ?_
    refine RunL.not (Wt.un rfl rfl rfl) rfl rfl ?_
    refine RunL.not (Wt.no rfl rfl rfl) rfl rfl ?_
    refine RunL.pure (Pure.pickT rfl rfl) (Wt.none rfl) rfl rfl ?_
    refine RunL.as rfl rfl ?_
    refine RunL.nil ?_
    exact Run.ret Tryz.func59 (res1 rfl rfl) (by exact ⟨by simp [beforePos, h1], rfl⟩) (by repeat (first | (with_reducible exact Fin.done (by repeat (first | (with_reducible exact Rest.here) | apply Rest.there))) | (apply Fin.cons (by first | ((repeat (first | (with_reducible exact F0 _) | apply F1)); done) | (repeat (first | exact F0 _ | apply F1))))))
  · try simp only [ZA, ZB, ZC, ZD, ZE, ZF, ZG, ZH, ZI, ZJ, ZK, ZL, ZM, ZN, ZO, ZP, ZQ, ZR] at h1
    refine RunL.pure (Pure.fieldAddr rfl fo54_0) (Wt.yes rfl rfl rfl) rfl rfl ?_
    first | refine RunL.load1 rfl (by first | ((repeat (first | (with_reducible exact F0 _) | apply F1)); done) | (repeat (first | exact F0 _ | apply F1))) (by rfl) agg3 (Wt.yes rfl rfl rfl) rfl ?_ | refine RunL.load1R rfl (by assumption) (by rfl) agg3 (Wt.yes rfl rfl rfl) rfl ?_
    refine RunL.pure (Pure.fieldAddr rfl fo54_0) (Wt.yes rfl rfl rfl) rfl rfl ?_
    first | refine RunL.load1 rfl (by first | ((repeat (first | (with_reducible exact F0 _) | apply F1)); done) | (repeat (first | exact F0 _ | apply F1))) (by rfl) agg3 (Wt.yes rfl rfl rfl) rfl ?_ | refine RunL.load1R rfl (by assumption) (by rfl) agg3 (Wt.yes rfl rfl rfl) rfl ?_
    refine RunL.pure (Pure.eql rfl rfl) (Wt.yes rfl rfl rfl) rfl rfl ?_
    refine RunL.pure (Pure.move rfl) (Wt.yes rfl rfl rfl) rfl rfl ?_
    refine RunL.split (d := 16) rfl (fun h2 => ?_) (fun h2 => ?_)
    · try simp only [ZA, ZB, ZC, ZD, ZE, ZF, ZG, ZH, ZI, ZJ, ZK, ZL, ZM, ZN, ZO, ZP, ZQ, ZR] at h2
      refine RunL.pure (Pure.fieldAddr rfl fo54_1) (Wt.yes rfl rfl rfl) rfl rfl ?_
      first | refine RunL.load1 rfl (by first | ((repeat (first | (with_reducible exact F0 _) | apply F1)); done) | (repeat (first | exact F0 _ | apply F1))) (by rfl) agg9 (Wt.yes rfl rfl rfl) rfl ?_ | refine RunL.load1R rfl (by assumption) (by rfl) agg9 (Wt.yes rfl rfl rfl) rfl ?_
      refine RunL.pure (Pure.fieldAddr rfl fo54_1) (Wt.yes rfl rfl rfl) rfl rfl ?_
      first | refine RunL.load1 rfl (by first | ((repeat (first | (with_reducible exact F0 _) | apply F1)); done) | (repeat (first | exact F0 _ | apply F1))) (by rfl) agg9 (Wt.yes rfl rfl rfl) rfl ?_ | refine RunL.load1R rfl (by assumption) (by rfl) agg9 (Wt.yes rfl rfl rfl) rfl ?_
      refine RunL.pure (Pure.slss rfl rfl) (Wt.yes rfl rfl rfl) rfl rfl ?_
      refine RunL.pure (Pure.pickT rfl rfl) (Wt.yes rfl rfl rfl) rfl rfl ?_
      refine RunL.pure (Pure.pickF rfl rfl) (Wt.none rfl) rfl rfl ?_
      refine RunL.as rfl rfl ?_
      refine RunL.nil ?_
      exact Run.ret Tryz.func59 (res1 rfl rfl) (by exact ⟨by simp [beforePos, h2], rfl⟩) (by repeat (first | (with_reducible exact Fin.done (by repeat (first | (with_reducible exact Rest.here) | apply Rest.there))) | (apply Fin.cons (by first | ((repeat (first | (with_reducible exact F0 _) | apply F1)); done) | (repeat (first | exact F0 _ | apply F1))))))
    · try simp only [ZA, ZB, ZC, ZD, ZE, ZF, ZG, ZH, ZI, ZJ, ZK, ZL, ZM, ZN, ZO, ZP, ZQ, ZR] at h2
      refine RunL.not (Wt.no rfl rfl rfl) rfl rfl ?_
      refine RunL.not (Wt.no rfl rfl rfl) rfl rfl ?_
      refine RunL.not (Wt.no rfl rfl rfl) rfl rfl ?_
      refine RunL.not (Wt.no rfl rfl rfl) rfl rfl ?_
      refine RunL.not (Wt.no rfl rfl rfl) rfl rfl ?_
      refine RunL.pure (Pure.pickF rfl rfl) (Wt.yes rfl rfl rfl) rfl rfl ?_
      refine RunL.pure (Pure.pickF rfl rfl) (Wt.none rfl) rfl rfl ?_
      refine RunL.as rfl rfl ?_
      refine RunL.nil ?_
      exact Run.ret Tryz.func59 (res1 rfl rfl) (by exact ⟨by have : ¬ p.depth < q.depth := (by omega); simp [beforePos, h2, this], rfl⟩) (by repeat (first | (with_reducible exact Fin.done (by repeat (first | (with_reducible exact Rest.here) | apply Rest.there))) | (apply Fin.cons (by first | ((repeat (first | (with_reducible exact F0 _) | apply F1)); done) | (repeat (first | exact F0 _ | apply F1))))))

set_option maxHeartbeats 4000000 in
set_option maxRecDepth 100000 in
theorem Has_ctr {G : Gp} {p : Nat} {room id : ByteArray} {ns : NL} (h : DagR G p room ns) :
    Ctr Tryz.prog G 36 [.pointer (some ⟨p, 0, none⟩), .string id] [] (fun F v A => v = .bool ((mget id ns.ids).isSome) ∧ A = F) := by
  refine Ctr.intro Tryz.func36 rfl (by kernel_rfl) rfl (fun F => ?_)
  simp only [List.nil_append]
  obtain ⟨r, hr, hmr, hrr⟩ := h
  refine Run.sr ?_
  refine RunL.as rfl rfl ?_
  refine RunL.nil ?_
  refine Run.sr ?_
  refine RunL.mv rfl rfl ?_
  refine RunL.pure (Pure.nilCheck rfl) (Wt.none rfl) rfl rfl ?_
  refine RunL.pure (Pure.fieldAddr rfl fo85_1) (Wt.none rfl) rfl rfl ?_
  first | refine RunL.load1 rfl (by first | ((repeat (first | (with_reducible exact F0 _) | apply F1)); done) | (repeat (first | exact F0 _ | apply F1))) (by rfl) agg83 (Wt.none rfl) rfl ?_ | refine RunL.load1R rfl (by assumption) (by rfl) agg83 (Wt.none rfl) rfl ?_
  refine RunL.mv rfl rfl ?_
  first | refine RunL.lookup (k := id) rfl rfl (by first | ((repeat (first | (with_reducible exact F0 _) | apply F1)); done) | (repeat (first | exact F0 _ | apply F1))) und83 zz89 (KeyT.string und9) (Wt.none rfl) rfl ?_ | refine RunL.lookupR (k := id) rfl rfl (by assumption) und83 zz89 (KeyT.string und9) (Wt.none rfl) rfl ?_
  cases hm : mget id ns.ids with
| none => ?_
| some b => ?_
  · skip
    refine RunL.pure (Pure.ptrNeNil0 rfl rfl und89) (Wt.none rfl) rfl rfl ?_
    refine RunL.as rfl rfl ?_
    refine RunL.nil ?_
    exact Run.ret Tryz.func36 (res1 rfl rfl) (by exact ⟨by rfl, rfl⟩) (by repeat (first | (with_reducible exact Fin.done (by repeat (first | (with_reducible exact Rest.here) | apply Rest.there))) | (apply Fin.cons (by first | ((repeat (first | (with_reducible exact F0 _) | apply F1)); done) | (repeat (first | exact F0 _ | apply F1))))))
  · skip
    refine RunL.pure (Pure.ptrNeNil rfl rfl und89) (Wt.none rfl) rfl rfl ?_
    refine RunL.as rfl rfl ?_
    refine RunL.nil ?_
    exact Run.ret Tryz.func36 (res1 rfl rfl) (by exact ⟨by rfl, rfl⟩) (by repeat (first | (with_reducible exact Fin.done (by repeat (first | (with_reducible exact Rest.here) | apply Rest.there))) | (apply Fin.cons (by first | ((repeat (first | (with_reducible exact F0 _) | apply F1)); done) | (repeat (first | exact F0 _ | apply F1))))))

set_option maxHeartbeats 4000000 in
set_option maxRecDepth 100000 in
theorem New_ctr {G : Gp} {room : ByteArray} :
    Ctr Tryz.prog G 19 [.string room] [] (fun F v A => ∃ p, v = .pointer (some ⟨p, 0, none⟩) ∧ A = DagA p room [] :: F) := by
  refine Ctr.intro Tryz.func19 rfl (by kernel_rfl) rfl (fun F => ?_)
  simp only [List.nil_append]
  refine Run.sr ?_
  refine RunL.as rfl rfl ?_
  refine RunL.nil ?_
  refine Run.sr ?_
  refine RunL.mv rfl rfl ?_
  refine RunL.makeMap (Wt.none rfl) rfl ?_; intro b4
  refine RunL.pure (Pure.buildL (ps := [(0, _), (1, _)]) (zs := [(.string .empty), (.map none)]) (xs := [_, _]) pl85 rfl rfl rfl rfl) (Wt.none rfl) rfl rfl ?_
  refine RunL.box rfl (Wt.none rfl) rfl ?_; intro b6
  refine RunL.as rfl rfl ?_
  refine RunL.nil ?_
  refine Run.rowsNil 91 ?_
  refine Run.mkDag [] (by repeat (first | (with_reducible exact Take.nil _) | (apply Take.cons (by first | ((repeat (first | (with_reducible exact F0 _) | apply F1)); done) | (repeat (first | exact F0 _ | apply F1)))))) ?_
  exact Run.ret Tryz.func19 (res1 rfl rfl) (by exact ⟨_, rfl, rfl⟩) (by repeat (first | (with_reducible exact Fin.done (by repeat (first | (with_reducible exact Rest.here) | apply Rest.there))) | (apply Fin.cons (by first | ((repeat (first | (with_reducible exact F0 _) | apply F1)); done) | (repeat (first | exact F0 _ | apply F1))))))

set_option maxHeartbeats 4000000 in
set_option maxRecDepth 100000 in
theorem Clone_ctr {G : Gp} {a : Option Addr} {c : Nat} {xs : List ByteArray} (h : SlR G 9 1 a xs.length (xs.map Value.string)) (hb : xs.length ≤ 1000000) :
    Ctr Tryz.prog G 58 [.slice a xs.length c] [] (fun F v A => ∃ a' c', v = .slice a' xs.length c' ∧ A = Sl 9 1 a' (xs).length c' ((xs).map Value.string) :: F) := by
  refine Ctr.intro Tryz.func58 rfl (by kernel_rfl) rfl (fun F => ?_)
  simp only [List.nil_append]
  cases a with
| none => ?_
| some ad => ?_
  · skip
    obtain rfl : xs = [] := by
      rcases h with ⟨h0, _⟩ | ⟨b, T', pre, post, h0, _⟩
      · exact List.eq_nil_of_length_eq_zero h0
      · cases h0
    refine Run.sr ?_
    refine RunL.as rfl rfl ?_
    refine RunL.nil ?_
    refine Run.seq ?_
    refine Run.sr ?_
    refine RunL.mv rfl rfl ?_
    refine RunL.pure (Pure.slEqNil rfl rfl und31) (Wt.none rfl) rfl rfl ?_
    refine RunL.nil ?_
    refine Run.cond rfl (fun hc1 => ?_) (fun hc1 => ?_)
    rotate_left
    · try simp only [ZA, ZB, ZC, ZD, ZE, ZF, ZG, ZH, ZI, ZJ, ZK, ZL, ZM, ZN, ZO, ZP, ZQ, ZR] at hc1
      exfalso
      simp at hc1
    try simp only [ZA, ZB, ZC, ZD, ZE, ZF, ZG, ZH, ZI, ZJ, ZK, ZL, ZM, ZN, ZO, ZP, ZQ, ZR] at hc1
    refine Run.sr ?_
    refine RunL.as rfl rfl ?_
    refine RunL.nil ?_
    refine Run.nilSl 9 1 ?_
    exact Run.ret Tryz.func58 (res1 rfl rfl) (by exact ⟨_, _, rfl, rfl⟩) (by repeat (first | (with_reducible exact Fin.done (by repeat (first | (with_reducible exact Rest.here) | apply Rest.there))) | (apply Fin.cons (by first | ((repeat (first | (with_reducible exact F0 _) | apply F1)); done) | (repeat (first | exact F0 _ | apply F1))))))
  · skip
    refine Run.sr ?_
    refine RunL.as rfl rfl ?_
    refine RunL.nil ?_
    refine Run.seq ?_
    refine Run.sr ?_
    refine RunL.mv rfl rfl ?_
    refine RunL.pure (Pure.slEqNil rfl rfl und31) (Wt.none rfl) rfl rfl ?_
    refine RunL.nil ?_
    refine Run.cond rfl (fun hc2 => ?_) (fun hc2 => ?_)
    · try simp only [ZA, ZB, ZC, ZD, ZE, ZF, ZG, ZH, ZI, ZJ, ZK, ZL, ZM, ZN, ZO, ZP, ZQ, ZR] at hc2
      exfalso
      simp at hc2
    try simp only [ZA, ZB, ZC, ZD, ZE, ZF, ZG, ZH, ZI, ZJ, ZK, ZL, ZM, ZN, ZO, ZP, ZQ, ZR] at hc2
    refine Run.skip ?_
    refine Run.sr ?_
    refine RunL.lit0 und31 sz9 (Wt.none rfl) rfl ?_; intro b5
    refine RunL.mv rfl rfl ?_
    refine RunL.append (m := xs.length) (n' := xs.length) (cs' := xs.map Value.string) rfl rfl (by first | ((repeat (first | (with_reducible exact F0 _) | apply F1)); done) | (repeat (first | exact F0 _ | apply F1))) rfl rfl und31 und31 rfl sz9 zz9 rfl by9 (by simp; omega) (by simp; omega) (fun w sw => (h.src sw)) (by simp [Value.isOne]) (by simp) (by simp) (Wt.none rfl) rfl ?_; intro a1 c1
    refine RunL.as rfl rfl ?_
    refine RunL.nil ?_
    exact Run.ret Tryz.func58 (res1 rfl rfl) (by exact ⟨_, _, rfl, rfl⟩) (by repeat (first | (with_reducible exact Fin.done (by repeat (first | (with_reducible exact Rest.here) | apply Rest.there))) | (apply Fin.cons (by first | ((repeat (first | (with_reducible exact F0 _) | apply F1)); done) | (repeat (first | exact F0 _ | apply F1))))))

set_option maxHeartbeats 4000000 in
set_option maxRecDepth 100000 in
theorem own_ctr {G : Gp} {e : Evn} {ps : List ByteArray} (h : HasPs G e ps) (hb : ps.length ≤ 1000000) :
    Ctr Tryz.prog G 39 [.agg (cEvn e).toArray] [] (fun F v A => ∃ a1 c1, v = .agg (cEvn { e with par := ⟨a1, ps.length, c1⟩ }).toArray ∧ A = Sl 9 1 a1 (ps).length c1 ((ps).map Value.string) :: F) := by
  refine Ctr.intro Tryz.func39 rfl (by kernel_rfl) rfl (fun F => ?_)
  simp only [List.nil_append]
  refine Run.sr ?_
  refine RunL.boxA (xs := (cEvn e)) rfl (Wt.none rfl) rfl ?_; intro b1
  refine RunL.alloc zz33 (Wt.none rfl) rfl ?_; intro b2
  refine RunL.nil ?_
  refine Run.sr ?_
  refine RunL.pure (Pure.fieldAddr rfl fo33_2) (Wt.none rfl) rfl rfl ?_
  first | refine RunL.load1 rfl (by first | ((repeat (first | (with_reducible exact F0 _) | apply F1)); done) | (repeat (first | exact F0 _ | apply F1))) (by rfl) agg31 (Wt.none rfl) rfl ?_ | refine RunL.load1R rfl (by assumption) (by rfl) agg31 (Wt.none rfl) rfl ?_
  rw [h.1]
  refine RunL.call rfl rfl (by rfl) (by repeat (first | (with_reducible exact Take.nil _) | (apply Take.cons (by first | ((repeat (first | (with_reducible exact F0 _) | apply F1)); done) | (repeat (first | exact F0 _ | apply F1)))))) (Clone_ctr (xs := ps) h.2 hb) (Wt.none rfl) rfl ?_
  rintro _ _ ⟨a1, c1, rfl, hA_⟩
  replace hA_ := hA_.symm; subst hA_
  refine RunL.pure (Pure.fieldAddr rfl fo33_2) (Wt.none rfl) rfl rfl ?_
  refine RunL.store1A (cs' := (cEvn ({ e with par := ⟨a1, ps.length, c1⟩ }))) rfl rfl (by first | ((repeat (first | (with_reducible exact F0 _) | apply F1)); done) | (repeat (first | exact F0 _ | apply F1))) sz31 (by rfl) (by first | exact Nat.le_of_ble_eq_true rfl | (simp; done) | (simp; omega)) rfl (Wt.none rfl) ?_
  refine RunL.nil ?_
  refine Run.sr ?_
  first | refine RunL.loadA (vs := (cEvn ({ e with par := ⟨a1, ps.length, c1⟩ }))) rfl (by first | ((repeat (first | (with_reducible exact F0 _) | apply F1)); done) | (repeat (first | exact F0 _ | apply F1))) agg33 sz33 (by first | exact Nat.le_of_ble_eq_true rfl | (simp; done) | (simp; omega)) rfl (Wt.none rfl) rfl ?_ | refine RunL.loadNR (vs := (cEvn ({ e with par := ⟨a1, ps.length, c1⟩ }))) rfl (by assumption) agg33 sz33 (by first | exact Nat.le_of_ble_eq_true rfl | (simp; done) | (simp; omega)) rfl (Wt.none rfl) rfl ?_
  refine RunL.storeW (xs := (cEvn ({ e with par := ⟨a1, ps.length, c1⟩ }))) rfl rfl (by first | ((repeat (first | (with_reducible exact F0 _) | apply F1)); done) | (repeat (first | exact F0 _ | apply F1))) sz33 (by rfl) (by rfl) (by rfl) (Wt.none rfl) ?_
  refine RunL.nil ?_
  exact Run.ret Tryz.func39 (resV1 rfl (Rv.cellN (us := (cEvn ({ e with par := ⟨a1, ps.length, c1⟩ }))) rfl (by first | ((repeat (first | (with_reducible exact F0 _) | apply F1)); done) | (repeat (first | exact F0 _ | apply F1))) agg33 sz33 (by first | exact Nat.le_of_ble_eq_true rfl | (simp; done) | (simp; omega)) rfl)) (by exact ⟨_, _, rfl, rfl⟩) (by repeat (first | (with_reducible exact Fin.done (by repeat (first | (with_reducible exact Rest.here) | apply Rest.there))) | (apply Fin.cons (by first | ((repeat (first | (with_reducible exact F0 _) | apply F1)); done) | (repeat (first | exact F0 _ | apply F1))))))

set_option maxHeartbeats 4000000 in
set_option maxRecDepth 100000 in
theorem Position_ctr {G : Gp} {p : Nat} {room id : ByteArray} {ns : NL} (h : DagR G p room ns) :
    Ctr Tryz.prog G 27 [.pointer (some ⟨p, 0, none⟩), .string id] [] (fun F v A => v = .tuple #[.agg (cPos (ns.pos id)).toArray, .bool ((mget id ns.ids).isSome)] ∧ A = F) := by
  refine Ctr.intro Tryz.func27 rfl (by kernel_rfl) rfl (fun F => ?_)
  simp only [List.nil_append]
  refine Run.sr ?_
  refine RunL.alloc zz54 (Wt.none rfl) rfl ?_; intro b4
  refine RunL.as rfl rfl ?_
  refine RunL.nil ?_
  refine Run.seq ?_
  refine Run.sr ?_
  refine RunL.mv rfl rfl ?_
  refine RunL.mv rfl rfl ?_
  refine RunL.call rfl rfl (by rfl) (by repeat (first | (with_reducible exact Take.nil _) | (apply Take.cons (by first | ((repeat (first | (with_reducible exact F0 _) | apply F1)); done) | (repeat (first | exact F0 _ | apply F1)))))) (Has_ctr h) (Wt.none rfl) rfl ?_
  rintro _ _ ⟨rfl, hA_⟩
  replace hA_ := hA_.symm; subst hA_
  obtain ⟨r, hr, hmr, hrr⟩ := h
  cases hm : mget id ns.ids with
| none => ?_
| some b => ?_
  · skip
    refine RunL.pure (Pure.not rfl) (Wt.none rfl) rfl rfl ?_
    refine RunL.nil ?_
    refine Run.cond rfl (fun hc1 => ?_) (fun hc1 => ?_)
    rotate_left
    · try simp only [ZA, ZB, ZC, ZD, ZE, ZF, ZG, ZH, ZI, ZJ, ZK, ZL, ZM, ZN, ZO, ZP, ZQ, ZR] at hc1
      exfalso
      simp at hc1
    try simp only [ZA, ZB, ZC, ZD, ZE, ZF, ZG, ZH, ZI, ZJ, ZK, ZL, ZM, ZN, ZO, ZP, ZQ, ZR] at hc1
    refine Run.sr ?_
    refine RunL.pure (Pure.buildL (ps := []) (zs := [(.int .i64 0), (.string .empty)]) (xs := (cPos noPos)) pl54 rfl rfl rfl rfl) (Wt.none rfl) rfl rfl ?_
    refine RunL.storeW (xs := (cPos noPos)) rfl rfl (by first | ((repeat (first | (with_reducible exact F0 _) | apply F1)); done) | (repeat (first | exact F0 _ | apply F1))) sz54 (by rfl) (by rfl) (by rfl) (Wt.none rfl) ?_
    refine RunL.as rfl rfl ?_
    refine RunL.nil ?_
    exact Run.ret Tryz.func27 (resV2 rfl (Rv.cellN (us := (cPos noPos)) rfl (by first | ((repeat (first | (with_reducible exact F0 _) | apply F1)); done) | (repeat (first | exact F0 _ | apply F1))) agg54 sz54 (by first | exact Nat.le_of_ble_eq_true rfl | (simp; done) | (simp; omega)) rfl) (Rv.tmp rfl)) (by exact ⟨by rw [NL.pos, get_none hm]; rfl, rfl⟩) (by repeat (first | (with_reducible exact Fin.done (by repeat (first | (with_reducible exact Rest.here) | apply Rest.there))) | (apply Fin.cons (by first | ((repeat (first | (with_reducible exact F0 _) | apply F1)); done) | (repeat (first | exact F0 _ | apply F1))))))
  · skip
    refine RunL.pure (Pure.not rfl) (Wt.none rfl) rfl rfl ?_
    refine RunL.nil ?_
    refine Run.cond rfl (fun hc2 => ?_) (fun hc2 => ?_)
    · try simp only [ZA, ZB, ZC, ZD, ZE, ZF, ZG, ZH, ZI, ZJ, ZK, ZL, ZM, ZN, ZO, ZP, ZQ, ZR] at hc2
      exfalso
      simp at hc2
    try simp only [ZA, ZB, ZC, ZD, ZE, ZF, ZG, ZH, ZI, ZJ, ZK, ZL, ZM, ZN, ZO, ZP, ZQ, ZR] at hc2
    obtain ⟨nd, hnd, hg⟩ := get_some2 hm
    have hro := rows_node hrr hnd
    refine Run.skip ?_
    refine Run.sr ?_
    refine RunL.mv rfl rfl ?_
    refine RunL.pure (Pure.nilCheck rfl) (Wt.none rfl) rfl rfl ?_
    refine RunL.pure (Pure.fieldAddr rfl fo85_1) (Wt.none rfl) rfl rfl ?_
    first | refine RunL.load1 rfl (by first | ((repeat (first | (with_reducible exact F0 _) | apply F1)); done) | (repeat (first | exact F0 _ | apply F1))) (by rfl) agg83 (Wt.none rfl) rfl ?_ | refine RunL.load1R rfl (by assumption) (by rfl) agg83 (Wt.none rfl) rfl ?_
    refine RunL.mv rfl rfl ?_
    first | refine RunL.lookup (k := id) rfl rfl (by first | ((repeat (first | (with_reducible exact F0 _) | apply F1)); done) | (repeat (first | exact F0 _ | apply F1))) und83 zz89 (KeyT.string und9) (Wt.none rfl) rfl ?_ | refine RunL.lookupR (k := id) rfl rfl (by assumption) und83 zz89 (KeyT.string und9) (Wt.none rfl) rfl ?_
    rw [hm]
    refine RunL.pure (Pure.nilCheck rfl) (Wt.none rfl) rfl rfl ?_
    refine RunL.pure (Pure.fieldAddr rfl fo91_1) (Wt.none rfl) rfl rfl ?_
    first | refine RunL.load1 rfl (by first | ((repeat (first | (with_reducible exact F0 _) | apply F1)); done) | (repeat (first | exact F0 _ | apply F1))) (by rfl) agg3 (Wt.none rfl) rfl ?_ | refine RunL.load1R rfl (by assumption) (by rfl) agg3 (Wt.none rfl) rfl ?_
    refine RunL.mv rfl rfl ?_
    refine RunL.pure (Pure.buildL (ps := [(0, _), (1, _)]) (zs := [(.int .i64 0), (.string .empty)]) (xs := (cPos ((⟨nd.depth, id⟩ : Pos)))) pl54 rfl rfl rfl rfl) (Wt.none rfl) rfl rfl ?_
    refine RunL.storeW (xs := (cPos ((⟨nd.depth, id⟩ : Pos)))) rfl rfl (by first | ((repeat (first | (with_reducible exact F0 _) | apply F1)); done) | (repeat (first | exact F0 _ | apply F1))) sz54 (by rfl) (by rfl) (by rfl) (Wt.none rfl) ?_
    refine RunL.as rfl rfl ?_
    refine RunL.nil ?_
    exact Run.ret Tryz.func27 (resV2 rfl (Rv.cellN (us := (cPos ((⟨nd.depth, id⟩ : Pos)))) rfl (by first | ((repeat (first | (with_reducible exact F0 _) | apply F1)); done) | (repeat (first | exact F0 _ | apply F1))) agg54 sz54 (by first | exact Nat.le_of_ble_eq_true rfl | (simp; done) | (simp; omega)) rfl) (Rv.tmp rfl)) (by exact ⟨by rw [NL.pos, hg]; rfl, rfl⟩) (by repeat (first | (with_reducible exact Fin.done (by repeat (first | (with_reducible exact Rest.here) | apply Rest.there))) | (apply Fin.cons (by first | ((repeat (first | (with_reducible exact F0 _) | apply F1)); done) | (repeat (first | exact F0 _ | apply F1))))))

set_option maxHeartbeats 4000000 in
set_option maxRecDepth 100000 in
theorem Add1_ctr {G : Gp} {x : ByteArray} {p b : Nat} {room : ByteArray} {ns : NL} (hd : DagR G p room ns) (hbx : Ro G b 23 [.pointer (some ⟨p, 0, none⟩)]) :
    Ctr Tryz.prog G 38 [.string x, .pointer (some ⟨b, 0, none⟩)] [] (fun F v A => v = .bool (notIn ns x) ∧ A = F) := by
  refine Ctr.intro Tryz.func38 rfl (by kernel_rfl) rfl (fun F => ?_)
  simp only [List.nil_append]
  refine Run.sr ?_
  refine RunL.as rfl rfl ?_
  refine RunL.nil ?_
  refine Run.sr ?_
  first | refine RunL.load1 rfl (by first | ((repeat (first | (with_reducible exact F0 _) | apply F1)); done) | (repeat (first | exact F0 _ | apply F1))) (by rfl) agg23 (Wt.none rfl) rfl ?_ | refine RunL.load1R rfl (by assumption) (by rfl) agg23 (Wt.none rfl) rfl ?_
  refine RunL.mv rfl rfl ?_
  refine RunL.call rfl rfl (by rfl) (by repeat (first | (with_reducible exact Take.nil _) | (apply Take.cons (by first | ((repeat (first | (with_reducible exact F0 _) | apply F1)); done) | (repeat (first | exact F0 _ | apply F1)))))) (Has_ctr hd) (Wt.none rfl) rfl ?_
  rintro _ _ ⟨rfl, hA_⟩
  replace hA_ := hA_.symm; subst hA_
  refine RunL.pure (Pure.not rfl) (Wt.none rfl) rfl rfl ?_
  refine RunL.as rfl rfl ?_
  refine RunL.nil ?_
  exact Run.ret Tryz.func38 (res1 rfl rfl) (by exact ⟨rfl, rfl⟩) (by repeat (first | (with_reducible exact Fin.done (by repeat (first | (with_reducible exact Rest.here) | apply Rest.there))) | (apply Fin.cons (by first | ((repeat (first | (with_reducible exact F0 _) | apply F1)); done) | (repeat (first | exact F0 _ | apply F1))))))

set_option maxHeartbeats 4000000 in
set_option maxRecDepth 100000 in
theorem IndexT_ctr {G : Gp} {a : Option Addr} {cap : Nat} {xs : List ByteArray} {p b : Nat} {room : ByteArray} {ns : NL} (hd : DagR G p room ns) (hbx : Ro G b 23 [.pointer (some ⟨p, 0, none⟩)]) (h : SlR G 9 1 a xs.length (xs.map Value.string)) (hb : xs.length ≤ 1000000) :
    Ctr Tryz.prog G 57 [.slice a xs.length cap, .func (.func 38) #[] #[.pointer (some ⟨b, 0, none⟩)]] [] (fun F v A => ∃ r : Int, v = .int .i64 r ∧ ((r = -1 ∧ ∀ x ∈ xs, notIn ns x = false) ∨ ∃ (i : Nat) (x : ByteArray), r = i ∧ xs[i]? = some x ∧ notIn ns x = true ∧ ∀ j y, j < i → xs[j]? = some y → notIn ns y = false) ∧ A = F) := by
  refine Ctr.intro Tryz.func57 rfl (by kernel_rfl) rfl (fun F => ?_)
  simp only [List.nil_append]
  refine Run.sr ?_
  refine RunL.as rfl rfl ?_
  refine RunL.nil ?_
  refine Run.seq ?_
  refine Run.sr ?_
  refine RunL.mv rfl rfl ?_
  refine RunL.pure (Pure.lenSl rfl rfl und31) (Wt.none rfl) rfl rfl ?_
  refine RunL.mv rfl rfl ?_
  refine RunL.nil ?_
  refine Run.block ?_
  refine Run.keep (.cons rfl (.cons rfl (.cons rfl (.cons rfl (.cons rfl (.nil))))) : Keep _ [0, 1, 6, 7, 8] _) ?_
  refine Run.loopF (F := F) (fun n e A => ∃ i : Nat, i ≤ xs.length ∧ (∀ j y, j < i → xs[j]? = some y → notIn ns y = false) ∧ n = xs.length - i ∧ e = [(0, .slice a xs.length cap), (1, .func (.func 38) #[] #[.pointer (some ⟨b, 0, none⟩)]), (6, .slice a xs.length cap), (7, .int .i64 (xs.length : Nat)), (8, .int .i64 (i : Nat))] ∧ A = F) (xs.length) (by exact ⟨0, by omega, fun j y hj => absurd hj (Nat.not_lt_zero _), rfl, rfl, rfl⟩) (by repeat (first | (with_reducible exact Fin.done (by repeat (first | (with_reducible exact Rest.here) | apply Rest.there))) | (apply Fin.cons (by first | ((repeat (first | (with_reducible exact F0 _) | apply F1)); done) | (repeat (first | exact F0 _ | apply F1)))))) ?_
  rintro n _ _ ⟨i, hi, hall, rfl, rfl, hA_⟩ ih
  replace hA_ := hA_.symm; subst hA_
  refine Run.sr ?_
  refine RunL.pure (Pure.lss rfl rfl) (Wt.none rfl) rfl rfl ?_
  refine RunL.nil ?_
  refine Run.seq ?_
  refine Run.cond rfl (fun h1 => ?_) (fun h1 => ?_)
  · try simp only [ZA, ZB, ZC, ZD, ZE, ZF, ZG, ZH, ZI, ZJ, ZK, ZL, ZM, ZN, ZO, ZP, ZQ, ZR] at h1
    obtain ⟨x, hx⟩ := get_some (xs := xs) (i := i) (by omega)
    obtain ⟨bb, Tb, preb, postb, rfl, hro⟩ := h.open1 (show 0 < xs.length by omega)
    refine Run.skip ?_
    refine Run.seq ?_
    refine Run.block ?_
    refine Run.sr ?_
    refine RunL.mv rfl rfl ?_
    refine RunL.as rfl rfl ?_
    refine RunL.nil ?_
    refine Run.sr ?_
    refine RunL.mv rfl rfl ?_
    refine RunL.mv rfl rfl ?_
    refine RunL.mv rfl rfl ?_
    refine RunL.pure (Pure.indexAddr rfl rfl und31 sz9 (by omega) (by omega)) (Wt.none rfl) rfl rfl ?_
    refine RunL.load1R rfl hro (elem1_at hx) agg9 (Wt.none rfl) rfl ?_
    refine RunL.call rfl rfl (by rfl) (by repeat (first | (with_reducible exact Take.nil _) | (apply Take.cons (by first | ((repeat (first | (with_reducible exact F0 _) | apply F1)); done) | (repeat (first | exact F0 _ | apply F1)))))) (Add1_ctr (x := x) hd hbx) (Wt.none rfl) rfl ?_
    rintro _ _ ⟨rfl, hA_⟩
    replace hA_ := hA_.symm; subst hA_
    refine RunL.nil ?_
    refine Run.cond rfl (fun h2 => ?_) (fun h2 => ?_)
    · try simp only [ZA, ZB, ZC, ZD, ZE, ZF, ZG, ZH, ZI, ZJ, ZK, ZL, ZM, ZN, ZO, ZP, ZQ, ZR] at h2
      refine Run.sr ?_
      refine RunL.mv rfl rfl ?_
      refine RunL.as rfl rfl ?_
      refine RunL.nil ?_
      exact Run.ret Tryz.func57 (res1 rfl rfl) (by exact ⟨_, rfl, .inr ⟨i, x, rfl, hx, h2, hall⟩, rfl⟩) (by repeat (first | (with_reducible exact Fin.done (by repeat (first | (with_reducible exact Rest.here) | apply Rest.there))) | (apply Fin.cons (by first | ((repeat (first | (with_reducible exact F0 _) | apply F1)); done) | (repeat (first | exact F0 _ | apply F1))))))
    · try simp only [ZA, ZB, ZC, ZD, ZE, ZF, ZG, ZH, ZI, ZJ, ZK, ZL, ZM, ZN, ZO, ZP, ZQ, ZR] at h2
      refine Run.skip ?_
      refine Run.inBlock ?_
      refine Run.region ?_
      first | refine RunL.pure (Pure.addI rfl rfl (by omega)) (Wt.none rfl) rfl rfl ?_ | refine RunL.pure (Pure.add rfl rfl) (Wt.none rfl) rfl rfl ?_
      refine RunL.mv rfl rfl ?_
      refine RunL.nil ?_
      refine Run.keep (.cons rfl (.cons rfl (.cons rfl (.cons rfl (.cons rfl (.nil))))) : Keep _ [0, 1, 6, 7, 8] _) ?_
      refine Run.againF (F := F) ih (by exact ⟨i + 1, by omega, lt_succ_of hall hx h2, rfl, rfl, rfl⟩) (by repeat (first | (with_reducible exact Fin.done (by repeat (first | (with_reducible exact Rest.here) | apply Rest.there))) | (apply Fin.cons (by first | ((repeat (first | (with_reducible exact F0 _) | apply F1)); done) | (repeat (first | exact F0 _ | apply F1)))))) ?_
      omega
  · try simp only [ZA, ZB, ZC, ZD, ZE, ZF, ZG, ZH, ZI, ZJ, ZK, ZL, ZM, ZN, ZO, ZP, ZQ, ZR] at h1
    refine Run.exit rfl ?_
    refine Run.sr ?_
    refine RunL.as rfl rfl ?_
    refine RunL.nil ?_
    exact Run.ret Tryz.func57 (res1 rfl rfl) (by exact ⟨_, rfl, .inl ⟨rfl, all_of_lt hall (by omega)⟩, rfl⟩) (by repeat (first | (with_reducible exact Fin.done (by repeat (first | (with_reducible exact Rest.here) | apply Rest.there))) | (apply Fin.cons (by first | ((repeat (first | (with_reducible exact F0 _) | apply F1)); done) | (repeat (first | exact F0 _ | apply F1))))))

set_option maxHeartbeats 4000000 in
set_option maxRecDepth 100000 in
theorem ContainsT_ctr {G : Gp} {a : Option Addr} {cap : Nat} {xs : List ByteArray} {p b : Nat} {room : ByteArray} {ns : NL} (hd : DagR G p room ns) (hbx : Ro G b 23 [.pointer (some ⟨p, 0, none⟩)]) (h : SlR G 9 1 a xs.length (xs.map Value.string)) (hb : xs.length ≤ 1000000) :
    Ctr Tryz.prog G 37 [.slice a xs.length cap, .func (.func 38) #[] #[.pointer (some ⟨b, 0, none⟩)]] [] (fun F v A => v = .bool (xs.any (notIn ns)) ∧ A = F) := by
  refine Ctr.intro Tryz.func37 rfl (by kernel_rfl) rfl (fun F => ?_)
  simp only [List.nil_append]
  refine Run.sr ?_
  refine RunL.as rfl rfl ?_
  refine RunL.nil ?_
  refine Run.sr ?_
  refine RunL.mv rfl rfl ?_
  refine RunL.mv rfl rfl ?_
  refine RunL.call rfl rfl (by rfl) (by repeat (first | (with_reducible exact Take.nil _) | (apply Take.cons (by first | ((repeat (first | (with_reducible exact F0 _) | apply F1)); done) | (repeat (first | exact F0 _ | apply F1)))))) (IndexT_ctr hd hbx h hb) (Wt.none rfl) rfl ?_
  rintro _ _ ⟨r, rfl, hri, hA_⟩
  replace hA_ := hA_.symm; subst hA_
  refine RunL.pure (Pure.geq rfl rfl) (Wt.none rfl) rfl rfl ?_
  refine RunL.as rfl rfl ?_
  refine RunL.nil ?_
  exact Run.ret Tryz.func37 (res1 rfl rfl) (by exact ⟨by congr 1; rcases hri with ⟨rfl, hno⟩ | ⟨i, x, rfl, hx, hp, _⟩; (have : xs.any (notIn ns) = false := (by rw [List.any_eq_false]; intro x hx; rw [hno x hx]; simp); rw [this]; rfl); (have : xs.any (notIn ns) = true := (by rw [List.any_eq_true]; exact ⟨x, List.mem_of_getElem? hx, hp⟩); rw [this]; simp), rfl⟩) (by repeat (first | (with_reducible exact Fin.done (by repeat (first | (with_reducible exact Rest.here) | apply Rest.there))) | (apply Fin.cons (by first | ((repeat (first | (with_reducible exact F0 _) | apply F1)); done) | (repeat (first | exact F0 _ | apply F1))))))

end Go.Proofs.YtcmkafellcfbeaaGreat
