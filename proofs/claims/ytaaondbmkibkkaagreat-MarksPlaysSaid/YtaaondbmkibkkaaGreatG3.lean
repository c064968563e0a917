/- Positions, nodes. -/
import Derived.Test.YtaaondbmkibkkaaGreatG1
set_option linter.unusedVariables false
set_option linter.unusedSimpArgs false
set_option linter.unusedSectionVars false
namespace Go.Proofs.YtaaondbmkibkkaaGreat
open Go Csl


namespace Csl
def cmpPos (a b : Pos) : Int := orI (cmpI a.depth b.depth) (cmpS a.id b.id)
theorem cmpPos_law : LawCmp cmpPos := (cmpI_law.lex cmpS_law).map (f := fun p : Pos => (p.depth, p.id)) (fun a b h => by cases a; cases b; simp_all)
def beforePos (a b : Pos) : Bool := decide (a.depth < b.depth) || (decide (a.depth = b.depth) && Op.bytesLess (bl a.id) (bl b.id))
theorem beforePos_cmp {a b : Pos} : beforePos a b = true ↔ cmpPos a b < 0 := by
  unfold beforePos cmpPos orI cmpI
  by_cases h1 : a.depth < b.depth
  · simp [h1]
  · by_cases h2 : a.depth = b.depth
    · simp [h2, cmpS_lt]
    · have : a.depth > b.depth := by omega
      simp [h1, h2, this]
def eS (s : ByteArray) : Value := .string s
def eN (b : Nat) : Value := .pointer (some ⟨b, 0, none⟩)
/-- A dag's nodes: ID, block, what it holds. -/
abbrev NL := List (ByteArray × Nat × Nde)
def NL.ids (ns : NL) : List (ByteArray × Nat) := ns.map fun x => (x.1, x.2.1)
def NL.rows (ns : NL) : List (Nat × List Value) := ns.map fun x => (x.2.1, cNde x.2.2)
def DagA (p : Nat) (room : ByteArray) (ns : NL) : HProp := Ex (fun _ : Nat => True) (fun r => [row p 156 [.string room, .map (some r)], Mp r (menc eS eN ns.ids), Rows 160 ns.rows])
def DagR (G : Gp) (p : Nat) (room : ByteArray) (ns : NL) : Prop := ∃ r, Ro G p 156 [.string room, .map (some r)] ∧ MpR G r (menc eS eN ns.ids) ∧ RowsR G 160 ns.rows
section
variable {c : Cx} {G : Gp} {ops : Array Oper} {kk : KT} {e : Env} {A A' : List HProp} {lo : List Oper} {st : List Item} {p r : Nat} {room : ByteArray} {ns : NL}
theorem Run.rowsNil (T : TypeId) (next : Run c G st e (Rows T [] :: A)) : Run c G st e A := fun ac w h s => next ac w h (s.rows_nil T)
theorem Run.openDag (hf : Find (DagA p room ns) A A') (next : ∀ r, Run c G st e (row p 156 [.string room, .map (some r)] :: Mp r (menc eS eN ns.ids) :: Rows 160 ns.rows :: A')) : Run c G st e A := Run.openEx hf fun r _ => next r
theorem RunL.openDag (hf : Find (DagA p room ns) A A') (next : ∀ r, RunL c G ops lo kk e (row p 156 [.string room, .map (some r)] :: Mp r (menc eS eN ns.ids) :: Rows 160 ns.rows :: A')) : RunL c G ops lo kk e A := RunL.openEx hf fun r _ => next r
theorem Run.mkDag (ns : NL) (ht : Take [row p 156 [.string room, .map (some r)], Mp r (menc eS eN ns.ids), Rows 160 ns.rows] A A') (next : Run c G st e (DagA p room ns :: A')) : Run c G st e A := Run.mkEx r ht trivial next
theorem RunL.mkDag (ns : NL) (ht : Take [row p 156 [.string room, .map (some r)], Mp r (menc eS eN ns.ids), Rows 160 ns.rows] A A') (next : RunL c G ops lo kk e (DagA p room ns :: A')) : RunL c G ops lo kk e A := RunL.mkEx r ht trivial next
end
theorem DagR.mono {G G' : Gp} {p : Nat} {room : ByteArray} {ns : NL} (h : Gp.le G G') (q : DagR G p room ns) : DagR G' p room ns := by
  obtain ⟨r, h1, h2, h3⟩ := q; exact ⟨r, h1.mono h, h2.mono h, h3.mono h⟩
theorem RowsR.in_join {G : Gp} {h1 h2 : Hp} {T : TypeId} {l : List (Nat × List Value)} (d : Hp.disj G.hp (Hp.join h1 h2)) (d' : Hp.disj h1 h2) (r : ∀ x ∈ l, Ro (Gp.join G h2) x.1 T x.2) : RowsR (Gp.join G (Hp.join h1 h2)) T l := fun x hx => by
  obtain ⟨fz, q⟩ := r x hx
  refine ⟨fz, ?_⟩
  have q' : Hp.join G.hp h2 x.1 = some (.cells x.2.toArray T fz) := q
  show Hp.join G.hp (Hp.join h1 h2) x.1 = _
  unfold Hp.join at q' ⊢
  cases hG : G.hp x.1 with
  | some o => rw [hG] at q'; exact q'
  | none =>
    rw [hG] at q'
    rcases d' x.1 with z | z
    · simp only [z]; exact q'
    · rw [z] at q'; cases q'
theorem RowsR.of_rows {G : Gp} {h : Hp} {T : TypeId} {l : List (Nat × List Value)} (q : Csl.Rows T l h) (d : Hp.disj G.hp h) : RowsR (Gp.join G h) T l := by
  intro x hx
  obtain ⟨s, t, rfl⟩ := List.append_of_mem hx
  have q1 : stars ((s ++ x :: t).map fun x => Csl.row x.1 T x.2) h := q
  rw [List.map_append, List.map_cons] at q1
  have q2 : stars (Csl.row x.1 T x.2 :: (s.map (fun x => Csl.row x.1 T x.2) ++ t.map (fun x => Csl.row x.1 T x.2))) h := stars_perm List.perm_middle q1
  obtain ⟨h1, h2, d', rfl, ⟨fz, hz, rfl⟩, _⟩ := q2
  exact ⟨fz, Hp.join_right d (Hp.join_left (Hp.one_self _ _))⟩
theorem Lends.DagA {p : Nat} {room : ByteArray} {ns : NL} : Lends (Csl.DagA p room ns) (fun G => DagR G p room ns) := Lends.of fun G h q d => by
  obtain ⟨r, _, h1, h2, d1, rfl, q1, h3, h4, d2, rfl, q2, h5, h6, d3, rfl, q3, q4⟩ := q
  have e6 : h6 = Hp.empty := q4
  subst e6
  rw [Hp.join_empty] at d d1 d2 ⊢
  have dd := Hp.disj_join.1 d
  have dd2 := Hp.disj_join.1 dd.2
  have m : MpR (Gp.join G (Hp.join h3 h5)) r (menc eS eN ns.ids) := by
    have := MpR.of_mp q2 dd2.1
    obtain ⟨arr, clock, mi, g⟩ := this
    refine ⟨arr, clock, mi, ?_⟩
    have g' : Hp.join G.hp h3 r = some (.map arr clock) := g
    show Hp.join G.hp (Hp.join h3 h5) r = _
    rw [← Hp.join_assoc]; exact Hp.join_left g'
  have rr : RowsR (Gp.join G (Hp.join h3 h5)) 160 ns.rows := RowsR.in_join dd.2 d2 (RowsR.of_rows q3 dd2.2)
  refine ⟨r, ?_, MpR.in_join d m d1, RowsR.in_join d d1 rr⟩
  obtain ⟨fz, hz, e⟩ := q1
  subst e
  exact ⟨fz, Hp.join_right d (Hp.join_left (Hp.one_self _ _))⟩
theorem ids_some {ns : NL} {id : ByteArray} {b : Nat} (h : mget id ns.ids = some b) : ∃ n : Nde, (id, b, n) ∈ ns := by
  obtain ⟨x, hx, he⟩ := List.mem_map.1 (mget_mem h)
  obtain ⟨i, b', n⟩ := x
  cases he
  exact ⟨n, hx⟩
theorem rows_node {G : Gp} {ns : NL} {id : ByteArray} {b : Nat} {n : Nde} (h : RowsR G 160 ns.rows) (hm : (id, b, n) ∈ ns) : Ro G b 160 (cNde n) :=
  h (b, cNde n) (List.mem_map.2 ⟨(id, b, n), hm, rfl⟩)
/-- A node by its ID. -/
def NL.get (ns : NL) (id : ByteArray) : Option Nde := (ns.find? fun x => decide (x.1 = id)).map fun x => x.2.2
theorem get_none {ns : NL} {id : ByteArray} (h : mget id ns.ids = none) : ns.get id = none := by
  induction ns with
  | nil => rfl
  | cons x l ih =>
    unfold NL.ids at h; rw [List.map_cons, mget] at h
    split at h
    · cases h
    · rename_i hk
      unfold NL.get; rw [List.find?_cons_of_neg (by simpa using fun q => hk q.symm)]
      exact ih h
theorem get_some2 {ns : NL} {id : ByteArray} {b : Nat} (h : mget id ns.ids = some b) : ∃ n : Nde, (id, b, n) ∈ ns ∧ ns.get id = some n := by
  induction ns with
  | nil => cases h
  | cons x l ih =>
    unfold NL.ids at h; rw [List.map_cons, mget] at h
    split at h
    · rename_i hk
      obtain ⟨i, b', n⟩ := x
      simp only at hk h
      subst hk; cases h
      exact ⟨n, List.mem_cons_self, by unfold NL.get; rw [List.find?_cons_of_pos (by simp)]; rfl⟩
    · rename_i hk
      obtain ⟨n, h1, h2⟩ := ih h
      refine ⟨n, List.mem_cons_of_mem _ h1, ?_⟩
      unfold NL.get; rw [List.find?_cons_of_neg (by simpa using fun q => hk q.symm)]; exact h2
def notIn (ns : NL) (x : ByteArray) : Bool := !(mget x ns.ids).isSome
def noPos : Pos := ⟨0, .empty⟩
def noEv : Evn := ⟨.empty, .empty, ⟨none, 0, 0⟩, .empty, .empty, 0⟩
def NL.pos (ns : NL) (id : ByteArray) : Pos := match ns.get id with
  | some n => ⟨n.depth, id⟩
  | none => noPos
end Csl

set_option maxHeartbeats 4000000 in
set_option maxRecDepth 100000 in
theorem dagCompare_ctr {G : Gp} {p q : Pos} :
    Ctr Tryz.prog G 86 [.agg (cPos p).toArray, .agg (cPos q).toArray] [] (fun F v A => v = .int .i64 (cmpPos p q) ∧ A = F) := by
  refine Ctr.intro Tryz.func86 rfl (by kernel_rfl) rfl (fun F => ?_)
  simp only [List.nil_append]
  refine sr' ?_
  refine RunL.boxA (xs := (cPos p)) rfl (Wt.none rfl) rfl ?_; intro b2
  refine RunL.boxA (xs := (cPos q)) rfl (Wt.none rfl) rfl ?_; intro b3
  refine as' rfl (nl' ?_)
  refine la' (row b2 69 _) Lends.row fun G2 hleG2 hrb2 => ?_
  refine la' (row b3 69 _) Lends.row fun G3 hleG3 hrb3 => ?_
  replace hrb2 := hrb2.mono hleG3
  refine sq' ?_
  refine Run.regionD' (by kernel_rfl) (by kernel_rfl) (fun hok9 => ?_)
  refine dp' 0 hok9 rfl (Pure.fieldAddr rfl fo69_0) (dl' 1 hok9 rfl rfl agg3 ?_)
  refine dp' 2 hok9 rfl (Pure.fieldAddr rfl fo69_0) (dl' 3 hok9 rfl rfl agg3 ?_)
  refine dp' 5 hok9 rfl (Pure.fieldAddr rfl fo69_1) (dl' 6 hok9 rfl rfl agg9 ?_)
  refine dp' 7 hok9 rfl (Pure.fieldAddr rfl fo69_1) (dl' 8 hok9 rfl rfl agg9 ?_)
  refine RunD.one (i := 4) (by kernel_rfl) rfl ?_
  refine ca' rfl rfl (s := cmpI_ctr) (q := ?_)
  rintro _ _ ⟨rfl, hA_⟩
  replace hA_ := hA_.symm; subst hA_
  refine RunL.nilD' ?_
  refine RunD.one (i := 9) (by kernel_rfl) rfl ?_
  refine ca' rfl rfl (s := cmpS_ctr) (q := ?_)
  rintro _ _ ⟨rfl, hA_⟩
  replace hA_ := hA_.symm; subst hA_
  refine RunL.nilD' ?_
  refine RunD.one (i := 10) (by kernel_rfl) rfl ?_
  refine RunL.lit (vals := [_, _]) (vs := [_, _]) und43 sz3 zz3 rfl rfl rfl rfl rfl rfl (by simp [Value.cells, bv, cDD, cEdu, cEvn, cGG, cK, cM, cNde, cPP, cPos, cSS, cVV]) rfl (Wt.none rfl) rfl ?_; intro b15
  refine RunL.nilD' ?_
  refine RunD.one (i := 11) (by kernel_rfl) rfl ?_
  refine ca' rfl rfl (s := Ctr.lend (R := fun G => SlR G 3 1 _ _ _ ∧ _ ≤ _) Lends.Sl cb98 (fun G' hle hr => Or_ctr (zs := [cmpI p.depth q.depth, cmpS p.id q.id]) hr.1 (by simp))) (q := ?_)
  rintro _ _ ⟨_, rfl, rfl, hA_⟩
  replace hA_ := hA_.symm; subst hA_
  refine RunL.nilD' ?_
  refine dp' 12 hok9 rfl (Pure.assign rfl) ?_
  refine RunD.nilR (by kernel_rfl) ?_
  exact rt' Tryz.func86 (res1 rfl rfl) (by exact ⟨by simp only [orL, orI_zero]; rfl, rfl⟩)

set_option maxHeartbeats 4000000 in
set_option maxRecDepth 100000 in
theorem beforePos_ctr {G : Gp} {p q : Pos} :
    Ctr Tryz.prog G 30 [.agg (cPos p).toArray, .agg (cPos q).toArray] [] (fun F v A => v = .bool (beforePos p q) ∧ A = F) := by
  refine Ctr.intro Tryz.func30 rfl (by kernel_rfl) rfl (fun F => ?_)
  simp only [List.nil_append]
  refine sr' ?_
  refine RunL.boxA (xs := (cPos p)) rfl (Wt.none rfl) rfl ?_; intro b2
  refine RunL.boxA (xs := (cPos q)) rfl (Wt.none rfl) rfl ?_; intro b3
  refine as' rfl (nl' ?_)
  refine la' (row b2 69 _) Lends.row fun G2 hleG2 hrb2 => ?_
  refine la' (row b3 69 _) Lends.row fun G3 hleG3 hrb3 => ?_
  replace hrb2 := hrb2.mono hleG3
  refine sr' (pp' (Pure.fieldAddr rfl fo69_0) (l1' rfl agg3 ?_))
  refine pp' (Pure.fieldAddr rfl fo69_0) (l1' rfl agg3 ?_)
  refine pp' (Pure.lss rfl rfl) (mv' rfl ?_)
  refine RunL.split (d := 10) rfl (fun h1 => ?_) (fun h1 => ?_)
  · try simp only [Z] at h1
    refine no' (no' (no' (no' (no' (no' (un' (un' (un' (un' (un' (no' (pp' (Pure.pickT rfl rfl) (as' rfl (nl' ?_))))))))))))))
    exact rt' Tryz.func30 (res1 rfl rfl) (by exact ⟨by simp [beforePos, h1], rfl⟩)
  · try simp only [Z] at h1
    refine py' (Pure.fieldAddr rfl fo69_0) (l1' rfl agg3 ?_)
    refine py' (Pure.fieldAddr rfl fo69_0) (l1' rfl agg3 ?_)
    refine py' (Pure.eql rfl rfl) (py' (Pure.move rfl) ?_)
    refine RunL.split (d := 16) rfl (fun h2 => ?_) (fun h2 => ?_)
    · try simp only [Z] at h2
      refine py' (Pure.fieldAddr rfl fo69_1) (l1' rfl agg9 ?_)
      refine py' (Pure.fieldAddr rfl fo69_1) (l1' rfl agg9 ?_)
      refine py' (Pure.slss rfl rfl) (py' (Pure.pickT rfl rfl) (pp' (Pure.pickF rfl rfl) (as' rfl (nl' ?_))))
      exact rt' Tryz.func30 (res1 rfl rfl) (by exact ⟨by simp [beforePos, h2], rfl⟩)
    · try simp only [Z] at h2
      refine no' (no' (no' (no' (no' (py' (Pure.pickF rfl rfl) (pp' (Pure.pickF rfl rfl) (as' rfl (nl' ?_))))))))
      exact rt' Tryz.func30 (res1 rfl rfl) (by exact ⟨by have : ¬ p.depth < q.depth := (by omega); simp [beforePos, h2, this], rfl⟩)

set_option maxHeartbeats 4000000 in
set_option maxRecDepth 100000 in
theorem Has_ctr {G : Gp} {p : Nat} {room id : ByteArray} {ns : NL} (h : DagR G p room ns) :
    Ctr Tryz.prog G 89 [.pointer (some ⟨p, 0, none⟩), .string id] [] (fun F v A => v = .bool ((mget id ns.ids).isSome) ∧ A = F) := by
  refine Ctr.intro Tryz.func89 rfl (by kernel_rfl) rfl (fun F => ?_)
  simp only [List.nil_append]
  obtain ⟨r, hr, hmr, hrr⟩ := h
  refine sr' (as' rfl (nl' (sr' (mv' rfl (pp' (Pure.nilCheck rfl) (pp' (Pure.fieldAddr rfl fo156_1) (l1' rfl agg154 ?_)))))))
  refine mv' rfl ?_
  first | refine RunL.lookup (k := id) rfl rfl (by first | ((repeat (first | (with_reducible exact F0 _) | apply F1)); done) | (repeat (first | exact F0 _ | apply F1))) und154 zz158 (KeyT.string und9) (Wt.none rfl) rfl ?_ | refine RunL.lookupR (k := id) rfl rfl (by assumption) und154 zz158 (KeyT.string und9) (Wt.none rfl) rfl ?_
  cases hm : mget id ns.ids with
| none => ?_
| some b => ?_
  · skip
    refine pp' (Pure.ptrNeNil0 rfl rfl und158) (as' rfl (nl' ?_))
    exact rt' Tryz.func89 (res1 rfl rfl) (by exact ⟨by rfl, rfl⟩)
  · skip
    refine pp' (Pure.ptrNeNil rfl rfl und158) (as' rfl (nl' ?_))
    exact rt' Tryz.func89 (res1 rfl rfl) (by exact ⟨by rfl, rfl⟩)

set_option maxHeartbeats 4000000 in
set_option maxRecDepth 100000 in
theorem New_ctr {G : Gp} {room : ByteArray} :
    Ctr Tryz.prog G 87 [.string room] [] (fun F v A => ∃ p, v = .pointer (some ⟨p, 0, none⟩) ∧ A = DagA p room [] :: F) := by
  refine Ctr.intro Tryz.func87 rfl (by kernel_rfl) rfl (fun F => ?_)
  simp only [List.nil_append]
  refine sr' (as' rfl (nl' (sr' (mv' rfl ?_))))
  refine RunL.makeMap (Wt.none rfl) rfl ?_; intro b4
  refine pp' (Pure.buildL (ps := [(0, _), (1, _)]) (zs := [(.string .empty), (.map none)]) (xs := [_, _]) pl156 rfl rfl rfl rfl) ?_
  refine RunL.box rfl (Wt.none rfl) rfl ?_; intro b6
  refine as' rfl (nl' ?_)
  refine Run.rowsNil 160 ?_
  refine Run.mkDag [] (by repeat (first | (with_reducible exact Take.nil _) | (apply Take.cons (by first | ((repeat (first | (with_reducible exact F0 _) | apply F1)); done) | (repeat (first | exact F0 _ | apply F1)))))) ?_
  exact rt' Tryz.func87 (res1 rfl rfl) (by exact ⟨_, rfl, rfl⟩)

set_option maxHeartbeats 4000000 in
set_option maxRecDepth 100000 in
theorem Clone_ctr {G : Gp} {a : Option Addr} {c : Nat} {xs : List ByteArray} (h : SlR G 9 1 a xs.length (xs.map Value.string)) (hb : xs.length ≤ 1000000) :
    Ctr Tryz.prog G 119 [.slice a xs.length c] [] (fun F v A => ∃ a' c', v = .slice a' xs.length c' ∧ A = Sl 9 1 a' (xs).length c' ((xs).map Value.string) :: F) := by
  refine Ctr.intro Tryz.func119 rfl (by kernel_rfl) rfl (fun F => ?_)
  simp only [List.nil_append]
  cases a with
| none => ?_
| some ad => ?_
  · skip
    obtain rfl : xs = [] := by
      rcases h with ⟨h0, _⟩ | ⟨b, T', pre, post, h0, _⟩
      · exact List.eq_nil_of_length_eq_zero h0
      · cases h0
    refine sr' (as' rfl (nl' (sq' (sr' (mv' rfl (pp' (Pure.slEqNil rfl rfl und47) (nl' ?_)))))))
    refine Run.cond rfl (fun hc1 => ?_) (fun hc1 => ?_)
    rotate_left
    · try simp only [Z] at hc1
      exfalso
      simp at hc1
    try simp only [Z] at hc1
    refine sr' (as' rfl (nl' ?_))
    refine Run.nilSl 9 1 ?_
    exact rt' Tryz.func119 (res1 rfl rfl) (by exact ⟨_, _, rfl, rfl⟩)
  · skip
    refine sr' (as' rfl (nl' (sq' (sr' (mv' rfl (pp' (Pure.slEqNil rfl rfl und47) (nl' ?_)))))))
    refine Run.cond rfl (fun hc2 => ?_) (fun hc2 => ?_)
    · try simp only [Z] at hc2
      exfalso
      simp at hc2
    try simp only [Z] at hc2
    refine sk' (sr' ?_)
    refine RunL.lit0 und47 sz9 (Wt.none rfl) rfl ?_; intro b5
    refine mv' rfl ?_
    refine RunL.append (m := xs.length) (n' := xs.length) (cs' := xs.map Value.string) rfl rfl (by first | ((repeat (first | (with_reducible exact F0 _) | apply F1)); done) | (repeat (first | exact F0 _ | apply F1))) rfl rfl und47 und47 rfl sz9 zz9 rfl by9 (by simp; omega) (by simp; omega) (fun w sw => (h.src sw)) (by simp [Value.isOne]) (by simp) (by simp) (Wt.none rfl) rfl ?_; intro a1 c1
    refine as' rfl (nl' ?_)
    exact rt' Tryz.func119 (res1 rfl rfl) (by exact ⟨_, _, rfl, rfl⟩)

set_option maxHeartbeats 4000000 in
set_option maxRecDepth 100000 in
theorem own_ctr {G : Gp} {e : Evn} {ps : List ByteArray} (h : HasPs G e ps) (hb : ps.length ≤ 1000000) :
    Ctr Tryz.prog G 92 [.agg (cEvn e).toArray] [] (fun F v A => ∃ a1 c1, v = .agg (cEvn { e with par := ⟨a1, ps.length, c1⟩ }).toArray ∧ A = Sl 9 1 a1 (ps).length c1 ((ps).map Value.string) :: F) := by
  refine Ctr.intro Tryz.func92 rfl (by kernel_rfl) rfl (fun F => ?_)
  simp only [List.nil_append]
  refine sr' ?_
  refine RunL.boxA (xs := (cEvn e)) rfl (Wt.none rfl) rfl ?_; intro b1
  refine RunL.alloc zz49 (Wt.none rfl) rfl ?_; intro b2
  refine nl' (sr' (pp' (Pure.fieldAddr rfl fo49_2) (l1' rfl agg47 ?_)))
  rw [h.1]
  refine ca' rfl rfl (s := Clone_ctr (xs := ps) h.2 hb) (q := ?_)
  rintro _ _ ⟨a1, c1, rfl, hA_⟩
  replace hA_ := hA_.symm; subst hA_
  refine pp' (Pure.fieldAddr rfl fo49_2) ?_
  refine RunL.store1A (cs' := (cEvn ({ e with par := ⟨a1, ps.length, c1⟩ }))) rfl rfl (by first | ((repeat (first | (with_reducible exact F0 _) | apply F1)); done) | (repeat (first | exact F0 _ | apply F1))) sz47 (by rfl) (by first | exact Nat.le_of_ble_eq_true rfl | (simp; done) | (simp; omega)) rfl (Wt.none rfl) ?_
  refine nl' (sr' (lA' (cEvn ({ e with par := ⟨a1, ps.length, c1⟩ })) rfl agg49 sz49 ?_))
  refine sW' (cEvn ({ e with par := ⟨a1, ps.length, c1⟩ })) rfl rfl sz49 ?_
  refine nl' ?_
  exact rt' Tryz.func92 (resV1 rfl (Rv.cellN (us := (cEvn ({ e with par := ⟨a1, ps.length, c1⟩ }))) rfl (by first | ((repeat (first | (with_reducible exact F0 _) | apply F1)); done) | (repeat (first | exact F0 _ | apply F1))) agg49 sz49 (by first | exact Nat.le_of_ble_eq_true rfl | (simp; done) | (simp; omega)) rfl)) (by exact ⟨_, _, rfl, rfl⟩)

set_option maxHeartbeats 4000000 in
set_option maxRecDepth 100000 in
theorem Position_ctr {G : Gp} {p : Nat} {room id : ByteArray} {ns : NL} (h : DagR G p room ns) :
    Ctr Tryz.prog G 65 [.pointer (some ⟨p, 0, none⟩), .string id] [] (fun F v A => v = .tuple #[.agg (cPos (ns.pos id)).toArray, .bool ((mget id ns.ids).isSome)] ∧ A = F) := by
  refine Ctr.intro Tryz.func65 rfl (by kernel_rfl) rfl (fun F => ?_)
  simp only [List.nil_append]
  refine sr' ?_
  refine RunL.alloc zz69 (Wt.none rfl) rfl ?_; intro b4
  refine as' rfl (nl' (sq' (sr' (mv' rfl (mv' rfl ?_)))))
  refine ca' rfl rfl (s := Has_ctr h) (q := ?_)
  rintro _ _ ⟨rfl, hA_⟩
  replace hA_ := hA_.symm; subst hA_
  obtain ⟨r, hr, hmr, hrr⟩ := h
  cases hm : mget id ns.ids with
| none => ?_
| some b => ?_
  · skip
    refine pp' (Pure.not rfl) (nl' ?_)
    refine Run.cond rfl (fun hc1 => ?_) (fun hc1 => ?_)
    rotate_left
    · try simp only [Z] at hc1
      exfalso
      simp at hc1
    try simp only [Z] at hc1
    refine sr' (pp' (Pure.buildL (ps := []) (zs := [(.int .i64 0), (.string .empty)]) (xs := (cPos noPos)) pl69 rfl rfl rfl rfl) (sW' (cPos noPos) rfl rfl sz69 ?_))
    refine as' rfl (nl' ?_)
    exact rt' Tryz.func65 (resV2 rfl (Rv.cellN (us := (cPos noPos)) rfl (by first | ((repeat (first | (with_reducible exact F0 _) | apply F1)); done) | (repeat (first | exact F0 _ | apply F1))) agg69 sz69 (by first | exact Nat.le_of_ble_eq_true rfl | (simp; done) | (simp; omega)) rfl) (Rv.tmp rfl)) (by exact ⟨by rw [NL.pos, get_none hm]; rfl, rfl⟩)
  · skip
    refine pp' (Pure.not rfl) (nl' ?_)
    refine Run.cond rfl (fun hc2 => ?_) (fun hc2 => ?_)
    · try simp only [Z] at hc2
      exfalso
      simp at hc2
    try simp only [Z] at hc2
    obtain ⟨nd, hnd, hg⟩ := get_some2 hm
    have hro := rows_node hrr hnd
    refine sk' (sr' (mv' rfl (pp' (Pure.nilCheck rfl) (pp' (Pure.fieldAddr rfl fo156_1) (l1' rfl agg154 ?_)))))
    refine mv' rfl ?_
    first | refine RunL.lookup (k := id) rfl rfl (by first | ((repeat (first | (with_reducible exact F0 _) | apply F1)); done) | (repeat (first | exact F0 _ | apply F1))) und154 zz158 (KeyT.string und9) (Wt.none rfl) rfl ?_ | refine RunL.lookupR (k := id) rfl rfl (by assumption) und154 zz158 (KeyT.string und9) (Wt.none rfl) rfl ?_
    rw [hm]
    refine pp' (Pure.nilCheck rfl) (pp' (Pure.fieldAddr rfl fo160_1) (l1' rfl agg3 ?_))
    refine mv' rfl (pp' (Pure.buildL (ps := [(0, _), (1, _)]) (zs := [(.int .i64 0), (.string .empty)]) (xs := (cPos ((⟨nd.depth, id⟩ : Pos)))) pl69 rfl rfl rfl rfl) (sW' (cPos ((⟨nd.depth, id⟩ : Pos))) rfl rfl sz69 ?_))
    refine as' rfl (nl' ?_)
    exact rt' Tryz.func65 (resV2 rfl (Rv.cellN (us := (cPos ((⟨nd.depth, id⟩ : Pos)))) rfl (by first | ((repeat (first | (with_reducible exact F0 _) | apply F1)); done) | (repeat (first | exact F0 _ | apply F1))) agg69 sz69 (by first | exact Nat.le_of_ble_eq_true rfl | (simp; done) | (simp; omega)) rfl) (Rv.tmp rfl)) (by exact ⟨by rw [NL.pos, hg]; rfl, rfl⟩)

set_option maxHeartbeats 4000000 in
set_option maxRecDepth 100000 in
theorem Add1_ctr {G : Gp} {x : ByteArray} {p b : Nat} {room : ByteArray} {ns : NL} (hd : DagR G p room ns) (hbx : Ro G b 109 [.pointer (some ⟨p, 0, none⟩)]) :
    Ctr Tryz.prog G 91 [.string x, .pointer (some ⟨b, 0, none⟩)] [] (fun F v A => v = .bool (notIn ns x) ∧ A = F) := by
  refine Ctr.intro Tryz.func91 rfl (by kernel_rfl) rfl (fun F => ?_)
  simp only [List.nil_append]
  refine sr' (as' rfl (nl' (sr' (l1' rfl agg109 ?_))))
  refine mv' rfl ?_
  refine ca' rfl rfl (s := Has_ctr hd) (q := ?_)
  rintro _ _ ⟨rfl, hA_⟩
  replace hA_ := hA_.symm; subst hA_
  refine pp' (Pure.not rfl) (as' rfl (nl' ?_))
  exact rt' Tryz.func91 (res1 rfl rfl) (by exact ⟨rfl, rfl⟩)

set_option maxHeartbeats 4000000 in
set_option maxRecDepth 100000 in
theorem IndexT_ctr {G : Gp} {a : Option Addr} {cap : Nat} {xs : List ByteArray} {p b : Nat} {room : ByteArray} {ns : NL} (hd : DagR G p room ns) (hbx : Ro G b 109 [.pointer (some ⟨p, 0, none⟩)]) (h : SlR G 9 1 a xs.length (xs.map Value.string)) (hb : xs.length ≤ 1000000) :
    Ctr Tryz.prog G 118 [.slice a xs.length cap, .func (.func 91) #[] #[.pointer (some ⟨b, 0, none⟩)]] [] (fun F v A => ∃ r : Int, v = .int .i64 r ∧ ((r = -1 ∧ ∀ x ∈ xs, notIn ns x = false) ∨ ∃ (i : Nat) (x : ByteArray), r = i ∧ xs[i]? = some x ∧ notIn ns x = true ∧ ∀ j y, j < i → xs[j]? = some y → notIn ns y = false) ∧ A = F) := by
  refine Ctr.intro Tryz.func118 rfl (by kernel_rfl) rfl (fun F => ?_)
  simp only [List.nil_append]
  refine sr' (as' rfl (nl' (sq' (sr' (mv' rfl (pp' (Pure.lenSl rfl rfl und47) (mv' rfl (nl' (bl' ?_)))))))))
  refine kp' [0, 1, 6, 7, 8] ?_
  refine lp' F (fun n e A => ∃ i : Nat, i ≤ xs.length ∧ (∀ j y, j < i → xs[j]? = some y → notIn ns y = false) ∧ n = xs.length - i ∧ e = [(0, .slice a xs.length cap), (1, .func (.func 91) #[] #[.pointer (some ⟨b, 0, none⟩)]), (6, .slice a xs.length cap), (7, .int .i64 (xs.length : Nat)), (8, .int .i64 (i : Nat))] ∧ A = F) (xs.length) (by exact ⟨0, by omega, fun j y hj => absurd hj (Nat.not_lt_zero _), rfl, rfl, rfl⟩) ?_
  rintro n _ _ ⟨i, hi, hall, rfl, rfl, hA_⟩ ih
  replace hA_ := hA_.symm; subst hA_
  refine sr' (pp' (Pure.lss rfl rfl) (nl' (sq' ?_)))
  refine Run.cond rfl (fun h1 => ?_) (fun h1 => ?_)
  · try simp only [Z] at h1
    obtain ⟨x, hx⟩ := get_some (xs := xs) (i := i) (by omega)
    obtain ⟨bb, Tb, preb, postb, rfl, hro⟩ := h.open1 (show 0 < xs.length by omega)
    refine sk' (sq' (bl' (sr' (mv' rfl (as' rfl (nl' (sr' (mv' rfl (mv' rfl (mv' rfl ?_))))))))))
    refine pp' (Pure.indexAddr rfl rfl und47 sz9 (by omega) (by omega)) ?_
    refine RunL.load1R rfl hro (elem1_at hx) agg9 (Wt.none rfl) rfl ?_
    refine ca' rfl rfl (s := Add1_ctr (x := x) hd hbx) (q := ?_)
    rintro _ _ ⟨rfl, hA_⟩
    replace hA_ := hA_.symm; subst hA_
    refine nl' ?_
    refine Run.cond rfl (fun h2 => ?_) (fun h2 => ?_)
    · try simp only [Z] at h2
      refine sr' (mv' rfl (as' rfl (nl' ?_)))
      exact rt' Tryz.func118 (res1 rfl rfl) (by exact ⟨_, rfl, .inr ⟨i, x, rfl, hx, h2, hall⟩, rfl⟩)
    · try simp only [Z] at h2
      refine sk' (ib' (rg' ?_))
      first | refine RunL.pure (Pure.addI rfl rfl (by omega)) (Wt.none rfl) rfl rfl ?_ | refine RunL.pure (Pure.add rfl rfl) (Wt.none rfl) rfl rfl ?_
      refine mv' rfl (nl' ?_)
      refine kp' [0, 1, 6, 7, 8] ?_
      exact ag' F ih (by exact ⟨i + 1, by omega, lt_succ_of hall hx h2, rfl, rfl, rfl⟩)
  · try simp only [Z] at h1
    refine ex' rfl (sr' (as' rfl (nl' ?_)))
    exact rt' Tryz.func118 (res1 rfl rfl) (by exact ⟨_, rfl, .inl ⟨rfl, all_of_lt hall (by omega)⟩, rfl⟩)

set_option maxHeartbeats 4000000 in
set_option maxRecDepth 100000 in
theorem ContainsT_ctr {G : Gp} {a : Option Addr} {cap : Nat} {xs : List ByteArray} {p b : Nat} {room : ByteArray} {ns : NL} (hd : DagR G p room ns) (hbx : Ro G b 109 [.pointer (some ⟨p, 0, none⟩)]) (h : SlR G 9 1 a xs.length (xs.map Value.string)) (hb : xs.length ≤ 1000000) :
    Ctr Tryz.prog G 90 [.slice a xs.length cap, .func (.func 91) #[] #[.pointer (some ⟨b, 0, none⟩)]] [] (fun F v A => v = .bool (xs.any (notIn ns)) ∧ A = F) := by
  refine Ctr.intro Tryz.func90 rfl (by kernel_rfl) rfl (fun F => ?_)
  simp only [List.nil_append]
  refine sr' (as' rfl (nl' (sr' (mv' rfl (mv' rfl ?_)))))
  refine ca' rfl rfl (s := IndexT_ctr hd hbx h hb) (q := ?_)
  rintro _ _ ⟨r, rfl, hri, hA_⟩
  replace hA_ := hA_.symm; subst hA_
  refine pp' (Pure.geq rfl rfl) (as' rfl (nl' ?_))
  exact rt' Tryz.func90 (res1 rfl rfl) (by exact ⟨by congr 1; rcases hri with ⟨rfl, hno⟩ | ⟨i, x, rfl, hx, hp, _⟩; (have : xs.any (notIn ns) = false := (by rw [List.any_eq_false]; intro x hx; rw [hno x hx]; simp); rw [this]; rfl); (have : xs.any (notIn ns) = true := (by rw [List.any_eq_true]; exact ⟨x, List.mem_of_getElem? hx, hp⟩); rw [this]; simp), rfl⟩)

set_option maxHeartbeats 4000000 in
set_option maxRecDepth 100000 in
theorem Event_ctr {G : Gp} {p : Nat} {room id : ByteArray} {ns : NL} {pf : ByteArray → List ByteArray} (h : DagR G p room ns) (hpp : ∀ x ∈ ns, HasPs G x.2.2.e (pf x.1) ∧ (pf x.1).length ≤ 1000) :
    Ctr Tryz.prog G 83 [.pointer (some ⟨p, 0, none⟩), .string id] [] (fun F v A => (ns.get id = none ∧ v = .tuple #[.agg (cEvn noEv).toArray, .bool false] ∧ A = F) ∨ ∃ nd a1 c1, ns.get id = some nd ∧ v = .tuple #[.agg (cEvn { nd.e with par := ⟨a1, (pf id).length, c1⟩ }).toArray, .bool true] ∧ A = Sl 9 1 a1 (pf id).length c1 ((pf id).map Value.string) :: F) := by
  refine Ctr.intro Tryz.func83 rfl (by kernel_rfl) rfl (fun F => ?_)
  simp only [List.nil_append]
  refine sr' ?_
  refine RunL.alloc zz49 (Wt.none rfl) rfl ?_; intro b4
  refine as' rfl (nl' (sq' (sr' (mv' rfl (mv' rfl ?_)))))
  refine ca' rfl rfl (s := Has_ctr h) (q := ?_)
  rintro _ _ ⟨rfl, hA_⟩
  replace hA_ := hA_.symm; subst hA_
  obtain ⟨r, hr, hmr, hrr⟩ := h
  cases hm : mget id ns.ids with
| none => ?_
| some b => ?_
  · skip
    refine pp' (Pure.not rfl) (nl' ?_)
    refine Run.cond rfl (fun hc1 => ?_) (fun hc1 => ?_)
    rotate_left
    · try simp only [Z] at hc1
      exfalso
      simp at hc1
    try simp only [Z] at hc1
    refine sr' (pp' (Pure.buildL (ps := []) (zs := [(.string .empty), (.string .empty), (.slice none 0 0), (.string .empty), (.string .empty), (.int .i64 0)]) (xs := (cEvn noEv)) pl49 rfl rfl rfl rfl) (sW' (cEvn noEv) rfl rfl sz49 ?_))
    refine as' rfl (nl' ?_)
    exact rt' Tryz.func83 (resV2 rfl (Rv.cellN (us := (cEvn noEv)) rfl (by first | ((repeat (first | (with_reducible exact F0 _) | apply F1)); done) | (repeat (first | exact F0 _ | apply F1))) agg49 sz49 (by first | exact Nat.le_of_ble_eq_true rfl | (simp; done) | (simp; omega)) rfl) (Rv.tmp rfl)) (by exact (.inl ⟨get_none hm, rfl, rfl⟩))
  · skip
    refine pp' (Pure.not rfl) (nl' ?_)
    refine Run.cond rfl (fun hc2 => ?_) (fun hc2 => ?_)
    · try simp only [Z] at hc2
      exfalso
      simp at hc2
    try simp only [Z] at hc2
    obtain ⟨nd, hnd, hg⟩ := get_some2 hm
    have hro := rows_node hrr hnd
    obtain ⟨hq, hqb⟩ := hpp _ hnd
    replace hqb : (pf id).length ≤ 1000 := hqb
    refine sk' (sr' (mv' rfl (pp' (Pure.nilCheck rfl) (pp' (Pure.fieldAddr rfl fo156_1) (l1' rfl agg154 ?_)))))
    refine mv' rfl ?_
    first | refine RunL.lookup (k := id) rfl rfl (by first | ((repeat (first | (with_reducible exact F0 _) | apply F1)); done) | (repeat (first | exact F0 _ | apply F1))) und154 zz158 (KeyT.string und9) (Wt.none rfl) rfl ?_ | refine RunL.lookupR (k := id) rfl rfl (by assumption) und154 zz158 (KeyT.string und9) (Wt.none rfl) rfl ?_
    rw [hm]
    refine pp' (Pure.nilCheck rfl) (pp' (Pure.fieldAddr rfl fo160_0) ?_)
    refine RunL.loadNR rfl hro agg49 sz49 (Nat.le_of_ble_eq_true rfl) (by rfl) (Wt.none rfl) rfl ?_
    refine ca' rfl rfl (s := own_ctr (e := nd.e) (ps := pf id) hq (by omega)) (q := ?_)
    rintro _ _ ⟨a1, c1, rfl, hA_⟩
    replace hA_ := hA_.symm; subst hA_
    refine sW' (cEvn ({ nd.e with par := ⟨a1, (pf id).length, c1⟩ })) rfl rfl sz49 ?_
    refine as' rfl (nl' ?_)
    exact rt' Tryz.func83 (resV2 rfl (Rv.cellN (us := (cEvn ({ nd.e with par := ⟨a1, (pf id).length, c1⟩ }))) rfl (by first | ((repeat (first | (with_reducible exact F0 _) | apply F1)); done) | (repeat (first | exact F0 _ | apply F1))) agg49 sz49 (by first | exact Nat.le_of_ble_eq_true rfl | (simp; done) | (simp; omega)) rfl) (Rv.tmp rfl)) (by exact (.inr ⟨nd, a1, c1, hg, rfl, rfl⟩))

end Go.Proofs.YtaaondbmkibkkaaGreat
