/- Dags by what they hold. -/
import Derived.Test.YtaaondbmkibkkaaGreatD1
set_option linter.unusedVariables false
set_option linter.unusedSimpArgs false
set_option linter.unusedSectionVars false
namespace Go.Proofs.YtaaondbmkibkkaaGreat
open Go Csl


namespace Csl
theorem DagR.of {G : Gp} {h : Hp} {p : Nat} {room : ByteArray} {ns : NL} (q : DagA p room ns h) (d : Hp.disj G.hp h) : DagR (Gp.join G h) p room ns := by
  obtain ⟨r, _, h1, h2, d1, rfl, q1, h3, h4, d2, rfl, q2, h5, h6, d3, rfl, q3, q4⟩ := q
  have e6 : h6 = Hp.empty := q4
  subst e6
  rw [Hp.join_empty] at d d1 d2 ⊢
  have dd := Hp.disj_join.1 d
  have dd2 := Hp.disj_join.1 dd.2
  have m : MpR (Gp.join G (Hp.join h3 h5)) r (menc eS eN ns.ids) := by
    have := MpR.of_mp q2 dd2.1
    obtain ⟨arr, clock, mi, g⟩ := this
    refine ⟨arr, clock, mi, ?_⟩
    have g' : Hp.join G.hp h3 r = some (.map arr clock) := g
    show Hp.join G.hp (Hp.join h3 h5) r = _
    rw [← Hp.join_assoc]; exact Hp.join_left g'
  have rr : RowsR (Gp.join G (Hp.join h3 h5)) 160 ns.rows := RowsR.in_join dd.2 d2 (RowsR.of_rows q3 dd2.2)
  refine ⟨r, ?_, MpR.in_join d m d1, RowsR.in_join d d1 rr⟩
  obtain ⟨fz, hz, e⟩ := q1
  subst e
  exact ⟨fz, Hp.join_right d (Hp.join_left (Hp.one_self _ _))⟩
theorem DagR.hp {G G' : Gp} {p : Nat} {room : ByteArray} {ns : NL} (q : DagR G p room ns) (h : Hp.le G.hp G'.hp) : DagR G' p room ns := by
  obtain ⟨r, h1, ⟨arr, clock, mi, g⟩, h3⟩ := q
  exact ⟨r, h1.hp h, ⟨arr, clock, mi, h _ _ g⟩, fun x hx => (h3 x hx).hp h⟩
theorem HasPs.hp {G G' : Gp} {e : Evn} {ps : List ByteArray} (q : HasPs G e ps) (h : Hp.le G.hp G'.hp) : HasPs G' e ps := ⟨q.1, q.2.hp h⟩
/-- Events, the blocks of their nodes, where their parents lie. -/
abbrev XL := List (Evt × Nat × Sli)
def XL.evs (xs : XL) : EL := xs.map fun x => x.1
def XL.idb (xs : XL) : List (ByteArray × Nat) := xs.map fun x => (x.1.id, x.2.1)
def nodeOf (l : EL) (qs : List ByteArray) (x : Evt × Nat × Sli) : ByteArray × Nat × Nde := (x.1.id, x.2.1, ⟨x.1.evn x.2.2, depthOf l x.1.id, isPar l x.1.id || memB x.1.id qs⟩)
def XL.nq (xs : XL) (l : EL) (qs : List ByteArray) : NL := xs.map (nodeOf l qs)
def XL.nl (xs : XL) : NL := xs.nq xs.evs []
def XOk (G : Gp) (xs : XL) : Prop := ∀ x ∈ xs, HasPs G (x.1.evn x.2.2) x.1.ps
theorem XOk.mono {G G' : Gp} {xs : XL} (h : Gp.le G G') (q : XOk G xs) : XOk G' xs := fun x hx => (q x hx).mono h
theorem XOk.hp {G G' : Gp} {xs : XL} (q : XOk G xs) (h : Hp.le G.hp G'.hp) : XOk G' xs := fun x hx => (q x hx).hp h
theorem nq_ids (xs : XL) (l : EL) (qs : List ByteArray) : (xs.nq l qs).ids = xs.idb := by unfold XL.nq NL.ids XL.idb; rw [List.map_map]; rfl
theorem idb_none {xs : XL} {id : ByteArray} : mget id xs.idb = none ↔ xs.evs.has id = false := by
  induction xs with
  | nil => simp [XL.idb, XL.evs, mget, EL.has]
  | cons x l ih =>
    unfold XL.idb XL.evs EL.has at ih ⊢
    rw [List.map_cons, List.map_cons, mget, List.any_cons]
    by_cases hk : id = x.1.id
    · simp [hk]
    · rw [if_neg hk, ih]; simp [Ne.symm hk]
theorem idb_some {xs : XL} {id : ByteArray} {b : Nat} (h : mget id xs.idb = some b) : ∃ s x t, xs = s ++ x :: t ∧ x.1.id = id ∧ x.2.1 = b ∧ xs.evs.get id = some x.1 := by
  induction xs with
  | nil => cases h
  | cons x l ih =>
    unfold XL.idb at h; rw [List.map_cons, mget] at h
    by_cases hk : id = x.1.id
    · rw [if_pos hk] at h; cases h
      exact ⟨[], x, l, rfl, hk.symm, rfl, by unfold XL.evs EL.get; rw [List.map_cons, List.find?_cons_of_pos (by simp [hk])]⟩
    · rw [if_neg hk] at h
      obtain ⟨s, y, t, h1, h2, h3, h4⟩ := ih h
      exact ⟨x :: s, y, t, by rw [h1]; rfl, h2, h3, by unfold XL.evs EL.get at h4 ⊢; rw [List.map_cons, List.find?_cons_of_neg (by simpa using Ne.symm hk)]; exact h4⟩
theorem idb_has {xs : XL} {id : ByteArray} : (mget id xs.idb).isSome = xs.evs.has id := by
  cases h : mget id xs.idb with
  | none => rw [idb_none.1 h]; rfl
  | some b =>
    obtain ⟨s, x, t, _, _, _, h4⟩ := idb_some h
    rw [← get_has, h4]; rfl
theorem nq_row {G : Gp} {xs : XL} {l : EL} {qs : List ByteArray} {x : Evt × Nat × Sli} (h : RowsR G 160 (xs.nq l qs).rows) (hx : x ∈ xs) : Ro G x.2.1 160 (cNde (nodeOf l qs x).2.2) :=
  h _ (List.mem_map.2 ⟨nodeOf l qs x, List.mem_map.2 ⟨x, hx, rfl⟩, rfl⟩)
theorem nq_rows {s t : XL} {x : Evt × Nat × Sli} {l : EL} {qs : List ByteArray} : (XL.nq (s ++ x :: t) l qs).rows = (XL.nq s l qs).rows ++ (x.2.1, cNde (nodeOf l qs x).2.2) :: (XL.nq t l qs).rows := by
  unfold XL.nq NL.rows; rw [List.map_append, List.map_cons, List.map_append, List.map_cons]; rfl
theorem nodeOf_other {l : EL} {qs : List ByteArray} {id : ByteArray} {x : Evt × Nat × Sli} (h : x.1.id ≠ id) : nodeOf l (qs ++ [id]) x = nodeOf l qs x := by
  unfold nodeOf; simp [memB_app, memB_one, Ne.symm h]
theorem nq_other {l : EL} {qs : List ByteArray} {id : ByteArray} {xs : XL} (h : ∀ x ∈ xs, x.1.id ≠ id) : xs.nq l (qs ++ [id]) = xs.nq l qs := List.map_congr_left fun x hx => nodeOf_other (h x hx)
theorem split_other {s t : XL} {x : Evt × Nat × Sli} (hn : ((XL.evs (s ++ x :: t)).map (·.id)).Nodup) : (∀ y ∈ s, y.1.id ≠ x.1.id) ∧ ∀ y ∈ t, y.1.id ≠ x.1.id := by
  unfold XL.evs at hn
  rw [List.map_map, List.map_append, List.map_cons, List.nodup_append] at hn
  obtain ⟨_, h2, h3⟩ := hn
  refine ⟨fun y hy q => ?_, fun y hy q => ?_⟩
  · exact h3 _ (List.mem_map.2 ⟨y, hy, rfl⟩) _ List.mem_cons_self q
  · exact (List.nodup_cons.1 h2).1 (List.mem_map.2 ⟨y, hy, q⟩)
/-- A node is told to be a parent. -/
theorem nq_flag {s t : XL} {x : Evt × Nat × Sli} {l : EL} {qs : List ByteArray} (hn : ((XL.evs (s ++ x :: t)).map (·.id)).Nodup) :
    (XL.nq (s ++ x :: t) l (qs ++ [x.1.id])).rows = (XL.nq s l qs).rows ++ (x.2.1, cNde ⟨x.1.evn x.2.2, depthOf l x.1.id, true⟩) :: (XL.nq t l qs).rows := by
  rw [nq_rows, nq_other (split_other hn).1, nq_other (split_other hn).2]
  congr 3
  show cNde ⟨_, _, isPar l x.1.id || memB x.1.id (qs ++ [x.1.id])⟩ = _
  rw [show memB x.1.id (qs ++ [x.1.id]) = true from by simp [memB_app, memB_one], Bool.or_true]
theorem Good.isPar_no {room : ByteArray} {l : EL} {id : ByteArray} (h : Good room l) (hi : l.has id = false) : isPar l id = false := by
  unfold isPar
  rw [List.any_eq_false]
  intro v hv hp
  obtain ⟨i, hi'⟩ := List.getElem?_of_mem hv
  obtain ⟨j, u, _, hu, e⟩ := h.parent hi' (memB_iff.1 hp)
  exact has_no.1 hi u (List.mem_of_getElem? hu) e
theorem evOk_self {v : Evt} (h : evOk v = true) : v.id ∉ v.ps := by
  intro hp
  obtain ⟨i, hi⟩ := List.getElem?_of_mem hp
  unfold evOk evMay at h
  simp only [Bool.and_eq_true, decide_eq_true_eq] at h
  obtain ⟨p, h1, _, h3, _⟩ := h.2 i (List.getElem?_eq_some_iff.1 hi).1
  rw [hi] at h1; cases h1
  exact h3 rfl
theorem nl_snoc {xs : XL} {room : ByteArray} {v : Evt} {b : Nat} {s : Sli} (hg : Good room xs.evs) (hv : addRc room xs.evs v = 0) :
    XL.nl (xs ++ [(v, b, s)]) = xs.nq xs.evs v.ps ++ [(v.id, b, ⟨v.evn s, addDepth (depthOf xs.evs) v.ps, false⟩)] := by
  have h := addRc_zero.1 hv
  have e : XL.evs (xs ++ [(v, b, s)]) = xs.evs ++ [v] := by simp [XL.evs]
  unfold XL.nl
  rw [e]; unfold XL.nq
  rw [List.map_append]
  have e1 : xs.map (nodeOf (xs.evs ++ [v]) []) = xs.map (nodeOf xs.evs v.ps) := by
    refine List.map_congr_left fun x hx => ?_
    have hne : x.1.id ≠ v.id := has_no.1 h.2.2.1 x.1 (List.mem_map.2 ⟨x, hx, rfl⟩)
    unfold nodeOf
    rw [isPar_snoc, depthOf_snoc]; unfold depStep
    rw [if_neg hne]; simp [memB]
  rw [e1]; congr 1
  simp only [List.map_cons, List.map_nil]; unfold nodeOf
  rw [isPar_snoc, depthOf_snoc, hg.isPar_no h.2.2.1]; unfold depStep
  rw [if_pos rfl]
  rw [memB_no.2 (evOk_self h.1)]; rfl
theorem mput_idb {xs : XL} {id : ByteArray} {b : Nat} (h : xs.evs.has id = false) : mput id b xs.idb = xs.idb ++ [(id, b)] := by
  refine mput_new (i := 0) ?_
  have h1 := midx_get id xs.idb 0
  rw [idb_none.2 h] at h1
  cases hq : midx id xs.idb 0 with
  | none => rfl
  | some q => rw [hq] at h1; cases h1
/-- A dag of the events 'l'. -/
def Dg (p : Nat) (room : ByteArray) (l : EL) : HProp := Ex (fun q : Hp × XL => q.2.evs = l ∧ Good room l ∧ XOk (gk q.1) q.2) (fun q => [DagA p room q.2.nl, Pool q.1])
def DgR (G : Gp) (p : Nat) (room : ByteArray) (l : EL) : Prop := ∃ xs : XL, xs.evs = l ∧ Good room l ∧ XOk G xs ∧ DagR G p room xs.nl
theorem DgR.mono {G G' : Gp} {p : Nat} {room : ByteArray} {l : EL} (h : Gp.le G G') (q : DgR G p room l) : DgR G' p room l := by
  obtain ⟨xs, h1, h2, h3, h4⟩ := q; exact ⟨xs, h1, h2, h3.mono h, h4.mono h⟩
theorem DgR.hp {G G' : Gp} {p : Nat} {room : ByteArray} {l : EL} (q : DgR G p room l) (h : Hp.le G.hp G'.hp) : DgR G' p room l := by
  obtain ⟨xs, h1, h2, h3, h4⟩ := q; exact ⟨xs, h1, h2, h3.hp h, h4.hp h⟩
theorem DgR.good {G : Gp} {p : Nat} {room : ByteArray} {l : EL} (q : DgR G p room l) : Good room l := by obtain ⟨_, _, h, _⟩ := q; exact h
theorem Lends.Dg {p : Nat} {room : ByteArray} {l : EL} : Lends (Csl.Dg p room l) (fun G => DgR G p room l) := Lends.of fun G h q d => by
  obtain ⟨⟨K, xs⟩, ⟨h1, h2, h3⟩, k1, k2, d1, rfl, q1, k3, k4, d2, rfl, q2, q3⟩ := q
  have e4 : k4 = Hp.empty := q3
  have e3 : k3 = K := q2
  subst e4 e3
  rw [Hp.join_empty] at d d1 ⊢
  have dd := Hp.disj_join.1 d
  refine ⟨xs, h1, h2, h3.hp fun b o x => Hp.join_right d (Hp.join_right d1 x), ?_⟩
  have := DagR.of (G := Gp.join G k3) q1 (Hp.join_disj.2 ⟨dd.1, Hp.disj_comm d1⟩)
  refine this.hp fun b o x => ?_
  have x' : Hp.join (Hp.join G.hp k3) k1 b = some o := x
  show Hp.join G.hp (Hp.join k1 k3) b = some o
  rw [Hp.join_comm d1, ← Hp.join_assoc]; exact x'
section
variable {c : Cx} {G : Gp} {ops : Array Oper} {kk : KT} {e : Env} {A A' : List HProp} {lo : List Oper} {st : List Item} {p : Nat} {room : ByteArray} {l : EL}
theorem Run.rowsSnoc {T : TypeId} {b : Nat} {cs : List Value} (s : List (Nat × List Value)) (ht : Take [row b T cs, Rows T s] A A') (next : Run c G st e (Rows T (s ++ [(b, cs)]) :: A')) : Run c G st e A := fun ac w h q => next ac w h (St.rows_peel.2 (by rw [List.append_nil]; exact q.perm ht.perm))
theorem Run.starsSnoc {α : Type} (f : α → HProp) (ys : List α) (y : α) (ht : Take [f y, Stars (ys.map f)] A A') (next : Run c G st e (Stars ((ys ++ [y]).map f) :: A')) : Run c G st e A := fun ac w h q => next ac w h (by rw [List.map_append]; exact St.stars_peel.2 (by rw [List.map_nil, List.append_nil]; exact q.perm ht.perm))
theorem Run.openDg (hf : Find (Dg p room l) A A') (next : ∀ K xs, XL.evs xs = l → Good room l → XOk (gk K) xs → Run c G st e (DagA p room (XL.nl xs) :: Pool K :: A')) : Run c G st e A := Run.openEx hf fun q h => next q.1 q.2 h.1 h.2.1 h.2.2
theorem RunL.openDg (hf : Find (Dg p room l) A A') (next : ∀ K xs, XL.evs xs = l → Good room l → XOk (gk K) xs → RunL c G ops lo kk e (DagA p room (XL.nl xs) :: Pool K :: A')) : RunL c G ops lo kk e A := RunL.openEx hf fun q h => next q.1 q.2 h.1 h.2.1 h.2.2
theorem Run.mkDg (K : Hp) (xs : XL) (h1 : xs.evs = l) (h2 : Good room l) (h3 : XOk (gk K) xs) (ht : Take [DagA p room xs.nl, Pool K] A A') (next : Run c G st e (Dg p room l :: A')) : Run c G st e A := Run.mkEx (K, xs) ht ⟨h1, h2, h3⟩ next
theorem RunL.mkDg (K : Hp) (xs : XL) (h1 : xs.evs = l) (h2 : Good room l) (h3 : XOk (gk K) xs) (ht : Take [DagA p room xs.nl, Pool K] A A') (next : RunL c G ops lo kk e (Dg p room l :: A')) : RunL c G ops lo kk e A := RunL.mkEx (K, xs) ht ⟨h1, h2, h3⟩ next
end
end Csl


end Go.Proofs.YtaaondbmkibkkaaGreat
