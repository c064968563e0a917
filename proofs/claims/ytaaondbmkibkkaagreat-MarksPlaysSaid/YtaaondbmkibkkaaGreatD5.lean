/- What is told. -/
import Derived.Test.YtaaondbmkibkkaaGreatD4
set_option linter.unusedVariables false
set_option linter.unusedSimpArgs false
set_option linter.unusedSectionVars false
namespace Go.Proofs.YtaaondbmkibkkaaGreat
open Go Csl


theorem PositionD_ctr {G : Gp} {p : Nat} {room : ByteArray} {l : EL} (h : DgR G p room l) {id : ByteArray} : Ctr Tryz.prog G 65 [.pointer (some ⟨p, 0, none⟩), .string id] [] (fun F v A => v = .tuple #[.agg (cPos (posAt l id)).toArray, .bool (l.has id)] ∧ A = F) := by
  obtain ⟨xs, hxl, hgd, hxk, hdr⟩ := h
  subst hxl
  have h := Position_ctr (id := id) hdr
  rw [nl_pos, XL.nl, nq_ids, idb_has] at h
  exact h
set_option maxHeartbeats 4000000 in
set_option maxRecDepth 100000 in
theorem EventD_ctr {G : Gp} {p : Nat} {room : ByteArray} {l : EL} (h : DgR G p room l) {id : ByteArray} :
    Ctr Tryz.prog G 83 [.pointer (some ⟨p, 0, none⟩), .string id] [] (fun F v A => (l.get id = none ∧ v = .tuple #[.agg (cEvn noEv).toArray, .bool false] ∧ A = F) ∨ ∃ u a1 c1, l.get id = some u ∧ v = .tuple #[.agg (cEvn (u.evn ⟨a1, u.ps.length, c1⟩)).toArray, .bool true] ∧ A = Sl 9 1 a1 u.ps.length c1 (u.ps.map Value.string) :: F) := by
  refine Ctr.intro Tryz.func83 rfl (by kernel_rfl) rfl (fun F => ?_)
  simp only [List.nil_append]
  obtain ⟨xs, hxl, hgd, hxk, hdr⟩ := h
  subst hxl
  refine sr' ?_
  refine RunL.alloc zz49 (Wt.none rfl) rfl ?_; intro b4
  refine as' rfl (nl' (sq' (sr' (mv' rfl (mv' rfl ?_)))))
  refine ca' rfl rfl (s := Has_ctr hdr) (q := ?_)
  rintro _ _ ⟨rfl, hA_⟩
  replace hA_ := hA_.symm; subst hA_
  rw [show xs.nl.ids = xs.idb from nq_ids _ _ _]
  obtain ⟨r, hr, hmr, hrr⟩ := hdr
  rw [show xs.nl.ids = xs.idb from nq_ids _ _ _] at hmr
  cases hm : mget id xs.idb with
| none => ?_
| some b => ?_
  · skip
    refine pp' (Pure.not rfl) (nl' ?_)
    refine Run.cond rfl (fun hc1 => ?_) (fun hc1 => ?_)
    rotate_left
    · try simp only [Z] at hc1
      exfalso
      simp at hc1
    try simp only [Z] at hc1
    refine sr' (pp' (Pure.buildL (ps := []) (zs := [(.string .empty), (.string .empty), (.slice none 0 0), (.string .empty), (.string .empty), (.int .i64 0)]) (xs := (cEvn noEv)) pl49 rfl rfl rfl rfl) (sW' (cEvn noEv) rfl rfl sz49 ?_))
    refine as' rfl (nl' ?_)
    exact rt' Tryz.func83 (resV2 rfl (Rv.cellN (us := (cEvn noEv)) rfl (by first | ((repeat (first | (with_reducible exact F0 _) | apply F1)); done) | (repeat (first | exact F0 _ | apply F1))) agg49 sz49 (by first | exact Nat.le_of_ble_eq_true rfl | (simp; done) | (simp; omega)) rfl) (Rv.tmp rfl)) (by exact (.inl ⟨get_nil.2 (idb_none.1 hm), rfl, rfl⟩))
  · skip
    refine pp' (Pure.not rfl) (nl' ?_)
    refine Run.cond rfl (fun hc2 => ?_) (fun hc2 => ?_)
    · try simp only [Z] at hc2
      exfalso
      simp at hc2
    try simp only [Z] at hc2
    obtain ⟨s, x, t, hxs, hid, hbx, hget⟩ := idb_some hm
    have hxm : x ∈ xs := by rw [hxs]; simp
    have hq := hxk x hxm
    have hql := evOk_len (hgd.mem (List.mem_map.2 ⟨x, hxm, rfl⟩)).1
    have hro : Ro G b 160 [.string x.1.id, .string x.1.room, .slice x.2.2.a x.2.2.n x.2.2.c, .string x.1.thread, .string x.1.user, .int .i64 x.1.does, .int .i64 (depthOf xs.evs x.1.id), .bool (isPar xs.evs x.1.id)] := by
      have := nq_row hrr hxm
      simp only [nodeOf, memB, List.any_nil, Bool.or_false] at this
      rw [← hbx]; exact this
    refine sk' (sr' (mv' rfl (pp' (Pure.nilCheck rfl) (pp' (Pure.fieldAddr rfl fo156_1) (l1' rfl agg154 ?_)))))
    refine mv' rfl ?_
    first | refine RunL.lookup (k := id) rfl rfl (by first | ((repeat (first | (with_reducible exact F0 _) | apply F1)); done) | (repeat (first | exact F0 _ | apply F1))) und154 zz158 (KeyT.string und9) (Wt.none rfl) rfl ?_ | refine RunL.lookupR (k := id) rfl rfl (by assumption) und154 zz158 (KeyT.string und9) (Wt.none rfl) rfl ?_
    rw [hm]
    refine pp' (Pure.nilCheck rfl) (pp' (Pure.fieldAddr rfl fo160_0) ?_)
    refine RunL.loadNR rfl hro agg49 sz49 (Nat.le_of_ble_eq_true rfl) (show _ = cEvn (x.1.evn x.2.2) from rfl) (Wt.none rfl) rfl ?_
    refine ca' rfl rfl (s := own_ctr (e := x.1.evn x.2.2) (ps := x.1.ps) hq (by omega)) (q := ?_)
    rintro _ _ ⟨a1, c1, rfl, hA_⟩
    replace hA_ := hA_.symm; subst hA_
    refine sW' (cEvn ((x.1.evn ⟨a1, x.1.ps.length, c1⟩))) rfl rfl sz49 ?_
    refine as' rfl (nl' ?_)
    exact rt' Tryz.func83 (resV2 rfl (Rv.cellN (us := (cEvn ((x.1.evn ⟨a1, x.1.ps.length, c1⟩)))) rfl (by first | ((repeat (first | (with_reducible exact F0 _) | apply F1)); done) | (repeat (first | exact F0 _ | apply F1))) agg49 sz49 (by first | exact Nat.le_of_ble_eq_true rfl | (simp; done) | (simp; omega)) rfl) (Rv.tmp rfl)) (by exact (.inr ⟨x.1, a1, c1, hget, rfl, rfl⟩))

end Go.Proofs.YtaaondbmkibkkaaGreat
