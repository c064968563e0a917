/- All events. -/
import Derived.Test.YtcmkafellcfbeaaGreatD5
set_option linter.unusedVariables false
set_option linter.unusedSimpArgs false
set_option linter.unusedSectionVars false
namespace Go.Proofs.YtcmkafellcfbeaaGreat
open Go Csl


set_option maxHeartbeats 4000000 in
set_option maxRecDepth 100000 in
theorem All_ctr {G : Gp} {p : Nat} {room : ByteArray} {l : EL} (h : DgR G p room l) (hb : l.length ≤ 1000) :
    Ctr Tryz.prog G 29 [.pointer (some ⟨p, 0, none⟩)] [] (fun F v A => ∃ a cap, ∃ ys : ES, ys.map (·.1) = allOf l ∧ (∀ y ∈ ys, y.2.n = y.1.ps.length) ∧ v = .slice a ys.length cap ∧ A = Sl 33 6 a ys.length cap (ys.flatMap cES) :: Stars (ys.map slPs) :: F) := by
  refine Ctr.intro Tryz.func29 rfl (by kernel_rfl) rfl (fun F => ?_)
  simp only [List.nil_append]
  obtain ⟨xs, hxl, hgd, hxk, hdr⟩ := h
  subst hxl
  have hl0 : xs.length ≤ 1000000 := by unfold XL.evs at hb; rw [List.length_map] at hb; omega
  refine Run.sr ?_
  refine RunL.as rfl rfl ?_
  refine RunL.nil ?_
  refine Run.sr ?_
  refine RunL.as rfl rfl ?_
  refine RunL.nil ?_
  refine Run.seq ?_
  refine Run.sr ?_
  refine RunL.mv rfl rfl ?_
  refine RunL.call rfl rfl (by rfl) (by repeat (first | (with_reducible exact Take.nil _) | (apply Take.cons (by first | ((repeat (first | (with_reducible exact F0 _) | apply F1)); done) | (repeat (first | exact F0 _ | apply F1)))))) (ids_ctr (mt := fun _ => true) hgd hdr hl0 (fun G2 hle b n hn => AllC_ctr (n := n))) (Wt.none rfl) rfl ?_
  rintro _ _ ⟨a, cap, rfl, hA_⟩
  replace hA_ := hA_.symm; subst hA_
  rw [idsOf_all]
  refine RunL.pure (Pure.lenSl rfl rfl und31) (Wt.none rfl) rfl rfl ?_
  refine RunL.mv rfl rfl ?_
  refine RunL.nil ?_
  refine Run.lendAll (Q := Sl 9 1 a (((allOf xs.evs).map (·.id))).length cap ((((allOf xs.evs).map (·.id))).map Value.string)) Lends.Sl (by first | ((repeat (first | (with_reducible exact F0 _) | apply F1)); done) | (repeat (first | exact F0 _ | apply F1))) (fun Ghi hleGhi hi => ?_)
  replace hdr := hdr.mono hleGhi
  replace hxk := hxk.mono hleGhi
  obtain ⟨hi, hic⟩ := hi
  obtain ⟨r, hr, hmr, hrr⟩ := id hdr
  rw [show xs.nl.ids = xs.idb from nq_ids _ _ _] at hmr
  refine Run.nilSl 33 6 ?_
  refine Run.starsNil ?_
  refine Run.block ?_
  refine Run.keep (.cons rfl (.cons rfl (.cons rfl (.cons rfl (.cons rfl (.nil))))) : Keep _ [0, 3, 7, 8, 9] _) ?_
  refine Run.loopF (F := F) (fun n e A => ∃ (i : Nat) (a3 : Option Addr) (c3 : Nat) (ys : ES), i ≤ ((allOf xs.evs).map (·.id)).length ∧ ys.length = i ∧ ys.map (·.1) = (allOf xs.evs).take i ∧ (∀ y ∈ ys, y.2.n = y.1.ps.length) ∧ n = ((allOf xs.evs).map (·.id)).length - i ∧ e = [(0, .pointer (some ⟨p, 0, none⟩)), (3, .slice a3 ys.length c3), (7, .slice a ((allOf xs.evs).map (·.id)).length cap), (8, .int .i64 (((allOf xs.evs).map (·.id)).length : Nat)), (9, .int .i64 (i : Nat))] ∧ A = Sl 33 6 a3 ys.length c3 (ys.flatMap cES) :: Stars (ys.map slPs) :: F) (((allOf xs.evs).map (·.id)).length) (by exact ⟨0, none, 0, [], by omega, rfl, rfl, (fun y hy => by cases hy), rfl, rfl, rfl⟩) (by repeat (first | (with_reducible exact Fin.done (by repeat (first | (with_reducible exact Rest.here) | apply Rest.there))) | (apply Fin.cons (by first | ((repeat (first | (with_reducible exact F0 _) | apply F1)); done) | (repeat (first | exact F0 _ | apply F1)))))) ?_
  rintro n _ _ ⟨i, a3, c3, ys, hi2, hyl, hys, hyn, rfl, rfl, hA_⟩ ih
  replace hA_ := hA_.symm; subst hA_
  refine Run.sr ?_
  refine RunL.pure (Pure.lss rfl rfl) (Wt.none rfl) rfl rfl ?_
  refine RunL.nil ?_
  refine Run.seq ?_
  refine Run.cond rfl (fun h9 => ?_) (fun h9 => ?_)
  · try simp only [ZA, ZB, ZC, ZD, ZE, ZF, ZG, ZH, ZI, ZJ, ZK, ZL, ZM, ZN, ZO, ZP, ZQ, ZR] at h9
    have hal := allOf_len xs.evs
    have hil : ((allOf xs.evs).map (·.id)).length = (allOf xs.evs).length := List.length_map _
    obtain ⟨v, hv⟩ := get_some (xs := allOf xs.evs) (i := i) (by omega)
    have hvi : ((allOf xs.evs).map (·.id))[i]? = some v.id := by rw [List.getElem?_map, hv]; rfl
    have hvm : v ∈ xs.evs := allOf_mem.1 (List.mem_of_getElem? hv)
    obtain ⟨b, hm⟩ : ∃ b, mget v.id xs.idb = some b := by
      have := has_mem hvm
      rw [← idb_has] at this
      exact Option.isSome_iff_exists.1 this
    obtain ⟨s, x, t, hxs, hid, hbx, hget⟩ := idb_some hm
    obtain rfl : x.1 = v := by rw [hgd.get hvm] at hget; exact (Option.some.inj hget).symm
    have hxm : x ∈ xs := by rw [hxs]; simp
    have hq := hxk x hxm
    have hql := evOk_len (hgd.mem (List.mem_map.2 ⟨x, hxm, rfl⟩)).1
    have hro : Ro Ghi b 91 [.string x.1.id, .string x.1.room, .slice x.2.2.a x.2.2.n x.2.2.c, .string x.1.thread, .string x.1.user, .int .i64 x.1.does, .int .i64 (depthOf xs.evs x.1.id), .bool (isPar xs.evs x.1.id)] := by
      have := nq_row hrr hxm
      simp only [nodeOf, memB, List.any_nil, Bool.or_false] at this
      rw [← hbx]; exact this
    obtain ⟨bb, Tb, preb, postb, hpa, hro1⟩ := hi.open1 (show 0 < ((allOf xs.evs).map (·.id)).length by omega)
    refine Run.skip ?_
    refine Run.seq ?_
    refine Run.block ?_
    refine Run.sr ?_
    refine RunL.pure (Pure.indexAddr (opvSl rfl hpa) rfl und31 sz9 (by omega) (by omega)) (Wt.none rfl) rfl rfl ?_
    refine RunL.load1R rfl hro1 (elem1_at hvi) agg9 (Wt.none rfl) rfl ?_
    refine RunL.as rfl rfl ?_
    refine RunL.nil ?_
    refine Run.region ?_
    refine RunL.mv rfl rfl ?_
    refine RunL.mv rfl rfl ?_
    refine RunL.pure (Pure.nilCheck rfl) (Wt.none rfl) rfl rfl ?_
    refine RunL.pure (Pure.fieldAddr rfl fo85_1) (Wt.none rfl) rfl rfl ?_
    first | refine RunL.load1 rfl (by first | ((repeat (first | (with_reducible exact F0 _) | apply F1)); done) | (repeat (first | exact F0 _ | apply F1))) (by rfl) agg83 (Wt.none rfl) rfl ?_ | refine RunL.load1R rfl (by assumption) (by rfl) agg83 (Wt.none rfl) rfl ?_
    refine RunL.mv rfl rfl ?_
    first | refine RunL.lookup (k := x.1.id) rfl rfl (by first | ((repeat (first | (with_reducible exact F0 _) | apply F1)); done) | (repeat (first | exact F0 _ | apply F1))) und83 zz89 (KeyT.string und9) (Wt.none rfl) rfl ?_ | refine RunL.lookupR (k := x.1.id) rfl rfl (by assumption) und83 zz89 (KeyT.string und9) (Wt.none rfl) rfl ?_
    rw [hm]
    refine RunL.pure (Pure.nilCheck rfl) (Wt.none rfl) rfl rfl ?_
    refine RunL.pure (Pure.fieldAddr rfl fo91_0) (Wt.none rfl) rfl rfl ?_
    refine RunL.loadNR rfl hro agg33 sz33 (Nat.le_of_ble_eq_true rfl) (show _ = cEvn (x.1.evn x.2.2) from rfl) (Wt.none rfl) rfl ?_
    refine RunL.call rfl rfl (by rfl) (by repeat (first | (with_reducible exact Take.nil _) | (apply Take.cons (by first | ((repeat (first | (with_reducible exact F0 _) | apply F1)); done) | (repeat (first | exact F0 _ | apply F1)))))) (own_ctr (e := x.1.evn x.2.2) (ps := x.1.ps) hq (by omega)) (Wt.none rfl) rfl ?_
    rintro _ _ ⟨a1, c1, rfl, hA_⟩
    replace hA_ := hA_.symm; subst hA_
    refine RunL.lit (vals := [_]) (vs := ([((x.1, (⟨a1, x.1.ps.length, c1⟩ : Sli)) : Evt × Sli)] : ES).flatMap cES) und24 sz33 zz33 rfl rfl rfl rfl rfl rfl (by simp [Value.cells, bv, cDD, cEvn, cGG, cNde, cPos]) rfl (Wt.none rfl) rfl ?_; intro b24
    refine RunL.append (m := 1) (n' := (ys ++ [((x.1, (⟨a1, x.1.ps.length, c1⟩ : Sli)) : Evt × Sli)]).length) (cs' := (ys ++ [((x.1, (⟨a1, x.1.ps.length, c1⟩ : Sli)) : Evt × Sli)]).flatMap cES) rfl rfl (by first | ((repeat (first | (with_reducible exact F0 _) | apply F1)); done) | (repeat (first | exact F0 _ | apply F1))) rfl rfl und24 und24 rfl sz33 zz33 rfl by33 (by first | omega | (simp; omega)) (by first | omega | (simp; omega)) (fun w sw => sw.src) (isOne_flat (f := cES) (fun _ => rfl)) (by simp) (by rw [List.flatMap_append]) (Wt.none rfl) rfl ?_; intro a4 c4
    refine RunL.as rfl rfl ?_
    refine RunL.nil ?_
    refine Run.inBlock ?_
    refine Run.starsSnoc slPs ys ((x.1, (⟨a1, x.1.ps.length, c1⟩ : Sli)) : Evt × Sli) (by repeat (first | (with_reducible exact Take.nil _) | (apply Take.cons (by first | ((repeat (first | (with_reducible exact F0 _) | apply F1)); done) | (repeat (first | exact F0 _ | apply F1)))))) ?_
    refine Run.region ?_
    first | refine RunL.pure (Pure.addI rfl rfl (by omega)) (Wt.none rfl) rfl rfl ?_ | refine RunL.pure (Pure.add rfl rfl) (Wt.none rfl) rfl rfl ?_
    refine RunL.mv rfl rfl ?_
    refine RunL.nil ?_
    refine Run.keep (.cons rfl (.cons rfl (.cons rfl (.cons rfl (.cons rfl (.nil))))) : Keep _ [0, 3, 7, 8, 9] _) ?_
    refine Run.againF (F := F) ih (by exact ⟨i + 1, a4, c4, ys ++ [((x.1, (⟨a1, x.1.ps.length, c1⟩ : Sli)) : Evt × Sli)], by omega, by simp [hyl], by rw [List.map_append, hys, List.take_add_one, hv]; rfl, (fun y hy => by
      rcases List.mem_append.1 hy with hy | hy
      · exact hyn y hy
      · obtain rfl := List.mem_singleton.1 hy; rfl), rfl, rfl, rfl⟩) (by repeat (first | (with_reducible exact Fin.done (by repeat (first | (with_reducible exact Rest.here) | apply Rest.there))) | (apply Fin.cons (by first | ((repeat (first | (with_reducible exact F0 _) | apply F1)); done) | (repeat (first | exact F0 _ | apply F1)))))) ?_
    omega
  · try simp only [ZA, ZB, ZC, ZD, ZE, ZF, ZG, ZH, ZI, ZJ, ZK, ZL, ZM, ZN, ZO, ZP, ZQ, ZR] at h9
    refine Run.exit rfl ?_
    refine Run.sr ?_
    refine RunL.mv rfl rfl ?_
    refine RunL.as rfl rfl ?_
    refine RunL.nil ?_
    have hil : ((allOf xs.evs).map (·.id)).length = (allOf xs.evs).length := List.length_map _
    exact Run.ret Tryz.func29 (res1 rfl rfl) (by exact ⟨a3, c3, ys, by rw [hys, List.take_of_length_le (by rw [← hil]; omega)], hyn, rfl, rfl⟩) (by repeat (first | (with_reducible exact Fin.done (by repeat (first | (with_reducible exact Rest.here) | apply Rest.there))) | (apply Fin.cons (by first | ((repeat (first | (with_reducible exact F0 _) | apply F1)); done) | (repeat (first | exact F0 _ | apply F1))))))

end Go.Proofs.YtcmkafellcfbeaaGreat
