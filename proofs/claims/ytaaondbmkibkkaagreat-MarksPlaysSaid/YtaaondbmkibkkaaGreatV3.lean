/- Views: the reference tells. -/
import Derived.Test.YtaaondbmkibkkaaGreatV2
set_option linter.unusedVariables false
set_option linter.unusedSimpArgs false
set_option linter.unusedSectionVars false
namespace Go.Proofs.YtaaondbmkibkkaaGreat
open Go Csl


set_option maxHeartbeats 4000000 in
set_option maxRecDepth 100000 in
theorem rOfV_ctr {G : Gp} {V : VV} {zs : ZV} (hZ : HasZ G V zs) (hb : zs.length ≤ 1000) {room : ByteArray} :
    Ctr Tryz.prog G 68 [.agg (cVV V).toArray, .string room] [] (fun F v A => v = .agg (cDD (ofD zs room)).toArray ∧ A = F) := by
  refine Ctr.intro Tryz.func68 rfl (by kernel_rfl) rfl (fun F => ?_)
  simp only [List.nil_append]
  obtain ⟨hzn, hzs, hzc, hzk⟩ := id hZ
  refine sr' ?_
  refine RunL.boxA (xs := (cVV V)) rfl (Wt.none rfl) rfl ?_; intro b2
  refine RunL.alloc zz76 (Wt.none rfl) rfl ?_; intro b4
  refine nl' ?_
  refine la' (row b2 65 _) Lends.row fun G2 hleG2 hrb2 => ?_
  replace hzs := hzs.mono hleG2
  refine sq' (sr' (as' rfl (nl' (bl' ?_))))
  refine kp' [1, 2, 4, 5] ?_
  refine lp' F (fun n e_ A => ∃ (i : Nat), i ≤ zs.length ∧ (∀ j z, j < i → zs[j]? = some z → z.2.1 ≠ room) ∧ n = zs.length - i ∧ e_ = [(1, .string room), (2, .pointer (some ⟨b2, 0, none⟩)), (4, .pointer (some ⟨b4, 0, none⟩)), (5, .int .i64 (i : Nat))] ∧ A = row b4 76 (cDD (⟨.empty, ⟨none, 0, 0⟩⟩ : DD)) :: F) (zs.length) (by exact ⟨0, by omega, fun j z hj => absurd hj (Nat.not_lt_zero _), rfl, rfl, rfl⟩) ?_
  rintro n _ _ ⟨i, hi, hall, rfl, rfl, hA_⟩ ih
  replace hA_ := hA_.symm; subst hA_
  refine sq' (sr' (mv' rfl (pp' (Pure.fieldAddr rfl fo65_0) (l1' rfl agg63 ?_))))
  refine pp' (Pure.lenSl rfl rfl und63) (pp' (Pure.lss rfl rfl) (nl' ?_))
  refine Run.cond rfl (fun h1 => ?_) (fun h1 => ?_)
  · try simp only [Z] at h1
    obtain ⟨z, hz⟩ := get_some (xs := zs) (i := i) (by omega)
    have hzm := hzk z (List.mem_of_getElem? hz)
    have hzr : z.1.room = z.2.1 := hzm.1.1
    obtain ⟨bz, Tz, prez, postz, hpz, hroz⟩ := hzs.open1 (show 0 < zs.length by omega)
    refine sk' (sq' (bl' (sr' (pp' (Pure.fieldAddr rfl fo65_0) (l1' rfl agg63 ?_)))))
    refine mv' rfl ?_
    refine pp' (Pure.indexAddr (opvSl rfl hpz) rfl und63 sz76 (by omega) (by omega)) ?_
    refine pp' (Pure.fieldAddr rfl fo76_0) ?_
    refine RunL.load1R rfl hroz ((elem_at (pre := prez) (post := postz) (f := (fun z : DD × ByteArray × EL => cDD z.1)) (sz := 2) (j := 0) (fun _ _ => rfl) hz (by decide)).trans rfl) agg9 (Wt.none rfl) rfl ?_
    refine mv' rfl (pp' (Pure.seql rfl rfl) (nl' ?_))
    refine Run.cond rfl (fun h2 => ?_) (fun h2 => ?_)
    · try simp only [Z] at h2
      refine sr' (pp' (Pure.fieldAddr rfl fo65_0) (l1' rfl agg63 ?_))
      refine mv' rfl ?_
      refine pp' (Pure.indexAddr (opvSl rfl hpz) rfl und63 sz76 (by omega) (by omega)) ?_
      refine RunL.loadNR (vs := (cDD z.1)) rfl hroz agg76 sz76 (elemN_len (pre := prez) (post := postz) (f := (fun z : DD × ByteArray × EL => cDD z.1)) (sz := 2) (j := 0) (n := 2) (fun _ _ => rfl) hz (by decide)) ((elemN_at (pre := prez) (post := postz) (f := (fun z : DD × ByteArray × EL => cDD z.1)) (sz := 2) (j := 0) (n := 2) (fun _ _ => rfl) hz (by decide)).trans rfl) (Wt.none rfl) rfl ?_
      refine sW' (cDD z.1) rfl rfl sz76 ?_
      refine nl' ?_
      exact rt' Tryz.func68 (resV1 rfl (Rv.cellN (us := (cDD z.1)) rfl (by first | ((repeat (first | (with_reducible exact F0 _) | apply F1)); done) | (repeat (first | exact F0 _ | apply F1))) agg76 sz76 (by first | exact Nat.le_of_ble_eq_true rfl | (simp; done) | (simp; omega)) rfl)) (by exact ⟨by rw [(of_first hz (hzr.symm.trans (bl_inj h2)) hall).1], rfl⟩)
    · try simp only [Z] at h2
      refine sk' (ib' (rg' (mv' rfl ?_)))
      first | refine RunL.pure (Pure.addI rfl rfl (by omega)) (Wt.none rfl) rfl rfl ?_ | refine RunL.pure (Pure.add rfl rfl) (Wt.none rfl) rfl rfl ?_
      refine as' rfl (nl' ?_)
      refine kp' [1, 2, 4, 5] ?_
      exact ag' F ih (by exact ⟨i + 1, by omega, lt_succ_of hall hz (fun q => h2 (by rw [hzr, q])), rfl, rfl, rfl⟩)
  · try simp only [Z] at h1
    refine ex' rfl (sr' (mv' rfl (pp' (Pure.buildL (ps := [(0, _)]) (zs := [(.string .empty), (.slice none 0 0)]) (xs := (cDD ((⟨room, ⟨none, 0, 0⟩⟩ : DD)))) pl76 rfl rfl rfl rfl) (sW' (cDD ((⟨room, ⟨none, 0, 0⟩⟩ : DD))) rfl rfl sz76 ?_))))
    refine nl' ?_
    exact rt' Tryz.func68 (resV1 rfl (Rv.cellN (us := (cDD ((⟨room, ⟨none, 0, 0⟩⟩ : DD)))) rfl (by first | ((repeat (first | (with_reducible exact F0 _) | apply F1)); done) | (repeat (first | exact F0 _ | apply F1))) agg76 sz76 (by first | exact Nat.le_of_ble_eq_true rfl | (simp; done) | (simp; omega)) rfl)) (by exact ⟨by rw [(of_none (all_of_lt hall (by omega))).1], rfl⟩)

set_option maxHeartbeats 4000000 in
set_option maxRecDepth 100000 in
theorem rPositionV_ctr {G : Gp} {V : VV} {zs : ZV} (hZ : HasZ G V zs) (hb : zs.length ≤ 1000) {room : ByteArray} (hb2 : (vget (zs.map (·.2)) room).length ≤ 1000) {id : ByteArray} :
    Ctr Tryz.prog G 63 [.agg (cVV V).toArray, .string room, .string id] [] (fun F v A => v = .tuple #[.agg (cPos (posAt (vget (zs.map (·.2)) room) id)).toArray, .bool ((vget (zs.map (·.2)) room).has id)] ∧ A = F) := by
  refine Ctr.intro Tryz.func63 rfl (by kernel_rfl) rfl (fun F => ?_)
  simp only [List.nil_append]
  obtain ⟨hd, hg⟩ := hZ.of room
  refine sr' ?_
  refine RunL.boxA (xs := (cVV V)) rfl (Wt.none rfl) rfl ?_; intro b3
  refine RunL.alloc zz69 (Wt.none rfl) rfl ?_; intro b6
  refine as' rfl (nl' ?_)
  refine la' (row b3 65 _) Lends.row fun G3 hleG3 hrb3 => ?_
  replace hd := hd.mono hleG3
  replace hZ := hZ.mono hleG3
  refine sr' (lA' (cVV V) rfl agg65 sz65 ?_)
  refine mv' rfl ?_
  refine ca' rfl rfl (s := rOfV_ctr (room := room) hZ hb) (q := ?_)
  rintro _ _ ⟨rfl, hA_⟩
  replace hA_ := hA_.symm; subst hA_
  refine RunL.alloc zz76 (Wt.none rfl) rfl ?_; intro b8
  refine sW' (cDD ((ofD zs room))) rfl rfl sz76 ?_
  refine nl' (sq' (sr' (lA' (cDD ((ofD zs room))) rfl agg76 sz76 ?_)))
  refine mv' rfl ?_
  refine ca' rfl rfl (s := rdAt_ctr hd hb2) (q := ?_)
  rintro _ _ ⟨rfl, hA_⟩
  replace hA_ := hA_.symm; subst hA_
  refine pp' (Pure.lss rfl rfl) (nl' ?_)
  refine Run.cond rfl (fun h1 => ?_) (fun h1 => ?_)
  · try simp only [Z] at h1
    have hno := at_neg.1 h1
    refine sr' (pp' (Pure.buildL (ps := []) (zs := [(.int .i64 0), (.string .empty)]) (xs := (cPos ((⟨0, .empty⟩ : Pos)))) pl69 rfl rfl rfl rfl) (sW' (cPos ((⟨0, .empty⟩ : Pos))) rfl rfl sz69 ?_))
    refine as' rfl (nl' ?_)
    exact rt' Tryz.func63 (resV2 rfl (Rv.cellN (us := (cPos ((⟨0, .empty⟩ : Pos)))) rfl (by first | ((repeat (first | (with_reducible exact F0 _) | apply F1)); done) | (repeat (first | exact F0 _ | apply F1))) agg69 sz69 (by first | exact Nat.le_of_ble_eq_true rfl | (simp; done) | (simp; omega)) rfl) (Rv.tmp rfl)) (by exact ⟨by rw [posAt, hno]; rfl, rfl⟩)
  · try simp only [Z] at h1
    have hyes := at_pos.1 (show 0 ≤ atOf (vget (zs.map (·.2)) room) id by omega)
    refine sk' (sr' (lA' (cDD ((ofD zs room))) rfl agg76 sz76 ?_))
    refine mv' rfl ?_
    refine ca' rfl rfl (s := rdPosition_ctr hd hb2 hg) (q := ?_)
    rintro _ _ ⟨rfl, hA_⟩
    replace hA_ := hA_.symm; subst hA_
    refine sW' (cPos ((⟨depthOf (vget (zs.map (·.2)) room) id, id⟩ : Pos))) rfl rfl sz69 ?_
    refine as' rfl (nl' ?_)
    exact rt' Tryz.func63 (resV2 rfl (Rv.cellN (us := (cPos ((⟨depthOf (vget (zs.map (·.2)) room) id, id⟩ : Pos)))) rfl (by first | ((repeat (first | (with_reducible exact F0 _) | apply F1)); done) | (repeat (first | exact F0 _ | apply F1))) agg69 sz69 (by first | exact Nat.le_of_ble_eq_true rfl | (simp; done) | (simp; omega)) rfl) (Rv.tmp rfl)) (by exact ⟨by rw [posAt, hyes, if_pos rfl], rfl⟩)

set_option maxHeartbeats 4000000 in
set_option maxRecDepth 100000 in
theorem rFitsV_ctr {G : Gp} {V : VV} {zs : ZV} (hZ : HasZ G V zs) (hb : zs.length ≤ 1000) {room : ByteArray} (hb2 : (vget (zs.map (·.2)) room).length ≤ 1000) {id thread : ByteArray} :
    Ctr Tryz.prog G 62 [.agg (cVV V).toArray, .string room, .string id, .string thread] [] (fun F v A => v = .int .i64 (fitsI (vget (zs.map (·.2)) room) id thread) ∧ A = F) := by
  refine Ctr.intro Tryz.func62 rfl (by kernel_rfl) rfl (fun F => ?_)
  simp only [List.nil_append]
  obtain ⟨hd, hg⟩ := hZ.of room
  have hd' := hd
  obtain ⟨hroom, ys, hyl, hdn, hds, hdc, hdk⟩ := hd'
  have hyn := ES_len hyl
  refine sr' ?_
  refine RunL.boxA (xs := (cVV V)) rfl (Wt.none rfl) rfl ?_; intro b4
  refine as' rfl (nl' ?_)
  refine la' (row b4 65 _) Lends.row fun G4 hleG4 hrb4 => ?_
  replace hd := hd.mono hleG4
  replace hds := hds.mono hleG4
  replace hZ := hZ.mono hleG4
  refine sr' (lA' (cVV V) rfl agg65 sz65 ?_)
  refine mv' rfl ?_
  refine ca' rfl rfl (s := rOfV_ctr (room := room) hZ hb) (q := ?_)
  rintro _ _ ⟨rfl, hA_⟩
  replace hA_ := hA_.symm; subst hA_
  refine RunL.alloc zz76 (Wt.none rfl) rfl ?_; intro b9
  refine sW' (cDD ((ofD zs room))) rfl rfl sz76 ?_
  refine nl' (sr' (lA' (cDD ((ofD zs room))) rfl agg76 sz76 ?_))
  refine mv' rfl ?_
  refine ca' rfl rfl (s := rdAt_ctr hd hb2) (q := ?_)
  rintro _ _ ⟨rfl, hA_⟩
  replace hA_ := hA_.symm; subst hA_
  rcases at_cases (vget (zs.map (·.2)) room) id with ⟨h0, he⟩ | ⟨k, u, hk0, hkx, he, hget, _⟩
  · skip
    rw [he]
    refine as' rfl (nl' (sq' (sr' (mv' rfl (pp' (Pure.lss rfl rfl) (nl' ?_))))))
    refine Run.cond rfl (fun hc1 => ?_) (fun hc1 => ?_)
    rotate_left
    · try simp only [Z] at hc1
      exfalso
      first | exact hc1 (by decide) | omega
    try simp only [Z] at hc1
    refine sr' (as' rfl (nl' ?_))
    exact rt' Tryz.func62 (res1 rfl rfl) (by exact ⟨by rw [fits_none (get_nil.2 h0)], rfl⟩)
  · skip
    rw [he]
    obtain ⟨s, hy⟩ := ES_get hyl hk0
    have hkl := (List.getElem?_eq_some_iff.1 hk0).1
    obtain ⟨be, Te, pree, poste, hpe, hroe⟩ := hds.open1 (show 0 < ys.length by omega)
    refine as' rfl (nl' (sq' (sr' (mv' rfl (pp' (Pure.lss rfl rfl) (nl' ?_))))))
    refine Run.cond rfl (fun hc2 => ?_) (fun hc2 => ?_)
    · try simp only [Z] at hc2
      exfalso
      omega
    try simp only [Z] at hc2
    refine sk' (sr' (pp' (Pure.fieldAddr rfl fo76_1) (l1' rfl agg44 ?_)))
    refine mv' rfl ?_
    refine pp' (Pure.indexAddr (opvSl rfl hpe) rfl und44 sz49 (by omega) (by omega)) ?_
    refine pp' (Pure.fieldAddr rfl fo49_3) ?_
    refine RunL.load1R rfl hroe ((elem_at (pre := pree) (post := poste) (f := cES) (sz := 6) (j := 3) (fun _ _ => rfl) hy (by decide)).trans rfl) agg9 (Wt.none rfl) rfl ?_
    refine as' rfl (nl' (sq' (sr' (mv' rfl (pp' (Pure.seql rfl rfl) (mv' rfl ?_))))))
    refine RunL.split (d := 28) rfl (fun t1 => ?_) (fun t1 => ?_)
    · try simp only [Z] at t1
      refine no' (no' (no' (pp' (Pure.pickT rfl rfl) (mv' rfl (no' (no' (no' (un' (un' (no' (pp' (Pure.pickT rfl rfl) (mv' rfl (no' (no' (no' (un' (un' (un' (no' (pp' (Pure.pickT rfl rfl) (nl' (cT' (sr' (as' rfl (nl' ?_)))))))))))))))))))))))))
      exact rt' Tryz.func62 (res1 rfl rfl) (by exact ⟨by rw [fits_ok hget (.inl (bl_inj t1))], rfl⟩)
    · try simp only [Z] at t1
      refine py' (Pure.move rfl) (py' (Pure.move rfl) (py' (Pure.seql rfl rfl) (pp' (Pure.pickF rfl rfl) (mv' rfl ?_))))
      refine RunL.split (d := 33) rfl (fun t2 => ?_) (fun t2 => ?_)
      · try simp only [Z] at t2
        refine no' (no' (no' (un' (un' (no' (pp' (Pure.pickT rfl rfl) (mv' rfl (no' (no' (no' (un' (un' (un' (no' (pp' (Pure.pickT rfl rfl) (nl' (cT' (sr' (as' rfl (nl' ?_))))))))))))))))))))
        exact rt' Tryz.func62 (res1 rfl rfl) (by exact ⟨by rw [fits_ok hget (.inr (.inr (.inl (bl_inj t2))))], rfl⟩)
      · try simp only [Z] at t2
        refine py' (Pure.move rfl) (py' (Pure.seql rfl rfl) (py' (Pure.move rfl) ?_))
        refine RunL.split (d := 36) rfl (fun t3 => ?_) (fun t3 => ?_)
        · try simp only [Z] at t3
          refine py' (Pure.move rfl) (py' (Pure.seql rfl rfl) (py' (Pure.pickT rfl rfl) (pp' (Pure.pickF rfl rfl) (mv' rfl ?_))))
          refine RunL.split (d := 41) rfl (fun t4 => ?_) (fun t4 => ?_)
          · try simp only [Z] at t4
            refine no' (no' (no' (un' (un' (un' (no' (pp' (Pure.pickT rfl rfl) (nl' (cT' (sr' (as' rfl (nl' ?_))))))))))))
            exact rt' Tryz.func62 (res1 rfl rfl) (by exact ⟨by rw [fits_ok hget (.inr (.inl ⟨bl_inj t3, bl_inj t4⟩))], rfl⟩)
          · try simp only [Z] at t4
            refine py' (Pure.move rfl) (py' (Pure.sneq rfl rfl) (py' (Pure.move rfl) ?_))
            refine RunL.split (d := 44) rfl (fun t6 => ?_) (fun t6 => ?_)
            · try simp only [Z] at t6
              refine py' (Pure.move rfl) (py' (Pure.move rfl) (py' (Pure.seql rfl rfl) (py' (Pure.pickT rfl rfl) (pp' (Pure.pickF rfl rfl) (nl' ?_)))))
              refine Run.cond rfl (fun t5 => ?_) (fun t5 => ?_)
              · try simp only [Z] at t5
                refine sr' (as' rfl (nl' ?_))
                exact rt' Tryz.func62 (res1 rfl rfl) (by exact ⟨by rw [fits_ok hget (.inr (.inr (.inr (bl_inj t5))))], rfl⟩)
              · try simp only [Z] at t5
                refine sk' (sr' (as' rfl (nl' ?_)))
                exact rt' Tryz.func62 (res1 rfl rfl) (by exact ⟨by rw [fits_no hget (fun q => by rcases q with q | ⟨q, q'⟩ | q | q <;> first | exact t1 (congrArg bl q) | exact t2 (congrArg bl q) | exact t5 (congrArg bl q) | exact t3 (congrArg bl q) | exact t4 (congrArg bl q') | exact t1 ((congrArg bl q).trans t6))], rfl⟩)
            · try simp only [Z] at t6
              refine no' (no' (no' (py' (Pure.pickF rfl rfl) (pp' (Pure.pickF rfl rfl) (nl' (cF' (sk' (sr' (as' rfl (nl' ?_))))))))))
              exact rt' Tryz.func62 (res1 rfl rfl) (by exact ⟨by rw [fits_no hget (fun q => by rcases q with q | ⟨q, q'⟩ | q | q <;> first | exact t1 (congrArg bl q) | exact t2 (congrArg bl q) | exact t5 (congrArg bl q) | exact t3 (congrArg bl q) | exact t4 (congrArg bl q') | exact t1 ((congrArg bl q).trans t6))], rfl⟩)
        · try simp only [Z] at t3
          refine no' (no' (py' (Pure.pickF rfl rfl) (pp' (Pure.pickF rfl rfl) (mv' rfl (py' (Pure.move rfl) (py' (Pure.sneq rfl rfl) (py' (Pure.move rfl) ?_)))))))
          refine RunL.split (d := 44) rfl (fun t6 => ?_) (fun t6 => ?_)
          · try simp only [Z] at t6
            refine py' (Pure.move rfl) (py' (Pure.move rfl) (py' (Pure.seql rfl rfl) (py' (Pure.pickT rfl rfl) (pp' (Pure.pickF rfl rfl) (nl' ?_)))))
            refine Run.cond rfl (fun t5 => ?_) (fun t5 => ?_)
            · try simp only [Z] at t5
              refine sr' (as' rfl (nl' ?_))
              exact rt' Tryz.func62 (res1 rfl rfl) (by exact ⟨by rw [fits_ok hget (.inr (.inr (.inr (bl_inj t5))))], rfl⟩)
            · try simp only [Z] at t5
              refine sk' (sr' (as' rfl (nl' ?_)))
              exact rt' Tryz.func62 (res1 rfl rfl) (by exact ⟨by rw [fits_no hget (fun q => by rcases q with q | ⟨q, q'⟩ | q | q <;> first | exact t1 (congrArg bl q) | exact t2 (congrArg bl q) | exact t5 (congrArg bl q) | exact t3 (congrArg bl q) | exact t4 (congrArg bl q') | exact t1 ((congrArg bl q).trans t6))], rfl⟩)
          · try simp only [Z] at t6
            refine no' (no' (no' (py' (Pure.pickF rfl rfl) (pp' (Pure.pickF rfl rfl) (nl' (cF' (sk' (sr' (as' rfl (nl' ?_))))))))))
            exact rt' Tryz.func62 (res1 rfl rfl) (by exact ⟨by rw [fits_no hget (fun q => by rcases q with q | ⟨q, q'⟩ | q | q <;> first | exact t1 (congrArg bl q) | exact t2 (congrArg bl q) | exact t5 (congrArg bl q) | exact t3 (congrArg bl q) | exact t4 (congrArg bl q') | exact t1 ((congrArg bl q).trans t6))], rfl⟩)

end Go.Proofs.YtaaondbmkibkkaaGreat
