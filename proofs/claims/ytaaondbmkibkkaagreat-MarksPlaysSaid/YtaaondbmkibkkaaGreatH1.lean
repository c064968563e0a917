/- The reference's dags. -/
import Derived.Test.YtaaondbmkibkkaaGreatH0
set_option linter.unusedVariables false
set_option linter.unusedSimpArgs false
set_option linter.unusedSectionVars false
namespace Go.Proofs.YtaaondbmkibkkaaGreat
open Go Csl
theorem fo76_1 : fieldOff Tryz.prog 76 1 = some 1 := by kernel_rfl
theorem agg44 : isAggOf Tryz.prog 44 = some false := by kernel_rfl
theorem und44 : Tryz.prog.underlying 44 = some (Go.TypeDesc.slice 49) := Tryz.underlying44
theorem by3 : bytesIs Tryz.prog 3 = some 8 := by kernel_rfl
theorem agg76 : isAggOf Tryz.prog 76 = some true := by kernel_rfl
theorem sz76 : sizeIs Tryz.prog 76 = some 2 := by kernel_rfl
theorem zz76 : zeroIs Tryz.prog 76 = some (.agg #[(.string .empty), (.slice none 0 0)]) := by kernel_rfl
theorem fo76_0 : fieldOff Tryz.prog 76 0 = some 0 := by kernel_rfl
theorem by49 : bytesIs Tryz.prog 49 = some 96 := by kernel_rfl
theorem pl76 : placesOf Tryz.prog 76 = some ([(0, 1), (1, 1)], (.agg #[(.string .empty), (.slice none 0 0)])) := by kernel_rfl
theorem cb66 : Callable Tryz.prog 66 := ⟨_, Tryz.func66, by kernel_rfl, by kernel_rfl⟩

set_option maxHeartbeats 4000000 in
set_option maxRecDepth 100000 in
theorem rdAt_ctr {G : Gp} {D : DD} {room : ByteArray} {l : EL} (hd : HasD G D room l) (hb : l.length ≤ 1000) {x : ByteArray} :
    Ctr Tryz.prog G 102 [.agg (cDD D).toArray, .string x] [] (fun F v A => v = .int .i64 (atOf l x) ∧ A = F) := by
  refine Ctr.intro Tryz.func102 rfl (by kernel_rfl) rfl (fun F => ?_)
  simp only [List.nil_append]
  obtain ⟨hroom, ys, hyl, hdn, hds, hdc, hdk⟩ := id hd
  have hyn := ES_len hyl
  refine sr' ?_
  refine RunL.boxA (xs := (cDD D)) rfl (Wt.none rfl) rfl ?_; intro b2
  refine as' rfl (nl' ?_)
  refine la' (row b2 76 _) Lends.row fun G2 hleG2 hrb2 => ?_
  replace hd := hd.mono hleG2
  replace hds := hds.mono hleG2
  replace hdk := hdk.mono hleG2
  refine sq' (sr' (as' rfl (nl' (bl' ?_))))
  refine kp' [1, 2, 5] ?_
  refine lp' F (fun n e_ A => ∃ (i : Nat), i ≤ ys.length ∧ (∀ j u, j < i → l[j]? = some u → u.id ≠ x) ∧ n = ys.length - i ∧ e_ = [(1, .string x), (2, .pointer (some ⟨b2, 0, none⟩)), (5, .int .i64 (i : Nat))] ∧ A = F) (ys.length) (by exact ⟨0, by omega, fun j u hj => absurd hj (Nat.not_lt_zero _), rfl, rfl, rfl⟩) ?_
  rintro n _ _ ⟨i, hi, hall, rfl, rfl, hA_⟩ ih
  replace hA_ := hA_.symm; subst hA_
  refine sq' (sr' (mv' rfl (pp' (Pure.fieldAddr rfl fo76_1) (l1' rfl agg44 ?_))))
  refine pp' (Pure.lenSl rfl rfl und44) (pp' (Pure.lss rfl rfl) (nl' ?_))
  refine Run.cond rfl (fun h1 => ?_) (fun h1 => ?_)
  · try simp only [Z] at h1
    obtain ⟨v, hv⟩ := get_some (xs := l) (i := i) (by omega)
    obtain ⟨s, hy⟩ := ES_get hyl hv
    obtain ⟨be, Te, pree, poste, hpe, hroe⟩ := hds.open1 (show 0 < ys.length by omega)
    refine sk' (sq' (bl' (sr' (pp' (Pure.fieldAddr rfl fo76_1) (l1' rfl agg44 ?_)))))
    refine mv' rfl ?_
    refine pp' (Pure.indexAddr (opvSl rfl hpe) rfl und44 sz49 (by omega) (by omega)) ?_
    refine pp' (Pure.fieldAddr rfl fo49_0) ?_
    refine RunL.load1R rfl hroe ((elem_at (pre := pree) (post := poste) (f := cES) (sz := 6) (j := 0) (fun _ _ => rfl) hy (by decide)).trans rfl) agg9 (Wt.none rfl) rfl ?_
    refine mv' rfl (pp' (Pure.seql rfl rfl) (nl' ?_))
    refine Run.cond rfl (fun h2 => ?_) (fun h2 => ?_)
    · try simp only [Z] at h2
      refine sr' (mv' rfl (as' rfl (nl' ?_)))
      exact rt' Tryz.func102 (res1 rfl rfl) (by exact ⟨by rw [at_of hv (bl_inj h2) hall], rfl⟩)
    · try simp only [Z] at h2
      refine sk' (ib' (rg' (mv' rfl ?_)))
      first | refine RunL.pure (Pure.addI rfl rfl (by omega)) (Wt.none rfl) rfl rfl ?_ | refine RunL.pure (Pure.add rfl rfl) (Wt.none rfl) rfl rfl ?_
      refine as' rfl (nl' ?_)
      refine kp' [1, 2, 5] ?_
      exact ag' F ih (by exact ⟨i + 1, by omega, lt_succ_of2 hall hv (fun q => h2 (by rw [show (v.evn s).id = x from q])), rfl, rfl, rfl⟩)
  · try simp only [Z] at h1
    refine ex' rfl (sr' (as' rfl (nl' ?_)))
    exact rt' Tryz.func102 (res1 rfl rfl) (by exact ⟨by rw [at_none (all_of_lt hall (by omega))], rfl⟩)

set_option maxHeartbeats 4000000 in
set_option maxRecDepth 100000 in
theorem rdDepth_ctr {G : Gp} {D : DD} {room : ByteArray} {l : EL} (hd : HasD G D room l) (hb : l.length ≤ 1000) (hg : Csl.Good room l) {x : ByteArray} :
    Ctr Tryz.prog G 132 [.agg (cDD D).toArray, .string x] [] (fun F v A => v = .int .i64 (depthOf l x) ∧ A = F) := by
  refine Ctr.intro Tryz.func132 rfl (by kernel_rfl) rfl (fun F => ?_)
  simp only [List.nil_append]
  obtain ⟨hroom, ys, hyl, hdn, hds, hdc, hdk⟩ := id hd
  have hyn := ES_len hyl
  have hac := at_cases l x
  refine sr' ?_
  refine RunL.boxA (xs := (cDD D)) rfl (Wt.none rfl) rfl ?_; intro b2
  refine as' rfl (nl' ?_)
  refine la' (row b2 76 _) Lends.row fun G2 hleG2 hrb2 => ?_
  replace hd := hd.mono hleG2
  replace hds := hds.mono hleG2
  replace hdk := hdk.mono hleG2
  refine sr' (lA' (cDD D) rfl agg76 sz76 ?_)
  refine mv' rfl ?_
  refine ca' rfl rfl (s := rdAt_ctr hd hb) (q := ?_)
  rintro _ _ ⟨rfl, hA_⟩
  replace hA_ := hA_.symm; subst hA_
  rcases hac with ⟨h0, he⟩ | ⟨k, v0, hk0, hkx, he, _, _⟩
  · skip
    rw [he]
    refine as' rfl (nl' (sq' (sr' (mv' rfl (pp' (Pure.lss rfl rfl) (nl' ?_))))))
    refine Run.cond rfl (fun hc1 => ?_) (fun hc1 => ?_)
    rotate_left
    · try simp only [Z] at hc1
      exfalso
      first | exact hc1 (by decide) | omega
    try simp only [Z] at hc1
    refine sr' (as' rfl (nl' ?_))
    exact rt' Tryz.func132 (res1 rfl rfl) (by exact ⟨by rw [depthOf_none h0], rfl⟩)
  · skip
    rw [he]
    have hkl := (List.getElem?_eq_some_iff.1 hk0).1
    refine as' rfl (nl' (sq' (sr' (mv' rfl (pp' (Pure.lss rfl rfl) (nl' ?_))))))
    refine Run.cond rfl (fun hc2 => ?_) (fun hc2 => ?_)
    · try simp only [Z] at hc2
      exfalso
      omega
    try simp only [Z] at hc2
    refine sk' (sr' (mv' rfl ?_))
    first | refine RunL.pure (Pure.addI rfl rfl (by omega)) (Wt.none rfl) rfl rfl ?_ | refine RunL.pure (Pure.add rfl rfl) (Wt.none rfl) rfl rfl ?_
    refine RunL.make1 (n := k + 1) rfl rfl und43 sz3 zz3 by3 rfl (by omega) (by omega) (Wt.none rfl) rfl ?_; intro b16
    obtain ⟨a6, ha6⟩ : ∃ x : Option Addr, x = some ⟨b16, 0, none⟩ := ⟨_, rfl⟩
    rw [← ha6]
    refine as' rfl (nl' (sq' (sr' (as' rfl (nl' ?_)))))
    rw [show (List.replicate (k + 1) (Value.int .i64 0)) = (dsA l k 0 0).map (Value.int .i64) from by rw [dsA_zero, List.map_replicate]]
    refine bl' ?_
    refine kp' [2, 5, 6, 7] ?_
    refine lp' F (fun n e_ A => ∃ (i : Nat), i ≤ k + 1 ∧ n = k + 1 - i ∧ e_ = [(2, .pointer (some ⟨b2, 0, none⟩)), (5, .int .i64 (k : Nat)), (6, .slice a6 (k + 1) (k + 1)), (7, .int .i64 (i : Nat))] ∧ A = Sl 3 1 a6 (k + 1) (k + 1) ((dsA l k i 0).map (Value.int .i64)) :: F) (k + 1) (by exact ⟨0, by omega, rfl, rfl, rfl⟩) ?_
    rintro n _ _ ⟨i, hi, rfl, rfl, hA_⟩ ih
    replace hA_ := hA_.symm; subst hA_
    refine sq' (sr' (mv' rfl (mv' rfl (pp' (Pure.leq rfl rfl) (nl' ?_)))))
    refine Run.cond rfl (fun h2 => ?_) (fun h2 => ?_)
    · try simp only [Z] at h2
      obtain ⟨v, hv⟩ := get_some (xs := l) (i := i) (by omega)
      obtain ⟨s, hy⟩ := ES_get hyl hv
      obtain ⟨be, Te, pree, poste, hpe, hroe⟩ := hds.open1 (show 0 < ys.length by omega)
      have hvs : (v.evn s).par.n = v.ps.length := (hdk _ (List.mem_of_getElem? hy)).1
      have hvl := evOk_len (hg.mem (List.mem_of_getElem? hv)).1
      have ih1 := ih
      skip
      refine sk' (sq' (bl' (sr' (as' rfl (nl' (bl' ?_))))))
      refine kp' [2, 5, 6, 7, 8] ?_
      refine lp' F (fun n e_ A => ∃ (j : Nat), j ≤ v.ps.length ∧ n = v.ps.length - j ∧ e_ = [(2, .pointer (some ⟨b2, 0, none⟩)), (5, .int .i64 (k : Nat)), (6, .slice a6 (k + 1) (k + 1)), (7, .int .i64 (i : Nat)), (8, .int .i64 (j : Nat))] ∧ A = Sl 3 1 a6 (k + 1) (k + 1) ((dsA l k i (addDepth (depthOf l) (v.ps.take j))).map (Value.int .i64)) :: F) (v.ps.length) (by exact ⟨0, by omega, rfl, rfl, rfl⟩) ?_
      rintro n _ _ ⟨j, hj, rfl, rfl, hA_⟩ ih
      replace hA_ := hA_.symm; subst hA_
      refine sq' (sr' (mv' rfl (pp' (Pure.fieldAddr rfl fo76_1) (l1' rfl agg44 ?_))))
      refine mv' rfl ?_
      refine pp' (Pure.indexAddr (opvSl rfl hpe) rfl und44 sz49 (by omega) (by omega)) ?_
      refine pp' (Pure.fieldAddr rfl fo49_2) ?_
      refine RunL.load1R rfl hroe ((elem_at (pre := pree) (post := poste) (f := cES) (sz := 6) (j := 2) (fun _ _ => rfl) hy (by decide)).trans rfl) agg47 (Wt.none rfl) rfl ?_
      refine pp' (Pure.lenSl rfl rfl und47) (pp' (Pure.lss rfl rfl) (nl' ?_))
      refine Run.cond rfl (fun h3 => ?_) (fun h3 => ?_)
      · try simp only [Z] at h3
        obtain ⟨q, hq⟩ := get_some (xs := v.ps) (i := j) (by omega)
        obtain ⟨j2, u, hj2, hu, huq⟩ := hg.parent hv (List.mem_of_getElem? hq)
        have hqa : atOf l q = (j2 : Nat) := at_of hu huq (fun j3 w hj3 hw hwq => nodup_ne hg.nodup hj3 (x := q) (by rw [List.getElem?_map, hw]; exact congrArg some hwq) (by rw [List.getElem?_map, hu]; exact congrArg some huq))
        have hk1 : (dsA l k i (addDepth (depthOf l) (v.ps.take j)))[i]? = some (addDepth (depthOf l) (v.ps.take j)) := by rw [dsA_get (by omega), if_neg (Nat.lt_irrefl _), if_pos rfl]
        have hk2 : (dsA l k i (addDepth (depthOf l) (v.ps.take j)))[j2]? = some (depthOf l q) := by rw [dsA_get (by omega), if_pos hj2, idAt_eq hu, huq]
        have hqd := depthOf_bounds l q
        obtain ⟨be, Te, pree, poste, hpe, hroe⟩ := hds.open1 (show 0 < ys.length by omega)
        obtain ⟨bp, Tp, prep, postp, hpp, hrop⟩ := (hdk _ (List.mem_of_getElem? hy)).2.open1 (show 0 < v.ps.length by omega)
        refine sk' ?_
        refine Run.openSl (a := a6) (n := k + 1) (by first | ((repeat (first | (with_reducible exact F0 _) | apply F1)); done) | (repeat (first | exact F0 _ | apply F1))) (by omega) ?_; rintro b6 pre6 post6 rfl hsl1 hsl2 hsl3
        refine sq' (bl' ?_)
        refine Run.regionD' (by kernel_rfl) (by kernel_rfl) (fun hok120 => ?_)
        refine dp' 0 hok120 rfl (Pure.move rfl) (dp' 1 hok120 rfl (Pure.move rfl) (dp' 2 hok120 rfl (Pure.move rfl) (dp' 3 hok120 rfl (Pure.move rfl) ?_)))
        refine dp' 4 hok120 rfl (Pure.indexAddr rfl rfl und43 sz3 (by omega) (by omega)) ?_
        refine dp' 6 hok120 rfl (Pure.move rfl) ?_
        refine RunD.loadNR (vs := (cDD D)) (i := 7) hok120 rfl (by kernel_rfl) rfl (by assumption) agg76 sz76 (by first | exact Nat.le_of_ble_eq_true rfl | (simp; done) | (simp; omega)) rfl (Wt.none rfl) rfl ?_
        refine dp' 8 hok120 rfl (Pure.fieldAddr rfl fo76_1) (dl' 9 hok120 rfl rfl agg44 ?_)
        refine dp' 10 hok120 rfl (Pure.move rfl) ?_
        refine dp' 11 hok120 rfl (Pure.indexAddr (opvSl rfl hpe) rfl und44 sz49 (by omega) (by omega)) ?_
        refine dp' 12 hok120 rfl (Pure.fieldAddr rfl fo49_2) ?_
        refine RunD.load1R (i := 13) hok120 rfl (by kernel_rfl) rfl hroe ((elem_at (pre := pree) (post := poste) (f := cES) (sz := 6) (j := 2) (fun _ _ => rfl) hy (by decide)).trans rfl) agg47 (Wt.none rfl) rfl ?_
        refine dp' 14 hok120 rfl (Pure.move rfl) ?_
        refine dp' 15 hok120 rfl (Pure.indexAddr (opvSl rfl hpp) rfl und47 sz9 (by omega) (by omega)) ?_
        refine RunD.load1R (i := 16) hok120 rfl (by kernel_rfl) rfl hrop (elem1_at hq) agg9 (Wt.none rfl) rfl ?_
        refine RunD.two (i := 5) (j := 17) (by kernel_rfl) rfl rfl ?_ ?_
        · skip
          refine RunL.load1 rfl (by first | ((repeat (first | (with_reducible exact F0 _) | apply F1)); done) | (repeat (first | exact F0 _ | apply F1))) (elem1_at hk1) agg3 (Wt.none rfl) rfl ?_
          refine RunL.nilD' ?_
          refine RunD.one (i := 17) (by kernel_rfl) rfl ?_
          · skip
            refine ca' rfl rfl (s := rdAt_ctr hd hb) (q := ?_)
            rintro _ _ ⟨rfl, hA_⟩
            replace hA_ := hA_.symm; subst hA_
            refine RunL.nilD' ?_
            rw [hqa]
            refine dp' 18 hok120 rfl (Pure.indexAddr rfl rfl und43 sz3 (by omega) (by omega)) ?_
            refine RunD.one (i := 19) (by kernel_rfl) rfl ?_
            · skip
              refine RunL.load1 rfl (by first | ((repeat (first | (with_reducible exact F0 _) | apply F1)); done) | (repeat (first | exact F0 _ | apply F1))) (elem1_at hk2) agg3 (Wt.none rfl) rfl ?_
              refine RunL.nilD' ?_
              first | refine RunD.pure (i := 20) hok120 rfl (by kernel_rfl) (Pure.addI rfl rfl (by omega)) (Wt.none rfl) rfl rfl ?_ | refine RunD.pure (i := 20) hok120 rfl (by kernel_rfl) (Pure.add rfl rfl) (Wt.none rfl) rfl rfl ?_
              refine dp' 21 hok120 rfl (Pure.max2 rfl rfl) ?_
              refine dp' 22 hok120 rfl (Pure.indexAddr rfl rfl und43 sz3 (by omega) (by omega)) ?_
              refine RunD.one (i := 23) (by kernel_rfl) rfl ?_
              · skip
                refine RunL.store1A rfl rfl (by first | ((repeat (first | (with_reducible exact F0 _) | apply F1)); done) | (repeat (first | exact F0 _ | apply F1))) sz3 (by rfl) (by simp [dsA_len]; omega) (set1_el (f := (Value.int .i64)) (y := (max (addDepth (depthOf l) (v.ps.take j)) (depthOf l q + 1))) (by rw [dsA_len]; omega)) (Wt.none rfl) ?_
                refine RunL.nilD' ?_
                refine RunD.nilR (by kernel_rfl) ?_
                refine ib' ?_
                rw [Int.toNat_natCast, dsA_set, ← addDepth_take hq]
                refine Run.mkSl (b := b6) (pre := pre6) (post := post6) (sz := 1) (n := k + 1) (cs := (dsA l k i (addDepth (depthOf l) (v.ps.take (j + 1)))).map (Value.int .i64)) (by first | ((repeat (first | (with_reducible exact F0 _) | apply F1)); done) | (repeat (first | exact F0 _ | apply F1))) (by simp [dsA_len]) hsl2 hsl3 ?_
                refine rg' (mv' rfl ?_)
                first | refine RunL.pure (Pure.addI rfl rfl (by omega)) (Wt.none rfl) rfl rfl ?_ | refine RunL.pure (Pure.add rfl rfl) (Wt.none rfl) rfl rfl ?_
                refine as' rfl (nl' ?_)
                refine kp' [2, 5, 6, 7, 8] ?_
                exact ag' F ih (by exact ⟨j + 1, by omega, rfl, rfl, rfl⟩)
        · skip
          refine ca' rfl rfl (s := rdAt_ctr hd hb) (q := ?_)
          rintro _ _ ⟨rfl, hA_⟩
          replace hA_ := hA_.symm; subst hA_
          refine RunL.nilD' ?_
          rw [hqa]
          refine dp' 18 hok120 rfl (Pure.indexAddr rfl rfl und43 sz3 (by omega) (by omega)) ?_
          refine RunD.two (i := 5) (j := 19) (by kernel_rfl) rfl rfl ?_ ?_
          · skip
            refine RunL.load1 rfl (by first | ((repeat (first | (with_reducible exact F0 _) | apply F1)); done) | (repeat (first | exact F0 _ | apply F1))) (elem1_at hk1) agg3 (Wt.none rfl) rfl ?_
            refine RunL.nilD' ?_
            refine RunD.one (i := 19) (by kernel_rfl) rfl ?_
            · skip
              refine RunL.load1 rfl (by first | ((repeat (first | (with_reducible exact F0 _) | apply F1)); done) | (repeat (first | exact F0 _ | apply F1))) (elem1_at hk2) agg3 (Wt.none rfl) rfl ?_
              refine RunL.nilD' ?_
              first | refine RunD.pure (i := 20) hok120 rfl (by kernel_rfl) (Pure.addI rfl rfl (by omega)) (Wt.none rfl) rfl rfl ?_ | refine RunD.pure (i := 20) hok120 rfl (by kernel_rfl) (Pure.add rfl rfl) (Wt.none rfl) rfl rfl ?_
              refine dp' 21 hok120 rfl (Pure.max2 rfl rfl) ?_
              refine dp' 22 hok120 rfl (Pure.indexAddr rfl rfl und43 sz3 (by omega) (by omega)) ?_
              refine RunD.one (i := 23) (by kernel_rfl) rfl ?_
              · skip
                refine RunL.store1A rfl rfl (by first | ((repeat (first | (with_reducible exact F0 _) | apply F1)); done) | (repeat (first | exact F0 _ | apply F1))) sz3 (by rfl) (by simp [dsA_len]; omega) (set1_el (f := (Value.int .i64)) (y := (max (addDepth (depthOf l) (v.ps.take j)) (depthOf l q + 1))) (by rw [dsA_len]; omega)) (Wt.none rfl) ?_
                refine RunL.nilD' ?_
                refine RunD.nilR (by kernel_rfl) ?_
                refine ib' ?_
                rw [Int.toNat_natCast, dsA_set, ← addDepth_take hq]
                refine Run.mkSl (b := b6) (pre := pre6) (post := post6) (sz := 1) (n := k + 1) (cs := (dsA l k i (addDepth (depthOf l) (v.ps.take (j + 1)))).map (Value.int .i64)) (by first | ((repeat (first | (with_reducible exact F0 _) | apply F1)); done) | (repeat (first | exact F0 _ | apply F1))) (by simp [dsA_len]) hsl2 hsl3 ?_
                refine rg' (mv' rfl ?_)
                first | refine RunL.pure (Pure.addI rfl rfl (by omega)) (Wt.none rfl) rfl rfl ?_ | refine RunL.pure (Pure.add rfl rfl) (Wt.none rfl) rfl rfl ?_
                refine as' rfl (nl' ?_)
                refine kp' [2, 5, 6, 7, 8] ?_
                exact ag' F ih (by exact ⟨j + 1, by omega, rfl, rfl, rfl⟩)
          · skip
            refine RunL.load1 rfl (by first | ((repeat (first | (with_reducible exact F0 _) | apply F1)); done) | (repeat (first | exact F0 _ | apply F1))) (elem1_at hk2) agg3 (Wt.none rfl) rfl ?_
            refine RunL.nilD' ?_
            first | refine RunD.pure (i := 20) hok120 rfl (by kernel_rfl) (Pure.addI rfl rfl (by omega)) (Wt.none rfl) rfl rfl ?_ | refine RunD.pure (i := 20) hok120 rfl (by kernel_rfl) (Pure.add rfl rfl) (Wt.none rfl) rfl rfl ?_
            refine RunD.one (i := 5) (by kernel_rfl) rfl ?_
            · skip
              refine RunL.load1 rfl (by first | ((repeat (first | (with_reducible exact F0 _) | apply F1)); done) | (repeat (first | exact F0 _ | apply F1))) (elem1_at hk1) agg3 (Wt.none rfl) rfl ?_
              refine RunL.nilD' ?_
              refine dp' 21 hok120 rfl (Pure.max2 rfl rfl) ?_
              refine dp' 22 hok120 rfl (Pure.indexAddr rfl rfl und43 sz3 (by omega) (by omega)) ?_
              refine RunD.one (i := 23) (by kernel_rfl) rfl ?_
              · skip
                refine RunL.store1A rfl rfl (by first | ((repeat (first | (with_reducible exact F0 _) | apply F1)); done) | (repeat (first | exact F0 _ | apply F1))) sz3 (by rfl) (by simp [dsA_len]; omega) (set1_el (f := (Value.int .i64)) (y := (max (addDepth (depthOf l) (v.ps.take j)) (depthOf l q + 1))) (by rw [dsA_len]; omega)) (Wt.none rfl) ?_
                refine RunL.nilD' ?_
                refine RunD.nilR (by kernel_rfl) ?_
                refine ib' ?_
                rw [Int.toNat_natCast, dsA_set, ← addDepth_take hq]
                refine Run.mkSl (b := b6) (pre := pre6) (post := post6) (sz := 1) (n := k + 1) (cs := (dsA l k i (addDepth (depthOf l) (v.ps.take (j + 1)))).map (Value.int .i64)) (by first | ((repeat (first | (with_reducible exact F0 _) | apply F1)); done) | (repeat (first | exact F0 _ | apply F1))) (by simp [dsA_len]) hsl2 hsl3 ?_
                refine rg' (mv' rfl ?_)
                first | refine RunL.pure (Pure.addI rfl rfl (by omega)) (Wt.none rfl) rfl rfl ?_ | refine RunL.pure (Pure.add rfl rfl) (Wt.none rfl) rfl rfl ?_
                refine as' rfl (nl' ?_)
                refine kp' [2, 5, 6, 7, 8] ?_
                exact ag' F ih (by exact ⟨j + 1, by omega, rfl, rfl, rfl⟩)
      · try simp only [Z] at h3
        refine ex' rfl (ib' ?_)
        obtain rfl : j = v.ps.length := by omega
        rw [List.take_length, ← hg.depth (List.mem_of_getElem? hv), dsA_next hv]
        refine rg' (mv' rfl ?_)
        first | refine RunL.pure (Pure.addI rfl rfl (by omega)) (Wt.none rfl) rfl rfl ?_ | refine RunL.pure (Pure.add rfl rfl) (Wt.none rfl) rfl rfl ?_
        refine as' rfl (nl' ?_)
        have ih := ih1
        refine kp' [2, 5, 6, 7] ?_
        exact ag' F ih (by exact ⟨i + 1, by omega, rfl, rfl, rfl⟩)
    · try simp only [Z] at h2
      obtain rfl : i = k + 1 := by omega
      have hk9 : (dsA l k (k + 1) 0)[k]? = some (depthOf l x) := by rw [dsA_get (by omega), if_pos (by omega), idAt_eq hk0, hkx]
      refine ex' rfl ?_
      refine Run.openSl (a := a6) (n := k + 1) (by first | ((repeat (first | (with_reducible exact F0 _) | apply F1)); done) | (repeat (first | exact F0 _ | apply F1))) (by omega) ?_; rintro b6 pre6 post6 rfl hsl1 hsl2 hsl3
      refine sr' (mv' rfl (mv' rfl ?_))
      refine pp' (Pure.indexAddr rfl rfl und43 sz3 (by omega) (by omega)) ?_
      refine RunL.load1 rfl (by first | ((repeat (first | (with_reducible exact F0 _) | apply F1)); done) | (repeat (first | exact F0 _ | apply F1))) (elem1_at hk9) agg3 (Wt.none rfl) rfl ?_
      refine as' rfl (nl' ?_)
      exact rt' Tryz.func132 (res1 rfl rfl) (by exact ⟨rfl, rfl⟩)

end Go.Proofs.YtaaondbmkibkkaaGreat
