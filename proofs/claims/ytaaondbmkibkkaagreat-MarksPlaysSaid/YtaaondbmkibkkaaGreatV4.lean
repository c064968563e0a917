/- Views: the reference adds. -/
import Derived.Test.YtaaondbmkibkkaaGreatV3
set_option linter.unusedVariables false
set_option linter.unusedSimpArgs false
set_option linter.unusedSectionVars false
namespace Go.Proofs.YtaaondbmkibkkaaGreat
open Go Csl


theorem rOfK_ctr {G : Gp} {K : Hp} {V : VV} {zs : ZV} (hZ : HasZ (gk K) V zs) (hb : zs.length ≤ 1000) {room : ByteArray} : Ctr Tryz.prog G 68 [.agg (cVV V).toArray, .string room] [Pool K] (fun F v A => v = .agg (cDD (ofD zs room)).toArray ∧ A = Pool K :: F) :=
  (Ctr.lend Lends.Pool cb68 (fun G' hle hK => rOfV_ctr (hZ.hp hK) hb)).mono (by rintro F v A ⟨A', rfl, h⟩; obtain ⟨rfl, rfl⟩ := h; exact ⟨rfl, rfl⟩)
set_option maxHeartbeats 4000000 in
set_option maxRecDepth 100000 in
theorem rAddV_ctr {G : Gp} {K : Hp} {V : VV} {zs : ZV} (hZ : HasZ (gk K) V zs) (hb : zs.length ≤ 1000) {e : Evn} {ps : List ByteArray} (hb2 : (vget (zs.map (·.2)) e.room).length ≤ 1000) (hp : HasPs (gk K) e ps) (hw : evWf (e.ev ps)) :
    Ctr Tryz.prog G 34 [.agg (cVV V).toArray, .agg (cEvn e).toArray] [Pool K] (fun F v A => ∃ K' V' zs', Hp.le K K' ∧ HasZ (gk K') V' zs' ∧ (∀ r, vget (zs'.map (·.2)) r = vget (vaddL (zs.map (·.2)) (e.ev ps)) r) ∧ zs'.length ≤ zs.length + 1 ∧ v = .tuple #[.agg (cVV V').toArray, .int .i64 (addRc e.room (vget (zs.map (·.2)) e.room) (e.ev ps))] ∧ A = Pool K' :: F) := by
  refine Ctr.intro Tryz.func34 rfl (by kernel_rfl) rfl (fun F => ?_)
  simp only [List.cons_append, List.nil_append]
  refine sr' ?_
  refine RunL.boxA (xs := (cVV V)) rfl (Wt.none rfl) rfl ?_; intro b2
  refine RunL.boxA (xs := (cEvn e)) rfl (Wt.none rfl) rfl ?_; intro b3
  refine RunL.alloc zz65 (Wt.none rfl) rfl ?_; intro b4
  refine as' rfl (nl' ?_)
  refine la' (row b2 65 _) Lends.row fun G2 hleG2 hrb2 => ?_
  refine la' (row b3 49 _) Lends.row fun G3 hleG3 hrb3 => ?_
  replace hrb2 := hrb2.mono hleG3
  refine sq' ?_
  refine Run.cut (fun e_ A => ∃ (b6 : Nat) (K' : Hp) (nx : DD × ByteArray × EL), Hp.le K K' ∧ HasD (gk K') nx.1 e.room nx.2.2 ∧ nx.2 = (e.room, (addL e.room (vget (zs.map (·.2)) e.room) (e.ev ps))) ∧ e_ = [(2, .pointer (some ⟨b2, 0, none⟩)), (3, .pointer (some ⟨b3, 0, none⟩)), (4, .pointer (some ⟨b4, 0, none⟩)), (5, .int .i64 0), (6, .pointer (some ⟨b6, 0, none⟩)), (7, .int .i64 (addRc e.room (vget (zs.map (·.2)) e.room) (e.ev ps)))] ∧ A = row b4 65 (cVV (⟨⟨none, 0, 0⟩⟩ : VV)) :: row b6 76 (cDD nx.1) :: Pool K' :: F) (fun e A hM => ?_) (fun hk => ?_)
  · obtain ⟨b6, K', nx, hle, hD', hnx, rfl, hA_⟩ := hM
    replace hA_ := hA_.symm; subst hA_
    refine sq' (sr' (mv' rfl (pp' (Pure.neq rfl rfl) (nl' ?_))))
    refine Run.cond rfl (fun h0 => ?_) (fun h0 => ?_)
    · try simp only [Z] at h0
      refine sr' (lA' (cVV V) rfl agg65 sz65 ?_)
      refine mv' rfl (sW' (cVV V) rfl rfl sz65 ?_)
      refine as' rfl (nl' ?_)
      exact rt' Tryz.func34 (resV2 rfl (Rv.cellN (us := (cVV V)) rfl (by first | ((repeat (first | (with_reducible exact F0 _) | apply F1)); done) | (repeat (first | exact F0 _ | apply F1))) agg65 sz65 (by first | exact Nat.le_of_ble_eq_true rfl | (simp; done) | (simp; omega)) rfl) (Rv.tmp rfl)) (by exact ⟨K', V, zs, hle, hZ.hp hle, fun r => by rw [vadd_no h0], by omega, rfl, rfl⟩)
    · try simp only [Z] at h0
      refine Run.nilSl 76 2 ?_
      refine sk' (sr' (as' rfl (nl' (sr' (as' rfl (nl' (sq' (sr' (as' rfl (nl' (bl' ?_)))))))))))
      refine kp' [2, 3, 4, 6, 8, 9, 10] ?_
      refine lp' F (fun n e_ A => ∃ (i : Nat) (a : Option Addr) (c : Nat) (o : ZV) (d : Bool), i ≤ zs.length ∧ insF e.room nx (zs.take i) = (o, d) ∧ n = zs.length - i ∧ e_ = [(2, .pointer (some ⟨b2, 0, none⟩)), (3, .pointer (some ⟨b3, 0, none⟩)), (4, .pointer (some ⟨b4, 0, none⟩)), (6, .pointer (some ⟨b6, 0, none⟩)), (8, .slice a o.length c), (9, .bool d), (10, .int .i64 (i : Nat))] ∧ A = row b4 65 (cVV (⟨⟨none, 0, 0⟩⟩ : VV)) :: row b6 76 (cDD nx.1) :: Pool K' :: Sl 76 2 a (o).length c ((o).flatMap (fun z : DD × ByteArray × EL => cDD z.1)) :: F) (zs.length) (by exact ⟨0, none, 0, [], false, by omega, rfl, rfl, rfl, rfl⟩) ?_
      rintro n _ _ ⟨i, a, c, o, d, hi, hq, rfl, rfl, hA_⟩ ih
      replace hA_ := hA_.symm; subst hA_
      refine sq' (sr' (mv' rfl (pp' (Pure.fieldAddr rfl fo65_0) (l1' rfl agg63 ?_))))
      refine pp' (Pure.lenSl rfl rfl und63) (pp' (Pure.lss rfl rfl) (nl' ?_))
      refine Run.cond rfl (fun h1 => ?_) (fun h1 => ?_)
      · try simp only [Z] at h1
        have hol : o.length ≤ i + 1 := by have := insF_le (room := e.room) (nx := nx) (zs := zs) hi; rw [hq] at this; exact this
        refine lb' (Pool K') Lends.Pool fun gp hlegp hK backgp => ?_
        have hrb2_gp := hrb2.mono hlegp
        have hrb3_gp := hrb3.mono hlegp
        have hZg := hZ.hp (G' := gp) (hle.trans hK)
        obtain ⟨hzn, hzs, hzc, hzk⟩ := hZg
        obtain ⟨z, hz⟩ := get_some (xs := zs) (i := i) (by omega)
        have hzm := hzk z (List.mem_of_getElem? hz)
        have hzr : z.1.room = z.2.1 := hzm.1.1
        obtain ⟨bz, Tz, prez, postz, hpz, hroz⟩ := hzs.open1 (show 0 < zs.length by omega)
        cases d with
| false => ?_
| true => ?_
        · skip
          refine sk' (sq' (bl' (sq' (sq' ?_))))
          refine Run.regionD' (by kernel_rfl) (by kernel_rfl) (fun hok72 => ?_)
          refine dp' 0 hok72 rfl (Pure.move rfl) (dp' 1 hok72 rfl (Pure.not rfl) (dp' 2 hok72 rfl (Pure.move rfl) ?_))
          refine RunD.split (d := 33) rfl (fun hg1 => ?_) (fun hg1 => ?_)
          rotate_left
          · try simp only [Z] at hg1
            exfalso
            first | exact hg1 rfl | exact hg1 trivial | (simp at hg1; done)
          try simp only [Z] at hg1
          refine dp' 3 hok72 rfl (Pure.fieldAddr rfl fo49_1) (dl' 4 hok72 rfl rfl agg9 ?_)
          refine dp' 5 hok72 rfl (Pure.fieldAddr rfl fo65_0) (dl' 6 hok72 rfl rfl agg63 ?_)
          refine dp' 7 hok72 rfl (Pure.move rfl) ?_
          refine dp' 8 hok72 rfl (Pure.indexAddr (opvSl rfl hpz) rfl und63 sz76 (by omega) (by omega)) ?_
          refine dp' 9 hok72 rfl (Pure.fieldAddr rfl fo76_0) ?_
          refine RunD.load1R (i := 10) hok72 rfl (by kernel_rfl) rfl hroz ((elem_at (pre := prez) (post := postz) (f := (fun z : DD × ByteArray × EL => cDD z.1)) (sz := 2) (j := 0) (fun _ _ => rfl) hz (by decide)).trans rfl) agg9 (Wt.yes rfl rfl rfl) rfl ?_
          refine dp' 11 hok72 rfl (Pure.sleq rfl rfl) (dp' 12 hok72 rfl (Pure.pickT rfl rfl) ?_)
          refine RunD.nilR (by kernel_rfl) ?_
          refine Run.cond rfl (fun h3 => ?_) (fun h3 => ?_)
          · try simp only [Z] at h3
            have hle3 : leB e.room z.2.1 = true := by rw [← hzr]; simpa [leB] using h3
            refine sr' (mv' rfl (lA' (cDD nx.1) rfl agg76 sz76 ?_))
            refine RunL.lit (vals := [_]) (vs := ([nx] : ZV).flatMap (fun z : DD × ByteArray × EL => cDD z.1)) und63 sz76 zz76 rfl rfl rfl rfl rfl rfl (by simp [Value.cells, bv, cDD, cEdu, cEvn, cGG, cK, cM, cNde, cPP, cPos, cSS, cVV]) rfl (Wt.none rfl) rfl ?_; intro b46
            refine RunL.append (m := 1) (n' := (o ++ [nx]).length) (cs' := (o ++ [nx]).flatMap (fun z : DD × ByteArray × EL => cDD z.1)) rfl rfl (by first | ((repeat (first | (with_reducible exact F0 _) | apply F1)); done) | (repeat (first | exact F0 _ | apply F1))) rfl rfl und63 und63 rfl sz76 zz76 rfl by76 (by first | omega | (simp; omega)) (by first | omega | (simp; omega)) (fun w sw => sw.src) (isOne_flat (f := (fun z : DD × ByteArray × EL => cDD z.1)) (fun _ => rfl)) (by simp) (by simp only [List.flatMap_append]) (Wt.none rfl) rfl ?_; intro a4 c4
            refine as' rfl (nl' (rg' (as' rfl (nl' (sq' ?_)))))
            refine Run.regionD' (by kernel_rfl) (by kernel_rfl) (fun hok107 => ?_)
            refine dp' 0 hok107 rfl (Pure.fieldAddr rfl fo65_0) (dl' 1 hok107 rfl rfl agg63 ?_)
            refine dp' 2 hok107 rfl (Pure.move rfl) ?_
            refine dp' 3 hok107 rfl (Pure.indexAddr (opvSl rfl hpz) rfl und63 sz76 (by omega) (by omega)) ?_
            refine dp' 4 hok107 rfl (Pure.fieldAddr rfl fo76_0) ?_
            refine RunD.load1R (i := 5) hok107 rfl (by kernel_rfl) rfl hroz ((elem_at (pre := prez) (post := postz) (f := (fun z : DD × ByteArray × EL => cDD z.1)) (sz := 2) (j := 0) (fun _ _ => rfl) hz (by decide)).trans rfl) agg9 (Wt.none rfl) rfl ?_
            refine dp' 6 hok107 rfl (Pure.fieldAddr rfl fo49_1) (dl' 7 hok107 rfl rfl agg9 ?_)
            refine dp' 8 hok107 rfl (Pure.sneq rfl rfl) ?_
            refine RunD.nilR (by kernel_rfl) ?_
            refine Run.cond rfl (fun h4 => ?_) (fun h4 => ?_)
            · try simp only [Z] at h4
              have hne : z.2.1 ≠ e.room := fun q => h4 (by rw [hzr, q])
              refine rg' (mv' rfl (pp' (Pure.fieldAddr rfl fo65_0) (l1' rfl agg63 ?_)))
              refine mv' rfl ?_
              refine pp' (Pure.indexAddr (opvSl rfl hpz) rfl und63 sz76 (by omega) (by omega)) ?_
              refine RunL.loadNR (vs := (cDD z.1)) rfl hroz agg76 sz76 (elemN_len (pre := prez) (post := postz) (f := (fun z : DD × ByteArray × EL => cDD z.1)) (sz := 2) (j := 0) (n := 2) (fun _ _ => rfl) hz (by decide)) ((elemN_at (pre := prez) (post := postz) (f := (fun z : DD × ByteArray × EL => cDD z.1)) (sz := 2) (j := 0) (n := 2) (fun _ _ => rfl) hz (by decide)).trans rfl) (Wt.none rfl) rfl ?_
              refine RunL.lit (vals := [_]) (vs := ([z] : ZV).flatMap (fun z : DD × ByteArray × EL => cDD z.1)) und63 sz76 zz76 rfl rfl rfl rfl rfl rfl (by simp [Value.cells, bv, cDD, cEdu, cEvn, cGG, cK, cM, cNde, cPP, cPos, cSS, cVV]) rfl (Wt.none rfl) rfl ?_; intro b63
              refine RunL.append (m := 1) (n' := ((o ++ [nx]) ++ [z]).length) (cs' := ((o ++ [nx]) ++ [z]).flatMap (fun z : DD × ByteArray × EL => cDD z.1)) rfl rfl (by first | ((repeat (first | (with_reducible exact F0 _) | apply F1)); done) | (repeat (first | exact F0 _ | apply F1))) rfl rfl und63 und63 rfl sz76 zz76 rfl by76 (by first | omega | (simp; omega)) (by first | omega | (simp; omega)) (fun w sw => sw.src) (isOne_flat (f := (fun z : DD × ByteArray × EL => cDD z.1)) (fun _ => rfl)) (by simp) (by simp only [List.flatMap_append]) (Wt.none rfl) rfl ?_; intro a5 c5
              refine as' rfl (nl' ?_)
              refine Run.backB backgp ?_
              refine ib' (rg' (mv' rfl ?_))
              first | refine RunL.pure (Pure.addI rfl rfl (by omega)) (Wt.none rfl) rfl rfl ?_ | refine RunL.pure (Pure.add rfl rfl) (Wt.none rfl) rfl rfl ?_
              refine as' rfl (nl' ?_)
              refine kp' [2, 3, 4, 6, 8, 9, 10] ?_
              exact ag' F ih (by exact ⟨i + 1, a5, c5, (o ++ [nx]) ++ [z], true, by omega, by rw [insF_take hz, hq]; simp [insV, hle3, hne], rfl, rfl, rfl⟩)
            · try simp only [Z] at h4
              have hne : z.2.1 = e.room := hzr.symm.trans (bl_inj h4)
              try rw [hne] at hle3
              refine Run.backB backgp ?_
              refine sk' (ib' (rg' (mv' rfl ?_)))
              first | refine RunL.pure (Pure.addI rfl rfl (by omega)) (Wt.none rfl) rfl rfl ?_ | refine RunL.pure (Pure.add rfl rfl) (Wt.none rfl) rfl rfl ?_
              refine as' rfl (nl' ?_)
              refine kp' [2, 3, 4, 6, 8, 9, 10] ?_
              exact ag' F ih (by exact ⟨i + 1, a4, c4, (o ++ [nx]), true, by omega, by rw [insF_take hz, hq]; simp [insV, hle3, hne], rfl, rfl, rfl⟩)
          · try simp only [Z] at h3
            have hle3 : leB e.room z.2.1 = false := by rw [← hzr]; exact h3
            refine sk' (sq' ?_)
            refine Run.regionD' (by kernel_rfl) (by kernel_rfl) (fun hok160 => ?_)
            refine dp' 0 hok160 rfl (Pure.fieldAddr rfl fo65_0) (dl' 1 hok160 rfl rfl agg63 ?_)
            refine dp' 2 hok160 rfl (Pure.move rfl) ?_
            refine dp' 3 hok160 rfl (Pure.indexAddr (opvSl rfl hpz) rfl und63 sz76 (by omega) (by omega)) ?_
            refine dp' 4 hok160 rfl (Pure.fieldAddr rfl fo76_0) ?_
            refine RunD.load1R (i := 5) hok160 rfl (by kernel_rfl) rfl hroz ((elem_at (pre := prez) (post := postz) (f := (fun z : DD × ByteArray × EL => cDD z.1)) (sz := 2) (j := 0) (fun _ _ => rfl) hz (by decide)).trans rfl) agg9 (Wt.none rfl) rfl ?_
            refine dp' 6 hok160 rfl (Pure.fieldAddr rfl fo49_1) (dl' 7 hok160 rfl rfl agg9 ?_)
            refine dp' 8 hok160 rfl (Pure.sneq rfl rfl) ?_
            refine RunD.nilR (by kernel_rfl) ?_
            refine Run.cond rfl (fun h4 => ?_) (fun h4 => ?_)
            · try simp only [Z] at h4
              have hne : z.2.1 ≠ e.room := fun q => h4 (by rw [hzr, q])
              refine rg' (mv' rfl (pp' (Pure.fieldAddr rfl fo65_0) (l1' rfl agg63 ?_)))
              refine mv' rfl ?_
              refine pp' (Pure.indexAddr (opvSl rfl hpz) rfl und63 sz76 (by omega) (by omega)) ?_
              refine RunL.loadNR (vs := (cDD z.1)) rfl hroz agg76 sz76 (elemN_len (pre := prez) (post := postz) (f := (fun z : DD × ByteArray × EL => cDD z.1)) (sz := 2) (j := 0) (n := 2) (fun _ _ => rfl) hz (by decide)) ((elemN_at (pre := prez) (post := postz) (f := (fun z : DD × ByteArray × EL => cDD z.1)) (sz := 2) (j := 0) (n := 2) (fun _ _ => rfl) hz (by decide)).trans rfl) (Wt.none rfl) rfl ?_
              refine RunL.lit (vals := [_]) (vs := ([z] : ZV).flatMap (fun z : DD × ByteArray × EL => cDD z.1)) und63 sz76 zz76 rfl rfl rfl rfl rfl rfl (by simp [Value.cells, bv, cDD, cEdu, cEvn, cGG, cK, cM, cNde, cPP, cPos, cSS, cVV]) rfl (Wt.none rfl) rfl ?_; intro b63
              refine RunL.append (m := 1) (n' := (o ++ [z]).length) (cs' := (o ++ [z]).flatMap (fun z : DD × ByteArray × EL => cDD z.1)) rfl rfl (by first | ((repeat (first | (with_reducible exact F0 _) | apply F1)); done) | (repeat (first | exact F0 _ | apply F1))) rfl rfl und63 und63 rfl sz76 zz76 rfl by76 (by first | omega | (simp; omega)) (by first | omega | (simp; omega)) (fun w sw => sw.src) (isOne_flat (f := (fun z : DD × ByteArray × EL => cDD z.1)) (fun _ => rfl)) (by simp) (by simp only [List.flatMap_append]) (Wt.none rfl) rfl ?_; intro a5 c5
              refine as' rfl (nl' ?_)
              refine Run.backB backgp ?_
              refine ib' (rg' (mv' rfl ?_))
              first | refine RunL.pure (Pure.addI rfl rfl (by omega)) (Wt.none rfl) rfl rfl ?_ | refine RunL.pure (Pure.add rfl rfl) (Wt.none rfl) rfl rfl ?_
              refine as' rfl (nl' ?_)
              refine kp' [2, 3, 4, 6, 8, 9, 10] ?_
              exact ag' F ih (by exact ⟨i + 1, a5, c5, o ++ [z], false, by omega, by rw [insF_take hz, hq]; simp [insV, hle3, hne], rfl, rfl, rfl⟩)
            · try simp only [Z] at h4
              have hne : z.2.1 = e.room := hzr.symm.trans (bl_inj h4)
              try rw [hne] at hle3
              refine Run.backB backgp ?_
              refine sk' (ib' (rg' (mv' rfl ?_)))
              first | refine RunL.pure (Pure.addI rfl rfl (by omega)) (Wt.none rfl) rfl rfl ?_ | refine RunL.pure (Pure.add rfl rfl) (Wt.none rfl) rfl rfl ?_
              refine as' rfl (nl' ?_)
              refine kp' [2, 3, 4, 6, 8, 9, 10] ?_
              exact ag' F ih (by exact ⟨i + 1, a, c, o, false, by omega, by rw [insF_take hz, hq]; simp [insV, hle3, hne], rfl, rfl, rfl⟩)
        · skip
          refine sk' (sq' (bl' (sq' (sq' ?_))))
          refine Run.regionD' (by kernel_rfl) (by kernel_rfl) (fun hok215 => ?_)
          refine dp' 0 hok215 rfl (Pure.move rfl) (dp' 1 hok215 rfl (Pure.not rfl) (dp' 2 hok215 rfl (Pure.move rfl) ?_))
          refine RunD.split (d := 33) rfl (fun hg2 => ?_) (fun hg2 => ?_)
          · try simp only [Z] at hg2
            exfalso
            first | exact hg2 rfl | exact hg2 trivial | (simp at hg2; done)
          try simp only [Z] at hg2
          refine dn' 3 hok215 rfl (dn' 4 hok215 rfl (dn' 5 hok215 rfl (dn' 6 hok215 rfl (dn' 7 hok215 rfl (dn' 8 hok215 rfl (dn' 9 hok215 rfl (dn' 10 hok215 rfl (dn' 11 hok215 rfl (dp' 12 hok215 rfl (Pure.pickF rfl rfl) ?_)))))))))
          refine RunD.nilR (by kernel_rfl) ?_
          refine cF' (sk' (sq' ?_))
          refine Run.regionD' (by kernel_rfl) (by kernel_rfl) (fun hok238 => ?_)
          refine dp' 0 hok238 rfl (Pure.fieldAddr rfl fo65_0) (dl' 1 hok238 rfl rfl agg63 ?_)
          refine dp' 2 hok238 rfl (Pure.move rfl) ?_
          refine dp' 3 hok238 rfl (Pure.indexAddr (opvSl rfl hpz) rfl und63 sz76 (by omega) (by omega)) ?_
          refine dp' 4 hok238 rfl (Pure.fieldAddr rfl fo76_0) ?_
          refine RunD.load1R (i := 5) hok238 rfl (by kernel_rfl) rfl hroz ((elem_at (pre := prez) (post := postz) (f := (fun z : DD × ByteArray × EL => cDD z.1)) (sz := 2) (j := 0) (fun _ _ => rfl) hz (by decide)).trans rfl) agg9 (Wt.none rfl) rfl ?_
          refine dp' 6 hok238 rfl (Pure.fieldAddr rfl fo49_1) (dl' 7 hok238 rfl rfl agg9 ?_)
          refine dp' 8 hok238 rfl (Pure.sneq rfl rfl) ?_
          refine RunD.nilR (by kernel_rfl) ?_
          refine Run.cond rfl (fun h4 => ?_) (fun h4 => ?_)
          · try simp only [Z] at h4
            have hne : z.2.1 ≠ e.room := fun q => h4 (by rw [hzr, q])
            refine rg' (mv' rfl (pp' (Pure.fieldAddr rfl fo65_0) (l1' rfl agg63 ?_)))
            refine mv' rfl ?_
            refine pp' (Pure.indexAddr (opvSl rfl hpz) rfl und63 sz76 (by omega) (by omega)) ?_
            refine RunL.loadNR (vs := (cDD z.1)) rfl hroz agg76 sz76 (elemN_len (pre := prez) (post := postz) (f := (fun z : DD × ByteArray × EL => cDD z.1)) (sz := 2) (j := 0) (n := 2) (fun _ _ => rfl) hz (by decide)) ((elemN_at (pre := prez) (post := postz) (f := (fun z : DD × ByteArray × EL => cDD z.1)) (sz := 2) (j := 0) (n := 2) (fun _ _ => rfl) hz (by decide)).trans rfl) (Wt.none rfl) rfl ?_
            refine RunL.lit (vals := [_]) (vs := ([z] : ZV).flatMap (fun z : DD × ByteArray × EL => cDD z.1)) und63 sz76 zz76 rfl rfl rfl rfl rfl rfl (by simp [Value.cells, bv, cDD, cEdu, cEvn, cGG, cK, cM, cNde, cPP, cPos, cSS, cVV]) rfl (Wt.none rfl) rfl ?_; intro b63
            refine RunL.append (m := 1) (n' := (o ++ [z]).length) (cs' := (o ++ [z]).flatMap (fun z : DD × ByteArray × EL => cDD z.1)) rfl rfl (by first | ((repeat (first | (with_reducible exact F0 _) | apply F1)); done) | (repeat (first | exact F0 _ | apply F1))) rfl rfl und63 und63 rfl sz76 zz76 rfl by76 (by first | omega | (simp; omega)) (by first | omega | (simp; omega)) (fun w sw => sw.src) (isOne_flat (f := (fun z : DD × ByteArray × EL => cDD z.1)) (fun _ => rfl)) (by simp) (by simp only [List.flatMap_append]) (Wt.none rfl) rfl ?_; intro a5 c5
            refine as' rfl (nl' ?_)
            refine Run.backB backgp ?_
            refine ib' (rg' (mv' rfl ?_))
            first | refine RunL.pure (Pure.addI rfl rfl (by omega)) (Wt.none rfl) rfl rfl ?_ | refine RunL.pure (Pure.add rfl rfl) (Wt.none rfl) rfl rfl ?_
            refine as' rfl (nl' ?_)
            refine kp' [2, 3, 4, 6, 8, 9, 10] ?_
            exact ag' F ih (by exact ⟨i + 1, a5, c5, o ++ [z], true, by omega, by rw [insF_take hz, hq]; simp [insV, hq, hne], rfl, rfl, rfl⟩)
          · try simp only [Z] at h4
            have hne : z.2.1 = e.room := hzr.symm.trans (bl_inj h4)
            try rw [hne] at hle3
            refine Run.backB backgp ?_
            refine sk' (ib' (rg' (mv' rfl ?_)))
            first | refine RunL.pure (Pure.addI rfl rfl (by omega)) (Wt.none rfl) rfl rfl ?_ | refine RunL.pure (Pure.add rfl rfl) (Wt.none rfl) rfl rfl ?_
            refine as' rfl (nl' ?_)
            refine kp' [2, 3, 4, 6, 8, 9, 10] ?_
            exact ag' F ih (by exact ⟨i + 1, a, c, o, true, by omega, by rw [insF_take hz, hq]; simp [insV, hq, hne], rfl, rfl, rfl⟩)
      · try simp only [Z] at h1
        have hzn := hZ.1
        obtain rfl : i = zs.length := by omega
        rw [List.take_length] at hq
        have hin : insE nx (insF e.room nx zs) = insE nx (o, d) := by rw [hq]
        have hol : o.length ≤ zs.length + 1 := by have := insF_le (room := e.room) (nx := nx) (zs := zs) (Nat.le_refl _); rw [List.take_length, hq] at this; exact this
        cases d with
| false => ?_
| true => ?_
        · skip
          refine ex' rfl (sq' (sr' (mv' rfl (pp' (Pure.not rfl) (nl' ?_)))))
          refine Run.cond rfl (fun hc3 => ?_) (fun hc3 => ?_)
          rotate_left
          · try simp only [Z] at hc3
            exfalso
            first | exact hc3 rfl | exact hc3 trivial | (simp at hc3; done)
          try simp only [Z] at hc3
          refine rg' (mv' rfl (lA' (cDD nx.1) rfl agg76 sz76 ?_))
          refine RunL.lit (vals := [_]) (vs := ([nx] : ZV).flatMap (fun z : DD × ByteArray × EL => cDD z.1)) und63 sz76 zz76 rfl rfl rfl rfl rfl rfl (by simp [Value.cells, bv, cDD, cEdu, cEvn, cGG, cK, cM, cNde, cPP, cPos, cSS, cVV]) rfl (Wt.none rfl) rfl ?_; intro b69
          refine RunL.append (m := 1) (n' := (o ++ [nx]).length) (cs' := (o ++ [nx]).flatMap (fun z : DD × ByteArray × EL => cDD z.1)) rfl rfl (by first | ((repeat (first | (with_reducible exact F0 _) | apply F1)); done) | (repeat (first | exact F0 _ | apply F1))) rfl rfl und63 und63 rfl sz76 zz76 rfl by76 (by first | omega | (simp; omega)) (by first | omega | (simp; omega)) (fun w sw => sw.src) (isOne_flat (f := (fun z : DD × ByteArray × EL => cDD z.1)) (fun _ => rfl)) (by simp) (by simp only [List.flatMap_append]) (Wt.none rfl) rfl ?_; intro a4 c4
          refine as' rfl (nl' (sr' (mv' rfl (pp' (Pure.buildL (ps := [(0, _)]) (zs := [(.slice none 0 0)]) (xs := (cVV ((⟨⟨a4, (o ++ [nx]).length, c4⟩⟩ : VV)))) pl65 rfl rfl rfl rfl) (sW' (cVV ((⟨⟨a4, (o ++ [nx]).length, c4⟩⟩ : VV))) rfl rfl sz65 ?_)))))
          refine as' rfl (nl' ?_)
          refine Run.slLen2 (T := 76) (sz := 2) (a := a4) (n := (o ++ [nx]).length) (cap := c4) (cs := (o ++ [nx]).flatMap (fun z : DD × ByteArray × EL => cDD z.1)) (by first | ((repeat (first | (with_reducible exact F0 _) | apply F1)); done) | (repeat (first | exact F0 _ | apply F1))) ?_; intro hsl
          refine Run.poolSl (T := 76) (sz := 2) (a := a4) (n := (o ++ [nx]).length) (cap := c4) (cs := (o ++ [nx]).flatMap (fun z : DD × ByteArray × EL => cDD z.1)) (by repeat (first | (with_reducible exact Take.nil _) | (apply Take.cons (by first | ((repeat (first | (with_reducible exact F0 _) | apply F1)); done) | (repeat (first | exact F0 _ | apply F1)))))) ?_; intro K2 hle2 hsl2
          have hfin : HasZ (gk K2) (⟨⟨a4, (o ++ [nx]).length, c4⟩⟩ : VV) (insE nx (insF e.room nx zs)) := by
            rw [hin]
            refine ⟨rfl, hsl2, hsl.2, fun z hz => ?_⟩
            have := ins_mem (room := e.room) (nx := nx) (P := fun z => HasD (gk K') z.1 z.2.1 z.2.2 ∧ Csl.Good z.2.1 z.2.2) ⟨by rw [show nx.2.1 = e.room from congrArg (·.1) hnx]; exact hD', by rw [hnx]; exact (hZ.of e.room).2.add⟩ zs ([], false) (fun z hz => by cases hz) (fun z hz => ⟨(hZ.2.2.2 z hz).1.hp hle, (hZ.2.2.2 z hz).2⟩) z (by show z ∈ insE _ (insF _ _ _); rw [hin]; exact hz)
            exact ⟨this.1.hp hle2, this.2⟩
          exact rt' Tryz.func34 (resV2 rfl (Rv.cellN (us := (cVV ((⟨⟨a4, (o ++ [nx]).length, c4⟩⟩ : VV)))) rfl (by first | ((repeat (first | (with_reducible exact F0 _) | apply F1)); done) | (repeat (first | exact F0 _ | apply F1))) agg65 sz65 (by first | exact Nat.le_of_ble_eq_true rfl | (simp; done) | (simp; omega)) rfl) (Rv.tmp rfl)) (by exact ⟨K2, _, insE nx (insF e.room nx zs), hle.trans hle2, hfin, (fun r => by obtain ⟨D', q⟩ := nx; obtain rfl : q = _ := hnx; exact ins_vget2 h0 r), ins_len zs, by rw [h0], rfl⟩)
        · skip
          refine ex' rfl (sq' (sr' (mv' rfl (pp' (Pure.not rfl) (nl' ?_)))))
          refine Run.cond rfl (fun hc4 => ?_) (fun hc4 => ?_)
          · try simp only [Z] at hc4
            exfalso
            first | exact hc4 rfl | exact hc4 trivial | (simp at hc4; done)
          try simp only [Z] at hc4
          refine sk' (sr' (mv' rfl (pp' (Pure.buildL (ps := [(0, _)]) (zs := [(.slice none 0 0)]) (xs := (cVV ((⟨⟨a, (o).length, c⟩⟩ : VV)))) pl65 rfl rfl rfl rfl) (sW' (cVV ((⟨⟨a, (o).length, c⟩⟩ : VV))) rfl rfl sz65 ?_))))
          refine as' rfl (nl' ?_)
          refine Run.slLen2 (T := 76) (sz := 2) (a := a) (n := (o).length) (cap := c) (cs := (o).flatMap (fun z : DD × ByteArray × EL => cDD z.1)) (by first | ((repeat (first | (with_reducible exact F0 _) | apply F1)); done) | (repeat (first | exact F0 _ | apply F1))) ?_; intro hsl
          refine Run.poolSl (T := 76) (sz := 2) (a := a) (n := (o).length) (cap := c) (cs := (o).flatMap (fun z : DD × ByteArray × EL => cDD z.1)) (by repeat (first | (with_reducible exact Take.nil _) | (apply Take.cons (by first | ((repeat (first | (with_reducible exact F0 _) | apply F1)); done) | (repeat (first | exact F0 _ | apply F1)))))) ?_; intro K2 hle2 hsl2
          have hfin : HasZ (gk K2) (⟨⟨a, (o).length, c⟩⟩ : VV) (insE nx (insF e.room nx zs)) := by
            rw [hin]
            refine ⟨rfl, hsl2, hsl.2, fun z hz => ?_⟩
            have := ins_mem (room := e.room) (nx := nx) (P := fun z => HasD (gk K') z.1 z.2.1 z.2.2 ∧ Csl.Good z.2.1 z.2.2) ⟨by rw [show nx.2.1 = e.room from congrArg (·.1) hnx]; exact hD', by rw [hnx]; exact (hZ.of e.room).2.add⟩ zs ([], false) (fun z hz => by cases hz) (fun z hz => ⟨(hZ.2.2.2 z hz).1.hp hle, (hZ.2.2.2 z hz).2⟩) z (by show z ∈ insE _ (insF _ _ _); rw [hin]; exact hz)
            exact ⟨this.1.hp hle2, this.2⟩
          exact rt' Tryz.func34 (resV2 rfl (Rv.cellN (us := (cVV ((⟨⟨a, (o).length, c⟩⟩ : VV)))) rfl (by first | ((repeat (first | (with_reducible exact F0 _) | apply F1)); done) | (repeat (first | exact F0 _ | apply F1))) agg65 sz65 (by first | exact Nat.le_of_ble_eq_true rfl | (simp; done) | (simp; omega)) rfl) (Rv.tmp rfl)) (by exact ⟨K2, _, insE nx (insF e.room nx zs), hle.trans hle2, hfin, (fun r => by obtain ⟨D', q⟩ := nx; obtain rfl : q = _ := hnx; exact ins_vget2 h0 r), ins_len zs, by rw [h0], rfl⟩)
  · skip
    refine Run.regionD' (by kernel_rfl) (by kernel_rfl) (fun hok356 => ?_)
    refine RunD.loadNR (vs := (cVV V)) (i := 0) hok356 rfl (by kernel_rfl) rfl (by assumption) agg65 sz65 (by first | exact Nat.le_of_ble_eq_true rfl | (simp; done) | (simp; omega)) rfl (Wt.none rfl) rfl ?_
    refine dp' 1 hok356 rfl (Pure.fieldAddr rfl fo49_1) (dl' 2 hok356 rfl rfl agg9 ?_)
    refine RunD.loadNR (vs := (cEvn e)) (i := 4) hok356 rfl (by kernel_rfl) rfl (by assumption) agg49 sz49 (by first | exact Nat.le_of_ble_eq_true rfl | (simp; done) | (simp; omega)) rfl (Wt.none rfl) rfl ?_
    refine RunD.two (i := 3) (j := 9) (by kernel_rfl) rfl rfl ?_ ?_
    · skip
      refine ca' rfl rfl (s := rOfK_ctr (room := e.room) hZ hb) (q := ?_)
      rintro _ _ ⟨rfl, hA_⟩
      replace hA_ := hA_.symm; subst hA_
      refine RunL.nilD' ?_
      refine RunD.two (i := 5) (j := 9) (by kernel_rfl) rfl rfl ?_ ?_
      · skip
        refine ca' rfl rfl (s := rdAddK_ctr (hZ.of e.room).1 hb2 hp hw) (q := ?_)
        rintro _ _ ⟨K', D', hle, hD', rfl, hA_⟩
        replace hA_ := hA_.symm; subst hA_
        refine RunL.nilD' ?_
        refine dp' 6 hok356 rfl (Pure.move rfl) (dp' 7 hok356 rfl (Pure.extract rfl rfl) (dp' 8 hok356 rfl (Pure.extract rfl rfl) ?_))
        refine RunD.one (i := 9) (by kernel_rfl) rfl ?_
        · skip
          refine RunL.alloc zz76 (Wt.none rfl) rfl ?_; intro b6
          refine RunL.nilD' ?_
          refine RunD.one (i := 10) (by kernel_rfl) rfl ?_
          · skip
            refine sW' (cDD D') rfl rfl sz76 ?_
            refine RunL.nilD' ?_
            refine dp' 11 hok356 rfl (Pure.assign rfl) ?_
            refine RunD.nilR (by kernel_rfl) ?_
            refine kp' [2, 3, 4, 5, 6, 7] ?_
            exact me' F hk (by exact ⟨b6, K', (D', e.room, (addL e.room (vget (zs.map (·.2)) e.room) (e.ev ps))), hle, hD', rfl, rfl, rfl⟩)
      · skip
        refine RunL.alloc zz76 (Wt.none rfl) rfl ?_; intro b6
        refine RunL.nilD' ?_
        refine RunD.one (i := 5) (by kernel_rfl) rfl ?_
        · skip
          refine ca' rfl rfl (s := rdAddK_ctr (hZ.of e.room).1 hb2 hp hw) (q := ?_)
          rintro _ _ ⟨K', D', hle, hD', rfl, hA_⟩
          replace hA_ := hA_.symm; subst hA_
          refine RunL.nilD' ?_
          refine dp' 6 hok356 rfl (Pure.move rfl) (dp' 7 hok356 rfl (Pure.extract rfl rfl) (dp' 8 hok356 rfl (Pure.extract rfl rfl) ?_))
          refine RunD.one (i := 10) (by kernel_rfl) rfl ?_
          · skip
            refine sW' (cDD D') rfl rfl sz76 ?_
            refine RunL.nilD' ?_
            refine dp' 11 hok356 rfl (Pure.assign rfl) ?_
            refine RunD.nilR (by kernel_rfl) ?_
            refine kp' [2, 3, 4, 5, 6, 7] ?_
            exact me' F hk (by exact ⟨b6, K', (D', e.room, (addL e.room (vget (zs.map (·.2)) e.room) (e.ev ps))), hle, hD', rfl, rfl, rfl⟩)
    · skip
      refine RunL.alloc zz76 (Wt.none rfl) rfl ?_; intro b6
      refine RunL.nilD' ?_
      refine RunD.one (i := 3) (by kernel_rfl) rfl ?_
      · skip
        refine ca' rfl rfl (s := rOfK_ctr (room := e.room) hZ hb) (q := ?_)
        rintro _ _ ⟨rfl, hA_⟩
        replace hA_ := hA_.symm; subst hA_
        refine RunL.nilD' ?_
        refine RunD.one (i := 5) (by kernel_rfl) rfl ?_
        · skip
          refine ca' rfl rfl (s := rdAddK_ctr (hZ.of e.room).1 hb2 hp hw) (q := ?_)
          rintro _ _ ⟨K', D', hle, hD', rfl, hA_⟩
          replace hA_ := hA_.symm; subst hA_
          refine RunL.nilD' ?_
          refine dp' 6 hok356 rfl (Pure.move rfl) (dp' 7 hok356 rfl (Pure.extract rfl rfl) (dp' 8 hok356 rfl (Pure.extract rfl rfl) ?_))
          refine RunD.one (i := 10) (by kernel_rfl) rfl ?_
          · skip
            refine sW' (cDD D') rfl rfl sz76 ?_
            refine RunL.nilD' ?_
            refine dp' 11 hok356 rfl (Pure.assign rfl) ?_
            refine RunD.nilR (by kernel_rfl) ?_
            refine kp' [2, 3, 4, 5, 6, 7] ?_
            exact me' F hk (by exact ⟨b6, K', (D', e.room, (addL e.room (vget (zs.map (·.2)) e.room) (e.ev ps))), hle, hD', rfl, rfl, rfl⟩)

end Go.Proofs.YtaaondbmkibkkaaGreat
