/- The reference: what is added. -/
import Derived.Test.YtaaondbmkibkkaaGreatH1
set_option linter.unusedVariables false
set_option linter.unusedSimpArgs false
set_option linter.unusedSectionVars false
namespace Go.Proofs.YtaaondbmkibkkaaGreat
open Go Csl


set_option maxHeartbeats 4000000 in
set_option maxRecDepth 100000 in
theorem rdPosition_ctr {G : Gp} {D : DD} {room : ByteArray} {l : EL} (hd : HasD G D room l) (hb : l.length ≤ 1000) (hg : Csl.Good room l) {x : ByteArray} :
    Ctr Tryz.prog G 103 [.agg (cDD D).toArray, .string x] [] (fun F v A => v = .agg (cPos ⟨depthOf l x, x⟩).toArray ∧ A = F) := by
  refine Ctr.intro Tryz.func103 rfl (by kernel_rfl) rfl (fun F => ?_)
  simp only [List.nil_append]
  refine sr' ?_
  refine RunL.boxA (xs := (cDD D)) rfl (Wt.none rfl) rfl ?_; intro b2
  refine RunL.alloc zz69 (Wt.none rfl) rfl ?_; intro b4
  refine nl' ?_
  refine la' (row b2 76 _) Lends.row fun G2 hleG2 hrb2 => ?_
  replace hd := hd.mono hleG2
  refine sr' (lA' (cDD D) rfl agg76 sz76 ?_)
  refine mv' rfl ?_
  refine ca' rfl rfl (s := rdDepth_ctr hd hb hg) (q := ?_)
  rintro _ _ ⟨rfl, hA_⟩
  replace hA_ := hA_.symm; subst hA_
  refine mv' rfl (pp' (Pure.buildL (ps := [(0, _), (1, _)]) (zs := [(.int .i64 0), (.string .empty)]) (xs := (cPos ((⟨depthOf l x, x⟩ : Pos)))) pl69 rfl rfl rfl rfl) (sW' (cPos ((⟨depthOf l x, x⟩ : Pos))) rfl rfl sz69 ?_))
  refine nl' ?_
  exact rt' Tryz.func103 (resV1 rfl (Rv.cellN (us := (cPos ((⟨depthOf l x, x⟩ : Pos)))) rfl (by first | ((repeat (first | (with_reducible exact F0 _) | apply F1)); done) | (repeat (first | exact F0 _ | apply F1))) agg69 sz69 (by first | exact Nat.le_of_ble_eq_true rfl | (simp; done) | (simp; omega)) rfl)) (by exact ⟨rfl, rfl⟩)

set_option maxHeartbeats 4000000 in
set_option maxRecDepth 100000 in
theorem rdAdd_ctr {G : Gp} {D : DD} {room : ByteArray} {l : EL} {ys : ES} (hroom : D.room = room) (hyl : ys.map (·.1) = l) (hes : HasES G D.l ys) (hb : l.length ≤ 1000) {e : Evn} {ps : List ByteArray} (hp : HasPs G e ps) (hw : evWf (e.ev ps)) :
    Ctr Tryz.prog G 66 [.agg (cDD D).toArray, .agg (cEvn e).toArray] [] (fun F v A => (addRc room l (e.ev ps) ≠ 0 ∧ v = .tuple #[.agg (cDD D).toArray, .int .i64 (addRc room l (e.ev ps))] ∧ A = F) ∨ (addRc room l (e.ev ps) = 0 ∧ ∃ a c, v = .tuple #[.agg (cDD ⟨room, ⟨a, (ys ++ [(((e.ev ps), e.par) : Evt × Sli)]).length, c⟩⟩).toArray, .int .i64 0] ∧ A = Sl 49 6 a ((ys ++ [(((e.ev ps), e.par) : Evt × Sli)])).length c (((ys ++ [(((e.ev ps), e.par) : Evt × Sli)])).flatMap cES) :: F)) := by
  refine Ctr.intro Tryz.func66 rfl (by kernel_rfl) rfl (fun F => ?_)
  simp only [List.nil_append]
  have hd : HasD G D room l := ⟨hroom, ys, hyl, hes⟩
  obtain ⟨hdn, hds, hdc, hdk⟩ := id hes
  have hyn := ES_len hyl
  have hpl : ps.length ≤ 1000 := hw.2.2
  have hn : e.par.n = ps.length := hp.1
  refine sr' ?_
  refine RunL.boxA (xs := (cDD D)) rfl (Wt.none rfl) rfl ?_; intro b2
  refine RunL.boxA (xs := (cEvn e)) rfl (Wt.none rfl) rfl ?_; intro b3
  refine RunL.alloc zz76 (Wt.none rfl) rfl ?_; intro b4
  refine as' rfl (nl' ?_)
  refine la' (row b2 76 _) Lends.row fun G2 hleG2 hrb2 => ?_
  replace hd := hd.mono hleG2
  replace hds := hds.mono hleG2
  replace hdk := hdk.mono hleG2
  replace hp := hp.mono hleG2
  replace hes := hes.mono hleG2
  refine la' (row b3 49 _) Lends.row fun G3 hleG3 hrb3 => ?_
  replace hd := hd.mono hleG3
  replace hds := hds.mono hleG3
  replace hdk := hdk.mono hleG3
  replace hp := hp.mono hleG3
  replace hes := hes.mono hleG3
  replace hrb2 := hrb2.mono hleG3
  refine sr' (lA' (cEvn e) rfl agg49 sz49 ?_)
  refine ca' rfl rfl (s := rdMay_ctr hp (by omega) hw.1 hw.2.1) (q := ?_)
  rintro _ _ ⟨rfl, hA_⟩
  replace hA_ := hA_.symm; subst hA_
  refine as' rfl (nl' (sq' (sr' (mv' rfl (pp' (Pure.not rfl) (mv' rfl ?_))))))
  refine RunL.split (d := 14) rfl (fun c0 => ?_) (fun c0 => ?_)
  · try simp only [Z] at c0
    refine no' (no' (no' (no' (no' (pp' (Pure.pickT rfl rfl) (nl' (cT' (sr' (lA' (cDD D) rfl agg76 sz76 ?_)))))))))
    refine sW' (cDD D) rfl rfl sz76 ?_
    refine as' rfl (nl' ?_)
    have hrc : addRc room l (e.ev ps) = 1 := addRc_1 (.inl c0)
    exact rt' Tryz.func66 (resV2 rfl (Rv.cellN (us := (cDD D)) rfl (by first | ((repeat (first | (with_reducible exact F0 _) | apply F1)); done) | (repeat (first | exact F0 _ | apply F1))) agg76 sz76 (by first | exact Nat.le_of_ble_eq_true rfl | (simp; done) | (simp; omega)) rfl) (Rv.tmp rfl)) (by exact (.inl ⟨by rw [hrc]; decide, by rw [hrc], rfl⟩))
  · try simp only [Z] at c0
    refine py' (Pure.fieldAddr rfl fo49_1) (l1' rfl agg9 ?_)
    refine py' (Pure.fieldAddr rfl fo76_0) (l1' rfl agg9 ?_)
    refine py' (Pure.sneq rfl rfl) (pp' (Pure.pickF rfl rfl) (nl' ?_))
    refine Run.cond rfl (fun c1 => ?_) (fun c1 => ?_)
    · try simp only [Z] at c1
      refine sr' (lA' (cDD D) rfl agg76 sz76 ?_)
      refine sW' (cDD D) rfl rfl sz76 ?_
      refine as' rfl (nl' ?_)
      have hrc : addRc room l (e.ev ps) = 1 := addRc_1 (.inr fun q => c1 (by rw [show e.room = room from q, hroom]))
      exact rt' Tryz.func66 (resV2 rfl (Rv.cellN (us := (cDD D)) rfl (by first | ((repeat (first | (with_reducible exact F0 _) | apply F1)); done) | (repeat (first | exact F0 _ | apply F1))) agg76 sz76 (by first | exact Nat.le_of_ble_eq_true rfl | (simp; done) | (simp; omega)) rfl) (Rv.tmp rfl)) (by exact (.inl ⟨by rw [hrc]; decide, by rw [hrc], rfl⟩))
    · try simp only [Z] at c1
      have hok : evOk (e.ev ps) = true := c0
      have hrm : (e.ev ps).room = room := (bl_inj c1).trans hroom
      refine sk' (sq' (sr' (lA' (cDD D) rfl agg76 sz76 ?_)))
      refine pp' (Pure.fieldAddr rfl fo49_0) (l1' rfl agg9 ?_)
      refine ca' rfl rfl (s := rdAt_ctr hd hb) (q := ?_)
      rintro _ _ ⟨rfl, hA_⟩
      replace hA_ := hA_.symm; subst hA_
      refine pp' (Pure.geq rfl rfl) (nl' ?_)
      refine Run.cond rfl (fun c2 => ?_) (fun c2 => ?_)
      · try simp only [Z] at c2
        refine sr' (lA' (cDD D) rfl agg76 sz76 ?_)
        refine sW' (cDD D) rfl rfl sz76 ?_
        refine as' rfl (nl' ?_)
        have hrc : addRc room l (e.ev ps) = 9 := addRc_9 hok hrm (at_pos.1 c2)
        exact rt' Tryz.func66 (resV2 rfl (Rv.cellN (us := (cDD D)) rfl (by first | ((repeat (first | (with_reducible exact F0 _) | apply F1)); done) | (repeat (first | exact F0 _ | apply F1))) agg76 sz76 (by first | exact Nat.le_of_ble_eq_true rfl | (simp; done) | (simp; omega)) rfl) (Rv.tmp rfl)) (by exact (.inl ⟨by rw [hrc]; decide, by rw [hrc], rfl⟩))
      · try simp only [Z] at c2
        have hhas : EL.has l (e.ev ps).id = false := at_neg.1 c2
        refine sk' (sq' (sr' (as' rfl (nl' (bl' ?_)))))
        refine kp' [2, 3, 4, 5, 7] ?_
        refine lp' F (fun n e_ A => ∃ (i : Nat), i ≤ ps.length ∧ (∀ j p, j < i → ps[j]? = some p → l.has p = true) ∧ n = ps.length - i ∧ e_ = [(2, .pointer (some ⟨b2, 0, none⟩)), (3, .pointer (some ⟨b3, 0, none⟩)), (4, .pointer (some ⟨b4, 0, none⟩)), (5, .int .i64 0), (7, .int .i64 (i : Nat))] ∧ A = row b4 76 [.string .empty, .slice none 0 0] :: F) (ps.length) (by exact ⟨0, by omega, fun j p hj => absurd hj (Nat.not_lt_zero _), rfl, rfl, rfl⟩) ?_
        rintro n _ _ ⟨i, hi, hall, rfl, rfl, hA_⟩ ih
        replace hA_ := hA_.symm; subst hA_
        refine sq' (sr' (mv' rfl (pp' (Pure.fieldAddr rfl fo49_2) (l1' rfl agg47 ?_))))
        refine pp' (Pure.lenSl rfl rfl und47) (pp' (Pure.lss rfl rfl) (nl' ?_))
        refine Run.cond rfl (fun l1 => ?_) (fun l1 => ?_)
        · try simp only [Z] at l1
          obtain ⟨q, hx⟩ := get_some (xs := ps) (i := i) (by omega)
          obtain ⟨bb, Tb, preb, postb, hpa, hro⟩ := hp.2.open1 (show 0 < ps.length by omega)
          refine sk' (sq' (bl' (sq' ?_)))
          refine Run.regionD' (by kernel_rfl) (by kernel_rfl) (fun hok116 => ?_)
          refine RunD.loadNR (vs := (cDD D)) (i := 0) hok116 rfl (by kernel_rfl) rfl (by assumption) agg76 sz76 (by first | exact Nat.le_of_ble_eq_true rfl | (simp; done) | (simp; omega)) rfl (Wt.none rfl) rfl ?_
          refine dp' 1 hok116 rfl (Pure.fieldAddr rfl fo49_2) (dl' 2 hok116 rfl rfl agg47 ?_)
          refine dp' 3 hok116 rfl (Pure.move rfl) ?_
          refine dp' 4 hok116 rfl (Pure.indexAddr (opvSl rfl hpa) rfl und47 sz9 (by omega) (by omega)) ?_
          refine RunD.load1R (i := 5) hok116 rfl (by kernel_rfl) rfl hro (elem1_at hx) agg9 (Wt.none rfl) rfl ?_
          refine RunD.one (i := 6) (by kernel_rfl) rfl ?_
          refine ca' rfl rfl (s := rdAt_ctr hd hb) (q := ?_)
          rintro _ _ ⟨rfl, hA_⟩
          replace hA_ := hA_.symm; subst hA_
          refine RunL.nilD' ?_
          refine dp' 7 hok116 rfl (Pure.lss rfl rfl) ?_
          refine RunD.nilR (by kernel_rfl) ?_
          refine Run.cond rfl (fun c3 => ?_) (fun c3 => ?_)
          · try simp only [Z] at c3
            refine sr' (lA' (cDD D) rfl agg76 sz76 ?_)
            refine sW' (cDD D) rfl rfl sz76 ?_
            refine as' rfl (nl' ?_)
            have hrc : addRc room l (e.ev ps) = 4 := addRc_4 hok hrm hhas (List.any_eq_true.2 ⟨q, List.mem_of_getElem? hx, by rw [at_neg.1 c3]; rfl⟩)
            exact rt' Tryz.func66 (resV2 rfl (Rv.cellN (us := (cDD D)) rfl (by first | ((repeat (first | (with_reducible exact F0 _) | apply F1)); done) | (repeat (first | exact F0 _ | apply F1))) agg76 sz76 (by first | exact Nat.le_of_ble_eq_true rfl | (simp; done) | (simp; omega)) rfl) (Rv.tmp rfl)) (by exact (.inl ⟨by rw [hrc]; decide, by rw [hrc], rfl⟩))
          · try simp only [Z] at c3
            refine sk' (ib' (rg' (mv' rfl ?_)))
            first | refine RunL.pure (Pure.addI rfl rfl (by omega)) (Wt.none rfl) rfl rfl ?_ | refine RunL.pure (Pure.add rfl rfl) (Wt.none rfl) rfl rfl ?_
            refine as' rfl (nl' ?_)
            refine kp' [2, 3, 4, 5, 7] ?_
            exact ag' F ih (by exact ⟨i + 1, by omega, lt_succ_of2 hall hx (at_pos.1 c3), rfl, rfl, rfl⟩)
        · try simp only [Z] at l1
          have hpar : (e.ev ps).ps.any (fun p => !EL.has l p) = false := List.any_eq_false.2 fun p hp' => by rw [all_of_lt hall (by omega) p hp']; simp
          refine ex' rfl (sq' (sr' (pp' (Pure.fieldAddr rfl fo49_3) (l1' rfl agg9 ?_))))
          refine pp' (Pure.sneq rfl rfl) (nl' ?_)
          refine Run.cut (fun e_ A => thrRc l (e.ev ps) = 0 ∧ e_ = [(2, .pointer (some ⟨b2, 0, none⟩)), (3, .pointer (some ⟨b3, 0, none⟩)), (4, .pointer (some ⟨b4, 0, none⟩)), (5, .int .i64 0)] ∧ A = row b4 76 [.string .empty, .slice none 0 0] :: F) (fun e A hM => ?_) (fun hk => ?_)
          · obtain ⟨hthr, rfl, hA_⟩ := hM
            replace hA_ := hA_.symm; subst hA_
            have hrc : addRc room l (e.ev ps) = 0 := (addRc_thr hok hrm hhas hpar).trans  hthr
            skip
            refine sr' (as' rfl (nl' (sr' (mv' rfl (pp' (Pure.fieldAddr rfl fo76_1) (l1' rfl agg44 ?_))))))
            refine RunL.append0 (m := ys.length) rfl rfl rfl rfl und44 und44 rfl sz49 zz49 rfl by49 (by omega) (by omega) (fun w sw => (by rw [hdn]; exact hds.src sw)) (Wt.none rfl) rfl ?_; intro a1 c1
            refine as' rfl (nl' (sq' ?_))
            refine Run.regionD' (by kernel_rfl) (by kernel_rfl) (fun hok175 => ?_)
            refine dp' 0 hok175 rfl (Pure.fieldAddr rfl fo76_0) (dl' 1 hok175 rfl rfl agg9 ?_)
            refine dp' 2 hok175 rfl (Pure.move rfl) ?_
            refine RunD.loadNR (vs := (cEvn e)) (i := 3) hok175 rfl (by kernel_rfl) rfl (by assumption) agg49 sz49 (by first | exact Nat.le_of_ble_eq_true rfl | (simp; done) | (simp; omega)) rfl (Wt.none rfl) rfl ?_
            refine RunD.one (i := 4) (by kernel_rfl) rfl ?_
            · skip
              refine RunL.lit (vals := [_]) (vs := ([((e.ev ps), e.par)] : ES).flatMap cES) und44 sz49 zz49 rfl rfl rfl rfl rfl rfl (by simp [Value.cells, bv, cDD, cEdu, cEvn, cGG, cK, cM, cNde, cPP, cPos, cSS, cVV]) rfl (Wt.none rfl) rfl ?_; intro b79
              refine RunL.nilD' ?_
              refine RunD.one (i := 5) (by kernel_rfl) rfl ?_
              · skip
                refine RunL.append (m := 1) (n' := (ys ++ [(((e.ev ps), e.par) : Evt × Sli)]).length) (cs' := (ys ++ [(((e.ev ps), e.par) : Evt × Sli)]).flatMap cES) rfl rfl (by first | ((repeat (first | (with_reducible exact F0 _) | apply F1)); done) | (repeat (first | exact F0 _ | apply F1))) rfl rfl und44 und44 rfl sz49 zz49 rfl by49 (by omega) (by omega) (fun w sw => sw.src) (isOne_flat (f := cES) (fun _ => rfl)) (by simp) (by rw [List.flatMap_append]) (Wt.none rfl) rfl ?_; intro a2 c2
                refine RunL.nilD' ?_
                refine dp' 6 hok175 rfl (Pure.buildL (ps := [(0, _), (1, _)]) (zs := [(.string .empty), (.slice none 0 0)]) (xs := [_, _]) pl76 rfl rfl rfl rfl) ?_
                refine RunD.one (i := 7) (by kernel_rfl) rfl ?_
                · skip
                  refine sW' (cDD ((⟨D.room, ⟨a2, (ys ++ [(((e.ev ps), e.par) : Evt × Sli)]).length, c2⟩⟩ : DD))) rfl rfl sz76 ?_
                  refine RunL.nilD' ?_
                  refine dp' 8 hok175 rfl (Pure.assign rfl) ?_
                  refine RunD.nilR (by kernel_rfl) ?_
                  exact rt' Tryz.func66 (resV2 rfl (Rv.cellN (us := (cDD ((⟨D.room, ⟨a2, (ys ++ [(((e.ev ps), e.par) : Evt × Sli)]).length, c2⟩⟩ : DD)))) rfl (by first | ((repeat (first | (with_reducible exact F0 _) | apply F1)); done) | (repeat (first | exact F0 _ | apply F1))) agg76 sz76 (by first | exact Nat.le_of_ble_eq_true rfl | (simp; done) | (simp; omega)) rfl) (Rv.tmp rfl)) (by exact (.inr ⟨hrc, a2, c2, by rw [hroom], rfl⟩))
          · skip
            refine Run.cond rfl (fun c4 => ?_) (fun c4 => ?_)
            · try simp only [Z] at c4
              have ht' : (e.ev ps).thread ≠ .empty := fun q => c4 (by rw [show e.thread = .empty from q]; rfl)
              refine sr' (lA' (cDD D) rfl agg76 sz76 ?_)
              refine pp' (Pure.fieldAddr rfl fo49_3) (l1' rfl agg9 ?_)
              refine ca' rfl rfl (s := rdAt_ctr hd hb) (q := ?_)
              rintro _ _ ⟨rfl, hA_⟩
              replace hA_ := hA_.symm; subst hA_
              rcases at_cases l e.thread with ⟨h0, he⟩ | ⟨k, r, hk0, hkx, he, hget, _⟩
              · skip
                rw [he]
                refine as' rfl (nl' (sq' (sr' (mv' rfl (pp' (Pure.lss rfl rfl) (nl' ?_))))))
                refine Run.cond rfl (fun hc1 => ?_) (fun hc1 => ?_)
                rotate_left
                · try simp only [Z] at hc1
                  exfalso
                  first | exact hc1 (by decide) | omega
                try simp only [Z] at hc1
                refine sr' (lA' (cDD D) rfl agg76 sz76 ?_)
                refine sW' (cDD D) rfl rfl sz76 ?_
                refine as' rfl (nl' ?_)
                have hrc : addRc room l (e.ev ps) = 4 := (addRc_thr hok hrm hhas hpar).trans (thr_none ht' (get_nil.2 h0))
                exact rt' Tryz.func66 (resV2 rfl (Rv.cellN (us := (cDD D)) rfl (by first | ((repeat (first | (with_reducible exact F0 _) | apply F1)); done) | (repeat (first | exact F0 _ | apply F1))) agg76 sz76 (by first | exact Nat.le_of_ble_eq_true rfl | (simp; done) | (simp; omega)) rfl) (Rv.tmp rfl)) (by exact (.inl ⟨by rw [hrc]; decide, by rw [hrc], rfl⟩))
              · skip
                rw [he]
                obtain ⟨s, hy⟩ := ES_get hyl hk0
                have hkl := (List.getElem?_eq_some_iff.1 hk0).1
                obtain ⟨be, Te, pree, poste, hpe, hroe⟩ := hds.open1 (show 0 < ys.length by omega)
                refine as' rfl (nl' (sq' (sr' (mv' rfl (pp' (Pure.lss rfl rfl) (nl' ?_))))))
                refine Run.cond rfl (fun hc2 => ?_) (fun hc2 => ?_)
                · try simp only [Z] at hc2
                  exfalso
                  omega
                try simp only [Z] at hc2
                refine sk' (sr' (pp' (Pure.fieldAddr rfl fo76_1) (l1' rfl agg44 ?_)))
                refine mv' rfl ?_
                refine pp' (Pure.indexAddr (opvSl rfl hpe) rfl und44 sz49 (by omega) (by omega)) ?_
                refine pp' (Pure.fieldAddr rfl fo49_3) ?_
                refine RunL.load1R rfl hroe ((elem_at (pre := pree) (post := poste) (f := cES) (sz := 6) (j := 3) (fun _ _ => rfl) hy (by decide)).trans rfl) agg9 (Wt.none rfl) rfl ?_
                refine pp' (Pure.sneq rfl rfl) (mv' rfl ?_)
                refine RunL.split (d := 61) rfl (fun c5 => ?_) (fun c5 => ?_)
                · try simp only [Z] at c5
                  refine no' (no' (no' (no' (no' (no' (no' (pp' (Pure.pickT rfl rfl) (nl' (cT' (sr' (lA' (cDD D) rfl agg76 sz76 ?_)))))))))))
                  refine sW' (cDD D) rfl rfl sz76 ?_
                  refine as' rfl (nl' ?_)
                  have hrc : addRc room l (e.ev ps) = 7 := (addRc_thr hok hrm hhas hpar).trans (thr_bad ht' hget (Or.inl fun q => c5 (by rw [show (r.evn s).thread = .empty from q]; rfl)))
                  exact rt' Tryz.func66 (resV2 rfl (Rv.cellN (us := (cDD D)) rfl (by first | ((repeat (first | (with_reducible exact F0 _) | apply F1)); done) | (repeat (first | exact F0 _ | apply F1))) agg76 sz76 (by first | exact Nat.le_of_ble_eq_true rfl | (simp; done) | (simp; omega)) rfl) (Rv.tmp rfl)) (by exact (.inl ⟨by rw [hrc]; decide, by rw [hrc], rfl⟩))
                · try simp only [Z] at c5
                  refine py' (Pure.fieldAddr rfl fo76_1) (l1' rfl agg44 ?_)
                  refine py' (Pure.move rfl) ?_
                  refine py' (Pure.indexAddr (opvSl rfl hpe) rfl und44 sz49 (by omega) (by omega)) ?_
                  refine py' (Pure.fieldAddr rfl fo49_5) ?_
                  refine RunL.load1R rfl hroe ((elem_at (pre := pree) (post := poste) (f := cES) (sz := 6) (j := 5) (fun _ _ => rfl) hy (by decide)).trans rfl) agg3 (Wt.yes rfl rfl rfl) rfl ?_
                  refine py' (Pure.neq rfl rfl) (pp' (Pure.pickF rfl rfl) (nl' ?_))
                  refine Run.cond rfl (fun c6 => ?_) (fun c6 => ?_)
                  · try simp only [Z] at c6
                    refine sr' (lA' (cDD D) rfl agg76 sz76 ?_)
                    refine sW' (cDD D) rfl rfl sz76 ?_
                    refine as' rfl (nl' ?_)
                    have hrc : addRc room l (e.ev ps) = 7 := (addRc_thr hok hrm hhas hpar).trans (thr_bad ht' hget (Or.inr c6))
                    exact rt' Tryz.func66 (resV2 rfl (Rv.cellN (us := (cDD D)) rfl (by first | ((repeat (first | (with_reducible exact F0 _) | apply F1)); done) | (repeat (first | exact F0 _ | apply F1))) agg76 sz76 (by first | exact Nat.le_of_ble_eq_true rfl | (simp; done) | (simp; omega)) rfl) (Rv.tmp rfl)) (by exact (.inl ⟨by rw [hrc]; decide, by rw [hrc], rfl⟩))
                  · try simp only [Z] at c6
                    refine sk' ?_
                    refine kp' [2, 3, 4, 5] ?_
                    exact me' F hk (by exact ⟨thrRc_zero.2 (Or.inr ⟨r, hget, bl_inj c5, c6⟩), rfl, rfl⟩)
            · try simp only [Z] at c4
              refine sk' ?_
              refine kp' [2, 3, 4, 5] ?_
              exact me' F hk (by exact ⟨thrRc_zero.2 (Or.inl (bl_inj c4)), rfl, rfl⟩)

end Go.Proofs.YtaaondbmkibkkaaGreat
