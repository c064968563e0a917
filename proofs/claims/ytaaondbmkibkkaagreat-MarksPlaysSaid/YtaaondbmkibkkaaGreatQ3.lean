/- Marks: the reference. -/
import Derived.Test.YtaaondbmkibkkaaGreatQ2
set_option linter.unusedVariables false
set_option linter.unusedSimpArgs false
set_option linter.unusedSectionVars false
namespace Go.Proofs.YtaaondbmkibkkaaGreat
open Go Csl
theorem zz84 : zeroIs Tryz.prog 84 = some (.agg #[(.slice none 0 0), (.int .i64 0), (.slice none 0 0), (.int .i64 0)]) := by kernel_rfl
theorem agg84 : isAggOf Tryz.prog 84 = some true := by kernel_rfl
theorem sz84 : sizeIs Tryz.prog 84 = some 4 := by kernel_rfl
theorem fo84_1 : fieldOff Tryz.prog 84 1 = some 1 := by kernel_rfl
theorem fo84_0 : fieldOff Tryz.prog 84 0 = some 0 := by kernel_rfl
theorem agg61 : isAggOf Tryz.prog 61 = some false := by kernel_rfl
theorem pl84 : placesOf Tryz.prog 84 = some ([(0, 1), (1, 3)], (.agg #[(.slice none 0 0), (.int .i64 0), (.slice none 0 0), (.int .i64 0)])) := by kernel_rfl

set_option maxHeartbeats 1000000 in
set_option maxRecDepth 100000 in
theorem rPutM_ctr {G : Gp} {V : VV} {zs : ZV} {la pa : Option Addr} {lc pc : Nat} {most : Int} {s : MS} (hZ : HasZ G V zs) (hzb : zs.length ≤ 1000) (hb2 : ∀ r, ((vget (zs.map (fun z : DD × ByteArray × EL => z.2))) r).length ≤ 1000) {e : Edu} (hs : eduSmall e) (hkn : KN s.tl) (htl : s.tl.length ≤ 1000) (hb : s.es.length ≤ 100000) (hl : -1000000 ≤ s.lost ∧ s.lost ≤ 1000000) :
    Ctr Tryz.prog G 33 [.agg (cSS (sS la lc pa pc most s)).toArray, .agg (cVV V).toArray, .agg (cEdu e).toArray] [Sl 117 6 la (ML (s.tl)).length lc ((ML (s.tl)).flatMap cM), Sl 23 11 pa (s.es).length pc ((s.es).flatMap cEdu)] (fun F v A => ∃ la lc pa pc, v = .tuple #[.agg (cSS (sS la lc pa pc most (mPut most (vget (zs.map (fun z : DD × ByteArray × EL => z.2))) s e).1)).toArray, .bool (mPut most (vget (zs.map (fun z : DD × ByteArray × EL => z.2))) s e).2.1, .int .i64 (mPut most (vget (zs.map (fun z : DD × ByteArray × EL => z.2))) s e).2.2] ∧ A = Sl 117 6 la (ML ((mPut most (vget (zs.map (fun z : DD × ByteArray × EL => z.2))) s e).1.tl)).length lc ((ML ((mPut most (vget (zs.map (fun z : DD × ByteArray × EL => z.2))) s e).1.tl)).flatMap cM) :: Sl 23 11 pa ((mPut most (vget (zs.map (fun z : DD × ByteArray × EL => z.2))) s e).1.es).length pc (((mPut most (vget (zs.map (fun z : DD × ByteArray × EL => z.2))) s e).1.es).flatMap cEdu) :: F) := by
  refine Ctr.intro Tryz.func33 rfl (by kernel_rfl) rfl (fun F => ?_)
  simp only [List.cons_append, List.nil_append]
  refine sr' ?_
  refine RunL.boxA (xs := (cSS ((sS la lc pa pc most s)))) rfl (Wt.none rfl) rfl ?_; intro b3
  refine RunL.boxA (xs := (cVV V)) rfl (Wt.none rfl) rfl ?_; intro b4
  refine RunL.boxA (xs := (cEdu e)) rfl (Wt.none rfl) rfl ?_; intro b5
  refine RunL.alloc zz84 (Wt.none rfl) rfl ?_; intro b6
  refine as' rfl (as' rfl (nl' ?_))
  refine la' (row b3 84 _) Lends.row fun G3 hleG3 hrb3 => ?_
  replace hZ := hZ.mono hleG3
  refine la' (row b4 65 _) Lends.row fun G4 hleG4 hrb4 => ?_
  replace hZ := hZ.mono hleG4
  replace hrb3 := hrb3.mono hleG4
  refine la' (row b5 23 _) Lends.row fun G5 hleG5 hrb5 => ?_
  replace hZ := hZ.mono hleG5
  replace hrb3 := hrb3.mono hleG5
  replace hrb4 := hrb4.mono hleG5
  refine sr' (lA' (cEdu e) rfl agg23 sz23 ?_)
  refine ca' rfl rfl (s := rLocal3_ctr (e := e) hs) (q := ?_)
  rintro _ _ ⟨rfl, hA_⟩
  replace hA_ := hA_.symm; subst hA_
  refine as' rfl (nl' (sq' (sr' (pp' (Pure.fieldAddr rfl fo23_0) (l1' rfl agg3 ?_)))))
  refine pp' (Pure.neq rfl rfl) (mv' rfl ?_)
  refine RunL.split (d := 23) rfl (fun h1 => ?_) (fun h1 => ?_)
  · try simp only [Z] at h1
    refine no' (no' (pp' (Pure.pickT rfl rfl) (nl' (cT' (sr' (lA' (cSS ((sS la lc pa pc most s))) rfl agg84 sz84 ?_))))))
    refine sW' (cSS ((sS la lc pa pc most s))) rfl rfl sz84 ?_
    refine as' rfl (as' rfl (nl' ?_))
    exact rt' Tryz.func33 (resV3 rfl (Rv.cellN (us := (cSS ((sS la lc pa pc most s)))) rfl (by first | ((repeat (first | (with_reducible exact F0 _) | apply F1)); done) | (repeat (first | exact F0 _ | apply F1))) agg84 sz84 (by first | exact Nat.le_of_ble_eq_true rfl | (simp; done) | (simp; omega)) rfl) (Rv.tmp rfl) (Rv.tmp rfl)) (by exact ⟨la, lc, pa, pc, by rw [mPut_arg (fun q => h1 q.1)], by rw [mPut_arg (fun q => h1 q.1)]⟩)
  · try simp only [Z] at h1
    refine py' (Pure.move rfl) (py' (Pure.not rfl) (pp' (Pure.pickF rfl rfl) (nl' ?_)))
    refine Run.cond rfl (fun h2 => ?_) (fun h2 => ?_)
    · try simp only [Z] at h2
      refine sr' (lA' (cSS ((sS la lc pa pc most s))) rfl agg84 sz84 ?_)
      refine sW' (cSS ((sS la lc pa pc most s))) rfl rfl sz84 ?_
      refine as' rfl (as' rfl (nl' ?_))
      exact rt' Tryz.func33 (resV3 rfl (Rv.cellN (us := (cSS ((sS la lc pa pc most s)))) rfl (by first | ((repeat (first | (with_reducible exact F0 _) | apply F1)); done) | (repeat (first | exact F0 _ | apply F1))) agg84 sz84 (by first | exact Nat.le_of_ble_eq_true rfl | (simp; done) | (simp; omega)) rfl) (Rv.tmp rfl) (Rv.tmp rfl)) (by exact ⟨la, lc, pa, pc, by rw [mPut_arg (fun q => by simp_all)], by rw [mPut_arg (fun q => by simp_all)]⟩)
    · try simp only [Z] at h2
      have hk : e.kind = 1 ∧ eduLocal e = true := by simp_all
      refine sk' (sr' (lA' (cVV V) rfl agg65 sz65 ?_))
      refine pp' (Pure.fieldAddr rfl fo23_1) (l1' rfl agg9 ?_)
      refine pp' (Pure.fieldAddr rfl fo23_3) (l1' rfl agg9 ?_)
      refine pp' (Pure.fieldAddr rfl fo23_4) (l1' rfl agg9 ?_)
      refine ca' rfl rfl (s := rFitsV_ctr (room := e.room) (id := e.event) (thread := e.thread) hZ hzb (hb2 _)) (q := ?_)
      rintro _ _ ⟨rfl, hA_⟩
      replace hA_ := hA_.symm; subst hA_
      refine as' rfl (nl' (sq' (sr' (mv' rfl (pp' (Pure.eql rfl rfl) (nl' ?_))))))
      refine Run.cond rfl (fun h4 => ?_) (fun h4 => ?_)
      · try simp only [Z] at h4
        have he := mPut_park (most := most) (vg := (vget (zs.map (fun z : DD × ByteArray × EL => z.2)))) (s := s) hk h4
        refine lb' (Sl 23 11 pa (s.es).length pc ((s.es).flatMap cEdu)) Lends.Sl fun GhsE hleGhsE hsE backGhsE => ?_
        have hZ_GhsE := hZ.mono hleGhsE
        have hrb3_GhsE := hrb3.mono hleGhsE
        have hrb4_GhsE := hrb4.mono hleGhsE
        have hrb5_GhsE := hrb5.mono hleGhsE
        refine sr' (pp' (Pure.fieldAddr rfl fo84_1) (lA' (cPP (((sS la lc pa pc most s)).p)) rfl agg82 sz82 ?_))
        refine lA' (cEdu e) rfl agg23 sz23 ?_
        refine ca' rfl rfl (s := rPutP_ctr (pp := (⟨most, ⟨pa, s.es.length, pc⟩, s.lost⟩ : PP)) (es := s.es) (e := e) rfl hsE.1 (by omega) hl) (q := ?_)
        rintro _ _ hP
        rcases hP with ⟨hin, u, b, rfl, hA_⟩ | ⟨hin, ⟨la2, ln2, lc2⟩, u, b, hln, rfl, hA_⟩
        · skip
          replace hA_ := hA_.symm; subst hA_
          have hL : pputL most s.es e = s.es := by rw [pputL, if_pos hin]
          have hN : pputN most s.es e s.lost = s.lost := by rw [pputN, if_pos hin]
          have he' : (mPut most (vget (zs.map (fun z : DD × ByteArray × EL => z.2))) s e) = (s, false, 0) := by rw [he, hL, hN]
          refine mv' rfl (pp' (Pure.extract rfl rfl) (pp' (Pure.extract rfl rfl) (pp' (Pure.extract rfl rfl) ?_)))
          refine RunL.alloc zz82 (Wt.none rfl) rfl ?_; intro b11
          refine RunL.alloc zz23 (Wt.none rfl) rfl ?_; intro b12
          refine sW' (cPP ((⟨most, ⟨pa, s.es.length, pc⟩, s.lost⟩ : PP))) rfl rfl sz82 ?_
          refine sW' (cEdu u) rfl rfl sz23 ?_
          refine as' rfl (nl' ?_)
          refine Run.backB backGhsE ?_
          refine sr' (pp' (Pure.fieldAddr rfl fo84_0) (l1' rfl agg61 ?_))
          refine lA' (cPP ((⟨most, ⟨pa, s.es.length, pc⟩, s.lost⟩ : PP))) rfl agg82 sz82 ?_
          refine pp' (Pure.buildL (ps := [(0, _), (1, _)]) (zs := [(.slice none 0 0), (.int .i64 0), (.slice none 0 0), (.int .i64 0)]) (xs := (cSS ((sS la lc pa pc most s)))) pl84 rfl rfl rfl rfl) (sW' (cSS ((sS la lc pa pc most s))) rfl rfl sz84 ?_)
          refine as' rfl (as' rfl (nl' ?_))
          exact rt' Tryz.func33 (resV3 rfl (Rv.cellN (us := (cSS ((sS la lc pa pc most s)))) rfl (by first | ((repeat (first | (with_reducible exact F0 _) | apply F1)); done) | (repeat (first | exact F0 _ | apply F1))) agg84 sz84 (by first | exact Nat.le_of_ble_eq_true rfl | (simp; done) | (simp; omega)) rfl) (Rv.tmp rfl) (Rv.tmp rfl)) (by exact ⟨la, lc, pa, pc, by rw [he'], by rw [he']⟩)
        · skip
          dsimp only at hln
          subst hln
          replace hA_ := hA_.symm; subst hA_
          refine mv' rfl (pp' (Pure.extract rfl rfl) (pp' (Pure.extract rfl rfl) (pp' (Pure.extract rfl rfl) ?_)))
          refine RunL.alloc zz82 (Wt.none rfl) rfl ?_; intro b11
          refine RunL.alloc zz23 (Wt.none rfl) rfl ?_; intro b12
          refine sW' (cPP ((⟨most, ⟨la2, (pputL most s.es e).length, lc2⟩, pputN most s.es e s.lost⟩ : PP))) rfl rfl sz82 ?_
          refine sW' (cEdu u) rfl rfl sz23 ?_
          refine as' rfl (nl' ?_)
          refine Run.backB backGhsE ?_
          refine sr' (pp' (Pure.fieldAddr rfl fo84_0) (l1' rfl agg61 ?_))
          refine lA' (cPP ((⟨most, ⟨la2, (pputL most s.es e).length, lc2⟩, pputN most s.es e s.lost⟩ : PP))) rfl agg82 sz82 ?_
          refine pp' (Pure.buildL (ps := [(0, _), (1, _)]) (zs := [(.slice none 0 0), (.int .i64 0), (.slice none 0 0), (.int .i64 0)]) (xs := (cSS ((⟨⟨la, (ML s.tl).length, lc⟩, ⟨most, ⟨la2, (pputL most s.es e).length, lc2⟩, pputN most s.es e s.lost⟩⟩ : SS)))) pl84 rfl rfl rfl rfl) (sW' (cSS ((⟨⟨la, (ML s.tl).length, lc⟩, ⟨most, ⟨la2, (pputL most s.es e).length, lc2⟩, pputN most s.es e s.lost⟩⟩ : SS))) rfl rfl sz84 ?_)
          refine as' rfl (as' rfl (nl' ?_))
          exact rt' Tryz.func33 (resV3 rfl (Rv.cellN (us := (cSS ((⟨⟨la, (ML s.tl).length, lc⟩, ⟨most, ⟨la2, (pputL most s.es e).length, lc2⟩, pputN most s.es e s.lost⟩⟩ : SS)))) rfl (by first | ((repeat (first | (with_reducible exact F0 _) | apply F1)); done) | (repeat (first | exact F0 _ | apply F1))) agg84 sz84 (by first | exact Nat.le_of_ble_eq_true rfl | (simp; done) | (simp; omega)) rfl) (Rv.tmp rfl) (Rv.tmp rfl)) (by exact ⟨la, lc, la2, lc2, by rw [he]; rfl, by rw [he]⟩)
      · try simp only [Z] at h4
        refine sk' (sq' (sr' (mv' rfl (pp' (Pure.neq rfl rfl) (nl' ?_)))))
        refine Run.cond rfl (fun h0 => ?_) (fun h0 => ?_)
        · try simp only [Z] at h0
          refine sr' (lA' (cSS ((sS la lc pa pc most s))) rfl agg84 sz84 ?_)
          refine mv' rfl (sW' (cSS ((sS la lc pa pc most s))) rfl rfl sz84 ?_)
          refine as' rfl (as' rfl (nl' ?_))
          exact rt' Tryz.func33 (resV3 rfl (Rv.cellN (us := (cSS ((sS la lc pa pc most s)))) rfl (by first | ((repeat (first | (with_reducible exact F0 _) | apply F1)); done) | (repeat (first | exact F0 _ | apply F1))) agg84 sz84 (by first | exact Nat.le_of_ble_eq_true rfl | (simp; done) | (simp; omega)) rfl) (Rv.tmp rfl) (Rv.tmp rfl)) (by exact ⟨la, lc, pa, pc, by rw [mPut_bad hk h4 h0], by rw [mPut_bad hk h4 h0]⟩)
        · try simp only [Z] at h0
          have he := mPut_in (most := most) (vg := (vget (zs.map (fun z : DD × ByteArray × EL => z.2)))) (s := s) hk h0
          refine sk' (sr' (lA' (cVV V) rfl agg65 sz65 ?_))
          refine pp' (Pure.fieldAddr rfl fo23_1) (l1' rfl agg9 ?_)
          refine pp' (Pure.fieldAddr rfl fo23_3) (l1' rfl agg9 ?_)
          refine ca' rfl rfl (s := rPositionV_ctr (room := e.room) (id := e.event) hZ hzb (hb2 _)) (q := ?_)
          rintro _ _ ⟨rfl, hA_⟩
          replace hA_ := hA_.symm; subst hA_
          refine mv' rfl (pp' (Pure.extract rfl rfl) (pp' (Pure.extract rfl rfl) ?_))
          refine RunL.alloc zz69 (Wt.none rfl) rfl ?_; intro b14
          refine sW' (cPos ((posAt ((vget (zs.map (fun z : DD × ByteArray × EL => z.2))) e.room) e.event))) rfl rfl sz69 ?_
          refine as' rfl (nl' (sq' ?_))
          refine Run.regionD' (by kernel_rfl) (by kernel_rfl) (fun hok182 => ?_)
          refine ld' (row b14 69 _) Lends.row ?_; intro gl1 hlegl1 hl1 backgl1
          have hZ_gl1 := hZ.mono hlegl1
          have hrb3_gl1 := hrb3.mono hlegl1
          have hrb4_gl1 := hrb4.mono hlegl1
          have hrb5_gl1 := hrb5.mono hlegl1
          refine dp' 0 hok182 rfl (Pure.fieldAddr rfl fo84_0) (dl' 1 hok182 rfl rfl agg61 ?_)
          refine RunD.loadNR (vs := (cEdu e)) (i := 2) hok182 rfl (by kernel_rfl) rfl (by assumption) agg23 sz23 (by first | exact Nat.le_of_ble_eq_true rfl | (simp; done) | (simp; omega)) rfl (Wt.none rfl) rfl ?_
          refine RunD.loadNR (vs := (cPos ((posAt ((vget (zs.map (fun z : DD × ByteArray × EL => z.2))) e.room) e.event)))) (i := 4) hok182 rfl (by kernel_rfl) rfl (by assumption) agg69 sz69 (by first | exact Nat.le_of_ble_eq_true rfl | (simp; done) | (simp; omega)) rfl (Wt.none rfl) rfl ?_
          refine RunD.one (i := 3) (by kernel_rfl) rfl ?_
          refine ca' rfl rfl (s := rOfM_ctr (e := e)) (q := ?_)
          rintro _ _ ⟨rfl, hA_⟩
          replace hA_ := hA_.symm; subst hA_
          refine RunL.nilD' ?_
          refine RunD.one (i := 5) (by kernel_rfl) rfl ?_
          refine ca' rfl rfl (s := rPut_ctr (k := kOf e) (q := (posAt ((vget (zs.map (fun z : DD × ByteArray × EL => z.2))) e.room) e.event)) hkn (by omega)) (q := ?_)
          rintro _ _ ⟨a2, c2, rfl, hA_⟩
          replace hA_ := hA_.symm; subst hA_
          refine RunL.nilD' ?_
          refine dp' 6 hok182 rfl (Pure.move rfl) (dp' 7 hok182 rfl (Pure.extract rfl rfl) (dp' 8 hok182 rfl (Pure.extract rfl rfl) (dp' 9 hok182 rfl (Pure.assign rfl) (dp' 10 hok182 rfl (Pure.assign rfl) ?_))))
          refine RunD.nilB (by kernel_rfl) (fun w sw => backgl1 _ _ (sw)) ?_
          refine sr' (mv' rfl (pp' (Pure.fieldAddr rfl fo84_1) (lA' (cPP (((sS la lc pa pc most s)).p)) rfl agg82 sz82 ?_)))
          refine pp' (Pure.buildL (ps := [(0, _), (1, _)]) (zs := [(.slice none 0 0), (.int .i64 0), (.slice none 0 0), (.int .i64 0)]) (xs := (cSS ((⟨⟨a2, (ML (tput s.tl (kOf e) (posAt ((vget (zs.map (fun z : DD × ByteArray × EL => z.2))) e.room) e.event))).length, c2⟩, (sS la lc pa pc most s).p⟩ : SS)))) pl84 rfl rfl rfl rfl) (mv' rfl (sW' (cSS ((⟨⟨a2, (ML (tput s.tl (kOf e) (posAt ((vget (zs.map (fun z : DD × ByteArray × EL => z.2))) e.room) e.event))).length, c2⟩, (sS la lc pa pc most s).p⟩ : SS))) rfl rfl sz84 ?_))
          refine as' rfl (as' rfl (nl' ?_))
          exact rt' Tryz.func33 (resV3 rfl (Rv.cellN (us := (cSS ((⟨⟨a2, (ML (tput s.tl (kOf e) (posAt ((vget (zs.map (fun z : DD × ByteArray × EL => z.2))) e.room) e.event))).length, c2⟩, (sS la lc pa pc most s).p⟩ : SS)))) rfl (by first | ((repeat (first | (with_reducible exact F0 _) | apply F1)); done) | (repeat (first | exact F0 _ | apply F1))) agg84 sz84 (by first | exact Nat.le_of_ble_eq_true rfl | (simp; done) | (simp; omega)) rfl) (Rv.tmp rfl) (Rv.tmp rfl)) (by exact ⟨a2, c2, pa, pc, by rw [he]; rfl, by rw [he]⟩)

end Go.Proofs.YtaaondbmkibkkaaGreat
