/- Marks: the reference tells what waited. -/
import Derived.Test.YtaaondbmkibkkaaGreatQ3
set_option linter.unusedVariables false
set_option linter.unusedSimpArgs false
set_option linter.unusedSectionVars false
namespace Go.Proofs.YtaaondbmkibkkaaGreat
open Go Csl
theorem und89 : Tryz.prog.underlying 89 = some (Go.TypeDesc.slice 33) := Tryz.underlying89
theorem by33 : bytesIs Tryz.prog 33 = some 56 := by kernel_rfl

set_option maxHeartbeats 1000000 in
set_option maxRecDepth 100000 in
theorem rArriveM_ctr {G : Gp} {V : VV} {zs : ZV} {la pa : Option Addr} {lc pc : Nat} {most : Int} {s : MS} (hZ : HasZ G V zs) (hzb : zs.length ≤ 1000) (hb2 : ∀ r, ((vget (zs.map (fun z : DD × ByteArray × EL => z.2))) r).length ≤ 1000) {nn : Nat} {room event : ByteArray} (hok : s.ok nn) (hnn : nn ≤ 400) :
    Ctr Tryz.prog G 35 [.agg (cSS (sS la lc pa pc most s)).toArray, .agg (cVV V).toArray, .string room, .string event] [Sl 117 6 la (ML (s.tl)).length lc ((ML (s.tl)).flatMap cM), Sl 23 11 pa (s.es).length pc ((s.es).flatMap cEdu)] (fun F v A => ∃ la lc pa pc ao co, v = .tuple #[.agg (cSS (sS la lc pa pc most (mArr most (vget (zs.map (fun z : DD × ByteArray × EL => z.2))) s room event).1)).toArray, .slice ao (mArr most (vget (zs.map (fun z : DD × ByteArray × EL => z.2))) s room event).2.length co] ∧ A = Sl 117 6 la (ML ((mArr most (vget (zs.map (fun z : DD × ByteArray × EL => z.2))) s room event).1.tl)).length lc ((ML ((mArr most (vget (zs.map (fun z : DD × ByteArray × EL => z.2))) s room event).1.tl)).flatMap cM) :: Sl 23 11 pa ((mArr most (vget (zs.map (fun z : DD × ByteArray × EL => z.2))) s room event).1.es).length pc (((mArr most (vget (zs.map (fun z : DD × ByteArray × EL => z.2))) s room event).1.es).flatMap cEdu) :: Sl 33 4 ao ((mArr most (vget (zs.map (fun z : DD × ByteArray × EL => z.2))) s room event).2).length co (((mArr most (vget (zs.map (fun z : DD × ByteArray × EL => z.2))) s room event).2).flatMap cK) :: F) := by
  refine Ctr.intro Tryz.func35 rfl (by kernel_rfl) rfl (fun F => ?_)
  simp only [List.cons_append, List.nil_append]
  refine sr' ?_
  refine RunL.boxA (xs := (cSS ((sS la lc pa pc most s)))) rfl (Wt.none rfl) rfl ?_; intro b4
  refine RunL.boxA (xs := (cVV V)) rfl (Wt.none rfl) rfl ?_; intro b5
  refine RunL.alloc zz84 (Wt.none rfl) rfl ?_; intro b8
  refine as' rfl (nl' ?_)
  refine la' (row b5 65 _) Lends.row fun G5 hleG5 hrb5 => ?_
  replace hZ := hZ.mono hleG5
  refine sr' (lA' (cVV V) rfl agg65 sz65 ?_)
  refine mv' rfl (mv' rfl ?_)
  refine ca' rfl rfl (s := rPositionV_ctr (room := room) (id := event) hZ hzb (hb2 _)) (q := ?_)
  rintro _ _ ⟨rfl, hA_⟩
  replace hA_ := hA_.symm; subst hA_
  refine mv' rfl (pp' (Pure.extract rfl rfl) (pp' (Pure.extract rfl rfl) ?_))
  refine RunL.alloc zz69 (Wt.none rfl) rfl ?_; intro b10
  refine sW' (cPos ((posAt ((vget (zs.map (fun z : DD × ByteArray × EL => z.2))) room) event))) rfl rfl sz69 ?_
  refine as' rfl (nl' (sq' (sr' (mv' rfl (pp' (Pure.not rfl) (nl' ?_))))))
  refine Run.cond rfl (fun hh => ?_) (fun hh => ?_)
  · try simp only [Z] at hh
    refine sr' (lA' (cSS ((sS la lc pa pc most s))) rfl agg84 sz84 ?_)
    refine sW' (cSS ((sS la lc pa pc most s))) rfl rfl sz84 ?_
    refine as' rfl (nl' ?_)
    rw [mArr_no hh]
    refine Run.nilSl 33 4 ?_
    exact rt' Tryz.func35 (resV2 rfl (Rv.cellN (us := (cSS ((sS la lc pa pc most s)))) rfl (by first | ((repeat (first | (with_reducible exact F0 _) | apply F1)); done) | (repeat (first | exact F0 _ | apply F1))) agg84 sz84 (by first | exact Nat.le_of_ble_eq_true rfl | (simp; done) | (simp; omega)) rfl) (Rv.tmp rfl)) (by exact ⟨la, lc, pa, pc, none, 0, rfl, rfl⟩)
  · try simp only [Z] at hh
    have hfl := Nat.le_trans (List.length_filter_le (takesB room event) s.es) hok.2.2.1
    have hel := hok.2.2.1
    refine lb' (Sl 23 11 pa (s.es).length pc ((s.es).flatMap cEdu)) Lends.Sl fun GhsE hleGhsE hsE backGhsE => ?_
    have hZ_GhsE := hZ.mono hleGhsE
    have hrb5_GhsE := hrb5.mono hleGhsE
    refine sk' (sr' (pp' (Pure.fieldAddr rfl fo84_1) (lA' (cPP (((sS la lc pa pc most s)).p)) rfl agg82 sz82 ?_)))
    refine mv' rfl (mv' rfl ?_)
    refine ca' rfl rfl (s := rTakeP_ctr (pp := (⟨most, ⟨pa, s.es.length, pc⟩, s.lost⟩ : PP)) (es := s.es) (room := room) (event := event) rfl hsE.1 (by omega)) (q := ?_)
    rintro _ _ ⟨a1, a2, c1, c2, rfl, hA_⟩
    replace hA_ := hA_.symm; subst hA_
    refine mv' rfl (pp' (Pure.extract rfl rfl) (pp' (Pure.extract rfl rfl) ?_))
    refine RunL.alloc zz82 (Wt.none rfl) rfl ?_; intro b12
    refine sW' (cPP ((⟨most, ⟨a2, (mTake s room event).es.length, c2⟩, s.lost⟩ : PP))) rfl rfl sz82 ?_
    refine as' rfl (nl' ?_)
    refine Run.backB backGhsE ?_
    refine sr' (pp' (Pure.fieldAddr rfl fo84_0) (l1' rfl agg61 ?_))
    refine lA' (cPP ((⟨most, ⟨a2, (mTake s room event).es.length, c2⟩, s.lost⟩ : PP))) rfl agg82 sz82 ?_
    refine pp' (Pure.buildL (ps := [(0, _), (1, _)]) (zs := [(.slice none 0 0), (.int .i64 0), (.slice none 0 0), (.int .i64 0)]) (xs := (cSS ((sS la lc a2 c2 most (mTake s room event))))) pl84 rfl rfl rfl rfl) (sW' (cSS ((sS la lc a2 c2 most (mTake s room event)))) rfl rfl sz84 ?_)
    refine nl' ?_
    refine la' (Sl 23 11 a1 ((s.es.filter (takesB room event))).length c1 (((s.es.filter (takesB room event))).flatMap cEdu)) Lends.Sl fun Ght hleGht ht => ?_
    replace hZ := hZ.mono hleGht
    replace hrb5 := hrb5.mono hleGht
    obtain ⟨ht, htc⟩ := ht
    refine sr' (as' rfl (nl' ?_))
    refine Run.nilSl 33 4 ?_
    refine sq' (sr' (as' rfl (nl' (bl' ?_))))
    refine kp' [4, 5, 8, 13, 14, 15] ?_
    refine lp' F (fun n e_ A => ∃ (i : Nat) (la pa ao : Option Addr) (lc pc co : Nat), i ≤ (s.es.filter (takesB room event)).length ∧ n = (s.es.filter (takesB room event)).length - i ∧ e_ = [(4, .pointer (some ⟨b4, 0, none⟩)), (5, .pointer (some ⟨b5, 0, none⟩)), (8, .pointer (some ⟨b8, 0, none⟩)), (13, .slice a1 (s.es.filter (takesB room event)).length c1), (14, .slice ao (arrF most (vget (zs.map (fun z : DD × ByteArray × EL => z.2))) (mTake s room event) ((s.es.filter (takesB room event)).take i)).2.length co), (15, .int .i64 (i : Nat))] ∧ A = row b4 84 (cSS (sS la lc pa pc most (arrF most (vget (zs.map (fun z : DD × ByteArray × EL => z.2))) (mTake s room event) ((s.es.filter (takesB room event)).take i)).1)) :: row b8 84 (cSS (⟨⟨none, 0, 0⟩, ⟨0, ⟨none, 0, 0⟩, 0⟩⟩ : SS)) :: Sl 117 6 la (ML ((arrF most (vget (zs.map (fun z : DD × ByteArray × EL => z.2))) (mTake s room event) ((s.es.filter (takesB room event)).take i)).1.tl)).length lc ((ML ((arrF most (vget (zs.map (fun z : DD × ByteArray × EL => z.2))) (mTake s room event) ((s.es.filter (takesB room event)).take i)).1.tl)).flatMap cM) :: Sl 23 11 pa ((arrF most (vget (zs.map (fun z : DD × ByteArray × EL => z.2))) (mTake s room event) ((s.es.filter (takesB room event)).take i)).1.es).length pc (((arrF most (vget (zs.map (fun z : DD × ByteArray × EL => z.2))) (mTake s room event) ((s.es.filter (takesB room event)).take i)).1.es).flatMap cEdu) :: Sl 33 4 ao ((arrF most (vget (zs.map (fun z : DD × ByteArray × EL => z.2))) (mTake s room event) ((s.es.filter (takesB room event)).take i)).2).length co (((arrF most (vget (zs.map (fun z : DD × ByteArray × EL => z.2))) (mTake s room event) ((s.es.filter (takesB room event)).take i)).2).flatMap cK) :: F) ((s.es.filter (takesB room event)).length) (by exact ⟨0, la, a2, none, lc, c2, 0, by omega, rfl, rfl, rfl⟩) ?_
    rintro n _ _ ⟨i, la, pa, ao, lc, pc, co, hi, rfl, rfl, hA_⟩ ih
    replace hA_ := hA_.symm; subst hA_
    refine sq' (sr' (mv' rfl (mv' rfl (pp' (Pure.lenSl rfl rfl und25) (pp' (Pure.lss rfl rfl) (nl' ?_))))))
    refine Run.cond rfl (fun h1 => ?_) (fun h1 => ?_)
    · try simp only [Z] at h1
      obtain ⟨e, he⟩ := get_some (xs := (s.es.filter (takesB room event))) (i := i) (by omega)
      have hem := List.mem_of_getElem? he
      have hes : eduSmall e := hok.2.2.2.1 e (List.mem_filter.1 hem).1
      obtain ⟨bt, Tt, pret, postt, hpt, hrot⟩ := ht.open1 (show 0 < (s.es.filter (takesB room event)).length by omega)
      obtain ⟨hok1, hok2⟩ := arrF_ok (most := most) (vg := (vget (zs.map (fun z : DD × ByteArray × EL => z.2)))) (s := (mTake s room event)) (l := (s.es.filter (takesB room event))) (mTake_ok hok) (fun e he => hok.2.2.2.1 e (List.mem_filter.1 he).1) i hi
      have hk0 := hok1.2.1
      have hk1 := hok1.2.2.1
      have hk2 := hok1.2.2.2.2.1
      have hk3 := hok1.2.2.2.2.2
      refine sk' (sq' (bl' (sq' ?_)))
      refine Run.cut (fun e_ A => ∃ (b16 : Nat) (la' pa' : Option Addr) (lc' pc' : Nat), e_ = [(4, .pointer (some ⟨b4, 0, none⟩)), (5, .pointer (some ⟨b5, 0, none⟩)), (8, .pointer (some ⟨b8, 0, none⟩)), (13, .slice a1 (s.es.filter (takesB room event)).length c1), (14, .slice ao (arrF most (vget (zs.map (fun z : DD × ByteArray × EL => z.2))) (mTake s room event) ((s.es.filter (takesB room event)).take i)).2.length co), (15, .int .i64 (i : Nat)), (16, .pointer (some ⟨b16, 0, none⟩)), (17, .bool (mPut most (vget (zs.map (fun z : DD × ByteArray × EL => z.2))) (arrF most (vget (zs.map (fun z : DD × ByteArray × EL => z.2))) (mTake s room event) ((s.es.filter (takesB room event)).take i)).1 e).2.1)] ∧ A = row b4 84 (cSS (sS la lc pa pc most (arrF most (vget (zs.map (fun z : DD × ByteArray × EL => z.2))) (mTake s room event) ((s.es.filter (takesB room event)).take i)).1)) :: row b8 84 (cSS (⟨⟨none, 0, 0⟩, ⟨0, ⟨none, 0, 0⟩, 0⟩⟩ : SS)) :: row b16 84 (cSS (sS la' lc' pa' pc' most (mPut most (vget (zs.map (fun z : DD × ByteArray × EL => z.2))) (arrF most (vget (zs.map (fun z : DD × ByteArray × EL => z.2))) (mTake s room event) ((s.es.filter (takesB room event)).take i)).1 e).1)) :: Sl 117 6 la' (ML ((mPut most (vget (zs.map (fun z : DD × ByteArray × EL => z.2))) (arrF most (vget (zs.map (fun z : DD × ByteArray × EL => z.2))) (mTake s room event) ((s.es.filter (takesB room event)).take i)).1 e).1.tl)).length lc' ((ML ((mPut most (vget (zs.map (fun z : DD × ByteArray × EL => z.2))) (arrF most (vget (zs.map (fun z : DD × ByteArray × EL => z.2))) (mTake s room event) ((s.es.filter (takesB room event)).take i)).1 e).1.tl)).flatMap cM) :: Sl 23 11 pa' ((mPut most (vget (zs.map (fun z : DD × ByteArray × EL => z.2))) (arrF most (vget (zs.map (fun z : DD × ByteArray × EL => z.2))) (mTake s room event) ((s.es.filter (takesB room event)).take i)).1 e).1.es).length pc' (((mPut most (vget (zs.map (fun z : DD × ByteArray × EL => z.2))) (arrF most (vget (zs.map (fun z : DD × ByteArray × EL => z.2))) (mTake s room event) ((s.es.filter (takesB room event)).take i)).1 e).1.es).flatMap cEdu) :: Sl 33 4 ao ((arrF most (vget (zs.map (fun z : DD × ByteArray × EL => z.2))) (mTake s room event) ((s.es.filter (takesB room event)).take i)).2).length co (((arrF most (vget (zs.map (fun z : DD × ByteArray × EL => z.2))) (mTake s room event) ((s.es.filter (takesB room event)).take i)).2).flatMap cK) :: F) (fun e A hM => ?_) (fun hk => ?_)
      · obtain ⟨b16, la', pa', lc', pc', rfl, hA_⟩ := hM
        replace hA_ := hA_.symm; subst hA_
        refine sr' (lA' (cSS ((sS la' lc' pa' pc' most (mPut most (vget (zs.map (fun z : DD × ByteArray × EL => z.2))) (arrF most (vget (zs.map (fun z : DD × ByteArray × EL => z.2))) (mTake s room event) ((s.es.filter (takesB room event)).take i)).1 e).1))) rfl agg84 sz84 ?_)
        refine sW' (cSS ((sS la' lc' pa' pc' most (mPut most (vget (zs.map (fun z : DD × ByteArray × EL => z.2))) (arrF most (vget (zs.map (fun z : DD × ByteArray × EL => z.2))) (mTake s room event) ((s.es.filter (takesB room event)).take i)).1 e).1))) rfl rfl sz84 ?_
        have ih1 := ih
        refine nl' (sr' (as' rfl (nl' (sq' (sr' (as' rfl (nl' (bl' ?_))))))))
        refine kp' [4, 5, 8, 13, 14, 15, 17, 19, 20] ?_
        refine lp' F (fun n e_ A => ∃ (k : Nat) (b : Bool), k ≤ (arrF most (vget (zs.map (fun z : DD × ByteArray × EL => z.2))) (mTake s room event) ((s.es.filter (takesB room event)).take i)).2.length ∧ b = decide (kOf e ∈ (arrF most (vget (zs.map (fun z : DD × ByteArray × EL => z.2))) (mTake s room event) ((s.es.filter (takesB room event)).take i)).2.take k) ∧ n = (arrF most (vget (zs.map (fun z : DD × ByteArray × EL => z.2))) (mTake s room event) ((s.es.filter (takesB room event)).take i)).2.length - k ∧ e_ = [(4, .pointer (some ⟨b4, 0, none⟩)), (5, .pointer (some ⟨b5, 0, none⟩)), (8, .pointer (some ⟨b8, 0, none⟩)), (13, .slice a1 (s.es.filter (takesB room event)).length c1), (14, .slice ao (arrF most (vget (zs.map (fun z : DD × ByteArray × EL => z.2))) (mTake s room event) ((s.es.filter (takesB room event)).take i)).2.length co), (15, .int .i64 (i : Nat)), (17, .bool (mPut most (vget (zs.map (fun z : DD × ByteArray × EL => z.2))) (arrF most (vget (zs.map (fun z : DD × ByteArray × EL => z.2))) (mTake s room event) ((s.es.filter (takesB room event)).take i)).1 e).2.1), (19, .bool b), (20, .int .i64 (k : Nat))] ∧ A = row b4 84 (cSS (sS la' lc' pa' pc' most (mPut most (vget (zs.map (fun z : DD × ByteArray × EL => z.2))) (arrF most (vget (zs.map (fun z : DD × ByteArray × EL => z.2))) (mTake s room event) ((s.es.filter (takesB room event)).take i)).1 e).1)) :: row b8 84 (cSS (⟨⟨none, 0, 0⟩, ⟨0, ⟨none, 0, 0⟩, 0⟩⟩ : SS)) :: Sl 117 6 la' (ML ((mPut most (vget (zs.map (fun z : DD × ByteArray × EL => z.2))) (arrF most (vget (zs.map (fun z : DD × ByteArray × EL => z.2))) (mTake s room event) ((s.es.filter (takesB room event)).take i)).1 e).1.tl)).length lc' ((ML ((mPut most (vget (zs.map (fun z : DD × ByteArray × EL => z.2))) (arrF most (vget (zs.map (fun z : DD × ByteArray × EL => z.2))) (mTake s room event) ((s.es.filter (takesB room event)).take i)).1 e).1.tl)).flatMap cM) :: Sl 23 11 pa' ((mPut most (vget (zs.map (fun z : DD × ByteArray × EL => z.2))) (arrF most (vget (zs.map (fun z : DD × ByteArray × EL => z.2))) (mTake s room event) ((s.es.filter (takesB room event)).take i)).1 e).1.es).length pc' (((mPut most (vget (zs.map (fun z : DD × ByteArray × EL => z.2))) (arrF most (vget (zs.map (fun z : DD × ByteArray × EL => z.2))) (mTake s room event) ((s.es.filter (takesB room event)).take i)).1 e).1.es).flatMap cEdu) :: Sl 33 4 ao ((arrF most (vget (zs.map (fun z : DD × ByteArray × EL => z.2))) (mTake s room event) ((s.es.filter (takesB room event)).take i)).2).length co (((arrF most (vget (zs.map (fun z : DD × ByteArray × EL => z.2))) (mTake s room event) ((s.es.filter (takesB room event)).take i)).2).flatMap cK) :: F) ((arrF most (vget (zs.map (fun z : DD × ByteArray × EL => z.2))) (mTake s room event) ((s.es.filter (takesB room event)).take i)).2.length) (by exact ⟨0, false, by omega, by simp, rfl, rfl, rfl⟩) ?_
        rintro n _ _ ⟨k, b, hk, hb, rfl, rfl, hA_⟩ ih
        replace hA_ := hA_.symm; subst hA_
        refine sq' (sr' (mv' rfl (mv' rfl (pp' (Pure.lenSl rfl rfl und89) (pp' (Pure.lss rfl rfl) (nl' ?_))))))
        refine Run.cond rfl (fun h4 => ?_) (fun h4 => ?_)
        · try simp only [Z] at h4
          obtain ⟨y, hy⟩ := get_some (xs := (arrF most (vget (zs.map (fun z : DD × ByteArray × EL => z.2))) (mTake s room event) ((s.es.filter (takesB room event)).take i)).2) (i := k) (by omega)
          refine sk' (sq' (bl' ?_))
          refine Run.regionD' (by kernel_rfl) (by kernel_rfl) (fun hok139 => ?_)
          refine dp' 0 hok139 rfl (Pure.move rfl) (dp' 1 hok139 rfl (Pure.move rfl) ?_)
          refine RunD.split (d := 68) rfl (fun t5 => ?_) (fun t5 => ?_)
          · try simp only [Z] at t5
            refine dn' 2 hok139 rfl (dn' 3 hok139 rfl (dn' 4 hok139 rfl (dn' 5 hok139 rfl (dn' 6 hok139 rfl (dn' 7 hok139 rfl (dn' 8 hok139 rfl (dn' 9 hok139 rfl (dn' 10 hok139 rfl (dn' 11 hok139 rfl (dp' 12 hok139 rfl (Pure.pickT rfl rfl) (dp' 13 hok139 rfl (Pure.assign rfl) ?_)))))))))))
            refine RunD.nilR (by kernel_rfl) ?_
            refine ib' (rg' (mv' rfl ?_))
            first | refine RunL.pure (Pure.addI rfl rfl (by omega)) (Wt.none rfl) rfl rfl ?_ | refine RunL.pure (Pure.add rfl rfl) (Wt.none rfl) rfl rfl ?_
            refine as' rfl (nl' ?_)
            refine kp' [4, 5, 8, 13, 14, 15, 17, 19, 20] ?_
            exact ag' F ih (by exact ⟨k + 1, true, by omega, has_more (by rw [hb] at t5; exact of_decide_eq_true t5), rfl, rfl, rfl⟩)
          · try simp only [Z] at t5
            refine ld' (Sl 33 4 ao ((arrF most (vget (zs.map (fun z : DD × ByteArray × EL => z.2))) (mTake s room event) ((s.es.filter (takesB room event)).take i)).2).length co (((arrF most (vget (zs.map (fun z : DD × ByteArray × EL => z.2))) (mTake s room event) ((s.es.filter (takesB room event)).take i)).2).flatMap cK)) Lends.Sl ?_; intro gu hlegu hu backgu
            have hZ_gu := hZ.mono hlegu
            have hrb5_gu := hrb5.mono hlegu
            have ht_gu := ht.mono hlegu
            have hrot_gu := hrot.mono hlegu
            obtain ⟨bu, Tu, preu, postu, hpu, hrou⟩ := hu.1.open1 (show 0 < (arrF most (vget (zs.map (fun z : DD × ByteArray × EL => z.2))) (mTake s room event) ((s.es.filter (takesB room event)).take i)).2.length by omega)
            refine dp' 2 hok139 rfl (Pure.move rfl) (dp' 3 hok139 rfl (Pure.move rfl) ?_)
            refine dp' 4 hok139 rfl (Pure.indexAddr (opvSl rfl hpu) rfl und89 sz33 (by omega) (by omega)) ?_
            refine RunD.loadNR (vs := (cK y)) (i := 5) hok139 rfl (by kernel_rfl) rfl hrou agg33 sz33 (elemN_len (pre := preu) (post := postu) (f := cK) (sz := 4) (j := 0) (n := 4) (fun _ _ => rfl) hy (by decide)) ((elemN_at (pre := preu) (post := postu) (f := cK) (sz := 4) (j := 0) (n := 4) (fun _ _ => rfl) hy (by decide)).trans rfl) (Wt.yes rfl rfl rfl) rfl ?_
            refine dp' 6 hok139 rfl (Pure.move rfl) (dp' 7 hok139 rfl (Pure.move rfl) ?_)
            refine dp' 8 hok139 rfl (Pure.indexAddr (opvSl rfl hpt) rfl und25 sz23 (by omega) (by omega)) ?_
            refine RunD.loadNR (vs := (cEdu e)) (i := 9) hok139 rfl (by kernel_rfl) rfl hrot_gu agg23 sz23 (elemN_len (pre := pret) (post := postt) (f := cEdu) (sz := 11) (j := 0) (n := 11) (fun _ _ => rfl) he (by decide)) ((elemN_at (pre := pret) (post := postt) (f := cEdu) (sz := 11) (j := 0) (n := 11) (fun _ _ => rfl) he (by decide)).trans rfl) (Wt.yes rfl rfl rfl) rfl ?_
            refine RunD.one (i := 10) (by kernel_rfl) rfl ?_
            refine ca' rfl rfl (s := rOfM_ctr (e := e)) (q := ?_)
            rintro _ _ ⟨rfl, hA_⟩
            replace hA_ := hA_.symm; subst hA_
            refine RunL.nilD' ?_
            refine dp' 11 hok139 rfl (Pure.aeql rfl rfl eqg33 (eqv33 (y) _) (by decide)) ?_
            refine dp' 12 hok139 rfl (Pure.pickF rfl rfl) (dp' 13 hok139 rfl (Pure.assign rfl) ?_)
            refine RunD.nilB (by kernel_rfl) (fun w sw => backgu _ _ (sw)) ?_
            refine ib' (rg' (mv' rfl ?_))
            first | refine RunL.pure (Pure.addI rfl rfl (by omega)) (Wt.none rfl) rfl rfl ?_ | refine RunL.pure (Pure.add rfl rfl) (Wt.none rfl) rfl rfl ?_
            refine as' rfl (nl' ?_)
            refine kp' [4, 5, 8, 13, 14, 15, 17, 19, 20] ?_
            exact ag' F ih (by exact ⟨k + 1, _, by omega, has_succ hy (by rw [hb] at t5; exact of_decide_eq_false t5), rfl, rfl, rfl⟩)
        · try simp only [Z] at h4
          obtain rfl : k = (arrF most (vget (zs.map (fun z : DD × ByteArray × EL => z.2))) (mTake s room event) ((s.es.filter (takesB room event)).take i)).2.length := by omega
          rw [List.take_length] at hb
          refine ex' rfl (sr' (mv' rfl (mv' rfl ?_)))
          refine RunL.split (d := 81) rfl (fun t6 => ?_) (fun t6 => ?_)
          · try simp only [Z] at t6
            refine py' (Pure.move rfl) (py' (Pure.not rfl) (pp' (Pure.pickT rfl rfl) (nl' ?_)))
            refine Run.cond rfl (fun h7 => ?_) (fun h7 => ?_)
            · try simp only [Z] at h7
              refine rg' (mv' rfl (mv' rfl (mv' rfl ?_)))
              refine pp' (Pure.indexAddr (opvSl rfl hpt) rfl und25 sz23 (by omega) (by omega)) ?_
              refine RunL.loadNR (vs := (cEdu e)) rfl hrot agg23 sz23 (elemN_len (pre := pret) (post := postt) (f := cEdu) (sz := 11) (j := 0) (n := 11) (fun _ _ => rfl) he (by decide)) ((elemN_at (pre := pret) (post := postt) (f := cEdu) (sz := 11) (j := 0) (n := 11) (fun _ _ => rfl) he (by decide)).trans rfl) (Wt.none rfl) rfl ?_
              refine ca' rfl rfl (s := rOfM_ctr (e := e)) (q := ?_)
              rintro _ _ ⟨rfl, hA_⟩
              replace hA_ := hA_.symm; subst hA_
              refine RunL.lit (vals := [_]) (vs := ([kOf e] : List K).flatMap cK) und89 sz33 zz33 rfl rfl rfl rfl rfl rfl (by simp [Value.cells, bv, cDD, cEdu, cEvn, cGG, cK, cM, cNde, cPP, cPos, cSS, cVV]) rfl (Wt.none rfl) rfl ?_; intro b91
              refine RunL.append (m := 1) (n' := ((arrF most (vget (zs.map (fun z : DD × ByteArray × EL => z.2))) (mTake s room event) ((s.es.filter (takesB room event)).take i)).2 ++ [kOf e]).length) (cs' := ((arrF most (vget (zs.map (fun z : DD × ByteArray × EL => z.2))) (mTake s room event) ((s.es.filter (takesB room event)).take i)).2 ++ [kOf e]).flatMap cK) rfl rfl (by first | ((repeat (first | (with_reducible exact F0 _) | apply F1)); done) | (repeat (first | exact F0 _ | apply F1))) rfl rfl und89 und89 rfl sz33 zz33 rfl by33 (by omega) (by omega) (fun w sw => sw.src) (isOne_flat (f := cK) (fun _ => rfl)) (by simp) (by rw [List.flatMap_append]) (Wt.none rfl) rfl ?_; intro a3 c3
              refine as' rfl (nl' (ib' (rg' (mv' rfl ?_))))
              first | refine RunL.pure (Pure.addI rfl rfl (by omega)) (Wt.none rfl) rfl rfl ?_ | refine RunL.pure (Pure.add rfl rfl) (Wt.none rfl) rfl rfl ?_
              refine as' rfl (nl' ?_)
              have ih := ih1
              have hq : (arrF most (vget (zs.map (fun z : DD × ByteArray × EL => z.2))) (mTake s room event) ((s.es.filter (takesB room event)).take (i + 1))) = arrS most (vget (zs.map (fun z : DD × ByteArray × EL => z.2))) (arrF most (vget (zs.map (fun z : DD × ByteArray × EL => z.2))) (mTake s room event) ((s.es.filter (takesB room event)).take i)) e := arrF_succ he
              have hq2 : ((arrF most (vget (zs.map (fun z : DD × ByteArray × EL => z.2))) (mTake s room event) ((s.es.filter (takesB room event)).take (i + 1)))).2 = (arrF most (vget (zs.map (fun z : DD × ByteArray × EL => z.2))) (mTake s room event) ((s.es.filter (takesB room event)).take i)).2 ++ [kOf e] := by rw [hq]; unfold arrS; simp only []; rw [if_pos ⟨t6, by simpa [h7] using hb⟩]
              have hq1 : ((arrF most (vget (zs.map (fun z : DD × ByteArray × EL => z.2))) (mTake s room event) ((s.es.filter (takesB room event)).take (i + 1)))).1 = (mPut most (vget (zs.map (fun z : DD × ByteArray × EL => z.2))) (arrF most (vget (zs.map (fun z : DD × ByteArray × EL => z.2))) (mTake s room event) ((s.es.filter (takesB room event)).take i)).1 e).1 := by rw [hq]; rfl
              rw [← hq1, ← hq2]
              refine kp' [4, 5, 8, 13, 14, 15] ?_
              exact ag' F ih (by exact ⟨i + 1, la', pa', a3, lc', pc', c3, by omega, rfl, rfl, rfl⟩)
            · try simp only [Z] at h7
              refine sk' (ib' (rg' (mv' rfl ?_)))
              first | refine RunL.pure (Pure.addI rfl rfl (by omega)) (Wt.none rfl) rfl rfl ?_ | refine RunL.pure (Pure.add rfl rfl) (Wt.none rfl) rfl rfl ?_
              refine as' rfl (nl' ?_)
              have ih := ih1
              have hq : (arrF most (vget (zs.map (fun z : DD × ByteArray × EL => z.2))) (mTake s room event) ((s.es.filter (takesB room event)).take (i + 1))) = arrS most (vget (zs.map (fun z : DD × ByteArray × EL => z.2))) (arrF most (vget (zs.map (fun z : DD × ByteArray × EL => z.2))) (mTake s room event) ((s.es.filter (takesB room event)).take i)) e := arrF_succ he
              have hq2 : ((arrF most (vget (zs.map (fun z : DD × ByteArray × EL => z.2))) (mTake s room event) ((s.es.filter (takesB room event)).take (i + 1)))).2 = (arrF most (vget (zs.map (fun z : DD × ByteArray × EL => z.2))) (mTake s room event) ((s.es.filter (takesB room event)).take i)).2 := by rw [hq]; unfold arrS; simp only []; rw [if_neg (fun q => q.2 (by simpa [h7] using hb))]
              have hq1 : ((arrF most (vget (zs.map (fun z : DD × ByteArray × EL => z.2))) (mTake s room event) ((s.es.filter (takesB room event)).take (i + 1)))).1 = (mPut most (vget (zs.map (fun z : DD × ByteArray × EL => z.2))) (arrF most (vget (zs.map (fun z : DD × ByteArray × EL => z.2))) (mTake s room event) ((s.es.filter (takesB room event)).take i)).1 e).1 := by rw [hq]; rfl
              rw [← hq1, ← hq2]
              refine kp' [4, 5, 8, 13, 14, 15] ?_
              exact ag' F ih (by exact ⟨i + 1, la', pa', ao, lc', pc', co, by omega, rfl, rfl, rfl⟩)
          · try simp only [Z] at t6
            refine no' (no' (pp' (Pure.pickF rfl rfl) (nl' (cF' (sk' (ib' (rg' (mv' rfl ?_))))))))
            first | refine RunL.pure (Pure.addI rfl rfl (by omega)) (Wt.none rfl) rfl rfl ?_ | refine RunL.pure (Pure.add rfl rfl) (Wt.none rfl) rfl rfl ?_
            refine as' rfl (nl' ?_)
            have ih := ih1
            have hq : (arrF most (vget (zs.map (fun z : DD × ByteArray × EL => z.2))) (mTake s room event) ((s.es.filter (takesB room event)).take (i + 1))) = arrS most (vget (zs.map (fun z : DD × ByteArray × EL => z.2))) (arrF most (vget (zs.map (fun z : DD × ByteArray × EL => z.2))) (mTake s room event) ((s.es.filter (takesB room event)).take i)) e := arrF_succ he
            have hq2 : ((arrF most (vget (zs.map (fun z : DD × ByteArray × EL => z.2))) (mTake s room event) ((s.es.filter (takesB room event)).take (i + 1)))).2 = (arrF most (vget (zs.map (fun z : DD × ByteArray × EL => z.2))) (mTake s room event) ((s.es.filter (takesB room event)).take i)).2 := by rw [hq]; unfold arrS; simp only []; rw [if_neg (fun q => by rw [t6] at q; cases q.1)]
            have hq1 : ((arrF most (vget (zs.map (fun z : DD × ByteArray × EL => z.2))) (mTake s room event) ((s.es.filter (takesB room event)).take (i + 1)))).1 = (mPut most (vget (zs.map (fun z : DD × ByteArray × EL => z.2))) (arrF most (vget (zs.map (fun z : DD × ByteArray × EL => z.2))) (mTake s room event) ((s.es.filter (takesB room event)).take i)).1 e).1 := by rw [hq]; rfl
            rw [← hq1, ← hq2]
            refine kp' [4, 5, 8, 13, 14, 15] ?_
            exact ag' F ih (by exact ⟨i + 1, la', pa', ao, lc', pc', co, by omega, rfl, rfl, rfl⟩)
      · skip
        refine Run.regionD' (by kernel_rfl) (by kernel_rfl) (fun hok279 => ?_)
        refine ld' (row b4 84 _) Lends.row ?_; intro gl1 hlegl1 hl1 backgl1
        have hZ_gl1 := hZ.mono hlegl1
        have hrb5_gl1 := hrb5.mono hlegl1
        have ht_gl1 := ht.mono hlegl1
        have hrot_gl1 := hrot.mono hlegl1
        refine RunD.loadNR (vs := (cSS ((sS la lc pa pc most (arrF most (vget (zs.map (fun z : DD × ByteArray × EL => z.2))) (mTake s room event) ((s.es.filter (takesB room event)).take i)).1)))) (i := 0) hok279 rfl (by kernel_rfl) rfl (by assumption) agg84 sz84 (by first | exact Nat.le_of_ble_eq_true rfl | (simp; done) | (simp; omega)) rfl (Wt.none rfl) rfl ?_
        refine RunD.loadNR (vs := (cVV V)) (i := 1) hok279 rfl (by kernel_rfl) rfl (by assumption) agg65 sz65 (by first | exact Nat.le_of_ble_eq_true rfl | (simp; done) | (simp; omega)) rfl (Wt.none rfl) rfl ?_
        refine dp' 2 hok279 rfl (Pure.move rfl) (dp' 3 hok279 rfl (Pure.move rfl) ?_)
        refine dp' 4 hok279 rfl (Pure.indexAddr (opvSl rfl hpt) rfl und25 sz23 (by omega) (by omega)) ?_
        refine RunD.loadNR (vs := (cEdu e)) (i := 5) hok279 rfl (by kernel_rfl) rfl hrot_gl1 agg23 sz23 (elemN_len (pre := pret) (post := postt) (f := cEdu) (sz := 11) (j := 0) (n := 11) (fun _ _ => rfl) he (by decide)) ((elemN_at (pre := pret) (post := postt) (f := cEdu) (sz := 11) (j := 0) (n := 11) (fun _ _ => rfl) he (by decide)).trans rfl) (Wt.none rfl) rfl ?_
        refine RunD.two (i := 6) (j := 11) (by kernel_rfl) rfl rfl ?_ ?_
        · skip
          refine ca' rfl rfl (s := rPutM_ctr (e := e) (s := (arrF most (vget (zs.map (fun z : DD × ByteArray × EL => z.2))) (mTake s room event) ((s.es.filter (takesB room event)).take i)).1) hZ_gl1 hzb hb2 hes hok1.1 (by omega) (by omega) ⟨by omega, by omega⟩) (q := ?_)
          rintro _ _ ⟨la', lc', pa', pc', rfl, hA_⟩
          replace hA_ := hA_.symm; subst hA_
          refine RunL.nilD' ?_
          refine dp' 7 hok279 rfl (Pure.move rfl) (dp' 8 hok279 rfl (Pure.extract rfl rfl) (dp' 9 hok279 rfl (Pure.extract rfl rfl) (dp' 10 hok279 rfl (Pure.extract rfl rfl) ?_)))
          refine RunD.one (i := 11) (by kernel_rfl) rfl ?_
          · skip
            refine RunL.alloc zz84 (Wt.none rfl) rfl ?_; intro b16
            refine RunL.nilD' ?_
            refine RunD.one (i := 12) (by kernel_rfl) rfl ?_
            · skip
              refine sW' (cSS ((sS la' lc' pa' pc' most (mPut most (vget (zs.map (fun z : DD × ByteArray × EL => z.2))) (arrF most (vget (zs.map (fun z : DD × ByteArray × EL => z.2))) (mTake s room event) ((s.es.filter (takesB room event)).take i)).1 e).1))) rfl rfl sz84 ?_
              refine RunL.nilD' ?_
              refine dp' 13 hok279 rfl (Pure.assign rfl) (dp' 14 hok279 rfl (Pure.assign rfl) ?_)
              refine RunD.nilB (by kernel_rfl) (fun w sw => backgl1 _ _ (sw)) ?_
              refine kp' [4, 5, 8, 13, 14, 15, 16, 17] ?_
              exact me' F hk (by exact ⟨b16, la', pa', lc', pc', rfl, rfl⟩)
        · skip
          refine RunL.alloc zz84 (Wt.none rfl) rfl ?_; intro b16
          refine RunL.nilD' ?_
          refine RunD.one (i := 6) (by kernel_rfl) rfl ?_
          · skip
            refine ca' rfl rfl (s := rPutM_ctr (e := e) (s := (arrF most (vget (zs.map (fun z : DD × ByteArray × EL => z.2))) (mTake s room event) ((s.es.filter (takesB room event)).take i)).1) hZ_gl1 hzb hb2 hes hok1.1 (by omega) (by omega) ⟨by omega, by omega⟩) (q := ?_)
            rintro _ _ ⟨la', lc', pa', pc', rfl, hA_⟩
            replace hA_ := hA_.symm; subst hA_
            refine RunL.nilD' ?_
            refine dp' 7 hok279 rfl (Pure.move rfl) (dp' 8 hok279 rfl (Pure.extract rfl rfl) (dp' 9 hok279 rfl (Pure.extract rfl rfl) (dp' 10 hok279 rfl (Pure.extract rfl rfl) ?_)))
            refine RunD.one (i := 12) (by kernel_rfl) rfl ?_
            · skip
              refine sW' (cSS ((sS la' lc' pa' pc' most (mPut most (vget (zs.map (fun z : DD × ByteArray × EL => z.2))) (arrF most (vget (zs.map (fun z : DD × ByteArray × EL => z.2))) (mTake s room event) ((s.es.filter (takesB room event)).take i)).1 e).1))) rfl rfl sz84 ?_
              refine RunL.nilD' ?_
              refine dp' 13 hok279 rfl (Pure.assign rfl) (dp' 14 hok279 rfl (Pure.assign rfl) ?_)
              refine RunD.nilB (by kernel_rfl) (fun w sw => backgl1 _ _ (sw)) ?_
              refine kp' [4, 5, 8, 13, 14, 15, 16, 17] ?_
              exact me' F hk (by exact ⟨b16, la', pa', lc', pc', rfl, rfl⟩)
    · try simp only [Z] at h1
      have hti : (s.es.filter (takesB room event)).take i = (s.es.filter (takesB room event)) := List.take_of_length_le (by omega)
      have he := mArr_yes (most := most) (s := s) hh
      rw [hti, ← he]
      refine ex' rfl (sr' (lA' (cSS ((sS la lc pa pc most (mArr most (vget (zs.map (fun z : DD × ByteArray × EL => z.2))) s room event).1))) rfl agg84 sz84 ?_))
      refine mv' rfl (sW' (cSS ((sS la lc pa pc most (mArr most (vget (zs.map (fun z : DD × ByteArray × EL => z.2))) s room event).1))) rfl rfl sz84 ?_)
      refine as' rfl (nl' ?_)
      exact rt' Tryz.func35 (resV2 rfl (Rv.cellN (us := (cSS ((sS la lc pa pc most (mArr most (vget (zs.map (fun z : DD × ByteArray × EL => z.2))) s room event).1)))) rfl (by first | ((repeat (first | (with_reducible exact F0 _) | apply F1)); done) | (repeat (first | exact F0 _ | apply F1))) agg84 sz84 (by first | exact Nat.le_of_ble_eq_true rfl | (simp; done) | (simp; omega)) rfl) (Rv.tmp rfl)) (by exact ⟨la, lc, pa, pc, ao, co, rfl, rfl⟩)

end Go.Proofs.YtaaondbmkibkkaaGreat
