/- The reference: all events. -/
import Derived.Test.YtcmkafellcfbeaaGreatH2
set_option linter.unusedVariables false
set_option linter.unusedSimpArgs false
set_option linter.unusedSectionVars false
namespace Go.Proofs.YtcmkafellcfbeaaGreat
open Go Csl


set_option maxHeartbeats 4000000 in
set_option maxRecDepth 100000 in
theorem rdAll_ctr {G : Gp} {D : DD} {room : ByteArray} {l : EL} {ys : ES} (hroom : D.room = room) (hyl : ys.map (·.1) = l) (hes : HasES G D.l ys) (hb : l.length ≤ 1000) (hg : Csl.Good room l) :
    Ctr Tryz.prog G 40 [.agg (cDD D).toArray] [] (fun F v A => ∃ a c, ∃ zs : ES, zs.map (·.1) = allOf l ∧ zs.Perm ys ∧ v = .slice a zs.length c ∧ A = Sl 33 6 a (zs).length c ((zs).flatMap cES) :: F) := by
  refine Ctr.intro Tryz.func40 rfl (by kernel_rfl) rfl (fun F => ?_)
  simp only [List.nil_append]
  have hd : HasD G D room l := ⟨hroom, ys, hyl, hes⟩
  obtain ⟨hdn, hds, hdc, hdk⟩ := id hes
  have hyn := ES_len hyl
  refine Run.nilSl 33 6 ?_
  refine Run.sr ?_
  refine RunL.boxA (xs := (cDD D)) rfl (Wt.none rfl) rfl ?_; intro b1
  refine RunL.as rfl rfl ?_
  refine RunL.nil ?_
  refine Run.lendAll (Q := row b1 26 _) Lends.row (by first | ((repeat (first | (with_reducible exact F0 _) | apply F1)); done) | (repeat (first | exact F0 _ | apply F1))) (fun G1 hleG1 hrb1 => ?_)
  replace hd := hd.mono hleG1
  replace hds := hds.mono hleG1
  replace hdk := hdk.mono hleG1
  replace hes := hes.mono hleG1
  refine Run.sr ?_
  refine RunL.as rfl rfl ?_
  refine RunL.nil ?_
  refine Run.seq ?_
  refine Run.sr ?_
  refine RunL.as rfl rfl ?_
  refine RunL.nil ?_
  refine Run.block ?_
  refine Run.keep (.cons rfl (.cons rfl (.cons rfl (.nil))) : Keep _ [1, 3, 4] _) ?_
  refine Run.loopF (F := F) (fun n e_ A => ∃ (i : Nat) (a3 : Option Addr) (c3 : Nat) (zs : ES), i ≤ ys.length ∧ Sd cmpPos (fun y : Evt × Sli => posOf l y.1) zs ∧ zs.Perm (ys.take i) ∧ n = ys.length - i ∧ e_ = [(1, .pointer (some ⟨b1, 0, none⟩)), (3, .slice a3 zs.length c3), (4, .int .i64 (i : Nat))] ∧ A = Sl 33 6 a3 (zs).length c3 ((zs).flatMap cES) :: F) (ys.length) (by exact ⟨0, none, 0, [], by omega, List.Pairwise.nil, by rw [List.take_zero], rfl, rfl, rfl⟩) (by repeat (first | (with_reducible exact Fin.done (by repeat (first | (with_reducible exact Rest.here) | apply Rest.there))) | (apply Fin.cons (by first | ((repeat (first | (with_reducible exact F0 _) | apply F1)); done) | (repeat (first | exact F0 _ | apply F1)))))) ?_
  rintro n _ _ ⟨i, a3, c3, zs, hi, hsd, hzp, rfl, rfl, hA_⟩ ih
  replace hA_ := hA_.symm; subst hA_
  refine Run.seq ?_
  refine Run.sr ?_
  refine RunL.mv rfl rfl ?_
  refine RunL.pure (Pure.fieldAddr rfl fo26_1) (Wt.none rfl) rfl rfl ?_
  first | refine RunL.load1 rfl (by first | ((repeat (first | (with_reducible exact F0 _) | apply F1)); done) | (repeat (first | exact F0 _ | apply F1))) (by rfl) agg24 (Wt.none rfl) rfl ?_ | refine RunL.load1R rfl (by assumption) (by rfl) agg24 (Wt.none rfl) rfl ?_
  refine RunL.pure (Pure.lenSl rfl rfl und24) (Wt.none rfl) rfl rfl ?_
  refine RunL.pure (Pure.lss rfl rfl) (Wt.none rfl) rfl rfl ?_
  refine RunL.nil ?_
  refine Run.cond rfl (fun h1 => ?_) (fun h1 => ?_)
  · try simp only [ZA, ZB, ZC, ZD, ZE, ZF, ZG, ZH, ZI, ZJ, ZK, ZL, ZM, ZN, ZO, ZP, ZQ, ZR] at h1
    obtain ⟨v, hv⟩ := get_some (xs := l) (i := i) (by omega)
    obtain ⟨s, hy⟩ := ES_get hyl hv
    obtain ⟨be, Te, pree, poste, hpe, hroe⟩ := hds.open1 (show 0 < ys.length by omega)
    have hne : ∀ z ∈ zs, posOf l z.1 ≠ posOf l v := fun z hz q => by
      have hz2 : z ∈ ys.take i := hzp.mem_iff.1 hz
      obtain ⟨j, hj⟩ := List.getElem?_of_mem hz2
      have hji : j < i := by
        rcases Nat.lt_or_ge j i with q2 | q2
        · exact q2
        · rw [List.getElem?_eq_none (by simp; omega)] at hj; cases hj
      rw [List.getElem?_take, if_pos hji] at hj
      have e1 : l[j]? = some z.1 := by rw [← hyl, List.getElem?_map, hj]; rfl
      have hid : z.1.id = v.id := congrArg Pos.id q
      exact nodup_ne hg.nodup hji (x := v.id) (by rw [List.getElem?_map, e1]; exact congrArg some hid) (by rw [List.getElem?_map, hv]; rfl)
    have hzl := hzp.length_eq
    rw [List.length_take] at hzl
    have ih1 := ih
    refine Run.skip ?_
    refine Run.seq ?_
    refine Run.block ?_
    refine Run.sr ?_
    refine RunL.as rfl rfl ?_
    refine RunL.nil ?_
    refine Run.seq ?_
    refine Run.cut (fun e_ A => ∃ (k : Nat), k ≤ zs.length ∧ (∀ j y, j < k → zs[j]? = some y → cmpPos (posOf l y.1) (posOf l v) < 0) ∧ (∀ y, zs[k]? = some y → cmpPos (posOf l v) (posOf l y.1) < 0) ∧ e_ = [(1, .pointer (some ⟨b1, 0, none⟩)), (3, .slice a3 zs.length c3), (4, .int .i64 (i : Nat)), (5, .int .i64 (k : Nat))] ∧ A = Sl 33 6 a3 (zs).length c3 ((zs).flatMap cES) :: F) (fun e A hM => ?_) (fun hk => ?_)
    · obtain ⟨k, hkz, hbel, habv, rfl, hA_⟩ := hM
      replace hA_ := hA_.symm; subst hA_
      refine Run.slLen2 (a := a3) (n := zs.length) (by first | ((repeat (first | (with_reducible exact F0 _) | apply F1)); done) | (repeat (first | exact F0 _ | apply F1))) ?_; rintro ⟨hsz1, hsz2⟩
      refine Run.sr ?_
      refine RunL.as rfl rfl ?_
      refine RunL.nil ?_
      refine Run.sr ?_
      refine RunL.mv rfl rfl ?_
      refine RunL.mv rfl rfl ?_
      refine RunL.mv rfl rfl ?_
      refine RunL.pure (Pure.sliceTo rfl rfl und24 sz33 (by first | omega | (simp; done) | (simp; omega)) (by first | omega | (simp; done) | (simp; omega))) (Wt.none rfl) rfl rfl ?_
      refine RunL.append0 (m := k) rfl rfl rfl rfl und24 und24 rfl sz33 zz33 rfl by33 (by first | omega | (simp; omega)) (by omega) (fun w sw => (sw.find (p := Sl 33 6 a3 (zs).length c3 ((zs).flatMap cES)) (by first | ((repeat (first | (with_reducible exact F0 _) | apply F1)); done) | (repeat (first | exact F0 _ | apply F1)))).srcTakeF k (fun _ _ => rfl) (by omega)) (Wt.none rfl) rfl ?_; intro a4 c4
      refine RunL.as rfl rfl ?_
      refine RunL.nil ?_
      refine Run.sr ?_
      refine RunL.mv rfl rfl ?_
      refine RunL.pure (Pure.fieldAddr rfl fo26_1) (Wt.none rfl) rfl rfl ?_
      first | refine RunL.load1 rfl (by first | ((repeat (first | (with_reducible exact F0 _) | apply F1)); done) | (repeat (first | exact F0 _ | apply F1))) (by rfl) agg24 (Wt.none rfl) rfl ?_ | refine RunL.load1R rfl (by assumption) (by rfl) agg24 (Wt.none rfl) rfl ?_
      refine RunL.mv rfl rfl ?_
      refine RunL.pure (Pure.indexAddr (opvSl rfl hpe) rfl und24 sz33 (by omega) (by omega)) (Wt.none rfl) rfl rfl ?_
      refine RunL.loadNR (vs := (cEvn ((((v, s) : Evt × Sli).1.evn ((v, s) : Evt × Sli).2)))) rfl hroe agg33 sz33 (elemN_len (pre := pree) (post := poste) (f := cES) (sz := 6) (j := 0) (n := 6) (fun _ _ => rfl) hy (by decide)) ((elemN_at (pre := pree) (post := poste) (f := cES) (sz := 6) (j := 0) (n := 6) (fun _ _ => rfl) hy (by decide)).trans rfl) (Wt.none rfl) rfl ?_
      refine RunL.lit (vals := [_]) (vs := ([((v, s) : Evt × Sli)] : ES).flatMap cES) und24 sz33 zz33 rfl rfl rfl rfl rfl rfl (by simp [Value.cells, bv, cDD, cEvn, cGG, cNde, cPos]) rfl (Wt.none rfl) rfl ?_; intro b49
      refine RunL.append (m := 1) (n' := (zs.take k ++ [((v, s) : Evt × Sli)]).length) (cs' := (zs.take k ++ [((v, s) : Evt × Sli)]).flatMap cES) rfl rfl (by first | ((repeat (first | (with_reducible exact F0 _) | apply F1)); done) | (repeat (first | exact F0 _ | apply F1))) rfl rfl und24 und24 rfl sz33 zz33 rfl by33 (by first | omega | (simp; omega)) (by first | omega | (simp; omega)) (fun w sw => sw.src) (isOne_flat (f := cES) (fun _ => rfl)) (by simp; omega) (by rw [List.flatMap_append]) (Wt.none rfl) rfl ?_; intro a5 c5
      refine RunL.as rfl rfl ?_
      refine RunL.nil ?_
      refine Run.region ?_
      refine RunL.mv rfl rfl ?_
      refine RunL.mv rfl rfl ?_
      refine RunL.mv rfl rfl ?_
      refine RunL.pure (Pure.sliceFrom rfl rfl und24 sz33 (by first | omega | (simp; done) | (simp; omega)) (by first | omega | (simp; done) | (simp; omega))) (Wt.none rfl) rfl rfl ?_
      refine RunL.append (m := (zs.length - k)) (n' := (zs.take k ++ ((v, s) : Evt × Sli) :: zs.drop k).length) (cs' := (zs.take k ++ ((v, s) : Evt × Sli) :: zs.drop k).flatMap cES) rfl rfl (by first | ((repeat (first | (with_reducible exact F0 _) | apply F1)); done) | (repeat (first | exact F0 _ | apply F1))) rfl rfl und24 und24 rfl sz33 zz33 rfl by33 (by first | omega | (simp; omega)) (by first | omega | (simp; omega)) (fun w sw => (sw.find (p := Sl 33 6 a3 (zs).length c3 ((zs).flatMap cES)) (by first | ((repeat (first | (with_reducible exact F0 _) | apply F1)); done) | (repeat (first | exact F0 _ | apply F1)))).srcFromF k (fun _ _ => rfl) (by omega)) (isOne_flat (f := cES) (fun _ => rfl)) (by simp; omega) (by rw [← flatMap_app, List.append_assoc]; rfl) (Wt.none rfl) rfl ?_; intro a6 c6
      refine RunL.as rfl rfl ?_
      refine RunL.nil ?_
      refine Run.inBlock ?_
      refine Run.region ?_
      refine RunL.mv rfl rfl ?_
      first | refine RunL.pure (Pure.addI rfl rfl (by omega)) (Wt.none rfl) rfl rfl ?_ | refine RunL.pure (Pure.add rfl rfl) (Wt.none rfl) rfl rfl ?_
      refine RunL.as rfl rfl ?_
      refine RunL.nil ?_
      have ih := ih1
      refine Run.keep (.cons rfl (.cons rfl (.cons rfl (.nil))) : Keep _ [1, 3, 4] _) ?_
      refine Run.againF (F := F) ih (by exact ⟨i + 1, a6, c6, (zs.take k ++ ((v, s) : Evt × Sli) :: zs.drop k), by omega, Sd.ins (f := fun y : Evt × Sli => posOf l y.1) cmpPos_law hsd hbel habv, (by rw [List.take_add_one, hy]; exact ins_perm.trans ((List.perm_append_singleton _ _).symm.trans (hzp.append_right _))), rfl, rfl, rfl⟩) (by repeat (first | (with_reducible exact Fin.done (by repeat (first | (with_reducible exact Rest.here) | apply Rest.there))) | (apply Fin.cons (by first | ((repeat (first | (with_reducible exact F0 _) | apply F1)); done) | (repeat (first | exact F0 _ | apply F1)))))) ?_
      omega
    · skip
      refine Run.block ?_
      refine Run.keep (.cons rfl (.cons rfl (.cons rfl (.cons rfl (.nil)))) : Keep _ [1, 3, 4, 5] _) ?_
      refine Run.loopF (F := F) (fun n e_ A => ∃ (k : Nat), k ≤ zs.length ∧ (∀ j y, j < k → zs[j]? = some y → cmpPos (posOf l y.1) (posOf l v) < 0) ∧ n = zs.length - k ∧ e_ = [(1, .pointer (some ⟨b1, 0, none⟩)), (3, .slice a3 zs.length c3), (4, .int .i64 (i : Nat)), (5, .int .i64 (k : Nat))] ∧ A = Sl 33 6 a3 (zs).length c3 ((zs).flatMap cES) :: F) (zs.length) (by exact ⟨0, by omega, (fun j y hj => absurd hj (Nat.not_lt_zero _)), rfl, rfl, rfl⟩) (by repeat (first | (with_reducible exact Fin.done (by repeat (first | (with_reducible exact Rest.here) | apply Rest.there))) | (apply Fin.cons (by first | ((repeat (first | (with_reducible exact F0 _) | apply F1)); done) | (repeat (first | exact F0 _ | apply F1)))))) ?_
      rintro n _ _ ⟨k, hkz, hbel, rfl, rfl, hA_⟩ ih
      replace hA_ := hA_.symm; subst hA_
      refine Run.lendB (Q := Sl 33 6 a3 (zs).length c3 ((zs).flatMap cES)) Lends.Sl (by first | ((repeat (first | (with_reducible exact F0 _) | apply F1)); done) | (repeat (first | exact F0 _ | apply F1))) (fun Ghz hleGhz hz backGhz => ?_)
      have hd_Ghz := hd.mono hleGhz
      have hds_Ghz := hds.mono hleGhz
      have hdk_Ghz := hdk.mono hleGhz
      have hes_Ghz := hes.mono hleGhz
      have hrb1_Ghz := hrb1.mono hleGhz
      have hroe_Ghz := hroe.mono hleGhz
      refine Run.seq ?_
      refine Run.seq ?_
      refine Run.regionD' (by kernel_rfl) (by kernel_rfl) (fun hok114 => ?_)
      refine RunD.pure (i := 0) hok114 rfl (by kernel_rfl) (Pure.move rfl) (Wt.none rfl) rfl rfl ?_
      refine RunD.pure (i := 1) hok114 rfl (by kernel_rfl) (Pure.move rfl) (Wt.none rfl) rfl rfl ?_
      refine RunD.pure (i := 2) hok114 rfl (by kernel_rfl) (Pure.lenSl rfl rfl und24) (Wt.none rfl) rfl rfl ?_
      refine RunD.pure (i := 3) hok114 rfl (by kernel_rfl) (Pure.lss rfl rfl) (Wt.none rfl) rfl rfl ?_
      refine RunD.pure (i := 4) hok114 rfl (by kernel_rfl) (Pure.move rfl) (Wt.none rfl) rfl rfl ?_
      refine RunD.split (d := 18) rfl (fun h2 => ?_) (fun h2 => ?_)
      · try simp only [ZA, ZB, ZC, ZD, ZE, ZF, ZG, ZH, ZI, ZJ, ZK, ZL, ZM, ZN, ZO, ZP, ZQ, ZR] at h2
        obtain ⟨z, hzk⟩ := get_some (xs := zs) (i := k) (by omega)
        obtain ⟨bz, Tz, prez, postz, hpz, hroz⟩ := hz.1.open1 (show 0 < zs.length by omega)
        refine RunD.loadNR (vs := (cDD D)) (i := 5) hok114 rfl (by kernel_rfl) rfl (by assumption) agg26 sz26 (by first | exact Nat.le_of_ble_eq_true rfl | (simp; done) | (simp; omega)) rfl (Wt.yes rfl rfl rfl) rfl ?_
        refine RunD.pure (i := 6) hok114 rfl (by kernel_rfl) (Pure.move rfl) (Wt.yes rfl rfl rfl) rfl rfl ?_
        refine RunD.pure (i := 7) hok114 rfl (by kernel_rfl) (Pure.move rfl) (Wt.yes rfl rfl rfl) rfl rfl ?_
        refine RunD.pure (i := 8) hok114 rfl (by kernel_rfl) (Pure.indexAddr (opvSl rfl hpz) rfl und24 sz33 (by omega) (by omega)) (Wt.yes rfl rfl rfl) rfl rfl ?_
        refine RunD.pure (i := 9) hok114 rfl (by kernel_rfl) (Pure.fieldAddr rfl fo33_0) (Wt.yes rfl rfl rfl) rfl rfl ?_
        refine RunD.load1R (i := 10) hok114 rfl (by kernel_rfl) rfl hroz ((elem_at (pre := prez) (post := postz) (f := cES) (sz := 6) (j := 0) (fun _ _ => rfl) hzk (by decide)).trans rfl) agg9 (Wt.yes rfl rfl rfl) rfl ?_
        refine RunD.loadNR (vs := (cDD D)) (i := 12) hok114 rfl (by kernel_rfl) rfl (by assumption) agg26 sz26 (by first | exact Nat.le_of_ble_eq_true rfl | (simp; done) | (simp; omega)) rfl (Wt.yes rfl rfl rfl) rfl ?_
        refine RunD.pure (i := 13) hok114 rfl (by kernel_rfl) (Pure.fieldAddr rfl fo26_1) (Wt.yes rfl rfl rfl) rfl rfl ?_
        refine RunD.load1R (i := 14) hok114 rfl (by kernel_rfl) rfl (by assumption) (by rfl) agg24 (Wt.yes rfl rfl rfl) rfl ?_
        refine RunD.pure (i := 15) hok114 rfl (by kernel_rfl) (Pure.move rfl) (Wt.yes rfl rfl rfl) rfl rfl ?_
        refine RunD.pure (i := 16) hok114 rfl (by kernel_rfl) (Pure.indexAddr (opvSl rfl hpe) rfl und24 sz33 (by omega) (by omega)) (Wt.yes rfl rfl rfl) rfl rfl ?_
        refine RunD.pure (i := 17) hok114 rfl (by kernel_rfl) (Pure.fieldAddr rfl fo33_0) (Wt.yes rfl rfl rfl) rfl rfl ?_
        refine RunD.load1R (i := 18) hok114 rfl (by kernel_rfl) rfl hroe_Ghz ((elem_at (pre := pree) (post := poste) (f := cES) (sz := 6) (j := 0) (fun _ _ => rfl) hy (by decide)).trans rfl) agg9 (Wt.yes rfl rfl rfl) rfl ?_
        refine RunD.one (i := 11) (by kernel_rfl) rfl ?_
        refine RunL.call rfl rfl (by rfl) (by repeat (first | (with_reducible exact Take.nil _) | (apply Take.cons (by first | ((repeat (first | (with_reducible exact F0 _) | apply F1)); done) | (repeat (first | exact F0 _ | apply F1)))))) (rdPosition_ctr (x := z.1.id) hd_Ghz hb hg) (Wt.yes rfl rfl rfl) rfl ?_
        rintro _ _ ⟨rfl, hA_⟩
        replace hA_ := hA_.symm; subst hA_
        refine RunL.nilD' ?_
        refine RunD.one (i := 19) (by kernel_rfl) rfl ?_
        refine RunL.call rfl rfl (by rfl) (by repeat (first | (with_reducible exact Take.nil _) | (apply Take.cons (by first | ((repeat (first | (with_reducible exact F0 _) | apply F1)); done) | (repeat (first | exact F0 _ | apply F1)))))) (rdPosition_ctr (x := v.id) hd_Ghz hb hg) (Wt.yes rfl rfl rfl) rfl ?_
        rintro _ _ ⟨rfl, hA_⟩
        replace hA_ := hA_.symm; subst hA_
        refine RunL.nilD' ?_
        refine RunD.one (i := 20) (by kernel_rfl) rfl ?_
        refine RunL.call rfl rfl (by rfl) (by repeat (first | (with_reducible exact Take.nil _) | (apply Take.cons (by first | ((repeat (first | (with_reducible exact F0 _) | apply F1)); done) | (repeat (first | exact F0 _ | apply F1)))))) (beforePos_ctr) (Wt.yes rfl rfl rfl) rfl ?_
        rintro _ _ ⟨rfl, hA_⟩
        replace hA_ := hA_.symm; subst hA_
        refine RunL.nilD' ?_
        refine RunD.pure (i := 21) hok114 rfl (by kernel_rfl) (Pure.pickT rfl rfl) (Wt.none rfl) rfl rfl ?_
        refine RunD.nilR (by kernel_rfl) ?_
        refine Run.cond rfl (fun h3 => ?_) (fun h3 => ?_)
        · try simp only [ZA, ZB, ZC, ZD, ZE, ZF, ZG, ZH, ZI, ZJ, ZK, ZL, ZM, ZN, ZO, ZP, ZQ, ZR] at h3
          refine Run.backB backGhz ?_
          have h3' : cmpPos (posOf l z.1) (posOf l v) < 0 := beforePos_cmp.1 h3
          have hbel' := lt_succ_of2 hbel hzk h3'
          refine Run.skip ?_
          refine Run.block ?_
          refine Run.region ?_
          refine RunL.mv rfl rfl ?_
          first | refine RunL.pure (Pure.addI rfl rfl (by omega)) (Wt.none rfl) rfl rfl ?_ | refine RunL.pure (Pure.add rfl rfl) (Wt.none rfl) rfl rfl ?_
          refine RunL.as rfl rfl ?_
          refine RunL.nil ?_
          refine Run.inBlock ?_
          refine Run.keep (.cons rfl (.cons rfl (.cons rfl (.cons rfl (.nil)))) : Keep _ [1, 3, 4, 5] _) ?_
          refine Run.againF (F := F) ih (by exact ⟨k + 1, by omega, hbel', rfl, rfl, rfl⟩) (by repeat (first | (with_reducible exact Fin.done (by repeat (first | (with_reducible exact Rest.here) | apply Rest.there))) | (apply Fin.cons (by first | ((repeat (first | (with_reducible exact F0 _) | apply F1)); done) | (repeat (first | exact F0 _ | apply F1)))))) ?_
          omega
        · try simp only [ZA, ZB, ZC, ZD, ZE, ZF, ZG, ZH, ZI, ZJ, ZK, ZL, ZM, ZN, ZO, ZP, ZQ, ZR] at h3
          refine Run.backB backGhz ?_
          refine Run.exit rfl ?_
          refine Run.keep (.cons rfl (.cons rfl (.cons rfl (.cons rfl (.nil)))) : Keep _ [1, 3, 4, 5] _) ?_
          exact Run.meetF (F := F) hk (by exact ⟨k, hkz, hbel, (fun y hyk => by rw [hzk] at hyk; cases hyk; exact cmpPos_law.lt_of (a := posOf l z.1) (fun q => by have q2 := (beforePos_cmp.2 q).symm.trans (show beforePos (posOf l z.1) (posOf l v) = false from h3); cases q2) (hne z (List.mem_of_getElem? hzk))), rfl, rfl⟩) (by repeat (first | (with_reducible exact Fin.done (by repeat (first | (with_reducible exact Rest.here) | apply Rest.there))) | (apply Fin.cons (by first | ((repeat (first | (with_reducible exact F0 _) | apply F1)); done) | (repeat (first | exact F0 _ | apply F1))))))
      · try simp only [ZA, ZB, ZC, ZD, ZE, ZF, ZG, ZH, ZI, ZJ, ZK, ZL, ZM, ZN, ZO, ZP, ZQ, ZR] at h2
        refine RunD.not (i := 5) hok114 rfl (by kernel_rfl) rfl rfl (Wt.no rfl rfl rfl) ?_
        refine RunD.not (i := 6) hok114 rfl (by kernel_rfl) rfl rfl (Wt.no rfl rfl rfl) ?_
        refine RunD.not (i := 7) hok114 rfl (by kernel_rfl) rfl rfl (Wt.no rfl rfl rfl) ?_
        refine RunD.not (i := 8) hok114 rfl (by kernel_rfl) rfl rfl (Wt.no rfl rfl rfl) ?_
        refine RunD.not (i := 9) hok114 rfl (by kernel_rfl) rfl rfl (Wt.no rfl rfl rfl) ?_
        refine RunD.not (i := 10) hok114 rfl (by kernel_rfl) rfl rfl (Wt.no rfl rfl rfl) ?_
        refine RunD.not (i := 11) hok114 rfl (by kernel_rfl) rfl rfl (Wt.no rfl rfl rfl) ?_
        refine RunD.not (i := 12) hok114 rfl (by kernel_rfl) rfl rfl (Wt.no rfl rfl rfl) ?_
        refine RunD.not (i := 13) hok114 rfl (by kernel_rfl) rfl rfl (Wt.no rfl rfl rfl) ?_
        refine RunD.not (i := 14) hok114 rfl (by kernel_rfl) rfl rfl (Wt.no rfl rfl rfl) ?_
        refine RunD.not (i := 15) hok114 rfl (by kernel_rfl) rfl rfl (Wt.no rfl rfl rfl) ?_
        refine RunD.not (i := 16) hok114 rfl (by kernel_rfl) rfl rfl (Wt.no rfl rfl rfl) ?_
        refine RunD.not (i := 17) hok114 rfl (by kernel_rfl) rfl rfl (Wt.no rfl rfl rfl) ?_
        refine RunD.not (i := 18) hok114 rfl (by kernel_rfl) rfl rfl (Wt.no rfl rfl rfl) ?_
        refine RunD.not (i := 19) hok114 rfl (by kernel_rfl) rfl rfl (Wt.no rfl rfl rfl) ?_
        refine RunD.not (i := 20) hok114 rfl (by kernel_rfl) rfl rfl (Wt.no rfl rfl rfl) ?_
        refine RunD.pure (i := 21) hok114 rfl (by kernel_rfl) (Pure.pickF rfl rfl) (Wt.none rfl) rfl rfl ?_
        refine RunD.nilR (by kernel_rfl) ?_
        refine Run.backB backGhz ?_
        refine Run.condF rfl ?_
        refine Run.exit rfl ?_
        refine Run.keep (.cons rfl (.cons rfl (.cons rfl (.cons rfl (.nil)))) : Keep _ [1, 3, 4, 5] _) ?_
        exact Run.meetF (F := F) hk (by exact ⟨k, hkz, hbel, (fun y hyk => by rw [List.getElem?_eq_none (by omega)] at hyk; cases hyk), rfl, rfl⟩) (by repeat (first | (with_reducible exact Fin.done (by repeat (first | (with_reducible exact Rest.here) | apply Rest.there))) | (apply Fin.cons (by first | ((repeat (first | (with_reducible exact F0 _) | apply F1)); done) | (repeat (first | exact F0 _ | apply F1))))))
  · try simp only [ZA, ZB, ZC, ZD, ZE, ZF, ZG, ZH, ZI, ZJ, ZK, ZL, ZM, ZN, ZO, ZP, ZQ, ZR] at h1
    refine Run.exit rfl ?_
    refine Run.sr ?_
    refine RunL.mv rfl rfl ?_
    refine RunL.as rfl rfl ?_
    refine RunL.nil ?_
    exact Run.ret Tryz.func40 (res1 rfl rfl) (by exact ⟨_, _, zs, ES_sorted hyl hg.nodup hsd (by rwa [List.take_of_length_le (by omega)] at hzp), by rwa [List.take_of_length_le (by omega)] at hzp, rfl, rfl⟩) (by repeat (first | (with_reducible exact Fin.done (by repeat (first | (with_reducible exact Rest.here) | apply Rest.there))) | (apply Fin.cons (by first | ((repeat (first | (with_reducible exact F0 _) | apply F1)); done) | (repeat (first | exact F0 _ | apply F1))))))

end Go.Proofs.YtcmkafellcfbeaaGreat
