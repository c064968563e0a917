/- The reference: lists. -/
import Derived.Test.YtcmkafellcfbeaaGreatZ2
set_option linter.unusedVariables false
set_option linter.unusedSimpArgs false
set_option linter.unusedSectionVars false
namespace Go.Proofs.YtcmkafellcfbeaaGreat
open Go Csl


set_option maxHeartbeats 4000000 in
set_option maxRecDepth 100000 in
theorem rdWhich_ctr {G : Gp} {D : DD} {room : ByteArray} {l : EL} (hd : HasD G D room l) (hg : Csl.Good room l) (hb : l.length ≤ 1000) {how : Int} {a b : ByteArray} :
    Ctr Tryz.prog G 22 [.agg (cDD D).toArray, .int .i64 how, .string a, .string b] [] (fun F v A => ∃ a4 c4, v = .slice a4 (whichL l (whichM l how a b)).length c4 ∧ A = Sl 9 1 a4 (whichL l (whichM l how a b)).length c4 ((whichL l (whichM l how a b)).map Value.string) :: F) := by
  refine Ctr.intro Tryz.func22 rfl (by kernel_rfl) rfl (fun F => ?_)
  simp only [List.nil_append]
  obtain ⟨hroom, ys, hyl, hdn, hds, hdc, hdk⟩ := id hd
  have hyn := ES_len hyl
  have hes : HasES G D.l ys := ⟨hdn, hds, hdc, hdk⟩
  refine Run.sr ?_
  refine RunL.boxA (xs := (cDD D)) rfl (Wt.none rfl) rfl ?_; intro b4
  refine RunL.as rfl rfl ?_
  refine RunL.nil ?_
  refine Run.lendAll (Q := row b4 26 _) Lends.row (by first | ((repeat (first | (with_reducible exact F0 _) | apply F1)); done) | (repeat (first | exact F0 _ | apply F1))) (fun G4 hleG4 hrb4 => ?_)
  replace hd := hd.mono hleG4
  replace hds := hds.mono hleG4
  replace hdk := hdk.mono hleG4
  replace hes := hes.mono hleG4
  refine Run.sr ?_
  first | refine RunL.loadA (vs := (cDD D)) rfl (by first | ((repeat (first | (with_reducible exact F0 _) | apply F1)); done) | (repeat (first | exact F0 _ | apply F1))) agg26 sz26 (by first | exact Nat.le_of_ble_eq_true rfl | (simp; done) | (simp; omega)) rfl (Wt.none rfl) rfl ?_ | refine RunL.loadNR (vs := (cDD D)) rfl (by assumption) agg26 sz26 (by first | exact Nat.le_of_ble_eq_true rfl | (simp; done) | (simp; omega)) rfl (Wt.none rfl) rfl ?_
  refine RunL.call rfl rfl (by rfl) (by repeat (first | (with_reducible exact Take.nil _) | (apply Take.cons (by first | ((repeat (first | (with_reducible exact F0 _) | apply F1)); done) | (repeat (first | exact F0 _ | apply F1)))))) (rdAll_ctr hroom hyl hes hb hg) (Wt.none rfl) rfl ?_
  rintro _ _ ⟨az, cz, zs, hza, hzk, rfl, hA_⟩
  replace hA_ := hA_.symm; subst hA_
  refine RunL.as rfl rfl ?_
  refine RunL.nil ?_
  refine Run.lendAll (Q := Sl 33 6 az zs.length cz (zs.flatMap cES)) Lends.Sl (by first | ((repeat (first | (with_reducible exact F0 _) | apply F1)); done) | (repeat (first | exact F0 _ | apply F1))) (fun Ghz hleGhz hz => ?_)
  replace hd := hd.mono hleGhz
  replace hds := hds.mono hleGhz
  replace hdk := hdk.mono hleGhz
  replace hes := hes.mono hleGhz
  replace hrb4 := hrb4.mono hleGhz
  obtain ⟨hz, hzc⟩ := hz
  have hzl : zs.length = (allOf l).length := by rw [← hza, List.length_map]
  have hal := allOf_len l
  refine Run.sr ?_
  refine RunL.as rfl rfl ?_
  refine RunL.nil ?_
  refine Run.nilSl 9 1 ?_
  refine Run.seq ?_
  refine Run.sr ?_
  refine RunL.as rfl rfl ?_
  refine RunL.nil ?_
  refine Run.block ?_
  refine Run.keep (.cons rfl (.cons rfl (.cons rfl (.cons rfl (.cons rfl (.cons rfl (.cons rfl (.nil))))))) : Keep _ [1, 2, 3, 4, 9, 10, 11] _) ?_
  refine Run.loopF (F := F) (fun n e_ A => ∃ (i : Nat) (a4 : Option Addr) (c4 : Nat) (k : List ByteArray), i ≤ zs.length ∧ k = (((allOf l).take i).map (·.id)).filter (whichM l how a b) ∧ n = zs.length - i ∧ e_ = [(1, .int .i64 how), (2, .string a), (3, .string b), (4, .pointer (some ⟨b4, 0, none⟩)), (9, .slice az zs.length cz), (10, .slice a4 k.length c4), (11, .int .i64 (i : Nat))] ∧ A = Sl 9 1 a4 k.length c4 (k.map Value.string) :: F) (zs.length) (by exact ⟨0, none, 0, [], by omega, rfl, rfl, rfl, rfl⟩) (by repeat (first | (with_reducible exact Fin.done (by repeat (first | (with_reducible exact Rest.here) | apply Rest.there))) | (apply Fin.cons (by first | ((repeat (first | (with_reducible exact F0 _) | apply F1)); done) | (repeat (first | exact F0 _ | apply F1)))))) ?_
  rintro n _ _ ⟨i, a4, c4, k, hi, hk, rfl, rfl, hA_⟩ ih
  replace hA_ := hA_.symm; subst hA_
  refine Run.seq ?_
  refine Run.sr ?_
  refine RunL.mv rfl rfl ?_
  refine RunL.mv rfl rfl ?_
  refine RunL.pure (Pure.lenSl rfl rfl und24) (Wt.none rfl) rfl rfl ?_
  refine RunL.pure (Pure.lss rfl rfl) (Wt.none rfl) rfl rfl ?_
  refine RunL.nil ?_
  refine Run.cond rfl (fun g8 => ?_) (fun g8 => ?_)
  · try simp only [ZA, ZB, ZC, ZD, ZE, ZF, ZG, ZH, ZI, ZJ, ZK, ZL, ZM, ZN, ZO, ZP, ZQ, ZR] at g8
    obtain ⟨z, hzi⟩ := get_some (xs := zs) (i := i) (by omega)
    obtain ⟨bz, Tz, prez, postz, hpz, hroz⟩ := hz.open1 (show 0 < zs.length by omega)
    have hzv : (allOf l)[i]? = some z.1 := by rw [← hza, List.getElem?_map, hzi]; rfl
    have hkl : k.length ≤ i := by
      rw [hk]; have := List.length_filter_le (whichM l how a b) (((allOf l).take i).map (·.id)); rw [List.length_map, List.length_take] at this; omega
    refine Run.skip ?_
    refine Run.seq ?_
    refine Run.block ?_
    refine Run.sr ?_
    refine RunL.mv rfl rfl ?_
    refine RunL.mv rfl rfl ?_
    refine RunL.pure (Pure.indexAddr (opvSl rfl hpz) rfl und24 sz33 (by omega) (by omega)) (Wt.none rfl) rfl rfl ?_
    refine RunL.pure (Pure.fieldAddr rfl fo33_0) (Wt.none rfl) rfl rfl ?_
    refine RunL.load1R rfl hroz ((elem_at (pre := prez) (post := postz) (f := cES) (sz := 6) (j := 0) (fun _ _ => rfl) hzi (by decide)).trans rfl) agg9 (Wt.none rfl) rfl ?_
    refine RunL.as rfl rfl ?_
    refine RunL.nil ?_
    refine Run.sr ?_
    refine RunL.as rfl rfl ?_
    refine RunL.nil ?_
    refine Run.seq ?_
    refine Run.sr ?_
    refine RunL.mv rfl rfl ?_
    refine RunL.nil ?_
    refine Run.block ?_
    refine Run.sr ?_
    refine RunL.pure (Pure.eql rfl rfl) (Wt.none rfl) rfl rfl ?_
    refine RunL.as rfl rfl ?_
    refine RunL.nil ?_
    refine Run.cond rfl (fun g1 => ?_) (fun g1 => ?_)
    · try simp only [ZA, ZB, ZC, ZD, ZE, ZF, ZG, ZH, ZI, ZJ, ZK, ZL, ZM, ZN, ZO, ZP, ZQ, ZR] at g1
      refine Run.region ?_
      first | refine RunL.loadA (vs := (cDD D)) rfl (by first | ((repeat (first | (with_reducible exact F0 _) | apply F1)); done) | (repeat (first | exact F0 _ | apply F1))) agg26 sz26 (by first | exact Nat.le_of_ble_eq_true rfl | (simp; done) | (simp; omega)) rfl (Wt.none rfl) rfl ?_ | refine RunL.loadNR (vs := (cDD D)) rfl (by assumption) agg26 sz26 (by first | exact Nat.le_of_ble_eq_true rfl | (simp; done) | (simp; omega)) rfl (Wt.none rfl) rfl ?_
      refine RunL.mv rfl rfl ?_
      refine RunL.mv rfl rfl ?_
      refine RunL.call rfl rfl (by rfl) (by repeat (first | (with_reducible exact Take.nil _) | (apply Take.cons (by first | ((repeat (first | (with_reducible exact F0 _) | apply F1)); done) | (repeat (first | exact F0 _ | apply F1)))))) (rdAhead_ctr hd hg hb) (Wt.none rfl) rfl ?_
      rintro _ _ ⟨rfl, hA_⟩
      replace hA_ := hA_.symm; subst hA_
      refine RunL.as rfl rfl ?_
      refine RunL.nil ?_
      refine Run.inBlock ?_
      refine Run.sr ?_
      refine RunL.mv rfl rfl ?_
      refine RunL.nil ?_
      refine Run.cond rfl (fun g9 => ?_) (fun g9 => ?_)
      · try simp only [ZA, ZB, ZC, ZD, ZE, ZF, ZG, ZH, ZI, ZJ, ZK, ZL, ZM, ZN, ZO, ZP, ZQ, ZR] at g9
        refine Run.region ?_
        refine RunL.mv rfl rfl ?_
        refine RunL.mv rfl rfl ?_
        refine RunL.lit (vals := [_]) (vs := [_]) und31 sz9 zz9 rfl rfl rfl rfl rfl rfl (by simp [Value.cells, bv, cDD, cEvn, cGG, cNde, cPos]) rfl (Wt.none rfl) rfl ?_; intro b57
        refine RunL.append (m := 1) (n' := (k ++ [z.1.id]).length) (cs' := (k ++ [z.1.id]).map Value.string) rfl rfl (by first | ((repeat (first | (with_reducible exact F0 _) | apply F1)); done) | (repeat (first | exact F0 _ | apply F1))) rfl rfl und31 und31 rfl sz9 zz9 rfl by9 (by omega) (by first | omega | (simp; omega)) (fun w sw => sw.src) (by simp [Value.isOne]) (by simp) (by first | (simp; done) | (simp; rfl)) (Wt.none rfl) rfl ?_; intro a5 c5
        refine RunL.as rfl rfl ?_
        refine RunL.nil ?_
        refine Run.inBlock ?_
        refine Run.region ?_
        refine RunL.mv rfl rfl ?_
        first | refine RunL.pure (Pure.addI rfl rfl (by omega)) (Wt.none rfl) rfl rfl ?_ | refine RunL.pure (Pure.add rfl rfl) (Wt.none rfl) rfl rfl ?_
        refine RunL.as rfl rfl ?_
        refine RunL.nil ?_
        refine Run.keep (.cons rfl (.cons rfl (.cons rfl (.cons rfl (.cons rfl (.cons rfl (.cons rfl (.nil))))))) : Keep _ [1, 2, 3, 4, 9, 10, 11] _) ?_
        refine Run.againF (F := F) ih (by exact ⟨i + 1, a5, c5, k ++ [z.1.id], by omega, which_yes hk hzv (show whichM l how a b z.1.id = true by
      unfold whichM; rw [if_pos g1]; exact g9), rfl, rfl, rfl⟩) (by repeat (first | (with_reducible exact Fin.done (by repeat (first | (with_reducible exact Rest.here) | apply Rest.there))) | (apply Fin.cons (by first | ((repeat (first | (with_reducible exact F0 _) | apply F1)); done) | (repeat (first | exact F0 _ | apply F1)))))) ?_
        omega
      · try simp only [ZA, ZB, ZC, ZD, ZE, ZF, ZG, ZH, ZI, ZJ, ZK, ZL, ZM, ZN, ZO, ZP, ZQ, ZR] at g9
        refine Run.skip ?_
        refine Run.inBlock ?_
        refine Run.region ?_
        refine RunL.mv rfl rfl ?_
        first | refine RunL.pure (Pure.addI rfl rfl (by omega)) (Wt.none rfl) rfl rfl ?_ | refine RunL.pure (Pure.add rfl rfl) (Wt.none rfl) rfl rfl ?_
        refine RunL.as rfl rfl ?_
        refine RunL.nil ?_
        refine Run.keep (.cons rfl (.cons rfl (.cons rfl (.cons rfl (.cons rfl (.cons rfl (.cons rfl (.nil))))))) : Keep _ [1, 2, 3, 4, 9, 10, 11] _) ?_
        refine Run.againF (F := F) ih (by exact ⟨i + 1, a4, c4, k, by omega, which_no hk hzv (show whichM l how a b z.1.id = false by
      unfold whichM; rw [if_pos g1]; exact g9), rfl, rfl, rfl⟩) (by repeat (first | (with_reducible exact Fin.done (by repeat (first | (with_reducible exact Rest.here) | apply Rest.there))) | (apply Fin.cons (by first | ((repeat (first | (with_reducible exact F0 _) | apply F1)); done) | (repeat (first | exact F0 _ | apply F1)))))) ?_
        omega
    · try simp only [ZA, ZB, ZC, ZD, ZE, ZF, ZG, ZH, ZI, ZJ, ZK, ZL, ZM, ZN, ZO, ZP, ZQ, ZR] at g1
      refine Run.sr ?_
      refine RunL.pure (Pure.eql rfl rfl) (Wt.none rfl) rfl rfl ?_
      refine RunL.as rfl rfl ?_
      refine RunL.nil ?_
      refine Run.cond rfl (fun g2 => ?_) (fun g2 => ?_)
      · try simp only [ZA, ZB, ZC, ZD, ZE, ZF, ZG, ZH, ZI, ZJ, ZK, ZL, ZM, ZN, ZO, ZP, ZQ, ZR] at g2
        refine Run.region ?_
        first | refine RunL.loadA (vs := (cDD D)) rfl (by first | ((repeat (first | (with_reducible exact F0 _) | apply F1)); done) | (repeat (first | exact F0 _ | apply F1))) agg26 sz26 (by first | exact Nat.le_of_ble_eq_true rfl | (simp; done) | (simp; omega)) rfl (Wt.none rfl) rfl ?_ | refine RunL.loadNR (vs := (cDD D)) rfl (by assumption) agg26 sz26 (by first | exact Nat.le_of_ble_eq_true rfl | (simp; done) | (simp; omega)) rfl (Wt.none rfl) rfl ?_
        refine RunL.mv rfl rfl ?_
        refine RunL.mv rfl rfl ?_
        refine RunL.call rfl rfl (by rfl) (by repeat (first | (with_reducible exact Take.nil _) | (apply Take.cons (by first | ((repeat (first | (with_reducible exact F0 _) | apply F1)); done) | (repeat (first | exact F0 _ | apply F1)))))) (rdAhead_ctr hd hg hb) (Wt.none rfl) rfl ?_
        rintro _ _ ⟨rfl, hA_⟩
        replace hA_ := hA_.symm; subst hA_
        refine RunL.as rfl rfl ?_
        refine RunL.nil ?_
        refine Run.inBlock ?_
        refine Run.sr ?_
        refine RunL.mv rfl rfl ?_
        refine RunL.nil ?_
        refine Run.cond rfl (fun g9 => ?_) (fun g9 => ?_)
        · try simp only [ZA, ZB, ZC, ZD, ZE, ZF, ZG, ZH, ZI, ZJ, ZK, ZL, ZM, ZN, ZO, ZP, ZQ, ZR] at g9
          refine Run.region ?_
          refine RunL.mv rfl rfl ?_
          refine RunL.mv rfl rfl ?_
          refine RunL.lit (vals := [_]) (vs := [_]) und31 sz9 zz9 rfl rfl rfl rfl rfl rfl (by simp [Value.cells, bv, cDD, cEvn, cGG, cNde, cPos]) rfl (Wt.none rfl) rfl ?_; intro b57
          refine RunL.append (m := 1) (n' := (k ++ [z.1.id]).length) (cs' := (k ++ [z.1.id]).map Value.string) rfl rfl (by first | ((repeat (first | (with_reducible exact F0 _) | apply F1)); done) | (repeat (first | exact F0 _ | apply F1))) rfl rfl und31 und31 rfl sz9 zz9 rfl by9 (by omega) (by first | omega | (simp; omega)) (fun w sw => sw.src) (by simp [Value.isOne]) (by simp) (by first | (simp; done) | (simp; rfl)) (Wt.none rfl) rfl ?_; intro a5 c5
          refine RunL.as rfl rfl ?_
          refine RunL.nil ?_
          refine Run.inBlock ?_
          refine Run.region ?_
          refine RunL.mv rfl rfl ?_
          first | refine RunL.pure (Pure.addI rfl rfl (by omega)) (Wt.none rfl) rfl rfl ?_ | refine RunL.pure (Pure.add rfl rfl) (Wt.none rfl) rfl rfl ?_
          refine RunL.as rfl rfl ?_
          refine RunL.nil ?_
          refine Run.keep (.cons rfl (.cons rfl (.cons rfl (.cons rfl (.cons rfl (.cons rfl (.cons rfl (.nil))))))) : Keep _ [1, 2, 3, 4, 9, 10, 11] _) ?_
          refine Run.againF (F := F) ih (by exact ⟨i + 1, a5, c5, k ++ [z.1.id], by omega, which_yes hk hzv (show whichM l how a b z.1.id = true by
      unfold whichM; rw [if_neg g1, if_pos g2]; exact g9), rfl, rfl, rfl⟩) (by repeat (first | (with_reducible exact Fin.done (by repeat (first | (with_reducible exact Rest.here) | apply Rest.there))) | (apply Fin.cons (by first | ((repeat (first | (with_reducible exact F0 _) | apply F1)); done) | (repeat (first | exact F0 _ | apply F1)))))) ?_
          omega
        · try simp only [ZA, ZB, ZC, ZD, ZE, ZF, ZG, ZH, ZI, ZJ, ZK, ZL, ZM, ZN, ZO, ZP, ZQ, ZR] at g9
          refine Run.skip ?_
          refine Run.inBlock ?_
          refine Run.region ?_
          refine RunL.mv rfl rfl ?_
          first | refine RunL.pure (Pure.addI rfl rfl (by omega)) (Wt.none rfl) rfl rfl ?_ | refine RunL.pure (Pure.add rfl rfl) (Wt.none rfl) rfl rfl ?_
          refine RunL.as rfl rfl ?_
          refine RunL.nil ?_
          refine Run.keep (.cons rfl (.cons rfl (.cons rfl (.cons rfl (.cons rfl (.cons rfl (.cons rfl (.nil))))))) : Keep _ [1, 2, 3, 4, 9, 10, 11] _) ?_
          refine Run.againF (F := F) ih (by exact ⟨i + 1, a4, c4, k, by omega, which_no hk hzv (show whichM l how a b z.1.id = false by
      unfold whichM; rw [if_neg g1, if_pos g2]; exact g9), rfl, rfl, rfl⟩) (by repeat (first | (with_reducible exact Fin.done (by repeat (first | (with_reducible exact Rest.here) | apply Rest.there))) | (apply Fin.cons (by first | ((repeat (first | (with_reducible exact F0 _) | apply F1)); done) | (repeat (first | exact F0 _ | apply F1)))))) ?_
          omega
      · try simp only [ZA, ZB, ZC, ZD, ZE, ZF, ZG, ZH, ZI, ZJ, ZK, ZL, ZM, ZN, ZO, ZP, ZQ, ZR] at g2
        refine Run.sr ?_
        first | refine RunL.loadA (vs := (cDD D)) rfl (by first | ((repeat (first | (with_reducible exact F0 _) | apply F1)); done) | (repeat (first | exact F0 _ | apply F1))) agg26 sz26 (by first | exact Nat.le_of_ble_eq_true rfl | (simp; done) | (simp; omega)) rfl (Wt.none rfl) rfl ?_ | refine RunL.loadNR (vs := (cDD D)) rfl (by assumption) agg26 sz26 (by first | exact Nat.le_of_ble_eq_true rfl | (simp; done) | (simp; omega)) rfl (Wt.none rfl) rfl ?_
        refine RunL.mv rfl rfl ?_
        refine RunL.mv rfl rfl ?_
        refine RunL.call rfl rfl (by rfl) (by repeat (first | (with_reducible exact Take.nil _) | (apply Take.cons (by first | ((repeat (first | (with_reducible exact F0 _) | apply F1)); done) | (repeat (first | exact F0 _ | apply F1)))))) (rdAhead_ctr hd hg hb) (Wt.none rfl) rfl ?_
        rintro _ _ ⟨rfl, hA_⟩
        replace hA_ := hA_.symm; subst hA_
        refine RunL.as rfl rfl ?_
        refine RunL.nil ?_
        refine Run.sr ?_
        first | refine RunL.loadA (vs := (cDD D)) rfl (by first | ((repeat (first | (with_reducible exact F0 _) | apply F1)); done) | (repeat (first | exact F0 _ | apply F1))) agg26 sz26 (by first | exact Nat.le_of_ble_eq_true rfl | (simp; done) | (simp; omega)) rfl (Wt.none rfl) rfl ?_ | refine RunL.loadNR (vs := (cDD D)) rfl (by assumption) agg26 sz26 (by first | exact Nat.le_of_ble_eq_true rfl | (simp; done) | (simp; omega)) rfl (Wt.none rfl) rfl ?_
        refine RunL.mv rfl rfl ?_
        refine RunL.mv rfl rfl ?_
        refine RunL.call rfl rfl (by rfl) (by repeat (first | (with_reducible exact Take.nil _) | (apply Take.cons (by first | ((repeat (first | (with_reducible exact F0 _) | apply F1)); done) | (repeat (first | exact F0 _ | apply F1)))))) (rdAhead_ctr hd hg hb) (Wt.none rfl) rfl ?_
        rintro _ _ ⟨rfl, hA_⟩
        replace hA_ := hA_.symm; subst hA_
        refine RunL.as rfl rfl ?_
        refine RunL.nil ?_
        refine Run.region ?_
        refine RunL.mv rfl rfl ?_
        refine RunL.mv rfl rfl ?_
        refine RunL.split (d := 39) rfl (fun g3 => ?_) (fun g3 => ?_)
        · try simp only [ZA, ZB, ZC, ZD, ZE, ZF, ZG, ZH, ZI, ZJ, ZK, ZL, ZM, ZN, ZO, ZP, ZQ, ZR] at g3
          refine RunL.pure (Pure.move rfl) (Wt.yes rfl rfl rfl) rfl rfl ?_
          refine RunL.pure (Pure.pickT rfl rfl) (Wt.none rfl) rfl rfl ?_
          refine RunL.as rfl rfl ?_
          refine RunL.nil ?_
          refine Run.inBlock ?_
          refine Run.sr ?_
          refine RunL.mv rfl rfl ?_
          refine RunL.nil ?_
          refine Run.cond rfl (fun g9 => ?_) (fun g9 => ?_)
          · try simp only [ZA, ZB, ZC, ZD, ZE, ZF, ZG, ZH, ZI, ZJ, ZK, ZL, ZM, ZN, ZO, ZP, ZQ, ZR] at g9
            refine Run.region ?_
            refine RunL.mv rfl rfl ?_
            refine RunL.mv rfl rfl ?_
            refine RunL.lit (vals := [_]) (vs := [_]) und31 sz9 zz9 rfl rfl rfl rfl rfl rfl (by simp [Value.cells, bv, cDD, cEvn, cGG, cNde, cPos]) rfl (Wt.none rfl) rfl ?_; intro b57
            refine RunL.append (m := 1) (n' := (k ++ [z.1.id]).length) (cs' := (k ++ [z.1.id]).map Value.string) rfl rfl (by first | ((repeat (first | (with_reducible exact F0 _) | apply F1)); done) | (repeat (first | exact F0 _ | apply F1))) rfl rfl und31 und31 rfl sz9 zz9 rfl by9 (by omega) (by first | omega | (simp; omega)) (fun w sw => sw.src) (by simp [Value.isOne]) (by simp) (by first | (simp; done) | (simp; rfl)) (Wt.none rfl) rfl ?_; intro a5 c5
            refine RunL.as rfl rfl ?_
            refine RunL.nil ?_
            refine Run.inBlock ?_
            refine Run.region ?_
            refine RunL.mv rfl rfl ?_
            first | refine RunL.pure (Pure.addI rfl rfl (by omega)) (Wt.none rfl) rfl rfl ?_ | refine RunL.pure (Pure.add rfl rfl) (Wt.none rfl) rfl rfl ?_
            refine RunL.as rfl rfl ?_
            refine RunL.nil ?_
            refine Run.keep (.cons rfl (.cons rfl (.cons rfl (.cons rfl (.cons rfl (.cons rfl (.cons rfl (.nil))))))) : Keep _ [1, 2, 3, 4, 9, 10, 11] _) ?_
            refine Run.againF (F := F) ih (by exact ⟨i + 1, a5, c5, k ++ [z.1.id], by omega, which_yes hk hzv (show whichM l how a b z.1.id = true by
      unfold whichM; rw [if_neg g1, if_neg g2, show ancOf l a z.1.id = true from g3, Bool.true_and]; exact g9), rfl, rfl, rfl⟩) (by repeat (first | (with_reducible exact Fin.done (by repeat (first | (with_reducible exact Rest.here) | apply Rest.there))) | (apply Fin.cons (by first | ((repeat (first | (with_reducible exact F0 _) | apply F1)); done) | (repeat (first | exact F0 _ | apply F1)))))) ?_
            omega
          · try simp only [ZA, ZB, ZC, ZD, ZE, ZF, ZG, ZH, ZI, ZJ, ZK, ZL, ZM, ZN, ZO, ZP, ZQ, ZR] at g9
            refine Run.skip ?_
            refine Run.inBlock ?_
            refine Run.region ?_
            refine RunL.mv rfl rfl ?_
            first | refine RunL.pure (Pure.addI rfl rfl (by omega)) (Wt.none rfl) rfl rfl ?_ | refine RunL.pure (Pure.add rfl rfl) (Wt.none rfl) rfl rfl ?_
            refine RunL.as rfl rfl ?_
            refine RunL.nil ?_
            refine Run.keep (.cons rfl (.cons rfl (.cons rfl (.cons rfl (.cons rfl (.cons rfl (.cons rfl (.nil))))))) : Keep _ [1, 2, 3, 4, 9, 10, 11] _) ?_
            refine Run.againF (F := F) ih (by exact ⟨i + 1, a4, c4, k, by omega, which_no hk hzv (show whichM l how a b z.1.id = false by
      unfold whichM; rw [if_neg g1, if_neg g2, show ancOf l a z.1.id = true from g3, Bool.true_and]; exact g9), rfl, rfl, rfl⟩) (by repeat (first | (with_reducible exact Fin.done (by repeat (first | (with_reducible exact Rest.here) | apply Rest.there))) | (apply Fin.cons (by first | ((repeat (first | (with_reducible exact F0 _) | apply F1)); done) | (repeat (first | exact F0 _ | apply F1)))))) ?_
            omega
        · try simp only [ZA, ZB, ZC, ZD, ZE, ZF, ZG, ZH, ZI, ZJ, ZK, ZL, ZM, ZN, ZO, ZP, ZQ, ZR] at g3
          refine RunL.not (Wt.no rfl rfl rfl) rfl rfl ?_
          refine RunL.pure (Pure.pickF rfl rfl) (Wt.none rfl) rfl rfl ?_
          refine RunL.as rfl rfl ?_
          refine RunL.nil ?_
          refine Run.inBlock ?_
          refine Run.sr ?_
          refine RunL.mv rfl rfl ?_
          refine RunL.nil ?_
          refine Run.condF rfl ?_
          refine Run.skip ?_
          refine Run.inBlock ?_
          refine Run.region ?_
          refine RunL.mv rfl rfl ?_
          first | refine RunL.pure (Pure.addI rfl rfl (by omega)) (Wt.none rfl) rfl rfl ?_ | refine RunL.pure (Pure.add rfl rfl) (Wt.none rfl) rfl rfl ?_
          refine RunL.as rfl rfl ?_
          refine RunL.nil ?_
          refine Run.keep (.cons rfl (.cons rfl (.cons rfl (.cons rfl (.cons rfl (.cons rfl (.cons rfl (.nil))))))) : Keep _ [1, 2, 3, 4, 9, 10, 11] _) ?_
          refine Run.againF (F := F) ih (by exact ⟨i + 1, a4, c4, k, by omega, which_no hk hzv (show whichM l how a b z.1.id = false by
      unfold whichM; rw [if_neg g1, if_neg g2, show ancOf l a z.1.id = false from g3, Bool.false_and]), rfl, rfl, rfl⟩) (by repeat (first | (with_reducible exact Fin.done (by repeat (first | (with_reducible exact Rest.here) | apply Rest.there))) | (apply Fin.cons (by first | ((repeat (first | (with_reducible exact F0 _) | apply F1)); done) | (repeat (first | exact F0 _ | apply F1)))))) ?_
          omega
  · try simp only [ZA, ZB, ZC, ZD, ZE, ZF, ZG, ZH, ZI, ZJ, ZK, ZL, ZM, ZN, ZO, ZP, ZQ, ZR] at g8
    refine Run.exit rfl ?_
    refine Run.sr ?_
    refine RunL.mv rfl rfl ?_
    refine RunL.as rfl rfl ?_
    refine RunL.nil ?_
    have hk2 : k = whichL l (whichM l how a b) := by rw [hk, List.take_of_length_le (by omega)]; rfl
    subst hk2
    exact Run.ret Tryz.func22 (res1 rfl rfl) (by exact ⟨a4, c4, rfl, rfl⟩) (by repeat (first | (with_reducible exact Fin.done (by repeat (first | (with_reducible exact Rest.here) | apply Rest.there))) | (apply Fin.cons (by first | ((repeat (first | (with_reducible exact F0 _) | apply F1)); done) | (repeat (first | exact F0 _ | apply F1))))))

end Go.Proofs.YtcmkafellcfbeaaGreat
