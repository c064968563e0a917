/- Which is ahead. -/
import Derived.Test.YtcmkafellcfbeaaGreatW1
set_option linter.unusedVariables false
set_option linter.unusedSimpArgs false
set_option linter.unusedSectionVars false
namespace Go.Proofs.YtcmkafellcfbeaaGreat
open Go Csl


set_option maxHeartbeats 8000000 in
set_option maxRecDepth 100000 in
theorem IndexAhead_ctr {G : Gp} {ag : Option Addr} {cg : Nat} {gs : List GG} (hgs : SlR G 79 4 ag gs.length (gs.flatMap cGG)) (hgi : GsIn G gs) {z : ByteArray} :
    Ctr Tryz.prog G 4 [.slice ag gs.length cg, .string z] [] (fun F v A => v = .bool true ∧ A = F) := by
  refine Ctr.intro Tryz.func4 rfl (by kernel_rfl) rfl (fun F => ?_)
  simp only [List.nil_append]
  obtain ⟨xs, hxs, hgx⟩ := hgi
  have hgsx : SlR G 79 4 ag xs.length (xs.flatMap cGX) := by rw [← hxs, List.length_map, gx_flat] at hgs; exact hgs
  have hgl : gs.length = xs.length := by rw [← hxs, List.length_map]
  have hmg := madeL_good (room := (⟨#[33, 114, 58, 115, 49]⟩ : ByteArray)) (by decide +kernel) xs
  have hml := madeL_len (⟨#[33, 114, 58, 115, 49]⟩ : ByteArray) xs
  have hmf : ∀ v ∈ (madeL (⟨#[33, 114, 58, 115, 49]⟩ : ByteArray) xs), evWf v := madeL_wf (by decide) xs
  refine Run.sr ?_
  refine RunL.as rfl rfl ?_
  refine RunL.nil ?_
  refine Run.sr ?_
  refine RunL.mv rfl rfl ?_
  rw [hgl]
  refine RunL.call rfl rfl (by rfl) (by repeat (first | (with_reducible exact Take.nil _) | (apply Take.cons (by first | ((repeat (first | (with_reducible exact F0 _) | apply F1)); done) | (repeat (first | exact F0 _ | apply F1)))))) (bld_ctr hgsx hgx) (Wt.none rfl) rfl ?_
  rintro _ _ ⟨pd, K, D, hD, rfl, hA_⟩
  replace hA_ := hA_.symm; subst hA_
  refine RunL.mv rfl rfl ?_
  refine RunL.pure (Pure.extract rfl rfl) (Wt.none rfl) rfl rfl ?_
  refine RunL.pure (Pure.extract rfl rfl) (Wt.none rfl) rfl rfl ?_
  refine RunL.alloc zz26 (Wt.none rfl) rfl ?_; intro b6
  refine RunL.as rfl rfl ?_
  refine RunL.storeW (xs := (cDD D)) rfl rfl (by first | ((repeat (first | (with_reducible exact F0 _) | apply F1)); done) | (repeat (first | exact F0 _ | apply F1))) sz26 (by rfl) (by rfl) (by rfl) (Wt.none rfl) ?_
  refine RunL.nil ?_
  refine Run.seq ?_
  refine Run.sr ?_
  refine RunL.mv rfl rfl ?_
  refine RunL.pure (Pure.ptrEqNil rfl rfl und23) (Wt.none rfl) rfl rfl ?_
  refine RunL.nil ?_
  refine Run.condF rfl ?_
  refine Run.skip ?_
  refine Run.sr ?_
  refine RunL.mv rfl rfl ?_
  refine RunL.call rfl rfl (by rfl) (by repeat (first | (with_reducible exact Take.nil _) | (apply Take.cons (by first | ((repeat (first | (with_reducible exact F0 _) | apply F1)); done) | (repeat (first | exact F0 _ | apply F1)))))) (Ctr.lend Lends.Dg cb9 (fun G' hle hr => Of_ctr hr (by omega))) (Wt.none rfl) rfl ?_
  rintro _ _ ⟨_, rfl, p, KX, sl, ysx, hx, rfl, hA_⟩
  replace hA_ := hA_.symm; subst hA_
  refine RunL.as rfl rfl ?_
  refine RunL.nil ?_
  refine Run.lendAll (Q := Pool K) Lends.Pool (by first | ((repeat (first | (with_reducible exact F0 _) | apply F1)); done) | (repeat (first | exact F0 _ | apply F1))) (fun GhK hleGhK hK => ?_)
  replace hgsx := hgsx.mono hleGhK
  replace hgx := hgx.mono hleGhK
  have hd := HasD.hp (G' := GhK) hD hK
  obtain ⟨hroom, ys, hyl, hdn, hds, hdc, hdk⟩ := id hd
  have hyn := ES_len hyl
  have hml9 : ((madeL (⟨#[33, 114, 58, 115, 49]⟩ : ByteArray) xs)).length ≤ 9 := by omega
  refine Run.seq ?_
  refine Run.sr ?_
  refine RunL.mv rfl rfl ?_
  refine RunL.pure (Pure.ptrEqNil rfl rfl und29) (Wt.none rfl) rfl rfl ?_
  refine RunL.nil ?_
  refine Run.condF rfl ?_
  refine Run.skip ?_
  refine Run.sr ?_
  refine RunL.mv rfl rfl ?_
  refine RunL.call rfl rfl (by rfl) (by repeat (first | (with_reducible exact Take.nil _) | (apply Take.cons (by first | ((repeat (first | (with_reducible exact F0 _) | apply F1)); done) | (repeat (first | exact F0 _ | apply F1)))))) (FewC_ctr (s := z) (m := 4) (by decide) (by decide)) (Wt.none rfl) rfl ?_
  rintro _ _ ⟨rfl, hA_⟩
  replace hA_ := hA_.symm; subst hA_
  generalize cut z _ = zz
  refine RunL.as rfl rfl ?_
  refine RunL.nil ?_
  refine Run.seq ?_
  refine Run.sr ?_
  refine RunL.as rfl rfl ?_
  refine RunL.nil ?_
  refine Run.block ?_
  refine Run.keep (.cons rfl (.cons rfl (.cons rfl (.cons rfl (.nil)))) : Keep _ [1, 6, 7, 8] _) ?_
  refine Run.loopF (F := F) (fun n e_ A => ∃ (i : Nat), i ≤ 10 ∧ n = 10 - i ∧ e_ = [(1, .string zz), (6, .pointer (some ⟨b6, 0, none⟩)), (7, .pointer (some ⟨p, 0, none⟩)), (8, .int .i64 (i : Nat))] ∧ A = row b6 26 (cDD D) :: Ix p (madeL (⟨#[33, 114, 58, 115, 49]⟩ : ByteArray) xs) KX sl :: F) (10) (by exact ⟨0, by omega, rfl, rfl, rfl⟩) (by repeat (first | (with_reducible exact Fin.done (by repeat (first | (with_reducible exact Rest.here) | apply Rest.there))) | (apply Fin.cons (by first | ((repeat (first | (with_reducible exact F0 _) | apply F1)); done) | (repeat (first | exact F0 _ | apply F1)))))) ?_
  rintro n _ _ ⟨i, hi, rfl, rfl, hA_⟩ ih
  replace hA_ := hA_.symm; subst hA_
  refine Run.seq ?_
  refine Run.sr ?_
  refine RunL.mv rfl rfl ?_
  refine RunL.pure (Pure.lss rfl rfl) (Wt.none rfl) rfl rfl ?_
  refine RunL.nil ?_
  refine Run.cond rfl (fun c1 => ?_) (fun c1 => ?_)
  · try simp only [ZA, ZB, ZC, ZD, ZE, ZF, ZG, ZH, ZI, ZJ, ZK, ZL, ZM, ZN, ZO, ZP, ZQ, ZR] at c1
    have ih1 := ih
    refine Run.skip ?_
    refine Run.seq ?_
    refine Run.block ?_
    refine Run.sr ?_
    refine RunL.as rfl rfl ?_
    refine RunL.nil ?_
    refine Run.block ?_
    refine Run.keep (.cons rfl (.cons rfl (.cons rfl (.cons rfl (.cons rfl (.nil))))) : Keep _ [1, 6, 7, 8, 9] _) ?_
    refine Run.loopF (F := F) (fun n e_ A => ∃ (k : Nat), k ≤ 10 ∧ n = 10 - k ∧ e_ = [(1, .string zz), (6, .pointer (some ⟨b6, 0, none⟩)), (7, .pointer (some ⟨p, 0, none⟩)), (8, .int .i64 (i : Nat)), (9, .int .i64 (k : Nat))] ∧ A = row b6 26 (cDD D) :: Ix p (madeL (⟨#[33, 114, 58, 115, 49]⟩ : ByteArray) xs) KX sl :: F) (10) (by exact ⟨0, by omega, rfl, rfl, rfl⟩) (by repeat (first | (with_reducible exact Fin.done (by repeat (first | (with_reducible exact Rest.here) | apply Rest.there))) | (apply Fin.cons (by first | ((repeat (first | (with_reducible exact F0 _) | apply F1)); done) | (repeat (first | exact F0 _ | apply F1)))))) ?_
    rintro n _ _ ⟨k, hk1, rfl, rfl, hA_⟩ ih
    replace hA_ := hA_.symm; subst hA_
    refine Run.seq ?_
    refine Run.sr ?_
    refine RunL.mv rfl rfl ?_
    refine RunL.pure (Pure.lss rfl rfl) (Wt.none rfl) rfl rfl ?_
    refine RunL.nil ?_
    refine Run.cond rfl (fun c2 => ?_) (fun c2 => ?_)
    · try simp only [ZA, ZB, ZC, ZD, ZE, ZF, ZG, ZH, ZI, ZJ, ZK, ZL, ZM, ZN, ZO, ZP, ZQ, ZR] at c2
      refine Run.skip ?_
      refine Run.seq ?_
      refine Run.block ?_
      refine Run.sr ?_
      refine RunL.mv rfl rfl ?_
      first | refine RunL.pure (Pure.remI rfl rfl (by omega) (by omega)) (Wt.none rfl) rfl rfl ?_ | refine RunL.pure (Pure.rem rfl rfl (by omega)) (Wt.none rfl) rfl rfl ?_
      refine RunL.call rfl rfl (by rfl) (by repeat (first | (with_reducible exact Take.nil _) | (apply Take.cons (by first | ((repeat (first | (with_reducible exact F0 _) | apply F1)); done) | (repeat (first | exact F0 _ | apply F1)))))) (EventOf_ctr (by omega)) (Wt.none rfl) rfl ?_
      rintro _ _ ⟨rfl, hA_⟩
      replace hA_ := hA_.symm; subst hA_
      refine RunL.as rfl rfl ?_
      refine RunL.nil ?_
      refine Run.sr ?_
      refine RunL.mv rfl rfl ?_
      first | refine RunL.pure (Pure.remI rfl rfl (by omega) (by omega)) (Wt.none rfl) rfl rfl ?_ | refine RunL.pure (Pure.rem rfl rfl (by omega)) (Wt.none rfl) rfl rfl ?_
      refine RunL.call rfl rfl (by rfl) (by repeat (first | (with_reducible exact Take.nil _) | (apply Take.cons (by first | ((repeat (first | (with_reducible exact F0 _) | apply F1)); done) | (repeat (first | exact F0 _ | apply F1)))))) (EventOf_ctr (by omega)) (Wt.none rfl) rfl ?_
      rintro _ _ ⟨rfl, hA_⟩
      replace hA_ := hA_.symm; subst hA_
      refine RunL.as rfl rfl ?_
      refine RunL.nil ?_
      refine Run.seq ?_
      refine Run.cut (fun e_ A => ∃ a b : ByteArray, e_ = [(1, .string zz), (6, .pointer (some ⟨b6, 0, none⟩)), (7, .pointer (some ⟨p, 0, none⟩)), (8, .int .i64 (i : Nat)), (9, .int .i64 (k : Nat)), (10, .string a), (11, .string b)] ∧ A = row b6 26 (cDD D) :: Ix p (madeL (⟨#[33, 114, 58, 115, 49]⟩ : ByteArray) xs) KX sl :: F) (fun e A hM => ?_) (fun hk => ?_)
      · obtain ⟨a, b, rfl, hA_⟩ := hM
        replace hA_ := hA_.symm; subst hA_
        refine Run.seq ?_
        refine Run.cut (fun e_ A => ∃ a b : ByteArray, e_ = [(1, .string zz), (6, .pointer (some ⟨b6, 0, none⟩)), (7, .pointer (some ⟨p, 0, none⟩)), (8, .int .i64 (i : Nat)), (9, .int .i64 (k : Nat)), (10, .string a), (11, .string b)] ∧ A = row b6 26 (cDD D) :: Ix p (madeL (⟨#[33, 114, 58, 115, 49]⟩ : ByteArray) xs) KX sl :: F) (fun e A hM => ?_) (fun hk => ?_)
        · obtain ⟨a, b, rfl, hA_⟩ := hM
          replace hA_ := hA_.symm; subst hA_
          refine Run.seq ?_
          refine Run.regionD' (by kernel_rfl) (by kernel_rfl) (fun hok115 => ?_)
          refine RunD.lend (Q := row b6 26 _) Lends.row (by first | ((repeat (first | (with_reducible exact F0 _) | apply F1)); done) | (repeat (first | exact F0 _ | apply F1))) ?_; intro gl1 hlegl1 hl1 backgl1
          have hgsx_gl1 := hgsx.mono hlegl1
          have hgx_gl1 := hgx.mono hlegl1
          have hd_gl1 := hd.mono hlegl1
          have hds_gl1 := hds.mono hlegl1
          have hdk_gl1 := hdk.mono hlegl1
          refine RunD.pure (i := 0) hok115 rfl (by kernel_rfl) (Pure.move rfl) (Wt.none rfl) rfl rfl ?_
          refine RunD.pure (i := 1) hok115 rfl (by kernel_rfl) (Pure.move rfl) (Wt.none rfl) rfl rfl ?_
          refine RunD.pure (i := 2) hok115 rfl (by kernel_rfl) (Pure.move rfl) (Wt.none rfl) rfl rfl ?_
          refine RunD.loadNR (vs := (cDD D)) (i := 4) hok115 rfl (by kernel_rfl) rfl (by assumption) agg26 sz26 (by first | exact Nat.le_of_ble_eq_true rfl | (simp; done) | (simp; omega)) rfl (Wt.none rfl) rfl ?_
          refine RunD.pure (i := 5) hok115 rfl (by kernel_rfl) (Pure.move rfl) (Wt.none rfl) rfl rfl ?_
          refine RunD.pure (i := 6) hok115 rfl (by kernel_rfl) (Pure.move rfl) (Wt.none rfl) rfl rfl ?_
          refine RunD.one (i := 3) (by kernel_rfl) rfl ?_
          refine RunL.call rfl rfl (by rfl) (by repeat (first | (with_reducible exact Take.nil _) | (apply Take.cons (by first | ((repeat (first | (with_reducible exact F0 _) | apply F1)); done) | (repeat (first | exact F0 _ | apply F1)))))) (Ahead_ctr hx) (Wt.none rfl) rfl ?_
          rintro _ _ ⟨rfl, hA_⟩
          replace hA_ := hA_.symm; subst hA_
          refine RunL.nilD' ?_
          refine RunD.one (i := 7) (by kernel_rfl) rfl ?_
          refine RunL.call rfl rfl (by rfl) (by repeat (first | (with_reducible exact Take.nil _) | (apply Take.cons (by first | ((repeat (first | (with_reducible exact F0 _) | apply F1)); done) | (repeat (first | exact F0 _ | apply F1)))))) (rdAhead_ctr hd_gl1 hmg (by omega)) (Wt.none rfl) rfl ?_
          rintro _ _ ⟨rfl, hA_⟩
          replace hA_ := hA_.symm; subst hA_
          refine RunL.nilD' ?_
          refine RunD.pure (i := 8) hok115 rfl (by kernel_rfl) (Pure.bneq rfl rfl und4) (Wt.none rfl) rfl rfl ?_
          refine RunD.pure (i := 9) hok115 rfl (by kernel_rfl) (Pure.move rfl) (Wt.none rfl) rfl rfl ?_
          refine RunD.split (d := 54) rfl (fun hg1 => ?_) (fun hg1 => ?_)
          · try simp only [ZA, ZB, ZC, ZD, ZE, ZF, ZG, ZH, ZI, ZJ, ZK, ZL, ZM, ZN, ZO, ZP, ZQ, ZR] at hg1
            exfalso
            first | exact hg1 rfl | exact hg1 trivial | (simp at hg1; done)
          try simp only [ZA, ZB, ZC, ZD, ZE, ZF, ZG, ZH, ZI, ZJ, ZK, ZL, ZM, ZN, ZO, ZP, ZQ, ZR] at hg1
          refine RunD.pure (i := 10) hok115 rfl (by kernel_rfl) (Pure.move rfl) (Wt.yes rfl rfl rfl) rfl rfl ?_
          refine RunD.pure (i := 11) hok115 rfl (by kernel_rfl) (Pure.move rfl) (Wt.yes rfl rfl rfl) rfl rfl ?_
          refine RunD.pure (i := 12) hok115 rfl (by kernel_rfl) (Pure.move rfl) (Wt.yes rfl rfl rfl) rfl rfl ?_
          refine RunD.loadNR (vs := (cDD D)) (i := 14) hok115 rfl (by kernel_rfl) rfl (by assumption) agg26 sz26 (by first | exact Nat.le_of_ble_eq_true rfl | (simp; done) | (simp; omega)) rfl (Wt.yes rfl rfl rfl) rfl ?_
          refine RunD.pure (i := 15) hok115 rfl (by kernel_rfl) (Pure.move rfl) (Wt.yes rfl rfl rfl) rfl rfl ?_
          refine RunD.pure (i := 16) hok115 rfl (by kernel_rfl) (Pure.move rfl) (Wt.yes rfl rfl rfl) rfl rfl ?_
          refine RunD.one (i := 13) (by kernel_rfl) rfl ?_
          refine RunL.call rfl rfl (by rfl) (by repeat (first | (with_reducible exact Take.nil _) | (apply Take.cons (by first | ((repeat (first | (with_reducible exact F0 _) | apply F1)); done) | (repeat (first | exact F0 _ | apply F1)))))) (Apart_ctr hx) (Wt.yes rfl rfl rfl) rfl ?_
          rintro _ _ ⟨rfl, hA_⟩
          replace hA_ := hA_.symm; subst hA_
          refine RunL.nilD' ?_
          refine RunD.one (i := 17) (by kernel_rfl) rfl ?_
          refine RunL.call rfl rfl (by rfl) (by repeat (first | (with_reducible exact Take.nil _) | (apply Take.cons (by first | ((repeat (first | (with_reducible exact F0 _) | apply F1)); done) | (repeat (first | exact F0 _ | apply F1)))))) (rdApart_ctr hd_gl1 hmg (by omega)) (Wt.yes rfl rfl rfl) rfl ?_
          rintro _ _ ⟨rfl, hA_⟩
          replace hA_ := hA_.symm; subst hA_
          refine RunL.nilD' ?_
          refine RunD.pure (i := 18) hok115 rfl (by kernel_rfl) (Pure.bneq rfl rfl und4) (Wt.yes rfl rfl rfl) rfl rfl ?_
          refine RunD.pure (i := 19) hok115 rfl (by kernel_rfl) (Pure.pickF rfl rfl) (Wt.none rfl) rfl rfl ?_
          refine RunD.nilB (by kernel_rfl) (fun w sw => backgl1 _ _ (sw)) ?_
          refine Run.cond rfl (fun hc2 => ?_) (fun hc2 => ?_)
          · try simp only [ZA, ZB, ZC, ZD, ZE, ZF, ZG, ZH, ZI, ZJ, ZK, ZL, ZM, ZN, ZO, ZP, ZQ, ZR] at hc2
            exfalso
            first | exact hc2 rfl | exact hc2 trivial | (simp at hc2; done)
          try simp only [ZA, ZB, ZC, ZD, ZE, ZF, ZG, ZH, ZI, ZJ, ZK, ZL, ZM, ZN, ZO, ZP, ZQ, ZR] at hc2
          refine Run.skip ?_
          refine Run.inBlock ?_
          refine Run.region ?_
          refine RunL.mv rfl rfl ?_
          first | refine RunL.pure (Pure.addI rfl rfl (by omega)) (Wt.none rfl) rfl rfl ?_ | refine RunL.pure (Pure.add rfl rfl) (Wt.none rfl) rfl rfl ?_
          refine RunL.as rfl rfl ?_
          refine RunL.nil ?_
          refine Run.keep (.cons rfl (.cons rfl (.cons rfl (.cons rfl (.cons rfl (.nil))))) : Keep _ [1, 6, 7, 8, 9] _) ?_
          refine Run.againF (F := F) ih (by exact ⟨k + 1, by omega, rfl, rfl, rfl⟩) (by repeat (first | (with_reducible exact Fin.done (by repeat (first | (with_reducible exact Rest.here) | apply Rest.there))) | (apply Fin.cons (by first | ((repeat (first | (with_reducible exact F0 _) | apply F1)); done) | (repeat (first | exact F0 _ | apply F1)))))) ?_
          omega
        · skip
          refine Run.sr ?_
          refine RunL.mv rfl rfl ?_
          refine RunL.pure (Pure.eql rfl rfl) (Wt.none rfl) rfl rfl ?_
          refine RunL.nil ?_
          refine Run.cond rfl (fun e2 => ?_) (fun e2 => ?_)
          · try simp only [ZA, ZB, ZC, ZD, ZE, ZF, ZG, ZH, ZI, ZJ, ZK, ZL, ZM, ZN, ZO, ZP, ZQ, ZR] at e2
            refine Run.region ?_
            refine RunL.mv rfl rfl ?_
            refine RunL.as rfl rfl ?_
            refine RunL.nil ?_
            refine Run.keep (.cons rfl (.cons rfl (.cons rfl (.cons rfl (.cons rfl (.cons rfl (.cons rfl (.nil))))))) : Keep _ [1, 6, 7, 8, 9, 10, 11] _) ?_
            exact Run.meetF (F := F) hk (by exact ⟨a, zz, rfl, rfl⟩) (by repeat (first | (with_reducible exact Fin.done (by repeat (first | (with_reducible exact Rest.here) | apply Rest.there))) | (apply Fin.cons (by first | ((repeat (first | (with_reducible exact F0 _) | apply F1)); done) | (repeat (first | exact F0 _ | apply F1))))))
          · try simp only [ZA, ZB, ZC, ZD, ZE, ZF, ZG, ZH, ZI, ZJ, ZK, ZL, ZM, ZN, ZO, ZP, ZQ, ZR] at e2
            refine Run.skip ?_
            refine Run.keep (.cons rfl (.cons rfl (.cons rfl (.cons rfl (.cons rfl (.cons rfl (.cons rfl (.nil))))))) : Keep _ [1, 6, 7, 8, 9, 10, 11] _) ?_
            exact Run.meetF (F := F) hk (by exact ⟨a, b, rfl, rfl⟩) (by repeat (first | (with_reducible exact Fin.done (by repeat (first | (with_reducible exact Rest.here) | apply Rest.there))) | (apply Fin.cons (by first | ((repeat (first | (with_reducible exact F0 _) | apply F1)); done) | (repeat (first | exact F0 _ | apply F1))))))
      · skip
        refine Run.sr ?_
        refine RunL.mv rfl rfl ?_
        refine RunL.pure (Pure.eql rfl rfl) (Wt.none rfl) rfl rfl ?_
        refine RunL.nil ?_
        refine Run.cond rfl (fun e1 => ?_) (fun e1 => ?_)
        · try simp only [ZA, ZB, ZC, ZD, ZE, ZF, ZG, ZH, ZI, ZJ, ZK, ZL, ZM, ZN, ZO, ZP, ZQ, ZR] at e1
          refine Run.region ?_
          refine RunL.mv rfl rfl ?_
          refine RunL.as rfl rfl ?_
          refine RunL.nil ?_
          refine Run.keep (.cons rfl (.cons rfl (.cons rfl (.cons rfl (.cons rfl (.cons rfl (.cons rfl (.nil))))))) : Keep _ [1, 6, 7, 8, 9, 10, 11] _) ?_
          exact Run.meetF (F := F) hk (by exact ⟨zz, (eventOf (((k : Nat) : Int).tmod 9)), rfl, rfl⟩) (by repeat (first | (with_reducible exact Fin.done (by repeat (first | (with_reducible exact Rest.here) | apply Rest.there))) | (apply Fin.cons (by first | ((repeat (first | (with_reducible exact F0 _) | apply F1)); done) | (repeat (first | exact F0 _ | apply F1))))))
        · try simp only [ZA, ZB, ZC, ZD, ZE, ZF, ZG, ZH, ZI, ZJ, ZK, ZL, ZM, ZN, ZO, ZP, ZQ, ZR] at e1
          refine Run.skip ?_
          refine Run.keep (.cons rfl (.cons rfl (.cons rfl (.cons rfl (.cons rfl (.cons rfl (.cons rfl (.nil))))))) : Keep _ [1, 6, 7, 8, 9, 10, 11] _) ?_
          exact Run.meetF (F := F) hk (by exact ⟨(eventOf (((i : Nat) : Int).tmod 9)), (eventOf (((k : Nat) : Int).tmod 9)), rfl, rfl⟩) (by repeat (first | (with_reducible exact Fin.done (by repeat (first | (with_reducible exact Rest.here) | apply Rest.there))) | (apply Fin.cons (by first | ((repeat (first | (with_reducible exact F0 _) | apply F1)); done) | (repeat (first | exact F0 _ | apply F1))))))
    · try simp only [ZA, ZB, ZC, ZD, ZE, ZF, ZG, ZH, ZI, ZJ, ZK, ZL, ZM, ZN, ZO, ZP, ZQ, ZR] at c2
      refine Run.exit rfl ?_
      refine Run.inBlock ?_
      refine Run.region ?_
      refine RunL.mv rfl rfl ?_
      first | refine RunL.pure (Pure.addI rfl rfl (by omega)) (Wt.none rfl) rfl rfl ?_ | refine RunL.pure (Pure.add rfl rfl) (Wt.none rfl) rfl rfl ?_
      refine RunL.as rfl rfl ?_
      refine RunL.nil ?_
      have ih := ih1
      refine Run.keep (.cons rfl (.cons rfl (.cons rfl (.cons rfl (.nil)))) : Keep _ [1, 6, 7, 8] _) ?_
      refine Run.againF (F := F) ih (by exact ⟨i + 1, by omega, rfl, rfl, rfl⟩) (by repeat (first | (with_reducible exact Fin.done (by repeat (first | (with_reducible exact Rest.here) | apply Rest.there))) | (apply Fin.cons (by first | ((repeat (first | (with_reducible exact F0 _) | apply F1)); done) | (repeat (first | exact F0 _ | apply F1)))))) ?_
      omega
  · try simp only [ZA, ZB, ZC, ZD, ZE, ZF, ZG, ZH, ZI, ZJ, ZK, ZL, ZM, ZN, ZO, ZP, ZQ, ZR] at c1
    refine Run.exit rfl ?_
    refine Run.seq ?_
    refine Run.regionD' (by kernel_rfl) (by kernel_rfl) (fun hok228 => ?_)
    refine RunD.lend (Q := row b6 26 _) Lends.row (by first | ((repeat (first | (with_reducible exact F0 _) | apply F1)); done) | (repeat (first | exact F0 _ | apply F1))) ?_; intro gl2 hlegl2 hl2 backgl2
    have hgsx_gl2 := hgsx.mono hlegl2
    have hgx_gl2 := hgx.mono hlegl2
    have hd_gl2 := hd.mono hlegl2
    have hds_gl2 := hds.mono hlegl2
    have hdk_gl2 := hdk.mono hlegl2
    refine RunD.pure (i := 0) hok228 rfl (by kernel_rfl) (Pure.move rfl) (Wt.none rfl) rfl rfl ?_
    refine RunD.pure (i := 2) hok228 rfl (by kernel_rfl) (Pure.fieldAddr rfl fo26_1) (Wt.none rfl) rfl rfl ?_
    refine RunD.load1R (i := 3) hok228 rfl (by kernel_rfl) rfl (by assumption) (by rfl) agg24 (Wt.none rfl) rfl ?_
    refine RunD.pure (i := 4) hok228 rfl (by kernel_rfl) (Pure.lenSl rfl rfl und24) (Wt.none rfl) rfl rfl ?_
    refine RunD.one (i := 1) (by kernel_rfl) rfl ?_
    refine RunL.call rfl rfl (by rfl) (by repeat (first | (with_reducible exact Take.nil _) | (apply Take.cons (by first | ((repeat (first | (with_reducible exact F0 _) | apply F1)); done) | (repeat (first | exact F0 _ | apply F1)))))) (LenX_ctr hx) (Wt.none rfl) rfl ?_
    rintro _ _ ⟨rfl, hA_⟩
    replace hA_ := hA_.symm; subst hA_
    refine RunL.nilD' ?_
    refine RunD.pure (i := 5) hok228 rfl (by kernel_rfl) (Pure.eql rfl rfl) (Wt.none rfl) rfl rfl ?_
    refine RunD.pure (i := 6) hok228 rfl (by kernel_rfl) (Pure.move rfl) (Wt.none rfl) rfl rfl ?_
    refine RunD.split (d := 71) rfl (fun hg3 => ?_) (fun hg3 => ?_)
    rotate_left
    · try simp only [ZA, ZB, ZC, ZD, ZE, ZF, ZG, ZH, ZI, ZJ, ZK, ZL, ZM, ZN, ZO, ZP, ZQ, ZR] at hg3
      exfalso
      omega
    try simp only [ZA, ZB, ZC, ZD, ZE, ZF, ZG, ZH, ZI, ZJ, ZK, ZL, ZM, ZN, ZO, ZP, ZQ, ZR] at hg3
    refine RunD.one (i := 7) (by kernel_rfl) rfl ?_
    refine RunL.call rfl rfl (by rfl) (by repeat (first | (with_reducible exact Take.nil _) | (apply Take.cons (by first | ((repeat (first | (with_reducible exact F0 _) | apply F1)); done) | (repeat (first | exact F0 _ | apply F1)))))) (lives_ctr) (Wt.yes rfl rfl rfl) rfl ?_
    rintro _ _ ⟨rfl, hA_⟩
    replace hA_ := hA_.symm; subst hA_
    refine RunL.nilD' ?_
    refine RunD.pure (i := 8) hok228 rfl (by kernel_rfl) (Pure.pickT rfl rfl) (Wt.none rfl) rfl rfl ?_
    refine RunD.pure (i := 9) hok228 rfl (by kernel_rfl) (Pure.assign rfl) (Wt.none rfl) rfl rfl ?_
    refine RunD.nilB (by kernel_rfl) (fun w sw => backgl2 _ _ (sw)) ?_
    exact Run.ret Tryz.func4 (res1 rfl rfl) (by exact ⟨rfl, rfl⟩) (by repeat (first | (with_reducible exact Fin.done (by repeat (first | (with_reducible exact Rest.here) | apply Rest.there))) | (apply Fin.cons (by first | ((repeat (first | (with_reducible exact F0 _) | apply F1)); done) | (repeat (first | exact F0 _ | apply F1))))))

end Go.Proofs.YtcmkafellcfbeaaGreat
