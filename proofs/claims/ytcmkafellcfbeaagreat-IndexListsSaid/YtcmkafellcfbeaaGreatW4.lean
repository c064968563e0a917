/- What is listed. -/
import Derived.Test.YtcmkafellcfbeaaGreatW1
set_option linter.unusedVariables false
set_option linter.unusedSimpArgs false
set_option linter.unusedSectionVars false
namespace Go.Proofs.YtcmkafellcfbeaaGreat
open Go Csl


set_option maxHeartbeats 8000000 in
set_option maxRecDepth 100000 in
theorem IndexLists_ctr {G : Gp} {ag : Option Addr} {cg : Nat} {gs : List GG} (hgs : SlR G 79 4 ag gs.length (gs.flatMap cGG)) (hgi : GsIn G gs) {za zb : Int} (hza : -9223372036854775808 ≤ za ∧ za ≤ 9223372036854775807) (hzb : -9223372036854775808 ≤ zb ∧ zb ≤ 9223372036854775807) :
    Ctr Tryz.prog G 6 [.slice ag gs.length cg, .int .i64 za, .int .i64 zb] [] (fun F v A => v = .bool true ∧ A = F) := by
  refine Ctr.intro Tryz.func6 rfl (by kernel_rfl) rfl (fun F => ?_)
  simp only [List.nil_append]
  obtain ⟨xs, hxs, hgx⟩ := hgi
  have hgsx : SlR G 79 4 ag xs.length (xs.flatMap cGX) := by rw [← hxs, List.length_map, gx_flat] at hgs; exact hgs
  have hgl : gs.length = xs.length := by rw [← hxs, List.length_map]
  have hmg := madeL_good (room := (⟨#[33, 114, 58, 115, 49]⟩ : ByteArray)) (by decide +kernel) xs
  have hml := madeL_len (⟨#[33, 114, 58, 115, 49]⟩ : ByteArray) xs
  have hmf : ∀ v ∈ (madeL (⟨#[33, 114, 58, 115, 49]⟩ : ByteArray) xs), evWf v := madeL_wf (by decide) xs
  refine Run.sr ?_
  refine RunL.as rfl rfl ?_
  refine RunL.nil ?_
  refine Run.sr ?_
  refine RunL.mv rfl rfl ?_
  rw [hgl]
  refine RunL.call rfl rfl (by rfl) (by repeat (first | (with_reducible exact Take.nil _) | (apply Take.cons (by first | ((repeat (first | (with_reducible exact F0 _) | apply F1)); done) | (repeat (first | exact F0 _ | apply F1)))))) (bld_ctr hgsx hgx) (Wt.none rfl) rfl ?_
  rintro _ _ ⟨pd, K, D, hD, rfl, hA_⟩
  replace hA_ := hA_.symm; subst hA_
  refine RunL.mv rfl rfl ?_
  refine RunL.pure (Pure.extract rfl rfl) (Wt.none rfl) rfl rfl ?_
  refine RunL.pure (Pure.extract rfl rfl) (Wt.none rfl) rfl rfl ?_
  refine RunL.alloc zz26 (Wt.none rfl) rfl ?_; intro b8
  refine RunL.as rfl rfl ?_
  refine RunL.storeW (xs := (cDD D)) rfl rfl (by first | ((repeat (first | (with_reducible exact F0 _) | apply F1)); done) | (repeat (first | exact F0 _ | apply F1))) sz26 (by rfl) (by rfl) (by rfl) (Wt.none rfl) ?_
  refine RunL.nil ?_
  refine Run.seq ?_
  refine Run.sr ?_
  refine RunL.mv rfl rfl ?_
  refine RunL.pure (Pure.ptrEqNil rfl rfl und23) (Wt.none rfl) rfl rfl ?_
  refine RunL.nil ?_
  refine Run.condF rfl ?_
  refine Run.skip ?_
  refine Run.sr ?_
  refine RunL.mv rfl rfl ?_
  refine RunL.call rfl rfl (by rfl) (by repeat (first | (with_reducible exact Take.nil _) | (apply Take.cons (by first | ((repeat (first | (with_reducible exact F0 _) | apply F1)); done) | (repeat (first | exact F0 _ | apply F1)))))) (Ctr.lend Lends.Dg cb9 (fun G' hle hr => Of_ctr hr (by omega))) (Wt.none rfl) rfl ?_
  rintro _ _ ⟨_, rfl, p, KX, sl, ysx, hx, rfl, hA_⟩
  replace hA_ := hA_.symm; subst hA_
  refine RunL.as rfl rfl ?_
  refine RunL.nil ?_
  refine Run.lendAll (Q := Pool K) Lends.Pool (by first | ((repeat (first | (with_reducible exact F0 _) | apply F1)); done) | (repeat (first | exact F0 _ | apply F1))) (fun GhK hleGhK hK => ?_)
  replace hgsx := hgsx.mono hleGhK
  replace hgx := hgx.mono hleGhK
  have hd := HasD.hp (G' := GhK) hD hK
  obtain ⟨hroom, ys, hyl, hdn, hds, hdc, hdk⟩ := id hd
  have hyn := ES_len hyl
  have hml9 : ((madeL (⟨#[33, 114, 58, 115, 49]⟩ : ByteArray) xs)).length ≤ 9 := by omega
  refine Run.seq ?_
  refine Run.sr ?_
  refine RunL.mv rfl rfl ?_
  refine RunL.pure (Pure.ptrEqNil rfl rfl und29) (Wt.none rfl) rfl rfl ?_
  refine RunL.nil ?_
  refine Run.condF rfl ?_
  refine Run.skip ?_
  refine Run.sr ?_
  refine RunL.mv rfl rfl ?_
  refine RunL.call rfl rfl (by rfl) (by repeat (first | (with_reducible exact Take.nil _) | (apply Take.cons (by first | ((repeat (first | (with_reducible exact F0 _) | apply F1)); done) | (repeat (first | exact F0 _ | apply F1)))))) (EventOf_ctr (z := za) hza) (Wt.none rfl) rfl ?_
  rintro _ _ ⟨rfl, hA_⟩
  replace hA_ := hA_.symm; subst hA_
  refine RunL.as rfl rfl ?_
  refine RunL.nil ?_
  refine Run.sr ?_
  refine RunL.mv rfl rfl ?_
  refine RunL.call rfl rfl (by rfl) (by repeat (first | (with_reducible exact Take.nil _) | (apply Take.cons (by first | ((repeat (first | (with_reducible exact F0 _) | apply F1)); done) | (repeat (first | exact F0 _ | apply F1)))))) (EventOf_ctr (z := zb) hzb) (Wt.none rfl) rfl ?_
  rintro _ _ ⟨rfl, hA_⟩
  replace hA_ := hA_.symm; subst hA_
  refine RunL.as rfl rfl ?_
  refine RunL.nil ?_
  refine Run.seq ?_
  refine Run.regionD' (by kernel_rfl) (by kernel_rfl) (fun hok59 => ?_)
  refine RunD.lend (Q := row b8 26 _) Lends.row (by first | ((repeat (first | (with_reducible exact F0 _) | apply F1)); done) | (repeat (first | exact F0 _ | apply F1))) ?_; intro gl1 hlegl1 hl1 backgl1
  have hgsx_gl1 := hgsx.mono hlegl1
  have hgx_gl1 := hgx.mono hlegl1
  have hd_gl1 := hd.mono hlegl1
  have hds_gl1 := hds.mono hlegl1
  have hdk_gl1 := hdk.mono hlegl1
  refine RunD.pure (i := 0) hok59 rfl (by kernel_rfl) (Pure.move rfl) (Wt.none rfl) rfl rfl ?_
  refine RunD.pure (i := 1) hok59 rfl (by kernel_rfl) (Pure.move rfl) (Wt.none rfl) rfl rfl ?_
  refine RunD.loadNR (vs := (cDD D)) (i := 3) hok59 rfl (by kernel_rfl) rfl (by assumption) agg26 sz26 (by first | exact Nat.le_of_ble_eq_true rfl | (simp; done) | (simp; omega)) rfl (Wt.none rfl) rfl ?_
  refine RunD.pure (i := 4) hok59 rfl (by kernel_rfl) (Pure.move rfl) (Wt.none rfl) rfl rfl ?_
  refine RunD.one (i := 2) (by kernel_rfl) rfl ?_
  refine RunL.call rfl rfl (by rfl) (by repeat (first | (with_reducible exact Take.nil _) | (apply Take.cons (by first | ((repeat (first | (with_reducible exact F0 _) | apply F1)); done) | (repeat (first | exact F0 _ | apply F1)))))) (Ancestors_ctr hx) (Wt.none rfl) rfl ?_
  rintro _ _ ⟨a1, c1, rfl, hA_⟩
  replace hA_ := hA_.symm; subst hA_
  refine RunL.nilD' ?_
  refine RunD.one (i := 5) (by kernel_rfl) rfl ?_
  refine RunL.call rfl rfl (by rfl) (by repeat (first | (with_reducible exact Take.nil _) | (apply Take.cons (by first | ((repeat (first | (with_reducible exact F0 _) | apply F1)); done) | (repeat (first | exact F0 _ | apply F1)))))) (rdWhich_ctr (how := 0) (a := (eventOf za)) (b := (⟨#[]⟩ : ByteArray)) hd_gl1 hmg (by omega)) (Wt.none rfl) rfl ?_
  rintro _ _ ⟨r1, d1, rfl, hA_⟩
  replace hA_ := hA_.symm; subst hA_
  rw [whichM_0]
  refine RunL.nilD' ?_
  refine RunD.one (i := 6) (by kernel_rfl) rfl ?_
  refine RunL.call rfl rfl (by rfl) (by repeat (first | (with_reducible exact Take.nil _) | (apply Take.cons (by first | ((repeat (first | (with_reducible exact F0 _) | apply F1)); done) | (repeat (first | exact F0 _ | apply F1)))))) ((Ctr.lend2 (Q1 := Sl 9 1 a1 ((whichL (madeL (⟨#[33, 114, 58, 115, 49]⟩ : ByteArray) xs) (ancOf (madeL (⟨#[33, 114, 58, 115, 49]⟩ : ByteArray) xs) (eventOf za)))).length c1 (((whichL (madeL (⟨#[33, 114, 58, 115, 49]⟩ : ByteArray) xs) (ancOf (madeL (⟨#[33, 114, 58, 115, 49]⟩ : ByteArray) xs) (eventOf za)))).map Value.string)) (Q2 := Sl 9 1 r1 ((whichL (madeL (⟨#[33, 114, 58, 115, 49]⟩ : ByteArray) xs) (ancOf (madeL (⟨#[33, 114, 58, 115, 49]⟩ : ByteArray) xs) (eventOf za)))).length d1 (((whichL (madeL (⟨#[33, 114, 58, 115, 49]⟩ : ByteArray) xs) (ancOf (madeL (⟨#[33, 114, 58, 115, 49]⟩ : ByteArray) xs) (eventOf za)))).map Value.string)) (R1 := fun G => SlR G 9 1 _ _ _ ∧ _ ≤ _) (R2 := fun G => SlR G 9 1 _ _ _ ∧ _ ≤ _) Lends.Sl Lends.Sl cb23 (fun G G' h q => ⟨q.1.mono h, q.2⟩) (fun G' hle hr hr2 => TextsR_ctr hr.1 hr2.1 (by have := whichL_len (madeL (⟨#[33, 114, 58, 115, 49]⟩ : ByteArray) xs) (ancOf (madeL (⟨#[33, 114, 58, 115, 49]⟩ : ByteArray) xs) (eventOf za)); omega)))) (Wt.none rfl) rfl ?_
  rintro _ _ ⟨_, rfl, rfl, hA_⟩
  replace hA_ := hA_.symm; subst hA_
  refine RunL.nilD' ?_
  refine RunD.pure (i := 7) hok59 rfl (by kernel_rfl) (Pure.move rfl) (Wt.none rfl) rfl rfl ?_
  refine RunD.split (d := 34) rfl (fun hg1 => ?_) (fun hg1 => ?_)
  rotate_left
  · try simp only [ZA, ZB, ZC, ZD, ZE, ZF, ZG, ZH, ZI, ZJ, ZK, ZL, ZM, ZN, ZO, ZP, ZQ, ZR] at hg1
    exfalso
    first | exact hg1 rfl | exact hg1 trivial | (simp at hg1; done)
  try simp only [ZA, ZB, ZC, ZD, ZE, ZF, ZG, ZH, ZI, ZJ, ZK, ZL, ZM, ZN, ZO, ZP, ZQ, ZR] at hg1
  refine RunD.pure (i := 8) hok59 rfl (by kernel_rfl) (Pure.move rfl) (Wt.yes rfl rfl rfl) rfl rfl ?_
  refine RunD.pure (i := 9) hok59 rfl (by kernel_rfl) (Pure.move rfl) (Wt.yes rfl rfl rfl) rfl rfl ?_
  refine RunD.loadNR (vs := (cDD D)) (i := 11) hok59 rfl (by kernel_rfl) rfl (by assumption) agg26 sz26 (by first | exact Nat.le_of_ble_eq_true rfl | (simp; done) | (simp; omega)) rfl (Wt.yes rfl rfl rfl) rfl ?_
  refine RunD.pure (i := 12) hok59 rfl (by kernel_rfl) (Pure.move rfl) (Wt.yes rfl rfl rfl) rfl rfl ?_
  refine RunD.one (i := 10) (by kernel_rfl) rfl ?_
  refine RunL.call rfl rfl (by rfl) (by repeat (first | (with_reducible exact Take.nil _) | (apply Take.cons (by first | ((repeat (first | (with_reducible exact F0 _) | apply F1)); done) | (repeat (first | exact F0 _ | apply F1)))))) (Behind_ctr hx) (Wt.yes rfl rfl rfl) rfl ?_
  rintro _ _ ⟨a2, c2, rfl, hA_⟩
  replace hA_ := hA_.symm; subst hA_
  refine RunL.nilD' ?_
  refine RunD.one (i := 13) (by kernel_rfl) rfl ?_
  refine RunL.call rfl rfl (by rfl) (by repeat (first | (with_reducible exact Take.nil _) | (apply Take.cons (by first | ((repeat (first | (with_reducible exact F0 _) | apply F1)); done) | (repeat (first | exact F0 _ | apply F1)))))) (rdWhich_ctr (how := 1) (a := (eventOf za)) (b := (⟨#[]⟩ : ByteArray)) hd_gl1 hmg (by omega)) (Wt.yes rfl rfl rfl) rfl ?_
  rintro _ _ ⟨r2, d2, rfl, hA_⟩
  replace hA_ := hA_.symm; subst hA_
  rw [whichM_1]
  refine RunL.nilD' ?_
  refine RunD.one (i := 14) (by kernel_rfl) rfl ?_
  refine RunL.call rfl rfl (by rfl) (by repeat (first | (with_reducible exact Take.nil _) | (apply Take.cons (by first | ((repeat (first | (with_reducible exact F0 _) | apply F1)); done) | (repeat (first | exact F0 _ | apply F1)))))) ((Ctr.lend2 (Q1 := Sl 9 1 a2 ((whichL (madeL (⟨#[33, 114, 58, 115, 49]⟩ : ByteArray) xs) (fun x => ancOf (madeL (⟨#[33, 114, 58, 115, 49]⟩ : ByteArray) xs) x (eventOf za)))).length c2 (((whichL (madeL (⟨#[33, 114, 58, 115, 49]⟩ : ByteArray) xs) (fun x => ancOf (madeL (⟨#[33, 114, 58, 115, 49]⟩ : ByteArray) xs) x (eventOf za)))).map Value.string)) (Q2 := Sl 9 1 r2 ((whichL (madeL (⟨#[33, 114, 58, 115, 49]⟩ : ByteArray) xs) (fun x => ancOf (madeL (⟨#[33, 114, 58, 115, 49]⟩ : ByteArray) xs) x (eventOf za)))).length d2 (((whichL (madeL (⟨#[33, 114, 58, 115, 49]⟩ : ByteArray) xs) (fun x => ancOf (madeL (⟨#[33, 114, 58, 115, 49]⟩ : ByteArray) xs) x (eventOf za)))).map Value.string)) (R1 := fun G => SlR G 9 1 _ _ _ ∧ _ ≤ _) (R2 := fun G => SlR G 9 1 _ _ _ ∧ _ ≤ _) Lends.Sl Lends.Sl cb23 (fun G G' h q => ⟨q.1.mono h, q.2⟩) (fun G' hle hr hr2 => TextsR_ctr hr.1 hr2.1 (by have := whichL_len (madeL (⟨#[33, 114, 58, 115, 49]⟩ : ByteArray) xs) (fun x => ancOf (madeL (⟨#[33, 114, 58, 115, 49]⟩ : ByteArray) xs) x (eventOf za)); omega)))) (Wt.yes rfl rfl rfl) rfl ?_
  rintro _ _ ⟨_, rfl, rfl, hA_⟩
  replace hA_ := hA_.symm; subst hA_
  refine RunL.nilD' ?_
  refine RunD.pure (i := 15) hok59 rfl (by kernel_rfl) (Pure.pickT rfl rfl) (Wt.none rfl) rfl rfl ?_
  refine RunD.pure (i := 16) hok59 rfl (by kernel_rfl) (Pure.move rfl) (Wt.none rfl) rfl rfl ?_
  refine RunD.split (d := 43) rfl (fun hg2 => ?_) (fun hg2 => ?_)
  rotate_left
  · try simp only [ZA, ZB, ZC, ZD, ZE, ZF, ZG, ZH, ZI, ZJ, ZK, ZL, ZM, ZN, ZO, ZP, ZQ, ZR] at hg2
    exfalso
    first | exact hg2 rfl | exact hg2 trivial | (simp at hg2; done)
  try simp only [ZA, ZB, ZC, ZD, ZE, ZF, ZG, ZH, ZI, ZJ, ZK, ZL, ZM, ZN, ZO, ZP, ZQ, ZR] at hg2
  refine RunD.pure (i := 17) hok59 rfl (by kernel_rfl) (Pure.move rfl) (Wt.yes rfl rfl rfl) rfl rfl ?_
  refine RunD.pure (i := 18) hok59 rfl (by kernel_rfl) (Pure.move rfl) (Wt.yes rfl rfl rfl) rfl rfl ?_
  refine RunD.pure (i := 19) hok59 rfl (by kernel_rfl) (Pure.move rfl) (Wt.yes rfl rfl rfl) rfl rfl ?_
  refine RunD.loadNR (vs := (cDD D)) (i := 21) hok59 rfl (by kernel_rfl) rfl (by assumption) agg26 sz26 (by first | exact Nat.le_of_ble_eq_true rfl | (simp; done) | (simp; omega)) rfl (Wt.yes rfl rfl rfl) rfl ?_
  refine RunD.pure (i := 22) hok59 rfl (by kernel_rfl) (Pure.move rfl) (Wt.yes rfl rfl rfl) rfl rfl ?_
  refine RunD.pure (i := 23) hok59 rfl (by kernel_rfl) (Pure.move rfl) (Wt.yes rfl rfl rfl) rfl rfl ?_
  refine RunD.one (i := 20) (by kernel_rfl) rfl ?_
  refine RunL.call rfl rfl (by rfl) (by repeat (first | (with_reducible exact Take.nil _) | (apply Take.cons (by first | ((repeat (first | (with_reducible exact F0 _) | apply F1)); done) | (repeat (first | exact F0 _ | apply F1)))))) (Common_ctr hx) (Wt.yes rfl rfl rfl) rfl ?_
  rintro _ _ ⟨a3, c3, rfl, hA_⟩
  replace hA_ := hA_.symm; subst hA_
  refine RunL.nilD' ?_
  refine RunD.one (i := 24) (by kernel_rfl) rfl ?_
  refine RunL.call rfl rfl (by rfl) (by repeat (first | (with_reducible exact Take.nil _) | (apply Take.cons (by first | ((repeat (first | (with_reducible exact F0 _) | apply F1)); done) | (repeat (first | exact F0 _ | apply F1)))))) (rdWhich_ctr (how := 2) (a := (eventOf za)) (b := (eventOf zb)) hd_gl1 hmg (by omega)) (Wt.yes rfl rfl rfl) rfl ?_
  rintro _ _ ⟨r3, d3, rfl, hA_⟩
  replace hA_ := hA_.symm; subst hA_
  rw [whichM_2]
  refine RunL.nilD' ?_
  refine RunD.one (i := 25) (by kernel_rfl) rfl ?_
  refine RunL.call rfl rfl (by rfl) (by repeat (first | (with_reducible exact Take.nil _) | (apply Take.cons (by first | ((repeat (first | (with_reducible exact F0 _) | apply F1)); done) | (repeat (first | exact F0 _ | apply F1)))))) ((Ctr.lend2 (Q1 := Sl 9 1 a3 ((whichL (madeL (⟨#[33, 114, 58, 115, 49]⟩ : ByteArray) xs) (fun x => ancOf (madeL (⟨#[33, 114, 58, 115, 49]⟩ : ByteArray) xs) (eventOf za) x && ancOf (madeL (⟨#[33, 114, 58, 115, 49]⟩ : ByteArray) xs) (eventOf zb) x))).length c3 (((whichL (madeL (⟨#[33, 114, 58, 115, 49]⟩ : ByteArray) xs) (fun x => ancOf (madeL (⟨#[33, 114, 58, 115, 49]⟩ : ByteArray) xs) (eventOf za) x && ancOf (madeL (⟨#[33, 114, 58, 115, 49]⟩ : ByteArray) xs) (eventOf zb) x))).map Value.string)) (Q2 := Sl 9 1 r3 ((whichL (madeL (⟨#[33, 114, 58, 115, 49]⟩ : ByteArray) xs) (fun x => ancOf (madeL (⟨#[33, 114, 58, 115, 49]⟩ : ByteArray) xs) (eventOf za) x && ancOf (madeL (⟨#[33, 114, 58, 115, 49]⟩ : ByteArray) xs) (eventOf zb) x))).length d3 (((whichL (madeL (⟨#[33, 114, 58, 115, 49]⟩ : ByteArray) xs) (fun x => ancOf (madeL (⟨#[33, 114, 58, 115, 49]⟩ : ByteArray) xs) (eventOf za) x && ancOf (madeL (⟨#[33, 114, 58, 115, 49]⟩ : ByteArray) xs) (eventOf zb) x))).map Value.string)) (R1 := fun G => SlR G 9 1 _ _ _ ∧ _ ≤ _) (R2 := fun G => SlR G 9 1 _ _ _ ∧ _ ≤ _) Lends.Sl Lends.Sl cb23 (fun G G' h q => ⟨q.1.mono h, q.2⟩) (fun G' hle hr hr2 => TextsR_ctr hr.1 hr2.1 (by have := whichL_len (madeL (⟨#[33, 114, 58, 115, 49]⟩ : ByteArray) xs) (fun x => ancOf (madeL (⟨#[33, 114, 58, 115, 49]⟩ : ByteArray) xs) (eventOf za) x && ancOf (madeL (⟨#[33, 114, 58, 115, 49]⟩ : ByteArray) xs) (eventOf zb) x); omega)))) (Wt.yes rfl rfl rfl) rfl ?_
  rintro _ _ ⟨_, rfl, rfl, hA_⟩
  replace hA_ := hA_.symm; subst hA_
  refine RunL.nilD' ?_
  refine RunD.pure (i := 26) hok59 rfl (by kernel_rfl) (Pure.pickT rfl rfl) (Wt.none rfl) rfl rfl ?_
  refine RunD.pure (i := 27) hok59 rfl (by kernel_rfl) (Pure.move rfl) (Wt.none rfl) rfl rfl ?_
  refine RunD.split (d := 54) rfl (fun hg3 => ?_) (fun hg3 => ?_)
  rotate_left
  · try simp only [ZA, ZB, ZC, ZD, ZE, ZF, ZG, ZH, ZI, ZJ, ZK, ZL, ZM, ZN, ZO, ZP, ZQ, ZR] at hg3
    exfalso
    first | exact hg3 rfl | exact hg3 trivial | (simp at hg3; done)
  try simp only [ZA, ZB, ZC, ZD, ZE, ZF, ZG, ZH, ZI, ZJ, ZK, ZL, ZM, ZN, ZO, ZP, ZQ, ZR] at hg3
  refine RunD.pure (i := 28) hok59 rfl (by kernel_rfl) (Pure.move rfl) (Wt.yes rfl rfl rfl) rfl rfl ?_
  refine RunD.one (i := 29) (by kernel_rfl) rfl ?_
  refine RunL.call rfl rfl (by rfl) (by repeat (first | (with_reducible exact Take.nil _) | (apply Take.cons (by first | ((repeat (first | (with_reducible exact F0 _) | apply F1)); done) | (repeat (first | exact F0 _ | apply F1)))))) (Ancestors_ctr hx) (Wt.yes rfl rfl rfl) rfl ?_
  rintro _ _ ⟨n1, m1, rfl, hA_⟩
  replace hA_ := hA_.symm; subst hA_
  rw [which_nil (fun x => by rw [ancOf_none made_none])]
  refine RunL.nilD' ?_
  refine RunD.pure (i := 30) hok59 rfl (by kernel_rfl) (Pure.lenSl rfl rfl und31) (Wt.yes rfl rfl rfl) rfl rfl ?_
  refine RunD.pure (i := 31) hok59 rfl (by kernel_rfl) (Pure.eql rfl rfl) (Wt.yes rfl rfl rfl) rfl rfl ?_
  refine RunD.pure (i := 32) hok59 rfl (by kernel_rfl) (Pure.pickT rfl rfl) (Wt.none rfl) rfl rfl ?_
  refine RunD.pure (i := 33) hok59 rfl (by kernel_rfl) (Pure.move rfl) (Wt.none rfl) rfl rfl ?_
  refine RunD.split (d := 60) rfl (fun hg4 => ?_) (fun hg4 => ?_)
  rotate_left
  · try simp only [ZA, ZB, ZC, ZD, ZE, ZF, ZG, ZH, ZI, ZJ, ZK, ZL, ZM, ZN, ZO, ZP, ZQ, ZR] at hg4
    exfalso
    first | exact hg4 rfl | exact hg4 trivial | (simp at hg4; done)
  try simp only [ZA, ZB, ZC, ZD, ZE, ZF, ZG, ZH, ZI, ZJ, ZK, ZL, ZM, ZN, ZO, ZP, ZQ, ZR] at hg4
  refine RunD.pure (i := 34) hok59 rfl (by kernel_rfl) (Pure.move rfl) (Wt.yes rfl rfl rfl) rfl rfl ?_
  refine RunD.one (i := 35) (by kernel_rfl) rfl ?_
  refine RunL.call rfl rfl (by rfl) (by repeat (first | (with_reducible exact Take.nil _) | (apply Take.cons (by first | ((repeat (first | (with_reducible exact F0 _) | apply F1)); done) | (repeat (first | exact F0 _ | apply F1)))))) (Behind_ctr hx) (Wt.yes rfl rfl rfl) rfl ?_
  rintro _ _ ⟨n2, m2, rfl, hA_⟩
  replace hA_ := hA_.symm; subst hA_
  rw [which_nil (fun x => hmg.anc_no made_none x)]
  refine RunL.nilD' ?_
  refine RunD.pure (i := 36) hok59 rfl (by kernel_rfl) (Pure.lenSl rfl rfl und31) (Wt.yes rfl rfl rfl) rfl rfl ?_
  refine RunD.pure (i := 37) hok59 rfl (by kernel_rfl) (Pure.eql rfl rfl) (Wt.yes rfl rfl rfl) rfl rfl ?_
  refine RunD.pure (i := 38) hok59 rfl (by kernel_rfl) (Pure.pickT rfl rfl) (Wt.none rfl) rfl rfl ?_
  refine RunD.pure (i := 39) hok59 rfl (by kernel_rfl) (Pure.move rfl) (Wt.none rfl) rfl rfl ?_
  refine RunD.split (d := 66) rfl (fun hg5 => ?_) (fun hg5 => ?_)
  rotate_left
  · try simp only [ZA, ZB, ZC, ZD, ZE, ZF, ZG, ZH, ZI, ZJ, ZK, ZL, ZM, ZN, ZO, ZP, ZQ, ZR] at hg5
    exfalso
    first | exact hg5 rfl | exact hg5 trivial | (simp at hg5; done)
  try simp only [ZA, ZB, ZC, ZD, ZE, ZF, ZG, ZH, ZI, ZJ, ZK, ZL, ZM, ZN, ZO, ZP, ZQ, ZR] at hg5
  refine RunD.pure (i := 40) hok59 rfl (by kernel_rfl) (Pure.move rfl) (Wt.yes rfl rfl rfl) rfl rfl ?_
  refine RunD.pure (i := 41) hok59 rfl (by kernel_rfl) (Pure.move rfl) (Wt.yes rfl rfl rfl) rfl rfl ?_
  refine RunD.one (i := 42) (by kernel_rfl) rfl ?_
  refine RunL.call rfl rfl (by rfl) (by repeat (first | (with_reducible exact Take.nil _) | (apply Take.cons (by first | ((repeat (first | (with_reducible exact F0 _) | apply F1)); done) | (repeat (first | exact F0 _ | apply F1)))))) (Common_ctr hx) (Wt.yes rfl rfl rfl) rfl ?_
  rintro _ _ ⟨n3, m3, rfl, hA_⟩
  replace hA_ := hA_.symm; subst hA_
  rw [which_nil (fun x => by rw [ancOf_none made_none, Bool.and_false])]
  refine RunL.nilD' ?_
  refine RunD.pure (i := 43) hok59 rfl (by kernel_rfl) (Pure.lenSl rfl rfl und31) (Wt.yes rfl rfl rfl) rfl rfl ?_
  refine RunD.pure (i := 44) hok59 rfl (by kernel_rfl) (Pure.eql rfl rfl) (Wt.yes rfl rfl rfl) rfl rfl ?_
  refine RunD.pure (i := 45) hok59 rfl (by kernel_rfl) (Pure.pickT rfl rfl) (Wt.none rfl) rfl rfl ?_
  refine RunD.pure (i := 46) hok59 rfl (by kernel_rfl) (Pure.move rfl) (Wt.none rfl) rfl rfl ?_
  refine RunD.split (d := 73) rfl (fun hg6 => ?_) (fun hg6 => ?_)
  rotate_left
  · try simp only [ZA, ZB, ZC, ZD, ZE, ZF, ZG, ZH, ZI, ZJ, ZK, ZL, ZM, ZN, ZO, ZP, ZQ, ZR] at hg6
    exfalso
    first | exact hg6 rfl | exact hg6 trivial | (simp at hg6; done)
  try simp only [ZA, ZB, ZC, ZD, ZE, ZF, ZG, ZH, ZI, ZJ, ZK, ZL, ZM, ZN, ZO, ZP, ZQ, ZR] at hg6
  refine RunD.one (i := 47) (by kernel_rfl) rfl ?_
  refine RunL.call rfl rfl (by rfl) (by repeat (first | (with_reducible exact Take.nil _) | (apply Take.cons (by first | ((repeat (first | (with_reducible exact F0 _) | apply F1)); done) | (repeat (first | exact F0 _ | apply F1)))))) (lives_ctr) (Wt.yes rfl rfl rfl) rfl ?_
  rintro _ _ ⟨rfl, hA_⟩
  replace hA_ := hA_.symm; subst hA_
  refine RunL.nilD' ?_
  refine RunD.pure (i := 48) hok59 rfl (by kernel_rfl) (Pure.pickT rfl rfl) (Wt.none rfl) rfl rfl ?_
  refine RunD.pure (i := 49) hok59 rfl (by kernel_rfl) (Pure.assign rfl) (Wt.none rfl) rfl rfl ?_
  refine RunD.nilB (by kernel_rfl) (fun w sw => backgl1 _ _ (sw)) ?_
  exact Run.ret Tryz.func6 (res1 rfl rfl) (by exact ⟨rfl, rfl⟩) (by repeat (first | (with_reducible exact Fin.done (by repeat (first | (with_reducible exact Rest.here) | apply Rest.there))) | (apply Fin.cons (by first | ((repeat (first | (with_reducible exact F0 _) | apply F1)); done) | (repeat (first | exact F0 _ | apply F1))))))

end Go.Proofs.YtcmkafellcfbeaaGreat
