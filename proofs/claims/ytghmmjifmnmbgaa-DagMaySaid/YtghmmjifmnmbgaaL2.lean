/- Which events may be. -/
import Derived.Test.YtghmmjifmnmbgaaL1
set_option linter.unusedVariables false
set_option linter.unusedSimpArgs false
set_option linter.unusedSectionVars false
namespace Go.Proofs.Ytghmmjifmnmbgaa
open Go Csl


set_option maxHeartbeats 8000000 in
set_option maxRecDepth 100000 in
theorem DagMay_ctr {G : Gp} {e : Evn} {k w : Int} (hpi : PsIn G e) (hdo : -9223372036854775808 ≤ e.does ∧ e.does ≤ 9223372036854775807) {ag : Option Addr} {cg : Nat} {gs : List GG} (hgs : SlR G 66 4 ag gs.length (gs.flatMap cGG)) (hgi : GsIn G gs)  (hkw : -9223372036854775808 ≤ k ∧ k ≤ 9223372036854775807) (hww : -9223372036854775808 ≤ w ∧ w ≤ 9223372036854775807) :
    Ctr Try.prog G 3 [.agg (cEvn e).toArray, .slice ag gs.length cg, .int .i64 k, .int .i64 w] [] (fun F v A => v = .bool true ∧ A = F) := by
  refine Ctr.intro Try.func3 rfl (by kernel_rfl) rfl (fun F => ?_)
  simp only [List.nil_append]
  obtain ⟨ps, hp⟩ := hpi
  obtain ⟨xs, hxs, hgx⟩ := hgi
  have hgsx : SlR G 66 4 ag xs.length (xs.flatMap cGX) := by rw [← hxs, List.length_map, gx_flat] at hgs; exact hgs
  have hgl : gs.length = xs.length := by rw [← hxs, List.length_map]
  have hmg := madeL_good (room := (⟨#[33, 114, 58, 115, 49]⟩ : ByteArray)) (by decide +kernel) xs
  have hml := madeL_len (⟨#[33, 114, 58, 115, 49]⟩ : ByteArray) xs
  have hmw := madeL_sm (room := (⟨#[33, 114, 58, 115, 49]⟩ : ByteArray)) (by decide) xs
  have hmf : ∀ v ∈ (madeL (⟨#[33, 114, 58, 115, 49]⟩ : ByteArray) xs), evWf v := fun v hv => (hmw v hv).wf
  refine Run.sr ?_
  refine RunL.boxA (xs := (cEvn e)) rfl (Wt.none rfl) rfl ?_; intro b4
  refine RunL.as rfl rfl ?_
  refine RunL.nil ?_
  refine Run.lendAll (Q := row b4 24 _) Lends.row (by first | ((repeat (first | (with_reducible exact F0 _) | apply F1)); done) | (repeat (first | exact F0 _ | apply F1))) (fun G4 hleG4 hrb4 => ?_)
  replace hp := hp.mono hleG4
  replace hgsx := hgsx.mono hleG4
  replace hgx := hgx.mono hleG4
  refine Run.sr ?_
  first | refine RunL.loadA (vs := (cEvn e)) rfl (by first | ((repeat (first | (with_reducible exact F0 _) | apply F1)); done) | (repeat (first | exact F0 _ | apply F1))) agg24 sz24 (by first | exact Nat.le_of_ble_eq_true rfl | (simp; done) | (simp; omega)) rfl (Wt.none rfl) rfl ?_ | refine RunL.loadNR (vs := (cEvn e)) rfl (by assumption) agg24 sz24 (by first | exact Nat.le_of_ble_eq_true rfl | (simp; done) | (simp; omega)) rfl (Wt.none rfl) rfl ?_
  refine RunL.call rfl rfl (by rfl) (by repeat (first | (with_reducible exact Take.nil _) | (apply Take.cons (by first | ((repeat (first | (with_reducible exact F0 _) | apply F1)); done) | (repeat (first | exact F0 _ | apply F1)))))) (rdFew_ctr hp) (Wt.none rfl) rfl ?_
  rintro _ _ ⟨a1, c1, rfl, hA_⟩
  replace hA_ := hA_.symm; subst hA_
  refine RunL.alloc zz24 (Wt.none rfl) rfl ?_; intro b9
  refine RunL.storeW (xs := (cEvn (((fewEv (e.ev ps)).evn ⟨a1, (fewPs ps).length, c1⟩)))) rfl rfl (by first | ((repeat (first | (with_reducible exact F0 _) | apply F1)); done) | (repeat (first | exact F0 _ | apply F1))) sz24 (by rfl) (by rfl) (by rfl) (Wt.none rfl) ?_
  refine RunL.nil ?_
  refine Run.lendAll (Q := Sl 9 1 a1 (fewPs ps).length c1 ((fewPs ps).map Value.string)) Lends.Sl (by first | ((repeat (first | (with_reducible exact F0 _) | apply F1)); done) | (repeat (first | exact F0 _ | apply F1))) (fun Ghfs hleGhfs hfs => ?_)
  replace hp := hp.mono hleGhfs
  replace hgsx := hgsx.mono hleGhfs
  replace hgx := hgx.mono hleGhfs
  replace hrb4 := hrb4.mono hleGhfs
  have hfo : HasPs Ghfs ((fewEv (e.ev ps)).evn ⟨a1, (fewPs ps).length, c1⟩) (fewEv (e.ev ps)).ps := ⟨rfl, hfs.1⟩
  have hfw := (few_sm (v := e.ev ps) hdo).wf
  refine Run.seq ?_
  refine Run.cut (fun e_ A => ∃ (b10 : Nat) (K : Hp) (s : Sli), HasPs (gk K) ((oddEv (⟨#[33, 114, 58, 115, 49]⟩ : ByteArray) (madeL (⟨#[33, 114, 58, 115, 49]⟩ : ByteArray) xs) k w (e.ev ps)).evn s) (oddEv (⟨#[33, 114, 58, 115, 49]⟩ : ByteArray) (madeL (⟨#[33, 114, 58, 115, 49]⟩ : ByteArray) xs) k w (e.ev ps)).ps ∧ e_ = [(9, .pointer (some ⟨b9, 0, none⟩)), (10, .pointer (some ⟨b10, 0, none⟩))] ∧ A = row b10 24 (cEvn ((oddEv (⟨#[33, 114, 58, 115, 49]⟩ : ByteArray) (madeL (⟨#[33, 114, 58, 115, 49]⟩ : ByteArray) xs) k w (e.ev ps)).evn s)) :: row b9 24 (cEvn ((fewEv (e.ev ps)).evn ⟨a1, (fewPs ps).length, c1⟩)) :: Pool K :: F) (fun e A hM => ?_) (fun hk => ?_)
  · obtain ⟨b10, K, s, hso0, rfl, hA_⟩ := hM
    replace hA_ := hA_.symm; subst hA_
    refine Run.lendAll (Q := Pool K) Lends.Pool (by first | ((repeat (first | (with_reducible exact F0 _) | apply F1)); done) | (repeat (first | exact F0 _ | apply F1))) (fun GhK hleGhK hK => ?_)
    replace hp := hp.mono hleGhK
    replace hgsx := hgsx.mono hleGhK
    replace hgx := hgx.mono hleGhK
    replace hrb4 := hrb4.mono hleGhK
    replace hfo := hfo.mono hleGhK
    have hso := HasPs.hp (G' := GhK) hso0 hK
    have how := (odd_sm (room := (⟨#[33, 114, 58, 115, 49]⟩ : ByteArray)) (l := (madeL (⟨#[33, 114, 58, 115, 49]⟩ : ByteArray) xs)) (k := k) (w := w) (r := e.ev ps) (by decide) hmw hdo).wf
    refine Run.seq ?_
    refine Run.regionD' (by kernel_rfl) (by kernel_rfl) (fun hok36 => ?_)
    refine RunD.lend (Q := row b9 24 _) Lends.row (by first | ((repeat (first | (with_reducible exact F0 _) | apply F1)); done) | (repeat (first | exact F0 _ | apply F1))) ?_; intro gl1 hlegl1 hl1 backgl1
    have hp_gl1 := hp.mono hlegl1
    have hgsx_gl1 := hgsx.mono hlegl1
    have hgx_gl1 := hgx.mono hlegl1
    have hrb4_gl1 := hrb4.mono hlegl1
    have hfo_gl1 := hfo.mono hlegl1
    have hso_gl1 := hso.mono hlegl1
    refine RunD.lend (Q := row b10 24 _) Lends.row (by first | ((repeat (first | (with_reducible exact F0 _) | apply F1)); done) | (repeat (first | exact F0 _ | apply F1))) ?_; intro gl2 hlegl2 hl2 backgl2
    have hl1 := hl1.mono hlegl2
    have hp_gl2 := hp_gl1.mono hlegl2
    have hgsx_gl2 := hgsx_gl1.mono hlegl2
    have hgx_gl2 := hgx_gl1.mono hlegl2
    have hrb4_gl2 := hrb4_gl1.mono hlegl2
    have hfo_gl2 := hfo_gl1.mono hlegl2
    have hso_gl2 := hso_gl1.mono hlegl2
    refine RunD.loadNR (vs := (cEvn (((fewEv (e.ev ps)).evn ⟨a1, (fewPs ps).length, c1⟩)))) (i := 0) hok36 rfl (by kernel_rfl) rfl (by assumption) agg24 sz24 (by first | exact Nat.le_of_ble_eq_true rfl | (simp; done) | (simp; omega)) rfl (Wt.none rfl) rfl ?_
    refine RunD.loadNR (vs := (cEvn (((fewEv (e.ev ps)).evn ⟨a1, (fewPs ps).length, c1⟩)))) (i := 2) hok36 rfl (by kernel_rfl) rfl (by assumption) agg24 sz24 (by first | exact Nat.le_of_ble_eq_true rfl | (simp; done) | (simp; omega)) rfl (Wt.none rfl) rfl ?_
    refine RunD.one (i := 1) (by kernel_rfl) rfl ?_
    refine RunL.call rfl rfl (by rfl) (by repeat (first | (with_reducible exact Take.nil _) | (apply Take.cons (by first | ((repeat (first | (with_reducible exact F0 _) | apply F1)); done) | (repeat (first | exact F0 _ | apply F1)))))) (dMay_ctr hfo_gl2 (by show ((fewEv (e.ev ps))).ps.length ≤ _; have := hfw.2.2; omega) hfw.1 hfw.2.1) (Wt.none rfl) rfl ?_
    rintro _ _ ⟨rfl, hA_⟩
    replace hA_ := hA_.symm; subst hA_
    refine RunL.nilD' ?_
    refine RunD.one (i := 3) (by kernel_rfl) rfl ?_
    refine RunL.call rfl rfl (by rfl) (by repeat (first | (with_reducible exact Take.nil _) | (apply Take.cons (by first | ((repeat (first | (with_reducible exact F0 _) | apply F1)); done) | (repeat (first | exact F0 _ | apply F1)))))) (rdMay_ctr hfo_gl2 (by show ((fewEv (e.ev ps))).ps.length ≤ _; have := hfw.2.2; omega) hfw.1 hfw.2.1) (Wt.none rfl) rfl ?_
    rintro _ _ ⟨rfl, hA_⟩
    replace hA_ := hA_.symm; subst hA_
    refine RunL.nilD' ?_
    refine RunD.pure (i := 4) hok36 rfl (by kernel_rfl) (Pure.beql rfl rfl und4) (Wt.none rfl) rfl rfl ?_
    refine RunD.pure (i := 5) hok36 rfl (by kernel_rfl) (Pure.move rfl) (Wt.none rfl) rfl rfl ?_
    refine RunD.split (d := 24) rfl (fun hg1 => ?_) (fun hg1 => ?_)
    rotate_left
    · try simp only [ZA, ZB, ZC, ZD, ZE, ZF, ZG, ZH, ZI, ZJ, ZK, ZL, ZM, ZN, ZO, ZP, ZQ, ZR] at hg1
      exfalso
      simp at hg1
    try simp only [ZA, ZB, ZC, ZD, ZE, ZF, ZG, ZH, ZI, ZJ, ZK, ZL, ZM, ZN, ZO, ZP, ZQ, ZR] at hg1
    refine RunD.loadNR (vs := (cEvn (((oddEv (⟨#[33, 114, 58, 115, 49]⟩ : ByteArray) (madeL (⟨#[33, 114, 58, 115, 49]⟩ : ByteArray) xs) k w (e.ev ps)).evn s)))) (i := 6) hok36 rfl (by kernel_rfl) rfl (by assumption) agg24 sz24 (by first | exact Nat.le_of_ble_eq_true rfl | (simp; done) | (simp; omega)) rfl (Wt.yes rfl rfl rfl) rfl ?_
    refine RunD.loadNR (vs := (cEvn (((oddEv (⟨#[33, 114, 58, 115, 49]⟩ : ByteArray) (madeL (⟨#[33, 114, 58, 115, 49]⟩ : ByteArray) xs) k w (e.ev ps)).evn s)))) (i := 8) hok36 rfl (by kernel_rfl) rfl (by assumption) agg24 sz24 (by first | exact Nat.le_of_ble_eq_true rfl | (simp; done) | (simp; omega)) rfl (Wt.yes rfl rfl rfl) rfl ?_
    refine RunD.one (i := 7) (by kernel_rfl) rfl ?_
    refine RunL.call rfl rfl (by rfl) (by repeat (first | (with_reducible exact Take.nil _) | (apply Take.cons (by first | ((repeat (first | (with_reducible exact F0 _) | apply F1)); done) | (repeat (first | exact F0 _ | apply F1)))))) (dMay_ctr hso_gl2 (by show ((oddEv (⟨#[33, 114, 58, 115, 49]⟩ : ByteArray) (madeL (⟨#[33, 114, 58, 115, 49]⟩ : ByteArray) xs) k w (e.ev ps))).ps.length ≤ _; have := how.2.2; omega) how.1 how.2.1) (Wt.yes rfl rfl rfl) rfl ?_
    rintro _ _ ⟨rfl, hA_⟩
    replace hA_ := hA_.symm; subst hA_
    refine RunL.nilD' ?_
    refine RunD.one (i := 9) (by kernel_rfl) rfl ?_
    refine RunL.call rfl rfl (by rfl) (by repeat (first | (with_reducible exact Take.nil _) | (apply Take.cons (by first | ((repeat (first | (with_reducible exact F0 _) | apply F1)); done) | (repeat (first | exact F0 _ | apply F1)))))) (rdMay_ctr hso_gl2 (by show ((oddEv (⟨#[33, 114, 58, 115, 49]⟩ : ByteArray) (madeL (⟨#[33, 114, 58, 115, 49]⟩ : ByteArray) xs) k w (e.ev ps))).ps.length ≤ _; have := how.2.2; omega) how.1 how.2.1) (Wt.yes rfl rfl rfl) rfl ?_
    rintro _ _ ⟨rfl, hA_⟩
    replace hA_ := hA_.symm; subst hA_
    refine RunL.nilD' ?_
    refine RunD.pure (i := 10) hok36 rfl (by kernel_rfl) (Pure.beql rfl rfl und4) (Wt.yes rfl rfl rfl) rfl rfl ?_
    refine RunD.pure (i := 11) hok36 rfl (by kernel_rfl) (Pure.pickT rfl rfl) (Wt.none rfl) rfl rfl ?_
    refine RunD.pure (i := 12) hok36 rfl (by kernel_rfl) (Pure.move rfl) (Wt.none rfl) rfl rfl ?_
    refine RunD.split (d := 31) rfl (fun hg2 => ?_) (fun hg2 => ?_)
    rotate_left
    · try simp only [ZA, ZB, ZC, ZD, ZE, ZF, ZG, ZH, ZI, ZJ, ZK, ZL, ZM, ZN, ZO, ZP, ZQ, ZR] at hg2
      exfalso
      simp at hg2
    try simp only [ZA, ZB, ZC, ZD, ZE, ZF, ZG, ZH, ZI, ZJ, ZK, ZL, ZM, ZN, ZO, ZP, ZQ, ZR] at hg2
    refine RunD.loadNR (vs := (cEvn (((fewEv (e.ev ps)).evn ⟨a1, (fewPs ps).length, c1⟩)))) (i := 13) hok36 rfl (by kernel_rfl) rfl (by assumption) agg24 sz24 (by first | exact Nat.le_of_ble_eq_true rfl | (simp; done) | (simp; omega)) rfl (Wt.yes rfl rfl rfl) rfl ?_
    refine RunD.loadNR (vs := (cEvn (((oddEv (⟨#[33, 114, 58, 115, 49]⟩ : ByteArray) (madeL (⟨#[33, 114, 58, 115, 49]⟩ : ByteArray) xs) k w (e.ev ps)).evn s)))) (i := 14) hok36 rfl (by kernel_rfl) rfl (by assumption) agg24 sz24 (by first | exact Nat.le_of_ble_eq_true rfl | (simp; done) | (simp; omega)) rfl (Wt.yes rfl rfl rfl) rfl ?_
    refine RunD.loadNR (vs := (cEvn (((fewEv (e.ev ps)).evn ⟨a1, (fewPs ps).length, c1⟩)))) (i := 16) hok36 rfl (by kernel_rfl) rfl (by assumption) agg24 sz24 (by first | exact Nat.le_of_ble_eq_true rfl | (simp; done) | (simp; omega)) rfl (Wt.yes rfl rfl rfl) rfl ?_
    refine RunD.loadNR (vs := (cEvn (((oddEv (⟨#[33, 114, 58, 115, 49]⟩ : ByteArray) (madeL (⟨#[33, 114, 58, 115, 49]⟩ : ByteArray) xs) k w (e.ev ps)).evn s)))) (i := 17) hok36 rfl (by kernel_rfl) rfl (by assumption) agg24 sz24 (by first | exact Nat.le_of_ble_eq_true rfl | (simp; done) | (simp; omega)) rfl (Wt.yes rfl rfl rfl) rfl ?_
    refine RunD.one (i := 15) (by kernel_rfl) rfl ?_
    refine RunL.call rfl rfl (by rfl) (by repeat (first | (with_reducible exact Take.nil _) | (apply Take.cons (by first | ((repeat (first | (with_reducible exact F0 _) | apply F1)); done) | (repeat (first | exact F0 _ | apply F1)))))) (dSame_ctr (ps := (fewEv (e.ev ps)).ps) (qs := (oddEv (⟨#[33, 114, 58, 115, 49]⟩ : ByteArray) (madeL (⟨#[33, 114, 58, 115, 49]⟩ : ByteArray) xs) k w (e.ev ps)).ps) hfo_gl2 hso_gl2 (by first | (show (fewPs ps).length ≤ _; have := fewPs_len ps; omega) | (have := how.2.2; omega))) (Wt.yes rfl rfl rfl) rfl ?_
    rintro _ _ ⟨rfl, hA_⟩
    replace hA_ := hA_.symm; subst hA_
    rw [evSame_eq, ev_evn]
    try rw [ev_evn]
    refine RunL.nilD' ?_
    refine RunD.one (i := 18) (by kernel_rfl) rfl ?_
    refine RunL.call rfl rfl (by rfl) (by repeat (first | (with_reducible exact Take.nil _) | (apply Take.cons (by first | ((repeat (first | (with_reducible exact F0 _) | apply F1)); done) | (repeat (first | exact F0 _ | apply F1)))))) (rdSame_ctr (ps := (fewEv (e.ev ps)).ps) (qs := (oddEv (⟨#[33, 114, 58, 115, 49]⟩ : ByteArray) (madeL (⟨#[33, 114, 58, 115, 49]⟩ : ByteArray) xs) k w (e.ev ps)).ps) hfo_gl2 hso_gl2 (by first | (show (fewPs ps).length ≤ _; have := fewPs_len ps; omega) | (have := how.2.2; omega))) (Wt.yes rfl rfl rfl) rfl ?_
    rintro _ _ ⟨rfl, hA_⟩
    replace hA_ := hA_.symm; subst hA_
    rw [evSame_eq, ev_evn]
    try rw [ev_evn]
    refine RunL.nilD' ?_
    refine RunD.pure (i := 19) hok36 rfl (by kernel_rfl) (Pure.beql rfl rfl und4) (Wt.yes rfl rfl rfl) rfl rfl ?_
    refine RunD.pure (i := 20) hok36 rfl (by kernel_rfl) (Pure.pickT rfl rfl) (Wt.none rfl) rfl rfl ?_
    refine RunD.pure (i := 21) hok36 rfl (by kernel_rfl) (Pure.move rfl) (Wt.none rfl) rfl rfl ?_
    refine RunD.split (d := 40) rfl (fun hg3 => ?_) (fun hg3 => ?_)
    rotate_left
    · try simp only [ZA, ZB, ZC, ZD, ZE, ZF, ZG, ZH, ZI, ZJ, ZK, ZL, ZM, ZN, ZO, ZP, ZQ, ZR] at hg3
      exfalso
      simp at hg3
    try simp only [ZA, ZB, ZC, ZD, ZE, ZF, ZG, ZH, ZI, ZJ, ZK, ZL, ZM, ZN, ZO, ZP, ZQ, ZR] at hg3
    refine RunD.loadNR (vs := (cEvn (((oddEv (⟨#[33, 114, 58, 115, 49]⟩ : ByteArray) (madeL (⟨#[33, 114, 58, 115, 49]⟩ : ByteArray) xs) k w (e.ev ps)).evn s)))) (i := 22) hok36 rfl (by kernel_rfl) rfl (by assumption) agg24 sz24 (by first | exact Nat.le_of_ble_eq_true rfl | (simp; done) | (simp; omega)) rfl (Wt.yes rfl rfl rfl) rfl ?_
    refine RunD.loadNR (vs := (cEvn (((oddEv (⟨#[33, 114, 58, 115, 49]⟩ : ByteArray) (madeL (⟨#[33, 114, 58, 115, 49]⟩ : ByteArray) xs) k w (e.ev ps)).evn s)))) (i := 23) hok36 rfl (by kernel_rfl) rfl (by assumption) agg24 sz24 (by first | exact Nat.le_of_ble_eq_true rfl | (simp; done) | (simp; omega)) rfl (Wt.yes rfl rfl rfl) rfl ?_
    refine RunD.one (i := 24) (by kernel_rfl) rfl ?_
    refine RunL.call rfl rfl (by rfl) (by repeat (first | (with_reducible exact Take.nil _) | (apply Take.cons (by first | ((repeat (first | (with_reducible exact F0 _) | apply F1)); done) | (repeat (first | exact F0 _ | apply F1)))))) (dSame_ctr (ps := (oddEv (⟨#[33, 114, 58, 115, 49]⟩ : ByteArray) (madeL (⟨#[33, 114, 58, 115, 49]⟩ : ByteArray) xs) k w (e.ev ps)).ps) (qs := (oddEv (⟨#[33, 114, 58, 115, 49]⟩ : ByteArray) (madeL (⟨#[33, 114, 58, 115, 49]⟩ : ByteArray) xs) k w (e.ev ps)).ps) hso_gl2 hso_gl2 (by first | (show (fewPs ps).length ≤ _; have := fewPs_len ps; omega) | (have := how.2.2; omega))) (Wt.yes rfl rfl rfl) rfl ?_
    rintro _ _ ⟨rfl, hA_⟩
    replace hA_ := hA_.symm; subst hA_
    rw [evSame_eq, ev_evn]
    try rw [ev_evn]
    refine RunL.nilD' ?_
    refine RunD.pure (i := 25) hok36 rfl (by kernel_rfl) (Pure.pickT rfl rfl) (Wt.none rfl) rfl rfl ?_
    refine RunD.pure (i := 26) hok36 rfl (by kernel_rfl) (Pure.move rfl) (Wt.none rfl) rfl rfl ?_
    refine RunD.split (d := 45) rfl (fun hg4 => ?_) (fun hg4 => ?_)
    rotate_left
    · try simp only [ZA, ZB, ZC, ZD, ZE, ZF, ZG, ZH, ZI, ZJ, ZK, ZL, ZM, ZN, ZO, ZP, ZQ, ZR] at hg4
      exfalso
      simp at hg4
    try simp only [ZA, ZB, ZC, ZD, ZE, ZF, ZG, ZH, ZI, ZJ, ZK, ZL, ZM, ZN, ZO, ZP, ZQ, ZR] at hg4
    refine RunD.one (i := 27) (by kernel_rfl) rfl ?_
    refine RunL.call rfl rfl (by rfl) (by repeat (first | (with_reducible exact Take.nil _) | (apply Take.cons (by first | ((repeat (first | (with_reducible exact F0 _) | apply F1)); done) | (repeat (first | exact F0 _ | apply F1)))))) (lives_ctr) (Wt.yes rfl rfl rfl) rfl ?_
    rintro _ _ ⟨rfl, hA_⟩
    replace hA_ := hA_.symm; subst hA_
    refine RunL.nilD' ?_
    refine RunD.pure (i := 28) hok36 rfl (by kernel_rfl) (Pure.pickT rfl rfl) (Wt.none rfl) rfl rfl ?_
    refine RunD.pure (i := 29) hok36 rfl (by kernel_rfl) (Pure.assign rfl) (Wt.none rfl) rfl rfl ?_
    refine RunD.nilB (by kernel_rfl) (fun w sw => backgl1 _ _ (backgl2 _ _ (sw))) ?_
    exact Run.ret Try.func3 (res1 rfl rfl) (by exact ⟨rfl, rfl⟩) (by repeat (first | (with_reducible exact Fin.done (by repeat (first | (with_reducible exact Rest.here) | apply Rest.there))) | (apply Fin.cons (by first | ((repeat (first | (with_reducible exact F0 _) | apply F1)); done) | (repeat (first | exact F0 _ | apply F1))))))
  · skip
    refine Run.regionD' (by kernel_rfl) (by kernel_rfl) (fun hok147 => ?_)
    refine RunD.pure (i := 0) hok147 rfl (by kernel_rfl) (Pure.move rfl) (Wt.none rfl) rfl rfl ?_
    refine RunD.pure (i := 2) hok147 rfl (by kernel_rfl) (Pure.move rfl) (Wt.none rfl) rfl rfl ?_
    refine RunD.pure (i := 3) hok147 rfl (by kernel_rfl) (Pure.move rfl) (Wt.none rfl) rfl rfl ?_
    refine RunD.loadNR (vs := (cEvn e)) (i := 4) hok147 rfl (by kernel_rfl) rfl (by assumption) agg24 sz24 (by first | exact Nat.le_of_ble_eq_true rfl | (simp; done) | (simp; omega)) rfl (Wt.none rfl) rfl ?_
    refine RunD.two (i := 1) (j := 6) (by kernel_rfl) rfl rfl ?_ ?_
    · skip
      rw [hgl]
      refine RunL.call rfl rfl (by rfl) (by repeat (first | (with_reducible exact Take.nil _) | (apply Take.cons (by first | ((repeat (first | (with_reducible exact F0 _) | apply F1)); done) | (repeat (first | exact F0 _ | apply F1)))))) (rdMade_ctr (room := (⟨#[33, 114, 58, 115, 49]⟩ : ByteArray)) (xs := xs) (by decide +kernel) (by decide) hgsx hgx) (Wt.none rfl) rfl ?_
      rintro _ _ ⟨K, D, hD, rfl, hA_⟩
      replace hA_ := hA_.symm; subst hA_
      refine RunL.nilD' ?_
      refine RunD.two (i := 5) (j := 6) (by kernel_rfl) rfl rfl ?_ ?_
      · skip
        refine RunL.call rfl rfl (by rfl) (by repeat (first | (with_reducible exact Take.nil _) | (apply Take.cons (by first | ((repeat (first | (with_reducible exact F0 _) | apply F1)); done) | (repeat (first | exact F0 _ | apply F1)))))) (rdOddK_ctr hD hp hkw hww hdo) (Wt.none rfl) rfl ?_
        rintro _ _ ⟨K2, s, hK2, hso0, rfl, hA_⟩
        replace hA_ := hA_.symm; subst hA_
        refine RunL.nilD' ?_
        refine RunD.one (i := 6) (by kernel_rfl) rfl ?_
        · skip
          refine RunL.alloc zz24 (Wt.none rfl) rfl ?_; intro b10
          refine RunL.nilD' ?_
          refine RunD.one (i := 7) (by kernel_rfl) rfl ?_
          · skip
            refine RunL.storeW (xs := (cEvn (((oddEv (⟨#[33, 114, 58, 115, 49]⟩ : ByteArray) (madeL (⟨#[33, 114, 58, 115, 49]⟩ : ByteArray) xs) k w (e.ev ps)).evn s)))) rfl rfl (by first | ((repeat (first | (with_reducible exact F0 _) | apply F1)); done) | (repeat (first | exact F0 _ | apply F1))) sz24 (by rfl) (by rfl) (by rfl) (Wt.none rfl) ?_
            refine RunL.nilD' ?_
            refine RunD.nilR (by kernel_rfl) ?_
            refine Run.keep (.cons rfl (.cons rfl (.nil)) : Keep _ [9, 10] _) ?_
            exact Run.meetF (F := F) hk (by exact ⟨b10, K2, s, hso0, rfl, rfl⟩) (by repeat (first | (with_reducible exact Fin.done (by repeat (first | (with_reducible exact Rest.here) | apply Rest.there))) | (apply Fin.cons (by first | ((repeat (first | (with_reducible exact F0 _) | apply F1)); done) | (repeat (first | exact F0 _ | apply F1))))))
      · skip
        refine RunL.alloc zz24 (Wt.none rfl) rfl ?_; intro b10
        refine RunL.nilD' ?_
        refine RunD.one (i := 5) (by kernel_rfl) rfl ?_
        · skip
          refine RunL.call rfl rfl (by rfl) (by repeat (first | (with_reducible exact Take.nil _) | (apply Take.cons (by first | ((repeat (first | (with_reducible exact F0 _) | apply F1)); done) | (repeat (first | exact F0 _ | apply F1)))))) (rdOddK_ctr hD hp hkw hww hdo) (Wt.none rfl) rfl ?_
          rintro _ _ ⟨K2, s, hK2, hso0, rfl, hA_⟩
          replace hA_ := hA_.symm; subst hA_
          refine RunL.nilD' ?_
          refine RunD.one (i := 7) (by kernel_rfl) rfl ?_
          · skip
            refine RunL.storeW (xs := (cEvn (((oddEv (⟨#[33, 114, 58, 115, 49]⟩ : ByteArray) (madeL (⟨#[33, 114, 58, 115, 49]⟩ : ByteArray) xs) k w (e.ev ps)).evn s)))) rfl rfl (by first | ((repeat (first | (with_reducible exact F0 _) | apply F1)); done) | (repeat (first | exact F0 _ | apply F1))) sz24 (by rfl) (by rfl) (by rfl) (Wt.none rfl) ?_
            refine RunL.nilD' ?_
            refine RunD.nilR (by kernel_rfl) ?_
            refine Run.keep (.cons rfl (.cons rfl (.nil)) : Keep _ [9, 10] _) ?_
            exact Run.meetF (F := F) hk (by exact ⟨b10, K2, s, hso0, rfl, rfl⟩) (by repeat (first | (with_reducible exact Fin.done (by repeat (first | (with_reducible exact Rest.here) | apply Rest.there))) | (apply Fin.cons (by first | ((repeat (first | (with_reducible exact F0 _) | apply F1)); done) | (repeat (first | exact F0 _ | apply F1))))))
    · skip
      refine RunL.alloc zz24 (Wt.none rfl) rfl ?_; intro b10
      refine RunL.nilD' ?_
      refine RunD.one (i := 1) (by kernel_rfl) rfl ?_
      · skip
        rw [hgl]
        refine RunL.call rfl rfl (by rfl) (by repeat (first | (with_reducible exact Take.nil _) | (apply Take.cons (by first | ((repeat (first | (with_reducible exact F0 _) | apply F1)); done) | (repeat (first | exact F0 _ | apply F1)))))) (rdMade_ctr (room := (⟨#[33, 114, 58, 115, 49]⟩ : ByteArray)) (xs := xs) (by decide +kernel) (by decide) hgsx hgx) (Wt.none rfl) rfl ?_
        rintro _ _ ⟨K, D, hD, rfl, hA_⟩
        replace hA_ := hA_.symm; subst hA_
        refine RunL.nilD' ?_
        refine RunD.one (i := 5) (by kernel_rfl) rfl ?_
        · skip
          refine RunL.call rfl rfl (by rfl) (by repeat (first | (with_reducible exact Take.nil _) | (apply Take.cons (by first | ((repeat (first | (with_reducible exact F0 _) | apply F1)); done) | (repeat (first | exact F0 _ | apply F1)))))) (rdOddK_ctr hD hp hkw hww hdo) (Wt.none rfl) rfl ?_
          rintro _ _ ⟨K2, s, hK2, hso0, rfl, hA_⟩
          replace hA_ := hA_.symm; subst hA_
          refine RunL.nilD' ?_
          refine RunD.one (i := 7) (by kernel_rfl) rfl ?_
          · skip
            refine RunL.storeW (xs := (cEvn (((oddEv (⟨#[33, 114, 58, 115, 49]⟩ : ByteArray) (madeL (⟨#[33, 114, 58, 115, 49]⟩ : ByteArray) xs) k w (e.ev ps)).evn s)))) rfl rfl (by first | ((repeat (first | (with_reducible exact F0 _) | apply F1)); done) | (repeat (first | exact F0 _ | apply F1))) sz24 (by rfl) (by rfl) (by rfl) (Wt.none rfl) ?_
            refine RunL.nilD' ?_
            refine RunD.nilR (by kernel_rfl) ?_
            refine Run.keep (.cons rfl (.cons rfl (.nil)) : Keep _ [9, 10] _) ?_
            exact Run.meetF (F := F) hk (by exact ⟨b10, K2, s, hso0, rfl, rfl⟩) (by repeat (first | (with_reducible exact Fin.done (by repeat (first | (with_reducible exact Rest.here) | apply Rest.there))) | (apply Fin.cons (by first | ((repeat (first | (with_reducible exact F0 _) | apply F1)); done) | (repeat (first | exact F0 _ | apply F1))))))

end Go.Proofs.Ytghmmjifmnmbgaa
