/- What is refused. -/
import Derived.Test.YtghmmjifmnmbgaaL1
set_option linter.unusedVariables false
set_option linter.unusedSimpArgs false
set_option linter.unusedSectionVars false
namespace Go.Proofs.Ytghmmjifmnmbgaa
open Go Csl


set_option maxHeartbeats 8000000 in
set_option maxRecDepth 100000 in
theorem DagRefuses_ctr {G : Gp} {e : Evn} {k w : Int} (hpi : PsIn G e) (hdo : -9223372036854775808 ≤ e.does ∧ e.does ≤ 9223372036854775807) {ag : Option Addr} {cg : Nat} {gs : List GG} (hgs : SlR G 66 4 ag gs.length (gs.flatMap cGG)) (hgi : GsIn G gs)  (hkw : -9223372036854775808 ≤ k ∧ k ≤ 9223372036854775807) (hww : -9223372036854775808 ≤ w ∧ w ≤ 9223372036854775807) :
    Ctr Try.prog G 9 [.slice ag gs.length cg, .int .i64 k, .int .i64 w, .agg (cEvn e).toArray] [] (fun F v A => v = .bool true ∧ A = F) := by
  refine Ctr.intro Try.func9 rfl (by kernel_rfl) rfl (fun F => ?_)
  simp only [List.nil_append]
  obtain ⟨ps, hp⟩ := hpi
  obtain ⟨xs, hxs, hgx⟩ := hgi
  have hgsx : SlR G 66 4 ag xs.length (xs.flatMap cGX) := by rw [← hxs, List.length_map, gx_flat] at hgs; exact hgs
  have hgl : gs.length = xs.length := by rw [← hxs, List.length_map]
  have hmg := madeL_good (room := (⟨#[33, 114, 58, 115, 49]⟩ : ByteArray)) (by decide +kernel) xs
  have hml := madeL_len (⟨#[33, 114, 58, 115, 49]⟩ : ByteArray) xs
  have hmw := madeL_sm (room := (⟨#[33, 114, 58, 115, 49]⟩ : ByteArray)) (by decide) xs
  have hmf : ∀ v ∈ (madeL (⟨#[33, 114, 58, 115, 49]⟩ : ByteArray) xs), evWf v := fun v hv => (hmw v hv).wf
  refine Run.sr ?_
  refine RunL.boxA (xs := (cEvn e)) rfl (Wt.none rfl) rfl ?_; intro b7
  refine RunL.as rfl rfl ?_
  refine RunL.nil ?_
  refine Run.lendAll (Q := row b7 24 _) Lends.row (by first | ((repeat (first | (with_reducible exact F0 _) | apply F1)); done) | (repeat (first | exact F0 _ | apply F1))) (fun G7 hleG7 hrb7 => ?_)
  replace hp := hp.mono hleG7
  replace hgsx := hgsx.mono hleG7
  replace hgx := hgx.mono hleG7
  refine Run.sr ?_
  refine RunL.mv rfl rfl ?_
  rw [hgl]
  refine RunL.call rfl rfl (by rfl) (by repeat (first | (with_reducible exact Take.nil _) | (apply Take.cons (by first | ((repeat (first | (with_reducible exact F0 _) | apply F1)); done) | (repeat (first | exact F0 _ | apply F1)))))) (rdMade_ctr (room := (⟨#[33, 114, 58, 115, 49]⟩ : ByteArray)) (xs := xs) (by decide +kernel) (by decide) hgsx hgx) (Wt.none rfl) rfl ?_
  rintro _ _ ⟨K, D, hD, rfl, hA_⟩
  replace hA_ := hA_.symm; subst hA_
  refine RunL.alloc zz30 (Wt.none rfl) rfl ?_; intro b9
  refine RunL.storeW (xs := (cDD D)) rfl rfl (by first | ((repeat (first | (with_reducible exact F0 _) | apply F1)); done) | (repeat (first | exact F0 _ | apply F1))) sz30 (by rfl) (by rfl) (by rfl) (Wt.none rfl) ?_
  refine RunL.nil ?_
  refine Run.sr ?_
  first | refine RunL.loadA (vs := (cDD D)) rfl (by first | ((repeat (first | (with_reducible exact F0 _) | apply F1)); done) | (repeat (first | exact F0 _ | apply F1))) agg30 sz30 (by first | exact Nat.le_of_ble_eq_true rfl | (simp; done) | (simp; omega)) rfl (Wt.none rfl) rfl ?_ | refine RunL.loadNR (vs := (cDD D)) rfl (by assumption) agg30 sz30 (by first | exact Nat.le_of_ble_eq_true rfl | (simp; done) | (simp; omega)) rfl (Wt.none rfl) rfl ?_
  refine RunL.call rfl rfl (by rfl) (by repeat (first | (with_reducible exact Take.nil _) | (apply Take.cons (by first | ((repeat (first | (with_reducible exact F0 _) | apply F1)); done) | (repeat (first | exact F0 _ | apply F1)))))) (Ctr.lend Lends.Pool cb18 (fun G' hle hK => build_ctr (HasD.hp (G' := G') hD hK) hmg hmf (by omega))) (Wt.none rfl) rfl ?_
  rintro _ _ ⟨_, rfl, p, rfl, hA_⟩
  replace hA_ := hA_.symm; subst hA_
  have how := (odd_sm (room := (⟨#[33, 114, 58, 115, 49]⟩ : ByteArray)) (l := (madeL (⟨#[33, 114, 58, 115, 49]⟩ : ByteArray) xs)) (k := k) (w := w) (r := e.ev ps) (by decide) hmw hdo).wf
  have hml9 : ((madeL (⟨#[33, 114, 58, 115, 49]⟩ : ByteArray) xs)).length ≤ 9 := by omega
  refine RunL.as rfl rfl ?_
  refine RunL.nil ?_
  refine Run.seq ?_
  refine Run.sr ?_
  refine RunL.mv rfl rfl ?_
  refine RunL.pure (Pure.ptrEqNil rfl rfl und36) (Wt.none rfl) rfl rfl ?_
  refine RunL.nil ?_
  refine Run.condF rfl ?_
  refine Run.skip ?_
  refine Run.sr ?_
  first | refine RunL.loadA (vs := (cDD D)) rfl (by first | ((repeat (first | (with_reducible exact F0 _) | apply F1)); done) | (repeat (first | exact F0 _ | apply F1))) agg30 sz30 (by first | exact Nat.le_of_ble_eq_true rfl | (simp; done) | (simp; omega)) rfl (Wt.none rfl) rfl ?_ | refine RunL.loadNR (vs := (cDD D)) rfl (by assumption) agg30 sz30 (by first | exact Nat.le_of_ble_eq_true rfl | (simp; done) | (simp; omega)) rfl (Wt.none rfl) rfl ?_
  refine RunL.mv rfl rfl ?_
  refine RunL.mv rfl rfl ?_
  first | refine RunL.loadA (vs := (cEvn e)) rfl (by first | ((repeat (first | (with_reducible exact F0 _) | apply F1)); done) | (repeat (first | exact F0 _ | apply F1))) agg24 sz24 (by first | exact Nat.le_of_ble_eq_true rfl | (simp; done) | (simp; omega)) rfl (Wt.none rfl) rfl ?_ | refine RunL.loadNR (vs := (cEvn e)) rfl (by assumption) agg24 sz24 (by first | exact Nat.le_of_ble_eq_true rfl | (simp; done) | (simp; omega)) rfl (Wt.none rfl) rfl ?_
  refine RunL.call rfl rfl (by rfl) (by repeat (first | (with_reducible exact Take.nil _) | (apply Take.cons (by first | ((repeat (first | (with_reducible exact F0 _) | apply F1)); done) | (repeat (first | exact F0 _ | apply F1)))))) (rdOddK_ctr hD hp hkw hww hdo) (Wt.none rfl) rfl ?_
  rintro _ _ ⟨K2, s, hK2, hs2, rfl, hA_⟩
  replace hA_ := hA_.symm; subst hA_
  refine RunL.alloc zz24 (Wt.none rfl) rfl ?_; intro b11
  refine RunL.storeW (xs := (cEvn (((oddEv (⟨#[33, 114, 58, 115, 49]⟩ : ByteArray) (madeL (⟨#[33, 114, 58, 115, 49]⟩ : ByteArray) xs) k w (e.ev ps)).evn s)))) rfl rfl (by first | ((repeat (first | (with_reducible exact F0 _) | apply F1)); done) | (repeat (first | exact F0 _ | apply F1))) sz24 (by rfl) (by rfl) (by rfl) (Wt.none rfl) ?_
  refine RunL.nil ?_
  refine Run.sr ?_
  first | refine RunL.loadA (vs := (cDD D)) rfl (by first | ((repeat (first | (with_reducible exact F0 _) | apply F1)); done) | (repeat (first | exact F0 _ | apply F1))) agg30 sz30 (by first | exact Nat.le_of_ble_eq_true rfl | (simp; done) | (simp; omega)) rfl (Wt.none rfl) rfl ?_ | refine RunL.loadNR (vs := (cDD D)) rfl (by assumption) agg30 sz30 (by first | exact Nat.le_of_ble_eq_true rfl | (simp; done) | (simp; omega)) rfl (Wt.none rfl) rfl ?_
  first | refine RunL.loadA (vs := (cEvn (((oddEv (⟨#[33, 114, 58, 115, 49]⟩ : ByteArray) (madeL (⟨#[33, 114, 58, 115, 49]⟩ : ByteArray) xs) k w (e.ev ps)).evn s)))) rfl (by first | ((repeat (first | (with_reducible exact F0 _) | apply F1)); done) | (repeat (first | exact F0 _ | apply F1))) agg24 sz24 (by first | exact Nat.le_of_ble_eq_true rfl | (simp; done) | (simp; omega)) rfl (Wt.none rfl) rfl ?_ | refine RunL.loadNR (vs := (cEvn (((oddEv (⟨#[33, 114, 58, 115, 49]⟩ : ByteArray) (madeL (⟨#[33, 114, 58, 115, 49]⟩ : ByteArray) xs) k w (e.ev ps)).evn s)))) rfl (by assumption) agg24 sz24 (by first | exact Nat.le_of_ble_eq_true rfl | (simp; done) | (simp; omega)) rfl (Wt.none rfl) rfl ?_
  refine RunL.call rfl rfl (by rfl) (by repeat (first | (with_reducible exact Take.nil _) | (apply Take.cons (by first | ((repeat (first | (with_reducible exact F0 _) | apply F1)); done) | (repeat (first | exact F0 _ | apply F1)))))) (rdAddK_ctr (e := ((oddEv (⟨#[33, 114, 58, 115, 49]⟩ : ByteArray) (madeL (⟨#[33, 114, 58, 115, 49]⟩ : ByteArray) xs) k w (e.ev ps)).evn s)) (ps := (oddEv (⟨#[33, 114, 58, 115, 49]⟩ : ByteArray) (madeL (⟨#[33, 114, 58, 115, 49]⟩ : ByteArray) xs) k w (e.ev ps)).ps) (HasD.hp (G' := gk K2) hD hK2) (by omega) hs2 how) (Wt.none rfl) rfl ?_
  rintro _ _ ⟨K3, D3, hK3, hD3, rfl, hA_⟩
  replace hA_ := hA_.symm; subst hA_
  rw [ev_evn]
  refine RunL.mv rfl rfl ?_
  refine RunL.pure (Pure.extract rfl rfl) (Wt.none rfl) rfl rfl ?_
  refine RunL.pure (Pure.extract rfl rfl) (Wt.none rfl) rfl rfl ?_
  refine RunL.alloc zz30 (Wt.none rfl) rfl ?_; intro b12
  refine RunL.storeW (xs := (cDD D3)) rfl rfl (by first | ((repeat (first | (with_reducible exact F0 _) | apply F1)); done) | (repeat (first | exact F0 _ | apply F1))) sz30 (by rfl) (by rfl) (by rfl) (Wt.none rfl) ?_
  refine RunL.as rfl rfl ?_
  refine RunL.nil ?_
  have hs3 := HasPs.hp (G' := gk K3) hs2 hK3
  have hDw := HasD.hp (G' := gk K3) (HasD.hp (G' := gk K2) hD hK2) hK3
  obtain ⟨hroom, ys, hyl, hdn, _⟩ := id hDw
  have hyn := ES_len hyl
  refine Run.sr ?_
  refine RunL.mv rfl rfl ?_
  first | refine RunL.loadA (vs := (cEvn (((oddEv (⟨#[33, 114, 58, 115, 49]⟩ : ByteArray) (madeL (⟨#[33, 114, 58, 115, 49]⟩ : ByteArray) xs) k w (e.ev ps)).evn s)))) rfl (by first | ((repeat (first | (with_reducible exact F0 _) | apply F1)); done) | (repeat (first | exact F0 _ | apply F1))) agg24 sz24 (by first | exact Nat.le_of_ble_eq_true rfl | (simp; done) | (simp; omega)) rfl (Wt.none rfl) rfl ?_ | refine RunL.loadNR (vs := (cEvn (((oddEv (⟨#[33, 114, 58, 115, 49]⟩ : ByteArray) (madeL (⟨#[33, 114, 58, 115, 49]⟩ : ByteArray) xs) k w (e.ev ps)).evn s)))) rfl (by assumption) agg24 sz24 (by first | exact Nat.le_of_ble_eq_true rfl | (simp; done) | (simp; omega)) rfl (Wt.none rfl) rfl ?_
  refine RunL.call rfl rfl (by rfl) (by repeat (first | (with_reducible exact Take.nil _) | (apply Take.cons (by first | ((repeat (first | (with_reducible exact F0 _) | apply F1)); done) | (repeat (first | exact F0 _ | apply F1)))))) (Ctr.lend Lends.Pool cb25 (fun G' hle hK => Add_ctr (l := (madeL (⟨#[33, 114, 58, 115, 49]⟩ : ByteArray) xs)) (e := ((oddEv (⟨#[33, 114, 58, 115, 49]⟩ : ByteArray) (madeL (⟨#[33, 114, 58, 115, 49]⟩ : ByteArray) xs) k w (e.ev ps)).evn s)) (ps := (oddEv (⟨#[33, 114, 58, 115, 49]⟩ : ByteArray) (madeL (⟨#[33, 114, 58, 115, 49]⟩ : ByteArray) xs) k w (e.ev ps)).ps) (HasPs.hp (G' := G') hs3 hK) how (by have := addL_len (⟨#[33, 114, 58, 115, 49]⟩ : ByteArray) (madeL (⟨#[33, 114, 58, 115, 49]⟩ : ByteArray) xs) (oddEv (⟨#[33, 114, 58, 115, 49]⟩ : ByteArray) (madeL (⟨#[33, 114, 58, 115, 49]⟩ : ByteArray) xs) k w (e.ev ps)); omega))) (Wt.none rfl) rfl ?_
  rintro _ _ ⟨_, rfl, rfl, hA_⟩
  replace hA_ := hA_.symm; subst hA_
  rw [ev_evn]
  refine RunL.as rfl rfl ?_
  refine RunL.nil ?_
  refine Run.seq ?_
  refine Run.sr ?_
  refine RunL.mv rfl rfl ?_
  refine RunL.mv rfl rfl ?_
  refine RunL.pure (Pure.neq rfl rfl) (Wt.none rfl) rfl rfl ?_
  refine RunL.nil ?_
  refine Run.cond rfl (fun hc1 => ?_) (fun hc1 => ?_)
  · try simp only [ZA, ZB, ZC, ZD, ZE, ZF, ZG, ZH, ZI, ZJ, ZK, ZL, ZM, ZN, ZO, ZP, ZQ, ZR] at hc1
    exfalso
    first | exact hc1 rfl | (simp at hc1; done)
  try simp only [ZA, ZB, ZC, ZD, ZE, ZF, ZG, ZH, ZI, ZJ, ZK, ZL, ZM, ZN, ZO, ZP, ZQ, ZR] at hc1
  refine Run.skip ?_
  refine Run.seq ?_
  refine Run.sr ?_
  refine RunL.mv rfl rfl ?_
  refine RunL.pure (Pure.eql rfl rfl) (Wt.none rfl) rfl rfl ?_
  refine RunL.nil ?_
  refine Run.cond rfl (fun h9 => ?_) (fun h9 => ?_)
  · try simp only [ZA, ZB, ZC, ZD, ZE, ZF, ZG, ZH, ZI, ZJ, ZK, ZL, ZM, ZN, ZO, ZP, ZQ, ZR] at h9
    have hhas : EL.has (addL (⟨#[33, 114, 58, 115, 49]⟩ : ByteArray) (madeL (⟨#[33, 114, 58, 115, 49]⟩ : ByteArray) xs) (oddEv (⟨#[33, 114, 58, 115, 49]⟩ : ByteArray) (madeL (⟨#[33, 114, 58, 115, 49]⟩ : ByteArray) xs) k w (e.ev ps))) (oddEv (⟨#[33, 114, 58, 115, 49]⟩ : ByteArray) (madeL (⟨#[33, 114, 58, 115, 49]⟩ : ByteArray) xs) k w (e.ev ps)).id = true := by rw [addL_ok h9]; exact has_mem (by simp)
    have hlen : ((addL (⟨#[33, 114, 58, 115, 49]⟩ : ByteArray) (madeL (⟨#[33, 114, 58, 115, 49]⟩ : ByteArray) xs) (oddEv (⟨#[33, 114, 58, 115, 49]⟩ : ByteArray) (madeL (⟨#[33, 114, 58, 115, 49]⟩ : ByteArray) xs) k w (e.ev ps)))).length = ((madeL (⟨#[33, 114, 58, 115, 49]⟩ : ByteArray) xs)).length + 1 := by rw [addL_ok h9]; simp
    have hrc2 : addRc (⟨#[33, 114, 58, 115, 49]⟩ : ByteArray) (addL (⟨#[33, 114, 58, 115, 49]⟩ : ByteArray) (madeL (⟨#[33, 114, 58, 115, 49]⟩ : ByteArray) xs) (oddEv (⟨#[33, 114, 58, 115, 49]⟩ : ByteArray) (madeL (⟨#[33, 114, 58, 115, 49]⟩ : ByteArray) xs) k w (e.ev ps))) (oddEv (⟨#[33, 114, 58, 115, 49]⟩ : ByteArray) (madeL (⟨#[33, 114, 58, 115, 49]⟩ : ByteArray) xs) k w (e.ev ps)) = 9 := by rw [addL_ok h9]; exact addRc_twice h9
    refine Run.seq ?_
    refine Run.regionD' (by kernel_rfl) (by kernel_rfl) (fun hok94 => ?_)
    refine RunD.lend (Q := row b11 24 _) Lends.row (by first | ((repeat (first | (with_reducible exact F0 _) | apply F1)); done) | (repeat (first | exact F0 _ | apply F1))) ?_; intro gl1 hlegl1 hl1 backgl1
    have hp_gl1 := hp.mono hlegl1
    have hgsx_gl1 := hgsx.mono hlegl1
    have hgx_gl1 := hgx.mono hlegl1
    have hrb7_gl1 := hrb7.mono hlegl1
    refine RunD.lend (Q := row b9 30 _) Lends.row (by first | ((repeat (first | (with_reducible exact F0 _) | apply F1)); done) | (repeat (first | exact F0 _ | apply F1))) ?_; intro gl2 hlegl2 hl2 backgl2
    have hl1 := hl1.mono hlegl2
    have hp_gl2 := hp_gl1.mono hlegl2
    have hgsx_gl2 := hgsx_gl1.mono hlegl2
    have hgx_gl2 := hgx_gl1.mono hlegl2
    have hrb7_gl2 := hrb7_gl1.mono hlegl2
    refine RunD.pure (i := 0) hok94 rfl (by kernel_rfl) (Pure.move rfl) (Wt.none rfl) rfl rfl ?_
    refine RunD.pure (i := 1) hok94 rfl (by kernel_rfl) (Pure.fieldAddr rfl fo24_0) (Wt.none rfl) rfl rfl ?_
    refine RunD.load1R (i := 2) hok94 rfl (by kernel_rfl) rfl (by assumption) (by rfl) agg9 (Wt.none rfl) rfl ?_
    refine RunD.one (i := 3) (by kernel_rfl) rfl ?_
    refine RunL.call rfl rfl (by rfl) (by repeat (first | (with_reducible exact Take.nil _) | (apply Take.cons (by first | ((repeat (first | (with_reducible exact F0 _) | apply F1)); done) | (repeat (first | exact F0 _ | apply F1)))))) (Ctr.lend Lends.Dg cb28 (fun G' hle hr => HasD_ctr hr)) (Wt.none rfl) rfl ?_
    rintro _ _ ⟨_, rfl, rfl, hA_⟩
    replace hA_ := hA_.symm; subst hA_
    refine RunL.nilD' ?_
    refine RunD.pure (i := 4) hok94 rfl (by kernel_rfl) (Pure.move rfl) (Wt.none rfl) rfl rfl ?_
    refine RunD.split (d := 44) rfl (fun hg2 => ?_) (fun hg2 => ?_)
    rotate_left
    · try simp only [ZA, ZB, ZC, ZD, ZE, ZF, ZG, ZH, ZI, ZJ, ZK, ZL, ZM, ZN, ZO, ZP, ZQ, ZR] at hg2
      exfalso
      first | (rw [show EL.has (addL (⟨#[33, 114, 58, 115, 49]⟩ : ByteArray) (madeL (⟨#[33, 114, 58, 115, 49]⟩ : ByteArray) xs) (oddEv (⟨#[33, 114, 58, 115, 49]⟩ : ByteArray) (madeL (⟨#[33, 114, 58, 115, 49]⟩ : ByteArray) xs) k w (e.ev ps))) (Evt.evn (oddEv (⟨#[33, 114, 58, 115, 49]⟩ : ByteArray) (madeL (⟨#[33, 114, 58, 115, 49]⟩ : ByteArray) xs) k w (e.ev ps)) s).id = true from hhas] at hg2; simp at hg2; done) | (simp_all; done)
    try simp only [ZA, ZB, ZC, ZD, ZE, ZF, ZG, ZH, ZI, ZJ, ZK, ZL, ZM, ZN, ZO, ZP, ZQ, ZR] at hg2
    refine RunD.pure (i := 5) hok94 rfl (by kernel_rfl) (Pure.move rfl) (Wt.yes rfl rfl rfl) rfl rfl ?_
    refine RunD.pure (i := 7) hok94 rfl (by kernel_rfl) (Pure.fieldAddr rfl fo30_1) (Wt.yes rfl rfl rfl) rfl rfl ?_
    refine RunD.load1R (i := 8) hok94 rfl (by kernel_rfl) rfl (by assumption) (by rfl) agg28 (Wt.yes rfl rfl rfl) rfl ?_
    refine RunD.pure (i := 9) hok94 rfl (by kernel_rfl) (Pure.lenSl rfl rfl und28) (Wt.yes rfl rfl rfl) rfl rfl ?_
    first | refine RunD.pure (i := 10) hok94 rfl (by kernel_rfl) (Pure.addI rfl rfl (by omega)) (Wt.yes rfl rfl rfl) rfl rfl ?_ | refine RunD.pure (i := 10) hok94 rfl (by kernel_rfl) (Pure.add rfl rfl) (Wt.yes rfl rfl rfl) rfl rfl ?_
    refine RunD.one (i := 6) (by kernel_rfl) rfl ?_
    refine RunL.call rfl rfl (by rfl) (by repeat (first | (with_reducible exact Take.nil _) | (apply Take.cons (by first | ((repeat (first | (with_reducible exact F0 _) | apply F1)); done) | (repeat (first | exact F0 _ | apply F1)))))) (Ctr.lend Lends.Dg cb32 (fun G' hle hr => LenD_ctr hr)) (Wt.yes rfl rfl rfl) rfl ?_
    rintro _ _ ⟨_, rfl, rfl, hA_⟩
    replace hA_ := hA_.symm; subst hA_
    refine RunL.nilD' ?_
    refine RunD.pure (i := 11) hok94 rfl (by kernel_rfl) (Pure.eql rfl rfl) (Wt.yes rfl rfl rfl) rfl rfl ?_
    refine RunD.pure (i := 12) hok94 rfl (by kernel_rfl) (Pure.pickT rfl rfl) (Wt.none rfl) rfl rfl ?_
    refine RunD.pure (i := 13) hok94 rfl (by kernel_rfl) (Pure.move rfl) (Wt.none rfl) rfl rfl ?_
    refine RunD.split (d := 53) rfl (fun hg3 => ?_) (fun hg3 => ?_)
    rotate_left
    · try simp only [ZA, ZB, ZC, ZD, ZE, ZF, ZG, ZH, ZI, ZJ, ZK, ZL, ZM, ZN, ZO, ZP, ZQ, ZR] at hg3
      exfalso
      omega
    try simp only [ZA, ZB, ZC, ZD, ZE, ZF, ZG, ZH, ZI, ZJ, ZK, ZL, ZM, ZN, ZO, ZP, ZQ, ZR] at hg3
    refine RunD.pure (i := 14) hok94 rfl (by kernel_rfl) (Pure.move rfl) (Wt.yes rfl rfl rfl) rfl rfl ?_
    refine RunD.loadNR (vs := (cEvn (((oddEv (⟨#[33, 114, 58, 115, 49]⟩ : ByteArray) (madeL (⟨#[33, 114, 58, 115, 49]⟩ : ByteArray) xs) k w (e.ev ps)).evn s)))) (i := 15) hok94 rfl (by kernel_rfl) rfl (by assumption) agg24 sz24 (by first | exact Nat.le_of_ble_eq_true rfl | (simp; done) | (simp; omega)) rfl (Wt.yes rfl rfl rfl) rfl ?_
    refine RunD.one (i := 16) (by kernel_rfl) rfl ?_
    refine RunL.call rfl rfl (by rfl) (by repeat (first | (with_reducible exact Take.nil _) | (apply Take.cons (by first | ((repeat (first | (with_reducible exact F0 _) | apply F1)); done) | (repeat (first | exact F0 _ | apply F1)))))) (Ctr.lend Lends.Pool cb25 (fun G' hle hK => Add_ctr (l := (addL (⟨#[33, 114, 58, 115, 49]⟩ : ByteArray) (madeL (⟨#[33, 114, 58, 115, 49]⟩ : ByteArray) xs) (oddEv (⟨#[33, 114, 58, 115, 49]⟩ : ByteArray) (madeL (⟨#[33, 114, 58, 115, 49]⟩ : ByteArray) xs) k w (e.ev ps)))) (e := ((oddEv (⟨#[33, 114, 58, 115, 49]⟩ : ByteArray) (madeL (⟨#[33, 114, 58, 115, 49]⟩ : ByteArray) xs) k w (e.ev ps)).evn s)) (ps := (oddEv (⟨#[33, 114, 58, 115, 49]⟩ : ByteArray) (madeL (⟨#[33, 114, 58, 115, 49]⟩ : ByteArray) xs) k w (e.ev ps)).ps) (HasPs.hp (G' := G') hs3 hK) how (by have := addL_len (⟨#[33, 114, 58, 115, 49]⟩ : ByteArray) (madeL (⟨#[33, 114, 58, 115, 49]⟩ : ByteArray) xs) (oddEv (⟨#[33, 114, 58, 115, 49]⟩ : ByteArray) (madeL (⟨#[33, 114, 58, 115, 49]⟩ : ByteArray) xs) k w (e.ev ps)); omega))) (Wt.yes rfl rfl rfl) rfl ?_
    rintro _ _ ⟨_, rfl, rfl, hA_⟩
    replace hA_ := hA_.symm; subst hA_
    rw [ev_evn]
    refine RunL.nilD' ?_
    refine RunD.pure (i := 17) hok94 rfl (by kernel_rfl) (Pure.eql rfl rfl) (Wt.yes rfl rfl rfl) rfl rfl ?_
    refine RunD.pure (i := 18) hok94 rfl (by kernel_rfl) (Pure.pickT rfl rfl) (Wt.none rfl) rfl rfl ?_
    refine RunD.pure (i := 19) hok94 rfl (by kernel_rfl) (Pure.move rfl) (Wt.none rfl) rfl rfl ?_
    refine RunD.split (d := 59) rfl (fun hg4 => ?_) (fun hg4 => ?_)
    rotate_left
    · try simp only [ZA, ZB, ZC, ZD, ZE, ZF, ZG, ZH, ZI, ZJ, ZK, ZL, ZM, ZN, ZO, ZP, ZQ, ZR] at hg4
      exfalso
      rw [hrc2] at hg4; simp at hg4
    try simp only [ZA, ZB, ZC, ZD, ZE, ZF, ZG, ZH, ZI, ZJ, ZK, ZL, ZM, ZN, ZO, ZP, ZQ, ZR] at hg4
    refine RunD.one (i := 20) (by kernel_rfl) rfl ?_
    refine RunL.call rfl rfl (by rfl) (by repeat (first | (with_reducible exact Take.nil _) | (apply Take.cons (by first | ((repeat (first | (with_reducible exact F0 _) | apply F1)); done) | (repeat (first | exact F0 _ | apply F1)))))) (lives_ctr) (Wt.yes rfl rfl rfl) rfl ?_
    rintro _ _ ⟨rfl, hA_⟩
    replace hA_ := hA_.symm; subst hA_
    refine RunL.nilD' ?_
    refine RunD.pure (i := 21) hok94 rfl (by kernel_rfl) (Pure.pickT rfl rfl) (Wt.none rfl) rfl rfl ?_
    refine RunD.pure (i := 22) hok94 rfl (by kernel_rfl) (Pure.assign rfl) (Wt.none rfl) rfl rfl ?_
    refine RunD.nilB (by kernel_rfl) (fun w sw => backgl1 _ _ (backgl2 _ _ (sw))) ?_
    exact Run.ret Try.func9 (res1 rfl rfl) (by exact ⟨rfl, rfl⟩) (by repeat (first | (with_reducible exact Fin.done (by repeat (first | (with_reducible exact Rest.here) | apply Rest.there))) | (apply Fin.cons (by first | ((repeat (first | (with_reducible exact F0 _) | apply F1)); done) | (repeat (first | exact F0 _ | apply F1))))))
  · try simp only [ZA, ZB, ZC, ZD, ZE, ZF, ZG, ZH, ZI, ZJ, ZK, ZL, ZM, ZN, ZO, ZP, ZQ, ZR] at h9
    have hadl : (addL (⟨#[33, 114, 58, 115, 49]⟩ : ByteArray) (madeL (⟨#[33, 114, 58, 115, 49]⟩ : ByteArray) xs) (oddEv (⟨#[33, 114, 58, 115, 49]⟩ : ByteArray) (madeL (⟨#[33, 114, 58, 115, 49]⟩ : ByteArray) xs) k w (e.ev ps))) = (madeL (⟨#[33, 114, 58, 115, 49]⟩ : ByteArray) xs) := addL_no h9
    rw [hadl]
    refine Run.skip ?_
    refine Run.sr ?_
    refine RunL.mv rfl rfl ?_
    first | refine RunL.loadA (vs := (cDD D)) rfl (by first | ((repeat (first | (with_reducible exact F0 _) | apply F1)); done) | (repeat (first | exact F0 _ | apply F1))) agg30 sz30 (by first | exact Nat.le_of_ble_eq_true rfl | (simp; done) | (simp; omega)) rfl (Wt.none rfl) rfl ?_ | refine RunL.loadNR (vs := (cDD D)) rfl (by assumption) agg30 sz30 (by first | exact Nat.le_of_ble_eq_true rfl | (simp; done) | (simp; omega)) rfl (Wt.none rfl) rfl ?_
    refine RunL.call rfl rfl (by rfl) (by repeat (first | (with_reducible exact Take.nil _) | (apply Take.cons (by first | ((repeat (first | (with_reducible exact F0 _) | apply F1)); done) | (repeat (first | exact F0 _ | apply F1)))))) (Ctr.lend2 (Q1 := Dg p (⟨#[33, 114, 58, 115, 49]⟩ : ByteArray) (madeL (⟨#[33, 114, 58, 115, 49]⟩ : ByteArray) xs)) (Q2 := Pool K3) Lends.Dg Lends.Pool cb29 (fun G G' h q => DgR.mono h q) (fun G' hle hr hK => like_ctr hr (HasD.hp (G' := G') hDw hK) hmg (.refl _) (by omega))) (Wt.none rfl) rfl ?_
    rintro _ _ ⟨_, rfl, rfl, hA_⟩
    replace hA_ := hA_.symm; subst hA_
    refine RunL.mv rfl rfl ?_
    refine RunL.split (d := 65) rfl (fun hg5 => ?_) (fun hg5 => ?_)
    rotate_left
    · try simp only [ZA, ZB, ZC, ZD, ZE, ZF, ZG, ZH, ZI, ZJ, ZK, ZL, ZM, ZN, ZO, ZP, ZQ, ZR] at hg5
      exfalso
      simp at hg5
    try simp only [ZA, ZB, ZC, ZD, ZE, ZF, ZG, ZH, ZI, ZJ, ZK, ZL, ZM, ZN, ZO, ZP, ZQ, ZR] at hg5
    refine RunL.pure (Pure.move rfl) (Wt.yes rfl rfl rfl) rfl rfl ?_
    first | refine RunL.loadA (vs := (cEvn (((oddEv (⟨#[33, 114, 58, 115, 49]⟩ : ByteArray) (madeL (⟨#[33, 114, 58, 115, 49]⟩ : ByteArray) xs) k w (e.ev ps)).evn s)))) rfl (by first | ((repeat (first | (with_reducible exact F0 _) | apply F1)); done) | (repeat (first | exact F0 _ | apply F1))) agg24 sz24 (by first | exact Nat.le_of_ble_eq_true rfl | (simp; done) | (simp; omega)) rfl (Wt.yes rfl rfl rfl) rfl ?_ | refine RunL.loadNR (vs := (cEvn (((oddEv (⟨#[33, 114, 58, 115, 49]⟩ : ByteArray) (madeL (⟨#[33, 114, 58, 115, 49]⟩ : ByteArray) xs) k w (e.ev ps)).evn s)))) rfl (by assumption) agg24 sz24 (by first | exact Nat.le_of_ble_eq_true rfl | (simp; done) | (simp; omega)) rfl (Wt.yes rfl rfl rfl) rfl ?_
    refine RunL.call rfl rfl (by rfl) (by repeat (first | (with_reducible exact Take.nil _) | (apply Take.cons (by first | ((repeat (first | (with_reducible exact F0 _) | apply F1)); done) | (repeat (first | exact F0 _ | apply F1)))))) (Ctr.lend Lends.Pool cb25 (fun G' hle hK => Add_ctr (l := (madeL (⟨#[33, 114, 58, 115, 49]⟩ : ByteArray) xs)) (e := ((oddEv (⟨#[33, 114, 58, 115, 49]⟩ : ByteArray) (madeL (⟨#[33, 114, 58, 115, 49]⟩ : ByteArray) xs) k w (e.ev ps)).evn s)) (ps := (oddEv (⟨#[33, 114, 58, 115, 49]⟩ : ByteArray) (madeL (⟨#[33, 114, 58, 115, 49]⟩ : ByteArray) xs) k w (e.ev ps)).ps) (HasPs.hp (G' := G') hs3 hK) how (by have := addL_len (⟨#[33, 114, 58, 115, 49]⟩ : ByteArray) (madeL (⟨#[33, 114, 58, 115, 49]⟩ : ByteArray) xs) (oddEv (⟨#[33, 114, 58, 115, 49]⟩ : ByteArray) (madeL (⟨#[33, 114, 58, 115, 49]⟩ : ByteArray) xs) k w (e.ev ps)); omega))) (Wt.yes rfl rfl rfl) rfl ?_
    rintro _ _ ⟨_, rfl, rfl, hA_⟩
    replace hA_ := hA_.symm; subst hA_
    rw [ev_evn]
    refine RunL.pure (Pure.move rfl) (Wt.yes rfl rfl rfl) rfl rfl ?_
    refine RunL.pure (Pure.eql rfl rfl) (Wt.yes rfl rfl rfl) rfl rfl ?_
    refine RunL.pure (Pure.pickT rfl rfl) (Wt.none rfl) rfl rfl ?_
    refine RunL.mv rfl rfl ?_
    refine RunL.split (d := 72) rfl (fun hg6 => ?_) (fun hg6 => ?_)
    rotate_left
    · try simp only [ZA, ZB, ZC, ZD, ZE, ZF, ZG, ZH, ZI, ZJ, ZK, ZL, ZM, ZN, ZO, ZP, ZQ, ZR] at hg6
      exfalso
      first | exact hg6 rfl | (simp at hg6; done)
    try simp only [ZA, ZB, ZC, ZD, ZE, ZF, ZG, ZH, ZI, ZJ, ZK, ZL, ZM, ZN, ZO, ZP, ZQ, ZR] at hg6
    refine RunL.call rfl rfl (by rfl) (by repeat (first | (with_reducible exact Take.nil _) | (apply Take.cons (by first | ((repeat (first | (with_reducible exact F0 _) | apply F1)); done) | (repeat (first | exact F0 _ | apply F1)))))) (lives_ctr) (Wt.yes rfl rfl rfl) rfl ?_
    rintro _ _ ⟨rfl, hA_⟩
    replace hA_ := hA_.symm; subst hA_
    refine RunL.pure (Pure.pickT rfl rfl) (Wt.none rfl) rfl rfl ?_
    refine RunL.as rfl rfl ?_
    refine RunL.nil ?_
    exact Run.ret Try.func9 (res1 rfl rfl) (by exact ⟨rfl, rfl⟩) (by repeat (first | (with_reducible exact Fin.done (by repeat (first | (with_reducible exact Rest.here) | apply Rest.there))) | (apply Fin.cons (by first | ((repeat (first | (with_reducible exact F0 _) | apply F1)); done) | (repeat (first | exact F0 _ | apply F1))))))

end Go.Proofs.Ytghmmjifmnmbgaa
