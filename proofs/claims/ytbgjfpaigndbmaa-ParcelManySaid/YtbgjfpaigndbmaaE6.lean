/- EDUs: what is read. -/
import Derived.Test.YtbgjfpaigndbmaaE5
set_option linter.unusedVariables false
set_option linter.unusedSimpArgs false
set_option linter.unusedSectionVars false
namespace Go.Proofs.Ytbgjfpaigndbmaa
open Go Csl


set_option maxRecDepth 100000 in
theorem rRead3_ctr {G : Gp} {a : Option Addr} {bs : List UInt8} {cap : Nat} (h : SlR G 5 1 a bs.length (bs.map bv)) (hb : bs.length ≤ 1000000) (hc : bs.length ≤ cap) :
    Ctr Try.prog G 55 [.slice a bs.length cap] [] (fun F v A => v = .tuple #[.agg (cEdu (finE (rdE 1000 bs)).1).toArray, .int .i64 (finE (rdE 1000 bs)).2] ∧ A = F) := by
  refine Ctr.intro Try.func55 rfl (by kernel_rfl) rfl (fun F => ?_)
  simp only [List.nil_append]
  refine Run.sr ?_
  refine RunL.alloc zz50 (Wt.none rfl) rfl ?_; intro b2
  refine RunL.as rfl rfl ?_
  refine RunL.nil ?_
  refine Run.sr ?_
  refine RunL.mv rfl rfl ?_
  refine RunL.pure (Pure.buildL (ps := [(0, _)]) (zs := [(.slice none 0 0), (.int .i64 0), (.int .i64 0)]) (xs := [_, _, _]) pl79 rfl rfl rfl rfl) (Wt.none rfl) rfl rfl ?_
  refine RunL.box rfl (Wt.none rfl) rfl ?_; intro b9
  refine RunL.as rfl rfl ?_
  refine RunL.nil ?_
  refine Run.mkRg (g := G) (B := bs) (I := 0) (bs := bs) (er := 0) (by repeat (first | (with_reducible exact Take.nil _) | (apply Take.cons (by first | ((repeat (first | (with_reducible exact F0 _) | apply F1)); done) | (repeat (first | exact F0 _ | apply F1)))))) ⟨Nat.zero_le _, by rw [if_pos rfl]; rfl, hb⟩ ⟨h, hc⟩ ?_
  refine Run.sr ?_
  refine RunL.alloc zz50 (Wt.none rfl) rfl ?_; intro b5
  refine RunL.nil ?_
  refine Run.sr ?_
  refine RunL.mv rfl rfl ?_
  refine RunL.call rfl rfl (by rfl) (by repeat (first | (with_reducible exact Take.nil _) | (apply Take.cons (by first | ((repeat (first | (with_reducible exact F0 _) | apply F1)); done) | (repeat (first | exact F0 _ | apply F1)))))) (RgNumber_ctr (by first | exact Gp.le_refl _ | assumption)) (Wt.none rfl) rfl ?_
  rintro _ _ ⟨rfl, hA_⟩
  replace hA_ := hA_.symm; subst hA_
  obtain ⟨q1, hq1⟩ : ∃ q, q = rdNum bs 0 := ⟨_, rfl⟩
  rw [← hq1]
  refine RunL.pure (Pure.fieldAddr rfl fo50_0) (Wt.none rfl) rfl rfl ?_
  refine RunL.store1A (cs' := (cEdu ({ zeroE with kind := q1.1 }))) rfl rfl (by first | ((repeat (first | (with_reducible exact F0 _) | apply F1)); done) | (repeat (first | exact F0 _ | apply F1))) sz3 (by rfl) (by first | exact Nat.le_of_ble_eq_true rfl | (simp; done) | (simp; omega)) rfl (Wt.none rfl) ?_
  refine RunL.nil ?_
  refine Run.sr ?_
  refine RunL.mv rfl rfl ?_
  refine RunL.call rfl rfl (by rfl) (by repeat (first | (with_reducible exact Take.nil _) | (apply Take.cons (by first | ((repeat (first | (with_reducible exact F0 _) | apply F1)); done) | (repeat (first | exact F0 _ | apply F1)))))) (RgText_ctr (by first | exact Gp.le_refl _ | assumption)) (Wt.none rfl) rfl ?_
  rintro _ _ ⟨s2, rfl, hs2, hA_⟩
  replace hA_ := hA_.symm; subst hA_
  obtain ⟨q2, hq2⟩ : ∃ q, q = rdText 1000 q1.2.1 q1.2.2 := ⟨_, rfl⟩
  have hm2 : ((q2.1.length : Nat) : Int) ≤ 1000 := by rw [hq2]; exact rdText_most (by decide)
  rw [← hq2] at hs2 ⊢
  obtain rfl : s2 = mkS q2.1 := bl_inj (by rw [hs2, bl_mkS])
  refine RunL.pure (Pure.fieldAddr rfl fo50_1) (Wt.none rfl) rfl rfl ?_
  refine RunL.store1A (cs' := (cEdu ({ zeroE with kind := q1.1, room := mkS q2.1 }))) rfl rfl (by first | ((repeat (first | (with_reducible exact F0 _) | apply F1)); done) | (repeat (first | exact F0 _ | apply F1))) sz9 (by rfl) (by first | exact Nat.le_of_ble_eq_true rfl | (simp; done) | (simp; omega)) rfl (Wt.none rfl) ?_
  refine RunL.nil ?_
  refine Run.sr ?_
  refine RunL.mv rfl rfl ?_
  refine RunL.call rfl rfl (by rfl) (by repeat (first | (with_reducible exact Take.nil _) | (apply Take.cons (by first | ((repeat (first | (with_reducible exact F0 _) | apply F1)); done) | (repeat (first | exact F0 _ | apply F1)))))) (RgText_ctr (by first | exact Gp.le_refl _ | assumption)) (Wt.none rfl) rfl ?_
  rintro _ _ ⟨s3, rfl, hs3, hA_⟩
  replace hA_ := hA_.symm; subst hA_
  obtain ⟨q3, hq3⟩ : ∃ q, q = rdText 1000 q2.2.1 q2.2.2 := ⟨_, rfl⟩
  have hm3 : ((q3.1.length : Nat) : Int) ≤ 1000 := by rw [hq3]; exact rdText_most (by decide)
  rw [← hq3] at hs3 ⊢
  obtain rfl : s3 = mkS q3.1 := bl_inj (by rw [hs3, bl_mkS])
  refine RunL.pure (Pure.fieldAddr rfl fo50_2) (Wt.none rfl) rfl rfl ?_
  refine RunL.store1A (cs' := (cEdu ({ zeroE with kind := q1.1, room := mkS q2.1, user := mkS q3.1 }))) rfl rfl (by first | ((repeat (first | (with_reducible exact F0 _) | apply F1)); done) | (repeat (first | exact F0 _ | apply F1))) sz9 (by rfl) (by first | exact Nat.le_of_ble_eq_true rfl | (simp; done) | (simp; omega)) rfl (Wt.none rfl) ?_
  refine RunL.nil ?_
  refine Run.sr ?_
  refine RunL.mv rfl rfl ?_
  refine RunL.call rfl rfl (by rfl) (by repeat (first | (with_reducible exact Take.nil _) | (apply Take.cons (by first | ((repeat (first | (with_reducible exact F0 _) | apply F1)); done) | (repeat (first | exact F0 _ | apply F1)))))) (RgText_ctr (by first | exact Gp.le_refl _ | assumption)) (Wt.none rfl) rfl ?_
  rintro _ _ ⟨s4, rfl, hs4, hA_⟩
  replace hA_ := hA_.symm; subst hA_
  obtain ⟨q4, hq4⟩ : ∃ q, q = rdText 1000 q3.2.1 q3.2.2 := ⟨_, rfl⟩
  have hm4 : ((q4.1.length : Nat) : Int) ≤ 1000 := by rw [hq4]; exact rdText_most (by decide)
  rw [← hq4] at hs4 ⊢
  obtain rfl : s4 = mkS q4.1 := bl_inj (by rw [hs4, bl_mkS])
  refine RunL.pure (Pure.fieldAddr rfl fo50_3) (Wt.none rfl) rfl rfl ?_
  refine RunL.store1A (cs' := (cEdu ({ zeroE with kind := q1.1, room := mkS q2.1, user := mkS q3.1, event := mkS q4.1 }))) rfl rfl (by first | ((repeat (first | (with_reducible exact F0 _) | apply F1)); done) | (repeat (first | exact F0 _ | apply F1))) sz9 (by rfl) (by first | exact Nat.le_of_ble_eq_true rfl | (simp; done) | (simp; omega)) rfl (Wt.none rfl) ?_
  refine RunL.nil ?_
  refine Run.sr ?_
  refine RunL.mv rfl rfl ?_
  refine RunL.call rfl rfl (by rfl) (by repeat (first | (with_reducible exact Take.nil _) | (apply Take.cons (by first | ((repeat (first | (with_reducible exact F0 _) | apply F1)); done) | (repeat (first | exact F0 _ | apply F1)))))) (RgText_ctr (by first | exact Gp.le_refl _ | assumption)) (Wt.none rfl) rfl ?_
  rintro _ _ ⟨s5, rfl, hs5, hA_⟩
  replace hA_ := hA_.symm; subst hA_
  obtain ⟨q5, hq5⟩ : ∃ q, q = rdText 1000 q4.2.1 q4.2.2 := ⟨_, rfl⟩
  have hm5 : ((q5.1.length : Nat) : Int) ≤ 1000 := by rw [hq5]; exact rdText_most (by decide)
  rw [← hq5] at hs5 ⊢
  obtain rfl : s5 = mkS q5.1 := bl_inj (by rw [hs5, bl_mkS])
  refine RunL.pure (Pure.fieldAddr rfl fo50_4) (Wt.none rfl) rfl rfl ?_
  refine RunL.store1A (cs' := (cEdu ({ zeroE with kind := q1.1, room := mkS q2.1, user := mkS q3.1, event := mkS q4.1, thread := mkS q5.1 }))) rfl rfl (by first | ((repeat (first | (with_reducible exact F0 _) | apply F1)); done) | (repeat (first | exact F0 _ | apply F1))) sz9 (by rfl) (by first | exact Nat.le_of_ble_eq_true rfl | (simp; done) | (simp; omega)) rfl (Wt.none rfl) ?_
  refine RunL.nil ?_
  refine Run.sr ?_
  refine RunL.mv rfl rfl ?_
  refine RunL.call rfl rfl (by rfl) (by repeat (first | (with_reducible exact Take.nil _) | (apply Take.cons (by first | ((repeat (first | (with_reducible exact F0 _) | apply F1)); done) | (repeat (first | exact F0 _ | apply F1)))))) (RgFlag_ctr (by first | exact Gp.le_refl _ | assumption)) (Wt.none rfl) rfl ?_
  rintro _ _ ⟨rfl, hA_⟩
  replace hA_ := hA_.symm; subst hA_
  obtain ⟨q6, hq6⟩ : ∃ q, q = rdFlag q5.2.1 q5.2.2 := ⟨_, rfl⟩
  rw [← hq6]
  refine RunL.pure (Pure.fieldAddr rfl fo50_6) (Wt.none rfl) rfl rfl ?_
  refine RunL.store1A (cs' := (cEdu ({ zeroE with kind := q1.1, room := mkS q2.1, user := mkS q3.1, event := mkS q4.1, thread := mkS q5.1, typing := q6.1 }))) rfl rfl (by first | ((repeat (first | (with_reducible exact F0 _) | apply F1)); done) | (repeat (first | exact F0 _ | apply F1))) sz4 (by rfl) (by first | exact Nat.le_of_ble_eq_true rfl | (simp; done) | (simp; omega)) rfl (Wt.none rfl) ?_
  refine RunL.nil ?_
  refine Run.sr ?_
  refine RunL.mv rfl rfl ?_
  refine RunL.call rfl rfl (by rfl) (by repeat (first | (with_reducible exact Take.nil _) | (apply Take.cons (by first | ((repeat (first | (with_reducible exact F0 _) | apply F1)); done) | (repeat (first | exact F0 _ | apply F1)))))) (RgNumber_ctr (by first | exact Gp.le_refl _ | assumption)) (Wt.none rfl) rfl ?_
  rintro _ _ ⟨rfl, hA_⟩
  replace hA_ := hA_.symm; subst hA_
  obtain ⟨q7, hq7⟩ : ∃ q, q = rdNum q6.2.1 q6.2.2 := ⟨_, rfl⟩
  rw [← hq7]
  refine RunL.pure (Pure.fieldAddr rfl fo50_7) (Wt.none rfl) rfl rfl ?_
  refine RunL.store1A (cs' := (cEdu ({ zeroE with kind := q1.1, room := mkS q2.1, user := mkS q3.1, event := mkS q4.1, thread := mkS q5.1, typing := q6.1, span := q7.1 }))) rfl rfl (by first | ((repeat (first | (with_reducible exact F0 _) | apply F1)); done) | (repeat (first | exact F0 _ | apply F1))) sz3 (by rfl) (by first | exact Nat.le_of_ble_eq_true rfl | (simp; done) | (simp; omega)) rfl (Wt.none rfl) ?_
  refine RunL.nil ?_
  refine Run.sr ?_
  refine RunL.mv rfl rfl ?_
  refine RunL.call rfl rfl (by rfl) (by repeat (first | (with_reducible exact Take.nil _) | (apply Take.cons (by first | ((repeat (first | (with_reducible exact F0 _) | apply F1)); done) | (repeat (first | exact F0 _ | apply F1)))))) (RgNumber_ctr (by first | exact Gp.le_refl _ | assumption)) (Wt.none rfl) rfl ?_
  rintro _ _ ⟨rfl, hA_⟩
  replace hA_ := hA_.symm; subst hA_
  obtain ⟨q8, hq8⟩ : ∃ q, q = rdNum q7.2.1 q7.2.2 := ⟨_, rfl⟩
  rw [← hq8]
  refine RunL.pure (Pure.fieldAddr rfl fo50_8) (Wt.none rfl) rfl rfl ?_
  refine RunL.store1A (cs' := (cEdu ({ zeroE with kind := q1.1, room := mkS q2.1, user := mkS q3.1, event := mkS q4.1, thread := mkS q5.1, typing := q6.1, span := q7.1, state := q8.1 }))) rfl rfl (by first | ((repeat (first | (with_reducible exact F0 _) | apply F1)); done) | (repeat (first | exact F0 _ | apply F1))) sz3 (by rfl) (by first | exact Nat.le_of_ble_eq_true rfl | (simp; done) | (simp; omega)) rfl (Wt.none rfl) ?_
  refine RunL.nil ?_
  refine Run.sr ?_
  refine RunL.mv rfl rfl ?_
  refine RunL.call rfl rfl (by rfl) (by repeat (first | (with_reducible exact Take.nil _) | (apply Take.cons (by first | ((repeat (first | (with_reducible exact F0 _) | apply F1)); done) | (repeat (first | exact F0 _ | apply F1)))))) (RgNumber_ctr (by first | exact Gp.le_refl _ | assumption)) (Wt.none rfl) rfl ?_
  rintro _ _ ⟨rfl, hA_⟩
  replace hA_ := hA_.symm; subst hA_
  obtain ⟨q9, hq9⟩ : ∃ q, q = rdNum q8.2.1 q8.2.2 := ⟨_, rfl⟩
  rw [← hq9]
  refine RunL.pure (Pure.fieldAddr rfl fo50_9) (Wt.none rfl) rfl rfl ?_
  refine RunL.store1A (cs' := (cEdu ({ zeroE with kind := q1.1, room := mkS q2.1, user := mkS q3.1, event := mkS q4.1, thread := mkS q5.1, typing := q6.1, span := q7.1, state := q8.1, tick := q9.1 }))) rfl rfl (by first | ((repeat (first | (with_reducible exact F0 _) | apply F1)); done) | (repeat (first | exact F0 _ | apply F1))) sz3 (by rfl) (by first | exact Nat.le_of_ble_eq_true rfl | (simp; done) | (simp; omega)) rfl (Wt.none rfl) ?_
  refine RunL.nil ?_
  refine Run.sr ?_
  refine RunL.mv rfl rfl ?_
  refine RunL.call rfl rfl (by rfl) (by repeat (first | (with_reducible exact Take.nil _) | (apply Take.cons (by first | ((repeat (first | (with_reducible exact F0 _) | apply F1)); done) | (repeat (first | exact F0 _ | apply F1)))))) (RgNumber_ctr (by first | exact Gp.le_refl _ | assumption)) (Wt.none rfl) rfl ?_
  rintro _ _ ⟨rfl, hA_⟩
  replace hA_ := hA_.symm; subst hA_
  obtain ⟨q10, hq10⟩ : ∃ q, q = rdNum q9.2.1 q9.2.2 := ⟨_, rfl⟩
  rw [← hq10]
  refine RunL.pure (Pure.fieldAddr rfl fo50_10) (Wt.none rfl) rfl rfl ?_
  refine RunL.store1A (cs' := (cEdu ({ zeroE with kind := q1.1, room := mkS q2.1, user := mkS q3.1, event := mkS q4.1, thread := mkS q5.1, typing := q6.1, span := q7.1, state := q8.1, tick := q9.1, stamp := q10.1 }))) rfl rfl (by first | ((repeat (first | (with_reducible exact F0 _) | apply F1)); done) | (repeat (first | exact F0 _ | apply F1))) sz3 (by rfl) (by first | exact Nat.le_of_ble_eq_true rfl | (simp; done) | (simp; omega)) rfl (Wt.none rfl) ?_
  refine RunL.nil ?_
  have hE : rdE 1000 bs = ((⟨q1.1, mkS q2.1, mkS q3.1, mkS q4.1, mkS q5.1, false, q6.1, q7.1, q8.1, q9.1, q10.1⟩ : Edu), rdEnd q10.2.1 q10.2.2) := by rw [hq10, hq9, hq8, hq7, hq6, hq5, hq4, hq3, hq2, hq1]; rfl
  have hsm : eduSmall (⟨q1.1, mkS q2.1, mkS q3.1, mkS q4.1, mkS q5.1, false, q6.1, q7.1, q8.1, q9.1, q10.1⟩ : Edu) := ⟨by show (mkS q2.1).size ≤ 1000; rw [mkS_size]; omega, by show (mkS q3.1).size ≤ 1000; rw [mkS_size]; omega, by show (mkS q4.1).size ≤ 1000; rw [mkS_size]; omega, by show (mkS q5.1).size ≤ 1000; rw [mkS_size]; omega⟩
  refine Run.sr ?_
  first | refine RunL.loadA (vs := (cEdu ({ zeroE with kind := q1.1, room := mkS q2.1, user := mkS q3.1, event := mkS q4.1, thread := mkS q5.1, typing := q6.1, span := q7.1, state := q8.1, tick := q9.1, stamp := q10.1 }))) rfl (by first | ((repeat (first | (with_reducible exact F0 _) | apply F1)); done) | (repeat (first | exact F0 _ | apply F1))) agg50 sz50 (by first | exact Nat.le_of_ble_eq_true rfl | (simp; done) | (simp; omega)) rfl (Wt.none rfl) rfl ?_ | refine RunL.loadNR (vs := (cEdu ({ zeroE with kind := q1.1, room := mkS q2.1, user := mkS q3.1, event := mkS q4.1, thread := mkS q5.1, typing := q6.1, span := q7.1, state := q8.1, tick := q9.1, stamp := q10.1 }))) rfl (by assumption) agg50 sz50 (by first | exact Nat.le_of_ble_eq_true rfl | (simp; done) | (simp; omega)) rfl (Wt.none rfl) rfl ?_
  refine RunL.call rfl rfl (by rfl) (by repeat (first | (with_reducible exact Take.nil _) | (apply Take.cons (by first | ((repeat (first | (with_reducible exact F0 _) | apply F1)); done) | (repeat (first | exact F0 _ | apply F1)))))) (rMay3_ctr (by assumption)) (Wt.none rfl) rfl ?_
  rintro _ _ ⟨rfl, hA_⟩
  replace hA_ := hA_.symm; subst hA_
  refine RunL.as rfl rfl ?_
  refine RunL.nil ?_
  refine Run.seq ?_
  refine Run.sr ?_
  refine RunL.mv rfl rfl ?_
  refine RunL.call rfl rfl (by rfl) (by repeat (first | (with_reducible exact Take.nil _) | (apply Take.cons (by first | ((repeat (first | (with_reducible exact F0 _) | apply F1)); done) | (repeat (first | exact F0 _ | apply F1)))))) (Ctr.lend (R := fun G => ∃ a cap B I, RgOk _ _ B I ∧ Ro G _ 79 [.slice a B.length cap, .int .i64 (I : Nat), .int .i64 _]) Lends.Rg cb56 (fun G' hle hr => RgEnd_ctr hr.choose_spec.choose_spec.choose_spec.choose_spec.1 hr.choose_spec.choose_spec.choose_spec.choose_spec.2)) (Wt.none rfl) rfl ?_
  rintro _ _ ⟨_, rfl, rfl, hA_⟩
  replace hA_ := hA_.symm; subst hA_
  refine RunL.pure (Pure.neq rfl rfl) (Wt.none rfl) rfl rfl ?_
  refine RunL.mv rfl rfl ?_
  refine RunL.split (d := 45) rfl (fun h1 => ?_) (fun h1 => ?_)
  · try simp only [ZA, ZB, ZC, ZD, ZE, ZF, ZG, ZH, ZI, ZJ, ZK, ZL, ZM, ZN, ZO, ZP, ZQ, ZR] at h1
    refine RunL.not (Wt.no rfl rfl rfl) rfl rfl ?_
    refine RunL.not (Wt.no rfl rfl rfl) rfl rfl ?_
    refine RunL.pure (Pure.pickT rfl rfl) (Wt.none rfl) rfl rfl ?_
    refine RunL.nil ?_
    refine Run.condT rfl ?_
    refine Run.sr ?_
    refine RunL.pure (Pure.buildL (ps := []) (zs := [(.int .i64 0), (.string .empty), (.string .empty), (.string .empty), (.string .empty), (.bool false), (.bool false), (.int .i64 0), (.int .i64 0), (.int .i64 0), (.int .i64 0)]) (xs := (cEdu zeroE)) pl50 rfl rfl rfl rfl) (Wt.none rfl) rfl rfl ?_
    refine RunL.storeW (xs := (cEdu zeroE)) rfl rfl (by first | ((repeat (first | (with_reducible exact F0 _) | apply F1)); done) | (repeat (first | exact F0 _ | apply F1))) sz50 (by rfl) (by rfl) (by rfl) (Wt.none rfl) ?_
    refine RunL.as rfl rfl ?_
    refine RunL.nil ?_
    exact Run.ret Try.func55 (resV2 rfl (Rv.cellN (us := (cEdu zeroE)) rfl (by first | ((repeat (first | (with_reducible exact F0 _) | apply F1)); done) | (repeat (first | exact F0 _ | apply F1))) agg50 sz50 (by first | exact Nat.le_of_ble_eq_true rfl | (simp; done) | (simp; omega)) rfl) (Rv.tmp rfl)) (by exact ⟨by rw [hE, finE_no (.inl (by assumption))], rfl⟩) (by repeat (first | (with_reducible exact Fin.done (by repeat (first | (with_reducible exact Rest.here) | apply Rest.there))) | (apply Fin.cons (by first | ((repeat (first | (with_reducible exact F0 _) | apply F1)); done) | (repeat (first | exact F0 _ | apply F1))))))
  · try simp only [ZA, ZB, ZC, ZD, ZE, ZF, ZG, ZH, ZI, ZJ, ZK, ZL, ZM, ZN, ZO, ZP, ZQ, ZR] at h1
    refine RunL.pure (Pure.move rfl) (Wt.yes rfl rfl rfl) rfl rfl ?_
    refine RunL.pure (Pure.not rfl) (Wt.yes rfl rfl rfl) rfl rfl ?_
    refine RunL.pure (Pure.pickF rfl rfl) (Wt.none rfl) rfl rfl ?_
    refine RunL.nil ?_
    refine Run.cond rfl (fun h2 => ?_) (fun h2 => ?_)
    · try simp only [ZA, ZB, ZC, ZD, ZE, ZF, ZG, ZH, ZI, ZJ, ZK, ZL, ZM, ZN, ZO, ZP, ZQ, ZR] at h2
      refine Run.sr ?_
      refine RunL.pure (Pure.buildL (ps := []) (zs := [(.int .i64 0), (.string .empty), (.string .empty), (.string .empty), (.string .empty), (.bool false), (.bool false), (.int .i64 0), (.int .i64 0), (.int .i64 0), (.int .i64 0)]) (xs := (cEdu zeroE)) pl50 rfl rfl rfl rfl) (Wt.none rfl) rfl rfl ?_
      refine RunL.storeW (xs := (cEdu zeroE)) rfl rfl (by first | ((repeat (first | (with_reducible exact F0 _) | apply F1)); done) | (repeat (first | exact F0 _ | apply F1))) sz50 (by rfl) (by rfl) (by rfl) (Wt.none rfl) ?_
      refine RunL.as rfl rfl ?_
      refine RunL.nil ?_
      exact Run.ret Try.func55 (resV2 rfl (Rv.cellN (us := (cEdu zeroE)) rfl (by first | ((repeat (first | (with_reducible exact F0 _) | apply F1)); done) | (repeat (first | exact F0 _ | apply F1))) agg50 sz50 (by first | exact Nat.le_of_ble_eq_true rfl | (simp; done) | (simp; omega)) rfl) (Rv.tmp rfl)) (by exact ⟨by rw [hE, finE_no (.inr (by assumption))], rfl⟩) (by repeat (first | (with_reducible exact Fin.done (by repeat (first | (with_reducible exact Rest.here) | apply Rest.there))) | (apply Fin.cons (by first | ((repeat (first | (with_reducible exact F0 _) | apply F1)); done) | (repeat (first | exact F0 _ | apply F1))))))
    · try simp only [ZA, ZB, ZC, ZD, ZE, ZF, ZG, ZH, ZI, ZJ, ZK, ZL, ZM, ZN, ZO, ZP, ZQ, ZR] at h2
      refine Run.skip ?_
      refine Run.sr ?_
      first | refine RunL.loadA (vs := (cEdu ({ zeroE with kind := q1.1, room := mkS q2.1, user := mkS q3.1, event := mkS q4.1, thread := mkS q5.1, typing := q6.1, span := q7.1, state := q8.1, tick := q9.1, stamp := q10.1 }))) rfl (by first | ((repeat (first | (with_reducible exact F0 _) | apply F1)); done) | (repeat (first | exact F0 _ | apply F1))) agg50 sz50 (by first | exact Nat.le_of_ble_eq_true rfl | (simp; done) | (simp; omega)) rfl (Wt.none rfl) rfl ?_ | refine RunL.loadNR (vs := (cEdu ({ zeroE with kind := q1.1, room := mkS q2.1, user := mkS q3.1, event := mkS q4.1, thread := mkS q5.1, typing := q6.1, span := q7.1, state := q8.1, tick := q9.1, stamp := q10.1 }))) rfl (by assumption) agg50 sz50 (by first | exact Nat.le_of_ble_eq_true rfl | (simp; done) | (simp; omega)) rfl (Wt.none rfl) rfl ?_
      refine RunL.storeW (xs := (cEdu ((⟨q1.1, mkS q2.1, mkS q3.1, mkS q4.1, mkS q5.1, false, q6.1, q7.1, q8.1, q9.1, q10.1⟩ : Edu)))) rfl rfl (by first | ((repeat (first | (with_reducible exact F0 _) | apply F1)); done) | (repeat (first | exact F0 _ | apply F1))) sz50 (by rfl) (by rfl) (by rfl) (Wt.none rfl) ?_
      refine RunL.as rfl rfl ?_
      refine RunL.nil ?_
      exact Run.ret Try.func55 (resV2 rfl (Rv.cellN (us := (cEdu ((⟨q1.1, mkS q2.1, mkS q3.1, mkS q4.1, mkS q5.1, false, q6.1, q7.1, q8.1, q9.1, q10.1⟩ : Edu)))) rfl (by first | ((repeat (first | (with_reducible exact F0 _) | apply F1)); done) | (repeat (first | exact F0 _ | apply F1))) agg50 sz50 (by first | exact Nat.le_of_ble_eq_true rfl | (simp; done) | (simp; omega)) rfl) (Rv.tmp rfl)) (by exact ⟨by rw [hE, finE, if_pos ⟨by simpa using h1, h2⟩], rfl⟩) (by repeat (first | (with_reducible exact Fin.done (by repeat (first | (with_reducible exact Rest.here) | apply Rest.there))) | (apply Fin.cons (by first | ((repeat (first | (with_reducible exact F0 _) | apply F1)); done) | (repeat (first | exact F0 _ | apply F1))))))

set_option maxRecDepth 100000 in
theorem Read3_ctr {G : Gp} {a : Option Addr} {bs : List UInt8} {cap : Nat} (h : SlR G 5 1 a bs.length (bs.map bv)) (hb : bs.length ≤ 1000000) (hc : bs.length ≤ cap) :
    Ctr Try.prog G 50 [.slice a bs.length cap] [] (fun F v A => v = .tuple #[.agg (cEdu (finE (rdE 34 bs)).1).toArray, .int .i64 (finE (rdE 34 bs)).2] ∧ A = F) := by
  refine Ctr.intro Try.func50 rfl (by kernel_rfl) rfl (fun F => ?_)
  simp only [List.nil_append]
  refine Run.sr ?_
  refine RunL.alloc zz50 (Wt.none rfl) rfl ?_; intro b2
  refine RunL.as rfl rfl ?_
  refine RunL.nil ?_
  refine Run.sr ?_
  refine RunL.mv rfl rfl ?_
  refine RunL.call rfl rfl (by rfl) (by repeat (first | (with_reducible exact Take.nil _) | (apply Take.cons (by first | ((repeat (first | (with_reducible exact F0 _) | apply F1)); done) | (repeat (first | exact F0 _ | apply F1)))))) (Read_ctr h hb) (Wt.none rfl) rfl ?_
  rintro _ _ ⟨p, rfl, hA_⟩
  replace hA_ := hA_.symm; subst hA_
  refine RunL.as rfl rfl ?_
  refine RunL.nil ?_
  refine Run.sr ?_
  refine RunL.mv rfl rfl ?_
  refine RunL.call rfl rfl (by rfl) (by repeat (first | (with_reducible exact Take.nil _) | (apply Take.cons (by first | ((repeat (first | (with_reducible exact F0 _) | apply F1)); done) | (repeat (first | exact F0 _ | apply F1)))))) (RdNumber_ctr (fun q => absurd rfl q) hb) (Wt.none rfl) rfl ?_
  rintro _ _ ⟨rfl, hA_⟩
  replace hA_ := hA_.symm; subst hA_
  obtain ⟨q, hq⟩ : ∃ q, q = rdNum bs 0 := ⟨_, rfl⟩
  rw [← hq]
  have hk0 : KeepOk q.2.1 q.2.2 := by rw [hq]; exact rdNum_keep ⟨fun q => absurd rfl q, hb⟩
  refine RunL.pure (Pure.buildL (ps := [(0, _)]) (zs := [(.int .i64 0), (.string .empty), (.string .empty), (.string .empty), (.string .empty), (.bool false), (.bool false), (.int .i64 0), (.int .i64 0), (.int .i64 0), (.int .i64 0)]) (xs := (cEdu (partE q.1 []))) pl50 rfl rfl rfl rfl) (Wt.none rfl) rfl rfl ?_
  refine RunL.alloc zz50 (Wt.none rfl) rfl ?_; intro b5
  refine RunL.storeW (xs := (cEdu (partE q.1 []))) rfl rfl (by first | ((repeat (first | (with_reducible exact F0 _) | apply F1)); done) | (repeat (first | exact F0 _ | apply F1))) sz50 (by rfl) (by rfl) (by rfl) (Wt.none rfl) ?_
  refine RunL.nil ?_
  refine Run.seq ?_
  refine Run.sr ?_
  refine RunL.pure (Pure.fieldAddr rfl fo50_1) (Wt.none rfl) rfl rfl ?_
  refine RunL.pure (Pure.fieldAddr rfl fo50_2) (Wt.none rfl) rfl rfl ?_
  refine RunL.pure (Pure.fieldAddr rfl fo50_3) (Wt.none rfl) rfl rfl ?_
  refine RunL.pure (Pure.fieldAddr rfl fo50_4) (Wt.none rfl) rfl rfl ?_
  refine RunL.lit (vals := [_, _, _, _]) (vs := [1, 2, 3, 4].map (fun j : Nat => Value.pointer (some ⟨b5, j, none⟩))) und88 sz87 zz87 rfl rfl rfl rfl rfl rfl (by simp [Value.cells, bv, cEdu, cPrc]) rfl (Wt.none rfl) rfl ?_; intro b19
  refine RunL.pure (Pure.lenSl rfl rfl und88) (Wt.none rfl) rfl rfl ?_
  refine RunL.mv rfl rfl ?_
  refine RunL.nil ?_
  refine Run.lendAll (Q := Sl 87 1 (some ⟨b19, 0, none⟩) 4 4 ([1, 2, 3, 4].map (fun j : Nat => Value.pointer (some ⟨b5, j, none⟩)))) (Lends.litRow (n := 4)) (by first | ((repeat (first | (with_reducible exact F0 _) | apply F1)); done) | (repeat (first | exact F0 _ | apply F1))) (fun Ghlp0 hleGhlp0 hlp0 => ?_)
  obtain ⟨postp, hlp⟩ := hlp0
  refine Run.block ?_
  refine Run.keep (.cons rfl (.cons rfl (.cons rfl (.cons rfl (.cons rfl (.cons rfl (.nil)))))) : Keep _ [2, 4, 5, 19, 20, 21] _) ?_
  refine Run.loopF (F := F) (fun n e_ A => ∃ (i : Nat) (ts : List ByteArray) (bs' : List UInt8) (er' : Int), i ≤ 4 ∧ ts.length = i ∧ (∀ s ∈ ts, s.size ≤ 34) ∧ KeepOk bs' er' ∧ rdE 34 bs = tailE 34 q.1 ts (4 - i) bs' er' ∧ n = 4 - i ∧ e_ = [(2, .pointer (some ⟨b2, 0, none⟩)), (4, .pointer (some ⟨p, 0, none⟩)), (5, .pointer (some ⟨b5, 0, none⟩)), (19, .slice (some ⟨b19, 0, none⟩) 4 4), (20, .int .i64 4), (21, .int .i64 (i : Nat))] ∧ A = row b5 50 (cEdu (partE q.1 ts)) :: Rd p bs' er' :: row b2 50 [(.int .i64 0), (.string .empty), (.string .empty), (.string .empty), (.string .empty), (.bool false), (.bool false), (.int .i64 0), (.int .i64 0), (.int .i64 0), (.int .i64 0)] :: F) (4) (by exact ⟨0, [], _, _, by omega, rfl, by simp, hk0, by rw [rdE_tail, hq], rfl, rfl, rfl⟩) (by repeat (first | (with_reducible exact Fin.done (by repeat (first | (with_reducible exact Rest.here) | apply Rest.there))) | (apply Fin.cons (by first | ((repeat (first | (with_reducible exact F0 _) | apply F1)); done) | (repeat (first | exact F0 _ | apply F1)))))) ?_
  rintro n _ _ ⟨i, ts, bs', er', hi, hts, htz, hk, hE, rfl, rfl, hA_⟩ ih
  replace hA_ := hA_.symm; subst hA_
  refine Run.sr ?_
  refine RunL.pure (Pure.lss rfl rfl) (Wt.none rfl) rfl rfl ?_
  refine RunL.nil ?_
  refine Run.seq ?_
  refine Run.cond rfl (fun h1 => ?_) (fun h1 => ?_)
  · try simp only [ZA, ZB, ZC, ZD, ZE, ZF, ZG, ZH, ZI, ZJ, ZK, ZL, ZM, ZN, ZO, ZP, ZQ, ZR] at h1
    rcases (by omega : i = 0 ∨ i = 1 ∨ i = 2 ∨ i = 3) with rfl | rfl | rfl | rfl
    · skip
      obtain rfl : ts = [] := List.length_eq_zero_iff.1 hts
      refine Run.skip ?_
      refine Run.seq ?_
      refine Run.block ?_
      refine Run.sr ?_
      refine RunL.pure (Pure.indexAddr rfl rfl und88 sz87 (by omega) (by omega)) (Wt.none rfl) rfl rfl ?_
      refine RunL.load1R rfl hlp (elem1_at (show [1, 2, 3, 4][0]? = some 1 from rfl)) agg87 (Wt.none rfl) rfl ?_
      refine RunL.as rfl rfl ?_
      refine RunL.nil ?_
      refine Run.region ?_
      refine RunL.mv rfl rfl ?_
      refine RunL.mv rfl rfl ?_
      refine RunL.call rfl rfl (by rfl) (by repeat (first | (with_reducible exact Take.nil _) | (apply Take.cons (by first | ((repeat (first | (with_reducible exact F0 _) | apply F1)); done) | (repeat (first | exact F0 _ | apply F1)))))) (RdText_ctr (most := 34) hk.1 hk.2) (Wt.none rfl) rfl ?_
      rintro _ _ ⟨s, rfl, hs, hA_⟩
      replace hA_ := hA_.symm; subst hA_
      obtain rfl : s = mkS (rdText 34 bs' er').1 := bl_inj (by rw [hs, bl_mkS])
      have hm := rdText_most (m := 34) (bs := bs') (er := er') (by decide)
      refine RunL.pure (Pure.nilCheck rfl) (Wt.none rfl) rfl rfl ?_
      refine RunL.store1A (cs' := (cEdu (partE q.1 [mkS (rdText 34 bs' er').1]))) rfl rfl (by first | ((repeat (first | (with_reducible exact F0 _) | apply F1)); done) | (repeat (first | exact F0 _ | apply F1))) sz9 (by rfl) (by first | exact Nat.le_of_ble_eq_true rfl | (simp; done) | (simp; omega)) rfl (Wt.none rfl) ?_
      refine RunL.nil ?_
      refine Run.inBlock ?_
      refine Run.region ?_
      first | refine RunL.pure (Pure.addI rfl rfl (by omega)) (Wt.none rfl) rfl rfl ?_ | refine RunL.pure (Pure.add rfl rfl) (Wt.none rfl) rfl rfl ?_
      refine RunL.mv rfl rfl ?_
      refine RunL.nil ?_
      refine Run.keep (.cons rfl (.cons rfl (.cons rfl (.cons rfl (.cons rfl (.cons rfl (.nil)))))) : Keep _ [2, 4, 5, 19, 20, 21] _) ?_
      refine Run.againF (F := F) ih (by exact ⟨1, [mkS (rdText 34 bs' er').1], _, _, by omega, rfl, by (intro s hs; rw [show [mkS (rdText 34 bs' er').1] = [] ++ [mkS (rdText 34 bs' er').1] from rfl, List.mem_append] at hs; rcases hs with hs | hs; exact htz s hs; obtain rfl := List.mem_singleton.1 hs; rw [mkS_size]; omega), rdText_keep hk, by rw [hE]; exact tailE_step 34 q.1 [] 3 bs' er', rfl, rfl, rfl⟩) (by repeat (first | (with_reducible exact Fin.done (by repeat (first | (with_reducible exact Rest.here) | apply Rest.there))) | (apply Fin.cons (by first | ((repeat (first | (with_reducible exact F0 _) | apply F1)); done) | (repeat (first | exact F0 _ | apply F1)))))) ?_
      omega
    · skip
      obtain ⟨t0, rfl⟩ : ∃ t0, ts = [t0] := by
        match ts, hts with
        | [t0], _ => exact ⟨_, rfl⟩
      refine Run.skip ?_
      refine Run.seq ?_
      refine Run.block ?_
      refine Run.sr ?_
      refine RunL.pure (Pure.indexAddr rfl rfl und88 sz87 (by omega) (by omega)) (Wt.none rfl) rfl rfl ?_
      refine RunL.load1R rfl hlp (elem1_at (show [1, 2, 3, 4][1]? = some 2 from rfl)) agg87 (Wt.none rfl) rfl ?_
      refine RunL.as rfl rfl ?_
      refine RunL.nil ?_
      refine Run.region ?_
      refine RunL.mv rfl rfl ?_
      refine RunL.mv rfl rfl ?_
      refine RunL.call rfl rfl (by rfl) (by repeat (first | (with_reducible exact Take.nil _) | (apply Take.cons (by first | ((repeat (first | (with_reducible exact F0 _) | apply F1)); done) | (repeat (first | exact F0 _ | apply F1)))))) (RdText_ctr (most := 34) hk.1 hk.2) (Wt.none rfl) rfl ?_
      rintro _ _ ⟨s, rfl, hs, hA_⟩
      replace hA_ := hA_.symm; subst hA_
      obtain rfl : s = mkS (rdText 34 bs' er').1 := bl_inj (by rw [hs, bl_mkS])
      have hm := rdText_most (m := 34) (bs := bs') (er := er') (by decide)
      refine RunL.pure (Pure.nilCheck rfl) (Wt.none rfl) rfl rfl ?_
      refine RunL.store1A (cs' := (cEdu (partE q.1 [t0, mkS (rdText 34 bs' er').1]))) rfl rfl (by first | ((repeat (first | (with_reducible exact F0 _) | apply F1)); done) | (repeat (first | exact F0 _ | apply F1))) sz9 (by rfl) (by first | exact Nat.le_of_ble_eq_true rfl | (simp; done) | (simp; omega)) rfl (Wt.none rfl) ?_
      refine RunL.nil ?_
      refine Run.inBlock ?_
      refine Run.region ?_
      first | refine RunL.pure (Pure.addI rfl rfl (by omega)) (Wt.none rfl) rfl rfl ?_ | refine RunL.pure (Pure.add rfl rfl) (Wt.none rfl) rfl rfl ?_
      refine RunL.mv rfl rfl ?_
      refine RunL.nil ?_
      refine Run.keep (.cons rfl (.cons rfl (.cons rfl (.cons rfl (.cons rfl (.cons rfl (.nil)))))) : Keep _ [2, 4, 5, 19, 20, 21] _) ?_
      refine Run.againF (F := F) ih (by exact ⟨2, [t0, mkS (rdText 34 bs' er').1], _, _, by omega, rfl, by (intro s hs; rw [show [t0, mkS (rdText 34 bs' er').1] = [t0] ++ [mkS (rdText 34 bs' er').1] from rfl, List.mem_append] at hs; rcases hs with hs | hs; exact htz s hs; obtain rfl := List.mem_singleton.1 hs; rw [mkS_size]; omega), rdText_keep hk, by rw [hE]; exact tailE_step 34 q.1 [t0] 2 bs' er', rfl, rfl, rfl⟩) (by repeat (first | (with_reducible exact Fin.done (by repeat (first | (with_reducible exact Rest.here) | apply Rest.there))) | (apply Fin.cons (by first | ((repeat (first | (with_reducible exact F0 _) | apply F1)); done) | (repeat (first | exact F0 _ | apply F1)))))) ?_
      omega
    · skip
      obtain ⟨t0, t1, rfl⟩ : ∃ t0 t1, ts = [t0, t1] := by
        match ts, hts with
        | [t0, t1], _ => exact ⟨_, _, rfl⟩
      refine Run.skip ?_
      refine Run.seq ?_
      refine Run.block ?_
      refine Run.sr ?_
      refine RunL.pure (Pure.indexAddr rfl rfl und88 sz87 (by omega) (by omega)) (Wt.none rfl) rfl rfl ?_
      refine RunL.load1R rfl hlp (elem1_at (show [1, 2, 3, 4][2]? = some 3 from rfl)) agg87 (Wt.none rfl) rfl ?_
      refine RunL.as rfl rfl ?_
      refine RunL.nil ?_
      refine Run.region ?_
      refine RunL.mv rfl rfl ?_
      refine RunL.mv rfl rfl ?_
      refine RunL.call rfl rfl (by rfl) (by repeat (first | (with_reducible exact Take.nil _) | (apply Take.cons (by first | ((repeat (first | (with_reducible exact F0 _) | apply F1)); done) | (repeat (first | exact F0 _ | apply F1)))))) (RdText_ctr (most := 34) hk.1 hk.2) (Wt.none rfl) rfl ?_
      rintro _ _ ⟨s, rfl, hs, hA_⟩
      replace hA_ := hA_.symm; subst hA_
      obtain rfl : s = mkS (rdText 34 bs' er').1 := bl_inj (by rw [hs, bl_mkS])
      have hm := rdText_most (m := 34) (bs := bs') (er := er') (by decide)
      refine RunL.pure (Pure.nilCheck rfl) (Wt.none rfl) rfl rfl ?_
      refine RunL.store1A (cs' := (cEdu (partE q.1 [t0, t1, mkS (rdText 34 bs' er').1]))) rfl rfl (by first | ((repeat (first | (with_reducible exact F0 _) | apply F1)); done) | (repeat (first | exact F0 _ | apply F1))) sz9 (by rfl) (by first | exact Nat.le_of_ble_eq_true rfl | (simp; done) | (simp; omega)) rfl (Wt.none rfl) ?_
      refine RunL.nil ?_
      refine Run.inBlock ?_
      refine Run.region ?_
      first | refine RunL.pure (Pure.addI rfl rfl (by omega)) (Wt.none rfl) rfl rfl ?_ | refine RunL.pure (Pure.add rfl rfl) (Wt.none rfl) rfl rfl ?_
      refine RunL.mv rfl rfl ?_
      refine RunL.nil ?_
      refine Run.keep (.cons rfl (.cons rfl (.cons rfl (.cons rfl (.cons rfl (.cons rfl (.nil)))))) : Keep _ [2, 4, 5, 19, 20, 21] _) ?_
      refine Run.againF (F := F) ih (by exact ⟨3, [t0, t1, mkS (rdText 34 bs' er').1], _, _, by omega, rfl, by (intro s hs; rw [show [t0, t1, mkS (rdText 34 bs' er').1] = [t0, t1] ++ [mkS (rdText 34 bs' er').1] from rfl, List.mem_append] at hs; rcases hs with hs | hs; exact htz s hs; obtain rfl := List.mem_singleton.1 hs; rw [mkS_size]; omega), rdText_keep hk, by rw [hE]; exact tailE_step 34 q.1 [t0, t1] 1 bs' er', rfl, rfl, rfl⟩) (by repeat (first | (with_reducible exact Fin.done (by repeat (first | (with_reducible exact Rest.here) | apply Rest.there))) | (apply Fin.cons (by first | ((repeat (first | (with_reducible exact F0 _) | apply F1)); done) | (repeat (first | exact F0 _ | apply F1)))))) ?_
      omega
    · skip
      obtain ⟨t0, t1, t2, rfl⟩ : ∃ t0 t1 t2, ts = [t0, t1, t2] := by
        match ts, hts with
        | [t0, t1, t2], _ => exact ⟨_, _, _, rfl⟩
      refine Run.skip ?_
      refine Run.seq ?_
      refine Run.block ?_
      refine Run.sr ?_
      refine RunL.pure (Pure.indexAddr rfl rfl und88 sz87 (by omega) (by omega)) (Wt.none rfl) rfl rfl ?_
      refine RunL.load1R rfl hlp (elem1_at (show [1, 2, 3, 4][3]? = some 4 from rfl)) agg87 (Wt.none rfl) rfl ?_
      refine RunL.as rfl rfl ?_
      refine RunL.nil ?_
      refine Run.region ?_
      refine RunL.mv rfl rfl ?_
      refine RunL.mv rfl rfl ?_
      refine RunL.call rfl rfl (by rfl) (by repeat (first | (with_reducible exact Take.nil _) | (apply Take.cons (by first | ((repeat (first | (with_reducible exact F0 _) | apply F1)); done) | (repeat (first | exact F0 _ | apply F1)))))) (RdText_ctr (most := 34) hk.1 hk.2) (Wt.none rfl) rfl ?_
      rintro _ _ ⟨s, rfl, hs, hA_⟩
      replace hA_ := hA_.symm; subst hA_
      obtain rfl : s = mkS (rdText 34 bs' er').1 := bl_inj (by rw [hs, bl_mkS])
      have hm := rdText_most (m := 34) (bs := bs') (er := er') (by decide)
      refine RunL.pure (Pure.nilCheck rfl) (Wt.none rfl) rfl rfl ?_
      refine RunL.store1A (cs' := (cEdu (partE q.1 [t0, t1, t2, mkS (rdText 34 bs' er').1]))) rfl rfl (by first | ((repeat (first | (with_reducible exact F0 _) | apply F1)); done) | (repeat (first | exact F0 _ | apply F1))) sz9 (by rfl) (by first | exact Nat.le_of_ble_eq_true rfl | (simp; done) | (simp; omega)) rfl (Wt.none rfl) ?_
      refine RunL.nil ?_
      refine Run.inBlock ?_
      refine Run.region ?_
      first | refine RunL.pure (Pure.addI rfl rfl (by omega)) (Wt.none rfl) rfl rfl ?_ | refine RunL.pure (Pure.add rfl rfl) (Wt.none rfl) rfl rfl ?_
      refine RunL.mv rfl rfl ?_
      refine RunL.nil ?_
      refine Run.keep (.cons rfl (.cons rfl (.cons rfl (.cons rfl (.cons rfl (.cons rfl (.nil)))))) : Keep _ [2, 4, 5, 19, 20, 21] _) ?_
      refine Run.againF (F := F) ih (by exact ⟨4, [t0, t1, t2, mkS (rdText 34 bs' er').1], _, _, by omega, rfl, by (intro s hs; rw [show [t0, t1, t2, mkS (rdText 34 bs' er').1] = [t0, t1, t2] ++ [mkS (rdText 34 bs' er').1] from rfl, List.mem_append] at hs; rcases hs with hs | hs; exact htz s hs; obtain rfl := List.mem_singleton.1 hs; rw [mkS_size]; omega), rdText_keep hk, by rw [hE]; exact tailE_step 34 q.1 [t0, t1, t2] 0 bs' er', rfl, rfl, rfl⟩) (by repeat (first | (with_reducible exact Fin.done (by repeat (first | (with_reducible exact Rest.here) | apply Rest.there))) | (apply Fin.cons (by first | ((repeat (first | (with_reducible exact F0 _) | apply F1)); done) | (repeat (first | exact F0 _ | apply F1)))))) ?_
      omega
  · try simp only [ZA, ZB, ZC, ZD, ZE, ZF, ZG, ZH, ZI, ZJ, ZK, ZL, ZM, ZN, ZO, ZP, ZQ, ZR] at h1
    obtain rfl : i = 4 := by omega
    rw [Nat.sub_self, tailE_zero] at hE
    refine Run.exit rfl ?_
    refine Run.sr ?_
    refine RunL.mv rfl rfl ?_
    refine RunL.call rfl rfl (by rfl) (by repeat (first | (with_reducible exact Take.nil _) | (apply Take.cons (by first | ((repeat (first | (with_reducible exact F0 _) | apply F1)); done) | (repeat (first | exact F0 _ | apply F1)))))) (RdFlag_ctr hk.1 hk.2) (Wt.none rfl) rfl ?_
    rintro _ _ ⟨rfl, hA_⟩
    replace hA_ := hA_.symm; subst hA_
    refine RunL.pure (Pure.fieldAddr rfl fo50_6) (Wt.none rfl) rfl rfl ?_
    refine RunL.store1A (cs' := (cEdu ({ partE q.1 ts with typing := (rdFlag bs' er').1 }))) rfl rfl (by first | ((repeat (first | (with_reducible exact F0 _) | apply F1)); done) | (repeat (first | exact F0 _ | apply F1))) sz4 (by rfl) (by first | exact Nat.le_of_ble_eq_true rfl | (simp; done) | (simp; omega)) rfl (Wt.none rfl) ?_
    refine RunL.nil ?_
    have hsE : eduSmall { partE q.1 ts with typing := (rdFlag bs' er').1 } := part_small (k := q.1) htz
    obtain ⟨E, hEE⟩ : ∃ E, E = { partE q.1 ts with typing := (rdFlag bs' er').1 } := ⟨_, rfl⟩
    rw [← hEE] at hE hsE
    rw [show cEdu { partE q.1 ts with typing := (rdFlag bs' er').1 } = cEdu (partN E []) from by rw [hEE]; rfl]
    refine Run.seq ?_
    refine Run.sr ?_
    refine RunL.pure (Pure.fieldAddr rfl fo50_7) (Wt.none rfl) rfl rfl ?_
    refine RunL.pure (Pure.fieldAddr rfl fo50_8) (Wt.none rfl) rfl rfl ?_
    refine RunL.pure (Pure.fieldAddr rfl fo50_9) (Wt.none rfl) rfl rfl ?_
    refine RunL.pure (Pure.fieldAddr rfl fo50_10) (Wt.none rfl) rfl rfl ?_
    refine RunL.lit (vals := [_, _, _, _]) (vs := [7, 8, 9, 10].map (fun j : Nat => Value.pointer (some ⟨b5, j, none⟩))) und90 sz89 zz89 rfl rfl rfl rfl rfl rfl (by simp [Value.cells, bv, cEdu, cPrc]) rfl (Wt.none rfl) rfl ?_; intro b37
    refine RunL.pure (Pure.lenSl rfl rfl und90) (Wt.none rfl) rfl rfl ?_
    refine RunL.mv rfl rfl ?_
    refine RunL.nil ?_
    refine Run.lendAll (Q := Sl 89 1 (some ⟨b37, 0, none⟩) 4 4 ([7, 8, 9, 10].map (fun j : Nat => Value.pointer (some ⟨b5, j, none⟩)))) (Lends.litRow (n := 4)) (by first | ((repeat (first | (with_reducible exact F0 _) | apply F1)); done) | (repeat (first | exact F0 _ | apply F1))) (fun Ghlq0 hleGhlq0 hlq0 => ?_)
    replace hlp := hlp.mono hleGhlq0
    obtain ⟨postq, hlq⟩ := hlq0
    refine Run.block ?_
    refine Run.keep (.cons rfl (.cons rfl (.cons rfl (.cons rfl (.cons rfl (.cons rfl (.nil)))))) : Keep _ [2, 4, 5, 37, 38, 39] _) ?_
    refine Run.loopF (F := F) (fun n e_ A => ∃ (i : Nat) (zs : List Int) (bs' : List UInt8) (er' : Int), i ≤ 4 ∧ zs.length = i ∧ KeepOk bs' er' ∧ rdE 34 bs = tailN E zs (4 - i) bs' er' ∧ n = 4 - i ∧ e_ = [(2, .pointer (some ⟨b2, 0, none⟩)), (4, .pointer (some ⟨p, 0, none⟩)), (5, .pointer (some ⟨b5, 0, none⟩)), (37, .slice (some ⟨b37, 0, none⟩) 4 4), (38, .int .i64 4), (39, .int .i64 (i : Nat))] ∧ A = row b5 50 (cEdu (partN E zs)) :: Rd p bs' er' :: row b2 50 [(.int .i64 0), (.string .empty), (.string .empty), (.string .empty), (.string .empty), (.bool false), (.bool false), (.int .i64 0), (.int .i64 0), (.int .i64 0), (.int .i64 0)] :: F) (4) (by exact ⟨0, [], _, _, by omega, rfl, rdFlag_keep hk, (by rw [hE]), rfl, rfl, rfl⟩) (by repeat (first | (with_reducible exact Fin.done (by repeat (first | (with_reducible exact Rest.here) | apply Rest.there))) | (apply Fin.cons (by first | ((repeat (first | (with_reducible exact F0 _) | apply F1)); done) | (repeat (first | exact F0 _ | apply F1)))))) ?_
    rintro n _ _ ⟨i, zs, bs', er', hi, hzs, hk, hE, rfl, rfl, hA_⟩ ih
    replace hA_ := hA_.symm; subst hA_
    have hsm : eduSmall (partN E zs) := hsE
    refine Run.sr ?_
    refine RunL.pure (Pure.lss rfl rfl) (Wt.none rfl) rfl rfl ?_
    refine RunL.nil ?_
    refine Run.seq ?_
    refine Run.cond rfl (fun h1 => ?_) (fun h1 => ?_)
    · try simp only [ZA, ZB, ZC, ZD, ZE, ZF, ZG, ZH, ZI, ZJ, ZK, ZL, ZM, ZN, ZO, ZP, ZQ, ZR] at h1
      rcases (by omega : i = 0 ∨ i = 1 ∨ i = 2 ∨ i = 3) with rfl | rfl | rfl | rfl
      · skip
        obtain rfl : zs = [] := List.length_eq_zero_iff.1 hzs
        refine Run.skip ?_
        refine Run.seq ?_
        refine Run.block ?_
        refine Run.sr ?_
        refine RunL.pure (Pure.indexAddr rfl rfl und90 sz89 (by omega) (by omega)) (Wt.none rfl) rfl rfl ?_
        refine RunL.load1R rfl hlq (elem1_at (show [7, 8, 9, 10][0]? = some 7 from rfl)) agg89 (Wt.none rfl) rfl ?_
        refine RunL.as rfl rfl ?_
        refine RunL.nil ?_
        refine Run.region ?_
        refine RunL.mv rfl rfl ?_
        refine RunL.mv rfl rfl ?_
        refine RunL.call rfl rfl (by rfl) (by repeat (first | (with_reducible exact Take.nil _) | (apply Take.cons (by first | ((repeat (first | (with_reducible exact F0 _) | apply F1)); done) | (repeat (first | exact F0 _ | apply F1)))))) (RdNumber_ctr hk.1 hk.2) (Wt.none rfl) rfl ?_
        rintro _ _ ⟨rfl, hA_⟩
        replace hA_ := hA_.symm; subst hA_
        refine RunL.pure (Pure.nilCheck rfl) (Wt.none rfl) rfl rfl ?_
        refine RunL.store1A (cs' := (cEdu (partN E [(rdNum bs' er').1]))) rfl rfl (by first | ((repeat (first | (with_reducible exact F0 _) | apply F1)); done) | (repeat (first | exact F0 _ | apply F1))) sz3 (by rfl) (by first | exact Nat.le_of_ble_eq_true rfl | (simp; done) | (simp; omega)) rfl (Wt.none rfl) ?_
        refine RunL.nil ?_
        refine Run.inBlock ?_
        refine Run.region ?_
        first | refine RunL.pure (Pure.addI rfl rfl (by omega)) (Wt.none rfl) rfl rfl ?_ | refine RunL.pure (Pure.add rfl rfl) (Wt.none rfl) rfl rfl ?_
        refine RunL.mv rfl rfl ?_
        refine RunL.nil ?_
        refine Run.keep (.cons rfl (.cons rfl (.cons rfl (.cons rfl (.cons rfl (.cons rfl (.nil)))))) : Keep _ [2, 4, 5, 37, 38, 39] _) ?_
        refine Run.againF (F := F) ih (by exact ⟨1, [(rdNum bs' er').1], _, _, by omega, rfl, rdNum_keep hk, by rw [hE]; exact tailN_step E [] 3 bs' er', rfl, rfl, rfl⟩) (by repeat (first | (with_reducible exact Fin.done (by repeat (first | (with_reducible exact Rest.here) | apply Rest.there))) | (apply Fin.cons (by first | ((repeat (first | (with_reducible exact F0 _) | apply F1)); done) | (repeat (first | exact F0 _ | apply F1)))))) ?_
        omega
      · skip
        obtain ⟨z0, rfl⟩ : ∃ z0, zs = [z0] := by
          match zs, hzs with
          | [z0], _ => exact ⟨_, rfl⟩
        refine Run.skip ?_
        refine Run.seq ?_
        refine Run.block ?_
        refine Run.sr ?_
        refine RunL.pure (Pure.indexAddr rfl rfl und90 sz89 (by omega) (by omega)) (Wt.none rfl) rfl rfl ?_
        refine RunL.load1R rfl hlq (elem1_at (show [7, 8, 9, 10][1]? = some 8 from rfl)) agg89 (Wt.none rfl) rfl ?_
        refine RunL.as rfl rfl ?_
        refine RunL.nil ?_
        refine Run.region ?_
        refine RunL.mv rfl rfl ?_
        refine RunL.mv rfl rfl ?_
        refine RunL.call rfl rfl (by rfl) (by repeat (first | (with_reducible exact Take.nil _) | (apply Take.cons (by first | ((repeat (first | (with_reducible exact F0 _) | apply F1)); done) | (repeat (first | exact F0 _ | apply F1)))))) (RdNumber_ctr hk.1 hk.2) (Wt.none rfl) rfl ?_
        rintro _ _ ⟨rfl, hA_⟩
        replace hA_ := hA_.symm; subst hA_
        refine RunL.pure (Pure.nilCheck rfl) (Wt.none rfl) rfl rfl ?_
        refine RunL.store1A (cs' := (cEdu (partN E [z0, (rdNum bs' er').1]))) rfl rfl (by first | ((repeat (first | (with_reducible exact F0 _) | apply F1)); done) | (repeat (first | exact F0 _ | apply F1))) sz3 (by rfl) (by first | exact Nat.le_of_ble_eq_true rfl | (simp; done) | (simp; omega)) rfl (Wt.none rfl) ?_
        refine RunL.nil ?_
        refine Run.inBlock ?_
        refine Run.region ?_
        first | refine RunL.pure (Pure.addI rfl rfl (by omega)) (Wt.none rfl) rfl rfl ?_ | refine RunL.pure (Pure.add rfl rfl) (Wt.none rfl) rfl rfl ?_
        refine RunL.mv rfl rfl ?_
        refine RunL.nil ?_
        refine Run.keep (.cons rfl (.cons rfl (.cons rfl (.cons rfl (.cons rfl (.cons rfl (.nil)))))) : Keep _ [2, 4, 5, 37, 38, 39] _) ?_
        refine Run.againF (F := F) ih (by exact ⟨2, [z0, (rdNum bs' er').1], _, _, by omega, rfl, rdNum_keep hk, by rw [hE]; exact tailN_step E [z0] 2 bs' er', rfl, rfl, rfl⟩) (by repeat (first | (with_reducible exact Fin.done (by repeat (first | (with_reducible exact Rest.here) | apply Rest.there))) | (apply Fin.cons (by first | ((repeat (first | (with_reducible exact F0 _) | apply F1)); done) | (repeat (first | exact F0 _ | apply F1)))))) ?_
        omega
      · skip
        obtain ⟨z0, z1, rfl⟩ : ∃ z0 z1, zs = [z0, z1] := by
          match zs, hzs with
          | [z0, z1], _ => exact ⟨_, _, rfl⟩
        refine Run.skip ?_
        refine Run.seq ?_
        refine Run.block ?_
        refine Run.sr ?_
        refine RunL.pure (Pure.indexAddr rfl rfl und90 sz89 (by omega) (by omega)) (Wt.none rfl) rfl rfl ?_
        refine RunL.load1R rfl hlq (elem1_at (show [7, 8, 9, 10][2]? = some 9 from rfl)) agg89 (Wt.none rfl) rfl ?_
        refine RunL.as rfl rfl ?_
        refine RunL.nil ?_
        refine Run.region ?_
        refine RunL.mv rfl rfl ?_
        refine RunL.mv rfl rfl ?_
        refine RunL.call rfl rfl (by rfl) (by repeat (first | (with_reducible exact Take.nil _) | (apply Take.cons (by first | ((repeat (first | (with_reducible exact F0 _) | apply F1)); done) | (repeat (first | exact F0 _ | apply F1)))))) (RdNumber_ctr hk.1 hk.2) (Wt.none rfl) rfl ?_
        rintro _ _ ⟨rfl, hA_⟩
        replace hA_ := hA_.symm; subst hA_
        refine RunL.pure (Pure.nilCheck rfl) (Wt.none rfl) rfl rfl ?_
        refine RunL.store1A (cs' := (cEdu (partN E [z0, z1, (rdNum bs' er').1]))) rfl rfl (by first | ((repeat (first | (with_reducible exact F0 _) | apply F1)); done) | (repeat (first | exact F0 _ | apply F1))) sz3 (by rfl) (by first | exact Nat.le_of_ble_eq_true rfl | (simp; done) | (simp; omega)) rfl (Wt.none rfl) ?_
        refine RunL.nil ?_
        refine Run.inBlock ?_
        refine Run.region ?_
        first | refine RunL.pure (Pure.addI rfl rfl (by omega)) (Wt.none rfl) rfl rfl ?_ | refine RunL.pure (Pure.add rfl rfl) (Wt.none rfl) rfl rfl ?_
        refine RunL.mv rfl rfl ?_
        refine RunL.nil ?_
        refine Run.keep (.cons rfl (.cons rfl (.cons rfl (.cons rfl (.cons rfl (.cons rfl (.nil)))))) : Keep _ [2, 4, 5, 37, 38, 39] _) ?_
        refine Run.againF (F := F) ih (by exact ⟨3, [z0, z1, (rdNum bs' er').1], _, _, by omega, rfl, rdNum_keep hk, by rw [hE]; exact tailN_step E [z0, z1] 1 bs' er', rfl, rfl, rfl⟩) (by repeat (first | (with_reducible exact Fin.done (by repeat (first | (with_reducible exact Rest.here) | apply Rest.there))) | (apply Fin.cons (by first | ((repeat (first | (with_reducible exact F0 _) | apply F1)); done) | (repeat (first | exact F0 _ | apply F1)))))) ?_
        omega
      · skip
        obtain ⟨z0, z1, z2, rfl⟩ : ∃ z0 z1 z2, zs = [z0, z1, z2] := by
          match zs, hzs with
          | [z0, z1, z2], _ => exact ⟨_, _, _, rfl⟩
        refine Run.skip ?_
        refine Run.seq ?_
        refine Run.block ?_
        refine Run.sr ?_
        refine RunL.pure (Pure.indexAddr rfl rfl und90 sz89 (by omega) (by omega)) (Wt.none rfl) rfl rfl ?_
        refine RunL.load1R rfl hlq (elem1_at (show [7, 8, 9, 10][3]? = some 10 from rfl)) agg89 (Wt.none rfl) rfl ?_
        refine RunL.as rfl rfl ?_
        refine RunL.nil ?_
        refine Run.region ?_
        refine RunL.mv rfl rfl ?_
        refine RunL.mv rfl rfl ?_
        refine RunL.call rfl rfl (by rfl) (by repeat (first | (with_reducible exact Take.nil _) | (apply Take.cons (by first | ((repeat (first | (with_reducible exact F0 _) | apply F1)); done) | (repeat (first | exact F0 _ | apply F1)))))) (RdNumber_ctr hk.1 hk.2) (Wt.none rfl) rfl ?_
        rintro _ _ ⟨rfl, hA_⟩
        replace hA_ := hA_.symm; subst hA_
        refine RunL.pure (Pure.nilCheck rfl) (Wt.none rfl) rfl rfl ?_
        refine RunL.store1A (cs' := (cEdu (partN E [z0, z1, z2, (rdNum bs' er').1]))) rfl rfl (by first | ((repeat (first | (with_reducible exact F0 _) | apply F1)); done) | (repeat (first | exact F0 _ | apply F1))) sz3 (by rfl) (by first | exact Nat.le_of_ble_eq_true rfl | (simp; done) | (simp; omega)) rfl (Wt.none rfl) ?_
        refine RunL.nil ?_
        refine Run.inBlock ?_
        refine Run.region ?_
        first | refine RunL.pure (Pure.addI rfl rfl (by omega)) (Wt.none rfl) rfl rfl ?_ | refine RunL.pure (Pure.add rfl rfl) (Wt.none rfl) rfl rfl ?_
        refine RunL.mv rfl rfl ?_
        refine RunL.nil ?_
        refine Run.keep (.cons rfl (.cons rfl (.cons rfl (.cons rfl (.cons rfl (.cons rfl (.nil)))))) : Keep _ [2, 4, 5, 37, 38, 39] _) ?_
        refine Run.againF (F := F) ih (by exact ⟨4, [z0, z1, z2, (rdNum bs' er').1], _, _, by omega, rfl, rdNum_keep hk, by rw [hE]; exact tailN_step E [z0, z1, z2] 0 bs' er', rfl, rfl, rfl⟩) (by repeat (first | (with_reducible exact Fin.done (by repeat (first | (with_reducible exact Rest.here) | apply Rest.there))) | (apply Fin.cons (by first | ((repeat (first | (with_reducible exact F0 _) | apply F1)); done) | (repeat (first | exact F0 _ | apply F1)))))) ?_
        omega
    · try simp only [ZA, ZB, ZC, ZD, ZE, ZF, ZG, ZH, ZI, ZJ, ZK, ZL, ZM, ZN, ZO, ZP, ZQ, ZR] at h1
      obtain rfl : i = 4 := by omega
      rw [Nat.sub_self] at hE
      change rdE 34 bs = (partN E zs, rdEnd bs' er') at hE
      refine Run.exit rfl ?_
      refine Run.seq ?_
      refine Run.sr ?_
      refine RunL.mv rfl rfl ?_
      refine RunL.call rfl rfl (by rfl) (by repeat (first | (with_reducible exact Take.nil _) | (apply Take.cons (by first | ((repeat (first | (with_reducible exact F0 _) | apply F1)); done) | (repeat (first | exact F0 _ | apply F1)))))) (Ctr.lend (R := fun G => ∃ a cap, Ro G _ 85 [.slice a _ cap, .int .i64 _]) Lends.Rd cb51 (fun G' hle hr => RdEnd_ctr hr.choose_spec.choose_spec)) (Wt.none rfl) rfl ?_
      rintro _ _ ⟨_, rfl, rfl, hA_⟩
      replace hA_ := hA_.symm; subst hA_
      refine RunL.pure (Pure.neq rfl rfl) (Wt.none rfl) rfl rfl ?_
      refine RunL.mv rfl rfl ?_
      refine RunL.split (d := 51) rfl (fun h2 => ?_) (fun h2 => ?_)
      · try simp only [ZA, ZB, ZC, ZD, ZE, ZF, ZG, ZH, ZI, ZJ, ZK, ZL, ZM, ZN, ZO, ZP, ZQ, ZR] at h2
        refine RunL.not (Wt.no rfl rfl rfl) rfl rfl ?_
        refine RunL.not (Wt.no rfl rfl rfl) rfl rfl ?_
        refine RunL.not (Wt.no rfl rfl rfl) rfl rfl ?_
        refine RunL.pure (Pure.pickT rfl rfl) (Wt.none rfl) rfl rfl ?_
        refine RunL.nil ?_
        refine Run.condT rfl ?_
        refine Run.sr ?_
        refine RunL.pure (Pure.buildL (ps := []) (zs := [(.int .i64 0), (.string .empty), (.string .empty), (.string .empty), (.string .empty), (.bool false), (.bool false), (.int .i64 0), (.int .i64 0), (.int .i64 0), (.int .i64 0)]) (xs := (cEdu zeroE)) pl50 rfl rfl rfl rfl) (Wt.none rfl) rfl rfl ?_
        refine RunL.storeW (xs := (cEdu zeroE)) rfl rfl (by first | ((repeat (first | (with_reducible exact F0 _) | apply F1)); done) | (repeat (first | exact F0 _ | apply F1))) sz50 (by rfl) (by rfl) (by rfl) (Wt.none rfl) ?_
        refine RunL.as rfl rfl ?_
        refine RunL.nil ?_
        exact Run.ret Try.func50 (resV2 rfl (Rv.cellN (us := (cEdu zeroE)) rfl (by first | ((repeat (first | (with_reducible exact F0 _) | apply F1)); done) | (repeat (first | exact F0 _ | apply F1))) agg50 sz50 (by first | exact Nat.le_of_ble_eq_true rfl | (simp; done) | (simp; omega)) rfl) (Rv.tmp rfl)) (by exact ⟨by rw [hE, finE_no (.inl (by assumption))], rfl⟩) (by repeat (first | (with_reducible exact Fin.done (by repeat (first | (with_reducible exact Rest.here) | apply Rest.there))) | (apply Fin.cons (by first | ((repeat (first | (with_reducible exact F0 _) | apply F1)); done) | (repeat (first | exact F0 _ | apply F1))))))
      · try simp only [ZA, ZB, ZC, ZD, ZE, ZF, ZG, ZH, ZI, ZJ, ZK, ZL, ZM, ZN, ZO, ZP, ZQ, ZR] at h2
        first | refine RunL.loadA (vs := (cEdu (partN E zs))) rfl (by first | ((repeat (first | (with_reducible exact F0 _) | apply F1)); done) | (repeat (first | exact F0 _ | apply F1))) agg50 sz50 (by first | exact Nat.le_of_ble_eq_true rfl | (simp; done) | (simp; omega)) rfl (Wt.yes rfl rfl rfl) rfl ?_ | refine RunL.loadNR (vs := (cEdu (partN E zs))) rfl (by assumption) agg50 sz50 (by first | exact Nat.le_of_ble_eq_true rfl | (simp; done) | (simp; omega)) rfl (Wt.yes rfl rfl rfl) rfl ?_
        refine RunL.call rfl rfl (by rfl) (by repeat (first | (with_reducible exact Take.nil _) | (apply Take.cons (by first | ((repeat (first | (with_reducible exact F0 _) | apply F1)); done) | (repeat (first | exact F0 _ | apply F1)))))) (May_ctr (e := partN E zs) hsm) (Wt.yes rfl rfl rfl) rfl ?_
        rintro _ _ ⟨rfl, hA_⟩
        replace hA_ := hA_.symm; subst hA_
        refine RunL.pure (Pure.not rfl) (Wt.yes rfl rfl rfl) rfl rfl ?_
        refine RunL.pure (Pure.pickF rfl rfl) (Wt.none rfl) rfl rfl ?_
        refine RunL.nil ?_
        refine Run.cond rfl (fun h3 => ?_) (fun h3 => ?_)
        · try simp only [ZA, ZB, ZC, ZD, ZE, ZF, ZG, ZH, ZI, ZJ, ZK, ZL, ZM, ZN, ZO, ZP, ZQ, ZR] at h3
          refine Run.sr ?_
          refine RunL.pure (Pure.buildL (ps := []) (zs := [(.int .i64 0), (.string .empty), (.string .empty), (.string .empty), (.string .empty), (.bool false), (.bool false), (.int .i64 0), (.int .i64 0), (.int .i64 0), (.int .i64 0)]) (xs := (cEdu zeroE)) pl50 rfl rfl rfl rfl) (Wt.none rfl) rfl rfl ?_
          refine RunL.storeW (xs := (cEdu zeroE)) rfl rfl (by first | ((repeat (first | (with_reducible exact F0 _) | apply F1)); done) | (repeat (first | exact F0 _ | apply F1))) sz50 (by rfl) (by rfl) (by rfl) (Wt.none rfl) ?_
          refine RunL.as rfl rfl ?_
          refine RunL.nil ?_
          exact Run.ret Try.func50 (resV2 rfl (Rv.cellN (us := (cEdu zeroE)) rfl (by first | ((repeat (first | (with_reducible exact F0 _) | apply F1)); done) | (repeat (first | exact F0 _ | apply F1))) agg50 sz50 (by first | exact Nat.le_of_ble_eq_true rfl | (simp; done) | (simp; omega)) rfl) (Rv.tmp rfl)) (by exact ⟨by rw [hE, finE_no (.inr (by assumption))], rfl⟩) (by repeat (first | (with_reducible exact Fin.done (by repeat (first | (with_reducible exact Rest.here) | apply Rest.there))) | (apply Fin.cons (by first | ((repeat (first | (with_reducible exact F0 _) | apply F1)); done) | (repeat (first | exact F0 _ | apply F1))))))
        · try simp only [ZA, ZB, ZC, ZD, ZE, ZF, ZG, ZH, ZI, ZJ, ZK, ZL, ZM, ZN, ZO, ZP, ZQ, ZR] at h3
          refine Run.skip ?_
          refine Run.sr ?_
          first | refine RunL.loadA (vs := (cEdu (partN E zs))) rfl (by first | ((repeat (first | (with_reducible exact F0 _) | apply F1)); done) | (repeat (first | exact F0 _ | apply F1))) agg50 sz50 (by first | exact Nat.le_of_ble_eq_true rfl | (simp; done) | (simp; omega)) rfl (Wt.none rfl) rfl ?_ | refine RunL.loadNR (vs := (cEdu (partN E zs))) rfl (by assumption) agg50 sz50 (by first | exact Nat.le_of_ble_eq_true rfl | (simp; done) | (simp; omega)) rfl (Wt.none rfl) rfl ?_
          refine RunL.storeW (xs := (cEdu (partN E zs))) rfl rfl (by first | ((repeat (first | (with_reducible exact F0 _) | apply F1)); done) | (repeat (first | exact F0 _ | apply F1))) sz50 (by rfl) (by rfl) (by rfl) (Wt.none rfl) ?_
          refine RunL.as rfl rfl ?_
          refine RunL.nil ?_
          exact Run.ret Try.func50 (resV2 rfl (Rv.cellN (us := (cEdu (partN E zs))) rfl (by first | ((repeat (first | (with_reducible exact F0 _) | apply F1)); done) | (repeat (first | exact F0 _ | apply F1))) agg50 sz50 (by first | exact Nat.le_of_ble_eq_true rfl | (simp; done) | (simp; omega)) rfl) (Rv.tmp rfl)) (by exact ⟨by rw [hE, finE, if_pos ⟨by simpa using h2, h3⟩], rfl⟩) (by repeat (first | (with_reducible exact Fin.done (by repeat (first | (with_reducible exact Rest.here) | apply Rest.there))) | (apply Fin.cons (by first | ((repeat (first | (with_reducible exact F0 _) | apply F1)); done) | (repeat (first | exact F0 _ | apply F1))))))

end Go.Proofs.Ytbgjfpaigndbmaa
