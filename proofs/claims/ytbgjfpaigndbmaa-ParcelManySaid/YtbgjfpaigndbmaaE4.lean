/- EDUs: keys, orders. -/
import Derived.Test.YtbgjfpaigndbmaaE3
set_option linter.unusedVariables false
set_option linter.unusedSimpArgs false
set_option linter.unusedSectionVars false
namespace Go.Proofs.Ytbgjfpaigndbmaa
open Go Csl


namespace Csl
theorem bl_iff {a b : ByteArray} : bl a = bl b ↔ a = b := ⟨bl_inj, fun h => by rw [h]⟩
def cmpB (x y : List UInt8) : Int := cmpS (mkS x) (mkS y)
def edCmp (x y : Edu) : Int := orI (cmpI x.stamp y.stamp) (cmpB (eduBytes x) (eduBytes y))
theorem compareBytes_eq : ∀ (x y : List UInt8), Lib.compareBytes x y = cmpB x y
  | [], [] => by decide
  | [], _ :: _ => by unfold cmpB cmpS; rw [bl_mkS, bl_mkS]; rfl
  | a :: x, [] => by
    unfold cmpB cmpS; rw [bl_mkS, bl_mkS, if_neg (by simp [Op.bytesLess]), if_neg (fun h => by have := congrArg bl h; rw [bl_mkS, bl_mkS] at this; cases this)]; rfl
  | a :: x, b :: y => by
    have ih := compareBytes_eq x y
    unfold cmpB cmpS at ih ⊢
    rw [bl_mkS, bl_mkS] at ih ⊢
    unfold Lib.compareBytes
    rw [ih]
    have hm : ∀ {u v : List UInt8}, mkS u = mkS v ↔ u = v := ⟨fun h => by have := congrArg bl h; rwa [bl_mkS, bl_mkS] at this, fun h => by rw [h]⟩
    simp only [hm]
    by_cases h1 : a < b
    · simp [Op.bytesLess, h1]
    · by_cases h2 : b < a
      · have : a ≠ b := fun e => by subst e; exact UInt8.lt_irrefl _ h2
        simp [Op.bytesLess, h1, h2, this]
      · have : a = b := UInt8.le_antisymm (UInt8.not_lt.1 h2) (UInt8.not_lt.1 h1)
        subst this
        simp [Op.bytesLess, UInt8.lt_irrefl]
theorem edCmp_str {x y : Edu} (h1 : ¬ x.stamp < y.stamp) (h2 : ¬ x.stamp > y.stamp) : edCmp x y = cmpB (eduBytes x) (eduBytes y) := by rw [edCmp, cmpI, if_neg h1, if_neg h2]; rfl
theorem cmpB_lt {x y : List UInt8} (h : Op.bytesLess x y = true) : cmpB x y = -1 := by unfold cmpB cmpS; rw [bl_mkS, bl_mkS, if_pos h]
theorem cmpB_gt {x y : List UInt8} (h : (Op.bytesLess x y || decide (x = y)) = false) : cmpB x y = 1 := by
  simp only [Bool.or_eq_false_iff, decide_eq_false_iff_not] at h
  unfold cmpB cmpS; rw [bl_mkS, bl_mkS, if_neg (by rw [h.1]; decide), if_neg (fun e => h.2 (by have := congrArg bl e; rwa [bl_mkS, bl_mkS] at this))]
theorem cmpB_eq {x y : List UInt8} (h : Op.bytesLess x y = false) (h' : Op.bytesLess x y = true ∨ x = y) : cmpB x y = 0 := by
  unfold cmpB cmpS; rw [bl_mkS, bl_mkS, if_neg (by rw [h]; decide), if_pos]
  rcases h' with q | q
  · rw [h] at q; cases q
  · rw [q]
end Csl

set_option maxRecDepth 100000 in
theorem Public3_ctr {G : Gp} {e : Edu} (ho : okEdu e) :
    Ctr Try.prog G 23 [.agg (cEdu e).toArray] [] (fun F v A => v = .agg (cEdu (pubE e)).toArray ∧ A = F) := by
  refine Ctr.intro Try.func23 rfl (by kernel_rfl) rfl (fun F => ?_)
  simp only [List.nil_append]
  refine Run.sr ?_
  refine RunL.boxA (xs := (cEdu e)) rfl (Wt.none rfl) rfl ?_; intro b1
  refine RunL.alloc zz50 (Wt.none rfl) rfl ?_; intro b2
  refine RunL.nil ?_
  refine Run.lendAll (Q := row b1 50 _) Lends.row (by first | ((repeat (first | (with_reducible exact F0 _) | apply F1)); done) | (repeat (first | exact F0 _ | apply F1))) (fun G1 hleG1 hrb1 => ?_)
  refine Run.sr ?_
  first | refine RunL.loadA (vs := (cEdu e)) rfl (by first | ((repeat (first | (with_reducible exact F0 _) | apply F1)); done) | (repeat (first | exact F0 _ | apply F1))) agg50 sz50 (by first | exact Nat.le_of_ble_eq_true rfl | (simp; done) | (simp; omega)) rfl (Wt.none rfl) rfl ?_ | refine RunL.loadNR (vs := (cEdu e)) rfl (by assumption) agg50 sz50 (by first | exact Nat.le_of_ble_eq_true rfl | (simp; done) | (simp; omega)) rfl (Wt.none rfl) rfl ?_
  refine RunL.call rfl rfl (by rfl) (by repeat (first | (with_reducible exact Take.nil _) | (apply Take.cons (by first | ((repeat (first | (with_reducible exact F0 _) | apply F1)); done) | (repeat (first | exact F0 _ | apply F1)))))) (Good3_ctr (e := e) (by assumption)) (Wt.none rfl) rfl ?_
  rintro _ _ ⟨rfl, hA_⟩
  replace hA_ := hA_.symm; subst hA_
  refine RunL.alloc zz50 (Wt.none rfl) rfl ?_; intro b3
  refine RunL.storeW (xs := (cEdu (goodE e))) rfl rfl (by first | ((repeat (first | (with_reducible exact F0 _) | apply F1)); done) | (repeat (first | exact F0 _ | apply F1))) sz50 (by rfl) (by rfl) (by rfl) (Wt.none rfl) ?_
  refine RunL.nil ?_
  refine Run.sr ?_
  refine RunL.pure (Pure.fieldAddr rfl fo50_5) (Wt.none rfl) rfl rfl ?_
  refine RunL.store1A (cs' := (cEdu (pubE e))) rfl rfl (by first | ((repeat (first | (with_reducible exact F0 _) | apply F1)); done) | (repeat (first | exact F0 _ | apply F1))) sz4 (by rfl) (by first | exact Nat.le_of_ble_eq_true rfl | (simp; done) | (simp; omega)) rfl (Wt.none rfl) ?_
  refine RunL.nil ?_
  refine Run.sr ?_
  first | refine RunL.loadA (vs := (cEdu (pubE e))) rfl (by first | ((repeat (first | (with_reducible exact F0 _) | apply F1)); done) | (repeat (first | exact F0 _ | apply F1))) agg50 sz50 (by first | exact Nat.le_of_ble_eq_true rfl | (simp; done) | (simp; omega)) rfl (Wt.none rfl) rfl ?_ | refine RunL.loadNR (vs := (cEdu (pubE e))) rfl (by assumption) agg50 sz50 (by first | exact Nat.le_of_ble_eq_true rfl | (simp; done) | (simp; omega)) rfl (Wt.none rfl) rfl ?_
  refine RunL.storeW (xs := (cEdu (pubE e))) rfl rfl (by first | ((repeat (first | (with_reducible exact F0 _) | apply F1)); done) | (repeat (first | exact F0 _ | apply F1))) sz50 (by rfl) (by rfl) (by rfl) (Wt.none rfl) ?_
  refine RunL.nil ?_
  exact Run.ret Try.func23 (resV1 rfl (Rv.cellN (us := (cEdu (pubE e))) rfl (by first | ((repeat (first | (with_reducible exact F0 _) | apply F1)); done) | (repeat (first | exact F0 _ | apply F1))) agg50 sz50 (by first | exact Nat.le_of_ble_eq_true rfl | (simp; done) | (simp; omega)) rfl)) (by exact ⟨rfl, rfl⟩) (by repeat (first | (with_reducible exact Fin.done (by repeat (first | (with_reducible exact Rest.here) | apply Rest.there))) | (apply Fin.cons (by first | ((repeat (first | (with_reducible exact F0 _) | apply F1)); done) | (repeat (first | exact F0 _ | apply F1))))))

set_option maxRecDepth 100000 in
theorem Few3_ctr {G : Gp} {e : Edu} :
    Ctr Try.prog G 25 [.agg (cEdu e).toArray] [] (fun F v A => v = .agg (cEdu (fewE e)).toArray ∧ A = F) := by
  refine Ctr.intro Try.func25 rfl (by kernel_rfl) rfl (fun F => ?_)
  simp only [List.nil_append]
  refine Run.sr ?_
  refine RunL.boxA (xs := (cEdu e)) rfl (Wt.none rfl) rfl ?_; intro b1
  refine RunL.alloc zz50 (Wt.none rfl) rfl ?_; intro b2
  refine RunL.nil ?_
  refine Run.sr ?_
  refine RunL.pure (Pure.fieldAddr rfl fo50_1) (Wt.none rfl) rfl rfl ?_
  first | refine RunL.load1 rfl (by first | ((repeat (first | (with_reducible exact F0 _) | apply F1)); done) | (repeat (first | exact F0 _ | apply F1))) (by rfl) agg9 (Wt.none rfl) rfl ?_ | refine RunL.load1R rfl (by assumption) (by rfl) agg9 (Wt.none rfl) rfl ?_
  refine RunL.call rfl rfl (by rfl) (by repeat (first | (with_reducible exact Take.nil _) | (apply Take.cons (by first | ((repeat (first | (with_reducible exact F0 _) | apply F1)); done) | (repeat (first | exact F0 _ | apply F1)))))) (FewC_ctr (m := 40) (by decide) (by decide)) (Wt.none rfl) rfl ?_
  rintro _ _ ⟨rfl, hA_⟩
  replace hA_ := hA_.symm; subst hA_
  refine RunL.pure (Pure.fieldAddr rfl fo50_1) (Wt.none rfl) rfl rfl ?_
  refine RunL.store1A (cs' := (cEdu ({ e with room := cut e.room 40 }))) rfl rfl (by first | ((repeat (first | (with_reducible exact F0 _) | apply F1)); done) | (repeat (first | exact F0 _ | apply F1))) sz9 (by rfl) (by first | exact Nat.le_of_ble_eq_true rfl | (simp; done) | (simp; omega)) rfl (Wt.none rfl) ?_
  refine RunL.nil ?_
  refine Run.sr ?_
  refine RunL.pure (Pure.fieldAddr rfl fo50_2) (Wt.none rfl) rfl rfl ?_
  first | refine RunL.load1 rfl (by first | ((repeat (first | (with_reducible exact F0 _) | apply F1)); done) | (repeat (first | exact F0 _ | apply F1))) (by rfl) agg9 (Wt.none rfl) rfl ?_ | refine RunL.load1R rfl (by assumption) (by rfl) agg9 (Wt.none rfl) rfl ?_
  refine RunL.call rfl rfl (by rfl) (by repeat (first | (with_reducible exact Take.nil _) | (apply Take.cons (by first | ((repeat (first | (with_reducible exact F0 _) | apply F1)); done) | (repeat (first | exact F0 _ | apply F1)))))) (FewC_ctr (m := 40) (by decide) (by decide)) (Wt.none rfl) rfl ?_
  rintro _ _ ⟨rfl, hA_⟩
  replace hA_ := hA_.symm; subst hA_
  refine RunL.pure (Pure.fieldAddr rfl fo50_2) (Wt.none rfl) rfl rfl ?_
  refine RunL.store1A (cs' := (cEdu ({ e with room := cut e.room 40, user := cut e.user 40 }))) rfl rfl (by first | ((repeat (first | (with_reducible exact F0 _) | apply F1)); done) | (repeat (first | exact F0 _ | apply F1))) sz9 (by rfl) (by first | exact Nat.le_of_ble_eq_true rfl | (simp; done) | (simp; omega)) rfl (Wt.none rfl) ?_
  refine RunL.nil ?_
  refine Run.sr ?_
  refine RunL.pure (Pure.fieldAddr rfl fo50_3) (Wt.none rfl) rfl rfl ?_
  first | refine RunL.load1 rfl (by first | ((repeat (first | (with_reducible exact F0 _) | apply F1)); done) | (repeat (first | exact F0 _ | apply F1))) (by rfl) agg9 (Wt.none rfl) rfl ?_ | refine RunL.load1R rfl (by assumption) (by rfl) agg9 (Wt.none rfl) rfl ?_
  refine RunL.call rfl rfl (by rfl) (by repeat (first | (with_reducible exact Take.nil _) | (apply Take.cons (by first | ((repeat (first | (with_reducible exact F0 _) | apply F1)); done) | (repeat (first | exact F0 _ | apply F1)))))) (FewC_ctr (m := 40) (by decide) (by decide)) (Wt.none rfl) rfl ?_
  rintro _ _ ⟨rfl, hA_⟩
  replace hA_ := hA_.symm; subst hA_
  refine RunL.pure (Pure.fieldAddr rfl fo50_3) (Wt.none rfl) rfl rfl ?_
  refine RunL.store1A (cs' := (cEdu ({ e with room := cut e.room 40, user := cut e.user 40, event := cut e.event 40 }))) rfl rfl (by first | ((repeat (first | (with_reducible exact F0 _) | apply F1)); done) | (repeat (first | exact F0 _ | apply F1))) sz9 (by rfl) (by first | exact Nat.le_of_ble_eq_true rfl | (simp; done) | (simp; omega)) rfl (Wt.none rfl) ?_
  refine RunL.nil ?_
  refine Run.sr ?_
  refine RunL.pure (Pure.fieldAddr rfl fo50_4) (Wt.none rfl) rfl rfl ?_
  first | refine RunL.load1 rfl (by first | ((repeat (first | (with_reducible exact F0 _) | apply F1)); done) | (repeat (first | exact F0 _ | apply F1))) (by rfl) agg9 (Wt.none rfl) rfl ?_ | refine RunL.load1R rfl (by assumption) (by rfl) agg9 (Wt.none rfl) rfl ?_
  refine RunL.call rfl rfl (by rfl) (by repeat (first | (with_reducible exact Take.nil _) | (apply Take.cons (by first | ((repeat (first | (with_reducible exact F0 _) | apply F1)); done) | (repeat (first | exact F0 _ | apply F1)))))) (FewC_ctr (m := 40) (by decide) (by decide)) (Wt.none rfl) rfl ?_
  rintro _ _ ⟨rfl, hA_⟩
  replace hA_ := hA_.symm; subst hA_
  refine RunL.pure (Pure.fieldAddr rfl fo50_4) (Wt.none rfl) rfl rfl ?_
  refine RunL.store1A (cs' := (cEdu (fewE e))) rfl rfl (by first | ((repeat (first | (with_reducible exact F0 _) | apply F1)); done) | (repeat (first | exact F0 _ | apply F1))) sz9 (by rfl) (by first | exact Nat.le_of_ble_eq_true rfl | (simp; done) | (simp; omega)) rfl (Wt.none rfl) ?_
  refine RunL.nil ?_
  refine Run.sr ?_
  first | refine RunL.loadA (vs := (cEdu (fewE e))) rfl (by first | ((repeat (first | (with_reducible exact F0 _) | apply F1)); done) | (repeat (first | exact F0 _ | apply F1))) agg50 sz50 (by first | exact Nat.le_of_ble_eq_true rfl | (simp; done) | (simp; omega)) rfl (Wt.none rfl) rfl ?_ | refine RunL.loadNR (vs := (cEdu (fewE e))) rfl (by assumption) agg50 sz50 (by first | exact Nat.le_of_ble_eq_true rfl | (simp; done) | (simp; omega)) rfl (Wt.none rfl) rfl ?_
  refine RunL.storeW (xs := (cEdu (fewE e))) rfl rfl (by first | ((repeat (first | (with_reducible exact F0 _) | apply F1)); done) | (repeat (first | exact F0 _ | apply F1))) sz50 (by rfl) (by rfl) (by rfl) (Wt.none rfl) ?_
  refine RunL.nil ?_
  exact Run.ret Try.func25 (resV1 rfl (Rv.cellN (us := (cEdu (fewE e))) rfl (by first | ((repeat (first | (with_reducible exact F0 _) | apply F1)); done) | (repeat (first | exact F0 _ | apply F1))) agg50 sz50 (by first | exact Nat.le_of_ble_eq_true rfl | (simp; done) | (simp; omega)) rfl)) (by exact ⟨rfl, rfl⟩) (by repeat (first | (with_reducible exact Fin.done (by repeat (first | (with_reducible exact Rest.here) | apply Rest.there))) | (apply Fin.cons (by first | ((repeat (first | (with_reducible exact F0 _) | apply F1)); done) | (repeat (first | exact F0 _ | apply F1))))))

end Go.Proofs.Ytbgjfpaigndbmaa
