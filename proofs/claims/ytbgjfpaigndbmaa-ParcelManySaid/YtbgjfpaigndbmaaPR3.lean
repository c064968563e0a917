/- What is read: the reference's. -/
import Derived.Test.YtbgjfpaigndbmaaPR2
set_option linter.unusedVariables false
set_option linter.unusedSimpArgs false
set_option linter.unusedSectionVars false
namespace Go.Proofs.Ytbgjfpaigndbmaa
open Go Csl


set_option maxHeartbeats 4000000 in
set_option maxRecDepth 100000 in
theorem rRead4_ctr {G : Gp} {a : Option Addr} {bs : List UInt8} {cap : Nat} (h : SlR G 5 1 a bs.length (bs.map bv)) (hb : bs.length ≤ 1000000) (hc : bs.length ≤ cap) :
    Ctr Try.prog G 20 [.slice a bs.length cap] [] (fun F v A => (∃ p xs a c, rdP 1000 100000 1000 bs = some (p, xs) ∧ v = .tuple #[.agg (cPrc (withE p ⟨a, xs.length, c⟩)).toArray, .int .i64 0] ∧ A = Sl 50 11 a xs.length c ((xs).flatMap cEdu) :: F) ∨ (rdP 1000 100000 1000 bs = none ∧ v = .tuple #[.agg (cPrc zeroP).toArray, .int .i64 2] ∧ A = F)) := by
  refine Ctr.intro Try.func20 rfl (by kernel_rfl) rfl (fun F => ?_)
  simp only [List.nil_append]
  refine Run.sr ?_
  refine RunL.alloc zz24 (Wt.none rfl) rfl ?_; intro b2
  refine RunL.as rfl rfl ?_
  refine RunL.nil ?_
  refine Run.sr ?_
  refine RunL.mv rfl rfl ?_
  refine RunL.pure (Pure.buildL (ps := [(0, _)]) (zs := [(.slice none 0 0), (.int .i64 0), (.int .i64 0)]) (xs := [_, _, _]) pl79 rfl rfl rfl rfl) (Wt.none rfl) rfl rfl ?_
  refine RunL.box rfl (Wt.none rfl) rfl ?_; intro b14
  refine RunL.as rfl rfl ?_
  refine RunL.nil ?_
  refine Run.mkRg (g := G) (B := bs) (I := 0) (bs := bs) (er := 0) (by repeat (first | (with_reducible exact Take.nil _) | (apply Take.cons (by first | ((repeat (first | (with_reducible exact F0 _) | apply F1)); done) | (repeat (first | exact F0 _ | apply F1)))))) ⟨Nat.zero_le _, by rw [if_pos rfl]; rfl, hb⟩ ⟨h, hc⟩ ?_
  refine Run.sr ?_
  refine RunL.alloc zz24 (Wt.none rfl) rfl ?_; intro b5
  refine RunL.nil ?_
  refine Run.sr ?_
  refine RunL.mv rfl rfl ?_
  refine RunL.call rfl rfl (by rfl) (by repeat (first | (with_reducible exact Take.nil _) | (apply Take.cons (by first | ((repeat (first | (with_reducible exact F0 _) | apply F1)); done) | (repeat (first | exact F0 _ | apply F1)))))) (RgFlag_ctr (by first | exact Gp.le_refl _ | assumption)) (Wt.none rfl) rfl ?_
  rintro _ _ ⟨rfl, hA_⟩
  replace hA_ := hA_.symm; subst hA_
  obtain ⟨q1, hq1⟩ : ∃ q, q = rdFlag bs 0 := ⟨_, rfl⟩
  rw [← hq1]
  refine RunL.pure (Pure.fieldAddr rfl fo24_0) (Wt.none rfl) rfl rfl ?_
  refine RunL.store1A (cs' := (cPrc ({ zeroP with ack := q1.1 }))) rfl rfl (by first | ((repeat (first | (with_reducible exact F0 _) | apply F1)); done) | (repeat (first | exact F0 _ | apply F1))) sz4 (by rfl) (by first | exact Nat.le_of_ble_eq_true rfl | (simp; done) | (simp; omega)) rfl (Wt.none rfl) ?_
  refine RunL.nil ?_
  refine Run.sr ?_
  refine RunL.mv rfl rfl ?_
  refine RunL.call rfl rfl (by rfl) (by repeat (first | (with_reducible exact Take.nil _) | (apply Take.cons (by first | ((repeat (first | (with_reducible exact F0 _) | apply F1)); done) | (repeat (first | exact F0 _ | apply F1)))))) (RgText_ctr (by first | exact Gp.le_refl _ | assumption)) (Wt.none rfl) rfl ?_
  rintro _ _ ⟨s2, rfl, hs2, hA_⟩
  replace hA_ := hA_.symm; subst hA_
  obtain ⟨q2, hq2⟩ : ∃ q, q = rdText 1000 q1.2.1 q1.2.2 := ⟨_, rfl⟩
  have hm2 : ((q2.1.length : Nat) : Int) ≤ 1000 := by rw [hq2]; exact rdText_most (by decide)
  rw [← hq2] at hs2 ⊢
  obtain rfl : s2 = mkS q2.1 := bl_inj (by rw [hs2, bl_mkS])
  refine RunL.pure (Pure.fieldAddr rfl fo24_1) (Wt.none rfl) rfl rfl ?_
  refine RunL.store1A (cs' := (cPrc ({ zeroP with ack := q1.1, frm := mkS q2.1 }))) rfl rfl (by first | ((repeat (first | (with_reducible exact F0 _) | apply F1)); done) | (repeat (first | exact F0 _ | apply F1))) sz9 (by rfl) (by first | exact Nat.le_of_ble_eq_true rfl | (simp; done) | (simp; omega)) rfl (Wt.none rfl) ?_
  refine RunL.nil ?_
  refine Run.sr ?_
  refine RunL.mv rfl rfl ?_
  refine RunL.call rfl rfl (by rfl) (by repeat (first | (with_reducible exact Take.nil _) | (apply Take.cons (by first | ((repeat (first | (with_reducible exact F0 _) | apply F1)); done) | (repeat (first | exact F0 _ | apply F1)))))) (RgText_ctr (by first | exact Gp.le_refl _ | assumption)) (Wt.none rfl) rfl ?_
  rintro _ _ ⟨s3, rfl, hs3, hA_⟩
  replace hA_ := hA_.symm; subst hA_
  obtain ⟨q3, hq3⟩ : ∃ q, q = rdText 1000 q2.2.1 q2.2.2 := ⟨_, rfl⟩
  have hm3 : ((q3.1.length : Nat) : Int) ≤ 1000 := by rw [hq3]; exact rdText_most (by decide)
  rw [← hq3] at hs3 ⊢
  obtain rfl : s3 = mkS q3.1 := bl_inj (by rw [hs3, bl_mkS])
  refine RunL.pure (Pure.fieldAddr rfl fo24_2) (Wt.none rfl) rfl rfl ?_
  refine RunL.store1A (cs' := (cPrc ({ zeroP with ack := q1.1, frm := mkS q2.1, to_ := mkS q3.1 }))) rfl rfl (by first | ((repeat (first | (with_reducible exact F0 _) | apply F1)); done) | (repeat (first | exact F0 _ | apply F1))) sz9 (by rfl) (by first | exact Nat.le_of_ble_eq_true rfl | (simp; done) | (simp; omega)) rfl (Wt.none rfl) ?_
  refine RunL.nil ?_
  refine Run.sr ?_
  refine RunL.mv rfl rfl ?_
  refine RunL.call rfl rfl (by rfl) (by repeat (first | (with_reducible exact Take.nil _) | (apply Take.cons (by first | ((repeat (first | (with_reducible exact F0 _) | apply F1)); done) | (repeat (first | exact F0 _ | apply F1)))))) (RgNumber_ctr (by first | exact Gp.le_refl _ | assumption)) (Wt.none rfl) rfl ?_
  rintro _ _ ⟨rfl, hA_⟩
  replace hA_ := hA_.symm; subst hA_
  obtain ⟨q4, hq4⟩ : ∃ q, q = rdNum q3.2.1 q3.2.2 := ⟨_, rfl⟩
  rw [← hq4]
  refine RunL.pure (Pure.fieldAddr rfl fo24_3) (Wt.none rfl) rfl rfl ?_
  refine RunL.store1A (cs' := (cPrc ({ zeroP with ack := q1.1, frm := mkS q2.1, to_ := mkS q3.1, id := q4.1 }))) rfl rfl (by first | ((repeat (first | (with_reducible exact F0 _) | apply F1)); done) | (repeat (first | exact F0 _ | apply F1))) sz3 (by rfl) (by first | exact Nat.le_of_ble_eq_true rfl | (simp; done) | (simp; omega)) rfl (Wt.none rfl) ?_
  refine RunL.nil ?_
  refine Run.sr ?_
  refine RunL.mv rfl rfl ?_
  refine RunL.call rfl rfl (by rfl) (by repeat (first | (with_reducible exact Take.nil _) | (apply Take.cons (by first | ((repeat (first | (with_reducible exact F0 _) | apply F1)); done) | (repeat (first | exact F0 _ | apply F1)))))) (RgNumber_ctr (by first | exact Gp.le_refl _ | assumption)) (Wt.none rfl) rfl ?_
  rintro _ _ ⟨rfl, hA_⟩
  replace hA_ := hA_.symm; subst hA_
  obtain ⟨q5, hq5⟩ : ∃ q, q = rdNum q4.2.1 q4.2.2 := ⟨_, rfl⟩
  rw [← hq5]
  refine RunL.as rfl rfl ?_
  refine RunL.nil ?_
  have hD : rdP 1000 100000 1000 bs = if q5.2.2 = 0 ∧ q5.1 ≤ 100 then rdGo 100000 1000 (⟨q1.1, mkS q2.1, mkS q3.1, q4.1, ⟨none, 0, 0⟩⟩ : Prc) q5.1.toNat [] q5.2.1 q5.2.2 else none := by rw [hq5, hq4, hq3, hq2, hq1]; rfl
  have hr5 := rdNum_range q4.2.1 q4.2.2
  rw [← hq5] at hr5
  have hr4 := rdNum_range q3.2.1 q3.2.2
  rw [← hq4] at hr4
  have hok : okPrc (⟨q1.1, mkS q2.1, mkS q3.1, q4.1, ⟨none, 0, 0⟩⟩ : Prc) := ⟨by show (mkS q2.1).size ≤ _; rw [mkS_size]; omega, by show (mkS q3.1).size ≤ _; rw [mkS_size]; omega, i64_wf (by show _ ≤ q4.1 ∧ q4.1 ≤ _; omega)⟩
  obtain ⟨hp, hhp⟩ : ∃ p, p = (⟨q1.1, mkS q2.1, mkS q3.1, q4.1, ⟨none, 0, 0⟩⟩ : Prc) := ⟨_, rfl⟩
  rw [← hhp] at hD hok
  rw [show cPrc { zeroP with ack := q1.1, frm := mkS q2.1, to_ := mkS q3.1, id := q4.1 } = cPrc (withE hp ⟨none, 0, 0⟩) from by rw [hhp]; rfl]
  have hlen5 : q5.2.1.length ≤ 1000000 := by rw [hq5, hq4, hq3, hq2, hq1]; exact Nat.le_trans (rdNum_len _ _) (Nat.le_trans (rdNum_len _ _) (Nat.le_trans (rdText_len _ _ _) (Nat.le_trans (rdText_len _ _ _) (Nat.le_trans (rdFlag_len _ _) hb))))
  refine Run.openRg (by first | ((repeat (first | (with_reducible exact F0 _) | apply F1)); done) | (repeat (first | exact F0 _ | apply F1))) ?_; intro ra rc rB rI rok rsg
  refine Run.seq ?_
  refine Run.sr ?_
  refine RunL.mv rfl rfl ?_
  refine RunL.pure (Pure.nilCheck rfl) (Wt.none rfl) rfl rfl ?_
  refine RunL.pure (Pure.fieldAddr rfl fo79_2) (Wt.none rfl) rfl rfl ?_
  first | refine RunL.load1 rfl (by first | ((repeat (first | (with_reducible exact F0 _) | apply F1)); done) | (repeat (first | exact F0 _ | apply F1))) (by rfl) agg30 (Wt.none rfl) rfl ?_ | refine RunL.load1R rfl (by assumption) (by rfl) agg30 (Wt.none rfl) rfl ?_
  refine RunL.pure (Pure.neq rfl rfl) (Wt.none rfl) rfl rfl ?_
  refine RunL.mv rfl rfl ?_
  refine RunL.split (d := 34) rfl (fun he => ?_) (fun he => ?_)
  · try simp only [ZA, ZB, ZC, ZD, ZE, ZF, ZG, ZH, ZI, ZJ, ZK, ZL, ZM, ZN, ZO, ZP, ZQ, ZR] at he
    refine RunL.not (Wt.no rfl rfl rfl) rfl rfl ?_
    refine RunL.not (Wt.no rfl rfl rfl) rfl rfl ?_
    refine RunL.pure (Pure.pickT rfl rfl) (Wt.none rfl) rfl rfl ?_
    refine RunL.nil ?_
    refine Run.condT rfl ?_
    refine Run.sr ?_
    refine RunL.pure (Pure.buildL (ps := []) (zs := [(.bool false), (.string .empty), (.string .empty), (.int .i64 0), (.slice none 0 0)]) (xs := (cPrc zeroP)) pl24 rfl rfl rfl rfl) (Wt.none rfl) rfl rfl ?_
    refine RunL.storeW (xs := (cPrc zeroP)) rfl rfl (by first | ((repeat (first | (with_reducible exact F0 _) | apply F1)); done) | (repeat (first | exact F0 _ | apply F1))) sz24 (by rfl) (by rfl) (by rfl) (Wt.none rfl) ?_
    refine RunL.as rfl rfl ?_
    refine RunL.nil ?_
    exact Run.ret Try.func20 (resV2 rfl (Rv.cellN (us := (cPrc zeroP)) rfl (by first | ((repeat (first | (with_reducible exact F0 _) | apply F1)); done) | (repeat (first | exact F0 _ | apply F1))) agg24 sz24 (by first | exact Nat.le_of_ble_eq_true rfl | (simp; done) | (simp; omega)) rfl) (Rv.tmp rfl)) (by exact .inr ⟨by rw [hD, if_neg (fun q0 => he q0.1)], rfl, rfl⟩) (by repeat (first | (with_reducible exact Fin.done (by repeat (first | (with_reducible exact Rest.here) | apply Rest.there))) | (apply Fin.cons (by first | ((repeat (first | (with_reducible exact F0 _) | apply F1)); done) | (repeat (first | exact F0 _ | apply F1))))))
  · try simp only [ZA, ZB, ZC, ZD, ZE, ZF, ZG, ZH, ZI, ZJ, ZK, ZL, ZM, ZN, ZO, ZP, ZQ, ZR] at he
    refine RunL.pure (Pure.move rfl) (Wt.yes rfl rfl rfl) rfl rfl ?_
    refine RunL.pure (Pure.gtr rfl rfl) (Wt.yes rfl rfl rfl) rfl rfl ?_
    refine RunL.pure (Pure.pickF rfl rfl) (Wt.none rfl) rfl rfl ?_
    refine RunL.nil ?_
    refine Run.cond rfl (fun hn2 => ?_) (fun hn2 => ?_)
    · try simp only [ZA, ZB, ZC, ZD, ZE, ZF, ZG, ZH, ZI, ZJ, ZK, ZL, ZM, ZN, ZO, ZP, ZQ, ZR] at hn2
      refine Run.sr ?_
      refine RunL.pure (Pure.buildL (ps := []) (zs := [(.bool false), (.string .empty), (.string .empty), (.int .i64 0), (.slice none 0 0)]) (xs := (cPrc zeroP)) pl24 rfl rfl rfl rfl) (Wt.none rfl) rfl rfl ?_
      refine RunL.storeW (xs := (cPrc zeroP)) rfl rfl (by first | ((repeat (first | (with_reducible exact F0 _) | apply F1)); done) | (repeat (first | exact F0 _ | apply F1))) sz24 (by rfl) (by rfl) (by rfl) (Wt.none rfl) ?_
      refine RunL.as rfl rfl ?_
      refine RunL.nil ?_
      exact Run.ret Try.func20 (resV2 rfl (Rv.cellN (us := (cPrc zeroP)) rfl (by first | ((repeat (first | (with_reducible exact F0 _) | apply F1)); done) | (repeat (first | exact F0 _ | apply F1))) agg24 sz24 (by first | exact Nat.le_of_ble_eq_true rfl | (simp; done) | (simp; omega)) rfl) (Rv.tmp rfl)) (by exact .inr ⟨by rw [hD, if_neg (fun q0 => by have := q0.2; omega)], rfl, rfl⟩) (by repeat (first | (with_reducible exact Fin.done (by repeat (first | (with_reducible exact Rest.here) | apply Rest.there))) | (apply Fin.cons (by first | ((repeat (first | (with_reducible exact F0 _) | apply F1)); done) | (repeat (first | exact F0 _ | apply F1))))))
    · try simp only [ZA, ZB, ZC, ZD, ZE, ZF, ZG, ZH, ZI, ZJ, ZK, ZL, ZM, ZN, ZO, ZP, ZQ, ZR] at hn2
      rw [if_pos ⟨he, by omega⟩] at hD
      refine Run.skip ?_
      refine Run.mkRg (g := G) (B := rB) (I := rI) (bs := q5.2.1) (er := q5.2.2) (by repeat (first | (with_reducible exact Take.nil _) | (apply Take.cons (by first | ((repeat (first | (with_reducible exact F0 _) | apply F1)); done) | (repeat (first | exact F0 _ | apply F1)))))) rok rsg ?_
      refine Run.nilSl 50 11 ?_
      refine Run.seq ?_
      refine Run.sr ?_
      refine RunL.as rfl rfl ?_
      refine RunL.nil ?_
      refine Run.block ?_
      refine Run.keep (.cons rfl (.cons rfl (.cons rfl (.cons rfl (.cons rfl (.nil))))) : Keep _ [2, 4, 5, 6, 7] _) ?_
      refine Run.loopF (F := F) (fun n e_ A => ∃ (i : Nat) (xs : List Edu) (a4 : Option Addr) (c4 : Nat) (bs' : List UInt8) (er' : Int), i ≤ q5.1.toNat ∧ xs.length = i ∧ (∀ x ∈ xs, eduSmall x ∧ okEdu x) ∧ bs'.length ≤ 1000000 ∧ rdP 1000 100000 1000 bs = rdGo 100000 1000 hp (q5.1.toNat - i) xs bs' er' ∧ n = q5.1.toNat - i ∧ e_ = [(2, .pointer (some ⟨b2, 0, none⟩)), (4, .pointer (some ⟨b14, 0, none⟩)), (5, .pointer (some ⟨b5, 0, none⟩)), (6, .int .i64 q5.1), (7, .int .i64 (i : Nat))] ∧ A = Sl 50 11 a4 xs.length c4 ((xs).flatMap cEdu) :: row b5 24 (cPrc (withE hp ⟨a4, xs.length, c4⟩)) :: row b2 24 [(.bool false), (.string .empty), (.string .empty), (.int .i64 0), (.slice none 0 0)] :: Rg G b14 bs' er' :: F) (q5.1.toNat) (by exact ⟨0, [], none, 0, _, _, by omega, rfl, (fun x hx => by cases hx), hlen5, by rw [hD]; rfl, rfl, rfl, rfl⟩) (by repeat (first | (with_reducible exact Fin.done (by repeat (first | (with_reducible exact Rest.here) | apply Rest.there))) | (apply Fin.cons (by first | ((repeat (first | (with_reducible exact F0 _) | apply F1)); done) | (repeat (first | exact F0 _ | apply F1)))))) ?_
      rintro n _ _ ⟨i, xs, a4, c4, bs', er', hi, hxs, hxz, hk', hD', rfl, rfl, hA_⟩ ih
      replace hA_ := hA_.symm; subst hA_
      refine Run.seq ?_
      refine Run.sr ?_
      refine RunL.mv rfl rfl ?_
      refine RunL.mv rfl rfl ?_
      refine RunL.pure (Pure.lss rfl rfl) (Wt.none rfl) rfl rfl ?_
      refine RunL.nil ?_
      refine Run.cond rfl (fun hi2 => ?_) (fun hi2 => ?_)
      · try simp only [ZA, ZB, ZC, ZD, ZE, ZF, ZG, ZH, ZI, ZJ, ZK, ZL, ZM, ZN, ZO, ZP, ZQ, ZR] at hi2
        refine Run.skip ?_
        refine Run.seq ?_
        refine Run.block ?_
        refine Run.sr ?_
        refine RunL.mv rfl rfl ?_
        refine RunL.call rfl rfl (by rfl) (by repeat (first | (with_reducible exact Take.nil _) | (apply Take.cons (by first | ((repeat (first | (with_reducible exact F0 _) | apply F1)); done) | (repeat (first | exact F0 _ | apply F1)))))) (RgText_ctr (by first | exact Gp.le_refl _ | assumption)) (Wt.none rfl) rfl ?_
        rintro _ _ ⟨s, rfl, hs, hA_⟩
        replace hA_ := hA_.symm; subst hA_
        obtain ⟨q, hq⟩ : ∃ q, q = rdText 100000 bs' er' := ⟨_, rfl⟩
        have hmq : ((q.1.length : Nat) : Int) ≤ 100000 := by rw [hq]; exact rdText_most (by decide)
        rw [← hq] at hs ⊢
        obtain rfl : s = mkS q.1 := bl_inj (by rw [hs, bl_mkS])
        have hstep : rdP 1000 100000 1000 bs = if q.2.2 = 0 ∧ (finE (rdE 1000 q.1)).2 = 0 then rdGo 100000 1000 hp (q5.1.toNat - (i + 1)) (xs ++ [(finE (rdE 1000 q.1)).1]) q.2.1 q.2.2 else none := by rw [hD', show q5.1.toNat - i = (q5.1.toNat - (i + 1)) + 1 from by omega, hq]; rfl
        have hql : q.2.1.length ≤ 1000000 := by rw [hq]; exact Nat.le_trans (rdText_len _ _ _) hk'
        refine RunL.as rfl rfl ?_
        refine RunL.nil ?_
        refine Run.sr ?_
        refine RunL.mv rfl rfl ?_
        refine RunL.strBytes rfl und9 und29 und5 (Wt.none rfl) rfl ?_; intro a6 c6
        refine RunL.call rfl rfl (by rfl) (by repeat (first | (with_reducible exact Take.nil _) | (apply Take.cons (by first | ((repeat (first | (with_reducible exact F0 _) | apply F1)); done) | (repeat (first | exact F0 _ | apply F1)))))) (Ctr.lend (R := fun G => SlR G 5 1 _ _ _ ∧ _ ≤ _) Lends.Sl cb55 (fun G' hle hr => rRead3_ctr (bs := q.1) hr.1 (by omega) hr.2)) (Wt.none rfl) rfl ?_
        rintro _ _ ⟨_, rfl, rfl, hA_⟩
        replace hA_ := hA_.symm; subst hA_
        refine RunL.mv rfl rfl ?_
        refine RunL.pure (Pure.extract rfl rfl) (Wt.none rfl) rfl rfl ?_
        refine RunL.pure (Pure.extract rfl rfl) (Wt.none rfl) rfl rfl ?_
        refine RunL.alloc zz50 (Wt.none rfl) rfl ?_; intro b9
        refine RunL.storeW (xs := (cEdu ((finE (rdE 1000 q.1)).1))) rfl rfl (by first | ((repeat (first | (with_reducible exact F0 _) | apply F1)); done) | (repeat (first | exact F0 _ | apply F1))) sz50 (by rfl) (by rfl) (by rfl) (Wt.none rfl) ?_
        refine RunL.as rfl rfl ?_
        refine RunL.nil ?_
        refine Run.openRg (by first | ((repeat (first | (with_reducible exact F0 _) | apply F1)); done) | (repeat (first | exact F0 _ | apply F1))) ?_; intro ra rc rB rI rok rsg
        refine Run.seq ?_
        refine Run.sr ?_
        refine RunL.mv rfl rfl ?_
        refine RunL.pure (Pure.nilCheck rfl) (Wt.none rfl) rfl rfl ?_
        refine RunL.pure (Pure.fieldAddr rfl fo79_2) (Wt.none rfl) rfl rfl ?_
        first | refine RunL.load1 rfl (by first | ((repeat (first | (with_reducible exact F0 _) | apply F1)); done) | (repeat (first | exact F0 _ | apply F1))) (by rfl) agg30 (Wt.none rfl) rfl ?_ | refine RunL.load1R rfl (by assumption) (by rfl) agg30 (Wt.none rfl) rfl ?_
        refine RunL.pure (Pure.neq rfl rfl) (Wt.none rfl) rfl rfl ?_
        refine RunL.mv rfl rfl ?_
        refine RunL.split (d := 57) rfl (fun he => ?_) (fun he => ?_)
        · try simp only [ZA, ZB, ZC, ZD, ZE, ZF, ZG, ZH, ZI, ZJ, ZK, ZL, ZM, ZN, ZO, ZP, ZQ, ZR] at he
          refine RunL.not (Wt.no rfl rfl rfl) rfl rfl ?_
          refine RunL.not (Wt.no rfl rfl rfl) rfl rfl ?_
          refine RunL.pure (Pure.pickT rfl rfl) (Wt.none rfl) rfl rfl ?_
          refine RunL.nil ?_
          refine Run.condT rfl ?_
          refine Run.sr ?_
          refine RunL.pure (Pure.buildL (ps := []) (zs := [(.bool false), (.string .empty), (.string .empty), (.int .i64 0), (.slice none 0 0)]) (xs := (cPrc zeroP)) pl24 rfl rfl rfl rfl) (Wt.none rfl) rfl rfl ?_
          refine RunL.storeW (xs := (cPrc zeroP)) rfl rfl (by first | ((repeat (first | (with_reducible exact F0 _) | apply F1)); done) | (repeat (first | exact F0 _ | apply F1))) sz24 (by rfl) (by rfl) (by rfl) (Wt.none rfl) ?_
          refine RunL.as rfl rfl ?_
          refine RunL.nil ?_
          exact Run.ret Try.func20 (resV2 rfl (Rv.cellN (us := (cPrc zeroP)) rfl (by first | ((repeat (first | (with_reducible exact F0 _) | apply F1)); done) | (repeat (first | exact F0 _ | apply F1))) agg24 sz24 (by first | exact Nat.le_of_ble_eq_true rfl | (simp; done) | (simp; omega)) rfl) (Rv.tmp rfl)) (by exact .inr ⟨by rw [hstep, if_neg (fun q0 => he q0.1)], rfl, rfl⟩) (by repeat (first | (with_reducible exact Fin.done (by repeat (first | (with_reducible exact Rest.here) | apply Rest.there))) | (apply Fin.cons (by first | ((repeat (first | (with_reducible exact F0 _) | apply F1)); done) | (repeat (first | exact F0 _ | apply F1))))))
        · try simp only [ZA, ZB, ZC, ZD, ZE, ZF, ZG, ZH, ZI, ZJ, ZK, ZL, ZM, ZN, ZO, ZP, ZQ, ZR] at he
          refine RunL.pure (Pure.move rfl) (Wt.yes rfl rfl rfl) rfl rfl ?_
          refine RunL.pure (Pure.neq rfl rfl) (Wt.yes rfl rfl rfl) rfl rfl ?_
          refine RunL.pure (Pure.pickF rfl rfl) (Wt.none rfl) rfl rfl ?_
          refine RunL.nil ?_
          refine Run.cond rfl (fun hf => ?_) (fun hf => ?_)
          · try simp only [ZA, ZB, ZC, ZD, ZE, ZF, ZG, ZH, ZI, ZJ, ZK, ZL, ZM, ZN, ZO, ZP, ZQ, ZR] at hf
            refine Run.sr ?_
            refine RunL.pure (Pure.buildL (ps := []) (zs := [(.bool false), (.string .empty), (.string .empty), (.int .i64 0), (.slice none 0 0)]) (xs := (cPrc zeroP)) pl24 rfl rfl rfl rfl) (Wt.none rfl) rfl rfl ?_
            refine RunL.storeW (xs := (cPrc zeroP)) rfl rfl (by first | ((repeat (first | (with_reducible exact F0 _) | apply F1)); done) | (repeat (first | exact F0 _ | apply F1))) sz24 (by rfl) (by rfl) (by rfl) (Wt.none rfl) ?_
            refine RunL.as rfl rfl ?_
            refine RunL.nil ?_
            exact Run.ret Try.func20 (resV2 rfl (Rv.cellN (us := (cPrc zeroP)) rfl (by first | ((repeat (first | (with_reducible exact F0 _) | apply F1)); done) | (repeat (first | exact F0 _ | apply F1))) agg24 sz24 (by first | exact Nat.le_of_ble_eq_true rfl | (simp; done) | (simp; omega)) rfl) (Rv.tmp rfl)) (by exact .inr ⟨by rw [hstep, if_neg (fun q0 => hf q0.2)], rfl, rfl⟩) (by repeat (first | (with_reducible exact Fin.done (by repeat (first | (with_reducible exact Rest.here) | apply Rest.there))) | (apply Fin.cons (by first | ((repeat (first | (with_reducible exact F0 _) | apply F1)); done) | (repeat (first | exact F0 _ | apply F1))))))
          · try simp only [ZA, ZB, ZC, ZD, ZE, ZF, ZG, ZH, ZI, ZJ, ZK, ZL, ZM, ZN, ZO, ZP, ZQ, ZR] at hf
            obtain ⟨he1, he2, he3⟩ := finE_ok (em := 1000) (s := q.1) hf
            have hstep2 := hstep
            rw [if_pos ⟨he, hf⟩] at hstep2
            have hwn : (withE hp ⟨a4, xs.length, c4⟩).ed.n = xs.length := rfl
            refine Run.skip ?_
            refine Run.mkRg (g := G) (B := rB) (I := rI) (bs := q.2.1) (er := q.2.2) (by repeat (first | (with_reducible exact Take.nil _) | (apply Take.cons (by first | ((repeat (first | (with_reducible exact F0 _) | apply F1)); done) | (repeat (first | exact F0 _ | apply F1)))))) rok rsg ?_
            refine Run.region ?_
            refine RunL.pure (Pure.fieldAddr rfl fo24_4) (Wt.none rfl) rfl rfl ?_
            first | refine RunL.load1 rfl (by first | ((repeat (first | (with_reducible exact F0 _) | apply F1)); done) | (repeat (first | exact F0 _ | apply F1))) (by rfl) agg22 (Wt.none rfl) rfl ?_ | refine RunL.load1R rfl (by assumption) (by rfl) agg22 (Wt.none rfl) rfl ?_
            first | refine RunL.loadA (vs := (cEdu ((finE (rdE 1000 q.1)).1))) rfl (by first | ((repeat (first | (with_reducible exact F0 _) | apply F1)); done) | (repeat (first | exact F0 _ | apply F1))) agg50 sz50 (by first | exact Nat.le_of_ble_eq_true rfl | (simp; done) | (simp; omega)) rfl (Wt.none rfl) rfl ?_ | refine RunL.loadNR (vs := (cEdu ((finE (rdE 1000 q.1)).1))) rfl (by assumption) agg50 sz50 (by first | exact Nat.le_of_ble_eq_true rfl | (simp; done) | (simp; omega)) rfl (Wt.none rfl) rfl ?_
            refine RunL.lit (vals := [_]) (vs := ([(finE (rdE 1000 q.1)).1] : List Edu).flatMap cEdu) und22 sz50 zz50 rfl rfl rfl rfl rfl rfl (by simp [Value.cells, bv, cEdu, cPrc]) rfl (Wt.none rfl) rfl ?_; intro b65
            refine RunL.append (m := 1) (n' := (xs ++ [(finE (rdE 1000 q.1)).1]).length) (cs' := (xs ++ [(finE (rdE 1000 q.1)).1]).flatMap cEdu) rfl rfl (by first | ((repeat (first | (with_reducible exact F0 _) | apply F1)); done) | (repeat (first | exact F0 _ | apply F1))) rfl rfl und22 und22 rfl sz50 zz50 rfl by50 (by omega) (by omega) (fun w sw => sw.src) (isOne_flat (f := cEdu) (fun _ => rfl)) (by rw [List.length_append]; rfl) (by rw [flatMap_app]) (Wt.none rfl) rfl ?_; intro a7 c7
            refine RunL.pure (Pure.fieldAddr rfl fo24_4) (Wt.none rfl) rfl rfl ?_
            refine RunL.store1A (cs' := (cPrc (withE hp ⟨a7, (xs ++ [(finE (rdE 1000 q.1)).1]).length, c7⟩))) rfl rfl (by first | ((repeat (first | (with_reducible exact F0 _) | apply F1)); done) | (repeat (first | exact F0 _ | apply F1))) sz22 (by rfl) (by first | exact Nat.le_of_ble_eq_true rfl | (simp; done) | (simp; omega)) rfl (Wt.none rfl) ?_
            refine RunL.nil ?_
            refine Run.inBlock ?_
            refine Run.region ?_
            refine RunL.mv rfl rfl ?_
            first | refine RunL.pure (Pure.addI rfl rfl (by omega)) (Wt.none rfl) rfl rfl ?_ | refine RunL.pure (Pure.add rfl rfl) (Wt.none rfl) rfl rfl ?_
            refine RunL.as rfl rfl ?_
            refine RunL.nil ?_
            refine Run.keep (.cons rfl (.cons rfl (.cons rfl (.cons rfl (.cons rfl (.nil))))) : Keep _ [2, 4, 5, 6, 7] _) ?_
            refine Run.againF (F := F) ih (by exact ⟨i + 1, (xs ++ [(finE (rdE 1000 q.1)).1]), a7, c7, _, _, by omega, by rw [List.length_append, hxs]; rfl, (fun x hx => by rcases List.mem_append.1 hx with q0 | q0; exact hxz x q0; obtain rfl := List.mem_singleton.1 q0; exact ⟨he1, he2⟩), hql, hstep2, rfl, rfl, rfl⟩) (by repeat (first | (with_reducible exact Fin.done (by repeat (first | (with_reducible exact Rest.here) | apply Rest.there))) | (apply Fin.cons (by first | ((repeat (first | (with_reducible exact F0 _) | apply F1)); done) | (repeat (first | exact F0 _ | apply F1)))))) ?_
            omega
      · try simp only [ZA, ZB, ZC, ZD, ZE, ZF, ZG, ZH, ZI, ZJ, ZK, ZL, ZM, ZN, ZO, ZP, ZQ, ZR] at hi2
        obtain rfl : i = q5.1.toNat := by omega
        rw [Nat.sub_self] at hD'
        have hfin : rdP 1000 100000 1000 bs = if rdEnd bs' er' = 0 ∧ prcMay (withE hp ⟨none, xs.length, 0⟩) xs = true then some (hp, xs) else none := hD'
        refine Run.exit rfl ?_
        refine Run.sr ?_
        first | refine RunL.loadA (vs := (cPrc (withE hp ⟨a4, xs.length, c4⟩))) rfl (by first | ((repeat (first | (with_reducible exact F0 _) | apply F1)); done) | (repeat (first | exact F0 _ | apply F1))) agg24 sz24 (by first | exact Nat.le_of_ble_eq_true rfl | (simp; done) | (simp; omega)) rfl (Wt.none rfl) rfl ?_ | refine RunL.loadNR (vs := (cPrc (withE hp ⟨a4, xs.length, c4⟩))) rfl (by assumption) agg24 sz24 (by first | exact Nat.le_of_ble_eq_true rfl | (simp; done) | (simp; omega)) rfl (Wt.none rfl) rfl ?_
        refine RunL.call rfl rfl (by rfl) (by repeat (first | (with_reducible exact Take.nil _) | (apply Take.cons (by first | ((repeat (first | (with_reducible exact F0 _) | apply F1)); done) | (repeat (first | exact F0 _ | apply F1)))))) (Ctr.lend (R := fun G => SlR G 50 11 _ _ _ ∧ _ ≤ _) Lends.Sl cb11 (fun G' hle hr => rMay4_ctr (p := withE hp ⟨a4, xs.length, c4⟩) (xs := xs) ⟨rfl, hr.1, hr.2⟩ (fun x hx => (hxz x hx).1) (by show xs.length ≤ _; omega) hok)) (Wt.none rfl) rfl ?_
        rintro _ _ ⟨_, rfl, rfl, hA_⟩
        replace hA_ := hA_.symm; subst hA_
        refine RunL.as rfl rfl ?_
        refine RunL.nil ?_
        refine Run.seq ?_
        refine Run.sr ?_
        refine RunL.mv rfl rfl ?_
        refine RunL.call rfl rfl (by rfl) (by repeat (first | (with_reducible exact Take.nil _) | (apply Take.cons (by first | ((repeat (first | (with_reducible exact F0 _) | apply F1)); done) | (repeat (first | exact F0 _ | apply F1)))))) (Ctr.lend (R := fun G => ∃ a cap B I, RgOk _ _ B I ∧ Ro G _ 79 [.slice a B.length cap, .int .i64 (I : Nat), .int .i64 _]) Lends.Rg cb56 (fun G' hle hr => RgEnd_ctr hr.choose_spec.choose_spec.choose_spec.choose_spec.1 hr.choose_spec.choose_spec.choose_spec.choose_spec.2)) (Wt.none rfl) rfl ?_
        rintro _ _ ⟨_, rfl, rfl, hA_⟩
        replace hA_ := hA_.symm; subst hA_
        refine RunL.pure (Pure.neq rfl rfl) (Wt.none rfl) rfl rfl ?_
        refine RunL.mv rfl rfl ?_
        refine RunL.split (d := 73) rfl (fun he2 => ?_) (fun he2 => ?_)
        · try simp only [ZA, ZB, ZC, ZD, ZE, ZF, ZG, ZH, ZI, ZJ, ZK, ZL, ZM, ZN, ZO, ZP, ZQ, ZR] at he2
          refine RunL.not (Wt.no rfl rfl rfl) rfl rfl ?_
          refine RunL.not (Wt.no rfl rfl rfl) rfl rfl ?_
          refine RunL.pure (Pure.pickT rfl rfl) (Wt.none rfl) rfl rfl ?_
          refine RunL.nil ?_
          refine Run.condT rfl ?_
          refine Run.sr ?_
          refine RunL.pure (Pure.buildL (ps := []) (zs := [(.bool false), (.string .empty), (.string .empty), (.int .i64 0), (.slice none 0 0)]) (xs := (cPrc zeroP)) pl24 rfl rfl rfl rfl) (Wt.none rfl) rfl rfl ?_
          refine RunL.storeW (xs := (cPrc zeroP)) rfl rfl (by first | ((repeat (first | (with_reducible exact F0 _) | apply F1)); done) | (repeat (first | exact F0 _ | apply F1))) sz24 (by rfl) (by rfl) (by rfl) (Wt.none rfl) ?_
          refine RunL.as rfl rfl ?_
          refine RunL.nil ?_
          exact Run.ret Try.func20 (resV2 rfl (Rv.cellN (us := (cPrc zeroP)) rfl (by first | ((repeat (first | (with_reducible exact F0 _) | apply F1)); done) | (repeat (first | exact F0 _ | apply F1))) agg24 sz24 (by first | exact Nat.le_of_ble_eq_true rfl | (simp; done) | (simp; omega)) rfl) (Rv.tmp rfl)) (by exact .inr ⟨by rw [hfin, if_neg (fun q0 => he2 q0.1)], rfl, rfl⟩) (by repeat (first | (with_reducible exact Fin.done (by repeat (first | (with_reducible exact Rest.here) | apply Rest.there))) | (apply Fin.cons (by first | ((repeat (first | (with_reducible exact F0 _) | apply F1)); done) | (repeat (first | exact F0 _ | apply F1))))))
        · try simp only [ZA, ZB, ZC, ZD, ZE, ZF, ZG, ZH, ZI, ZJ, ZK, ZL, ZM, ZN, ZO, ZP, ZQ, ZR] at he2
          refine RunL.pure (Pure.move rfl) (Wt.yes rfl rfl rfl) rfl rfl ?_
          refine RunL.pure (Pure.not rfl) (Wt.yes rfl rfl rfl) rfl rfl ?_
          refine RunL.pure (Pure.pickF rfl rfl) (Wt.none rfl) rfl rfl ?_
          refine RunL.nil ?_
          refine Run.cond rfl (fun hm2 => ?_) (fun hm2 => ?_)
          · try simp only [ZA, ZB, ZC, ZD, ZE, ZF, ZG, ZH, ZI, ZJ, ZK, ZL, ZM, ZN, ZO, ZP, ZQ, ZR] at hm2
            refine Run.sr ?_
            refine RunL.pure (Pure.buildL (ps := []) (zs := [(.bool false), (.string .empty), (.string .empty), (.int .i64 0), (.slice none 0 0)]) (xs := (cPrc zeroP)) pl24 rfl rfl rfl rfl) (Wt.none rfl) rfl rfl ?_
            refine RunL.storeW (xs := (cPrc zeroP)) rfl rfl (by first | ((repeat (first | (with_reducible exact F0 _) | apply F1)); done) | (repeat (first | exact F0 _ | apply F1))) sz24 (by rfl) (by rfl) (by rfl) (Wt.none rfl) ?_
            refine RunL.as rfl rfl ?_
            refine RunL.nil ?_
            exact Run.ret Try.func20 (resV2 rfl (Rv.cellN (us := (cPrc zeroP)) rfl (by first | ((repeat (first | (with_reducible exact F0 _) | apply F1)); done) | (repeat (first | exact F0 _ | apply F1))) agg24 sz24 (by first | exact Nat.le_of_ble_eq_true rfl | (simp; done) | (simp; omega)) rfl) (Rv.tmp rfl)) (by exact .inr ⟨by rw [hfin, if_neg (fun q0 => by have := q0.2; rw [← may_with (a := a4) (c := c4), hm2] at this; cases this)], rfl, rfl⟩) (by repeat (first | (with_reducible exact Fin.done (by repeat (first | (with_reducible exact Rest.here) | apply Rest.there))) | (apply Fin.cons (by first | ((repeat (first | (with_reducible exact F0 _) | apply F1)); done) | (repeat (first | exact F0 _ | apply F1))))))
          · try simp only [ZA, ZB, ZC, ZD, ZE, ZF, ZG, ZH, ZI, ZJ, ZK, ZL, ZM, ZN, ZO, ZP, ZQ, ZR] at hm2
            refine Run.skip ?_
            refine Run.sr ?_
            first | refine RunL.loadA (vs := (cPrc (withE hp ⟨a4, xs.length, c4⟩))) rfl (by first | ((repeat (first | (with_reducible exact F0 _) | apply F1)); done) | (repeat (first | exact F0 _ | apply F1))) agg24 sz24 (by first | exact Nat.le_of_ble_eq_true rfl | (simp; done) | (simp; omega)) rfl (Wt.none rfl) rfl ?_ | refine RunL.loadNR (vs := (cPrc (withE hp ⟨a4, xs.length, c4⟩))) rfl (by assumption) agg24 sz24 (by first | exact Nat.le_of_ble_eq_true rfl | (simp; done) | (simp; omega)) rfl (Wt.none rfl) rfl ?_
            refine RunL.storeW (xs := (cPrc (withE hp ⟨a4, xs.length, c4⟩))) rfl rfl (by first | ((repeat (first | (with_reducible exact F0 _) | apply F1)); done) | (repeat (first | exact F0 _ | apply F1))) sz24 (by rfl) (by rfl) (by rfl) (Wt.none rfl) ?_
            refine RunL.as rfl rfl ?_
            refine RunL.nil ?_
            exact Run.ret Try.func20 (resV2 rfl (Rv.cellN (us := (cPrc (withE hp ⟨a4, xs.length, c4⟩))) rfl (by first | ((repeat (first | (with_reducible exact F0 _) | apply F1)); done) | (repeat (first | exact F0 _ | apply F1))) agg24 sz24 (by first | exact Nat.le_of_ble_eq_true rfl | (simp; done) | (simp; omega)) rfl) (Rv.tmp rfl)) (by exact .inl ⟨hp, xs, a4, c4, by rw [hfin, if_pos ⟨he2, by rw [← may_with (a := a4) (c := c4)]; exact hm2⟩], rfl, rfl⟩) (by repeat (first | (with_reducible exact Fin.done (by repeat (first | (with_reducible exact Rest.here) | apply Rest.there))) | (apply Fin.cons (by first | ((repeat (first | (with_reducible exact F0 _) | apply F1)); done) | (repeat (first | exact F0 _ | apply F1))))))

end Go.Proofs.Ytbgjfpaigndbmaa
