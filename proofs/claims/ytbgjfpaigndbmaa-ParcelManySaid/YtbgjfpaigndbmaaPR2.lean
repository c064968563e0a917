/- What is read: the program's. -/
import Derived.Test.YtbgjfpaigndbmaaPR1
set_option linter.unusedVariables false
set_option linter.unusedSimpArgs false
set_option linter.unusedSectionVars false
namespace Go.Proofs.Ytbgjfpaigndbmaa
open Go Csl


theorem read_gone {G : Gp} {post : Post} {F F' A : List HProp} {e : Env} {p2 p3 : Nat} {u0 u1 u2 u3 u4 v3 : Value} {a : Act} {w : World} (h2 : lk e 2 = some (.pointer (some ⟨p2, 0, none⟩))) (h3 : lk e 3 = some (.pointer (some ⟨p3, 0, none⟩))) (ht : Take [row p2 33 [u0, u1, u2, u3, u4], row p3 30 [v3]] A F') (hr : Csl.Rest F F') (hp : post F (.tuple #[.agg (cPrc zeroP).toArray, .int .i64 2]) F)
    (hE : EnvOk (Try.f19.ntmps, [⟨.fn (.func 43) #[.pointer (some ⟨p2, 0, none⟩), .pointer (some ⟨p3, 0, none⟩)], #[]⟩]) e a) (s : St G A w) : Leaves Try.prog Try.f19 a.tmps (RR G post F) [⟨.fn (.func 43) #[.pointer (some ⟨p2, 0, none⟩), .pointer (some ⟨p3, 0, none⟩)], #[]⟩] (.panicking [{ v := (.iface 68 (.agg #[])), recovered := false }]) w :=
  leaves_one (by simp) rfl gone_ctr s ht fun A' q w' s' => by
    subst q
    refine ⟨_, F, (resV2 rfl (Rv.cellN (us := cPrc zeroP) (n := (Try.f19.ntmps, [⟨.fn (.func 43) #[.pointer (some ⟨p2, 0, none⟩), .pointer (some ⟨p3, 0, none⟩)], #[]⟩])) h2 (Find.here _) agg33 sz33 (Nat.le_of_ble_eq_true rfl) rfl) (Rv.cell1 h3 (Find.there (Find.here _)) agg30 rfl)) a w' hE s', hp, ?_⟩
    exact s'.drop.drop.rest hr
set_option maxHeartbeats 4000000 in
set_option maxRecDepth 100000 in
theorem pRead_ctr {G : Gp} {a : Option Addr} {bs : List UInt8} {cap : Nat} (h : SlR G 5 1 a bs.length (bs.map bv)) (hb : bs.length ≤ 1000000) (hc : bs.length ≤ cap) :
    Ctr Try.prog G 19 [.slice a bs.length cap] [] (fun F v A => (∃ p xs a c, rdP 16 1000 34 bs = some (p, xs) ∧ v = .tuple #[.agg (cPrc (withE p ⟨a, xs.length, c⟩)).toArray, .int .i64 0] ∧ A = Sl 50 11 a xs.length c ((xs).flatMap cEdu) :: F) ∨ (rdP 16 1000 34 bs = none ∧ v = .tuple #[.agg (cPrc zeroP).toArray, .int .i64 2] ∧ A = F)) := by
  refine Ctr.intro Try.func19 rfl (by kernel_rfl) rfl (fun F => ?_)
  simp only [List.nil_append]
  refine Run.sr ?_
  refine RunL.alloc zz33 (Wt.none rfl) rfl ?_; intro b2
  refine RunL.alloc zz30 (Wt.none rfl) rfl ?_; intro b3
  refine RunL.nil ?_
  refine Run.sr ?_
  refine RunL.pure (Pure.makeFunc rfl rfl) (Wt.none rfl) rfl rfl ?_
  refine RunL.deferLast rfl (Wt.none rfl) ?_
  have hk0 : KeepOk bs 0 := ⟨fun q => absurd rfl q, hb⟩
  refine Run.sr ?_
  refine RunL.mv rfl rfl ?_
  refine RunL.call rfl rfl (by rfl) (by repeat (first | (with_reducible exact Take.nil _) | (apply Take.cons (by first | ((repeat (first | (with_reducible exact F0 _) | apply F1)); done) | (repeat (first | exact F0 _ | apply F1)))))) (Read_ctr h hb) (Wt.none rfl) rfl ?_
  rintro _ _ ⟨p, rfl, hA_⟩
  replace hA_ := hA_.symm; subst hA_
  refine RunL.as rfl rfl ?_
  refine RunL.nil ?_
  refine Run.sr ?_
  refine RunL.mv rfl rfl ?_
  refine RunL.call rfl rfl (by rfl) (by repeat (first | (with_reducible exact Take.nil _) | (apply Take.cons (by first | ((repeat (first | (with_reducible exact F0 _) | apply F1)); done) | (repeat (first | exact F0 _ | apply F1)))))) (RdFlag_ctr hk0.1 hk0.2) (Wt.none rfl) rfl ?_
  rintro _ _ ⟨rfl, hA_⟩
  replace hA_ := hA_.symm; subst hA_
  obtain ⟨q1, hq1⟩ : ∃ q, q = rdFlag bs 0 := ⟨_, rfl⟩
  rw [← hq1]
  have k1 : KeepOk q1.2.1 q1.2.2 := by rw [hq1]; exact rdFlag_keep hk0
  refine RunL.pure (Pure.fieldAddr rfl fo33_0) (Wt.none rfl) rfl rfl ?_
  refine RunL.store1A (cs' := (cPrc ({ zeroP with ack := q1.1 }))) rfl rfl (by first | ((repeat (first | (with_reducible exact F0 _) | apply F1)); done) | (repeat (first | exact F0 _ | apply F1))) sz4 (by rfl) (by first | exact Nat.le_of_ble_eq_true rfl | (simp; done) | (simp; omega)) rfl (Wt.none rfl) ?_
  refine RunL.nil ?_
  refine Run.sr ?_
  refine RunL.mv rfl rfl ?_
  refine RunL.call rfl rfl (by rfl) (by repeat (first | (with_reducible exact Take.nil _) | (apply Take.cons (by first | ((repeat (first | (with_reducible exact F0 _) | apply F1)); done) | (repeat (first | exact F0 _ | apply F1)))))) (RdText_ctr (most := 16) k1.1 k1.2) (Wt.none rfl) rfl ?_
  rintro _ _ ⟨s2, rfl, hs2, hA_⟩
  replace hA_ := hA_.symm; subst hA_
  obtain ⟨q2, hq2⟩ : ∃ q, q = rdText 16 q1.2.1 q1.2.2 := ⟨_, rfl⟩
  have hm2 : ((q2.1.length : Nat) : Int) ≤ 16 := by rw [hq2]; exact rdText_most (by decide)
  rw [← hq2] at hs2 ⊢
  obtain rfl : s2 = mkS q2.1 := bl_inj (by rw [hs2, bl_mkS])
  have k2 : KeepOk q2.2.1 q2.2.2 := by rw [hq2]; exact rdText_keep k1
  refine RunL.pure (Pure.fieldAddr rfl fo33_1) (Wt.none rfl) rfl rfl ?_
  refine RunL.store1A (cs' := (cPrc ({ zeroP with ack := q1.1, frm := mkS q2.1 }))) rfl rfl (by first | ((repeat (first | (with_reducible exact F0 _) | apply F1)); done) | (repeat (first | exact F0 _ | apply F1))) sz9 (by rfl) (by first | exact Nat.le_of_ble_eq_true rfl | (simp; done) | (simp; omega)) rfl (Wt.none rfl) ?_
  refine RunL.nil ?_
  refine Run.sr ?_
  refine RunL.mv rfl rfl ?_
  refine RunL.call rfl rfl (by rfl) (by repeat (first | (with_reducible exact Take.nil _) | (apply Take.cons (by first | ((repeat (first | (with_reducible exact F0 _) | apply F1)); done) | (repeat (first | exact F0 _ | apply F1)))))) (RdText_ctr (most := 16) k2.1 k2.2) (Wt.none rfl) rfl ?_
  rintro _ _ ⟨s3, rfl, hs3, hA_⟩
  replace hA_ := hA_.symm; subst hA_
  obtain ⟨q3, hq3⟩ : ∃ q, q = rdText 16 q2.2.1 q2.2.2 := ⟨_, rfl⟩
  have hm3 : ((q3.1.length : Nat) : Int) ≤ 16 := by rw [hq3]; exact rdText_most (by decide)
  rw [← hq3] at hs3 ⊢
  obtain rfl : s3 = mkS q3.1 := bl_inj (by rw [hs3, bl_mkS])
  have k3 : KeepOk q3.2.1 q3.2.2 := by rw [hq3]; exact rdText_keep k2
  refine RunL.pure (Pure.fieldAddr rfl fo33_2) (Wt.none rfl) rfl rfl ?_
  refine RunL.store1A (cs' := (cPrc ({ zeroP with ack := q1.1, frm := mkS q2.1, to_ := mkS q3.1 }))) rfl rfl (by first | ((repeat (first | (with_reducible exact F0 _) | apply F1)); done) | (repeat (first | exact F0 _ | apply F1))) sz9 (by rfl) (by first | exact Nat.le_of_ble_eq_true rfl | (simp; done) | (simp; omega)) rfl (Wt.none rfl) ?_
  refine RunL.nil ?_
  refine Run.sr ?_
  refine RunL.mv rfl rfl ?_
  refine RunL.call rfl rfl (by rfl) (by repeat (first | (with_reducible exact Take.nil _) | (apply Take.cons (by first | ((repeat (first | (with_reducible exact F0 _) | apply F1)); done) | (repeat (first | exact F0 _ | apply F1)))))) (RdNumber_ctr k3.1 k3.2) (Wt.none rfl) rfl ?_
  rintro _ _ ⟨rfl, hA_⟩
  replace hA_ := hA_.symm; subst hA_
  obtain ⟨q4, hq4⟩ : ∃ q, q = rdNum q3.2.1 q3.2.2 := ⟨_, rfl⟩
  rw [← hq4]
  have k4 : KeepOk q4.2.1 q4.2.2 := by rw [hq4]; exact rdNum_keep k3
  refine RunL.pure (Pure.fieldAddr rfl fo33_3) (Wt.none rfl) rfl rfl ?_
  refine RunL.store1A (cs' := (cPrc ({ zeroP with ack := q1.1, frm := mkS q2.1, to_ := mkS q3.1, id := q4.1 }))) rfl rfl (by first | ((repeat (first | (with_reducible exact F0 _) | apply F1)); done) | (repeat (first | exact F0 _ | apply F1))) sz3 (by rfl) (by first | exact Nat.le_of_ble_eq_true rfl | (simp; done) | (simp; omega)) rfl (Wt.none rfl) ?_
  refine RunL.nil ?_
  refine Run.sr ?_
  refine RunL.mv rfl rfl ?_
  refine RunL.call rfl rfl (by rfl) (by repeat (first | (with_reducible exact Take.nil _) | (apply Take.cons (by first | ((repeat (first | (with_reducible exact F0 _) | apply F1)); done) | (repeat (first | exact F0 _ | apply F1)))))) (RdNumber_ctr k4.1 k4.2) (Wt.none rfl) rfl ?_
  rintro _ _ ⟨rfl, hA_⟩
  replace hA_ := hA_.symm; subst hA_
  obtain ⟨q5, hq5⟩ : ∃ q, q = rdNum q4.2.1 q4.2.2 := ⟨_, rfl⟩
  rw [← hq5]
  have k5 : KeepOk q5.2.1 q5.2.2 := by rw [hq5]; exact rdNum_keep k4
  refine RunL.as rfl rfl ?_
  refine RunL.nil ?_
  have hD : rdP 16 1000 34 bs = if q5.2.2 = 0 ∧ q5.1 ≤ 100 then rdGo 1000 34 (⟨q1.1, mkS q2.1, mkS q3.1, q4.1, ⟨none, 0, 0⟩⟩ : Prc) q5.1.toNat [] q5.2.1 q5.2.2 else none := by rw [hq5, hq4, hq3, hq2, hq1]; rfl
  have hr5 := rdNum_range q4.2.1 q4.2.2
  rw [← hq5] at hr5
  have hr4 := rdNum_range q3.2.1 q3.2.2
  rw [← hq4] at hr4
  have hok : okPrc (⟨q1.1, mkS q2.1, mkS q3.1, q4.1, ⟨none, 0, 0⟩⟩ : Prc) := ⟨by show (mkS q2.1).size ≤ _; rw [mkS_size]; omega, by show (mkS q3.1).size ≤ _; rw [mkS_size]; omega, i64_wf (by show _ ≤ q4.1 ∧ q4.1 ≤ _; omega)⟩
  obtain ⟨hp, hhp⟩ : ∃ p, p = (⟨q1.1, mkS q2.1, mkS q3.1, q4.1, ⟨none, 0, 0⟩⟩ : Prc) := ⟨_, rfl⟩
  rw [← hhp] at hD hok
  rw [show cPrc { zeroP with ack := q1.1, frm := mkS q2.1, to_ := mkS q3.1, id := q4.1 } = cPrc (withE hp ⟨none, 0, 0⟩) from by rw [hhp]; rfl]
  refine Run.sr ?_
  refine RunL.mv rfl rfl ?_
  refine RunL.call rfl rfl (by rfl) (by repeat (first | (with_reducible exact Take.nil _) | (apply Take.cons (by first | ((repeat (first | (with_reducible exact F0 _) | apply F1)); done) | (repeat (first | exact F0 _ | apply F1)))))) (Ctr.lend (R := fun G => ∃ a cap, Ro G _ 85 [.slice a _ cap, .int .i64 _]) Lends.Rd cb49 (fun G' hle hr => RdErrno_ctr hr.choose_spec.choose_spec)) (Wt.none rfl) rfl ?_
  rintro _ _ ⟨_, rfl, rfl, hA_⟩
  replace hA_ := hA_.symm; subst hA_
  refine RunL.pure (Pure.eql rfl rfl) (Wt.none rfl) rfl rfl ?_
  refine RunL.mv rfl rfl ?_
  refine RunL.split (d := 28) rfl (fun he => ?_) (fun he => ?_)
  · try simp only [ZA, ZB, ZC, ZD, ZE, ZF, ZG, ZH, ZI, ZJ, ZK, ZL, ZM, ZN, ZO, ZP, ZQ, ZR] at he
    refine RunL.pure (Pure.move rfl) (Wt.yes rfl rfl rfl) rfl rfl ?_
    refine RunL.pure (Pure.leq rfl rfl) (Wt.yes rfl rfl rfl) rfl rfl ?_
    refine RunL.pure (Pure.pickT rfl rfl) (Wt.none rfl) rfl rfl ?_
    refine RunL.callMust Try.func19 rfl rfl mustT_ctr mustF_ctr (Wt.none rfl) rfl ?_ (fun hb0 a w hE s => read_gone rfl rfl (by repeat (first | (with_reducible exact Take.nil _) | (apply Take.cons (by first | ((repeat (first | (with_reducible exact F0 _) | apply F1)); done) | (repeat (first | exact F0 _ | apply F1)))))) (by repeat (first | (with_reducible exact Rest.here) | apply Rest.there)) (.inr ⟨by rw [hD, if_neg (fun q0 => by have := q0.2; simp at hb0; omega)], rfl, rfl⟩) hE s)
    intro hm
    try simp only [ZA, ZB, ZC, ZD, ZE, ZF, ZG, ZH, ZI, ZJ, ZK, ZL, ZM, ZN, ZO, ZP, ZQ, ZR] at hm
    refine RunL.nil ?_
    rw [if_pos ⟨he, by omega⟩] at hD
    refine Run.nilSl 50 11 ?_
    refine Run.seq ?_
    refine Run.sr ?_
    refine RunL.mv rfl rfl ?_
    refine RunL.mv rfl rfl ?_
    refine RunL.nil ?_
    refine Run.block ?_
    refine Run.keep (.cons rfl (.cons rfl (.cons rfl (.cons rfl (.cons rfl (.nil))))) : Keep _ [2, 3, 4, 33, 34] _) ?_
    refine Run.loopF (F := F) (fun n e_ A => ∃ (i : Nat) (xs : List Edu) (a4 : Option Addr) (c4 : Nat) (bs' : List UInt8) (er' : Int), i ≤ q5.1.toNat ∧ xs.length = i ∧ (∀ x ∈ xs, eduSmall x ∧ okEdu x) ∧ KeepOk bs' er' ∧ rdP 16 1000 34 bs = rdGo 1000 34 hp (q5.1.toNat - i) xs bs' er' ∧ n = q5.1.toNat - i ∧ e_ = [(2, .pointer (some ⟨b2, 0, none⟩)), (3, .pointer (some ⟨b3, 0, none⟩)), (4, .pointer (some ⟨p, 0, none⟩)), (33, .int .i64 q5.1), (34, .int .i64 (i : Nat))] ∧ A = Sl 50 11 a4 xs.length c4 ((xs).flatMap cEdu) :: row b2 33 (cPrc (withE hp ⟨a4, xs.length, c4⟩)) :: row b3 30 [.int .i64 0] :: Rd p bs' er' :: F) (q5.1.toNat) (by exact ⟨0, [], none, 0, _, _, by omega, rfl, (fun x hx => by cases hx), k5, by rw [hD]; rfl, rfl, rfl, rfl⟩) (by repeat (first | (with_reducible exact Fin.done (by repeat (first | (with_reducible exact Rest.here) | apply Rest.there))) | (apply Fin.cons (by first | ((repeat (first | (with_reducible exact F0 _) | apply F1)); done) | (repeat (first | exact F0 _ | apply F1)))))) ?_
    rintro n _ _ ⟨i, xs, a4, c4, bs', er', hi, hxs, hxz, hk', hD', rfl, rfl, hA_⟩ ih
    replace hA_ := hA_.symm; subst hA_
    refine Run.sr ?_
    refine RunL.pure (Pure.lss rfl rfl) (Wt.none rfl) rfl rfl ?_
    refine RunL.nil ?_
    refine Run.seq ?_
    refine Run.cond rfl (fun hi2 => ?_) (fun hi2 => ?_)
    · try simp only [ZA, ZB, ZC, ZD, ZE, ZF, ZG, ZH, ZI, ZJ, ZK, ZL, ZM, ZN, ZO, ZP, ZQ, ZR] at hi2
      refine Run.skip ?_
      refine Run.seq ?_
      refine Run.block ?_
      refine Run.sr ?_
      refine RunL.mv rfl rfl ?_
      refine RunL.call rfl rfl (by rfl) (by repeat (first | (with_reducible exact Take.nil _) | (apply Take.cons (by first | ((repeat (first | (with_reducible exact F0 _) | apply F1)); done) | (repeat (first | exact F0 _ | apply F1)))))) (RdText_ctr (most := 1000) hk'.1 hk'.2) (Wt.none rfl) rfl ?_
      rintro _ _ ⟨s, rfl, hs, hA_⟩
      replace hA_ := hA_.symm; subst hA_
      obtain ⟨q, hq⟩ : ∃ q, q = rdText 1000 bs' er' := ⟨_, rfl⟩
      have hmq : ((q.1.length : Nat) : Int) ≤ 1000 := by rw [hq]; exact rdText_most (by decide)
      rw [← hq] at hs ⊢
      obtain rfl : s = mkS q.1 := bl_inj (by rw [hs, bl_mkS])
      have kq : KeepOk q.2.1 q.2.2 := by rw [hq]; exact rdText_keep hk'
      have hstep : rdP 16 1000 34 bs = if q.2.2 = 0 ∧ (finE (rdE 34 q.1)).2 = 0 then rdGo 1000 34 hp (q5.1.toNat - (i + 1)) (xs ++ [(finE (rdE 34 q.1)).1]) q.2.1 q.2.2 else none := by rw [hD', show q5.1.toNat - i = (q5.1.toNat - (i + 1)) + 1 from by omega, hq]; rfl
      refine RunL.strBytes rfl und9 und29 und5 (Wt.none rfl) rfl ?_; intro a6 c6
      refine RunL.call rfl rfl (by rfl) (by repeat (first | (with_reducible exact Take.nil _) | (apply Take.cons (by first | ((repeat (first | (with_reducible exact F0 _) | apply F1)); done) | (repeat (first | exact F0 _ | apply F1)))))) (Ctr.lend (R := fun G => SlR G 5 1 _ _ _ ∧ _ ≤ _) Lends.Sl cb50 (fun G' hle hr => Read3_ctr (bs := q.1) hr.1 (by omega) hr.2)) (Wt.none rfl) rfl ?_
      rintro _ _ ⟨_, rfl, rfl, hA_⟩
      replace hA_ := hA_.symm; subst hA_
      refine RunL.mv rfl rfl ?_
      refine RunL.pure (Pure.extract rfl rfl) (Wt.none rfl) rfl rfl ?_
      refine RunL.pure (Pure.extract rfl rfl) (Wt.none rfl) rfl rfl ?_
      refine RunL.alloc zz50 (Wt.none rfl) rfl ?_; intro b6
      refine RunL.storeW (xs := (cEdu ((finE (rdE 34 q.1)).1))) rfl rfl (by first | ((repeat (first | (with_reducible exact F0 _) | apply F1)); done) | (repeat (first | exact F0 _ | apply F1))) sz50 (by rfl) (by rfl) (by rfl) (Wt.none rfl) ?_
      refine RunL.as rfl rfl ?_
      refine RunL.nil ?_
      refine Run.sr ?_
      refine RunL.mv rfl rfl ?_
      refine RunL.call rfl rfl (by rfl) (by repeat (first | (with_reducible exact Take.nil _) | (apply Take.cons (by first | ((repeat (first | (with_reducible exact F0 _) | apply F1)); done) | (repeat (first | exact F0 _ | apply F1)))))) (Ctr.lend (R := fun G => ∃ a cap, Ro G _ 85 [.slice a _ cap, .int .i64 _]) Lends.Rd cb49 (fun G' hle hr => RdErrno_ctr hr.choose_spec.choose_spec)) (Wt.none rfl) rfl ?_
      rintro _ _ ⟨_, rfl, rfl, hA_⟩
      replace hA_ := hA_.symm; subst hA_
      refine RunL.pure (Pure.eql rfl rfl) (Wt.none rfl) rfl rfl ?_
      refine RunL.mv rfl rfl ?_
      refine RunL.split (d := 46) rfl (fun he => ?_) (fun he => ?_)
      · try simp only [ZA, ZB, ZC, ZD, ZE, ZF, ZG, ZH, ZI, ZJ, ZK, ZL, ZM, ZN, ZO, ZP, ZQ, ZR] at he
        refine RunL.pure (Pure.move rfl) (Wt.yes rfl rfl rfl) rfl rfl ?_
        refine RunL.pure (Pure.eql rfl rfl) (Wt.yes rfl rfl rfl) rfl rfl ?_
        refine RunL.pure (Pure.pickT rfl rfl) (Wt.none rfl) rfl rfl ?_
        refine RunL.callMust Try.func19 rfl rfl mustT_ctr mustF_ctr (Wt.none rfl) rfl ?_ (fun hb0 a w hE s => read_gone rfl rfl (by repeat (first | (with_reducible exact Take.nil _) | (apply Take.cons (by first | ((repeat (first | (with_reducible exact F0 _) | apply F1)); done) | (repeat (first | exact F0 _ | apply F1)))))) (by repeat (first | (with_reducible exact Rest.here) | apply Rest.there)) (.inr ⟨by rw [hstep, if_neg (fun q0 => by simp [q0.2] at hb0)], rfl, rfl⟩) hE s)
        intro hm
        try simp only [ZA, ZB, ZC, ZD, ZE, ZF, ZG, ZH, ZI, ZJ, ZK, ZL, ZM, ZN, ZO, ZP, ZQ, ZR] at hm
        obtain ⟨he1, he2, he3⟩ := finE_ok (em := 34) (s := q.1) (by simpa using hm)
        have hstep2 := hstep
        rw [if_pos ⟨he, by simpa using hm⟩] at hstep2
        have hwn : (withE hp ⟨a4, xs.length, c4⟩).ed.n = xs.length := rfl
        refine RunL.nil ?_
        refine Run.region ?_
        refine RunL.pure (Pure.fieldAddr rfl fo33_4) (Wt.none rfl) rfl rfl ?_
        first | refine RunL.load1 rfl (by first | ((repeat (first | (with_reducible exact F0 _) | apply F1)); done) | (repeat (first | exact F0 _ | apply F1))) (by rfl) agg22 (Wt.none rfl) rfl ?_ | refine RunL.load1R rfl (by assumption) (by rfl) agg22 (Wt.none rfl) rfl ?_
        first | refine RunL.loadA (vs := (cEdu ((finE (rdE 34 q.1)).1))) rfl (by first | ((repeat (first | (with_reducible exact F0 _) | apply F1)); done) | (repeat (first | exact F0 _ | apply F1))) agg50 sz50 (by first | exact Nat.le_of_ble_eq_true rfl | (simp; done) | (simp; omega)) rfl (Wt.none rfl) rfl ?_ | refine RunL.loadNR (vs := (cEdu ((finE (rdE 34 q.1)).1))) rfl (by assumption) agg50 sz50 (by first | exact Nat.le_of_ble_eq_true rfl | (simp; done) | (simp; omega)) rfl (Wt.none rfl) rfl ?_
        refine RunL.lit (vals := [_]) (vs := ([(finE (rdE 34 q.1)).1] : List Edu).flatMap cEdu) und22 sz50 zz50 rfl rfl rfl rfl rfl rfl (by simp [Value.cells, bv, cEdu, cPrc]) rfl (Wt.none rfl) rfl ?_; intro b54
        refine RunL.append (m := 1) (n' := (xs ++ [(finE (rdE 34 q.1)).1]).length) (cs' := (xs ++ [(finE (rdE 34 q.1)).1]).flatMap cEdu) rfl rfl (by first | ((repeat (first | (with_reducible exact F0 _) | apply F1)); done) | (repeat (first | exact F0 _ | apply F1))) rfl rfl und22 und22 rfl sz50 zz50 rfl by50 (by omega) (by omega) (fun w sw => sw.src) (isOne_flat (f := cEdu) (fun _ => rfl)) (by rw [List.length_append]; rfl) (by rw [flatMap_app]) (Wt.none rfl) rfl ?_; intro a7 c7
        refine RunL.pure (Pure.fieldAddr rfl fo33_4) (Wt.none rfl) rfl rfl ?_
        refine RunL.store1A (cs' := (cPrc (withE hp ⟨a7, (xs ++ [(finE (rdE 34 q.1)).1]).length, c7⟩))) rfl rfl (by first | ((repeat (first | (with_reducible exact F0 _) | apply F1)); done) | (repeat (first | exact F0 _ | apply F1))) sz22 (by rfl) (by first | exact Nat.le_of_ble_eq_true rfl | (simp; done) | (simp; omega)) rfl (Wt.none rfl) ?_
        refine RunL.nil ?_
        refine Run.inBlock ?_
        refine Run.region ?_
        first | refine RunL.pure (Pure.addI rfl rfl (by omega)) (Wt.none rfl) rfl rfl ?_ | refine RunL.pure (Pure.add rfl rfl) (Wt.none rfl) rfl rfl ?_
        refine RunL.mv rfl rfl ?_
        refine RunL.nil ?_
        refine Run.keep (.cons rfl (.cons rfl (.cons rfl (.cons rfl (.cons rfl (.nil))))) : Keep _ [2, 3, 4, 33, 34] _) ?_
        refine Run.againF (F := F) ih (by exact ⟨i + 1, (xs ++ [(finE (rdE 34 q.1)).1]), a7, c7, _, _, by omega, by rw [List.length_append, hxs]; rfl, (fun x hx => by rcases List.mem_append.1 hx with q0 | q0; exact hxz x q0; obtain rfl := List.mem_singleton.1 q0; exact ⟨he1, he2⟩), kq, hstep2, rfl, rfl, rfl⟩) (by repeat (first | (with_reducible exact Fin.done (by repeat (first | (with_reducible exact Rest.here) | apply Rest.there))) | (apply Fin.cons (by first | ((repeat (first | (with_reducible exact F0 _) | apply F1)); done) | (repeat (first | exact F0 _ | apply F1)))))) ?_
        omega
      · try simp only [ZA, ZB, ZC, ZD, ZE, ZF, ZG, ZH, ZI, ZJ, ZK, ZL, ZM, ZN, ZO, ZP, ZQ, ZR] at he
        refine RunL.not (Wt.no rfl rfl rfl) rfl rfl ?_
        refine RunL.not (Wt.no rfl rfl rfl) rfl rfl ?_
        refine RunL.pure (Pure.pickF rfl rfl) (Wt.none rfl) rfl rfl ?_
        exact RunL.callMust Try.func19 rfl rfl mustT_ctr mustF_ctr (Wt.none rfl) rfl (fun hm => by cases hm) (fun hb0 a w hE s => read_gone rfl rfl (by repeat (first | (with_reducible exact Take.nil _) | (apply Take.cons (by first | ((repeat (first | (with_reducible exact F0 _) | apply F1)); done) | (repeat (first | exact F0 _ | apply F1)))))) (by repeat (first | (with_reducible exact Rest.here) | apply Rest.there)) (.inr ⟨by rw [hstep, if_neg (fun q0 => he q0.1)], rfl, rfl⟩) hE s)
    · try simp only [ZA, ZB, ZC, ZD, ZE, ZF, ZG, ZH, ZI, ZJ, ZK, ZL, ZM, ZN, ZO, ZP, ZQ, ZR] at hi2
      obtain rfl : i = q5.1.toNat := by omega
      rw [Nat.sub_self] at hD'
      have hfin : rdP 16 1000 34 bs = if rdEnd bs' er' = 0 ∧ prcMay (withE hp ⟨none, xs.length, 0⟩) xs = true then some (hp, xs) else none := hD'
      refine Run.exit rfl ?_
      refine Run.sr ?_
      refine RunL.mv rfl rfl ?_
      refine RunL.call rfl rfl (by rfl) (by repeat (first | (with_reducible exact Take.nil _) | (apply Take.cons (by first | ((repeat (first | (with_reducible exact F0 _) | apply F1)); done) | (repeat (first | exact F0 _ | apply F1)))))) (Ctr.lend (R := fun G => ∃ a cap, Ro G _ 85 [.slice a _ cap, .int .i64 _]) Lends.Rd cb51 (fun G' hle hr => RdEnd_ctr hr.choose_spec.choose_spec)) (Wt.none rfl) rfl ?_
      rintro _ _ ⟨_, rfl, rfl, hA_⟩
      replace hA_ := hA_.symm; subst hA_
      refine RunL.pure (Pure.eql rfl rfl) (Wt.none rfl) rfl rfl ?_
      refine RunL.mv rfl rfl ?_
      refine RunL.split (d := 61) rfl (fun he2 => ?_) (fun he2 => ?_)
      · try simp only [ZA, ZB, ZC, ZD, ZE, ZF, ZG, ZH, ZI, ZJ, ZK, ZL, ZM, ZN, ZO, ZP, ZQ, ZR] at he2
        first | refine RunL.loadA (vs := (cPrc (withE hp ⟨a4, xs.length, c4⟩))) rfl (by first | ((repeat (first | (with_reducible exact F0 _) | apply F1)); done) | (repeat (first | exact F0 _ | apply F1))) agg33 sz33 (by first | exact Nat.le_of_ble_eq_true rfl | (simp; done) | (simp; omega)) rfl (Wt.yes rfl rfl rfl) rfl ?_ | refine RunL.loadNR (vs := (cPrc (withE hp ⟨a4, xs.length, c4⟩))) rfl (by assumption) agg33 sz33 (by first | exact Nat.le_of_ble_eq_true rfl | (simp; done) | (simp; omega)) rfl (Wt.yes rfl rfl rfl) rfl ?_
        refine RunL.call rfl rfl (by rfl) (by repeat (first | (with_reducible exact Take.nil _) | (apply Take.cons (by first | ((repeat (first | (with_reducible exact F0 _) | apply F1)); done) | (repeat (first | exact F0 _ | apply F1)))))) (Ctr.lend (R := fun G => SlR G 50 11 _ _ _ ∧ _ ≤ _) Lends.Sl cb14 (fun G' hle hr => pMay_ctr (p := withE hp ⟨a4, xs.length, c4⟩) (xs := xs) ⟨rfl, hr.1, hr.2⟩ (fun x hx => (hxz x hx).1) (by show xs.length ≤ _; omega) hok)) (Wt.yes rfl rfl rfl) rfl ?_
        rintro _ _ ⟨_, rfl, rfl, hA_⟩
        replace hA_ := hA_.symm; subst hA_
        refine RunL.pure (Pure.pickT rfl rfl) (Wt.none rfl) rfl rfl ?_
        refine RunL.callMust Try.func19 rfl rfl mustT_ctr mustF_ctr (Wt.none rfl) rfl ?_ (fun hb0 a w hE s => read_gone rfl rfl (by repeat (first | (with_reducible exact Take.nil _) | (apply Take.cons (by first | ((repeat (first | (with_reducible exact F0 _) | apply F1)); done) | (repeat (first | exact F0 _ | apply F1)))))) (by repeat (first | (with_reducible exact Rest.here) | apply Rest.there)) (.inr ⟨by rw [hfin, if_neg (fun q0 => by have := q0.2; rw [← may_with (a := a4) (c := c4), hb0] at this; cases this)], rfl, rfl⟩) hE s)
        intro hm
        try simp only [ZA, ZB, ZC, ZD, ZE, ZF, ZG, ZH, ZI, ZJ, ZK, ZL, ZM, ZN, ZO, ZP, ZQ, ZR] at hm
        refine RunL.nil ?_
        refine Run.sr ?_
        first | refine RunL.loadA (vs := (cPrc (withE hp ⟨a4, xs.length, c4⟩))) rfl (by first | ((repeat (first | (with_reducible exact F0 _) | apply F1)); done) | (repeat (first | exact F0 _ | apply F1))) agg33 sz33 (by first | exact Nat.le_of_ble_eq_true rfl | (simp; done) | (simp; omega)) rfl (Wt.none rfl) rfl ?_ | refine RunL.loadNR (vs := (cPrc (withE hp ⟨a4, xs.length, c4⟩))) rfl (by assumption) agg33 sz33 (by first | exact Nat.le_of_ble_eq_true rfl | (simp; done) | (simp; omega)) rfl (Wt.none rfl) rfl ?_
        refine RunL.storeW (xs := (cPrc (withE hp ⟨a4, xs.length, c4⟩))) rfl rfl (by first | ((repeat (first | (with_reducible exact F0 _) | apply F1)); done) | (repeat (first | exact F0 _ | apply F1))) sz33 (by rfl) (by rfl) (by rfl) (Wt.none rfl) ?_
        refine RunL.store1 rfl rfl (by first | ((repeat (first | (with_reducible exact F0 _) | apply F1)); done) | (repeat (first | exact F0 _ | apply F1))) sz30 (by rfl) (by first | exact Nat.le_of_ble_eq_true rfl | (simp; done) | (simp; omega)) (Wt.none rfl) ?_
        try simp only [List.set_cons_zero, List.set_cons_succ]
        refine RunL.nil ?_
        refine Run.retD Try.func19 stay_ctr (by repeat (first | (with_reducible exact Take.nil _) | (apply Take.cons (by first | ((repeat (first | (with_reducible exact F0 _) | apply F1)); done) | (repeat (first | exact F0 _ | apply F1)))))) (by exact .inl ⟨hp, xs, a4, c4, by rw [hfin, if_pos ⟨he2, by first | exact hm | (rw [← may_with (a := a4) (c := c4)]; exact hm)⟩], rfl, rfl⟩) (fun A' q => ?_); subst q; exact ⟨(resV2 rfl (Rv.cellN (us := (cPrc (withE hp ⟨a4, xs.length, c4⟩))) rfl (by first | ((repeat (first | (with_reducible exact F0 _) | apply F1)); done) | (repeat (first | exact F0 _ | apply F1))) agg33 sz33 (by first | exact Nat.le_of_ble_eq_true rfl | (simp; done) | (simp; omega)) rfl) (Rv.cell1 rfl (by first | ((repeat (first | (with_reducible exact F0 _) | apply F1)); done) | (repeat (first | exact F0 _ | apply F1))) agg30 rfl)), (by repeat (first | (with_reducible exact Fin.done (by repeat (first | (with_reducible exact Rest.here) | apply Rest.there))) | (apply Fin.cons (by first | ((repeat (first | (with_reducible exact F0 _) | apply F1)); done) | (repeat (first | exact F0 _ | apply F1))))))⟩
      · try simp only [ZA, ZB, ZC, ZD, ZE, ZF, ZG, ZH, ZI, ZJ, ZK, ZL, ZM, ZN, ZO, ZP, ZQ, ZR] at he2
        refine RunL.not (Wt.no rfl rfl rfl) rfl rfl ?_
        refine RunL.not (Wt.no rfl rfl rfl) rfl rfl ?_
        refine RunL.pure (Pure.pickF rfl rfl) (Wt.none rfl) rfl rfl ?_
        exact RunL.callMust Try.func19 rfl rfl mustT_ctr mustF_ctr (Wt.none rfl) rfl (fun hm => by cases hm) (fun hb0 a w hE s => read_gone rfl rfl (by repeat (first | (with_reducible exact Take.nil _) | (apply Take.cons (by first | ((repeat (first | (with_reducible exact F0 _) | apply F1)); done) | (repeat (first | exact F0 _ | apply F1)))))) (by repeat (first | (with_reducible exact Rest.here) | apply Rest.there)) (.inr ⟨by rw [hfin, if_neg (fun q0 => he2 q0.1)], rfl, rfl⟩) hE s)
  · try simp only [ZA, ZB, ZC, ZD, ZE, ZF, ZG, ZH, ZI, ZJ, ZK, ZL, ZM, ZN, ZO, ZP, ZQ, ZR] at he
    refine RunL.not (Wt.no rfl rfl rfl) rfl rfl ?_
    refine RunL.not (Wt.no rfl rfl rfl) rfl rfl ?_
    refine RunL.pure (Pure.pickF rfl rfl) (Wt.none rfl) rfl rfl ?_
    exact RunL.callMust Try.func19 rfl rfl mustT_ctr mustF_ctr (Wt.none rfl) rfl (fun hm => by cases hm) (fun hb0 a w hE s => read_gone rfl rfl (by repeat (first | (with_reducible exact Take.nil _) | (apply Take.cons (by first | ((repeat (first | (with_reducible exact F0 _) | apply F1)); done) | (repeat (first | exact F0 _ | apply F1)))))) (by repeat (first | (with_reducible exact Rest.here) | apply Rest.there)) (.inr ⟨by rw [hD, if_neg (fun q0 => he q0.1)], rfl, rfl⟩) hE s)

end Go.Proofs.Ytbgjfpaigndbmaa
