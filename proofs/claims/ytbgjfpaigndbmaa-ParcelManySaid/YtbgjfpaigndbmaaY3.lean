/- The reader. -/
import Derived.Test.YtbgjfpaigndbmaaY2
set_option linter.unusedVariables false
set_option linter.unusedSimpArgs false
set_option linter.unusedSectionVars false
namespace Go.Proofs.Ytbgjfpaigndbmaa
open Go Csl


namespace Csl
/-- A reader: what is left, the first error. -/
def Rd (p : Nat) (bs : List UInt8) (er : Int) : HProp := Ex (fun _ : Option Addr × Nat => True) (fun x => [row p 85 [.slice x.1 bs.length x.2, .int .i64 er], Sl 5 1 x.1 bs.length x.2 (bs.map bv)])
section
variable {c : Cx} {G : Gp} {ops : Array Oper} {k : KT} {e : Env} {A A' : List HProp} {l : List Oper} {st : List Item} {p : Nat} {bs : List UInt8} {er : Int}
theorem Run.openRd (hf : Find (Rd p bs er) A A') (next : ∀ a cap, Run c G st e (row p 85 [.slice a bs.length cap, .int .i64 er] :: Sl 5 1 a bs.length cap (bs.map bv) :: A')) : Run c G st e A := Run.openEx hf fun x _ => next x.1 x.2
theorem RunL.openRd (hf : Find (Rd p bs er) A A') (next : ∀ a cap, RunL c G ops l k e (row p 85 [.slice a bs.length cap, .int .i64 er] :: Sl 5 1 a bs.length cap (bs.map bv) :: A')) : RunL c G ops l k e A := RunL.openEx hf fun x _ => next x.1 x.2
theorem Run.mkRd {a : Option Addr} {cap : Nat} (ht : Take [row p 85 [.slice a bs.length cap, .int .i64 er], Sl 5 1 a bs.length cap (bs.map bv)] A A') (next : Run c G st e (Rd p bs er :: A')) : Run c G st e A := Run.mkEx (a, cap) ht trivial next
theorem RunL.mkRd {a : Option Addr} {cap : Nat} (ht : Take [row p 85 [.slice a bs.length cap, .int .i64 er], Sl 5 1 a bs.length cap (bs.map bv)] A A') (next : RunL c G ops l k e (Rd p bs er :: A')) : RunL c G ops l k e A := RunL.mkEx (a, cap) ht trivial next
theorem Lends.Rd : Lends (Rd p bs er) (fun G => ∃ a cap, Ro G p 85 [.slice a bs.length cap, .int .i64 er]) := Lends.of fun G h q d => by
  obtain ⟨x, _, h1, h2, d', rfl, r, _⟩ := q
  exact ⟨x.1, x.2, Ro.in_join d (Ro.of_row r (Hp.disj_join.1 d).1)⟩
theorem RunL.cutB {a : Option Addr} {cap : Nat} (i : Nat) (hf : Find (Sl 5 1 a bs.length cap (bs.map bv)) A A') (hi : i ≤ bs.length) (next : RunL c G ops l k e (Sl 5 1 (cutAt a i cap 1) (bs.drop i).length (cap - i) ((bs.drop i).map bv) :: A')) : RunL c G ops l k e A := by
  refine RunL.cutSl i hf hi ?_
  rw [List.length_drop, List.map_drop] at next
  rw [Nat.mul_one]; exact next
end
theorem pow128 : ∀ i, i < 9 → 1 ≤ (128 : Int) ^ i ∧ (128 : Int) ^ i ≤ 72057594037927936 := by decide
theorem dec_ok {bs : List UInt8} {i : Nat} (h9 : i < 9) (hl : i < bs.length) (hh : ∀ j, j < i → 128 ≤ (bs.getD j 0).toNat) (hc : (bs.getD i 0).toNat < 128) :
    dec bs = if 0 < i ∧ bs.getD i 0 = 0 then .form else .ok (val (bs.take (i + 1))) (i + 1) := by
  have e := lead_stop (by omega) (by omega) hh (.inr (.inr hc))
  unfold dec; rw [e, if_neg (by omega), if_neg (by omega)]
theorem dec_short {bs : List UInt8} {i : Nat} (h9 : i < 9) (hl : i = bs.length) (hh : ∀ j, j < i → 128 ≤ (bs.getD j 0).toNat) : dec bs = .short := by
  have e := lead_stop (by omega) (by omega) hh (.inr (.inl hl))
  unfold dec; rw [e, if_neg (by omega), if_pos hl]
theorem dec_form {bs : List UInt8} (hl : 9 ≤ bs.length) (hh : ∀ j, j < 9 → 128 ≤ (bs.getD j 0).toNat) : dec bs = .form := by
  have e := lead_stop (i := 9) (by omega) hl hh (.inl rfl)
  unfold dec; rw [e, if_pos rfl]
theorem rdNum_short {bs : List UInt8} {er : Int} (hbe : er ≠ 0 → bs = []) (h : dec bs = .short) : rdNum bs er = (0, [], if er = 0 then 3 else er) := by
  unfold rdNum
  by_cases h0 : er = 0
  · rw [if_neg (by omega), h, if_pos h0]
  · rw [if_pos h0, if_neg h0, hbe h0]
theorem rdNum_form {bs : List UInt8} (h : dec bs = .form) : rdNum bs 0 = (0, [], 2) := by
  unfold rdNum; rw [if_neg (by omega), h]
theorem rdNum_told {bs bs' : List UInt8} {i : Nat} {r er' : Int} (hl : i < bs.length) (h9 : i < 9) (hh : ∀ j, j < i → 128 ≤ (bs.getD j 0).toNat) (hc : (bs.getD i 0).toNat < 128)
    (hr : (r, bs', er') = if 1 < ((i : Int) + 1) ∧ bs.getD ((i : Int) + 1 - 1).toNat 0 = 0 then (0, [], 2) else (((val (bs.take (i + 1)) : Nat) : Int), bs.drop ((i : Int) + 1).toNat, 0)) : rdNum bs 0 = (r, bs', er') := by
  rw [hr]
  have e1 : ((i : Int) + 1 - 1).toNat = i := by omega
  have e2 : ((i : Int) + 1).toNat = i + 1 := by omega
  rw [e1, e2]
  unfold rdNum
  rw [if_neg (by omega), dec_ok h9 hl hh hc]
  by_cases h0 : 0 < i ∧ bs.getD i 0 = 0
  · rw [if_pos h0, if_pos ⟨by omega, h0.2⟩]
  · rw [if_neg h0, if_neg (fun q => h0 ⟨by omega, q.2⟩)]
end Csl

set_option maxRecDepth 100000 in
theorem fail_ctr {G : Gp} {p : Nat} {bs : List UInt8} {er : Int} {x : Int} (hbe : er ≠ 0 → bs = []) :
    Ctr Try.prog G 65 [.pointer (some ⟨p, 0, none⟩), .int .i64 x] [Rd p bs er] (fun F v A => v = .tuple #[] ∧ A = Rd p [] (if er = 0 then x else er) :: F) := by
  refine Ctr.intro Try.func65 rfl (by kernel_rfl) rfl (fun F => ?_)
  simp only [List.cons_append, List.nil_append]
  refine Run.openRd (by first | ((repeat (first | (with_reducible exact F0 _) | apply F1)); done) | (repeat (first | exact F0 _ | apply F1))) ?_; intro a cap
  refine Run.sr ?_
  refine RunL.mv rfl rfl ?_
  refine RunL.pure (Pure.nilCheck rfl) (Wt.none rfl) rfl rfl ?_
  refine RunL.pure (Pure.fieldAddr rfl fo85_1) (Wt.none rfl) rfl rfl ?_
  first | refine RunL.load1 rfl (by first | ((repeat (first | (with_reducible exact F0 _) | apply F1)); done) | (repeat (first | exact F0 _ | apply F1))) (by rfl) agg30 (Wt.none rfl) rfl ?_ | refine RunL.load1R rfl (by assumption) (by rfl) agg30 (Wt.none rfl) rfl ?_
  refine RunL.pure (Pure.eql rfl rfl) (Wt.none rfl) rfl rfl ?_
  refine RunL.nil ?_
  refine Run.cond rfl (fun hc1 => ?_) (fun hc1 => ?_)
  · try simp only [ZA, ZB, ZC, ZD, ZE, ZF, ZG, ZH, ZI, ZJ, ZK, ZL, ZM, ZN, ZO, ZP, ZQ, ZR] at hc1
    refine Run.region ?_
    refine RunL.mv rfl rfl ?_
    refine RunL.mv rfl rfl ?_
    refine RunL.mv rfl rfl ?_
    refine RunL.pure (Pure.nilCheck rfl) (Wt.none rfl) rfl rfl ?_
    refine RunL.pure (Pure.fieldAddr rfl fo85_0) (Wt.none rfl) rfl rfl ?_
    refine RunL.store1 rfl rfl (by first | ((repeat (first | (with_reducible exact F0 _) | apply F1)); done) | (repeat (first | exact F0 _ | apply F1))) sz29 (by rfl) (by simp) (Wt.none rfl) ?_
    try simp only [List.set_cons_zero, List.set_cons_succ]
    refine RunL.pure (Pure.nilCheck rfl) (Wt.none rfl) rfl rfl ?_
    refine RunL.pure (Pure.fieldAddr rfl fo85_1) (Wt.none rfl) rfl rfl ?_
    refine RunL.store1 rfl rfl (by first | ((repeat (first | (with_reducible exact F0 _) | apply F1)); done) | (repeat (first | exact F0 _ | apply F1))) sz30 (by rfl) (by simp) (Wt.none rfl) ?_
    try simp only [List.set_cons_zero, List.set_cons_succ]
    refine RunL.nil ?_
    refine Run.nilSl 5 1 ?_
    refine Run.mkRd (a := none) (cap := 0) (bs := []) (by repeat (first | (with_reducible exact Take.nil _) | (apply Take.cons (by first | ((repeat (first | (with_reducible exact F0 _) | apply F1)); done) | (repeat (first | exact F0 _ | apply F1)))))) ?_
    exact Run.fin Try.func65 (res0 rfl) (by exact ⟨rfl, by rw [if_pos hc1]⟩) (by repeat (first | (with_reducible exact Fin.done (by repeat (first | (with_reducible exact Rest.here) | apply Rest.there))) | (apply Fin.cons (by first | ((repeat (first | (with_reducible exact F0 _) | apply F1)); done) | (repeat (first | exact F0 _ | apply F1))))))
  · try simp only [ZA, ZB, ZC, ZD, ZE, ZF, ZG, ZH, ZI, ZJ, ZK, ZL, ZM, ZN, ZO, ZP, ZQ, ZR] at hc1
    refine Run.skip ?_
    obtain rfl := hbe hc1
    refine Run.mkRd (a := a) (cap := cap) (bs := []) (by repeat (first | (with_reducible exact Take.nil _) | (apply Take.cons (by first | ((repeat (first | (with_reducible exact F0 _) | apply F1)); done) | (repeat (first | exact F0 _ | apply F1)))))) ?_
    exact Run.fin Try.func65 (res0 rfl) (by exact ⟨rfl, by rw [if_neg hc1]⟩) (by repeat (first | (with_reducible exact Fin.done (by repeat (first | (with_reducible exact Rest.here) | apply Rest.there))) | (apply Fin.cons (by first | ((repeat (first | (with_reducible exact F0 _) | apply F1)); done) | (repeat (first | exact F0 _ | apply F1))))))

set_option maxRecDepth 100000 in
theorem told_ctr {G : Gp} {p : Nat} {bs : List UInt8} {z size : Int} (h1 : 1 ≤ size) (h2 : size ≤ bs.length) (hb : bs.length ≤ 1000000) :
    Ctr Try.prog G 66 [.pointer (some ⟨p, 0, none⟩), .int .i64 z, .int .i64 size] [Rd p bs 0] (fun F v A => ∃ r bs' er', v = .int .i64 r ∧ A = Rd p bs' er' :: F ∧ (r, bs', er') = if 1 < size ∧ bs.getD (size - 1).toNat 0 = 0 then (0, [], 2) else (z, bs.drop size.toNat, 0)) := by
  refine Ctr.intro Try.func66 rfl (by kernel_rfl) rfl (fun F => ?_)
  simp only [List.cons_append, List.nil_append]
  refine Run.openRd (by first | ((repeat (first | (with_reducible exact F0 _) | apply F1)); done) | (repeat (first | exact F0 _ | apply F1))) ?_; intro a cap
  refine Run.sr ?_
  refine RunL.as rfl rfl ?_
  refine RunL.nil ?_
  refine Run.seq ?_
  refine Run.sr ?_
  refine RunL.mv rfl rfl ?_
  refine RunL.pure (Pure.gtr rfl rfl) (Wt.none rfl) rfl rfl ?_
  refine RunL.mv rfl rfl ?_
  refine RunL.split (d := 9) rfl (fun hc1 => ?_) (fun hc1 => ?_)
  · try simp only [ZA, ZB, ZC, ZD, ZE, ZF, ZG, ZH, ZI, ZJ, ZK, ZL, ZM, ZN, ZO, ZP, ZQ, ZR] at hc1
    refine RunL.openSl (n := bs.length) (by first | ((repeat (first | (with_reducible exact F0 _) | apply F1)); done) | (repeat (first | exact F0 _ | apply F1))) (by omega) ?_; rintro b pre post rfl hsl1 hsl2 hsl3
    refine RunL.pure (Pure.move rfl) (Wt.yes rfl rfl rfl) rfl rfl ?_
    refine RunL.pure (Pure.nilCheck rfl) (Wt.yes rfl rfl rfl) rfl rfl ?_
    refine RunL.pure (Pure.fieldAddr rfl fo85_0) (Wt.yes rfl rfl rfl) rfl rfl ?_
    first | refine RunL.load1 rfl (by first | ((repeat (first | (with_reducible exact F0 _) | apply F1)); done) | (repeat (first | exact F0 _ | apply F1))) (by rfl) agg29 (Wt.yes rfl rfl rfl) rfl ?_ | refine RunL.load1R rfl (by assumption) (by rfl) agg29 (Wt.yes rfl rfl rfl) rfl ?_
    refine RunL.pure (Pure.move rfl) (Wt.yes rfl rfl rfl) rfl rfl ?_
    first | refine RunL.pure (Pure.subI rfl rfl (by omega)) (Wt.yes rfl rfl rfl) rfl rfl ?_ | refine RunL.pure (Pure.sub rfl rfl) (Wt.yes rfl rfl rfl) rfl rfl ?_
    refine RunL.pure (Pure.indexAddr rfl rfl und29 sz5 (by omega) (by omega)) (Wt.yes rfl rfl rfl) rfl rfl ?_
    refine RunL.load1 rfl (by first | ((repeat (first | (with_reducible exact F0 _) | apply F1)); done) | (repeat (first | exact F0 _ | apply F1))) (by exact cell_at (by omega)) agg5 (Wt.yes rfl rfl rfl) rfl ?_
    have hb256 := (bs.getD (size - 1).toNat 0).toNat_lt
    refine RunL.pure (Pure.eql rfl rfl) (Wt.yes rfl rfl rfl) rfl rfl ?_
    refine RunL.pure (Pure.pickT rfl rfl) (Wt.none rfl) rfl rfl ?_
    refine RunL.nil ?_
    refine Run.cond rfl (fun hc2 => ?_) (fun hc2 => ?_)
    · try simp only [ZA, ZB, ZC, ZD, ZE, ZF, ZG, ZH, ZI, ZJ, ZK, ZL, ZM, ZN, ZO, ZP, ZQ, ZR] at hc2
      refine Run.mkSl (n := bs.length) (by first | ((repeat (first | (with_reducible exact F0 _) | apply F1)); done) | (repeat (first | exact F0 _ | apply F1))) hsl1 hsl2 hsl3 ?_
      refine Run.mkRd (a := _) (cap := _) (bs := bs) (by repeat (first | (with_reducible exact Take.nil _) | (apply Take.cons (by first | ((repeat (first | (with_reducible exact F0 _) | apply F1)); done) | (repeat (first | exact F0 _ | apply F1)))))) ?_
      refine Run.sr ?_
      refine RunL.mv rfl rfl ?_
      refine RunL.call rfl rfl (by rfl) (by repeat (first | (with_reducible exact Take.nil _) | (apply Take.cons (by first | ((repeat (first | (with_reducible exact F0 _) | apply F1)); done) | (repeat (first | exact F0 _ | apply F1)))))) (fail_ctr (fun h => absurd rfl h)) (Wt.none rfl) rfl ?_
      rintro _ _ ⟨rfl, hA_⟩
      replace hA_ := hA_.symm; subst hA_
      refine RunL.nil ?_
      refine Run.sr ?_
      refine RunL.as rfl rfl ?_
      refine RunL.nil ?_
      rw [if_pos rfl]
      exact Run.ret Try.func66 (res1 rfl rfl) (by exact ⟨_, _, _, rfl, rfl, by rw [if_pos ⟨hc1, UInt8.toNat_inj.1 (by simpa using hc2)⟩]⟩) (by repeat (first | (with_reducible exact Fin.done (by repeat (first | (with_reducible exact Rest.here) | apply Rest.there))) | (apply Fin.cons (by first | ((repeat (first | (with_reducible exact F0 _) | apply F1)); done) | (repeat (first | exact F0 _ | apply F1))))))
    · try simp only [ZA, ZB, ZC, ZD, ZE, ZF, ZG, ZH, ZI, ZJ, ZK, ZL, ZM, ZN, ZO, ZP, ZQ, ZR] at hc2
      have hno : ¬ (1 < size ∧ bs.getD (size - 1).toNat 0 = 0) := fun q => hc2 (by rw [q.2]; rfl)
      refine Run.mkSl (n := bs.length) (by first | ((repeat (first | (with_reducible exact F0 _) | apply F1)); done) | (repeat (first | exact F0 _ | apply F1))) hsl1 hsl2 hsl3 ?_
      refine Run.skip ?_
      refine Run.sr ?_
      refine RunL.mv rfl rfl ?_
      refine RunL.mv rfl rfl ?_
      refine RunL.pure (Pure.nilCheck rfl) (Wt.none rfl) rfl rfl ?_
      refine RunL.pure (Pure.fieldAddr rfl fo85_0) (Wt.none rfl) rfl rfl ?_
      first | refine RunL.load1 rfl (by first | ((repeat (first | (with_reducible exact F0 _) | apply F1)); done) | (repeat (first | exact F0 _ | apply F1))) (by rfl) agg29 (Wt.none rfl) rfl ?_ | refine RunL.load1R rfl (by assumption) (by rfl) agg29 (Wt.none rfl) rfl ?_
      refine RunL.mv rfl rfl ?_
      refine RunL.pure (Pure.sliceFrom rfl rfl und29 sz5 (by first | omega | (simp; done) | (simp; omega)) (by first | omega | (simp; done) | (simp; omega))) (Wt.none rfl) rfl rfl ?_
      refine RunL.cutB size.toNat (by first | ((repeat (first | (with_reducible exact F0 _) | apply F1)); done) | (repeat (first | exact F0 _ | apply F1))) (by omega) ?_
      rw [show bs.length - size.toNat = (bs.drop size.toNat).length from by simp]
      refine RunL.pure (Pure.nilCheck rfl) (Wt.none rfl) rfl rfl ?_
      refine RunL.pure (Pure.fieldAddr rfl fo85_0) (Wt.none rfl) rfl rfl ?_
      refine RunL.store1 rfl rfl (by first | ((repeat (first | (with_reducible exact F0 _) | apply F1)); done) | (repeat (first | exact F0 _ | apply F1))) sz29 (by rfl) (by simp) (Wt.none rfl) ?_
      try simp only [List.set_cons_zero, List.set_cons_succ]
      refine RunL.nil ?_
      refine Run.sr ?_
      refine RunL.mv rfl rfl ?_
      refine RunL.as rfl rfl ?_
      refine RunL.nil ?_
      refine Run.mkRd (bs := bs.drop size.toNat) (by repeat (first | (with_reducible exact Take.nil _) | (apply Take.cons (by first | ((repeat (first | (with_reducible exact F0 _) | apply F1)); done) | (repeat (first | exact F0 _ | apply F1)))))) ?_
      exact Run.ret Try.func66 (res1 rfl rfl) (by exact ⟨_, _, _, rfl, rfl, by rw [if_neg hno]⟩) (by repeat (first | (with_reducible exact Fin.done (by repeat (first | (with_reducible exact Rest.here) | apply Rest.there))) | (apply Fin.cons (by first | ((repeat (first | (with_reducible exact F0 _) | apply F1)); done) | (repeat (first | exact F0 _ | apply F1))))))
  · try simp only [ZA, ZB, ZC, ZD, ZE, ZF, ZG, ZH, ZI, ZJ, ZK, ZL, ZM, ZN, ZO, ZP, ZQ, ZR] at hc1
    have hno : ¬ (1 < size ∧ bs.getD (size - 1).toNat 0 = 0) := by omega
    refine RunL.not (Wt.no rfl rfl rfl) rfl rfl ?_
    refine RunL.not (Wt.no rfl rfl rfl) rfl rfl ?_
    refine RunL.not (Wt.no rfl rfl rfl) rfl rfl ?_
    refine RunL.not (Wt.no rfl rfl rfl) rfl rfl ?_
    refine RunL.not (Wt.no rfl rfl rfl) rfl rfl ?_
    refine RunL.not (Wt.no rfl rfl rfl) rfl rfl ?_
    refine RunL.not (Wt.no rfl rfl rfl) rfl rfl ?_
    refine RunL.not (Wt.no rfl rfl rfl) rfl rfl ?_
    refine RunL.not (Wt.no rfl rfl rfl) rfl rfl ?_
    refine RunL.pure (Pure.pickF rfl rfl) (Wt.none rfl) rfl rfl ?_
    refine RunL.nil ?_
    refine Run.condF rfl ?_
    refine Run.skip ?_
    refine Run.sr ?_
    refine RunL.mv rfl rfl ?_
    refine RunL.mv rfl rfl ?_
    refine RunL.pure (Pure.nilCheck rfl) (Wt.none rfl) rfl rfl ?_
    refine RunL.pure (Pure.fieldAddr rfl fo85_0) (Wt.none rfl) rfl rfl ?_
    first | refine RunL.load1 rfl (by first | ((repeat (first | (with_reducible exact F0 _) | apply F1)); done) | (repeat (first | exact F0 _ | apply F1))) (by rfl) agg29 (Wt.none rfl) rfl ?_ | refine RunL.load1R rfl (by assumption) (by rfl) agg29 (Wt.none rfl) rfl ?_
    refine RunL.mv rfl rfl ?_
    refine RunL.pure (Pure.sliceFrom rfl rfl und29 sz5 (by first | omega | (simp; done) | (simp; omega)) (by first | omega | (simp; done) | (simp; omega))) (Wt.none rfl) rfl rfl ?_
    refine RunL.cutB size.toNat (by first | ((repeat (first | (with_reducible exact F0 _) | apply F1)); done) | (repeat (first | exact F0 _ | apply F1))) (by omega) ?_
    rw [show bs.length - size.toNat = (bs.drop size.toNat).length from by simp]
    refine RunL.pure (Pure.nilCheck rfl) (Wt.none rfl) rfl rfl ?_
    refine RunL.pure (Pure.fieldAddr rfl fo85_0) (Wt.none rfl) rfl rfl ?_
    refine RunL.store1 rfl rfl (by first | ((repeat (first | (with_reducible exact F0 _) | apply F1)); done) | (repeat (first | exact F0 _ | apply F1))) sz29 (by rfl) (by simp) (Wt.none rfl) ?_
    try simp only [List.set_cons_zero, List.set_cons_succ]
    refine RunL.nil ?_
    refine Run.sr ?_
    refine RunL.mv rfl rfl ?_
    refine RunL.as rfl rfl ?_
    refine RunL.nil ?_
    refine Run.mkRd (bs := bs.drop size.toNat) (by repeat (first | (with_reducible exact Take.nil _) | (apply Take.cons (by first | ((repeat (first | (with_reducible exact F0 _) | apply F1)); done) | (repeat (first | exact F0 _ | apply F1)))))) ?_
    exact Run.ret Try.func66 (res1 rfl rfl) (by exact ⟨_, _, _, rfl, rfl, by rw [if_neg hno]⟩) (by repeat (first | (with_reducible exact Fin.done (by repeat (first | (with_reducible exact Rest.here) | apply Rest.there))) | (apply Fin.cons (by first | ((repeat (first | (with_reducible exact F0 _) | apply F1)); done) | (repeat (first | exact F0 _ | apply F1))))))

set_option maxRecDepth 100000 in
theorem RdNumber_ctr {G : Gp} {p : Nat} {bs : List UInt8} {er : Int} (hbe : er ≠ 0 → bs = []) (hb : bs.length ≤ 1000000) :
    Ctr Try.prog G 47 [.pointer (some ⟨p, 0, none⟩)] [Rd p bs er] (fun F v A => v = .int .i64 (rdNum bs er).1 ∧ A = Rd p (rdNum bs er).2.1 (rdNum bs er).2.2 :: F) := by
  refine Ctr.intro Try.func47 rfl (by kernel_rfl) rfl (fun F => ?_)
  simp only [List.cons_append, List.nil_append]
  refine Run.sr ?_
  refine RunL.as rfl rfl ?_
  refine RunL.nil ?_
  refine Run.sr ?_
  refine RunL.as rfl rfl ?_
  refine RunL.as rfl rfl ?_
  refine RunL.nil ?_
  refine Run.seq ?_
  refine Run.sr ?_
  refine RunL.mv rfl rfl ?_
  refine RunL.nil ?_
  refine Run.block ?_
  refine Run.keep (.cons rfl (.cons rfl (.cons rfl (.cons rfl (.nil)))) : Keep _ [0, 3, 4, 7] _) ?_
  refine Run.loopR (fun n e A => ∃ (i : Nat) (U : Int), i ≤ 9 ∧ i ≤ bs.length ∧ (i < 9 → U = (128 : Int) ^ i) ∧ (∀ j, j < i → 128 ≤ (bs.getD j 0).toNat) ∧ n = 9 - i ∧ e = [(0, .pointer (some ⟨p, 0, none⟩)), (3, .int .i64 (val (bs.take i) : Nat)), (4, .int .i64 U), (7, .int .i64 i)] ∧ A = Rd p bs er :: F) (9) ⟨0, 1, by omega, by omega, fun _ => rfl, fun j hj => absurd hj (Nat.not_lt_zero _), rfl, rfl, rfl⟩ ?_
  rintro n _ _ ⟨i, U, hi0, hi1, hU, hh, rfl, rfl, rfl⟩ ih
  refine Run.sr ?_
  refine RunL.pure (Pure.lss rfl rfl) (Wt.none rfl) rfl rfl ?_
  refine RunL.nil ?_
  refine Run.seq ?_
  refine Run.cond rfl (fun hi9 => ?_) (fun hi9 => ?_)
  · try simp only [ZA, ZB, ZC, ZD, ZE, ZF, ZG, ZH, ZI, ZJ, ZK, ZL, ZM, ZN, ZO, ZP, ZQ, ZR] at hi9
    refine Run.openRd (by first | ((repeat (first | (with_reducible exact F0 _) | apply F1)); done) | (repeat (first | exact F0 _ | apply F1))) ?_; intro a cap
    refine Run.skip ?_
    refine Run.seq ?_
    refine Run.block ?_
    refine Run.sr ?_
    refine RunL.mv rfl rfl ?_
    refine RunL.as rfl rfl ?_
    refine RunL.nil ?_
    refine Run.seq ?_
    refine Run.sr ?_
    refine RunL.mv rfl rfl ?_
    refine RunL.mv rfl rfl ?_
    refine RunL.pure (Pure.nilCheck rfl) (Wt.none rfl) rfl rfl ?_
    refine RunL.pure (Pure.fieldAddr rfl fo85_0) (Wt.none rfl) rfl rfl ?_
    first | refine RunL.load1 rfl (by first | ((repeat (first | (with_reducible exact F0 _) | apply F1)); done) | (repeat (first | exact F0 _ | apply F1))) (by rfl) agg29 (Wt.none rfl) rfl ?_ | refine RunL.load1R rfl (by assumption) (by rfl) agg29 (Wt.none rfl) rfl ?_
    refine RunL.pure (Pure.lenSl rfl rfl und29) (Wt.none rfl) rfl rfl ?_
    refine RunL.pure (Pure.eql rfl rfl) (Wt.none rfl) rfl rfl ?_
    refine RunL.nil ?_
    refine Run.cond rfl (fun hil0 => ?_) (fun hil0 => ?_)
    · try simp only [ZA, ZB, ZC, ZD, ZE, ZF, ZG, ZH, ZI, ZJ, ZK, ZL, ZM, ZN, ZO, ZP, ZQ, ZR] at hil0
      refine Run.mkRd (a := a) (cap := cap) (bs := bs) (by repeat (first | (with_reducible exact Take.nil _) | (apply Take.cons (by first | ((repeat (first | (with_reducible exact F0 _) | apply F1)); done) | (repeat (first | exact F0 _ | apply F1)))))) ?_
      refine Run.sr ?_
      refine RunL.mv rfl rfl ?_
      refine RunL.call rfl rfl (by rfl) (by repeat (first | (with_reducible exact Take.nil _) | (apply Take.cons (by first | ((repeat (first | (with_reducible exact F0 _) | apply F1)); done) | (repeat (first | exact F0 _ | apply F1)))))) (fail_ctr hbe) (Wt.none rfl) rfl ?_
      rintro _ _ ⟨rfl, hA_⟩
      replace hA_ := hA_.symm; subst hA_
      refine RunL.nil ?_
      refine Run.sr ?_
      refine RunL.as rfl rfl ?_
      refine RunL.nil ?_
      exact Run.ret Try.func47 (res1 rfl rfl) (by exact ⟨by rw [rdNum_short hbe (dec_short (i := i) (by omega) (by omega) hh)], by rw [rdNum_short hbe (dec_short (i := i) (by omega) (by omega) hh)]⟩) (by repeat (first | (with_reducible exact Fin.done (by repeat (first | (with_reducible exact Rest.here) | apply Rest.there))) | (apply Fin.cons (by first | ((repeat (first | (with_reducible exact F0 _) | apply F1)); done) | (repeat (first | exact F0 _ | apply F1))))))
    · try simp only [ZA, ZB, ZC, ZD, ZE, ZF, ZG, ZH, ZI, ZJ, ZK, ZL, ZM, ZN, ZO, ZP, ZQ, ZR] at hil0
      refine Run.openSl (n := bs.length) (by first | ((repeat (first | (with_reducible exact F0 _) | apply F1)); done) | (repeat (first | exact F0 _ | apply F1))) (by omega) ?_; rintro b pre post rfl hsl1 hsl2 hsl3
      have hi9 : i < 9 := by omega
      have hil : i < bs.length := by omega
      obtain rfl : er = 0 := by
        by_cases h0 : er = 0
        · exact h0
        · have := hbe h0; rw [this] at hil; simp at hil
      have hp := pow128 i hi9
      have hV := val_take_lt bs i
      have hVI : ((val (bs.take i) : Nat) : Int) < (128 : Int) ^ i := by exact_mod_cast hV
      rw [← hU hi9] at hp hVI
      have hb256 := (bs.getD i 0).toNat_lt
      have hP0 : 0 ≤ ((bs.getD i 0).toNat : Int) % 128 * U := Int.mul_nonneg (by omega) (by omega)
      have hP1 : ((bs.getD i 0).toNat : Int) % 128 * U ≤ 127 * U := Int.mul_le_mul_of_nonneg_right (by omega) (by omega)
      have hnv : ((val (bs.take i) : Nat) : Int) + ((bs.getD i 0).toNat : Int) % 128 * U = (val (bs.take (i + 1)) : Nat) := by
        rw [val_take hil, hU hi9]; push_cast; rfl
      refine Run.skip ?_
      refine Run.sr ?_
      refine RunL.mv rfl rfl ?_
      refine RunL.pure (Pure.nilCheck rfl) (Wt.none rfl) rfl rfl ?_
      refine RunL.pure (Pure.fieldAddr rfl fo85_0) (Wt.none rfl) rfl rfl ?_
      first | refine RunL.load1 rfl (by first | ((repeat (first | (with_reducible exact F0 _) | apply F1)); done) | (repeat (first | exact F0 _ | apply F1))) (by rfl) agg29 (Wt.none rfl) rfl ?_ | refine RunL.load1R rfl (by assumption) (by rfl) agg29 (Wt.none rfl) rfl ?_
      refine RunL.mv rfl rfl ?_
      refine RunL.pure (Pure.indexAddr rfl rfl und29 sz5 (by omega) (by omega)) (Wt.none rfl) rfl rfl ?_
      refine RunL.load1 rfl (by first | ((repeat (first | (with_reducible exact F0 _) | apply F1)); done) | (repeat (first | exact F0 _ | apply F1))) (by exact (show _ = some (bv (bs.getD i 0)) from cell_at hil)) agg5 (Wt.none rfl) rfl ?_
      first | refine RunL.pure (Pure.convId und5 und3 rfl (by first | exact wrap_i64 (by omega) (by omega) | exact wrap_u8 (by omega) (by omega) | exact wrap_i32 (by omega) (by omega))) (Wt.none rfl) rfl rfl ?_ | refine RunL.pure (Pure.convInt und5 und3 rfl) (Wt.none rfl) rfl rfl ?_
      refine RunL.as rfl rfl ?_
      refine RunL.nil ?_
      refine Run.sr ?_
      refine RunL.mv rfl rfl ?_
      refine RunL.mv rfl rfl ?_
      first | refine RunL.pure (Pure.remI rfl rfl (by omega) (by omega)) (Wt.none rfl) rfl rfl ?_ | refine RunL.pure (Pure.rem rfl rfl (by omega)) (Wt.none rfl) rfl rfl ?_
      refine RunL.mv rfl rfl ?_
      first | refine RunL.pure (Pure.mulI rfl rfl (by omega)) (Wt.none rfl) rfl rfl ?_ | refine RunL.pure (Pure.mul rfl rfl) (Wt.none rfl) rfl rfl ?_
      first | refine RunL.pure (Pure.addI rfl rfl (by omega)) (Wt.none rfl) rfl rfl ?_ | refine RunL.pure (Pure.add rfl rfl) (Wt.none rfl) rfl rfl ?_
      refine RunL.as rfl rfl ?_
      refine RunL.nil ?_
      refine Run.sr ?_
      refine RunL.mv rfl rfl ?_
      first | refine RunL.pure (Pure.mulI rfl rfl (by omega)) (Wt.none rfl) rfl rfl ?_ | refine RunL.pure (Pure.mul rfl rfl) (Wt.none rfl) rfl rfl ?_
      refine RunL.as rfl rfl ?_
      refine RunL.nil ?_
      refine Run.seq ?_
      refine Run.sr ?_
      refine RunL.mv rfl rfl ?_
      refine RunL.pure (Pure.lss rfl rfl) (Wt.none rfl) rfl rfl ?_
      refine RunL.nil ?_
      refine Run.cond rfl (fun hlow => ?_) (fun hlow => ?_)
      · try simp only [ZA, ZB, ZC, ZD, ZE, ZF, ZG, ZH, ZI, ZJ, ZK, ZL, ZM, ZN, ZO, ZP, ZQ, ZR] at hlow
        refine Run.mkSl (n := bs.length) (by first | ((repeat (first | (with_reducible exact F0 _) | apply F1)); done) | (repeat (first | exact F0 _ | apply F1))) hsl1 hsl2 hsl3 ?_
        refine Run.mkRd (a := _) (cap := _) (bs := bs) (by repeat (first | (with_reducible exact Take.nil _) | (apply Take.cons (by first | ((repeat (first | (with_reducible exact F0 _) | apply F1)); done) | (repeat (first | exact F0 _ | apply F1)))))) ?_
        refine Run.sr ?_
        refine RunL.mv rfl rfl ?_
        refine RunL.mv rfl rfl ?_
        refine RunL.mv rfl rfl ?_
        first | refine RunL.pure (Pure.addI rfl rfl (by omega)) (Wt.none rfl) rfl rfl ?_ | refine RunL.pure (Pure.add rfl rfl) (Wt.none rfl) rfl rfl ?_
        rw [hnv]
        refine RunL.call rfl rfl (by rfl) (by repeat (first | (with_reducible exact Take.nil _) | (apply Take.cons (by first | ((repeat (first | (with_reducible exact F0 _) | apply F1)); done) | (repeat (first | exact F0 _ | apply F1)))))) (told_ctr (by omega) (by omega) hb) (Wt.none rfl) rfl ?_
        rintro _ _ ⟨r, bs', er', rfl, rfl, hr⟩
        refine RunL.as rfl rfl ?_
        refine RunL.nil ?_
        exact Run.ret Try.func47 (res1 rfl rfl) (by exact ⟨by rw [rdNum_told hil (by omega) hh (by omega) hr], by rw [rdNum_told hil (by omega) hh (by omega) hr]⟩) (by repeat (first | (with_reducible exact Fin.done (by repeat (first | (with_reducible exact Rest.here) | apply Rest.there))) | (apply Fin.cons (by first | ((repeat (first | (with_reducible exact F0 _) | apply F1)); done) | (repeat (first | exact F0 _ | apply F1))))))
      · try simp only [ZA, ZB, ZC, ZD, ZE, ZF, ZG, ZH, ZI, ZJ, ZK, ZL, ZM, ZN, ZO, ZP, ZQ, ZR] at hlow
        refine Run.skip ?_
        refine Run.sr ?_
        refine RunL.mv rfl rfl ?_
        first | refine RunL.pure (Pure.addI rfl rfl (by omega)) (Wt.none rfl) rfl rfl ?_ | refine RunL.pure (Pure.add rfl rfl) (Wt.none rfl) rfl rfl ?_
        refine RunL.pure (Pure.lss rfl rfl) (Wt.none rfl) rfl rfl ?_
        refine RunL.mv rfl rfl ?_
        refine RunL.split (d := 45) rfl (fun hi8 => ?_) (fun hi8 => ?_)
        · try simp only [ZA, ZB, ZC, ZD, ZE, ZF, ZG, ZH, ZI, ZJ, ZK, ZL, ZM, ZN, ZO, ZP, ZQ, ZR] at hi8
          refine RunL.pure (Pure.move rfl) (Wt.yes rfl rfl rfl) rfl rfl ?_
          first | refine RunL.pure (Pure.addI rfl rfl (by omega)) (Wt.yes rfl rfl rfl) rfl rfl ?_ | refine RunL.pure (Pure.add rfl rfl) (Wt.yes rfl rfl rfl) rfl rfl ?_
          refine RunL.pure (Pure.move rfl) (Wt.yes rfl rfl rfl) rfl rfl ?_
          refine RunL.pure (Pure.nilCheck rfl) (Wt.yes rfl rfl rfl) rfl rfl ?_
          refine RunL.pure (Pure.fieldAddr rfl fo85_0) (Wt.yes rfl rfl rfl) rfl rfl ?_
          first | refine RunL.load1 rfl (by first | ((repeat (first | (with_reducible exact F0 _) | apply F1)); done) | (repeat (first | exact F0 _ | apply F1))) (by rfl) agg29 (Wt.yes rfl rfl rfl) rfl ?_ | refine RunL.load1R rfl (by assumption) (by rfl) agg29 (Wt.yes rfl rfl rfl) rfl ?_
          refine RunL.pure (Pure.lenSl rfl rfl und29) (Wt.yes rfl rfl rfl) rfl rfl ?_
          refine RunL.pure (Pure.eql rfl rfl) (Wt.yes rfl rfl rfl) rfl rfl ?_
          refine RunL.pure (Pure.pickT rfl rfl) (Wt.none rfl) rfl rfl ?_
          refine RunL.nil ?_
          refine Run.cond rfl (fun hlen => ?_) (fun hlen => ?_)
          · try simp only [ZA, ZB, ZC, ZD, ZE, ZF, ZG, ZH, ZI, ZJ, ZK, ZL, ZM, ZN, ZO, ZP, ZQ, ZR] at hlen
            have hU' : i + 1 < 9 → IntKind.i64.wrap (U * 128) = (128 : Int) ^ (i + 1) := by
              intro h9
              have hp7 := pow128 (i + 1) h9
              rw [Int.pow_succ, ← hU hi9] at hp7 ⊢
              exact wrap_i64 (by omega) (by omega)
            have hh' : ∀ j, j < i + 1 → 128 ≤ (bs.getD j 0).toNat := by
              intro j hj
              rcases Nat.lt_or_ge j i with x | x
              · exact hh j x
              · have : j = i := by omega
                subst this; omega
            rw [hnv]
            refine Run.mkSl (n := bs.length) (by first | ((repeat (first | (with_reducible exact F0 _) | apply F1)); done) | (repeat (first | exact F0 _ | apply F1))) hsl1 hsl2 hsl3 ?_
            refine Run.mkRd (a := _) (cap := _) (bs := bs) (by repeat (first | (with_reducible exact Take.nil _) | (apply Take.cons (by first | ((repeat (first | (with_reducible exact F0 _) | apply F1)); done) | (repeat (first | exact F0 _ | apply F1)))))) ?_
            refine Run.sr ?_
            refine RunL.mv rfl rfl ?_
            refine RunL.call rfl rfl (by rfl) (by repeat (first | (with_reducible exact Take.nil _) | (apply Take.cons (by first | ((repeat (first | (with_reducible exact F0 _) | apply F1)); done) | (repeat (first | exact F0 _ | apply F1)))))) (fail_ctr hbe) (Wt.none rfl) rfl ?_
            rintro _ _ ⟨rfl, hA_⟩
            replace hA_ := hA_.symm; subst hA_
            refine RunL.nil ?_
            refine Run.sr ?_
            refine RunL.as rfl rfl ?_
            refine RunL.nil ?_
            exact Run.ret Try.func47 (res1 rfl rfl) (by exact ⟨by rw [rdNum_short hbe (dec_short (i := i + 1) (by omega) (by omega) hh')], by rw [rdNum_short hbe (dec_short (i := i + 1) (by omega) (by omega) hh')]⟩) (by repeat (first | (with_reducible exact Fin.done (by repeat (first | (with_reducible exact Rest.here) | apply Rest.there))) | (apply Fin.cons (by first | ((repeat (first | (with_reducible exact F0 _) | apply F1)); done) | (repeat (first | exact F0 _ | apply F1))))))
          · try simp only [ZA, ZB, ZC, ZD, ZE, ZF, ZG, ZH, ZI, ZJ, ZK, ZL, ZM, ZN, ZO, ZP, ZQ, ZR] at hlen
            have hU' : i + 1 < 9 → IntKind.i64.wrap (U * 128) = (128 : Int) ^ (i + 1) := by
              intro h9
              have hp7 := pow128 (i + 1) h9
              rw [Int.pow_succ, ← hU hi9] at hp7 ⊢
              exact wrap_i64 (by omega) (by omega)
            have hh' : ∀ j, j < i + 1 → 128 ≤ (bs.getD j 0).toNat := by
              intro j hj
              rcases Nat.lt_or_ge j i with x | x
              · exact hh j x
              · have : j = i := by omega
                subst this; omega
            rw [hnv]
            refine Run.mkSl (n := bs.length) (by first | ((repeat (first | (with_reducible exact F0 _) | apply F1)); done) | (repeat (first | exact F0 _ | apply F1))) hsl1 hsl2 hsl3 ?_
            refine Run.mkRd (a := _) (cap := _) (bs := bs) (by repeat (first | (with_reducible exact Take.nil _) | (apply Take.cons (by first | ((repeat (first | (with_reducible exact F0 _) | apply F1)); done) | (repeat (first | exact F0 _ | apply F1)))))) ?_
            refine Run.skip ?_
            refine Run.inBlock ?_
            refine Run.region ?_
            first | refine RunL.pure (Pure.addI rfl rfl (by omega)) (Wt.none rfl) rfl rfl ?_ | refine RunL.pure (Pure.add rfl rfl) (Wt.none rfl) rfl rfl ?_
            refine RunL.mv rfl rfl ?_
            refine RunL.nil ?_
            refine Run.keep (.cons rfl (.cons rfl (.cons rfl (.cons rfl (.nil)))) : Keep _ [0, 3, 4, 7] _) ?_
            refine ih _ _ _ ?_ ⟨i + 1, IntKind.i64.wrap (U * 128), by omega, by omega, hU', hh', rfl, rfl, rfl⟩
            omega
        · try simp only [ZA, ZB, ZC, ZD, ZE, ZF, ZG, ZH, ZI, ZJ, ZK, ZL, ZM, ZN, ZO, ZP, ZQ, ZR] at hi8
          have hU' : i + 1 < 9 → IntKind.i64.wrap (U * 128) = (128 : Int) ^ (i + 1) := by
            intro h9
            have hp7 := pow128 (i + 1) h9
            rw [Int.pow_succ, ← hU hi9] at hp7 ⊢
            exact wrap_i64 (by omega) (by omega)
          have hh' : ∀ j, j < i + 1 → 128 ≤ (bs.getD j 0).toNat := by
            intro j hj
            rcases Nat.lt_or_ge j i with x | x
            · exact hh j x
            · have : j = i := by omega
              subst this; omega
          rw [hnv]
          refine RunL.mkSl (n := bs.length) (by first | ((repeat (first | (with_reducible exact F0 _) | apply F1)); done) | (repeat (first | exact F0 _ | apply F1))) hsl1 hsl2 hsl3 ?_
          refine RunL.mkRd (a := _) (cap := _) (bs := bs) (by repeat (first | (with_reducible exact Take.nil _) | (apply Take.cons (by first | ((repeat (first | (with_reducible exact F0 _) | apply F1)); done) | (repeat (first | exact F0 _ | apply F1)))))) ?_
          refine RunL.not (Wt.no rfl rfl rfl) rfl rfl ?_
          refine RunL.not (Wt.no rfl rfl rfl) rfl rfl ?_
          refine RunL.not (Wt.no rfl rfl rfl) rfl rfl ?_
          refine RunL.not (Wt.no rfl rfl rfl) rfl rfl ?_
          refine RunL.not (Wt.no rfl rfl rfl) rfl rfl ?_
          refine RunL.not (Wt.no rfl rfl rfl) rfl rfl ?_
          refine RunL.not (Wt.no rfl rfl rfl) rfl rfl ?_
          refine RunL.not (Wt.no rfl rfl rfl) rfl rfl ?_
          refine RunL.pure (Pure.pickF rfl rfl) (Wt.none rfl) rfl rfl ?_
          refine RunL.nil ?_
          refine Run.condF rfl ?_
          refine Run.skip ?_
          refine Run.inBlock ?_
          refine Run.region ?_
          first | refine RunL.pure (Pure.addI rfl rfl (by omega)) (Wt.none rfl) rfl rfl ?_ | refine RunL.pure (Pure.add rfl rfl) (Wt.none rfl) rfl rfl ?_
          refine RunL.mv rfl rfl ?_
          refine RunL.nil ?_
          refine Run.keep (.cons rfl (.cons rfl (.cons rfl (.cons rfl (.nil)))) : Keep _ [0, 3, 4, 7] _) ?_
          refine ih _ _ _ ?_ ⟨i + 1, IntKind.i64.wrap (U * 128), by omega, by omega, hU', hh', rfl, rfl, rfl⟩
          omega
  · try simp only [ZA, ZB, ZC, ZD, ZE, ZF, ZG, ZH, ZI, ZJ, ZK, ZL, ZM, ZN, ZO, ZP, ZQ, ZR] at hi9
    refine Run.exit rfl ?_
    refine Run.sr ?_
    refine RunL.mv rfl rfl ?_
    refine RunL.call rfl rfl (by rfl) (by repeat (first | (with_reducible exact Take.nil _) | (apply Take.cons (by first | ((repeat (first | (with_reducible exact F0 _) | apply F1)); done) | (repeat (first | exact F0 _ | apply F1)))))) (fail_ctr hbe) (Wt.none rfl) rfl ?_
    rintro _ _ ⟨rfl, hA_⟩
    replace hA_ := hA_.symm; subst hA_
    have h9 : i = 9 := by omega
    subst h9
    obtain rfl : er = 0 := by
      by_cases h0 : er = 0
      · exact h0
      · have := hbe h0; rw [this] at hi1; simp at hi1
    rw [if_pos rfl]
    refine RunL.nil ?_
    refine Run.sr ?_
    refine RunL.as rfl rfl ?_
    refine RunL.nil ?_
    exact Run.ret Try.func47 (res1 rfl rfl) (by exact ⟨by rw [rdNum_form (dec_form hi1 hh)], by rw [rdNum_form (dec_form hi1 hh)]⟩) (by repeat (first | (with_reducible exact Fin.done (by repeat (first | (with_reducible exact Rest.here) | apply Rest.there))) | (apply Fin.cons (by first | ((repeat (first | (with_reducible exact F0 _) | apply F1)); done) | (repeat (first | exact F0 _ | apply F1))))))

set_option maxRecDepth 100000 in
theorem RdErrno_ctr {G : Gp} {p : Nat} {bs : List UInt8} {er : Int} {a : Option Addr} {cap : Nat} (hr : Ro G p 85 [.slice a bs.length cap, .int .i64 er]) :
    Ctr Try.prog G 49 [.pointer (some ⟨p, 0, none⟩)] [] (fun F v A => v = .int .i64 er ∧ A = F) := by
  refine Ctr.intro Try.func49 rfl (by kernel_rfl) rfl (fun F => ?_)
  simp only [List.nil_append]
  refine Run.sr ?_
  refine RunL.as rfl rfl ?_
  refine RunL.nil ?_
  refine Run.sr ?_
  refine RunL.mv rfl rfl ?_
  refine RunL.pure (Pure.nilCheck rfl) (Wt.none rfl) rfl rfl ?_
  refine RunL.pure (Pure.fieldAddr rfl fo85_1) (Wt.none rfl) rfl rfl ?_
  first | refine RunL.load1 rfl (by first | ((repeat (first | (with_reducible exact F0 _) | apply F1)); done) | (repeat (first | exact F0 _ | apply F1))) (by rfl) agg30 (Wt.none rfl) rfl ?_ | refine RunL.load1R rfl (by assumption) (by rfl) agg30 (Wt.none rfl) rfl ?_
  refine RunL.as rfl rfl ?_
  refine RunL.nil ?_
  exact Run.ret Try.func49 (res1 rfl rfl) (by exact ⟨rfl, rfl⟩) (by repeat (first | (with_reducible exact Fin.done (by repeat (first | (with_reducible exact Rest.here) | apply Rest.there))) | (apply Fin.cons (by first | ((repeat (first | (with_reducible exact F0 _) | apply F1)); done) | (repeat (first | exact F0 _ | apply F1))))))

set_option maxRecDepth 100000 in
theorem RdEnd_ctr {G : Gp} {p : Nat} {bs : List UInt8} {er : Int} {a : Option Addr} {cap : Nat} (hr : Ro G p 85 [.slice a bs.length cap, .int .i64 er]) :
    Ctr Try.prog G 51 [.pointer (some ⟨p, 0, none⟩)] [] (fun F v A => v = .int .i64 (rdEnd bs er) ∧ A = F) := by
  refine Ctr.intro Try.func51 rfl (by kernel_rfl) rfl (fun F => ?_)
  simp only [List.nil_append]
  refine Run.sr ?_
  refine RunL.as rfl rfl ?_
  refine RunL.nil ?_
  refine Run.seq ?_
  refine Run.sr ?_
  refine RunL.mv rfl rfl ?_
  refine RunL.pure (Pure.nilCheck rfl) (Wt.none rfl) rfl rfl ?_
  refine RunL.pure (Pure.fieldAddr rfl fo85_1) (Wt.none rfl) rfl rfl ?_
  first | refine RunL.load1 rfl (by first | ((repeat (first | (with_reducible exact F0 _) | apply F1)); done) | (repeat (first | exact F0 _ | apply F1))) (by rfl) agg30 (Wt.none rfl) rfl ?_ | refine RunL.load1R rfl (by assumption) (by rfl) agg30 (Wt.none rfl) rfl ?_
  refine RunL.pure (Pure.eql rfl rfl) (Wt.none rfl) rfl rfl ?_
  refine RunL.mv rfl rfl ?_
  refine RunL.split (d := 8) rfl (fun h0 => ?_) (fun h0 => ?_)
  · try simp only [ZA, ZB, ZC, ZD, ZE, ZF, ZG, ZH, ZI, ZJ, ZK, ZL, ZM, ZN, ZO, ZP, ZQ, ZR] at h0
    refine RunL.pure (Pure.move rfl) (Wt.yes rfl rfl rfl) rfl rfl ?_
    refine RunL.pure (Pure.nilCheck rfl) (Wt.yes rfl rfl rfl) rfl rfl ?_
    refine RunL.pure (Pure.fieldAddr rfl fo85_0) (Wt.yes rfl rfl rfl) rfl rfl ?_
    first | refine RunL.load1 rfl (by first | ((repeat (first | (with_reducible exact F0 _) | apply F1)); done) | (repeat (first | exact F0 _ | apply F1))) (by rfl) agg29 (Wt.yes rfl rfl rfl) rfl ?_ | refine RunL.load1R rfl (by assumption) (by rfl) agg29 (Wt.yes rfl rfl rfl) rfl ?_
    refine RunL.pure (Pure.lenSl rfl rfl und29) (Wt.yes rfl rfl rfl) rfl rfl ?_
    refine RunL.pure (Pure.gtr rfl rfl) (Wt.yes rfl rfl rfl) rfl rfl ?_
    refine RunL.pure (Pure.pickT rfl rfl) (Wt.none rfl) rfl rfl ?_
    refine RunL.nil ?_
    refine Run.cond rfl (fun h1 => ?_) (fun h1 => ?_)
    · try simp only [ZA, ZB, ZC, ZD, ZE, ZF, ZG, ZH, ZI, ZJ, ZK, ZL, ZM, ZN, ZO, ZP, ZQ, ZR] at h1
      refine Run.sr ?_
      refine RunL.as rfl rfl ?_
      refine RunL.nil ?_
      exact Run.ret Try.func51 (res1 rfl rfl) (by exact ⟨by rw [rdEnd, if_pos ⟨h0, by omega⟩], rfl⟩) (by repeat (first | (with_reducible exact Fin.done (by repeat (first | (with_reducible exact Rest.here) | apply Rest.there))) | (apply Fin.cons (by first | ((repeat (first | (with_reducible exact F0 _) | apply F1)); done) | (repeat (first | exact F0 _ | apply F1))))))
    · try simp only [ZA, ZB, ZC, ZD, ZE, ZF, ZG, ZH, ZI, ZJ, ZK, ZL, ZM, ZN, ZO, ZP, ZQ, ZR] at h1
      refine Run.skip ?_
      refine Run.sr ?_
      refine RunL.mv rfl rfl ?_
      refine RunL.pure (Pure.nilCheck rfl) (Wt.none rfl) rfl rfl ?_
      refine RunL.pure (Pure.fieldAddr rfl fo85_1) (Wt.none rfl) rfl rfl ?_
      first | refine RunL.load1 rfl (by first | ((repeat (first | (with_reducible exact F0 _) | apply F1)); done) | (repeat (first | exact F0 _ | apply F1))) (by rfl) agg30 (Wt.none rfl) rfl ?_ | refine RunL.load1R rfl (by assumption) (by rfl) agg30 (Wt.none rfl) rfl ?_
      refine RunL.as rfl rfl ?_
      refine RunL.nil ?_
      exact Run.ret Try.func51 (res1 rfl rfl) (by exact ⟨by rw [rdEnd, if_neg (by omega)], rfl⟩) (by repeat (first | (with_reducible exact Fin.done (by repeat (first | (with_reducible exact Rest.here) | apply Rest.there))) | (apply Fin.cons (by first | ((repeat (first | (with_reducible exact F0 _) | apply F1)); done) | (repeat (first | exact F0 _ | apply F1))))))
  · try simp only [ZA, ZB, ZC, ZD, ZE, ZF, ZG, ZH, ZI, ZJ, ZK, ZL, ZM, ZN, ZO, ZP, ZQ, ZR] at h0
    refine RunL.not (Wt.no rfl rfl rfl) rfl rfl ?_
    refine RunL.not (Wt.no rfl rfl rfl) rfl rfl ?_
    refine RunL.not (Wt.no rfl rfl rfl) rfl rfl ?_
    refine RunL.not (Wt.no rfl rfl rfl) rfl rfl ?_
    refine RunL.not (Wt.no rfl rfl rfl) rfl rfl ?_
    refine RunL.not (Wt.no rfl rfl rfl) rfl rfl ?_
    refine RunL.pure (Pure.pickF rfl rfl) (Wt.none rfl) rfl rfl ?_
    refine RunL.nil ?_
    refine Run.condF rfl ?_
    refine Run.skip ?_
    refine Run.sr ?_
    refine RunL.mv rfl rfl ?_
    refine RunL.pure (Pure.nilCheck rfl) (Wt.none rfl) rfl rfl ?_
    refine RunL.pure (Pure.fieldAddr rfl fo85_1) (Wt.none rfl) rfl rfl ?_
    first | refine RunL.load1 rfl (by first | ((repeat (first | (with_reducible exact F0 _) | apply F1)); done) | (repeat (first | exact F0 _ | apply F1))) (by rfl) agg30 (Wt.none rfl) rfl ?_ | refine RunL.load1R rfl (by assumption) (by rfl) agg30 (Wt.none rfl) rfl ?_
    refine RunL.as rfl rfl ?_
    refine RunL.nil ?_
    exact Run.ret Try.func51 (res1 rfl rfl) (by exact ⟨by rw [rdEnd, if_neg (fun q => h0 q.1)], rfl⟩) (by repeat (first | (with_reducible exact Fin.done (by repeat (first | (with_reducible exact Rest.here) | apply Rest.there))) | (apply Fin.cons (by first | ((repeat (first | (with_reducible exact F0 _) | apply F1)); done) | (repeat (first | exact F0 _ | apply F1))))))

set_option maxRecDepth 100000 in
theorem RdFlag_ctr {G : Gp} {p : Nat} {bs : List UInt8} {er : Int} (hbe : er ≠ 0 → bs = []) (hb : bs.length ≤ 1000000) :
    Ctr Try.prog G 45 [.pointer (some ⟨p, 0, none⟩)] [Rd p bs er] (fun F v A => v = .bool (rdFlag bs er).1 ∧ A = Rd p (rdFlag bs er).2.1 (rdFlag bs er).2.2 :: F) := by
  refine Ctr.intro Try.func45 rfl (by kernel_rfl) rfl (fun F => ?_)
  simp only [List.cons_append, List.nil_append]
  refine Run.openRd (by first | ((repeat (first | (with_reducible exact F0 _) | apply F1)); done) | (repeat (first | exact F0 _ | apply F1))) ?_; intro a cap
  refine Run.sr ?_
  refine RunL.as rfl rfl ?_
  refine RunL.nil ?_
  refine Run.seq ?_
  refine Run.sr ?_
  refine RunL.mv rfl rfl ?_
  refine RunL.pure (Pure.nilCheck rfl) (Wt.none rfl) rfl rfl ?_
  refine RunL.pure (Pure.fieldAddr rfl fo85_1) (Wt.none rfl) rfl rfl ?_
  first | refine RunL.load1 rfl (by first | ((repeat (first | (with_reducible exact F0 _) | apply F1)); done) | (repeat (first | exact F0 _ | apply F1))) (by rfl) agg30 (Wt.none rfl) rfl ?_ | refine RunL.load1R rfl (by assumption) (by rfl) agg30 (Wt.none rfl) rfl ?_
  refine RunL.pure (Pure.neq rfl rfl) (Wt.none rfl) rfl rfl ?_
  refine RunL.nil ?_
  refine Run.cond rfl (fun h0 => ?_) (fun h0 => ?_)
  · try simp only [ZA, ZB, ZC, ZD, ZE, ZF, ZG, ZH, ZI, ZJ, ZK, ZL, ZM, ZN, ZO, ZP, ZQ, ZR] at h0
    refine Run.sr ?_
    refine RunL.as rfl rfl ?_
    refine RunL.nil ?_
    refine Run.mkRd (a := a) (cap := cap) (bs := bs) (by repeat (first | (with_reducible exact Take.nil _) | (apply Take.cons (by first | ((repeat (first | (with_reducible exact F0 _) | apply F1)); done) | (repeat (first | exact F0 _ | apply F1)))))) ?_
    exact Run.ret Try.func45 (res1 rfl rfl) (by exact ⟨by rw [rdFlag_er h0], by rw [rdFlag_er h0]⟩) (by repeat (first | (with_reducible exact Fin.done (by repeat (first | (with_reducible exact Rest.here) | apply Rest.there))) | (apply Fin.cons (by first | ((repeat (first | (with_reducible exact F0 _) | apply F1)); done) | (repeat (first | exact F0 _ | apply F1))))))
  · try simp only [ZA, ZB, ZC, ZD, ZE, ZF, ZG, ZH, ZI, ZJ, ZK, ZL, ZM, ZN, ZO, ZP, ZQ, ZR] at h0
    obtain rfl : er = 0 := h0
    refine Run.skip ?_
    refine Run.seq ?_
    refine Run.sr ?_
    refine RunL.mv rfl rfl ?_
    refine RunL.pure (Pure.nilCheck rfl) (Wt.none rfl) rfl rfl ?_
    refine RunL.pure (Pure.fieldAddr rfl fo85_0) (Wt.none rfl) rfl rfl ?_
    first | refine RunL.load1 rfl (by first | ((repeat (first | (with_reducible exact F0 _) | apply F1)); done) | (repeat (first | exact F0 _ | apply F1))) (by rfl) agg29 (Wt.none rfl) rfl ?_ | refine RunL.load1R rfl (by assumption) (by rfl) agg29 (Wt.none rfl) rfl ?_
    refine RunL.pure (Pure.lenSl rfl rfl und29) (Wt.none rfl) rfl rfl ?_
    refine RunL.pure (Pure.eql rfl rfl) (Wt.none rfl) rfl rfl ?_
    refine RunL.nil ?_
    refine Run.cond rfl (fun h1 => ?_) (fun h1 => ?_)
    · try simp only [ZA, ZB, ZC, ZD, ZE, ZF, ZG, ZH, ZI, ZJ, ZK, ZL, ZM, ZN, ZO, ZP, ZQ, ZR] at h1
      obtain rfl : bs = [] := List.length_eq_zero_iff.1 (by omega)
      refine Run.mkRd (a := a) (cap := cap) (bs := []) (by repeat (first | (with_reducible exact Take.nil _) | (apply Take.cons (by first | ((repeat (first | (with_reducible exact F0 _) | apply F1)); done) | (repeat (first | exact F0 _ | apply F1)))))) ?_
      refine Run.sr ?_
      refine RunL.mv rfl rfl ?_
      refine RunL.call rfl rfl (by rfl) (by repeat (first | (with_reducible exact Take.nil _) | (apply Take.cons (by first | ((repeat (first | (with_reducible exact F0 _) | apply F1)); done) | (repeat (first | exact F0 _ | apply F1)))))) (fail_ctr (fun h => absurd rfl h)) (Wt.none rfl) rfl ?_
      rintro _ _ ⟨rfl, hA_⟩
      replace hA_ := hA_.symm; subst hA_
      refine RunL.nil ?_
      refine Run.sr ?_
      refine RunL.as rfl rfl ?_
      refine RunL.nil ?_
      rw [if_pos rfl]
      exact Run.ret Try.func45 (res1 rfl rfl) (by exact ⟨by rw [rdFlag_nil], by rw [rdFlag_nil]⟩) (by repeat (first | (with_reducible exact Fin.done (by repeat (first | (with_reducible exact Rest.here) | apply Rest.there))) | (apply Fin.cons (by first | ((repeat (first | (with_reducible exact F0 _) | apply F1)); done) | (repeat (first | exact F0 _ | apply F1))))))
    · try simp only [ZA, ZB, ZC, ZD, ZE, ZF, ZG, ZH, ZI, ZJ, ZK, ZL, ZM, ZN, ZO, ZP, ZQ, ZR] at h1
      obtain ⟨c0, bs0, rfl⟩ : ∃ c0 bs0, bs = c0 :: bs0 := by
        cases bs with
        | nil => simp at h1
        | cons c l => exact ⟨_, _, rfl⟩
      refine Run.openSl (n := (c0 :: bs0).length) (by first | ((repeat (first | (with_reducible exact F0 _) | apply F1)); done) | (repeat (first | exact F0 _ | apply F1))) (by simp) ?_; rintro b pre post rfl hsl1 hsl2 hsl3
      have hlc : 0 < (c0 :: bs0).length := by simp
      refine Run.skip ?_
      refine Run.sr ?_
      refine RunL.mv rfl rfl ?_
      refine RunL.pure (Pure.nilCheck rfl) (Wt.none rfl) rfl rfl ?_
      refine RunL.pure (Pure.fieldAddr rfl fo85_0) (Wt.none rfl) rfl rfl ?_
      first | refine RunL.load1 rfl (by first | ((repeat (first | (with_reducible exact F0 _) | apply F1)); done) | (repeat (first | exact F0 _ | apply F1))) (by rfl) agg29 (Wt.none rfl) rfl ?_ | refine RunL.load1R rfl (by assumption) (by rfl) agg29 (Wt.none rfl) rfl ?_
      refine RunL.pure (Pure.indexAddr rfl rfl und29 sz5 (by omega) (by omega)) (Wt.none rfl) rfl rfl ?_
      refine RunL.load1 rfl (by first | ((repeat (first | (with_reducible exact F0 _) | apply F1)); done) | (repeat (first | exact F0 _ | apply F1))) (by exact (show _ = some (bv c0) from cell_at hlc)) agg5 (Wt.none rfl) rfl ?_
      refine RunL.as rfl rfl ?_
      refine RunL.nil ?_
      refine Run.seq ?_
      refine Run.sr ?_
      refine RunL.mv rfl rfl ?_
      refine RunL.pure (Pure.gtr rfl rfl) (Wt.none rfl) rfl rfl ?_
      refine RunL.nil ?_
      refine Run.cond rfl (fun h2 => ?_) (fun h2 => ?_)
      · try simp only [ZA, ZB, ZC, ZD, ZE, ZF, ZG, ZH, ZI, ZJ, ZK, ZL, ZM, ZN, ZO, ZP, ZQ, ZR] at h2
        refine Run.mkSl (n := (c0 :: bs0).length) (by first | ((repeat (first | (with_reducible exact F0 _) | apply F1)); done) | (repeat (first | exact F0 _ | apply F1))) hsl1 hsl2 hsl3 ?_
        refine Run.mkRd (a := _) (cap := _) (bs := (c0 :: bs0)) (by repeat (first | (with_reducible exact Take.nil _) | (apply Take.cons (by first | ((repeat (first | (with_reducible exact F0 _) | apply F1)); done) | (repeat (first | exact F0 _ | apply F1)))))) ?_
        refine Run.sr ?_
        refine RunL.mv rfl rfl ?_
        refine RunL.call rfl rfl (by rfl) (by repeat (first | (with_reducible exact Take.nil _) | (apply Take.cons (by first | ((repeat (first | (with_reducible exact F0 _) | apply F1)); done) | (repeat (first | exact F0 _ | apply F1)))))) (fail_ctr (fun h => absurd rfl h)) (Wt.none rfl) rfl ?_
        rintro _ _ ⟨rfl, hA_⟩
        replace hA_ := hA_.symm; subst hA_
        refine RunL.nil ?_
        refine Run.sr ?_
        refine RunL.as rfl rfl ?_
        refine RunL.nil ?_
        rw [if_pos rfl]
        exact Run.ret Try.func45 (res1 rfl rfl) (by exact ⟨by rw [rdFlag_form (by omega)], by rw [rdFlag_form (by omega)]⟩) (by repeat (first | (with_reducible exact Fin.done (by repeat (first | (with_reducible exact Rest.here) | apply Rest.there))) | (apply Fin.cons (by first | ((repeat (first | (with_reducible exact F0 _) | apply F1)); done) | (repeat (first | exact F0 _ | apply F1))))))
      · try simp only [ZA, ZB, ZC, ZD, ZE, ZF, ZG, ZH, ZI, ZJ, ZK, ZL, ZM, ZN, ZO, ZP, ZQ, ZR] at h2
        refine Run.mkSl (n := (c0 :: bs0).length) (by first | ((repeat (first | (with_reducible exact F0 _) | apply F1)); done) | (repeat (first | exact F0 _ | apply F1))) hsl1 hsl2 hsl3 ?_
        refine Run.skip ?_
        refine Run.sr ?_
        refine RunL.mv rfl rfl ?_
        refine RunL.mv rfl rfl ?_
        refine RunL.pure (Pure.nilCheck rfl) (Wt.none rfl) rfl rfl ?_
        refine RunL.pure (Pure.fieldAddr rfl fo85_0) (Wt.none rfl) rfl rfl ?_
        first | refine RunL.load1 rfl (by first | ((repeat (first | (with_reducible exact F0 _) | apply F1)); done) | (repeat (first | exact F0 _ | apply F1))) (by rfl) agg29 (Wt.none rfl) rfl ?_ | refine RunL.load1R rfl (by assumption) (by rfl) agg29 (Wt.none rfl) rfl ?_
        refine RunL.pure (Pure.sliceFrom rfl rfl und29 sz5 (by first | omega | (simp; done) | (simp; omega)) (by first | omega | (simp; done) | (simp; omega))) (Wt.none rfl) rfl rfl ?_
        refine RunL.cutB 1 (by first | ((repeat (first | (with_reducible exact F0 _) | apply F1)); done) | (repeat (first | exact F0 _ | apply F1))) (by simp) ?_
        rw [show (c0 :: bs0).length - (1 : Int).toNat = ((c0 :: bs0).drop 1).length from by simp]
        refine RunL.pure (Pure.nilCheck rfl) (Wt.none rfl) rfl rfl ?_
        refine RunL.pure (Pure.fieldAddr rfl fo85_0) (Wt.none rfl) rfl rfl ?_
        refine RunL.store1 rfl rfl (by first | ((repeat (first | (with_reducible exact F0 _) | apply F1)); done) | (repeat (first | exact F0 _ | apply F1))) sz29 (by rfl) (by simp) (Wt.none rfl) ?_
        try simp only [List.set_cons_zero, List.set_cons_succ]
        refine RunL.nil ?_
        refine Run.sr ?_
        refine RunL.mv rfl rfl ?_
        refine RunL.pure (Pure.eql rfl rfl) (Wt.none rfl) rfl rfl ?_
        refine RunL.as rfl rfl ?_
        refine RunL.nil ?_
        refine Run.mkRd (bs := (c0 :: bs0).drop 1) (by repeat (first | (with_reducible exact Take.nil _) | (apply Take.cons (by first | ((repeat (first | (with_reducible exact F0 _) | apply F1)); done) | (repeat (first | exact F0 _ | apply F1)))))) ?_
        rw [show (c0 :: bs0).drop 1 = bs0 from rfl]
        exact Run.ret Try.func45 (res1 rfl rfl) (by exact ⟨by rw [rdFlag_ok (by omega), ← beq_nat1], by rw [rdFlag_ok (by omega)]⟩) (by repeat (first | (with_reducible exact Fin.done (by repeat (first | (with_reducible exact Rest.here) | apply Rest.there))) | (apply Fin.cons (by first | ((repeat (first | (with_reducible exact F0 _) | apply F1)); done) | (repeat (first | exact F0 _ | apply F1))))))

set_option maxRecDepth 100000 in
theorem RdText_ctr {G : Gp} {p : Nat} {bs : List UInt8} {er : Int} {most : Int} (hbe : er ≠ 0 → bs = []) (hb : bs.length ≤ 1000000) :
    Ctr Try.prog G 46 [.pointer (some ⟨p, 0, none⟩), .int .i64 most] [Rd p bs er] (fun F v A => ∃ s, v = .string s ∧ bl s = (rdText most bs er).1 ∧ A = Rd p (rdText most bs er).2.1 (rdText most bs er).2.2 :: F) := by
  refine Ctr.intro Try.func46 rfl (by kernel_rfl) rfl (fun F => ?_)
  simp only [List.cons_append, List.nil_append]
  refine Run.sr ?_
  refine RunL.as rfl rfl ?_
  refine RunL.nil ?_
  refine Run.sr ?_
  refine RunL.mv rfl rfl ?_
  refine RunL.call rfl rfl (by rfl) (by repeat (first | (with_reducible exact Take.nil _) | (apply Take.cons (by first | ((repeat (first | (with_reducible exact F0 _) | apply F1)); done) | (repeat (first | exact F0 _ | apply F1)))))) (RdNumber_ctr hbe hb) (Wt.none rfl) rfl ?_
  rintro _ _ ⟨rfl, hA_⟩
  replace hA_ := hA_.symm; subst hA_
  obtain ⟨hq1, hq2, hq3, hq4⟩ := rdNum_inv hbe
  generalize hn1 : (rdNum bs er).1 = n1 at *
  generalize hb1 : (rdNum bs er).2.1 = bs1 at *
  generalize he1 : (rdNum bs er).2.2 = er1 at *
  refine RunL.openRd (by first | ((repeat (first | (with_reducible exact F0 _) | apply F1)); done) | (repeat (first | exact F0 _ | apply F1))) ?_; intro a cap
  refine RunL.as rfl rfl ?_
  refine RunL.nil ?_
  refine Run.seq ?_
  refine Run.block ?_
  refine Run.sr ?_
  refine RunL.mv rfl rfl ?_
  refine RunL.pure (Pure.nilCheck rfl) (Wt.none rfl) rfl rfl ?_
  refine RunL.pure (Pure.fieldAddr rfl fo85_1) (Wt.none rfl) rfl rfl ?_
  first | refine RunL.load1 rfl (by first | ((repeat (first | (with_reducible exact F0 _) | apply F1)); done) | (repeat (first | exact F0 _ | apply F1))) (by rfl) agg30 (Wt.none rfl) rfl ?_ | refine RunL.load1R rfl (by assumption) (by rfl) agg30 (Wt.none rfl) rfl ?_
  refine RunL.pure (Pure.neq rfl rfl) (Wt.none rfl) rfl rfl ?_
  refine RunL.as rfl rfl ?_
  refine RunL.nil ?_
  refine Run.cond rfl (fun h0 => ?_) (fun h0 => ?_)
  · try simp only [ZA, ZB, ZC, ZD, ZE, ZF, ZG, ZH, ZI, ZJ, ZK, ZL, ZM, ZN, ZO, ZP, ZQ, ZR] at h0
    refine Run.sr ?_
    refine RunL.as rfl rfl ?_
    refine RunL.nil ?_
    refine Run.mkRd (a := a) (cap := cap) (bs := bs1) (by repeat (first | (with_reducible exact Take.nil _) | (apply Take.cons (by first | ((repeat (first | (with_reducible exact F0 _) | apply F1)); done) | (repeat (first | exact F0 _ | apply F1)))))) ?_
    exact Run.ret Try.func46 (res1 rfl rfl) (by exact ⟨_, rfl, by rw [rdText_er (by rw [he1]; exact h0)]; rfl, by rw [rdText_er (by rw [he1]; exact h0), hb1, he1]⟩) (by repeat (first | (with_reducible exact Fin.done (by repeat (first | (with_reducible exact Rest.here) | apply Rest.there))) | (apply Fin.cons (by first | ((repeat (first | (with_reducible exact F0 _) | apply F1)); done) | (repeat (first | exact F0 _ | apply F1))))))
  · try simp only [ZA, ZB, ZC, ZD, ZE, ZF, ZG, ZH, ZI, ZJ, ZK, ZL, ZM, ZN, ZO, ZP, ZQ, ZR] at h0
    obtain rfl : er1 = 0 := h0
    refine Run.sr ?_
    refine RunL.mv rfl rfl ?_
    refine RunL.mv rfl rfl ?_
    refine RunL.pure (Pure.gtr rfl rfl) (Wt.none rfl) rfl rfl ?_
    refine RunL.as rfl rfl ?_
    refine RunL.nil ?_
    refine Run.cond rfl (fun h1 => ?_) (fun h1 => ?_)
    · try simp only [ZA, ZB, ZC, ZD, ZE, ZF, ZG, ZH, ZI, ZJ, ZK, ZL, ZM, ZN, ZO, ZP, ZQ, ZR] at h1
      refine Run.mkRd (a := a) (cap := cap) (bs := bs1) (by repeat (first | (with_reducible exact Take.nil _) | (apply Take.cons (by first | ((repeat (first | (with_reducible exact F0 _) | apply F1)); done) | (repeat (first | exact F0 _ | apply F1)))))) ?_
      refine Run.sr ?_
      refine RunL.mv rfl rfl ?_
      refine RunL.call rfl rfl (by rfl) (by repeat (first | (with_reducible exact Take.nil _) | (apply Take.cons (by first | ((repeat (first | (with_reducible exact F0 _) | apply F1)); done) | (repeat (first | exact F0 _ | apply F1)))))) (fail_ctr (fun h => absurd rfl h)) (Wt.none rfl) rfl ?_
      rintro _ _ ⟨rfl, hA_⟩
      replace hA_ := hA_.symm; subst hA_
      refine RunL.nil ?_
      refine Run.sr ?_
      refine RunL.as rfl rfl ?_
      refine RunL.nil ?_
      rw [if_pos rfl]
      exact Run.ret Try.func46 (res1 rfl rfl) (by exact ⟨_, rfl, by rw [rdText_form (by omega) (by omega)]; rfl, by rw [rdText_form (by omega) (by omega)]⟩) (by repeat (first | (with_reducible exact Fin.done (by repeat (first | (with_reducible exact Rest.here) | apply Rest.there))) | (apply Fin.cons (by first | ((repeat (first | (with_reducible exact F0 _) | apply F1)); done) | (repeat (first | exact F0 _ | apply F1))))))
    · try simp only [ZA, ZB, ZC, ZD, ZE, ZF, ZG, ZH, ZI, ZJ, ZK, ZL, ZM, ZN, ZO, ZP, ZQ, ZR] at h1
      refine Run.sr ?_
      refine RunL.mv rfl rfl ?_
      refine RunL.mv rfl rfl ?_
      refine RunL.pure (Pure.nilCheck rfl) (Wt.none rfl) rfl rfl ?_
      refine RunL.pure (Pure.fieldAddr rfl fo85_0) (Wt.none rfl) rfl rfl ?_
      first | refine RunL.load1 rfl (by first | ((repeat (first | (with_reducible exact F0 _) | apply F1)); done) | (repeat (first | exact F0 _ | apply F1))) (by rfl) agg29 (Wt.none rfl) rfl ?_ | refine RunL.load1R rfl (by assumption) (by rfl) agg29 (Wt.none rfl) rfl ?_
      refine RunL.pure (Pure.lenSl rfl rfl und29) (Wt.none rfl) rfl rfl ?_
      refine RunL.pure (Pure.gtr rfl rfl) (Wt.none rfl) rfl rfl ?_
      refine RunL.as rfl rfl ?_
      refine RunL.nil ?_
      refine Run.cond rfl (fun h2 => ?_) (fun h2 => ?_)
      · try simp only [ZA, ZB, ZC, ZD, ZE, ZF, ZG, ZH, ZI, ZJ, ZK, ZL, ZM, ZN, ZO, ZP, ZQ, ZR] at h2
        refine Run.mkRd (a := a) (cap := cap) (bs := bs1) (by repeat (first | (with_reducible exact Take.nil _) | (apply Take.cons (by first | ((repeat (first | (with_reducible exact F0 _) | apply F1)); done) | (repeat (first | exact F0 _ | apply F1)))))) ?_
        refine Run.sr ?_
        refine RunL.mv rfl rfl ?_
        refine RunL.call rfl rfl (by rfl) (by repeat (first | (with_reducible exact Take.nil _) | (apply Take.cons (by first | ((repeat (first | (with_reducible exact F0 _) | apply F1)); done) | (repeat (first | exact F0 _ | apply F1)))))) (fail_ctr (fun h => absurd rfl h)) (Wt.none rfl) rfl ?_
        rintro _ _ ⟨rfl, hA_⟩
        replace hA_ := hA_.symm; subst hA_
        refine RunL.nil ?_
        refine Run.sr ?_
        refine RunL.as rfl rfl ?_
        refine RunL.nil ?_
        rw [if_pos rfl]
        exact Run.ret Try.func46 (res1 rfl rfl) (by exact ⟨_, rfl, by rw [rdText_short (by omega) (by omega) (by rw [hn1, hb1]; omega)]; rfl, by rw [rdText_short (by omega) (by omega) (by rw [hn1, hb1]; omega)]⟩) (by repeat (first | (with_reducible exact Fin.done (by repeat (first | (with_reducible exact Rest.here) | apply Rest.there))) | (apply Fin.cons (by first | ((repeat (first | (with_reducible exact F0 _) | apply F1)); done) | (repeat (first | exact F0 _ | apply F1))))))
      · try simp only [ZA, ZB, ZC, ZD, ZE, ZF, ZG, ZH, ZI, ZJ, ZK, ZL, ZM, ZN, ZO, ZP, ZQ, ZR] at h2
        refine Run.know (fun w s => ((s.find (by first | ((repeat (first | (with_reducible exact F0 _) | apply F1)); done) | (repeat (first | exact F0 _ | apply F1)))).lenB : bs1.length ≤ cap)) (fun hcap => ?_)
        refine Run.skip ?_
        refine Run.inBlock ?_
        refine Run.sr ?_
        refine RunL.mv rfl rfl ?_
        refine RunL.pure (Pure.nilCheck rfl) (Wt.none rfl) rfl rfl ?_
        refine RunL.pure (Pure.fieldAddr rfl fo85_0) (Wt.none rfl) rfl rfl ?_
        first | refine RunL.load1 rfl (by first | ((repeat (first | (with_reducible exact F0 _) | apply F1)); done) | (repeat (first | exact F0 _ | apply F1))) (by rfl) agg29 (Wt.none rfl) rfl ?_ | refine RunL.load1R rfl (by assumption) (by rfl) agg29 (Wt.none rfl) rfl ?_
        refine RunL.mv rfl rfl ?_
        refine RunL.pure (Pure.sliceTo rfl rfl und29 sz5 (by first | omega | (simp; done) | (simp; omega)) (by first | omega | (simp; done) | (simp; omega))) (Wt.none rfl) rfl rfl ?_
        refine RunL.bytesStr rfl und29 und5 und9 (fun w sw => (sw.find (by first | ((repeat (first | (with_reducible exact F0 _) | apply F1)); done) | (repeat (first | exact F0 _ | apply F1)))).srcTakeB n1.toNat (by omega)) (Wt.none rfl) rfl ?_
        refine RunL.as rfl rfl ?_
        refine RunL.nil ?_
        refine Run.sr ?_
        refine RunL.mv rfl rfl ?_
        refine RunL.mv rfl rfl ?_
        refine RunL.pure (Pure.nilCheck rfl) (Wt.none rfl) rfl rfl ?_
        refine RunL.pure (Pure.fieldAddr rfl fo85_0) (Wt.none rfl) rfl rfl ?_
        first | refine RunL.load1 rfl (by first | ((repeat (first | (with_reducible exact F0 _) | apply F1)); done) | (repeat (first | exact F0 _ | apply F1))) (by rfl) agg29 (Wt.none rfl) rfl ?_ | refine RunL.load1R rfl (by assumption) (by rfl) agg29 (Wt.none rfl) rfl ?_
        refine RunL.mv rfl rfl ?_
        refine RunL.pure (Pure.sliceFrom rfl rfl und29 sz5 (by first | omega | (simp; done) | (simp; omega)) (by first | omega | (simp; done) | (simp; omega))) (Wt.none rfl) rfl rfl ?_
        refine RunL.cutB n1.toNat (by first | ((repeat (first | (with_reducible exact F0 _) | apply F1)); done) | (repeat (first | exact F0 _ | apply F1))) (by omega) ?_
        rw [show bs1.length - n1.toNat = (bs1.drop n1.toNat).length from by simp]
        refine RunL.pure (Pure.nilCheck rfl) (Wt.none rfl) rfl rfl ?_
        refine RunL.pure (Pure.fieldAddr rfl fo85_0) (Wt.none rfl) rfl rfl ?_
        refine RunL.store1 rfl rfl (by first | ((repeat (first | (with_reducible exact F0 _) | apply F1)); done) | (repeat (first | exact F0 _ | apply F1))) sz29 (by rfl) (by simp) (Wt.none rfl) ?_
        try simp only [List.set_cons_zero, List.set_cons_succ]
        refine RunL.nil ?_
        refine Run.sr ?_
        refine RunL.mv rfl rfl ?_
        refine RunL.as rfl rfl ?_
        refine RunL.nil ?_
        refine Run.mkRd (bs := bs1.drop n1.toNat) (by repeat (first | (with_reducible exact Take.nil _) | (apply Take.cons (by first | ((repeat (first | (with_reducible exact F0 _) | apply F1)); done) | (repeat (first | exact F0 _ | apply F1)))))) ?_
        exact Run.ret Try.func46 (res1 rfl rfl) (by exact ⟨_, rfl, by rw [rdText_ok (by omega) (by omega) (by rw [hn1, hb1]; omega), hn1, hb1]; rfl, by rw [rdText_ok (by omega) (by omega) (by rw [hn1, hb1]; omega), hn1, hb1]⟩) (by repeat (first | (with_reducible exact Fin.done (by repeat (first | (with_reducible exact Rest.here) | apply Rest.there))) | (apply Fin.cons (by first | ((repeat (first | (with_reducible exact F0 _) | apply F1)); done) | (repeat (first | exact F0 _ | apply F1))))))

set_option maxRecDepth 100000 in
theorem Read_ctr {G : Gp} {a : Option Addr} {bs : List UInt8} {cap : Nat} (h : SlR G 5 1 a bs.length (bs.map bv)) (hb : bs.length ≤ 1000000) :
    Ctr Try.prog G 44 [.slice a bs.length cap] [] (fun F v A => ∃ p, v = .pointer (some ⟨p, 0, none⟩) ∧ A = Rd p bs 0 :: F) := by
  refine Ctr.intro Try.func44 rfl (by kernel_rfl) rfl (fun F => ?_)
  simp only [List.nil_append]
  refine Run.sr ?_
  refine RunL.as rfl rfl ?_
  refine RunL.nil ?_
  refine Run.sr ?_
  refine RunL.mv rfl rfl ?_
  refine RunL.append0 rfl rfl rfl rfl und29 und29 rfl sz5 zz5 rfl by5 (by omega) (by omega) (fun w sw => h.src sw) (Wt.none rfl) rfl ?_; intro a1 c1
  refine RunL.pure (Pure.buildL (ps := [(0, _)]) (zs := [(.slice none 0 0), (.int .i64 0)]) (xs := [_, _]) pl85 rfl rfl rfl rfl) (Wt.none rfl) rfl rfl ?_
  refine RunL.box rfl (Wt.none rfl) rfl ?_; intro b6
  refine RunL.as rfl rfl ?_
  refine RunL.nil ?_
  refine Run.mkRd (bs := bs) (by repeat (first | (with_reducible exact Take.nil _) | (apply Take.cons (by first | ((repeat (first | (with_reducible exact F0 _) | apply F1)); done) | (repeat (first | exact F0 _ | apply F1)))))) ?_
  exact Run.ret Try.func44 (res1 rfl rfl) (by exact ⟨_, rfl, rfl⟩) (by repeat (first | (with_reducible exact Fin.done (by repeat (first | (with_reducible exact Rest.here) | apply Rest.there))) | (apply Fin.cons (by first | ((repeat (first | (with_reducible exact F0 _) | apply F1)); done) | (repeat (first | exact F0 _ | apply F1))))))

end Go.Proofs.Ytbgjfpaigndbmaa
