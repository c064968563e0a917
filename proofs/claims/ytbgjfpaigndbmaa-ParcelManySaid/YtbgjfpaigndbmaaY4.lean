/- The reference's reader. -/
import Derived.Test.YtbgjfpaigndbmaaY3
set_option linter.unusedVariables false
set_option linter.unusedSimpArgs false
set_option linter.unusedSectionVars false
namespace Go.Proofs.Ytbgjfpaigndbmaa
open Go Csl


namespace Csl
def RgOk (er : Int) (bs B : List UInt8) (I : Nat) : Prop := I ≤ B.length ∧ bs = (if er = 0 then B.drop I else []) ∧ B.length ≤ 1000000
/-- The reference's reader: what is left, the first error. -/
def Rg (g : Gp) (p : Nat) (bs : List UInt8) (er : Int) : HProp := Ex (fun x : Option Addr × Nat × List UInt8 × Nat => RgOk er bs x.2.2.1 x.2.2.2 ∧ SlR g 5 1 x.1 x.2.2.1.length (x.2.2.1.map bv) ∧ x.2.2.1.length ≤ x.2.1) (fun x => [row p 79 [.slice x.1 x.2.2.1.length x.2.1, .int .i64 x.2.2.2, .int .i64 er]])
section
variable {c : Cx} {G g : Gp} {ops : Array Oper} {k : KT} {e : Env} {A A' : List HProp} {l : List Oper} {st : List Item} {p : Nat} {bs B : List UInt8} {er : Int} {I : Nat}
theorem Run.openRg (hf : Find (Rg g p bs er) A A') (next : ∀ a cap B I, RgOk er bs B I → (SlR g 5 1 a B.length (B.map bv) ∧ B.length ≤ cap) → Run c G st e (row p 79 [.slice a B.length cap, .int .i64 I, .int .i64 er] :: A')) : Run c G st e A := Run.openEx hf fun x h => next x.1 x.2.1 x.2.2.1 x.2.2.2 h.1 h.2
theorem RunL.openRg (hf : Find (Rg g p bs er) A A') (next : ∀ a cap B I, RgOk er bs B I → (SlR g 5 1 a B.length (B.map bv) ∧ B.length ≤ cap) → RunL c G ops l k e (row p 79 [.slice a B.length cap, .int .i64 I, .int .i64 er] :: A')) : RunL c G ops l k e A := RunL.openEx hf fun x h => next x.1 x.2.1 x.2.2.1 x.2.2.2 h.1 h.2
theorem Run.mkRg {a : Option Addr} {cap : Nat} (ht : Take [row p 79 [.slice a B.length cap, .int .i64 I, .int .i64 er]] A A') (h : RgOk er bs B I) (hs : SlR g 5 1 a B.length (B.map bv) ∧ B.length ≤ cap) (next : Run c G st e (Rg g p bs er :: A')) : Run c G st e A := Run.mkEx (a, cap, B, I) ht ⟨h, hs⟩ next
theorem RunL.mkRg {a : Option Addr} {cap : Nat} (ht : Take [row p 79 [.slice a B.length cap, .int .i64 I, .int .i64 er]] A A') (h : RgOk er bs B I) (hs : SlR g 5 1 a B.length (B.map bv) ∧ B.length ≤ cap) (next : RunL c G ops l k e (Rg g p bs er :: A')) : RunL c G ops l k e A := RunL.mkEx (a, cap, B, I) ht ⟨h, hs⟩ next
theorem Lends.Rg : Lends (Rg g p bs er) (fun G => ∃ a cap B I, RgOk er bs B I ∧ Ro G p 79 [.slice a B.length cap, .int .i64 (I : Nat), .int .i64 er]) := Lends.of fun G h q d => by
  obtain ⟨x, ⟨hx, _⟩, h1, h2, d', rfl, r, _⟩ := q
  exact ⟨x.1, x.2.1, x.2.2.1, x.2.2.2, hx, Ro.in_join d (Ro.of_row r (Hp.disj_join.1 d).1)⟩
theorem RgOk.err (h : RgOk er bs B I) (h0 : er ≠ 0) : bs = [] := by rw [h.2.1, if_neg h0]
theorem RgOk.fail (h : RgOk er bs B I) {x : Int} (hx : x ≠ 0) : RgOk (if er = 0 then x else er) [] B I := by
  refine ⟨h.1, ?_, h.2.2⟩
  by_cases h0 : er = 0
  · rw [if_pos h0, if_neg hx]
  · rw [if_neg h0, if_neg h0]
theorem RgOk.at (h : RgOk 0 bs B I) (j : Nat) : bs.getD j 0 = B.getD (I + j) 0 := by
  rw [h.2.1, if_pos rfl]; simp [List.getD_eq_getElem?_getD, List.getElem?_drop]
theorem RgOk.len (h : RgOk 0 bs B I) : bs.length = B.length - I := by rw [h.2.1, if_pos rfl]; simp
theorem RgOk.on (h : RgOk 0 bs B I) (j : Nat) (hj : j ≤ bs.length) : RgOk 0 (bs.drop j) B (I + j) := by
  have h1 := h.len; have h2 := h.1
  refine ⟨by omega, ?_, h.2.2⟩
  rw [if_pos rfl, h.2.1, if_pos rfl, List.drop_drop]
end
theorem val_drop {bs : List UInt8} {k i : Nat} (hk : k < bs.length) (hi : i ≤ k) : val ((bs.take (k + 1)).drop i) = (bs.getD i 0).toNat % 128 + 128 * val ((bs.take (k + 1)).drop (i + 1)) := by
  have hl : i < (bs.take (k + 1)).length := by simp; omega
  rw [List.drop_eq_getElem_cons hl, val]
  simp [List.getD_eq_getElem?_getD, List.getElem?_eq_getElem (show i < bs.length from by omega)]
theorem val_drop_lt {bs : List UInt8} {k i : Nat} (hk : k < 9) : val ((bs.take (k + 1)).drop i) < 9223372036854775808 := by
  have h1 := val_lt ((bs.take (k + 1)).drop i)
  have h2 : ((bs.take (k + 1)).drop i).length ≤ 9 := by simp; omega
  exact Nat.lt_of_lt_of_le h1 (Nat.le_trans (Nat.pow_le_pow_right (by decide) h2) (by decide))
end Csl

set_option maxRecDepth 100000 in
theorem Rfail_ctr {G : Gp} {p : Nat} {er x : Int} {v1 v2 : Value} :
    Ctr Try.prog G 67 [.pointer (some ⟨p, 0, none⟩), .int .i64 x] [row p 79 [v1, v2, .int .i64 er]] (fun F v A => v = .tuple #[] ∧ A = row p 79 [v1, v2, .int .i64 (if er = 0 then x else er)] :: F) := by
  refine Ctr.intro Try.func67 rfl (by kernel_rfl) rfl (fun F => ?_)
  simp only [List.cons_append, List.nil_append]
  refine Run.sr ?_
  refine RunL.mv rfl rfl ?_
  refine RunL.pure (Pure.nilCheck rfl) (Wt.none rfl) rfl rfl ?_
  refine RunL.pure (Pure.fieldAddr rfl fo79_2) (Wt.none rfl) rfl rfl ?_
  first | refine RunL.load1 rfl (by first | ((repeat (first | (with_reducible exact F0 _) | apply F1)); done) | (repeat (first | exact F0 _ | apply F1))) (by rfl) agg30 (Wt.none rfl) rfl ?_ | refine RunL.load1R rfl (by assumption) (by rfl) agg30 (Wt.none rfl) rfl ?_
  refine RunL.pure (Pure.eql rfl rfl) (Wt.none rfl) rfl rfl ?_
  refine RunL.nil ?_
  refine Run.cond rfl (fun hc1 => ?_) (fun hc1 => ?_)
  · try simp only [ZA, ZB, ZC, ZD, ZE, ZF, ZG, ZH, ZI, ZJ, ZK, ZL, ZM, ZN, ZO, ZP, ZQ, ZR] at hc1
    refine Run.region ?_
    refine RunL.mv rfl rfl ?_
    refine RunL.mv rfl rfl ?_
    refine RunL.pure (Pure.nilCheck rfl) (Wt.none rfl) rfl rfl ?_
    refine RunL.pure (Pure.fieldAddr rfl fo79_2) (Wt.none rfl) rfl rfl ?_
    refine RunL.store1 rfl rfl (by first | ((repeat (first | (with_reducible exact F0 _) | apply F1)); done) | (repeat (first | exact F0 _ | apply F1))) sz30 (by rfl) (by simp) (Wt.none rfl) ?_
    try simp only [List.set_cons_zero, List.set_cons_succ]
    refine RunL.nil ?_
    exact Run.fin Try.func67 (res0 rfl) (by exact ⟨rfl, by rw [if_pos hc1]⟩) (by repeat (first | (with_reducible exact Fin.done (by repeat (first | (with_reducible exact Rest.here) | apply Rest.there))) | (apply Fin.cons (by first | ((repeat (first | (with_reducible exact F0 _) | apply F1)); done) | (repeat (first | exact F0 _ | apply F1))))))
  · try simp only [ZA, ZB, ZC, ZD, ZE, ZF, ZG, ZH, ZI, ZJ, ZK, ZL, ZM, ZN, ZO, ZP, ZQ, ZR] at hc1
    refine Run.skip ?_
    exact Run.fin Try.func67 (res0 rfl) (by exact ⟨rfl, by rw [if_neg hc1]⟩) (by repeat (first | (with_reducible exact Fin.done (by repeat (first | (with_reducible exact Rest.here) | apply Rest.there))) | (apply Fin.cons (by first | ((repeat (first | (with_reducible exact F0 _) | apply F1)); done) | (repeat (first | exact F0 _ | apply F1))))))

set_option maxRecDepth 100000 in
theorem RgEnd_ctr {G : Gp} {p : Nat} {bs : List UInt8} {er : Int} {a : Option Addr} {cap : Nat} {B : List UInt8} {I : Nat} (hok : RgOk er bs B I) (hr : Ro G p 79 [.slice a B.length cap, .int .i64 (I : Nat), .int .i64 er]) :
    Ctr Try.prog G 56 [.pointer (some ⟨p, 0, none⟩)] [] (fun F v A => v = .int .i64 (rdEnd bs er) ∧ A = F) := by
  refine Ctr.intro Try.func56 rfl (by kernel_rfl) rfl (fun F => ?_)
  simp only [List.nil_append]
  have hok1 := hok.1; have hok2 := hok.2.2
  refine Run.sr ?_
  refine RunL.as rfl rfl ?_
  refine RunL.nil ?_
  refine Run.seq ?_
  refine Run.seq ?_
  refine Run.regionD' (by kernel_rfl) (by kernel_rfl) (fun hok5 => ?_)
  refine RunD.pure (i := 0) hok5 rfl (by kernel_rfl) (Pure.move rfl) (Wt.none rfl) rfl rfl ?_
  refine RunD.pure (i := 1) hok5 rfl (by kernel_rfl) (Pure.nilCheck rfl) (Wt.none rfl) rfl rfl ?_
  refine RunD.pure (i := 2) hok5 rfl (by kernel_rfl) (Pure.fieldAddr rfl fo79_2) (Wt.none rfl) rfl rfl ?_
  refine RunD.load1R (i := 3) hok5 rfl (by kernel_rfl) rfl (by assumption) (by rfl) agg30 (Wt.none rfl) rfl ?_
  refine RunD.pure (i := 4) hok5 rfl (by kernel_rfl) (Pure.eql rfl rfl) (Wt.none rfl) rfl rfl ?_
  refine RunD.pure (i := 5) hok5 rfl (by kernel_rfl) (Pure.move rfl) (Wt.none rfl) rfl rfl ?_
  refine RunD.split (d := 8) rfl (fun hc1 => ?_) (fun hc1 => ?_)
  · try simp only [ZA, ZB, ZC, ZD, ZE, ZF, ZG, ZH, ZI, ZJ, ZK, ZL, ZM, ZN, ZO, ZP, ZQ, ZR] at hc1
    obtain rfl : er = 0 := hc1
    have hl := hok.len
    refine RunD.pure (i := 6) hok5 rfl (by kernel_rfl) (Pure.move rfl) (Wt.yes rfl rfl rfl) rfl rfl ?_
    refine RunD.pure (i := 7) hok5 rfl (by kernel_rfl) (Pure.nilCheck rfl) (Wt.yes rfl rfl rfl) rfl rfl ?_
    refine RunD.pure (i := 8) hok5 rfl (by kernel_rfl) (Pure.fieldAddr rfl fo79_1) (Wt.yes rfl rfl rfl) rfl rfl ?_
    refine RunD.load1R (i := 9) hok5 rfl (by kernel_rfl) rfl (by assumption) (by rfl) agg3 (Wt.yes rfl rfl rfl) rfl ?_
    refine RunD.pure (i := 10) hok5 rfl (by kernel_rfl) (Pure.move rfl) (Wt.yes rfl rfl rfl) rfl rfl ?_
    refine RunD.pure (i := 11) hok5 rfl (by kernel_rfl) (Pure.nilCheck rfl) (Wt.yes rfl rfl rfl) rfl rfl ?_
    refine RunD.pure (i := 12) hok5 rfl (by kernel_rfl) (Pure.fieldAddr rfl fo79_0) (Wt.yes rfl rfl rfl) rfl rfl ?_
    refine RunD.load1R (i := 13) hok5 rfl (by kernel_rfl) rfl (by assumption) (by rfl) agg29 (Wt.yes rfl rfl rfl) rfl ?_
    refine RunD.pure (i := 14) hok5 rfl (by kernel_rfl) (Pure.lenSl rfl rfl und29) (Wt.yes rfl rfl rfl) rfl rfl ?_
    refine RunD.pure (i := 15) hok5 rfl (by kernel_rfl) (Pure.lss rfl rfl) (Wt.yes rfl rfl rfl) rfl rfl ?_
    refine RunD.pure (i := 16) hok5 rfl (by kernel_rfl) (Pure.pickT rfl rfl) (Wt.none rfl) rfl rfl ?_
    refine RunD.nilR (by kernel_rfl) ?_
    refine Run.cond rfl (fun hc2 => ?_) (fun hc2 => ?_)
    · try simp only [ZA, ZB, ZC, ZD, ZE, ZF, ZG, ZH, ZI, ZJ, ZK, ZL, ZM, ZN, ZO, ZP, ZQ, ZR] at hc2
      refine Run.sr ?_
      refine RunL.as rfl rfl ?_
      refine RunL.nil ?_
      exact Run.ret Try.func56 (res1 rfl rfl) (by exact ⟨by rw [rdEnd, if_pos ⟨rfl, by omega⟩], rfl⟩) (by repeat (first | (with_reducible exact Fin.done (by repeat (first | (with_reducible exact Rest.here) | apply Rest.there))) | (apply Fin.cons (by first | ((repeat (first | (with_reducible exact F0 _) | apply F1)); done) | (repeat (first | exact F0 _ | apply F1))))))
    · try simp only [ZA, ZB, ZC, ZD, ZE, ZF, ZG, ZH, ZI, ZJ, ZK, ZL, ZM, ZN, ZO, ZP, ZQ, ZR] at hc2
      refine Run.skip ?_
      refine Run.sr ?_
      refine RunL.mv rfl rfl ?_
      refine RunL.pure (Pure.nilCheck rfl) (Wt.none rfl) rfl rfl ?_
      refine RunL.pure (Pure.fieldAddr rfl fo79_2) (Wt.none rfl) rfl rfl ?_
      first | refine RunL.load1 rfl (by first | ((repeat (first | (with_reducible exact F0 _) | apply F1)); done) | (repeat (first | exact F0 _ | apply F1))) (by rfl) agg30 (Wt.none rfl) rfl ?_ | refine RunL.load1R rfl (by assumption) (by rfl) agg30 (Wt.none rfl) rfl ?_
      refine RunL.as rfl rfl ?_
      refine RunL.nil ?_
      exact Run.ret Try.func56 (res1 rfl rfl) (by exact ⟨by rw [rdEnd, if_neg (by omega)], rfl⟩) (by repeat (first | (with_reducible exact Fin.done (by repeat (first | (with_reducible exact Rest.here) | apply Rest.there))) | (apply Fin.cons (by first | ((repeat (first | (with_reducible exact F0 _) | apply F1)); done) | (repeat (first | exact F0 _ | apply F1))))))
  · try simp only [ZA, ZB, ZC, ZD, ZE, ZF, ZG, ZH, ZI, ZJ, ZK, ZL, ZM, ZN, ZO, ZP, ZQ, ZR] at hc1
    refine RunD.not (i := 6) hok5 rfl (by kernel_rfl) rfl rfl (Wt.no rfl rfl rfl) ?_
    refine RunD.not (i := 7) hok5 rfl (by kernel_rfl) rfl rfl (Wt.no rfl rfl rfl) ?_
    refine RunD.not (i := 8) hok5 rfl (by kernel_rfl) rfl rfl (Wt.no rfl rfl rfl) ?_
    refine RunD.not (i := 9) hok5 rfl (by kernel_rfl) rfl rfl (Wt.no rfl rfl rfl) ?_
    refine RunD.not (i := 10) hok5 rfl (by kernel_rfl) rfl rfl (Wt.no rfl rfl rfl) ?_
    refine RunD.not (i := 11) hok5 rfl (by kernel_rfl) rfl rfl (Wt.no rfl rfl rfl) ?_
    refine RunD.not (i := 12) hok5 rfl (by kernel_rfl) rfl rfl (Wt.no rfl rfl rfl) ?_
    refine RunD.not (i := 13) hok5 rfl (by kernel_rfl) rfl rfl (Wt.no rfl rfl rfl) ?_
    refine RunD.not (i := 14) hok5 rfl (by kernel_rfl) rfl rfl (Wt.no rfl rfl rfl) ?_
    refine RunD.not (i := 15) hok5 rfl (by kernel_rfl) rfl rfl (Wt.no rfl rfl rfl) ?_
    refine RunD.pure (i := 16) hok5 rfl (by kernel_rfl) (Pure.pickF rfl rfl) (Wt.none rfl) rfl rfl ?_
    refine RunD.nilR (by kernel_rfl) ?_
    refine Run.condF rfl ?_
    refine Run.skip ?_
    refine Run.sr ?_
    refine RunL.mv rfl rfl ?_
    refine RunL.pure (Pure.nilCheck rfl) (Wt.none rfl) rfl rfl ?_
    refine RunL.pure (Pure.fieldAddr rfl fo79_2) (Wt.none rfl) rfl rfl ?_
    first | refine RunL.load1 rfl (by first | ((repeat (first | (with_reducible exact F0 _) | apply F1)); done) | (repeat (first | exact F0 _ | apply F1))) (by rfl) agg30 (Wt.none rfl) rfl ?_ | refine RunL.load1R rfl (by assumption) (by rfl) agg30 (Wt.none rfl) rfl ?_
    refine RunL.as rfl rfl ?_
    refine RunL.nil ?_
    exact Run.ret Try.func56 (res1 rfl rfl) (by exact ⟨by rw [rdEnd, if_neg (fun q => hc1 q.1)], rfl⟩) (by repeat (first | (with_reducible exact Fin.done (by repeat (first | (with_reducible exact Rest.here) | apply Rest.there))) | (apply Fin.cons (by first | ((repeat (first | (with_reducible exact F0 _) | apply F1)); done) | (repeat (first | exact F0 _ | apply F1))))))

set_option maxRecDepth 100000 in
theorem RgNumber_ctr {G g : Gp} (hle0 : g.le G) {p : Nat} {bs : List UInt8} {er : Int} :
    Ctr Try.prog G 54 [.pointer (some ⟨p, 0, none⟩)] [Rg g p bs er] (fun F v A => v = .int .i64 (rdNum bs er).1 ∧ A = Rg g p (rdNum bs er).2.1 (rdNum bs er).2.2 :: F) := by
  refine Ctr.intro Try.func54 rfl (by kernel_rfl) rfl (fun F => ?_)
  simp only [List.cons_append, List.nil_append]
  refine Run.openRg (by first | ((repeat (first | (with_reducible exact F0 _) | apply F1)); done) | (repeat (first | exact F0 _ | apply F1))) ?_; intro a cap B I hok hsg
  have hs0 := hsg.1.mono hle0; have hs2 := hs0; have hc2 := hsg.2
  have hok1 := hok.1; have hok2 := hok.2.2
  refine Run.sr ?_
  refine RunL.as rfl rfl ?_
  refine RunL.nil ?_
  refine Run.seq ?_
  refine Run.sr ?_
  refine RunL.mv rfl rfl ?_
  refine RunL.pure (Pure.nilCheck rfl) (Wt.none rfl) rfl rfl ?_
  refine RunL.pure (Pure.fieldAddr rfl fo79_2) (Wt.none rfl) rfl rfl ?_
  first | refine RunL.load1 rfl (by first | ((repeat (first | (with_reducible exact F0 _) | apply F1)); done) | (repeat (first | exact F0 _ | apply F1))) (by rfl) agg30 (Wt.none rfl) rfl ?_ | refine RunL.load1R rfl (by assumption) (by rfl) agg30 (Wt.none rfl) rfl ?_
  refine RunL.pure (Pure.neq rfl rfl) (Wt.none rfl) rfl rfl ?_
  refine RunL.nil ?_
  refine Run.cond rfl (fun hc1 => ?_) (fun hc1 => ?_)
  · try simp only [ZA, ZB, ZC, ZD, ZE, ZF, ZG, ZH, ZI, ZJ, ZK, ZL, ZM, ZN, ZO, ZP, ZQ, ZR] at hc1
    obtain rfl := hok.err hc1
    refine Run.sr ?_
    refine RunL.as rfl rfl ?_
    refine RunL.nil ?_
    refine Run.mkRg (B := B) (I := I) (by repeat (first | (with_reducible exact Take.nil _) | (apply Take.cons (by first | ((repeat (first | (with_reducible exact F0 _) | apply F1)); done) | (repeat (first | exact F0 _ | apply F1)))))) hok hsg ?_
    exact Run.ret Try.func54 (res1 rfl rfl) (by exact ⟨by rw [rdNum, if_pos hc1], by rw [rdNum, if_pos hc1]⟩) (by repeat (first | (with_reducible exact Fin.done (by repeat (first | (with_reducible exact Rest.here) | apply Rest.there))) | (apply Fin.cons (by first | ((repeat (first | (with_reducible exact F0 _) | apply F1)); done) | (repeat (first | exact F0 _ | apply F1))))))
  · try simp only [ZA, ZB, ZC, ZD, ZE, ZF, ZG, ZH, ZI, ZJ, ZK, ZL, ZM, ZN, ZO, ZP, ZQ, ZR] at hc1
    obtain rfl : er = 0 := hc1
    have hlen := hok.len
    refine Run.skip ?_
    refine Run.sr ?_
    refine RunL.as rfl rfl ?_
    refine RunL.nil ?_
    refine Run.seq ?_
    refine Run.cut (fun e A => ∃ k : Nat, lead bs = k ∧ k ≤ 9 ∧ k ≤ bs.length ∧ e = [(0, .pointer (some ⟨p, 0, none⟩)), (3, .int .i64 (k : Nat))] ∧ A = row p 79 [.slice a B.length cap, .int .i64 I, .int .i64 0] :: F) (fun e A hM => ?_) (fun hk => ?_)
    · obtain ⟨k, rfl, hk9, hkl, rfl, rfl⟩ := hM
      refine Run.seq ?_
      refine Run.sr ?_
      refine RunL.mv rfl rfl ?_
      refine RunL.pure (Pure.eql rfl rfl) (Wt.none rfl) rfl rfl ?_
      refine RunL.nil ?_
      refine Run.cond rfl (fun h9 => ?_) (fun h9 => ?_)
      · try simp only [ZA, ZB, ZC, ZD, ZE, ZF, ZG, ZH, ZI, ZJ, ZK, ZL, ZM, ZN, ZO, ZP, ZQ, ZR] at h9
        refine Run.sr ?_
        refine RunL.mv rfl rfl ?_
        refine RunL.call rfl rfl (by rfl) (by repeat (first | (with_reducible exact Take.nil _) | (apply Take.cons (by first | ((repeat (first | (with_reducible exact F0 _) | apply F1)); done) | (repeat (first | exact F0 _ | apply F1)))))) (Rfail_ctr) (Wt.none rfl) rfl ?_
        rintro _ _ ⟨rfl, hA_⟩
        replace hA_ := hA_.symm; subst hA_
        refine RunL.nil ?_
        refine Run.sr ?_
        refine RunL.as rfl rfl ?_
        refine RunL.nil ?_
        refine Run.mkRg (B := B) (I := I) (by repeat (first | (with_reducible exact Take.nil _) | (apply Take.cons (by first | ((repeat (first | (with_reducible exact F0 _) | apply F1)); done) | (repeat (first | exact F0 _ | apply F1)))))) (hok.fail (x := 2) (by decide)) hsg ?_
        exact Run.ret Try.func54 (res1 rfl rfl) (by exact ⟨by rw [rdNum_lead9 (by omega)], by rw [rdNum_lead9 (by omega)]; try rfl⟩) (by repeat (first | (with_reducible exact Fin.done (by repeat (first | (with_reducible exact Rest.here) | apply Rest.there))) | (apply Fin.cons (by first | ((repeat (first | (with_reducible exact F0 _) | apply F1)); done) | (repeat (first | exact F0 _ | apply F1))))))
      · try simp only [ZA, ZB, ZC, ZD, ZE, ZF, ZG, ZH, ZI, ZJ, ZK, ZL, ZM, ZN, ZO, ZP, ZQ, ZR] at h9
        refine Run.skip ?_
        refine Run.seq ?_
        refine Run.seq ?_
        refine Run.regionD' (by kernel_rfl) (by kernel_rfl) (fun hok51 => ?_)
        refine RunD.lend (Q := row p 79 _) Lends.row (by first | ((repeat (first | (with_reducible exact F0 _) | apply F1)); done) | (repeat (first | exact F0 _ | apply F1))) ?_; intro g1 hleg1 hr1 backg1
        have hs2 := hs0.mono hleg1
        refine RunD.pure (i := 0) hok51 rfl (by kernel_rfl) (Pure.move rfl) (Wt.none rfl) rfl rfl ?_
        refine RunD.pure (i := 1) hok51 rfl (by kernel_rfl) (Pure.nilCheck rfl) (Wt.none rfl) rfl rfl ?_
        refine RunD.pure (i := 2) hok51 rfl (by kernel_rfl) (Pure.fieldAddr rfl fo79_1) (Wt.none rfl) rfl rfl ?_
        refine RunD.load1R (i := 3) hok51 rfl (by kernel_rfl) rfl (by assumption) (by rfl) agg3 (Wt.none rfl) rfl ?_
        refine RunD.pure (i := 4) hok51 rfl (by kernel_rfl) (Pure.move rfl) (Wt.none rfl) rfl rfl ?_
        first | refine RunD.pure (i := 5) hok51 rfl (by kernel_rfl) (Pure.addI rfl rfl (by omega)) (Wt.none rfl) rfl rfl ?_ | refine RunD.pure (i := 5) hok51 rfl (by kernel_rfl) (Pure.add rfl rfl) (Wt.none rfl) rfl rfl ?_
        refine RunD.pure (i := 6) hok51 rfl (by kernel_rfl) (Pure.move rfl) (Wt.none rfl) rfl rfl ?_
        refine RunD.pure (i := 7) hok51 rfl (by kernel_rfl) (Pure.nilCheck rfl) (Wt.none rfl) rfl rfl ?_
        refine RunD.pure (i := 8) hok51 rfl (by kernel_rfl) (Pure.fieldAddr rfl fo79_0) (Wt.none rfl) rfl rfl ?_
        refine RunD.load1R (i := 9) hok51 rfl (by kernel_rfl) rfl (by assumption) (by rfl) agg29 (Wt.none rfl) rfl ?_
        refine RunD.pure (i := 10) hok51 rfl (by kernel_rfl) (Pure.lenSl rfl rfl und29) (Wt.none rfl) rfl rfl ?_
        refine RunD.pure (i := 11) hok51 rfl (by kernel_rfl) (Pure.eql rfl rfl) (Wt.none rfl) rfl rfl ?_
        refine RunD.nilB (by kernel_rfl) (fun w sw => backg1 _ _ (sw)) ?_
        refine Run.cond rfl (fun hshort => ?_) (fun hshort => ?_)
        · try simp only [ZA, ZB, ZC, ZD, ZE, ZF, ZG, ZH, ZI, ZJ, ZK, ZL, ZM, ZN, ZO, ZP, ZQ, ZR] at hshort
          refine Run.sr ?_
          refine RunL.mv rfl rfl ?_
          refine RunL.call rfl rfl (by rfl) (by repeat (first | (with_reducible exact Take.nil _) | (apply Take.cons (by first | ((repeat (first | (with_reducible exact F0 _) | apply F1)); done) | (repeat (first | exact F0 _ | apply F1)))))) (Rfail_ctr) (Wt.none rfl) rfl ?_
          rintro _ _ ⟨rfl, hA_⟩
          replace hA_ := hA_.symm; subst hA_
          refine RunL.nil ?_
          refine Run.sr ?_
          refine RunL.as rfl rfl ?_
          refine RunL.nil ?_
          refine Run.mkRg (B := B) (I := I) (by repeat (first | (with_reducible exact Take.nil _) | (apply Take.cons (by first | ((repeat (first | (with_reducible exact F0 _) | apply F1)); done) | (repeat (first | exact F0 _ | apply F1)))))) (hok.fail (x := 3) (by decide)) hsg ?_
          exact Run.ret Try.func54 (res1 rfl rfl) (by exact ⟨by rw [rdNum_leadS (by omega) (by omega)], by rw [rdNum_leadS (by omega) (by omega)]; try rfl⟩) (by repeat (first | (with_reducible exact Fin.done (by repeat (first | (with_reducible exact Rest.here) | apply Rest.there))) | (apply Fin.cons (by first | ((repeat (first | (with_reducible exact F0 _) | apply F1)); done) | (repeat (first | exact F0 _ | apply F1))))))
        · try simp only [ZA, ZB, ZC, ZD, ZE, ZF, ZG, ZH, ZI, ZJ, ZK, ZL, ZM, ZN, ZO, ZP, ZQ, ZR] at hshort
          have hl9 : lead bs < 9 := by omega
          have hll : lead bs < bs.length := by omega
          refine Run.skip ?_
          refine Run.sr ?_
          refine RunL.as rfl rfl ?_
          refine RunL.nil ?_
          refine Run.seq ?_
          refine Run.sr ?_
          refine RunL.mv rfl rfl ?_
          refine RunL.as rfl rfl ?_
          refine RunL.nil ?_
          refine Run.block ?_
          refine Run.keep (.cons rfl (.cons rfl (.cons rfl (.cons rfl (.nil)))) : Keep _ [0, 3, 4, 5] _) ?_
          refine Run.loopR (fun n e A => ∃ i : Int, -1 ≤ i ∧ i ≤ lead bs ∧ n = (i + 1).toNat ∧ e = [(0, .pointer (some ⟨p, 0, none⟩)), (3, .int .i64 (lead bs : Nat)), (4, .int .i64 (val ((bs.take (lead bs + 1)).drop (i + 1).toNat) : Nat)), (5, .int .i64 i)] ∧ A = row p 79 [.slice a B.length cap, .int .i64 I, .int .i64 0] :: F) (lead bs + 1) ⟨lead bs, by omega, by omega, by omega, by rw [List.drop_of_length_le (by rw [List.length_take]; omega)]; rfl, rfl⟩ ?_
          rintro n _ _ ⟨i, hi1, hi2, rfl, rfl, rfl⟩ ih
          refine Run.seq ?_
          refine Run.sr ?_
          refine RunL.mv rfl rfl ?_
          refine RunL.pure (Pure.geq rfl rfl) (Wt.none rfl) rfl rfl ?_
          refine RunL.nil ?_
          refine Run.cond rfl (fun hge => ?_) (fun hge => ?_)
          · try simp only [ZA, ZB, ZC, ZD, ZE, ZF, ZG, ZH, ZI, ZJ, ZK, ZL, ZM, ZN, ZO, ZP, ZQ, ZR] at hge
            refine Run.skip ?_
            refine Run.seq ?_
            refine Run.block ?_
            refine Run.regionD' (by kernel_rfl) (by kernel_rfl) (fun hok106 => ?_)
            refine RunD.lend (Q := row p 79 _) Lends.row (by first | ((repeat (first | (with_reducible exact F0 _) | apply F1)); done) | (repeat (first | exact F0 _ | apply F1))) ?_; intro g1 hleg1 hr1 backg1
            have hs2 := hs0.mono hleg1
            have hi0 : 0 ≤ i := by omega
            have hvd := val_drop (bs := bs) (k := lead bs) (i := i.toNat) (by omega) (by omega)
            have hvl := val_drop_lt (bs := bs) (k := lead bs) (i := i.toNat) (by omega)
            have hbi := hok.at i.toNat
            rw [hbi] at hvd
            have hb256 := (B.getD (I + i.toNat) 0).toNat_lt
            rw [show (i + 1).toNat = i.toNat + 1 from by omega]
            obtain ⟨b, T', pre, post, rfl, hro⟩ := hs2.open1 (by omega)
            refine RunD.pure (i := 0) hok106 rfl (by kernel_rfl) (Pure.move rfl) (Wt.none rfl) rfl rfl ?_
            first | refine RunD.pure (i := 1) hok106 rfl (by kernel_rfl) (Pure.mulI rfl rfl (by omega)) (Wt.none rfl) rfl rfl ?_ | refine RunD.pure (i := 1) hok106 rfl (by kernel_rfl) (Pure.mul rfl rfl) (Wt.none rfl) rfl rfl ?_
            refine RunD.pure (i := 2) hok106 rfl (by kernel_rfl) (Pure.move rfl) (Wt.none rfl) rfl rfl ?_
            refine RunD.pure (i := 3) hok106 rfl (by kernel_rfl) (Pure.nilCheck rfl) (Wt.none rfl) rfl rfl ?_
            refine RunD.pure (i := 4) hok106 rfl (by kernel_rfl) (Pure.fieldAddr rfl fo79_0) (Wt.none rfl) rfl rfl ?_
            refine RunD.load1R (i := 5) hok106 rfl (by kernel_rfl) rfl (by assumption) (by rfl) agg29 (Wt.none rfl) rfl ?_
            refine RunD.pure (i := 6) hok106 rfl (by kernel_rfl) (Pure.move rfl) (Wt.none rfl) rfl rfl ?_
            refine RunD.pure (i := 7) hok106 rfl (by kernel_rfl) (Pure.nilCheck rfl) (Wt.none rfl) rfl rfl ?_
            refine RunD.pure (i := 8) hok106 rfl (by kernel_rfl) (Pure.fieldAddr rfl fo79_1) (Wt.none rfl) rfl rfl ?_
            refine RunD.load1R (i := 9) hok106 rfl (by kernel_rfl) rfl (by assumption) (by rfl) agg3 (Wt.none rfl) rfl ?_
            refine RunD.pure (i := 10) hok106 rfl (by kernel_rfl) (Pure.move rfl) (Wt.none rfl) rfl rfl ?_
            first | refine RunD.pure (i := 11) hok106 rfl (by kernel_rfl) (Pure.addI rfl rfl (by omega)) (Wt.none rfl) rfl rfl ?_ | refine RunD.pure (i := 11) hok106 rfl (by kernel_rfl) (Pure.add rfl rfl) (Wt.none rfl) rfl rfl ?_
            refine RunD.pure (i := 12) hok106 rfl (by kernel_rfl) (Pure.indexAddr rfl rfl und29 sz5 (by omega) (by omega)) (Wt.none rfl) rfl rfl ?_
            refine RunD.load1R (i := 13) hok106 rfl (by kernel_rfl) rfl hro (by exact (show _ = some (bv (B.getD (I + i.toNat) 0)) from by rw [show ((I : Int) + i).toNat = I + i.toNat from by omega]; exact cell_at (by omega))) agg5 (Wt.none rfl) rfl ?_
            first | refine RunD.pure (i := 14) hok106 rfl (by kernel_rfl) (Pure.convId und5 und3 rfl (by first | exact wrap_i64 (by omega) (by omega) | exact wrap_u8 (by omega) (by omega) | exact wrap_i32 (by omega) (by omega))) (Wt.none rfl) rfl rfl ?_ | refine RunD.pure (i := 14) hok106 rfl (by kernel_rfl) (Pure.convInt und5 und3 rfl) (Wt.none rfl) rfl rfl ?_
            first | refine RunD.pure (i := 15) hok106 rfl (by kernel_rfl) (Pure.remI rfl rfl (by omega) (by omega)) (Wt.none rfl) rfl rfl ?_ | refine RunD.pure (i := 15) hok106 rfl (by kernel_rfl) (Pure.rem rfl rfl (by omega)) (Wt.none rfl) rfl rfl ?_
            first | refine RunD.pure (i := 16) hok106 rfl (by kernel_rfl) (Pure.addI rfl rfl (by omega)) (Wt.none rfl) rfl rfl ?_ | refine RunD.pure (i := 16) hok106 rfl (by kernel_rfl) (Pure.add rfl rfl) (Wt.none rfl) rfl rfl ?_
            refine RunD.pure (i := 17) hok106 rfl (by kernel_rfl) (Pure.assign rfl) (Wt.none rfl) rfl rfl ?_
            refine RunD.nilB (by kernel_rfl) (fun w sw => backg1 _ _ (sw)) ?_
            refine Run.inBlock ?_
            refine Run.region ?_
            refine RunL.mv rfl rfl ?_
            first | refine RunL.pure (Pure.subI rfl rfl (by omega)) (Wt.none rfl) rfl rfl ?_ | refine RunL.pure (Pure.sub rfl rfl) (Wt.none rfl) rfl rfl ?_
            refine RunL.as rfl rfl ?_
            refine RunL.nil ?_
            refine Run.keep (.cons rfl (.cons rfl (.cons rfl (.cons rfl (.nil)))) : Keep _ [0, 3, 4, 5] _) ?_
            refine ih _ _ _ ?_ ⟨i - 1, by omega, by omega, rfl, by rw [show i - 1 + 1 = i from by omega, hvd, show (128 : Int) * (val ((bs.take (lead bs + 1)).drop (i.toNat + 1)) : Nat) + ((B.getD (I + i.toNat) 0).toNat : Int) % 128 = (((B.getD (I + i.toNat) 0).toNat % 128 + 128 * val ((bs.take (lead bs + 1)).drop (i.toNat + 1)) : Nat) : Int) from by omega], rfl⟩
            omega
          · try simp only [ZA, ZB, ZC, ZD, ZE, ZF, ZG, ZH, ZI, ZJ, ZK, ZL, ZM, ZN, ZO, ZP, ZQ, ZR] at hge
            obtain rfl : i = -1 := by omega
            rw [show ((-1 : Int) + 1).toNat = 0 from rfl, List.drop_zero]
            have hvl := val_drop_lt (bs := bs) (k := lead bs) (i := 0) (by omega)
            rw [List.drop_zero] at hvl
            have h9v := numN_le (val (bs.take (lead bs + 1))) (by omega)
            refine Run.exit rfl ?_
            refine Run.seq ?_
            refine Run.sr ?_
            refine RunL.mv rfl rfl ?_
            refine RunL.call rfl rfl (by rfl) (by repeat (first | (with_reducible exact Take.nil _) | (apply Take.cons (by first | ((repeat (first | (with_reducible exact F0 _) | apply F1)); done) | (repeat (first | exact F0 _ | apply F1)))))) (RNumber_ctr (by omega)) (Wt.none rfl) rfl ?_
            rintro _ _ ⟨a2, c2, rfl, hA_⟩
            replace hA_ := hA_.symm; subst hA_
            rw [show ((val (bs.take (lead bs + 1)) : Nat) : Int).toNat = val (bs.take (lead bs + 1)) from by omega]
            refine RunL.pure (Pure.lenSl rfl rfl und29) (Wt.none rfl) rfl rfl ?_
            refine RunL.mv rfl rfl ?_
            first | refine RunL.pure (Pure.addI rfl rfl (by omega)) (Wt.none rfl) rfl rfl ?_ | refine RunL.pure (Pure.add rfl rfl) (Wt.none rfl) rfl rfl ?_
            refine RunL.pure (Pure.neq rfl rfl) (Wt.none rfl) rfl rfl ?_
            refine RunL.nil ?_
            refine Run.cond rfl (fun hnl => ?_) (fun hnl => ?_)
            · try simp only [ZA, ZB, ZC, ZD, ZE, ZF, ZG, ZH, ZI, ZJ, ZK, ZL, ZM, ZN, ZO, ZP, ZQ, ZR] at hnl
              refine Run.sr ?_
              refine RunL.mv rfl rfl ?_
              refine RunL.call rfl rfl (by rfl) (by repeat (first | (with_reducible exact Take.nil _) | (apply Take.cons (by first | ((repeat (first | (with_reducible exact F0 _) | apply F1)); done) | (repeat (first | exact F0 _ | apply F1)))))) (Rfail_ctr) (Wt.none rfl) rfl ?_
              rintro _ _ ⟨rfl, hA_⟩
              replace hA_ := hA_.symm; subst hA_
              refine RunL.nil ?_
              refine Run.sr ?_
              refine RunL.as rfl rfl ?_
              refine RunL.nil ?_
              refine Run.mkRg (B := B) (I := I) (by repeat (first | (with_reducible exact Take.nil _) | (apply Take.cons (by first | ((repeat (first | (with_reducible exact F0 _) | apply F1)); done) | (repeat (first | exact F0 _ | apply F1)))))) (hok.fail (x := 2) (by decide)) hsg ?_
              exact Run.ret Try.func54 (res1 rfl rfl) (by exact ⟨by rw [rdNum_leadF hl9 hll (by omega)], by rw [rdNum_leadF hl9 hll (by omega)]; try rfl⟩) (by repeat (first | (with_reducible exact Fin.done (by repeat (first | (with_reducible exact Rest.here) | apply Rest.there))) | (apply Fin.cons (by first | ((repeat (first | (with_reducible exact F0 _) | apply F1)); done) | (repeat (first | exact F0 _ | apply F1))))))
            · try simp only [ZA, ZB, ZC, ZD, ZE, ZF, ZG, ZH, ZI, ZJ, ZK, ZL, ZM, ZN, ZO, ZP, ZQ, ZR] at hnl
              refine Run.skip ?_
              refine Run.sr ?_
              refine RunL.mv rfl rfl ?_
              refine RunL.mv rfl rfl ?_
              refine RunL.pure (Pure.nilCheck rfl) (Wt.none rfl) rfl rfl ?_
              refine RunL.pure (Pure.fieldAddr rfl fo79_1) (Wt.none rfl) rfl rfl ?_
              first | refine RunL.load1 rfl (by first | ((repeat (first | (with_reducible exact F0 _) | apply F1)); done) | (repeat (first | exact F0 _ | apply F1))) (by rfl) agg3 (Wt.none rfl) rfl ?_ | refine RunL.load1R rfl (by assumption) (by rfl) agg3 (Wt.none rfl) rfl ?_
              refine RunL.mv rfl rfl ?_
              first | refine RunL.pure (Pure.addI rfl rfl (by omega)) (Wt.none rfl) rfl rfl ?_ | refine RunL.pure (Pure.add rfl rfl) (Wt.none rfl) rfl rfl ?_
              first | refine RunL.pure (Pure.addI rfl rfl (by omega)) (Wt.none rfl) rfl rfl ?_ | refine RunL.pure (Pure.add rfl rfl) (Wt.none rfl) rfl rfl ?_
              refine RunL.pure (Pure.nilCheck rfl) (Wt.none rfl) rfl rfl ?_
              refine RunL.pure (Pure.fieldAddr rfl fo79_1) (Wt.none rfl) rfl rfl ?_
              refine RunL.store1 rfl rfl (by first | ((repeat (first | (with_reducible exact F0 _) | apply F1)); done) | (repeat (first | exact F0 _ | apply F1))) sz3 (by rfl) (by simp) (Wt.none rfl) ?_
              try simp only [List.set_cons_zero, List.set_cons_succ]
              refine RunL.nil ?_
              refine Run.sr ?_
              refine RunL.mv rfl rfl ?_
              refine RunL.as rfl rfl ?_
              refine RunL.nil ?_
              rw [show (I : Int) + (lead bs : Nat) + 1 = ((I + (lead bs + 1) : Nat) : Int) from by omega]
              refine Run.mkRg (B := B) (I := I + (lead bs + 1)) (by repeat (first | (with_reducible exact Take.nil _) | (apply Take.cons (by first | ((repeat (first | (with_reducible exact F0 _) | apply F1)); done) | (repeat (first | exact F0 _ | apply F1)))))) (hok.on (lead bs + 1) (by omega)) hsg ?_
              exact Run.ret Try.func54 (res1 rfl rfl) (by exact ⟨by rw [rdNum_leadO hl9 hll (by omega)], by rw [rdNum_leadO hl9 hll (by omega)]⟩) (by repeat (first | (with_reducible exact Fin.done (by repeat (first | (with_reducible exact Rest.here) | apply Rest.there))) | (apply Fin.cons (by first | ((repeat (first | (with_reducible exact F0 _) | apply F1)); done) | (repeat (first | exact F0 _ | apply F1))))))
    · skip
      refine Run.block ?_
      refine Run.keep (.cons rfl (.cons rfl (.nil)) : Keep _ [0, 3] _) ?_
      refine Run.loopR (fun n e A => ∃ k : Nat, k ≤ 9 ∧ k ≤ bs.length ∧ (∀ j, j < k → 128 ≤ (bs.getD j 0).toNat) ∧ n = 9 - k ∧ e = [(0, .pointer (some ⟨p, 0, none⟩)), (3, .int .i64 (k : Nat))] ∧ A = row p 79 [.slice a B.length cap, .int .i64 I, .int .i64 0] :: F) (9) ⟨0, by omega, by omega, fun j hj => absurd hj (Nat.not_lt_zero _), rfl, rfl, rfl⟩ ?_
      rintro n _ _ ⟨k, hk9, hkl, hh, rfl, rfl, rfl⟩ ih
      refine Run.seq ?_
      refine Run.seq ?_
      refine Run.regionD' (by kernel_rfl) (by kernel_rfl) (fun hok207 => ?_)
      refine RunD.lend (Q := row p 79 _) Lends.row (by first | ((repeat (first | (with_reducible exact F0 _) | apply F1)); done) | (repeat (first | exact F0 _ | apply F1))) ?_; intro g1 hleg1 hr1 backg1
      have hs2 := hs0.mono hleg1
      refine RunD.pure (i := 0) hok207 rfl (by kernel_rfl) (Pure.move rfl) (Wt.none rfl) rfl rfl ?_
      refine RunD.pure (i := 1) hok207 rfl (by kernel_rfl) (Pure.lss rfl rfl) (Wt.none rfl) rfl rfl ?_
      refine RunD.pure (i := 2) hok207 rfl (by kernel_rfl) (Pure.move rfl) (Wt.none rfl) rfl rfl ?_
      refine RunD.split (d := 13) rfl (fun hx1 => ?_) (fun hx1 => ?_)
      · try simp only [ZA, ZB, ZC, ZD, ZE, ZF, ZG, ZH, ZI, ZJ, ZK, ZL, ZM, ZN, ZO, ZP, ZQ, ZR] at hx1
        refine RunD.pure (i := 3) hok207 rfl (by kernel_rfl) (Pure.move rfl) (Wt.yes rfl rfl rfl) rfl rfl ?_
        refine RunD.pure (i := 4) hok207 rfl (by kernel_rfl) (Pure.nilCheck rfl) (Wt.yes rfl rfl rfl) rfl rfl ?_
        refine RunD.pure (i := 5) hok207 rfl (by kernel_rfl) (Pure.fieldAddr rfl fo79_1) (Wt.yes rfl rfl rfl) rfl rfl ?_
        refine RunD.load1R (i := 6) hok207 rfl (by kernel_rfl) rfl (by assumption) (by rfl) agg3 (Wt.yes rfl rfl rfl) rfl ?_
        refine RunD.pure (i := 7) hok207 rfl (by kernel_rfl) (Pure.move rfl) (Wt.yes rfl rfl rfl) rfl rfl ?_
        first | refine RunD.pure (i := 8) hok207 rfl (by kernel_rfl) (Pure.addI rfl rfl (by omega)) (Wt.yes rfl rfl rfl) rfl rfl ?_ | refine RunD.pure (i := 8) hok207 rfl (by kernel_rfl) (Pure.add rfl rfl) (Wt.yes rfl rfl rfl) rfl rfl ?_
        refine RunD.pure (i := 9) hok207 rfl (by kernel_rfl) (Pure.move rfl) (Wt.yes rfl rfl rfl) rfl rfl ?_
        refine RunD.pure (i := 10) hok207 rfl (by kernel_rfl) (Pure.nilCheck rfl) (Wt.yes rfl rfl rfl) rfl rfl ?_
        refine RunD.pure (i := 11) hok207 rfl (by kernel_rfl) (Pure.fieldAddr rfl fo79_0) (Wt.yes rfl rfl rfl) rfl rfl ?_
        refine RunD.load1R (i := 12) hok207 rfl (by kernel_rfl) rfl (by assumption) (by rfl) agg29 (Wt.yes rfl rfl rfl) rfl ?_
        refine RunD.pure (i := 13) hok207 rfl (by kernel_rfl) (Pure.lenSl rfl rfl und29) (Wt.yes rfl rfl rfl) rfl rfl ?_
        refine RunD.pure (i := 14) hok207 rfl (by kernel_rfl) (Pure.lss rfl rfl) (Wt.yes rfl rfl rfl) rfl rfl ?_
        refine RunD.pure (i := 15) hok207 rfl (by kernel_rfl) (Pure.pickT rfl rfl) (Wt.none rfl) rfl rfl ?_
        refine RunD.pure (i := 16) hok207 rfl (by kernel_rfl) (Pure.move rfl) (Wt.none rfl) rfl rfl ?_
        refine RunD.split (d := 27) rfl (fun hx2 => ?_) (fun hx2 => ?_)
        · try simp only [ZA, ZB, ZC, ZD, ZE, ZF, ZG, ZH, ZI, ZJ, ZK, ZL, ZM, ZN, ZO, ZP, ZQ, ZR] at hx2
          obtain ⟨b, T', pre, post, rfl, hro⟩ := hs2.open1 (by omega)
          refine RunD.pure (i := 17) hok207 rfl (by kernel_rfl) (Pure.move rfl) (Wt.yes rfl rfl rfl) rfl rfl ?_
          refine RunD.pure (i := 18) hok207 rfl (by kernel_rfl) (Pure.nilCheck rfl) (Wt.yes rfl rfl rfl) rfl rfl ?_
          refine RunD.pure (i := 19) hok207 rfl (by kernel_rfl) (Pure.fieldAddr rfl fo79_0) (Wt.yes rfl rfl rfl) rfl rfl ?_
          refine RunD.load1R (i := 20) hok207 rfl (by kernel_rfl) rfl (by assumption) (by rfl) agg29 (Wt.yes rfl rfl rfl) rfl ?_
          refine RunD.pure (i := 21) hok207 rfl (by kernel_rfl) (Pure.move rfl) (Wt.yes rfl rfl rfl) rfl rfl ?_
          refine RunD.pure (i := 22) hok207 rfl (by kernel_rfl) (Pure.nilCheck rfl) (Wt.yes rfl rfl rfl) rfl rfl ?_
          refine RunD.pure (i := 23) hok207 rfl (by kernel_rfl) (Pure.fieldAddr rfl fo79_1) (Wt.yes rfl rfl rfl) rfl rfl ?_
          refine RunD.load1R (i := 24) hok207 rfl (by kernel_rfl) rfl (by assumption) (by rfl) agg3 (Wt.yes rfl rfl rfl) rfl ?_
          refine RunD.pure (i := 25) hok207 rfl (by kernel_rfl) (Pure.move rfl) (Wt.yes rfl rfl rfl) rfl rfl ?_
          first | refine RunD.pure (i := 26) hok207 rfl (by kernel_rfl) (Pure.addI rfl rfl (by omega)) (Wt.yes rfl rfl rfl) rfl rfl ?_ | refine RunD.pure (i := 26) hok207 rfl (by kernel_rfl) (Pure.add rfl rfl) (Wt.yes rfl rfl rfl) rfl rfl ?_
          refine RunD.pure (i := 27) hok207 rfl (by kernel_rfl) (Pure.indexAddr rfl rfl und29 sz5 (by omega) (by omega)) (Wt.yes rfl rfl rfl) rfl rfl ?_
          refine RunD.load1R (i := 28) hok207 rfl (by kernel_rfl) rfl hro (by exact (show _ = some (bv (B.getD (I + k) 0)) from by rw [show ((I : Int) + (k : Int)).toNat = I + k from by omega]; exact cell_at (by omega))) agg5 (Wt.yes rfl rfl rfl) rfl ?_
          have hbk := hok.at k
          refine RunD.pure (i := 29) hok207 rfl (by kernel_rfl) (Pure.geq rfl rfl) (Wt.yes rfl rfl rfl) rfl rfl ?_
          refine RunD.pure (i := 30) hok207 rfl (by kernel_rfl) (Pure.pickT rfl rfl) (Wt.none rfl) rfl rfl ?_
          refine RunD.nilB (by kernel_rfl) (fun w sw => backg1 _ _ (sw)) ?_
          refine Run.cond rfl (fun hx3 => ?_) (fun hx3 => ?_)
          · try simp only [ZA, ZB, ZC, ZD, ZE, ZF, ZG, ZH, ZI, ZJ, ZK, ZL, ZM, ZN, ZO, ZP, ZQ, ZR] at hx3
            refine Run.skip ?_
            refine Run.block ?_
            refine Run.region ?_
            refine RunL.mv rfl rfl ?_
            first | refine RunL.pure (Pure.addI rfl rfl (by omega)) (Wt.none rfl) rfl rfl ?_ | refine RunL.pure (Pure.add rfl rfl) (Wt.none rfl) rfl rfl ?_
            refine RunL.as rfl rfl ?_
            refine RunL.nil ?_
            refine Run.inBlock ?_
            refine Run.keep (.cons rfl (.cons rfl (.nil)) : Keep _ [0, 3] _) ?_
            refine ih _ _ _ ?_ ⟨k + 1, by omega, by omega, by intro j hj; rcases Nat.lt_or_ge j k with x | x; exact hh j x; rw [show j = k from (by omega), hbk]; omega, rfl, rfl, rfl⟩
            omega
          · try simp only [ZA, ZB, ZC, ZD, ZE, ZF, ZG, ZH, ZI, ZJ, ZK, ZL, ZM, ZN, ZO, ZP, ZQ, ZR] at hx3
            refine Run.exit rfl ?_
            refine Run.keep (.cons rfl (.cons rfl (.nil)) : Keep _ [0, 3] _) ?_
            exact hk _ _ ⟨k, lead_stop hk9 hkl hh (.inr (.inr (by rw [hbk]; omega))), hk9, hkl, rfl, rfl⟩
        · try simp only [ZA, ZB, ZC, ZD, ZE, ZF, ZG, ZH, ZI, ZJ, ZK, ZL, ZM, ZN, ZO, ZP, ZQ, ZR] at hx2
          refine RunD.not (i := 17) hok207 rfl (by kernel_rfl) rfl rfl (Wt.no rfl rfl rfl) ?_
          refine RunD.not (i := 18) hok207 rfl (by kernel_rfl) rfl rfl (Wt.no rfl rfl rfl) ?_
          refine RunD.not (i := 19) hok207 rfl (by kernel_rfl) rfl rfl (Wt.no rfl rfl rfl) ?_
          refine RunD.not (i := 20) hok207 rfl (by kernel_rfl) rfl rfl (Wt.no rfl rfl rfl) ?_
          refine RunD.not (i := 21) hok207 rfl (by kernel_rfl) rfl rfl (Wt.no rfl rfl rfl) ?_
          refine RunD.not (i := 22) hok207 rfl (by kernel_rfl) rfl rfl (Wt.no rfl rfl rfl) ?_
          refine RunD.not (i := 23) hok207 rfl (by kernel_rfl) rfl rfl (Wt.no rfl rfl rfl) ?_
          refine RunD.not (i := 24) hok207 rfl (by kernel_rfl) rfl rfl (Wt.no rfl rfl rfl) ?_
          refine RunD.not (i := 25) hok207 rfl (by kernel_rfl) rfl rfl (Wt.no rfl rfl rfl) ?_
          refine RunD.not (i := 26) hok207 rfl (by kernel_rfl) rfl rfl (Wt.no rfl rfl rfl) ?_
          refine RunD.not (i := 27) hok207 rfl (by kernel_rfl) rfl rfl (Wt.no rfl rfl rfl) ?_
          refine RunD.not (i := 28) hok207 rfl (by kernel_rfl) rfl rfl (Wt.no rfl rfl rfl) ?_
          refine RunD.not (i := 29) hok207 rfl (by kernel_rfl) rfl rfl (Wt.no rfl rfl rfl) ?_
          refine RunD.pure (i := 30) hok207 rfl (by kernel_rfl) (Pure.pickF rfl rfl) (Wt.none rfl) rfl rfl ?_
          refine RunD.nilB (by kernel_rfl) (fun w sw => backg1 _ _ (sw)) ?_
          refine Run.condF rfl ?_
          refine Run.exit rfl ?_
          refine Run.keep (.cons rfl (.cons rfl (.nil)) : Keep _ [0, 3] _) ?_
          exact hk _ _ ⟨k, lead_stop hk9 hkl hh (.inr (.inl (by omega))), hk9, hkl, rfl, rfl⟩
      · try simp only [ZA, ZB, ZC, ZD, ZE, ZF, ZG, ZH, ZI, ZJ, ZK, ZL, ZM, ZN, ZO, ZP, ZQ, ZR] at hx1
        refine RunD.not (i := 3) hok207 rfl (by kernel_rfl) rfl rfl (Wt.no rfl rfl rfl) ?_
        refine RunD.not (i := 4) hok207 rfl (by kernel_rfl) rfl rfl (Wt.no rfl rfl rfl) ?_
        refine RunD.not (i := 5) hok207 rfl (by kernel_rfl) rfl rfl (Wt.no rfl rfl rfl) ?_
        refine RunD.not (i := 6) hok207 rfl (by kernel_rfl) rfl rfl (Wt.no rfl rfl rfl) ?_
        refine RunD.not (i := 7) hok207 rfl (by kernel_rfl) rfl rfl (Wt.no rfl rfl rfl) ?_
        refine RunD.not (i := 8) hok207 rfl (by kernel_rfl) rfl rfl (Wt.no rfl rfl rfl) ?_
        refine RunD.not (i := 9) hok207 rfl (by kernel_rfl) rfl rfl (Wt.no rfl rfl rfl) ?_
        refine RunD.not (i := 10) hok207 rfl (by kernel_rfl) rfl rfl (Wt.no rfl rfl rfl) ?_
        refine RunD.not (i := 11) hok207 rfl (by kernel_rfl) rfl rfl (Wt.no rfl rfl rfl) ?_
        refine RunD.not (i := 12) hok207 rfl (by kernel_rfl) rfl rfl (Wt.no rfl rfl rfl) ?_
        refine RunD.not (i := 13) hok207 rfl (by kernel_rfl) rfl rfl (Wt.no rfl rfl rfl) ?_
        refine RunD.not (i := 14) hok207 rfl (by kernel_rfl) rfl rfl (Wt.no rfl rfl rfl) ?_
        refine RunD.pure (i := 15) hok207 rfl (by kernel_rfl) (Pure.pickF rfl rfl) (Wt.none rfl) rfl rfl ?_
        refine RunD.pure (i := 16) hok207 rfl (by kernel_rfl) (Pure.move rfl) (Wt.none rfl) rfl rfl ?_
        refine RunD.not (i := 17) hok207 rfl (by kernel_rfl) rfl rfl (Wt.no rfl rfl rfl) ?_
        refine RunD.not (i := 18) hok207 rfl (by kernel_rfl) rfl rfl (Wt.no rfl rfl rfl) ?_
        refine RunD.not (i := 19) hok207 rfl (by kernel_rfl) rfl rfl (Wt.no rfl rfl rfl) ?_
        refine RunD.not (i := 20) hok207 rfl (by kernel_rfl) rfl rfl (Wt.no rfl rfl rfl) ?_
        refine RunD.not (i := 21) hok207 rfl (by kernel_rfl) rfl rfl (Wt.no rfl rfl rfl) ?_
        refine RunD.not (i := 22) hok207 rfl (by kernel_rfl) rfl rfl (Wt.no rfl rfl rfl) ?_
        refine RunD.not (i := 23) hok207 rfl (by kernel_rfl) rfl rfl (Wt.no rfl rfl rfl) ?_
        refine RunD.not (i := 24) hok207 rfl (by kernel_rfl) rfl rfl (Wt.no rfl rfl rfl) ?_
        refine RunD.not (i := 25) hok207 rfl (by kernel_rfl) rfl rfl (Wt.no rfl rfl rfl) ?_
        refine RunD.not (i := 26) hok207 rfl (by kernel_rfl) rfl rfl (Wt.no rfl rfl rfl) ?_
        refine RunD.not (i := 27) hok207 rfl (by kernel_rfl) rfl rfl (Wt.no rfl rfl rfl) ?_
        refine RunD.not (i := 28) hok207 rfl (by kernel_rfl) rfl rfl (Wt.no rfl rfl rfl) ?_
        refine RunD.not (i := 29) hok207 rfl (by kernel_rfl) rfl rfl (Wt.no rfl rfl rfl) ?_
        refine RunD.pure (i := 30) hok207 rfl (by kernel_rfl) (Pure.pickF rfl rfl) (Wt.none rfl) rfl rfl ?_
        refine RunD.nilB (by kernel_rfl) (fun w sw => backg1 _ _ (sw)) ?_
        refine Run.condF rfl ?_
        refine Run.exit rfl ?_
        refine Run.keep (.cons rfl (.cons rfl (.nil)) : Keep _ [0, 3] _) ?_
        exact hk _ _ ⟨k, lead_stop hk9 hkl hh (.inl (by omega)), hk9, hkl, rfl, rfl⟩

set_option maxRecDepth 100000 in
theorem RgFlag_ctr {G g : Gp} (hle0 : g.le G) {p : Nat} {bs : List UInt8} {er : Int} :
    Ctr Try.prog G 52 [.pointer (some ⟨p, 0, none⟩)] [Rg g p bs er] (fun F v A => v = .bool (rdFlag bs er).1 ∧ A = Rg g p (rdFlag bs er).2.1 (rdFlag bs er).2.2 :: F) := by
  refine Ctr.intro Try.func52 rfl (by kernel_rfl) rfl (fun F => ?_)
  simp only [List.cons_append, List.nil_append]
  refine Run.openRg (by first | ((repeat (first | (with_reducible exact F0 _) | apply F1)); done) | (repeat (first | exact F0 _ | apply F1))) ?_; intro a cap B I hok hsg
  have hs0 := hsg.1.mono hle0; have hs2 := hs0; have hc2 := hsg.2
  have hok1 := hok.1; have hok2 := hok.2.2
  refine Run.sr ?_
  refine RunL.as rfl rfl ?_
  refine RunL.nil ?_
  refine Run.seq ?_
  refine Run.sr ?_
  refine RunL.mv rfl rfl ?_
  refine RunL.pure (Pure.nilCheck rfl) (Wt.none rfl) rfl rfl ?_
  refine RunL.pure (Pure.fieldAddr rfl fo79_2) (Wt.none rfl) rfl rfl ?_
  first | refine RunL.load1 rfl (by first | ((repeat (first | (with_reducible exact F0 _) | apply F1)); done) | (repeat (first | exact F0 _ | apply F1))) (by rfl) agg30 (Wt.none rfl) rfl ?_ | refine RunL.load1R rfl (by assumption) (by rfl) agg30 (Wt.none rfl) rfl ?_
  refine RunL.pure (Pure.neq rfl rfl) (Wt.none rfl) rfl rfl ?_
  refine RunL.nil ?_
  refine Run.cond rfl (fun hc1 => ?_) (fun hc1 => ?_)
  · try simp only [ZA, ZB, ZC, ZD, ZE, ZF, ZG, ZH, ZI, ZJ, ZK, ZL, ZM, ZN, ZO, ZP, ZQ, ZR] at hc1
    obtain rfl := hok.err hc1
    refine Run.sr ?_
    refine RunL.as rfl rfl ?_
    refine RunL.nil ?_
    refine Run.mkRg (B := B) (I := I) (by repeat (first | (with_reducible exact Take.nil _) | (apply Take.cons (by first | ((repeat (first | (with_reducible exact F0 _) | apply F1)); done) | (repeat (first | exact F0 _ | apply F1)))))) hok hsg ?_
    exact Run.ret Try.func52 (res1 rfl rfl) (by exact ⟨by rw [rdFlag_er hc1], by rw [rdFlag_er hc1]⟩) (by repeat (first | (with_reducible exact Fin.done (by repeat (first | (with_reducible exact Rest.here) | apply Rest.there))) | (apply Fin.cons (by first | ((repeat (first | (with_reducible exact F0 _) | apply F1)); done) | (repeat (first | exact F0 _ | apply F1))))))
  · try simp only [ZA, ZB, ZC, ZD, ZE, ZF, ZG, ZH, ZI, ZJ, ZK, ZL, ZM, ZN, ZO, ZP, ZQ, ZR] at hc1
    obtain rfl : er = 0 := hc1
    have hlen := hok.len
    refine Run.skip ?_
    refine Run.seq ?_
    refine Run.seq ?_
    refine Run.regionD' (by kernel_rfl) (by kernel_rfl) (fun hok25 => ?_)
    refine RunD.lend (Q := row p 79 _) Lends.row (by first | ((repeat (first | (with_reducible exact F0 _) | apply F1)); done) | (repeat (first | exact F0 _ | apply F1))) ?_; intro g1 hleg1 hr1 backg1
    have hs2 := hs0.mono hleg1
    refine RunD.pure (i := 0) hok25 rfl (by kernel_rfl) (Pure.move rfl) (Wt.none rfl) rfl rfl ?_
    refine RunD.pure (i := 1) hok25 rfl (by kernel_rfl) (Pure.nilCheck rfl) (Wt.none rfl) rfl rfl ?_
    refine RunD.pure (i := 2) hok25 rfl (by kernel_rfl) (Pure.fieldAddr rfl fo79_1) (Wt.none rfl) rfl rfl ?_
    refine RunD.load1R (i := 3) hok25 rfl (by kernel_rfl) rfl (by assumption) (by rfl) agg3 (Wt.none rfl) rfl ?_
    refine RunD.pure (i := 4) hok25 rfl (by kernel_rfl) (Pure.move rfl) (Wt.none rfl) rfl rfl ?_
    refine RunD.pure (i := 5) hok25 rfl (by kernel_rfl) (Pure.nilCheck rfl) (Wt.none rfl) rfl rfl ?_
    refine RunD.pure (i := 6) hok25 rfl (by kernel_rfl) (Pure.fieldAddr rfl fo79_0) (Wt.none rfl) rfl rfl ?_
    refine RunD.load1R (i := 7) hok25 rfl (by kernel_rfl) rfl (by assumption) (by rfl) agg29 (Wt.none rfl) rfl ?_
    refine RunD.pure (i := 8) hok25 rfl (by kernel_rfl) (Pure.lenSl rfl rfl und29) (Wt.none rfl) rfl rfl ?_
    refine RunD.pure (i := 9) hok25 rfl (by kernel_rfl) (Pure.geq rfl rfl) (Wt.none rfl) rfl rfl ?_
    refine RunD.nilB (by kernel_rfl) (fun w sw => backg1 _ _ (sw)) ?_
    refine Run.cond rfl (fun h1 => ?_) (fun h1 => ?_)
    · try simp only [ZA, ZB, ZC, ZD, ZE, ZF, ZG, ZH, ZI, ZJ, ZK, ZL, ZM, ZN, ZO, ZP, ZQ, ZR] at h1
      obtain rfl : bs = [] := List.length_eq_zero_iff.1 (by omega)
      refine Run.sr ?_
      refine RunL.mv rfl rfl ?_
      refine RunL.call rfl rfl (by rfl) (by repeat (first | (with_reducible exact Take.nil _) | (apply Take.cons (by first | ((repeat (first | (with_reducible exact F0 _) | apply F1)); done) | (repeat (first | exact F0 _ | apply F1)))))) (Rfail_ctr) (Wt.none rfl) rfl ?_
      rintro _ _ ⟨rfl, hA_⟩
      replace hA_ := hA_.symm; subst hA_
      refine RunL.nil ?_
      refine Run.sr ?_
      refine RunL.as rfl rfl ?_
      refine RunL.nil ?_
      refine Run.mkRg (B := B) (I := I) (by repeat (first | (with_reducible exact Take.nil _) | (apply Take.cons (by first | ((repeat (first | (with_reducible exact F0 _) | apply F1)); done) | (repeat (first | exact F0 _ | apply F1)))))) (hok.fail (x := 3) (by decide)) hsg ?_
      exact Run.ret Try.func52 (res1 rfl rfl) (by exact ⟨by rw [rdFlag_nil], by rw [rdFlag_nil]; try rfl⟩) (by repeat (first | (with_reducible exact Fin.done (by repeat (first | (with_reducible exact Rest.here) | apply Rest.there))) | (apply Fin.cons (by first | ((repeat (first | (with_reducible exact F0 _) | apply F1)); done) | (repeat (first | exact F0 _ | apply F1))))))
    · try simp only [ZA, ZB, ZC, ZD, ZE, ZF, ZG, ZH, ZI, ZJ, ZK, ZL, ZM, ZN, ZO, ZP, ZQ, ZR] at h1
      obtain ⟨c0, bs0, rfl⟩ : ∃ c0 bs0, bs = c0 :: bs0 := by
        cases bs with
        | nil => simp at hlen; omega
        | cons c l => exact ⟨_, _, rfl⟩
      have hon := hok.on 1 (by simp)
      rw [show (c0 :: bs0).drop 1 = bs0 from rfl] at hon
      have h0 : B.getD I 0 = c0 := (hok.at 0).symm
      refine Run.skip ?_
      refine Run.seq ?_
      refine Run.regionD' (by kernel_rfl) (by kernel_rfl) (fun hok63 => ?_)
      refine RunD.lend (Q := row p 79 _) Lends.row (by first | ((repeat (first | (with_reducible exact F0 _) | apply F1)); done) | (repeat (first | exact F0 _ | apply F1))) ?_; intro g1 hleg1 hr1 backg1
      have hs2 := hs0.mono hleg1
      obtain ⟨b, T', pre, post, rfl, hro⟩ := hs2.open1 (by omega)
      refine RunD.pure (i := 0) hok63 rfl (by kernel_rfl) (Pure.move rfl) (Wt.none rfl) rfl rfl ?_
      refine RunD.pure (i := 1) hok63 rfl (by kernel_rfl) (Pure.nilCheck rfl) (Wt.none rfl) rfl rfl ?_
      refine RunD.pure (i := 2) hok63 rfl (by kernel_rfl) (Pure.fieldAddr rfl fo79_0) (Wt.none rfl) rfl rfl ?_
      refine RunD.load1R (i := 3) hok63 rfl (by kernel_rfl) rfl (by assumption) (by rfl) agg29 (Wt.none rfl) rfl ?_
      refine RunD.pure (i := 4) hok63 rfl (by kernel_rfl) (Pure.move rfl) (Wt.none rfl) rfl rfl ?_
      refine RunD.pure (i := 5) hok63 rfl (by kernel_rfl) (Pure.nilCheck rfl) (Wt.none rfl) rfl rfl ?_
      refine RunD.pure (i := 6) hok63 rfl (by kernel_rfl) (Pure.fieldAddr rfl fo79_1) (Wt.none rfl) rfl rfl ?_
      refine RunD.load1R (i := 7) hok63 rfl (by kernel_rfl) rfl (by assumption) (by rfl) agg3 (Wt.none rfl) rfl ?_
      refine RunD.pure (i := 8) hok63 rfl (by kernel_rfl) (Pure.indexAddr rfl rfl und29 sz5 (by omega) (by omega)) (Wt.none rfl) rfl rfl ?_
      refine RunD.load1R (i := 9) hok63 rfl (by kernel_rfl) rfl hro (by exact (show _ = some (bv c0) from by rw [Int.toNat_natCast, ← h0]; exact cell_at (by omega))) agg5 (Wt.none rfl) rfl ?_
      refine RunD.pure (i := 10) hok63 rfl (by kernel_rfl) (Pure.assign rfl) (Wt.none rfl) rfl rfl ?_
      refine RunD.nilB (by kernel_rfl) (fun w sw => backg1 _ _ (sw)) ?_
      refine Run.seq ?_
      refine Run.sr ?_
      refine RunL.mv rfl rfl ?_
      refine RunL.pure (Pure.gtr rfl rfl) (Wt.none rfl) rfl rfl ?_
      refine RunL.nil ?_
      refine Run.cond rfl (fun h2 => ?_) (fun h2 => ?_)
      · try simp only [ZA, ZB, ZC, ZD, ZE, ZF, ZG, ZH, ZI, ZJ, ZK, ZL, ZM, ZN, ZO, ZP, ZQ, ZR] at h2
        refine Run.sr ?_
        refine RunL.mv rfl rfl ?_
        refine RunL.call rfl rfl (by rfl) (by repeat (first | (with_reducible exact Take.nil _) | (apply Take.cons (by first | ((repeat (first | (with_reducible exact F0 _) | apply F1)); done) | (repeat (first | exact F0 _ | apply F1)))))) (Rfail_ctr) (Wt.none rfl) rfl ?_
        rintro _ _ ⟨rfl, hA_⟩
        replace hA_ := hA_.symm; subst hA_
        refine RunL.nil ?_
        refine Run.sr ?_
        refine RunL.as rfl rfl ?_
        refine RunL.nil ?_
        refine Run.mkRg (B := B) (I := I) (by repeat (first | (with_reducible exact Take.nil _) | (apply Take.cons (by first | ((repeat (first | (with_reducible exact F0 _) | apply F1)); done) | (repeat (first | exact F0 _ | apply F1)))))) (hok.fail (x := 2) (by decide)) hsg ?_
        exact Run.ret Try.func52 (res1 rfl rfl) (by exact ⟨by rw [rdFlag_form (by omega)], by rw [rdFlag_form (by omega)]; try rfl⟩) (by repeat (first | (with_reducible exact Fin.done (by repeat (first | (with_reducible exact Rest.here) | apply Rest.there))) | (apply Fin.cons (by first | ((repeat (first | (with_reducible exact F0 _) | apply F1)); done) | (repeat (first | exact F0 _ | apply F1))))))
      · try simp only [ZA, ZB, ZC, ZD, ZE, ZF, ZG, ZH, ZI, ZJ, ZK, ZL, ZM, ZN, ZO, ZP, ZQ, ZR] at h2
        refine Run.skip ?_
        refine Run.sr ?_
        refine RunL.mv rfl rfl ?_
        refine RunL.pure (Pure.nilCheck rfl) (Wt.none rfl) rfl rfl ?_
        refine RunL.pure (Pure.fieldAddr rfl fo79_1) (Wt.none rfl) rfl rfl ?_
        first | refine RunL.load1 rfl (by first | ((repeat (first | (with_reducible exact F0 _) | apply F1)); done) | (repeat (first | exact F0 _ | apply F1))) (by rfl) agg3 (Wt.none rfl) rfl ?_ | refine RunL.load1R rfl (by assumption) (by rfl) agg3 (Wt.none rfl) rfl ?_
        first | refine RunL.pure (Pure.addI rfl rfl (by omega)) (Wt.none rfl) rfl rfl ?_ | refine RunL.pure (Pure.add rfl rfl) (Wt.none rfl) rfl rfl ?_
        refine RunL.pure (Pure.nilCheck rfl) (Wt.none rfl) rfl rfl ?_
        refine RunL.pure (Pure.fieldAddr rfl fo79_1) (Wt.none rfl) rfl rfl ?_
        refine RunL.store1 rfl rfl (by first | ((repeat (first | (with_reducible exact F0 _) | apply F1)); done) | (repeat (first | exact F0 _ | apply F1))) sz3 (by rfl) (by simp) (Wt.none rfl) ?_
        try simp only [List.set_cons_zero, List.set_cons_succ]
        refine RunL.nil ?_
        refine Run.sr ?_
        refine RunL.mv rfl rfl ?_
        refine RunL.pure (Pure.eql rfl rfl) (Wt.none rfl) rfl rfl ?_
        refine RunL.as rfl rfl ?_
        refine RunL.nil ?_
        rw [show (I : Int) + 1 = ((I + 1 : Nat) : Int) from by omega]
        refine Run.mkRg (B := B) (I := I + 1) (by repeat (first | (with_reducible exact Take.nil _) | (apply Take.cons (by first | ((repeat (first | (with_reducible exact F0 _) | apply F1)); done) | (repeat (first | exact F0 _ | apply F1)))))) hon hsg ?_
        exact Run.ret Try.func52 (res1 rfl rfl) (by exact ⟨by rw [rdFlag_ok (by omega), ← beq_nat1], by rw [rdFlag_ok (by omega)]⟩) (by repeat (first | (with_reducible exact Fin.done (by repeat (first | (with_reducible exact Rest.here) | apply Rest.there))) | (apply Fin.cons (by first | ((repeat (first | (with_reducible exact F0 _) | apply F1)); done) | (repeat (first | exact F0 _ | apply F1))))))

set_option maxRecDepth 100000 in
theorem RgText_ctr {G g : Gp} (hle0 : g.le G) {p : Nat} {bs : List UInt8} {er : Int} {most : Int} :
    Ctr Try.prog G 53 [.pointer (some ⟨p, 0, none⟩), .int .i64 most] [Rg g p bs er] (fun F v A => ∃ s, v = .string s ∧ bl s = (rdText most bs er).1 ∧ A = Rg g p (rdText most bs er).2.1 (rdText most bs er).2.2 :: F) := by
  refine Ctr.intro Try.func53 rfl (by kernel_rfl) rfl (fun F => ?_)
  simp only [List.cons_append, List.nil_append]
  refine Run.openRg (by first | ((repeat (first | (with_reducible exact F0 _) | apply F1)); done) | (repeat (first | exact F0 _ | apply F1))) ?_; intro a cap B I hok hsg
  have hs0 := hsg.1.mono hle0; have hs2 := hs0; have hc2 := hsg.2
  have hbe : er ≠ 0 → bs = [] := hok.err
  refine Run.mkRg (B := B) (I := I) (by repeat (first | (with_reducible exact Take.nil _) | (apply Take.cons (by first | ((repeat (first | (with_reducible exact F0 _) | apply F1)); done) | (repeat (first | exact F0 _ | apply F1)))))) hok hsg ?_
  refine Run.sr ?_
  refine RunL.as rfl rfl ?_
  refine RunL.nil ?_
  refine Run.sr ?_
  refine RunL.mv rfl rfl ?_
  refine RunL.call rfl rfl (by rfl) (by repeat (first | (with_reducible exact Take.nil _) | (apply Take.cons (by first | ((repeat (first | (with_reducible exact F0 _) | apply F1)); done) | (repeat (first | exact F0 _ | apply F1)))))) (RgNumber_ctr hle0) (Wt.none rfl) rfl ?_
  rintro _ _ ⟨rfl, hA_⟩
  replace hA_ := hA_.symm; subst hA_
  clear hok
  obtain ⟨hq1, hq2, hq3, hq4⟩ := rdNum_inv hbe
  generalize hn1 : (rdNum bs er).1 = n1 at *
  generalize hb1 : (rdNum bs er).2.1 = bs1 at *
  generalize he1 : (rdNum bs er).2.2 = er1 at *
  refine RunL.openRg (by first | ((repeat (first | (with_reducible exact F0 _) | apply F1)); done) | (repeat (first | exact F0 _ | apply F1))) ?_; intro a cap B I hok hsg
  have hs0 := hsg.1.mono hle0; have hs2 := hs0; have hc2 := hsg.2
  have hok1 := hok.1; have hok2 := hok.2.2
  refine RunL.as rfl rfl ?_
  refine RunL.nil ?_
  refine Run.seq ?_
  refine Run.sr ?_
  refine RunL.mv rfl rfl ?_
  refine RunL.pure (Pure.nilCheck rfl) (Wt.none rfl) rfl rfl ?_
  refine RunL.pure (Pure.fieldAddr rfl fo79_2) (Wt.none rfl) rfl rfl ?_
  first | refine RunL.load1 rfl (by first | ((repeat (first | (with_reducible exact F0 _) | apply F1)); done) | (repeat (first | exact F0 _ | apply F1))) (by rfl) agg30 (Wt.none rfl) rfl ?_ | refine RunL.load1R rfl (by assumption) (by rfl) agg30 (Wt.none rfl) rfl ?_
  refine RunL.pure (Pure.neq rfl rfl) (Wt.none rfl) rfl rfl ?_
  refine RunL.nil ?_
  refine Run.cond rfl (fun h0 => ?_) (fun h0 => ?_)
  · try simp only [ZA, ZB, ZC, ZD, ZE, ZF, ZG, ZH, ZI, ZJ, ZK, ZL, ZM, ZN, ZO, ZP, ZQ, ZR] at h0
    obtain rfl := hok.err h0
    refine Run.sr ?_
    refine RunL.as rfl rfl ?_
    refine RunL.nil ?_
    refine Run.mkRg (B := B) (I := I) (by repeat (first | (with_reducible exact Take.nil _) | (apply Take.cons (by first | ((repeat (first | (with_reducible exact F0 _) | apply F1)); done) | (repeat (first | exact F0 _ | apply F1)))))) hok hsg ?_
    exact Run.ret Try.func53 (res1 rfl rfl) (by exact ⟨_, rfl, by rw [rdText_er (by rw [he1]; exact h0)]; rfl, by rw [rdText_er (by rw [he1]; exact h0), hb1, he1]⟩) (by repeat (first | (with_reducible exact Fin.done (by repeat (first | (with_reducible exact Rest.here) | apply Rest.there))) | (apply Fin.cons (by first | ((repeat (first | (with_reducible exact F0 _) | apply F1)); done) | (repeat (first | exact F0 _ | apply F1))))))
  · try simp only [ZA, ZB, ZC, ZD, ZE, ZF, ZG, ZH, ZI, ZJ, ZK, ZL, ZM, ZN, ZO, ZP, ZQ, ZR] at h0
    obtain rfl : er1 = 0 := h0
    have hlen := hok.len
    refine Run.skip ?_
    refine Run.seq ?_
    refine Run.sr ?_
    refine RunL.mv rfl rfl ?_
    refine RunL.mv rfl rfl ?_
    refine RunL.pure (Pure.gtr rfl rfl) (Wt.none rfl) rfl rfl ?_
    refine RunL.nil ?_
    refine Run.cond rfl (fun h1 => ?_) (fun h1 => ?_)
    · try simp only [ZA, ZB, ZC, ZD, ZE, ZF, ZG, ZH, ZI, ZJ, ZK, ZL, ZM, ZN, ZO, ZP, ZQ, ZR] at h1
      refine Run.sr ?_
      refine RunL.mv rfl rfl ?_
      refine RunL.call rfl rfl (by rfl) (by repeat (first | (with_reducible exact Take.nil _) | (apply Take.cons (by first | ((repeat (first | (with_reducible exact F0 _) | apply F1)); done) | (repeat (first | exact F0 _ | apply F1)))))) (Rfail_ctr) (Wt.none rfl) rfl ?_
      rintro _ _ ⟨rfl, hA_⟩
      replace hA_ := hA_.symm; subst hA_
      refine RunL.nil ?_
      refine Run.sr ?_
      refine RunL.as rfl rfl ?_
      refine RunL.nil ?_
      refine Run.mkRg (B := B) (I := I) (by repeat (first | (with_reducible exact Take.nil _) | (apply Take.cons (by first | ((repeat (first | (with_reducible exact F0 _) | apply F1)); done) | (repeat (first | exact F0 _ | apply F1)))))) (hok.fail (x := 2) (by decide)) hsg ?_
      exact Run.ret Try.func53 (res1 rfl rfl) (by exact ⟨_, rfl, by rw [rdText_form (by omega) (by omega)]; rfl, by rw [rdText_form (by omega) (by omega)]; try rfl⟩) (by repeat (first | (with_reducible exact Fin.done (by repeat (first | (with_reducible exact Rest.here) | apply Rest.there))) | (apply Fin.cons (by first | ((repeat (first | (with_reducible exact F0 _) | apply F1)); done) | (repeat (first | exact F0 _ | apply F1))))))
    · try simp only [ZA, ZB, ZC, ZD, ZE, ZF, ZG, ZH, ZI, ZJ, ZK, ZL, ZM, ZN, ZO, ZP, ZQ, ZR] at h1
      refine Run.skip ?_
      refine Run.seq ?_
      refine Run.seq ?_
      refine Run.regionD' (by kernel_rfl) (by kernel_rfl) (fun hok61 => ?_)
      refine RunD.lend (Q := row p 79 _) Lends.row (by first | ((repeat (first | (with_reducible exact F0 _) | apply F1)); done) | (repeat (first | exact F0 _ | apply F1))) ?_; intro g1 hleg1 hr1 backg1
      have hs2 := hs0.mono hleg1
      refine RunD.pure (i := 0) hok61 rfl (by kernel_rfl) (Pure.move rfl) (Wt.none rfl) rfl rfl ?_
      refine RunD.pure (i := 1) hok61 rfl (by kernel_rfl) (Pure.move rfl) (Wt.none rfl) rfl rfl ?_
      refine RunD.pure (i := 2) hok61 rfl (by kernel_rfl) (Pure.nilCheck rfl) (Wt.none rfl) rfl rfl ?_
      refine RunD.pure (i := 3) hok61 rfl (by kernel_rfl) (Pure.fieldAddr rfl fo79_0) (Wt.none rfl) rfl rfl ?_
      refine RunD.load1R (i := 4) hok61 rfl (by kernel_rfl) rfl (by assumption) (by rfl) agg29 (Wt.none rfl) rfl ?_
      refine RunD.pure (i := 5) hok61 rfl (by kernel_rfl) (Pure.lenSl rfl rfl und29) (Wt.none rfl) rfl rfl ?_
      refine RunD.pure (i := 6) hok61 rfl (by kernel_rfl) (Pure.move rfl) (Wt.none rfl) rfl rfl ?_
      refine RunD.pure (i := 7) hok61 rfl (by kernel_rfl) (Pure.nilCheck rfl) (Wt.none rfl) rfl rfl ?_
      refine RunD.pure (i := 8) hok61 rfl (by kernel_rfl) (Pure.fieldAddr rfl fo79_1) (Wt.none rfl) rfl rfl ?_
      refine RunD.load1R (i := 9) hok61 rfl (by kernel_rfl) rfl (by assumption) (by rfl) agg3 (Wt.none rfl) rfl ?_
      first | refine RunD.pure (i := 10) hok61 rfl (by kernel_rfl) (Pure.subI rfl rfl (by omega)) (Wt.none rfl) rfl rfl ?_ | refine RunD.pure (i := 10) hok61 rfl (by kernel_rfl) (Pure.sub rfl rfl) (Wt.none rfl) rfl rfl ?_
      refine RunD.pure (i := 11) hok61 rfl (by kernel_rfl) (Pure.gtr rfl rfl) (Wt.none rfl) rfl rfl ?_
      refine RunD.nilB (by kernel_rfl) (fun w sw => backg1 _ _ (sw)) ?_
      refine Run.cond rfl (fun h2 => ?_) (fun h2 => ?_)
      · try simp only [ZA, ZB, ZC, ZD, ZE, ZF, ZG, ZH, ZI, ZJ, ZK, ZL, ZM, ZN, ZO, ZP, ZQ, ZR] at h2
        refine Run.sr ?_
        refine RunL.mv rfl rfl ?_
        refine RunL.call rfl rfl (by rfl) (by repeat (first | (with_reducible exact Take.nil _) | (apply Take.cons (by first | ((repeat (first | (with_reducible exact F0 _) | apply F1)); done) | (repeat (first | exact F0 _ | apply F1)))))) (Rfail_ctr) (Wt.none rfl) rfl ?_
        rintro _ _ ⟨rfl, hA_⟩
        replace hA_ := hA_.symm; subst hA_
        refine RunL.nil ?_
        refine Run.sr ?_
        refine RunL.as rfl rfl ?_
        refine RunL.nil ?_
        refine Run.mkRg (B := B) (I := I) (by repeat (first | (with_reducible exact Take.nil _) | (apply Take.cons (by first | ((repeat (first | (with_reducible exact F0 _) | apply F1)); done) | (repeat (first | exact F0 _ | apply F1)))))) (hok.fail (x := 3) (by decide)) hsg ?_
        exact Run.ret Try.func53 (res1 rfl rfl) (by exact ⟨_, rfl, by rw [rdText_short (by omega) (by omega) (by rw [hn1, hb1]; omega)]; rfl, by rw [rdText_short (by omega) (by omega) (by rw [hn1, hb1]; omega)]; try rfl⟩) (by repeat (first | (with_reducible exact Fin.done (by repeat (first | (with_reducible exact Rest.here) | apply Rest.there))) | (apply Fin.cons (by first | ((repeat (first | (with_reducible exact F0 _) | apply F1)); done) | (repeat (first | exact F0 _ | apply F1))))))
      · try simp only [ZA, ZB, ZC, ZD, ZE, ZF, ZG, ZH, ZI, ZJ, ZK, ZL, ZM, ZN, ZO, ZP, ZQ, ZR] at h2
        refine Run.skip ?_
        refine Run.seq ?_
        refine Run.regionD' (by kernel_rfl) (by kernel_rfl) (fun hok93 => ?_)
        refine RunD.lend (Q := row p 79 _) Lends.row (by first | ((repeat (first | (with_reducible exact F0 _) | apply F1)); done) | (repeat (first | exact F0 _ | apply F1))) ?_; intro g1 hleg1 hr1 backg1
        have hs2 := hs0.mono hleg1
        have hsB := hs2.subB (cap := cap) I n1.toNat (by omega) hc2
        have htk : (B.drop I).take n1.toNat = bs1.take n1.toNat := by rw [hok.2.1, if_pos rfl]
        rw [htk] at hsB
        have hk : (bs1.take n1.toNat).length = n1.toNat := by rw [List.length_take]; omega
        rw [hk] at hsB
        have hon := hok.on n1.toNat (by omega)
        refine RunD.pure (i := 0) hok93 rfl (by kernel_rfl) (Pure.move rfl) (Wt.none rfl) rfl rfl ?_
        refine RunD.pure (i := 1) hok93 rfl (by kernel_rfl) (Pure.nilCheck rfl) (Wt.none rfl) rfl rfl ?_
        refine RunD.pure (i := 2) hok93 rfl (by kernel_rfl) (Pure.fieldAddr rfl fo79_0) (Wt.none rfl) rfl rfl ?_
        refine RunD.load1R (i := 3) hok93 rfl (by kernel_rfl) rfl (by assumption) (by rfl) agg29 (Wt.none rfl) rfl ?_
        refine RunD.pure (i := 4) hok93 rfl (by kernel_rfl) (Pure.move rfl) (Wt.none rfl) rfl rfl ?_
        refine RunD.pure (i := 5) hok93 rfl (by kernel_rfl) (Pure.nilCheck rfl) (Wt.none rfl) rfl rfl ?_
        refine RunD.pure (i := 6) hok93 rfl (by kernel_rfl) (Pure.fieldAddr rfl fo79_1) (Wt.none rfl) rfl rfl ?_
        refine RunD.load1R (i := 7) hok93 rfl (by kernel_rfl) rfl (by assumption) (by rfl) agg3 (Wt.none rfl) rfl ?_
        refine RunD.pure (i := 8) hok93 rfl (by kernel_rfl) (Pure.move rfl) (Wt.none rfl) rfl rfl ?_
        refine RunD.pure (i := 9) hok93 rfl (by kernel_rfl) (Pure.nilCheck rfl) (Wt.none rfl) rfl rfl ?_
        refine RunD.pure (i := 10) hok93 rfl (by kernel_rfl) (Pure.fieldAddr rfl fo79_1) (Wt.none rfl) rfl rfl ?_
        refine RunD.load1R (i := 11) hok93 rfl (by kernel_rfl) rfl (by assumption) (by rfl) agg3 (Wt.none rfl) rfl ?_
        refine RunD.pure (i := 12) hok93 rfl (by kernel_rfl) (Pure.move rfl) (Wt.none rfl) rfl rfl ?_
        first | refine RunD.pure (i := 13) hok93 rfl (by kernel_rfl) (Pure.addI rfl rfl (by omega)) (Wt.none rfl) rfl rfl ?_ | refine RunD.pure (i := 13) hok93 rfl (by kernel_rfl) (Pure.add rfl rfl) (Wt.none rfl) rfl rfl ?_
        refine RunD.pure (i := 14) hok93 rfl (by kernel_rfl) (Pure.sliceMid rfl rfl rfl und29 sz5 (by first | omega | (simp; done) | (simp; omega)) (by first | omega | (simp; done) | (simp; omega)) (by first | omega | (simp; done) | (simp; omega))) (Wt.none rfl) rfl rfl ?_
        refine RunD.bytesStr (i := 15) hok93 rfl (by kernel_rfl) rfl und29 und5 und9 ((show SlR _ _ _ _ _ _ from by rw [Int.toNat_natCast, show ((I : Int) + n1).toNat - I = n1.toNat from by omega]; exact hsB)) (Wt.none rfl) rfl ?_
        refine RunD.pure (i := 16) hok93 rfl (by kernel_rfl) (Pure.assign rfl) (Wt.none rfl) rfl rfl ?_
        refine RunD.nilB (by kernel_rfl) (fun w sw => backg1 _ _ (sw)) ?_
        refine Run.sr ?_
        refine RunL.mv rfl rfl ?_
        refine RunL.mv rfl rfl ?_
        refine RunL.pure (Pure.nilCheck rfl) (Wt.none rfl) rfl rfl ?_
        refine RunL.pure (Pure.fieldAddr rfl fo79_1) (Wt.none rfl) rfl rfl ?_
        first | refine RunL.load1 rfl (by first | ((repeat (first | (with_reducible exact F0 _) | apply F1)); done) | (repeat (first | exact F0 _ | apply F1))) (by rfl) agg3 (Wt.none rfl) rfl ?_ | refine RunL.load1R rfl (by assumption) (by rfl) agg3 (Wt.none rfl) rfl ?_
        refine RunL.mv rfl rfl ?_
        first | refine RunL.pure (Pure.addI rfl rfl (by omega)) (Wt.none rfl) rfl rfl ?_ | refine RunL.pure (Pure.add rfl rfl) (Wt.none rfl) rfl rfl ?_
        refine RunL.pure (Pure.nilCheck rfl) (Wt.none rfl) rfl rfl ?_
        refine RunL.pure (Pure.fieldAddr rfl fo79_1) (Wt.none rfl) rfl rfl ?_
        refine RunL.store1 rfl rfl (by first | ((repeat (first | (with_reducible exact F0 _) | apply F1)); done) | (repeat (first | exact F0 _ | apply F1))) sz3 (by rfl) (by simp) (Wt.none rfl) ?_
        try simp only [List.set_cons_zero, List.set_cons_succ]
        refine RunL.nil ?_
        refine Run.sr ?_
        refine RunL.mv rfl rfl ?_
        refine RunL.as rfl rfl ?_
        refine RunL.nil ?_
        rw [show (I : Int) + n1 = ((I + n1.toNat : Nat) : Int) from by omega]
        refine Run.mkRg (B := B) (I := I + n1.toNat) (by repeat (first | (with_reducible exact Take.nil _) | (apply Take.cons (by first | ((repeat (first | (with_reducible exact F0 _) | apply F1)); done) | (repeat (first | exact F0 _ | apply F1)))))) hon hsg ?_
        exact Run.ret Try.func53 (res1 rfl rfl) (by exact ⟨_, rfl, by rw [rdText_ok (by omega) (by omega) (by rw [hn1, hb1]; omega), hn1, hb1]; rfl, by rw [rdText_ok (by omega) (by omega) (by rw [hn1, hb1]; omega), hn1, hb1]⟩) (by repeat (first | (with_reducible exact Fin.done (by repeat (first | (with_reducible exact Rest.here) | apply Rest.there))) | (apply Fin.cons (by first | ((repeat (first | (with_reducible exact F0 _) | apply F1)); done) | (repeat (first | exact F0 _ | apply F1))))))

end Go.Proofs.Ytbgjfpaigndbmaa
