/- EDUs: what may be. -/
import Derived.Test.YtbgjfpaigndbmaaY4
set_option linter.unusedVariables false
set_option linter.unusedSimpArgs false
set_option linter.unusedSectionVars false
namespace Go.Proofs.Ytbgjfpaigndbmaa
open Go Csl
theorem zz50 : zeroIs Try.prog 50 = some (.agg #[(.int .i64 0), (.string .empty), (.string .empty), (.string .empty), (.string .empty), (.bool false), (.bool false), (.int .i64 0), (.int .i64 0), (.int .i64 0), (.int .i64 0)]) := by kernel_rfl
theorem fo50_0 : fieldOff Try.prog 50 0 = some 0 := by kernel_rfl
theorem fo50_2 : fieldOff Try.prog 50 2 = some 2 := by kernel_rfl
theorem fo50_9 : fieldOff Try.prog 50 9 = some 9 := by kernel_rfl
theorem fo50_10 : fieldOff Try.prog 50 10 = some 10 := by kernel_rfl
theorem pl50 : placesOf Try.prog 50 = some ([(0, 1), (1, 1), (2, 1), (3, 1), (4, 1), (5, 1), (6, 1), (7, 1), (8, 1), (9, 1), (10, 1)], (.agg #[(.int .i64 0), (.string .empty), (.string .empty), (.string .empty), (.string .empty), (.bool false), (.bool false), (.int .i64 0), (.int .i64 0), (.int .i64 0), (.int .i64 0)])) := by kernel_rfl
theorem fo50_1 : fieldOff Try.prog 50 1 = some 1 := by kernel_rfl
theorem fo50_3 : fieldOff Try.prog 50 3 = some 3 := by kernel_rfl
theorem fo50_4 : fieldOff Try.prog 50 4 = some 4 := by kernel_rfl
theorem fo50_5 : fieldOff Try.prog 50 5 = some 5 := by kernel_rfl
theorem sz4 : sizeIs Try.prog 4 = some 1 := by kernel_rfl
theorem fo50_6 : fieldOff Try.prog 50 6 = some 6 := by kernel_rfl
theorem fo50_7 : fieldOff Try.prog 50 7 = some 7 := by kernel_rfl
theorem fo50_8 : fieldOff Try.prog 50 8 = some 8 := by kernel_rfl
theorem agg99 : isAggOf Try.prog 99 = some false := by kernel_rfl
theorem zz99 : zeroIs Try.prog 99 = some .nilFunc := by kernel_rfl
theorem sz99 : sizeIs Try.prog 99 = some 1 := by kernel_rfl
theorem und93 : Try.prog.underlying 93 = some (Go.TypeDesc.slice 56) := Try.underlying93
theorem sz56 : sizeIs Try.prog 56 = some 1 := by kernel_rfl
theorem zz56 : zeroIs Try.prog 56 = some .nilFunc := by kernel_rfl
theorem agg56 : isAggOf Try.prog 56 = some false := by kernel_rfl
theorem und92 : Try.prog.underlying 92 = some (Go.TypeDesc.slice 3) := Try.underlying92
theorem zz3 : zeroIs Try.prog 3 = some (.int .i64 0) := by kernel_rfl
theorem cb56 : Callable Try.prog 56 := ⟨_, Try.func56, by kernel_rfl, by kernel_rfl⟩
theorem pl79 : placesOf Try.prog 79 = some ([(0, 1), (1, 1), (2, 1)], (.agg #[(.slice none 0 0), (.int .i64 0), (.int .i64 0)])) := by kernel_rfl
theorem cb51 : Callable Try.prog 51 := ⟨_, Try.func51, by kernel_rfl, by kernel_rfl⟩
theorem und88 : Try.prog.underlying 88 = some (Go.TypeDesc.slice 87) := Try.underlying88
theorem sz87 : sizeIs Try.prog 87 = some 1 := by kernel_rfl
theorem zz87 : zeroIs Try.prog 87 = some (.pointer none) := by kernel_rfl
theorem agg87 : isAggOf Try.prog 87 = some false := by kernel_rfl
theorem und90 : Try.prog.underlying 90 = some (Go.TypeDesc.slice 89) := Try.underlying90
theorem sz89 : sizeIs Try.prog 89 = some 1 := by kernel_rfl
theorem zz89 : zeroIs Try.prog 89 = some (.pointer none) := by kernel_rfl
theorem agg89 : isAggOf Try.prog 89 = some false := by kernel_rfl

namespace Csl
def asksB (e : Edu) : Bool := if e.kind = 1 then namedB 33 (bl e.room) && (eventB (bl e.event) && threadB (bl e.thread)) else if e.kind = 2 then namedB 33 (bl e.room) && (!e.typing || (decide (1 ≤ e.span) && decide (e.span ≤ 60))) else if e.kind = 3 then decide (0 ≤ e.state) && decide (e.state ≤ 2) else false
def baseE (e : Edu) : Edu := ⟨e.kind, .empty, e.user, .empty, .empty, false, false, 0, 0, e.tick, e.stamp⟩
def namedE (e : Edu) : Edu := if e.kind = 1 then { baseE e with room := e.room, event := e.event, thread := e.thread, priv := e.priv } else if e.kind = 2 then { baseE e with room := e.room, typing := e.typing, span := if e.typing then e.span else 0 } else if e.kind = 3 then { baseE e with state := e.state } else baseE e
def inR (n : Int) : Bool := decide (0 ≤ n) && decide (n ≤ 1099511627776)
def eduKind (e : Edu) : Bool :=
  if e.kind = 1 then namedB 33 (bl e.room) && (eventB (bl e.event) && (threadB (bl e.thread) && (!e.typing && (decide (e.span = 0) && decide (e.state = 0)))))
  else if e.kind = 2 then namedB 33 (bl e.room) && (((e.typing && (decide (1 ≤ e.span) && decide (e.span ≤ 60))) || (!e.typing && decide (e.span = 0))) && (decide (bl e.event = []) && (decide (bl e.thread = []) && (decide (e.state = 0) && !e.priv))))
  else if e.kind = 3 then decide (bl e.room = []) && (decide (bl e.event = []) && (decide (bl e.thread = []) && (!e.typing && (decide (e.span = 0) && (!e.priv && (decide (0 ≤ e.state) && decide (e.state ≤ 2)))))))
  else false
def eduLocal (e : Edu) : Bool := namedB 64 (bl e.user) && (inR e.tick && (inR e.stamp && eduKind e))
def eduMay (e : Edu) : Bool := eduLocal e && !e.priv
theorem bl_nil {s : ByteArray} : bl s = [] ↔ s = .empty := ⟨fun h => bl_inj h, fun h => by rw [h]; rfl⟩
theorem local_eq (e : Edu) : eduLocal e = (decide (0 ≤ e.kind) && (decide (e.kind ≤ 3) && (asksB e && (decide (e = namedE e) && (namedB 64 (bl e.user) && (inR e.tick && inR e.stamp)))))) := by
  have key : (decide (0 ≤ e.kind) && (decide (e.kind ≤ 3) && (asksB e && decide (e = namedE e)))) = eduKind e := by
    obtain ⟨k, r, u, ev, th, pr, ty, sp, sa, ti, sm⟩ := e
    unfold asksB namedE eduKind baseE
    by_cases h1 : k = 1
    · subst h1; rw [Bool.eq_iff_iff]; simp; grind
    · by_cases h2 : k = 2
      · subst h2; rw [Bool.eq_iff_iff]; simp [bl_nil]; cases ty <;> grind
      · by_cases h3 : k = 3
        · subst h3; rw [Bool.eq_iff_iff]; simp [bl_nil]; grind
        · simp [h1, h2, h3]
  unfold eduLocal
  rw [← key]
  cases decide (0 ≤ e.kind) <;> cases decide (e.kind ≤ 3) <;> cases asksB e <;> cases decide (e = namedE e) <;> cases namedB 64 (bl e.user) <;> cases inR e.tick <;> cases inR e.stamp <;> rfl
def txt (s : ByteArray) : List UInt8 := numN s.size ++ bl s
def flg (b : Bool) : List UInt8 := [if b then 1 else 0]
def eduTexts (e : Edu) : List ByteArray := [e.room, e.user, e.event, e.thread]
def eduNums (e : Edu) : List Int := [e.span, e.state, e.tick, e.stamp]
def eduBytes (e : Edu) : List UInt8 := numN e.kind.toNat ++ (eduTexts e).flatMap txt ++ flg e.typing ++ (eduNums e).flatMap (fun z => numN z.toNat)
def eduSmall (e : Edu) : Prop := e.room.size ≤ 1000 ∧ e.user.size ≤ 1000 ∧ e.event.size ≤ 1000 ∧ e.thread.size ≤ 1000
theorem txt_len {s : ByteArray} (h : s.size ≤ 1000) : (txt s).length ≤ 1009 := by
  unfold txt; have := numN_le s.size (by omega); rw [List.length_append, bl_length]; omega
theorem wrap_range (n : Int) : -9223372036854775808 ≤ IntKind.i64.wrap n ∧ IntKind.i64.wrap n ≤ 9223372036854775807 := by
  simp [IntKind.wrap, IntKind.bits, IntKind.signed]; omega
def evNum (e : Edu) : Int := IntKind.i64.wrap (e.event.size + around e.tick 9)
def good0 (e : Edu) : Edu := ⟨1 + around e.kind 3, .empty, userOf e.state, .empty, .empty, false, false, 0, 0, around e.tick 100, around e.stamp 9⟩
def goodE (e : Edu) : Edu := if (good0 e).kind = 1 then { good0 e with room := roomOf e.span, event := eventOf (evNum e), thread := threadOf e.thread.size, priv := e.priv }
  else if (good0 e).kind = 2 then { good0 e with room := roomOf e.span, typing := e.typing, span := if e.typing then 1 + around e.span 60 else 0 } else { good0 e with state := around e.span 3 }
def pubE (e : Edu) : Edu := { goodE e with priv := false }
def fewE (e : Edu) : Edu := { e with room := cut e.room 40, user := cut e.user 40, event := cut e.event 40, thread := cut e.thread 40 }
end Csl

set_option maxRecDepth 100000 in
theorem named_ctr {G : Gp} {e : Edu} :
    Ctr Try.prog G 77 [.agg (cEdu e).toArray] [] (fun F v A => v = .agg (cEdu (namedE e)).toArray ∧ A = F) := by
  refine Ctr.intro Try.func77 rfl (by kernel_rfl) rfl (fun F => ?_)
  simp only [List.nil_append]
  refine Run.sr ?_
  refine RunL.boxA (xs := (cEdu e)) rfl (Wt.none rfl) rfl ?_; intro b1
  refine RunL.alloc zz50 (Wt.none rfl) rfl ?_; intro b2
  refine RunL.nil ?_
  refine Run.lendAll (Q := row b1 50 _) Lends.row (by first | ((repeat (first | (with_reducible exact F0 _) | apply F1)); done) | (repeat (first | exact F0 _ | apply F1))) (fun G1 hleG1 hrb1 => ?_)
  refine Run.sr ?_
  refine RunL.pure (Pure.fieldAddr rfl fo50_0) (Wt.none rfl) rfl rfl ?_
  first | refine RunL.load1 rfl (by first | ((repeat (first | (with_reducible exact F0 _) | apply F1)); done) | (repeat (first | exact F0 _ | apply F1))) (by rfl) agg3 (Wt.none rfl) rfl ?_ | refine RunL.load1R rfl (by assumption) (by rfl) agg3 (Wt.none rfl) rfl ?_
  refine RunL.pure (Pure.fieldAddr rfl fo50_2) (Wt.none rfl) rfl rfl ?_
  first | refine RunL.load1 rfl (by first | ((repeat (first | (with_reducible exact F0 _) | apply F1)); done) | (repeat (first | exact F0 _ | apply F1))) (by rfl) agg9 (Wt.none rfl) rfl ?_ | refine RunL.load1R rfl (by assumption) (by rfl) agg9 (Wt.none rfl) rfl ?_
  refine RunL.pure (Pure.fieldAddr rfl fo50_9) (Wt.none rfl) rfl rfl ?_
  first | refine RunL.load1 rfl (by first | ((repeat (first | (with_reducible exact F0 _) | apply F1)); done) | (repeat (first | exact F0 _ | apply F1))) (by rfl) agg3 (Wt.none rfl) rfl ?_ | refine RunL.load1R rfl (by assumption) (by rfl) agg3 (Wt.none rfl) rfl ?_
  refine RunL.pure (Pure.fieldAddr rfl fo50_10) (Wt.none rfl) rfl rfl ?_
  first | refine RunL.load1 rfl (by first | ((repeat (first | (with_reducible exact F0 _) | apply F1)); done) | (repeat (first | exact F0 _ | apply F1))) (by rfl) agg3 (Wt.none rfl) rfl ?_ | refine RunL.load1R rfl (by assumption) (by rfl) agg3 (Wt.none rfl) rfl ?_
  refine RunL.pure (Pure.buildL (ps := [(0, _), (2, _), (9, _), (10, _)]) (zs := [(.int .i64 0), (.string .empty), (.string .empty), (.string .empty), (.string .empty), (.bool false), (.bool false), (.int .i64 0), (.int .i64 0), (.int .i64 0), (.int .i64 0)]) (xs := (cEdu (baseE e))) pl50 rfl rfl rfl rfl) (Wt.none rfl) rfl rfl ?_
  refine RunL.alloc zz50 (Wt.none rfl) rfl ?_; intro b3
  refine RunL.storeW (xs := (cEdu (baseE e))) rfl rfl (by first | ((repeat (first | (with_reducible exact F0 _) | apply F1)); done) | (repeat (first | exact F0 _ | apply F1))) sz50 (by rfl) (by rfl) (by rfl) (Wt.none rfl) ?_
  refine RunL.nil ?_
  refine Run.seq ?_
  refine Run.sr ?_
  refine RunL.pure (Pure.fieldAddr rfl fo50_0) (Wt.none rfl) rfl rfl ?_
  first | refine RunL.load1 rfl (by first | ((repeat (first | (with_reducible exact F0 _) | apply F1)); done) | (repeat (first | exact F0 _ | apply F1))) (by rfl) agg3 (Wt.none rfl) rfl ?_ | refine RunL.load1R rfl (by assumption) (by rfl) agg3 (Wt.none rfl) rfl ?_
  refine RunL.nil ?_
  refine Run.block ?_
  refine Run.sr ?_
  refine RunL.pure (Pure.eql rfl rfl) (Wt.none rfl) rfl rfl ?_
  refine RunL.as rfl rfl ?_
  refine RunL.nil ?_
  refine Run.cond rfl (fun h1 => ?_) (fun h1 => ?_)
  · try simp only [ZA, ZB, ZC, ZD, ZE, ZF, ZG, ZH, ZI, ZJ, ZK, ZL, ZM, ZN, ZO, ZP, ZQ, ZR] at h1
    refine Run.regionD' (by kernel_rfl) (by kernel_rfl) (fun hok30 => ?_)
    refine RunD.pure (i := 0) hok30 rfl (by kernel_rfl) (Pure.fieldAddr rfl fo50_1) (Wt.none rfl) rfl rfl ?_
    refine RunD.load1R (i := 1) hok30 rfl (by kernel_rfl) rfl (by assumption) (by rfl) agg9 (Wt.none rfl) rfl ?_
    refine RunD.pure (i := 2) hok30 rfl (by kernel_rfl) (Pure.fieldAddr rfl fo50_3) (Wt.none rfl) rfl rfl ?_
    refine RunD.load1R (i := 3) hok30 rfl (by kernel_rfl) rfl (by assumption) (by rfl) agg9 (Wt.none rfl) rfl ?_
    refine RunD.pure (i := 4) hok30 rfl (by kernel_rfl) (Pure.fieldAddr rfl fo50_4) (Wt.none rfl) rfl rfl ?_
    refine RunD.load1R (i := 5) hok30 rfl (by kernel_rfl) rfl (by assumption) (by rfl) agg9 (Wt.none rfl) rfl ?_
    refine RunD.pure (i := 6) hok30 rfl (by kernel_rfl) (Pure.fieldAddr rfl fo50_5) (Wt.none rfl) rfl rfl ?_
    refine RunD.load1R (i := 7) hok30 rfl (by kernel_rfl) rfl (by assumption) (by rfl) agg4 (Wt.none rfl) rfl ?_
    refine RunD.pure (i := 8) hok30 rfl (by kernel_rfl) (Pure.fieldAddr rfl fo50_1) (Wt.none rfl) rfl rfl ?_
    refine RunD.one (i := 9) (by kernel_rfl) rfl ?_
    refine RunL.store1A (cs' := (cEdu ({ baseE e with room := e.room }))) rfl rfl (by first | ((repeat (first | (with_reducible exact F0 _) | apply F1)); done) | (repeat (first | exact F0 _ | apply F1))) sz9 (by rfl) (by first | exact Nat.le_of_ble_eq_true rfl | (simp; done) | (simp; omega)) rfl (Wt.none rfl) ?_
    refine RunL.nilD' ?_
    refine RunD.pure (i := 10) hok30 rfl (by kernel_rfl) (Pure.fieldAddr rfl fo50_3) (Wt.none rfl) rfl rfl ?_
    refine RunD.one (i := 11) (by kernel_rfl) rfl ?_
    refine RunL.store1A (cs' := (cEdu ({ baseE e with room := e.room, event := e.event }))) rfl rfl (by first | ((repeat (first | (with_reducible exact F0 _) | apply F1)); done) | (repeat (first | exact F0 _ | apply F1))) sz9 (by rfl) (by first | exact Nat.le_of_ble_eq_true rfl | (simp; done) | (simp; omega)) rfl (Wt.none rfl) ?_
    refine RunL.nilD' ?_
    refine RunD.pure (i := 12) hok30 rfl (by kernel_rfl) (Pure.fieldAddr rfl fo50_4) (Wt.none rfl) rfl rfl ?_
    refine RunD.one (i := 13) (by kernel_rfl) rfl ?_
    refine RunL.store1A (cs' := (cEdu ({ baseE e with room := e.room, event := e.event, thread := e.thread }))) rfl rfl (by first | ((repeat (first | (with_reducible exact F0 _) | apply F1)); done) | (repeat (first | exact F0 _ | apply F1))) sz9 (by rfl) (by first | exact Nat.le_of_ble_eq_true rfl | (simp; done) | (simp; omega)) rfl (Wt.none rfl) ?_
    refine RunL.nilD' ?_
    refine RunD.pure (i := 14) hok30 rfl (by kernel_rfl) (Pure.fieldAddr rfl fo50_5) (Wt.none rfl) rfl rfl ?_
    refine RunD.one (i := 15) (by kernel_rfl) rfl ?_
    refine RunL.store1A (cs' := (cEdu ({ baseE e with room := e.room, event := e.event, thread := e.thread, priv := e.priv }))) rfl rfl (by first | ((repeat (first | (with_reducible exact F0 _) | apply F1)); done) | (repeat (first | exact F0 _ | apply F1))) sz4 (by rfl) (by first | exact Nat.le_of_ble_eq_true rfl | (simp; done) | (simp; omega)) rfl (Wt.none rfl) ?_
    refine RunL.nilD' ?_
    refine RunD.nilR (by kernel_rfl) ?_
    refine Run.inBlock ?_
    refine Run.sr ?_
    first | refine RunL.loadA (vs := (cEdu ({ baseE e with room := e.room, event := e.event, thread := e.thread, priv := e.priv }))) rfl (by first | ((repeat (first | (with_reducible exact F0 _) | apply F1)); done) | (repeat (first | exact F0 _ | apply F1))) agg50 sz50 (by first | exact Nat.le_of_ble_eq_true rfl | (simp; done) | (simp; omega)) rfl (Wt.none rfl) rfl ?_ | refine RunL.loadNR (vs := (cEdu ({ baseE e with room := e.room, event := e.event, thread := e.thread, priv := e.priv }))) rfl (by assumption) agg50 sz50 (by first | exact Nat.le_of_ble_eq_true rfl | (simp; done) | (simp; omega)) rfl (Wt.none rfl) rfl ?_
    refine RunL.storeW (xs := (cEdu ({ baseE e with room := e.room, event := e.event, thread := e.thread, priv := e.priv }))) rfl rfl (by first | ((repeat (first | (with_reducible exact F0 _) | apply F1)); done) | (repeat (first | exact F0 _ | apply F1))) sz50 (by rfl) (by rfl) (by rfl) (Wt.none rfl) ?_
    refine RunL.nil ?_
    exact Run.ret Try.func77 (resV1 rfl (Rv.cellN (us := (cEdu ({ baseE e with room := e.room, event := e.event, thread := e.thread, priv := e.priv }))) rfl (by first | ((repeat (first | (with_reducible exact F0 _) | apply F1)); done) | (repeat (first | exact F0 _ | apply F1))) agg50 sz50 (by first | exact Nat.le_of_ble_eq_true rfl | (simp; done) | (simp; omega)) rfl)) (by exact ⟨by rw [show namedE e = { baseE e with room := e.room, event := e.event, thread := e.thread, priv := e.priv } from by unfold namedE; rw [if_pos h1]], rfl⟩) (by repeat (first | (with_reducible exact Fin.done (by repeat (first | (with_reducible exact Rest.here) | apply Rest.there))) | (apply Fin.cons (by first | ((repeat (first | (with_reducible exact F0 _) | apply F1)); done) | (repeat (first | exact F0 _ | apply F1))))))
  · try simp only [ZA, ZB, ZC, ZD, ZE, ZF, ZG, ZH, ZI, ZJ, ZK, ZL, ZM, ZN, ZO, ZP, ZQ, ZR] at h1
    refine Run.sr ?_
    refine RunL.pure (Pure.eql rfl rfl) (Wt.none rfl) rfl rfl ?_
    refine RunL.as rfl rfl ?_
    refine RunL.nil ?_
    refine Run.cond rfl (fun h2 => ?_) (fun h2 => ?_)
    · try simp only [ZA, ZB, ZC, ZD, ZE, ZF, ZG, ZH, ZI, ZJ, ZK, ZL, ZM, ZN, ZO, ZP, ZQ, ZR] at h2
      refine Run.seq ?_
      refine Run.regionD' (by kernel_rfl) (by kernel_rfl) (fun hok70 => ?_)
      refine RunD.pure (i := 0) hok70 rfl (by kernel_rfl) (Pure.fieldAddr rfl fo50_1) (Wt.none rfl) rfl rfl ?_
      refine RunD.load1R (i := 1) hok70 rfl (by kernel_rfl) rfl (by assumption) (by rfl) agg9 (Wt.none rfl) rfl ?_
      refine RunD.pure (i := 2) hok70 rfl (by kernel_rfl) (Pure.fieldAddr rfl fo50_6) (Wt.none rfl) rfl rfl ?_
      refine RunD.load1R (i := 3) hok70 rfl (by kernel_rfl) rfl (by assumption) (by rfl) agg4 (Wt.none rfl) rfl ?_
      refine RunD.pure (i := 4) hok70 rfl (by kernel_rfl) (Pure.fieldAddr rfl fo50_1) (Wt.none rfl) rfl rfl ?_
      refine RunD.one (i := 5) (by kernel_rfl) rfl ?_
      refine RunL.store1A (cs' := (cEdu ({ baseE e with room := e.room }))) rfl rfl (by first | ((repeat (first | (with_reducible exact F0 _) | apply F1)); done) | (repeat (first | exact F0 _ | apply F1))) sz9 (by rfl) (by first | exact Nat.le_of_ble_eq_true rfl | (simp; done) | (simp; omega)) rfl (Wt.none rfl) ?_
      refine RunL.nilD' ?_
      refine RunD.pure (i := 6) hok70 rfl (by kernel_rfl) (Pure.fieldAddr rfl fo50_6) (Wt.none rfl) rfl rfl ?_
      refine RunD.one (i := 7) (by kernel_rfl) rfl ?_
      refine RunL.store1A (cs' := (cEdu ({ baseE e with room := e.room, typing := e.typing }))) rfl rfl (by first | ((repeat (first | (with_reducible exact F0 _) | apply F1)); done) | (repeat (first | exact F0 _ | apply F1))) sz4 (by rfl) (by first | exact Nat.le_of_ble_eq_true rfl | (simp; done) | (simp; omega)) rfl (Wt.none rfl) ?_
      refine RunL.nilD' ?_
      refine RunD.nilR (by kernel_rfl) ?_
      refine Run.sr ?_
      refine RunL.pure (Pure.fieldAddr rfl fo50_6) (Wt.none rfl) rfl rfl ?_
      first | refine RunL.load1 rfl (by first | ((repeat (first | (with_reducible exact F0 _) | apply F1)); done) | (repeat (first | exact F0 _ | apply F1))) (by rfl) agg4 (Wt.none rfl) rfl ?_ | refine RunL.load1R rfl (by assumption) (by rfl) agg4 (Wt.none rfl) rfl ?_
      refine RunL.nil ?_
      refine Run.cond rfl (fun h3 => ?_) (fun h3 => ?_)
      · try simp only [ZA, ZB, ZC, ZD, ZE, ZF, ZG, ZH, ZI, ZJ, ZK, ZL, ZM, ZN, ZO, ZP, ZQ, ZR] at h3
        refine Run.region ?_
        refine RunL.pure (Pure.fieldAddr rfl fo50_7) (Wt.none rfl) rfl rfl ?_
        first | refine RunL.load1 rfl (by first | ((repeat (first | (with_reducible exact F0 _) | apply F1)); done) | (repeat (first | exact F0 _ | apply F1))) (by rfl) agg3 (Wt.none rfl) rfl ?_ | refine RunL.load1R rfl (by assumption) (by rfl) agg3 (Wt.none rfl) rfl ?_
        refine RunL.pure (Pure.fieldAddr rfl fo50_7) (Wt.none rfl) rfl rfl ?_
        refine RunL.store1A (cs' := (cEdu ({ baseE e with room := e.room, typing := e.typing, span := e.span }))) rfl rfl (by first | ((repeat (first | (with_reducible exact F0 _) | apply F1)); done) | (repeat (first | exact F0 _ | apply F1))) sz3 (by rfl) (by first | exact Nat.le_of_ble_eq_true rfl | (simp; done) | (simp; omega)) rfl (Wt.none rfl) ?_
        refine RunL.nil ?_
        refine Run.inBlock ?_
        refine Run.sr ?_
        first | refine RunL.loadA (vs := (cEdu ({ baseE e with room := e.room, typing := e.typing, span := e.span }))) rfl (by first | ((repeat (first | (with_reducible exact F0 _) | apply F1)); done) | (repeat (first | exact F0 _ | apply F1))) agg50 sz50 (by first | exact Nat.le_of_ble_eq_true rfl | (simp; done) | (simp; omega)) rfl (Wt.none rfl) rfl ?_ | refine RunL.loadNR (vs := (cEdu ({ baseE e with room := e.room, typing := e.typing, span := e.span }))) rfl (by assumption) agg50 sz50 (by first | exact Nat.le_of_ble_eq_true rfl | (simp; done) | (simp; omega)) rfl (Wt.none rfl) rfl ?_
        refine RunL.storeW (xs := (cEdu ({ baseE e with room := e.room, typing := e.typing, span := e.span }))) rfl rfl (by first | ((repeat (first | (with_reducible exact F0 _) | apply F1)); done) | (repeat (first | exact F0 _ | apply F1))) sz50 (by rfl) (by rfl) (by rfl) (Wt.none rfl) ?_
        refine RunL.nil ?_
        exact Run.ret Try.func77 (resV1 rfl (Rv.cellN (us := (cEdu ({ baseE e with room := e.room, typing := e.typing, span := e.span }))) rfl (by first | ((repeat (first | (with_reducible exact F0 _) | apply F1)); done) | (repeat (first | exact F0 _ | apply F1))) agg50 sz50 (by first | exact Nat.le_of_ble_eq_true rfl | (simp; done) | (simp; omega)) rfl)) (by exact ⟨by rw [show namedE e = { baseE e with room := e.room, typing := e.typing, span := e.span } from by unfold namedE; rw [if_neg h1, if_pos h2, if_pos h3]], rfl⟩) (by repeat (first | (with_reducible exact Fin.done (by repeat (first | (with_reducible exact Rest.here) | apply Rest.there))) | (apply Fin.cons (by first | ((repeat (first | (with_reducible exact F0 _) | apply F1)); done) | (repeat (first | exact F0 _ | apply F1))))))
      · try simp only [ZA, ZB, ZC, ZD, ZE, ZF, ZG, ZH, ZI, ZJ, ZK, ZL, ZM, ZN, ZO, ZP, ZQ, ZR] at h3
        refine Run.skip ?_
        refine Run.inBlock ?_
        refine Run.sr ?_
        first | refine RunL.loadA (vs := (cEdu ({ baseE e with room := e.room, typing := e.typing }))) rfl (by first | ((repeat (first | (with_reducible exact F0 _) | apply F1)); done) | (repeat (first | exact F0 _ | apply F1))) agg50 sz50 (by first | exact Nat.le_of_ble_eq_true rfl | (simp; done) | (simp; omega)) rfl (Wt.none rfl) rfl ?_ | refine RunL.loadNR (vs := (cEdu ({ baseE e with room := e.room, typing := e.typing }))) rfl (by assumption) agg50 sz50 (by first | exact Nat.le_of_ble_eq_true rfl | (simp; done) | (simp; omega)) rfl (Wt.none rfl) rfl ?_
        refine RunL.storeW (xs := (cEdu ({ baseE e with room := e.room, typing := e.typing }))) rfl rfl (by first | ((repeat (first | (with_reducible exact F0 _) | apply F1)); done) | (repeat (first | exact F0 _ | apply F1))) sz50 (by rfl) (by rfl) (by rfl) (Wt.none rfl) ?_
        refine RunL.nil ?_
        exact Run.ret Try.func77 (resV1 rfl (Rv.cellN (us := (cEdu ({ baseE e with room := e.room, typing := e.typing }))) rfl (by first | ((repeat (first | (with_reducible exact F0 _) | apply F1)); done) | (repeat (first | exact F0 _ | apply F1))) agg50 sz50 (by first | exact Nat.le_of_ble_eq_true rfl | (simp; done) | (simp; omega)) rfl)) (by exact ⟨by rw [show namedE e = { baseE e with room := e.room, typing := e.typing } from by unfold namedE; rw [if_neg h1, if_pos h2, if_neg (by rw [h3]; decide)]; rfl], rfl⟩) (by repeat (first | (with_reducible exact Fin.done (by repeat (first | (with_reducible exact Rest.here) | apply Rest.there))) | (apply Fin.cons (by first | ((repeat (first | (with_reducible exact F0 _) | apply F1)); done) | (repeat (first | exact F0 _ | apply F1))))))
    · try simp only [ZA, ZB, ZC, ZD, ZE, ZF, ZG, ZH, ZI, ZJ, ZK, ZL, ZM, ZN, ZO, ZP, ZQ, ZR] at h2
      refine Run.sr ?_
      refine RunL.pure (Pure.eql rfl rfl) (Wt.none rfl) rfl rfl ?_
      refine RunL.as rfl rfl ?_
      refine RunL.nil ?_
      refine Run.cond rfl (fun h3 => ?_) (fun h3 => ?_)
      · try simp only [ZA, ZB, ZC, ZD, ZE, ZF, ZG, ZH, ZI, ZJ, ZK, ZL, ZM, ZN, ZO, ZP, ZQ, ZR] at h3
        refine Run.region ?_
        refine RunL.pure (Pure.fieldAddr rfl fo50_8) (Wt.none rfl) rfl rfl ?_
        first | refine RunL.load1 rfl (by first | ((repeat (first | (with_reducible exact F0 _) | apply F1)); done) | (repeat (first | exact F0 _ | apply F1))) (by rfl) agg3 (Wt.none rfl) rfl ?_ | refine RunL.load1R rfl (by assumption) (by rfl) agg3 (Wt.none rfl) rfl ?_
        refine RunL.pure (Pure.fieldAddr rfl fo50_8) (Wt.none rfl) rfl rfl ?_
        refine RunL.store1A (cs' := (cEdu ({ baseE e with state := e.state }))) rfl rfl (by first | ((repeat (first | (with_reducible exact F0 _) | apply F1)); done) | (repeat (first | exact F0 _ | apply F1))) sz3 (by rfl) (by first | exact Nat.le_of_ble_eq_true rfl | (simp; done) | (simp; omega)) rfl (Wt.none rfl) ?_
        refine RunL.nil ?_
        refine Run.inBlock ?_
        refine Run.sr ?_
        first | refine RunL.loadA (vs := (cEdu ({ baseE e with state := e.state }))) rfl (by first | ((repeat (first | (with_reducible exact F0 _) | apply F1)); done) | (repeat (first | exact F0 _ | apply F1))) agg50 sz50 (by first | exact Nat.le_of_ble_eq_true rfl | (simp; done) | (simp; omega)) rfl (Wt.none rfl) rfl ?_ | refine RunL.loadNR (vs := (cEdu ({ baseE e with state := e.state }))) rfl (by assumption) agg50 sz50 (by first | exact Nat.le_of_ble_eq_true rfl | (simp; done) | (simp; omega)) rfl (Wt.none rfl) rfl ?_
        refine RunL.storeW (xs := (cEdu ({ baseE e with state := e.state }))) rfl rfl (by first | ((repeat (first | (with_reducible exact F0 _) | apply F1)); done) | (repeat (first | exact F0 _ | apply F1))) sz50 (by rfl) (by rfl) (by rfl) (Wt.none rfl) ?_
        refine RunL.nil ?_
        exact Run.ret Try.func77 (resV1 rfl (Rv.cellN (us := (cEdu ({ baseE e with state := e.state }))) rfl (by first | ((repeat (first | (with_reducible exact F0 _) | apply F1)); done) | (repeat (first | exact F0 _ | apply F1))) agg50 sz50 (by first | exact Nat.le_of_ble_eq_true rfl | (simp; done) | (simp; omega)) rfl)) (by exact ⟨by rw [show namedE e = { baseE e with state := e.state } from by unfold namedE; rw [if_neg h1, if_neg h2, if_pos h3]], rfl⟩) (by repeat (first | (with_reducible exact Fin.done (by repeat (first | (with_reducible exact Rest.here) | apply Rest.there))) | (apply Fin.cons (by first | ((repeat (first | (with_reducible exact F0 _) | apply F1)); done) | (repeat (first | exact F0 _ | apply F1))))))
      · try simp only [ZA, ZB, ZC, ZD, ZE, ZF, ZG, ZH, ZI, ZJ, ZK, ZL, ZM, ZN, ZO, ZP, ZQ, ZR] at h3
        refine Run.skip ?_
        refine Run.inBlock ?_
        refine Run.sr ?_
        first | refine RunL.loadA (vs := (cEdu (baseE e))) rfl (by first | ((repeat (first | (with_reducible exact F0 _) | apply F1)); done) | (repeat (first | exact F0 _ | apply F1))) agg50 sz50 (by first | exact Nat.le_of_ble_eq_true rfl | (simp; done) | (simp; omega)) rfl (Wt.none rfl) rfl ?_ | refine RunL.loadNR (vs := (cEdu (baseE e))) rfl (by assumption) agg50 sz50 (by first | exact Nat.le_of_ble_eq_true rfl | (simp; done) | (simp; omega)) rfl (Wt.none rfl) rfl ?_
        refine RunL.storeW (xs := (cEdu (baseE e))) rfl rfl (by first | ((repeat (first | (with_reducible exact F0 _) | apply F1)); done) | (repeat (first | exact F0 _ | apply F1))) sz50 (by rfl) (by rfl) (by rfl) (Wt.none rfl) ?_
        refine RunL.nil ?_
        exact Run.ret Try.func77 (resV1 rfl (Rv.cellN (us := (cEdu (baseE e))) rfl (by first | ((repeat (first | (with_reducible exact F0 _) | apply F1)); done) | (repeat (first | exact F0 _ | apply F1))) agg50 sz50 (by first | exact Nat.le_of_ble_eq_true rfl | (simp; done) | (simp; omega)) rfl)) (by exact ⟨by rw [show namedE e = baseE e from by unfold namedE; rw [if_neg h1, if_neg h2, if_neg h3]], rfl⟩) (by repeat (first | (with_reducible exact Fin.done (by repeat (first | (with_reducible exact Rest.here) | apply Rest.there))) | (apply Fin.cons (by first | ((repeat (first | (with_reducible exact F0 _) | apply F1)); done) | (repeat (first | exact F0 _ | apply F1))))))

set_option maxRecDepth 100000 in
theorem within_ctr {G : Gp} {n l h : Int} :
    Ctr Try.prog G 83 [.int .i64 n, .int .i64 l, .int .i64 h] [] (fun F v A => v = .bool (decide (l ≤ n) && decide (n ≤ h)) ∧ A = F) := by
  refine Ctr.intro Try.func83 rfl (by kernel_rfl) rfl (fun F => ?_)
  simp only [List.nil_append]
  refine Run.sr ?_
  refine RunL.as rfl rfl ?_
  refine RunL.nil ?_
  refine Run.sr ?_
  refine RunL.mv rfl rfl ?_
  refine RunL.mv rfl rfl ?_
  refine RunL.pure (Pure.geq rfl rfl) (Wt.none rfl) rfl rfl ?_
  refine RunL.mv rfl rfl ?_
  refine RunL.split (d := 10) rfl (fun h1 => ?_) (fun h1 => ?_)
  · try simp only [ZA, ZB, ZC, ZD, ZE, ZF, ZG, ZH, ZI, ZJ, ZK, ZL, ZM, ZN, ZO, ZP, ZQ, ZR] at h1
    refine RunL.pure (Pure.move rfl) (Wt.yes rfl rfl rfl) rfl rfl ?_
    refine RunL.pure (Pure.move rfl) (Wt.yes rfl rfl rfl) rfl rfl ?_
    refine RunL.pure (Pure.leq rfl rfl) (Wt.yes rfl rfl rfl) rfl rfl ?_
    refine RunL.pure (Pure.pickT rfl rfl) (Wt.none rfl) rfl rfl ?_
    refine RunL.as rfl rfl ?_
    refine RunL.nil ?_
    exact Run.ret Try.func83 (res1 rfl rfl) (by exact ⟨by rw [decide_eq_true h1]; rfl, rfl⟩) (by repeat (first | (with_reducible exact Fin.done (by repeat (first | (with_reducible exact Rest.here) | apply Rest.there))) | (apply Fin.cons (by first | ((repeat (first | (with_reducible exact F0 _) | apply F1)); done) | (repeat (first | exact F0 _ | apply F1))))))
  · try simp only [ZA, ZB, ZC, ZD, ZE, ZF, ZG, ZH, ZI, ZJ, ZK, ZL, ZM, ZN, ZO, ZP, ZQ, ZR] at h1
    refine RunL.not (Wt.no rfl rfl rfl) rfl rfl ?_
    refine RunL.not (Wt.no rfl rfl rfl) rfl rfl ?_
    refine RunL.not (Wt.no rfl rfl rfl) rfl rfl ?_
    refine RunL.pure (Pure.pickF rfl rfl) (Wt.none rfl) rfl rfl ?_
    refine RunL.as rfl rfl ?_
    refine RunL.nil ?_
    exact Run.ret Try.func83 (res1 rfl rfl) (by exact ⟨by rw [decide_eq_false (by omega)]; rfl, rfl⟩) (by repeat (first | (with_reducible exact Fin.done (by repeat (first | (with_reducible exact Rest.here) | apply Rest.there))) | (apply Fin.cons (by first | ((repeat (first | (with_reducible exact F0 _) | apply F1)); done) | (repeat (first | exact F0 _ | apply F1))))))

set_option maxRecDepth 100000 in
theorem asks2_ctr {G : Gp} {e : Edu} :
    Ctr Try.prog G 84 [.agg (cEdu e).toArray] [] (fun F v A => v = .bool false ∧ A = F) := by
  refine Ctr.intro Try.func84 rfl (by kernel_rfl) rfl (fun F => ?_)
  simp only [List.nil_append]
  refine Run.sr ?_
  refine RunL.boxA (xs := (cEdu e)) rfl (Wt.none rfl) rfl ?_; intro b1
  refine RunL.as rfl rfl ?_
  refine RunL.nil ?_
  refine Run.lendAll (Q := row b1 50 _) Lends.row (by first | ((repeat (first | (with_reducible exact F0 _) | apply F1)); done) | (repeat (first | exact F0 _ | apply F1))) (fun G1 hleG1 hrb1 => ?_)
  refine Run.sr ?_
  refine RunL.as rfl rfl ?_
  refine RunL.nil ?_
  exact Run.ret Try.func84 (res1 rfl rfl) (by exact ⟨rfl, rfl⟩) (by repeat (first | (with_reducible exact Fin.done (by repeat (first | (with_reducible exact Rest.here) | apply Rest.there))) | (apply Fin.cons (by first | ((repeat (first | (with_reducible exact F0 _) | apply F1)); done) | (repeat (first | exact F0 _ | apply F1))))))

set_option maxRecDepth 100000 in
theorem asks3_ctr {G : Gp} {e : Edu} (hs : eduSmall e) :
    Ctr Try.prog G 85 [.agg (cEdu e).toArray] [] (fun F v A => v = .bool (namedB 33 (bl e.room) && (eventB (bl e.event) && threadB (bl e.thread))) ∧ A = F) := by
  refine Ctr.intro Try.func85 rfl (by kernel_rfl) rfl (fun F => ?_)
  simp only [List.nil_append]
  obtain ⟨hs1, hs2, hs3, hs4⟩ := hs
  refine Run.sr ?_
  refine RunL.boxA (xs := (cEdu e)) rfl (Wt.none rfl) rfl ?_; intro b1
  refine RunL.as rfl rfl ?_
  refine RunL.nil ?_
  refine Run.lendAll (Q := row b1 50 _) Lends.row (by first | ((repeat (first | (with_reducible exact F0 _) | apply F1)); done) | (repeat (first | exact F0 _ | apply F1))) (fun G1 hleG1 hrb1 => ?_)
  refine Run.sr ?_
  refine RunL.pure (Pure.fieldAddr rfl fo50_1) (Wt.none rfl) rfl rfl ?_
  first | refine RunL.load1 rfl (by first | ((repeat (first | (with_reducible exact F0 _) | apply F1)); done) | (repeat (first | exact F0 _ | apply F1))) (by rfl) agg9 (Wt.none rfl) rfl ?_ | refine RunL.load1R rfl (by assumption) (by rfl) agg9 (Wt.none rfl) rfl ?_
  refine RunL.call rfl rfl (by rfl) (by repeat (first | (with_reducible exact Take.nil _) | (apply Take.cons (by first | ((repeat (first | (with_reducible exact F0 _) | apply F1)); done) | (repeat (first | exact F0 _ | apply F1)))))) (Room_ctr (by first | assumption | omega | (unfold eduSmall at hs; omega))) (Wt.none rfl) rfl ?_
  rintro _ _ ⟨rfl, hA_⟩
  replace hA_ := hA_.symm; subst hA_
  refine RunL.mv rfl rfl ?_
  refine RunL.split (d := 6) rfl (fun h1 => ?_) (fun h1 => ?_)
  · try simp only [ZA, ZB, ZC, ZD, ZE, ZF, ZG, ZH, ZI, ZJ, ZK, ZL, ZM, ZN, ZO, ZP, ZQ, ZR] at h1
    refine RunL.pure (Pure.fieldAddr rfl fo50_3) (Wt.yes rfl rfl rfl) rfl rfl ?_
    first | refine RunL.load1 rfl (by first | ((repeat (first | (with_reducible exact F0 _) | apply F1)); done) | (repeat (first | exact F0 _ | apply F1))) (by rfl) agg9 (Wt.yes rfl rfl rfl) rfl ?_ | refine RunL.load1R rfl (by assumption) (by rfl) agg9 (Wt.yes rfl rfl rfl) rfl ?_
    refine RunL.call rfl rfl (by rfl) (by repeat (first | (with_reducible exact Take.nil _) | (apply Take.cons (by first | ((repeat (first | (with_reducible exact F0 _) | apply F1)); done) | (repeat (first | exact F0 _ | apply F1)))))) (nEvent_ctr (by first | assumption | omega | (unfold eduSmall at hs; omega))) (Wt.yes rfl rfl rfl) rfl ?_
    rintro _ _ ⟨rfl, hA_⟩
    replace hA_ := hA_.symm; subst hA_
    refine RunL.pure (Pure.pickT rfl rfl) (Wt.none rfl) rfl rfl ?_
    refine RunL.mv rfl rfl ?_
    refine RunL.split (d := 11) rfl (fun h2 => ?_) (fun h2 => ?_)
    · try simp only [ZA, ZB, ZC, ZD, ZE, ZF, ZG, ZH, ZI, ZJ, ZK, ZL, ZM, ZN, ZO, ZP, ZQ, ZR] at h2
      refine RunL.pure (Pure.fieldAddr rfl fo50_4) (Wt.yes rfl rfl rfl) rfl rfl ?_
      first | refine RunL.load1 rfl (by first | ((repeat (first | (with_reducible exact F0 _) | apply F1)); done) | (repeat (first | exact F0 _ | apply F1))) (by rfl) agg9 (Wt.yes rfl rfl rfl) rfl ?_ | refine RunL.load1R rfl (by assumption) (by rfl) agg9 (Wt.yes rfl rfl rfl) rfl ?_
      refine RunL.call rfl rfl (by rfl) (by repeat (first | (with_reducible exact Take.nil _) | (apply Take.cons (by first | ((repeat (first | (with_reducible exact F0 _) | apply F1)); done) | (repeat (first | exact F0 _ | apply F1)))))) (nThread_ctr (by first | assumption | omega | (unfold eduSmall at hs; omega))) (Wt.yes rfl rfl rfl) rfl ?_
      rintro _ _ ⟨rfl, hA_⟩
      replace hA_ := hA_.symm; subst hA_
      refine RunL.pure (Pure.pickT rfl rfl) (Wt.none rfl) rfl rfl ?_
      refine RunL.as rfl rfl ?_
      refine RunL.nil ?_
      exact Run.ret Try.func85 (res1 rfl rfl) (by exact ⟨by rw [h1, h2]; rfl, rfl⟩) (by repeat (first | (with_reducible exact Fin.done (by repeat (first | (with_reducible exact Rest.here) | apply Rest.there))) | (apply Fin.cons (by first | ((repeat (first | (with_reducible exact F0 _) | apply F1)); done) | (repeat (first | exact F0 _ | apply F1))))))
    · try simp only [ZA, ZB, ZC, ZD, ZE, ZF, ZG, ZH, ZI, ZJ, ZK, ZL, ZM, ZN, ZO, ZP, ZQ, ZR] at h2
      refine RunL.not (Wt.no rfl rfl rfl) rfl rfl ?_
      refine RunL.not (Wt.no rfl rfl rfl) rfl rfl ?_
      refine RunL.not (Wt.no rfl rfl rfl) rfl rfl ?_
      refine RunL.pure (Pure.pickF rfl rfl) (Wt.none rfl) rfl rfl ?_
      refine RunL.as rfl rfl ?_
      refine RunL.nil ?_
      exact Run.ret Try.func85 (res1 rfl rfl) (by exact ⟨by rw [h1, h2]; rfl, rfl⟩) (by repeat (first | (with_reducible exact Fin.done (by repeat (first | (with_reducible exact Rest.here) | apply Rest.there))) | (apply Fin.cons (by first | ((repeat (first | (with_reducible exact F0 _) | apply F1)); done) | (repeat (first | exact F0 _ | apply F1))))))
  · try simp only [ZA, ZB, ZC, ZD, ZE, ZF, ZG, ZH, ZI, ZJ, ZK, ZL, ZM, ZN, ZO, ZP, ZQ, ZR] at h1
    refine RunL.not (Wt.no rfl rfl rfl) rfl rfl ?_
    refine RunL.not (Wt.no rfl rfl rfl) rfl rfl ?_
    refine RunL.not (Wt.no rfl rfl rfl) rfl rfl ?_
    refine RunL.pure (Pure.pickF rfl rfl) (Wt.none rfl) rfl rfl ?_
    refine RunL.mv rfl rfl ?_
    refine RunL.not (Wt.no rfl rfl rfl) rfl rfl ?_
    refine RunL.not (Wt.no rfl rfl rfl) rfl rfl ?_
    refine RunL.not (Wt.no rfl rfl rfl) rfl rfl ?_
    refine RunL.pure (Pure.pickF rfl rfl) (Wt.none rfl) rfl rfl ?_
    refine RunL.as rfl rfl ?_
    refine RunL.nil ?_
    exact Run.ret Try.func85 (res1 rfl rfl) (by exact ⟨by rw [h1]; rfl, rfl⟩) (by repeat (first | (with_reducible exact Fin.done (by repeat (first | (with_reducible exact Rest.here) | apply Rest.there))) | (apply Fin.cons (by first | ((repeat (first | (with_reducible exact F0 _) | apply F1)); done) | (repeat (first | exact F0 _ | apply F1))))))

set_option maxRecDepth 100000 in
theorem asks4_ctr {G : Gp} {e : Edu} {b : Nat} (hr : Ro G b 99 [.func (.func 83) #[] #[]]) (hs : eduSmall e) :
    Ctr Try.prog G 89 [.agg (cEdu e).toArray, .pointer (some ⟨b, 0, none⟩)] [] (fun F v A => v = .bool (namedB 33 (bl e.room) && (!e.typing || (decide (1 ≤ e.span) && decide (e.span ≤ 60)))) ∧ A = F) := by
  refine Ctr.intro Try.func89 rfl (by kernel_rfl) rfl (fun F => ?_)
  simp only [List.nil_append]
  obtain ⟨hs1, hs2, hs3, hs4⟩ := hs
  refine Run.sr ?_
  refine RunL.boxA (xs := (cEdu e)) rfl (Wt.none rfl) rfl ?_; intro b2
  refine RunL.as rfl rfl ?_
  refine RunL.nil ?_
  refine Run.lendAll (Q := row b2 50 _) Lends.row (by first | ((repeat (first | (with_reducible exact F0 _) | apply F1)); done) | (repeat (first | exact F0 _ | apply F1))) (fun G2 hleG2 hrb2 => ?_)
  replace hr := hr.mono hleG2
  refine Run.sr ?_
  refine RunL.pure (Pure.fieldAddr rfl fo50_1) (Wt.none rfl) rfl rfl ?_
  first | refine RunL.load1 rfl (by first | ((repeat (first | (with_reducible exact F0 _) | apply F1)); done) | (repeat (first | exact F0 _ | apply F1))) (by rfl) agg9 (Wt.none rfl) rfl ?_ | refine RunL.load1R rfl (by assumption) (by rfl) agg9 (Wt.none rfl) rfl ?_
  refine RunL.call rfl rfl (by rfl) (by repeat (first | (with_reducible exact Take.nil _) | (apply Take.cons (by first | ((repeat (first | (with_reducible exact F0 _) | apply F1)); done) | (repeat (first | exact F0 _ | apply F1)))))) (Room_ctr (by first | assumption | omega | (unfold eduSmall at hs; omega))) (Wt.none rfl) rfl ?_
  rintro _ _ ⟨rfl, hA_⟩
  replace hA_ := hA_.symm; subst hA_
  refine RunL.mv rfl rfl ?_
  refine RunL.split (d := 7) rfl (fun h1 => ?_) (fun h1 => ?_)
  · try simp only [ZA, ZB, ZC, ZD, ZE, ZF, ZG, ZH, ZI, ZJ, ZK, ZL, ZM, ZN, ZO, ZP, ZQ, ZR] at h1
    refine RunL.pure (Pure.fieldAddr rfl fo50_6) (Wt.yes rfl rfl rfl) rfl rfl ?_
    first | refine RunL.load1 rfl (by first | ((repeat (first | (with_reducible exact F0 _) | apply F1)); done) | (repeat (first | exact F0 _ | apply F1))) (by rfl) agg4 (Wt.yes rfl rfl rfl) rfl ?_ | refine RunL.load1R rfl (by assumption) (by rfl) agg4 (Wt.yes rfl rfl rfl) rfl ?_
    refine RunL.pure (Pure.not rfl) (Wt.yes rfl rfl rfl) rfl rfl ?_
    refine RunL.pure (Pure.move rfl) (Wt.yes rfl rfl rfl) rfl rfl ?_
    refine RunL.split (d := 11) rfl (fun h2 => ?_) (fun h2 => ?_)
    · try simp only [ZA, ZB, ZC, ZD, ZE, ZF, ZG, ZH, ZI, ZJ, ZK, ZL, ZM, ZN, ZO, ZP, ZQ, ZR] at h2
      refine RunL.not (Wt.no rfl rfl rfl) rfl rfl ?_
      refine RunL.not (Wt.no rfl rfl rfl) rfl rfl ?_
      refine RunL.not (Wt.no rfl rfl rfl) rfl rfl ?_
      refine RunL.not (Wt.no rfl rfl rfl) rfl rfl ?_
      refine RunL.pure (Pure.pickT rfl rfl) (Wt.yes rfl rfl rfl) rfl rfl ?_
      refine RunL.pure (Pure.pickT rfl rfl) (Wt.none rfl) rfl rfl ?_
      refine RunL.as rfl rfl ?_
      refine RunL.nil ?_
      exact Run.ret Try.func89 (res1 rfl rfl) (by exact ⟨by rw [h1, h2]; rfl, rfl⟩) (by repeat (first | (with_reducible exact Fin.done (by repeat (first | (with_reducible exact Rest.here) | apply Rest.there))) | (apply Fin.cons (by first | ((repeat (first | (with_reducible exact F0 _) | apply F1)); done) | (repeat (first | exact F0 _ | apply F1))))))
    · try simp only [ZA, ZB, ZC, ZD, ZE, ZF, ZG, ZH, ZI, ZJ, ZK, ZL, ZM, ZN, ZO, ZP, ZQ, ZR] at h2
      first | refine RunL.load1 rfl (by first | ((repeat (first | (with_reducible exact F0 _) | apply F1)); done) | (repeat (first | exact F0 _ | apply F1))) (by rfl) agg99 (Wt.yes rfl rfl rfl) rfl ?_ | refine RunL.load1R rfl (by assumption) (by rfl) agg99 (Wt.yes rfl rfl rfl) rfl ?_
      refine RunL.pure (Pure.fieldAddr rfl fo50_7) (Wt.yes rfl rfl rfl) rfl rfl ?_
      first | refine RunL.load1 rfl (by first | ((repeat (first | (with_reducible exact F0 _) | apply F1)); done) | (repeat (first | exact F0 _ | apply F1))) (by rfl) agg3 (Wt.yes rfl rfl rfl) rfl ?_ | refine RunL.load1R rfl (by assumption) (by rfl) agg3 (Wt.yes rfl rfl rfl) rfl ?_
      refine RunL.call rfl rfl (by rfl) (by repeat (first | (with_reducible exact Take.nil _) | (apply Take.cons (by first | ((repeat (first | (with_reducible exact F0 _) | apply F1)); done) | (repeat (first | exact F0 _ | apply F1)))))) (within_ctr (n := e.span) (l := 1) (h := 60)) (Wt.yes rfl rfl rfl) rfl ?_
      rintro _ _ ⟨rfl, hA_⟩
      replace hA_ := hA_.symm; subst hA_
      refine RunL.pure (Pure.pickF rfl rfl) (Wt.yes rfl rfl rfl) rfl rfl ?_
      refine RunL.pure (Pure.pickT rfl rfl) (Wt.none rfl) rfl rfl ?_
      refine RunL.as rfl rfl ?_
      refine RunL.nil ?_
      exact Run.ret Try.func89 (res1 rfl rfl) (by exact ⟨by rw [h1, h2]; rfl, rfl⟩) (by repeat (first | (with_reducible exact Fin.done (by repeat (first | (with_reducible exact Rest.here) | apply Rest.there))) | (apply Fin.cons (by first | ((repeat (first | (with_reducible exact F0 _) | apply F1)); done) | (repeat (first | exact F0 _ | apply F1))))))
  · try simp only [ZA, ZB, ZC, ZD, ZE, ZF, ZG, ZH, ZI, ZJ, ZK, ZL, ZM, ZN, ZO, ZP, ZQ, ZR] at h1
    refine RunL.not (Wt.no rfl rfl rfl) rfl rfl ?_
    refine RunL.not (Wt.no rfl rfl rfl) rfl rfl ?_
    refine RunL.not (Wt.no rfl rfl rfl) rfl rfl ?_
    refine RunL.not (Wt.no rfl rfl rfl) rfl rfl ?_
    refine RunL.not (Wt.un rfl rfl rfl) rfl rfl ?_
    refine RunL.not (Wt.un rfl rfl rfl) rfl rfl ?_
    refine RunL.not (Wt.un rfl rfl rfl) rfl rfl ?_
    refine RunL.not (Wt.un rfl rfl rfl) rfl rfl ?_
    refine RunL.not (Wt.no rfl rfl rfl) rfl rfl ?_
    refine RunL.pure (Pure.pickF rfl rfl) (Wt.none rfl) rfl rfl ?_
    refine RunL.as rfl rfl ?_
    refine RunL.nil ?_
    exact Run.ret Try.func89 (res1 rfl rfl) (by exact ⟨by rw [h1]; rfl, rfl⟩) (by repeat (first | (with_reducible exact Fin.done (by repeat (first | (with_reducible exact Rest.here) | apply Rest.there))) | (apply Fin.cons (by first | ((repeat (first | (with_reducible exact F0 _) | apply F1)); done) | (repeat (first | exact F0 _ | apply F1))))))

set_option maxRecDepth 100000 in
theorem asks5_ctr {G : Gp} {e : Edu} {b : Nat} (hr : Ro G b 99 [.func (.func 83) #[] #[]]) :
    Ctr Try.prog G 90 [.agg (cEdu e).toArray, .pointer (some ⟨b, 0, none⟩)] [] (fun F v A => v = .bool (decide (0 ≤ e.state) && decide (e.state ≤ 2)) ∧ A = F) := by
  refine Ctr.intro Try.func90 rfl (by kernel_rfl) rfl (fun F => ?_)
  simp only [List.nil_append]
  refine Run.sr ?_
  refine RunL.boxA (xs := (cEdu e)) rfl (Wt.none rfl) rfl ?_; intro b2
  refine RunL.as rfl rfl ?_
  refine RunL.nil ?_
  refine Run.lendAll (Q := row b2 50 _) Lends.row (by first | ((repeat (first | (with_reducible exact F0 _) | apply F1)); done) | (repeat (first | exact F0 _ | apply F1))) (fun G2 hleG2 hrb2 => ?_)
  replace hr := hr.mono hleG2
  refine Run.sr ?_
  first | refine RunL.load1 rfl (by first | ((repeat (first | (with_reducible exact F0 _) | apply F1)); done) | (repeat (first | exact F0 _ | apply F1))) (by rfl) agg99 (Wt.none rfl) rfl ?_ | refine RunL.load1R rfl (by assumption) (by rfl) agg99 (Wt.none rfl) rfl ?_
  refine RunL.pure (Pure.fieldAddr rfl fo50_8) (Wt.none rfl) rfl rfl ?_
  first | refine RunL.load1 rfl (by first | ((repeat (first | (with_reducible exact F0 _) | apply F1)); done) | (repeat (first | exact F0 _ | apply F1))) (by rfl) agg3 (Wt.none rfl) rfl ?_ | refine RunL.load1R rfl (by assumption) (by rfl) agg3 (Wt.none rfl) rfl ?_
  refine RunL.call rfl rfl (by rfl) (by repeat (first | (with_reducible exact Take.nil _) | (apply Take.cons (by first | ((repeat (first | (with_reducible exact F0 _) | apply F1)); done) | (repeat (first | exact F0 _ | apply F1)))))) (within_ctr (n := e.state) (l := 0) (h := 2)) (Wt.none rfl) rfl ?_
  rintro _ _ ⟨rfl, hA_⟩
  replace hA_ := hA_.symm; subst hA_
  refine RunL.as rfl rfl ?_
  refine RunL.nil ?_
  exact Run.ret Try.func90 (res1 rfl rfl) (by exact ⟨rfl, rfl⟩) (by repeat (first | (with_reducible exact Fin.done (by repeat (first | (with_reducible exact Rest.here) | apply Rest.there))) | (apply Fin.cons (by first | ((repeat (first | (with_reducible exact F0 _) | apply F1)); done) | (repeat (first | exact F0 _ | apply F1))))))

set_option maxRecDepth 100000 in
theorem asks_ctr {G : Gp} :
    Ctr Try.prog G 75 [] [] (fun F v A => ∃ b1 b, v = .slice (some ⟨b, 0, none⟩) 4 4 ∧ A = Sl 56 1 (some ⟨b, 0, none⟩) 4 4 [.func (.func 84) #[] #[], .func (.func 85) #[] #[], .func (.func 89) #[] #[.pointer (some ⟨b1, 0, none⟩)], .func (.func 90) #[] #[.pointer (some ⟨b1, 0, none⟩)]] :: row b1 99 [.func (.func 83) #[] #[]] :: F) := by
  refine Ctr.intro Try.func75 rfl (by kernel_rfl) rfl (fun F => ?_)
  simp only [List.nil_append]
  refine Run.sr ?_
  refine RunL.as rfl rfl ?_
  refine RunL.nil ?_
  refine Run.sr ?_
  refine RunL.alloc zz99 (Wt.none rfl) rfl ?_; intro b1
  refine RunL.store1 rfl rfl (by first | ((repeat (first | (with_reducible exact F0 _) | apply F1)); done) | (repeat (first | exact F0 _ | apply F1))) sz99 (by rfl) (by first | exact Nat.le_of_ble_eq_true rfl | (simp; done) | (simp; omega)) (Wt.none rfl) ?_
  try simp only [List.set_cons_zero, List.set_cons_succ]
  refine RunL.nil ?_
  refine Run.sr ?_
  refine RunL.pure (Pure.makeFunc rfl rfl) (Wt.none rfl) rfl rfl ?_
  refine RunL.pure (Pure.makeFunc rfl rfl) (Wt.none rfl) rfl rfl ?_
  refine RunL.lit (vals := [_, _, _, _]) (vs := [_, _, _, _]) und93 sz56 zz56 rfl rfl rfl rfl rfl rfl (by simp [Value.cells, bv, cEdu, cPrc]) rfl (Wt.none rfl) rfl ?_; intro b4
  refine RunL.as rfl rfl ?_
  refine RunL.nil ?_
  exact Run.ret Try.func75 (res1 rfl rfl) (by exact ⟨b1, b4, rfl, rfl⟩) (by repeat (first | (with_reducible exact Fin.done (by repeat (first | (with_reducible exact Rest.here) | apply Rest.there))) | (apply Fin.cons (by first | ((repeat (first | (with_reducible exact F0 _) | apply F1)); done) | (repeat (first | exact F0 _ | apply F1))))))

set_option maxRecDepth 100000 in
theorem in_ctr {G : Gp} {n : Int} :
    Ctr Try.prog G 76 [.int .i64 n] [] (fun F v A => v = .bool (inR n) ∧ A = F) := by
  refine Ctr.intro Try.func76 rfl (by kernel_rfl) rfl (fun F => ?_)
  simp only [List.nil_append]
  refine Run.sr ?_
  refine RunL.as rfl rfl ?_
  refine RunL.nil ?_
  refine Run.sr ?_
  refine RunL.mv rfl rfl ?_
  refine RunL.pure (Pure.geq rfl rfl) (Wt.none rfl) rfl rfl ?_
  refine RunL.mv rfl rfl ?_
  refine RunL.split (d := 5) rfl (fun h1 => ?_) (fun h1 => ?_)
  · try simp only [ZA, ZB, ZC, ZD, ZE, ZF, ZG, ZH, ZI, ZJ, ZK, ZL, ZM, ZN, ZO, ZP, ZQ, ZR] at h1
    refine RunL.pure (Pure.move rfl) (Wt.yes rfl rfl rfl) rfl rfl ?_
    refine RunL.pure (Pure.leq rfl rfl) (Wt.yes rfl rfl rfl) rfl rfl ?_
    refine RunL.pure (Pure.pickT rfl rfl) (Wt.none rfl) rfl rfl ?_
    refine RunL.as rfl rfl ?_
    refine RunL.nil ?_
    exact Run.ret Try.func76 (res1 rfl rfl) (by exact ⟨by rw [inR, decide_eq_true h1]; rfl, rfl⟩) (by repeat (first | (with_reducible exact Fin.done (by repeat (first | (with_reducible exact Rest.here) | apply Rest.there))) | (apply Fin.cons (by first | ((repeat (first | (with_reducible exact F0 _) | apply F1)); done) | (repeat (first | exact F0 _ | apply F1))))))
  · try simp only [ZA, ZB, ZC, ZD, ZE, ZF, ZG, ZH, ZI, ZJ, ZK, ZL, ZM, ZN, ZO, ZP, ZQ, ZR] at h1
    refine RunL.not (Wt.no rfl rfl rfl) rfl rfl ?_
    refine RunL.not (Wt.no rfl rfl rfl) rfl rfl ?_
    refine RunL.pure (Pure.pickF rfl rfl) (Wt.none rfl) rfl rfl ?_
    refine RunL.as rfl rfl ?_
    refine RunL.nil ?_
    exact Run.ret Try.func76 (res1 rfl rfl) (by exact ⟨by rw [inR, decide_eq_false (by omega)]; rfl, rfl⟩) (by repeat (first | (with_reducible exact Fin.done (by repeat (first | (with_reducible exact Rest.here) | apply Rest.there))) | (apply Fin.cons (by first | ((repeat (first | (with_reducible exact F0 _) | apply F1)); done) | (repeat (first | exact F0 _ | apply F1))))))

set_option maxRecDepth 100000 in
theorem Local_ctr {G : Gp} {e : Edu} (hs : eduSmall e) :
    Ctr Try.prog G 62 [.agg (cEdu e).toArray] [] (fun F v A => v = .bool (eduLocal e) ∧ A = F) := by
  refine Ctr.intro Try.func62 rfl (by kernel_rfl) rfl (fun F => ?_)
  simp only [List.nil_append]
  refine Run.sr ?_
  refine RunL.boxA (xs := (cEdu e)) rfl (Wt.none rfl) rfl ?_; intro b1
  refine RunL.as rfl rfl ?_
  refine RunL.nil ?_
  refine Run.lendAll (Q := row b1 50 _) Lends.row (by first | ((repeat (first | (with_reducible exact F0 _) | apply F1)); done) | (repeat (first | exact F0 _ | apply F1))) (fun G1 hleG1 hrb1 => ?_)
  refine Run.seq ?_
  refine Run.seq ?_
  refine Run.regionD' (by kernel_rfl) (by kernel_rfl) (fun hok7 => ?_)
  refine RunD.pure (i := 0) hok7 rfl (by kernel_rfl) (Pure.fieldAddr rfl fo50_0) (Wt.none rfl) rfl rfl ?_
  refine RunD.load1R (i := 1) hok7 rfl (by kernel_rfl) rfl (by assumption) (by rfl) agg3 (Wt.none rfl) rfl ?_
  refine RunD.pure (i := 2) hok7 rfl (by kernel_rfl) (Pure.lss rfl rfl) (Wt.none rfl) rfl rfl ?_
  refine RunD.pure (i := 3) hok7 rfl (by kernel_rfl) (Pure.move rfl) (Wt.none rfl) rfl rfl ?_
  refine RunD.split (d := 7) rfl (fun h1 => ?_) (fun h1 => ?_)
  · try simp only [ZA, ZB, ZC, ZD, ZE, ZF, ZG, ZH, ZI, ZJ, ZK, ZL, ZM, ZN, ZO, ZP, ZQ, ZR] at h1
    refine RunD.not (i := 4) hok7 rfl (by kernel_rfl) rfl rfl (Wt.no rfl rfl rfl) ?_
    refine RunD.not (i := 5) hok7 rfl (by kernel_rfl) rfl rfl (Wt.no rfl rfl rfl) ?_
    refine RunD.not (i := 6) hok7 rfl (by kernel_rfl) rfl rfl (Wt.no rfl rfl rfl) ?_
    refine RunD.pure (i := 7) hok7 rfl (by kernel_rfl) (Pure.pickT rfl rfl) (Wt.none rfl) rfl rfl ?_
    refine RunD.pure (i := 8) hok7 rfl (by kernel_rfl) (Pure.move rfl) (Wt.none rfl) rfl rfl ?_
    refine RunD.not (i := 9) hok7 rfl (by kernel_rfl) rfl rfl (Wt.no rfl rfl rfl) ?_
    refine RunD.not (i := 10) hok7 rfl (by kernel_rfl) rfl rfl (Wt.no rfl rfl rfl) ?_
    refine RunD.not (i := 11) hok7 rfl (by kernel_rfl) rfl rfl (Wt.no rfl rfl rfl) ?_
    refine RunD.not (i := 12) hok7 rfl (by kernel_rfl) rfl rfl (Wt.no rfl rfl rfl) ?_
    refine RunD.not (i := 13) hok7 rfl (by kernel_rfl) rfl rfl (Wt.no rfl rfl rfl) ?_
    refine RunD.not (i := 14) hok7 rfl (by kernel_rfl) rfl rfl (Wt.no rfl rfl rfl) ?_
    refine RunD.not (i := 15) hok7 rfl (by kernel_rfl) rfl rfl (Wt.no rfl rfl rfl) ?_
    refine RunD.not (i := 16) hok7 rfl (by kernel_rfl) rfl rfl (Wt.no rfl rfl rfl) ?_
    refine RunD.pure (i := 17) hok7 rfl (by kernel_rfl) (Pure.pickT rfl rfl) (Wt.none rfl) rfl rfl ?_
    refine RunD.nilR (by kernel_rfl) ?_
    refine Run.condT rfl ?_
    refine Run.sr ?_
    refine RunL.as rfl rfl ?_
    refine RunL.nil ?_
    exact Run.ret Try.func62 (res1 rfl rfl) (by exact ⟨by rw [local_eq, decide_eq_false (by omega)]; rfl, rfl⟩) (by repeat (first | (with_reducible exact Fin.done (by repeat (first | (with_reducible exact Rest.here) | apply Rest.there))) | (apply Fin.cons (by first | ((repeat (first | (with_reducible exact F0 _) | apply F1)); done) | (repeat (first | exact F0 _ | apply F1))))))
  · try simp only [ZA, ZB, ZC, ZD, ZE, ZF, ZG, ZH, ZI, ZJ, ZK, ZL, ZM, ZN, ZO, ZP, ZQ, ZR] at h1
    refine RunD.pure (i := 4) hok7 rfl (by kernel_rfl) (Pure.fieldAddr rfl fo50_0) (Wt.yes rfl rfl rfl) rfl rfl ?_
    refine RunD.load1R (i := 5) hok7 rfl (by kernel_rfl) rfl (by assumption) (by rfl) agg3 (Wt.yes rfl rfl rfl) rfl ?_
    refine RunD.pure (i := 6) hok7 rfl (by kernel_rfl) (Pure.gtr rfl rfl) (Wt.yes rfl rfl rfl) rfl rfl ?_
    refine RunD.pure (i := 7) hok7 rfl (by kernel_rfl) (Pure.pickF rfl rfl) (Wt.none rfl) rfl rfl ?_
    refine RunD.pure (i := 8) hok7 rfl (by kernel_rfl) (Pure.move rfl) (Wt.none rfl) rfl rfl ?_
    refine RunD.split (d := 12) rfl (fun h2 => ?_) (fun h2 => ?_)
    · try simp only [ZA, ZB, ZC, ZD, ZE, ZF, ZG, ZH, ZI, ZJ, ZK, ZL, ZM, ZN, ZO, ZP, ZQ, ZR] at h2
      refine RunD.not (i := 9) hok7 rfl (by kernel_rfl) rfl rfl (Wt.no rfl rfl rfl) ?_
      refine RunD.not (i := 10) hok7 rfl (by kernel_rfl) rfl rfl (Wt.no rfl rfl rfl) ?_
      refine RunD.not (i := 11) hok7 rfl (by kernel_rfl) rfl rfl (Wt.no rfl rfl rfl) ?_
      refine RunD.not (i := 12) hok7 rfl (by kernel_rfl) rfl rfl (Wt.no rfl rfl rfl) ?_
      refine RunD.not (i := 13) hok7 rfl (by kernel_rfl) rfl rfl (Wt.no rfl rfl rfl) ?_
      refine RunD.not (i := 14) hok7 rfl (by kernel_rfl) rfl rfl (Wt.no rfl rfl rfl) ?_
      refine RunD.not (i := 15) hok7 rfl (by kernel_rfl) rfl rfl (Wt.no rfl rfl rfl) ?_
      refine RunD.not (i := 16) hok7 rfl (by kernel_rfl) rfl rfl (Wt.no rfl rfl rfl) ?_
      refine RunD.pure (i := 17) hok7 rfl (by kernel_rfl) (Pure.pickT rfl rfl) (Wt.none rfl) rfl rfl ?_
      refine RunD.nilR (by kernel_rfl) ?_
      refine Run.condT rfl ?_
      refine Run.sr ?_
      refine RunL.as rfl rfl ?_
      refine RunL.nil ?_
      exact Run.ret Try.func62 (res1 rfl rfl) (by exact ⟨by rw [local_eq, decide_eq_false (show ¬ e.kind ≤ 3 from by omega)]; simp, rfl⟩) (by repeat (first | (with_reducible exact Fin.done (by repeat (first | (with_reducible exact Rest.here) | apply Rest.there))) | (apply Fin.cons (by first | ((repeat (first | (with_reducible exact F0 _) | apply F1)); done) | (repeat (first | exact F0 _ | apply F1))))))
    · try simp only [ZA, ZB, ZC, ZD, ZE, ZF, ZG, ZH, ZI, ZJ, ZK, ZL, ZM, ZN, ZO, ZP, ZQ, ZR] at h2
      refine RunD.pure (i := 10) hok7 rfl (by kernel_rfl) (Pure.fieldAddr rfl fo50_0) (Wt.yes rfl rfl rfl) rfl rfl ?_
      refine RunD.load1R (i := 11) hok7 rfl (by kernel_rfl) rfl (by assumption) (by rfl) agg3 (Wt.yes rfl rfl rfl) rfl ?_
      refine RunD.loadNR (vs := (cEdu e)) (i := 14) hok7 rfl (by kernel_rfl) rfl (by assumption) agg50 sz50 (by first | exact Nat.le_of_ble_eq_true rfl | (simp; done) | (simp; omega)) rfl (Wt.yes rfl rfl rfl) rfl ?_
      refine RunD.one (i := 9) (by kernel_rfl) rfl ?_
      refine RunL.call rfl rfl (by rfl) (by repeat (first | (with_reducible exact Take.nil _) | (apply Take.cons (by first | ((repeat (first | (with_reducible exact F0 _) | apply F1)); done) | (repeat (first | exact F0 _ | apply F1)))))) (asks_ctr) (Wt.yes rfl rfl rfl) rfl ?_
      rintro _ _ ⟨bw, bf, rfl, hA_⟩
      replace hA_ := hA_.symm; subst hA_
      refine RunL.nilD' ?_
      rcases (by omega : e.kind = 0 ∨ e.kind = 1 ∨ e.kind = 2 ∨ e.kind = 3) with hk | hk | hk | hk
      · skip
        refine RunD.lend (Q := Sl 56 1 (some ⟨bf, 0, none⟩) 4 4 _) (Lends.litRow (n := 4)) (by first | ((repeat (first | (with_reducible exact F0 _) | apply F1)); done) | (repeat (first | exact F0 _ | apply F1))) ?_; intro ga hlega ha backga
        have hrb1_ga := hrb1.mono hlega
        obtain ⟨postf, hf⟩ := ha
        refine RunD.lend (Q := row bw 99 _) Lends.row (by first | ((repeat (first | (with_reducible exact F0 _) | apply F1)); done) | (repeat (first | exact F0 _ | apply F1))) ?_; intro gb hlegb hbw backgb
        try (replace ha := ha.mono hlegb)
        have hrb1_gb := hrb1_ga.mono hlegb
        replace hf := hf.mono hlegb
        refine RunD.pure (i := 12) hok7 rfl (by kernel_rfl) (Pure.indexAddr rfl rfl und93 sz56 (by omega) (by omega)) (Wt.yes rfl rfl rfl) rfl rfl ?_
        refine RunD.load1R (i := 13) hok7 rfl (by kernel_rfl) rfl hf (by rw [hk]; rfl) agg56 (Wt.yes rfl rfl rfl) rfl ?_
        refine RunD.one (i := 15) (by kernel_rfl) rfl ?_
        refine RunL.call rfl rfl (by rfl) (by repeat (first | (with_reducible exact Take.nil _) | (apply Take.cons (by first | ((repeat (first | (with_reducible exact F0 _) | apply F1)); done) | (repeat (first | exact F0 _ | apply F1)))))) (asks2_ctr) (Wt.yes rfl rfl rfl) rfl ?_
        rintro _ _ ⟨rfl, hA_⟩
        replace hA_ := hA_.symm; subst hA_
        refine RunL.nilD' ?_
        have hask : asksB e = false := by unfold asksB; rw [if_neg (by omega), if_neg (by omega), if_neg (by omega)]
        refine RunD.pure (i := 16) hok7 rfl (by kernel_rfl) (Pure.not rfl) (Wt.yes rfl rfl rfl) rfl rfl ?_
        refine RunD.pure (i := 17) hok7 rfl (by kernel_rfl) (Pure.pickF rfl rfl) (Wt.none rfl) rfl rfl ?_
        refine RunD.nilB (by kernel_rfl) (fun w sw => backga _ _ (backgb _ _ (sw))) ?_
        refine Run.cond rfl (fun hx => ?_) (fun hx => ?_)
        · try simp only [ZA, ZB, ZC, ZD, ZE, ZF, ZG, ZH, ZI, ZJ, ZK, ZL, ZM, ZN, ZO, ZP, ZQ, ZR] at hx
          refine Run.sr ?_
          refine RunL.as rfl rfl ?_
          refine RunL.nil ?_
          exact Run.ret Try.func62 (res1 rfl rfl) (by exact ⟨by rw [local_eq, hask]; simp, rfl⟩) (by repeat (first | (with_reducible exact Fin.done (by repeat (first | (with_reducible exact Rest.here) | apply Rest.there))) | (apply Fin.cons (by first | ((repeat (first | (with_reducible exact F0 _) | apply F1)); done) | (repeat (first | exact F0 _ | apply F1))))))
        · try simp only [ZA, ZB, ZC, ZD, ZE, ZF, ZG, ZH, ZI, ZJ, ZK, ZL, ZM, ZN, ZO, ZP, ZQ, ZR] at hx
          exfalso; simp at hx
      · skip
        refine RunD.lend (Q := Sl 56 1 (some ⟨bf, 0, none⟩) 4 4 _) (Lends.litRow (n := 4)) (by first | ((repeat (first | (with_reducible exact F0 _) | apply F1)); done) | (repeat (first | exact F0 _ | apply F1))) ?_; intro ga hlega ha backga
        have hrb1_ga := hrb1.mono hlega
        obtain ⟨postf, hf⟩ := ha
        refine RunD.lend (Q := row bw 99 _) Lends.row (by first | ((repeat (first | (with_reducible exact F0 _) | apply F1)); done) | (repeat (first | exact F0 _ | apply F1))) ?_; intro gb hlegb hbw backgb
        try (replace ha := ha.mono hlegb)
        have hrb1_gb := hrb1_ga.mono hlegb
        replace hf := hf.mono hlegb
        refine RunD.pure (i := 12) hok7 rfl (by kernel_rfl) (Pure.indexAddr rfl rfl und93 sz56 (by omega) (by omega)) (Wt.yes rfl rfl rfl) rfl rfl ?_
        refine RunD.load1R (i := 13) hok7 rfl (by kernel_rfl) rfl hf (by rw [hk]; rfl) agg56 (Wt.yes rfl rfl rfl) rfl ?_
        refine RunD.one (i := 15) (by kernel_rfl) rfl ?_
        refine RunL.call rfl rfl (by rfl) (by repeat (first | (with_reducible exact Take.nil _) | (apply Take.cons (by first | ((repeat (first | (with_reducible exact F0 _) | apply F1)); done) | (repeat (first | exact F0 _ | apply F1)))))) (asks3_ctr hs) (Wt.yes rfl rfl rfl) rfl ?_
        rintro _ _ ⟨rfl, hA_⟩
        replace hA_ := hA_.symm; subst hA_
        refine RunL.nilD' ?_
        have hask : asksB e = (namedB 33 (bl e.room) && (eventB (bl e.event) && threadB (bl e.thread))) := by unfold asksB; rw [if_pos hk]
        refine RunD.pure (i := 16) hok7 rfl (by kernel_rfl) (Pure.not rfl) (Wt.yes rfl rfl rfl) rfl rfl ?_
        refine RunD.pure (i := 17) hok7 rfl (by kernel_rfl) (Pure.pickF rfl rfl) (Wt.none rfl) rfl rfl ?_
        refine RunD.nilB (by kernel_rfl) (fun w sw => backga _ _ (backgb _ _ (sw))) ?_
        refine Run.cond rfl (fun hx => ?_) (fun hx => ?_)
        · try simp only [ZA, ZB, ZC, ZD, ZE, ZF, ZG, ZH, ZI, ZJ, ZK, ZL, ZM, ZN, ZO, ZP, ZQ, ZR] at hx
          refine Run.sr ?_
          refine RunL.as rfl rfl ?_
          refine RunL.nil ?_
          exact Run.ret Try.func62 (res1 rfl rfl) (by exact ⟨by rw [local_eq, hask, hx]; simp, rfl⟩) (by repeat (first | (with_reducible exact Fin.done (by repeat (first | (with_reducible exact Rest.here) | apply Rest.there))) | (apply Fin.cons (by first | ((repeat (first | (with_reducible exact F0 _) | apply F1)); done) | (repeat (first | exact F0 _ | apply F1))))))
        · try simp only [ZA, ZB, ZC, ZD, ZE, ZF, ZG, ZH, ZI, ZJ, ZK, ZL, ZM, ZN, ZO, ZP, ZQ, ZR] at hx
          replace hask : asksB e = true := by rw [hask]; simpa using hx
          refine Run.skip ?_
          refine Run.sr ?_
          refine RunL.as rfl rfl ?_
          refine RunL.nil ?_
          refine Run.seq ?_
          refine Run.regionD' (by kernel_rfl) (by kernel_rfl) (fun hok126 => ?_)
          refine RunD.loadNR (vs := (cEdu e)) (i := 0) hok126 rfl (by kernel_rfl) rfl (by assumption) agg50 sz50 (by first | exact Nat.le_of_ble_eq_true rfl | (simp; done) | (simp; omega)) rfl (Wt.none rfl) rfl ?_
          refine RunD.loadNR (vs := (cEdu e)) (i := 1) hok126 rfl (by kernel_rfl) rfl (by assumption) agg50 sz50 (by first | exact Nat.le_of_ble_eq_true rfl | (simp; done) | (simp; omega)) rfl (Wt.none rfl) rfl ?_
          refine RunD.one (i := 2) (by kernel_rfl) rfl ?_
          refine RunL.call rfl rfl (by rfl) (by repeat (first | (with_reducible exact Take.nil _) | (apply Take.cons (by first | ((repeat (first | (with_reducible exact F0 _) | apply F1)); done) | (repeat (first | exact F0 _ | apply F1)))))) (named_ctr) (Wt.none rfl) rfl ?_
          rintro _ _ ⟨rfl, hA_⟩
          replace hA_ := hA_.symm; subst hA_
          refine RunL.nilD' ?_
          refine RunD.pure (i := 3) hok126 rfl (by kernel_rfl) (Pure.aeql rfl rfl eqg50 (eqv50 (e) (namedE e)) (by decide)) (Wt.none rfl) rfl rfl ?_
          refine RunD.pure (i := 4) hok126 rfl (by kernel_rfl) (Pure.move rfl) (Wt.none rfl) rfl rfl ?_
          refine RunD.split (d := 26) rfl (fun hn => ?_) (fun hn => ?_)
          · try simp only [ZA, ZB, ZC, ZD, ZE, ZF, ZG, ZH, ZI, ZJ, ZK, ZL, ZM, ZN, ZO, ZP, ZQ, ZR] at hn
            refine RunD.pure (i := 5) hok126 rfl (by kernel_rfl) (Pure.fieldAddr rfl fo50_2) (Wt.yes rfl rfl rfl) rfl rfl ?_
            refine RunD.load1R (i := 6) hok126 rfl (by kernel_rfl) rfl (by assumption) (by rfl) agg9 (Wt.yes rfl rfl rfl) rfl ?_
            refine RunD.one (i := 7) (by kernel_rfl) rfl ?_
            refine RunL.call rfl rfl (by rfl) (by repeat (first | (with_reducible exact Take.nil _) | (apply Take.cons (by first | ((repeat (first | (with_reducible exact F0 _) | apply F1)); done) | (repeat (first | exact F0 _ | apply F1)))))) (User_ctr (by first | assumption | omega | (unfold eduSmall at hs; omega))) (Wt.yes rfl rfl rfl) rfl ?_
            rintro _ _ ⟨rfl, hA_⟩
            replace hA_ := hA_.symm; subst hA_
            refine RunL.nilD' ?_
            refine RunD.pure (i := 8) hok126 rfl (by kernel_rfl) (Pure.pickT rfl rfl) (Wt.none rfl) rfl rfl ?_
            refine RunD.pure (i := 9) hok126 rfl (by kernel_rfl) (Pure.move rfl) (Wt.none rfl) rfl rfl ?_
            refine RunD.split (d := 31) rfl (fun hu => ?_) (fun hu => ?_)
            · try simp only [ZA, ZB, ZC, ZD, ZE, ZF, ZG, ZH, ZI, ZJ, ZK, ZL, ZM, ZN, ZO, ZP, ZQ, ZR] at hu
              refine RunD.pure (i := 10) hok126 rfl (by kernel_rfl) (Pure.move rfl) (Wt.yes rfl rfl rfl) rfl rfl ?_
              refine RunD.pure (i := 11) hok126 rfl (by kernel_rfl) (Pure.fieldAddr rfl fo50_9) (Wt.yes rfl rfl rfl) rfl rfl ?_
              refine RunD.load1R (i := 12) hok126 rfl (by kernel_rfl) rfl (by assumption) (by rfl) agg3 (Wt.yes rfl rfl rfl) rfl ?_
              refine RunD.one (i := 13) (by kernel_rfl) rfl ?_
              refine RunL.call rfl rfl (by rfl) (by repeat (first | (with_reducible exact Take.nil _) | (apply Take.cons (by first | ((repeat (first | (with_reducible exact F0 _) | apply F1)); done) | (repeat (first | exact F0 _ | apply F1)))))) (in_ctr (n := e.tick)) (Wt.yes rfl rfl rfl) rfl ?_
              rintro _ _ ⟨rfl, hA_⟩
              replace hA_ := hA_.symm; subst hA_
              refine RunL.nilD' ?_
              refine RunD.pure (i := 14) hok126 rfl (by kernel_rfl) (Pure.pickT rfl rfl) (Wt.none rfl) rfl rfl ?_
              refine RunD.pure (i := 15) hok126 rfl (by kernel_rfl) (Pure.move rfl) (Wt.none rfl) rfl rfl ?_
              refine RunD.split (d := 37) rfl (fun ht => ?_) (fun ht => ?_)
              · try simp only [ZA, ZB, ZC, ZD, ZE, ZF, ZG, ZH, ZI, ZJ, ZK, ZL, ZM, ZN, ZO, ZP, ZQ, ZR] at ht
                refine RunD.pure (i := 16) hok126 rfl (by kernel_rfl) (Pure.move rfl) (Wt.yes rfl rfl rfl) rfl rfl ?_
                refine RunD.pure (i := 17) hok126 rfl (by kernel_rfl) (Pure.fieldAddr rfl fo50_10) (Wt.yes rfl rfl rfl) rfl rfl ?_
                refine RunD.load1R (i := 18) hok126 rfl (by kernel_rfl) rfl (by assumption) (by rfl) agg3 (Wt.yes rfl rfl rfl) rfl ?_
                refine RunD.one (i := 19) (by kernel_rfl) rfl ?_
                refine RunL.call rfl rfl (by rfl) (by repeat (first | (with_reducible exact Take.nil _) | (apply Take.cons (by first | ((repeat (first | (with_reducible exact F0 _) | apply F1)); done) | (repeat (first | exact F0 _ | apply F1)))))) (in_ctr (n := e.stamp)) (Wt.yes rfl rfl rfl) rfl ?_
                rintro _ _ ⟨rfl, hA_⟩
                replace hA_ := hA_.symm; subst hA_
                refine RunL.nilD' ?_
                refine RunD.pure (i := 20) hok126 rfl (by kernel_rfl) (Pure.pickT rfl rfl) (Wt.none rfl) rfl rfl ?_
                refine RunD.pure (i := 21) hok126 rfl (by kernel_rfl) (Pure.assign rfl) (Wt.none rfl) rfl rfl ?_
                refine RunD.nilR (by kernel_rfl) ?_
                exact Run.ret Try.func62 (res1 rfl rfl) (by exact ⟨by rw [local_eq, hask, decide_eq_true hn, hu, ht, decide_eq_true (show 0 ≤ e.kind from by omega), decide_eq_true (show e.kind ≤ 3 from by omega)]; rfl, rfl⟩) (by repeat (first | (with_reducible exact Fin.done (by repeat (first | (with_reducible exact Rest.here) | apply Rest.there))) | (apply Fin.cons (by first | ((repeat (first | (with_reducible exact F0 _) | apply F1)); done) | (repeat (first | exact F0 _ | apply F1))))))
              · try simp only [ZA, ZB, ZC, ZD, ZE, ZF, ZG, ZH, ZI, ZJ, ZK, ZL, ZM, ZN, ZO, ZP, ZQ, ZR] at ht
                refine RunD.not (i := 16) hok126 rfl (by kernel_rfl) rfl rfl (Wt.no rfl rfl rfl) ?_
                refine RunD.not (i := 17) hok126 rfl (by kernel_rfl) rfl rfl (Wt.no rfl rfl rfl) ?_
                refine RunD.not (i := 18) hok126 rfl (by kernel_rfl) rfl rfl (Wt.no rfl rfl rfl) ?_
                refine RunD.not (i := 19) hok126 rfl (by kernel_rfl) rfl rfl (Wt.no rfl rfl rfl) ?_
                refine RunD.pure (i := 20) hok126 rfl (by kernel_rfl) (Pure.pickF rfl rfl) (Wt.none rfl) rfl rfl ?_
                refine RunD.pure (i := 21) hok126 rfl (by kernel_rfl) (Pure.assign rfl) (Wt.none rfl) rfl rfl ?_
                refine RunD.nilR (by kernel_rfl) ?_
                exact Run.ret Try.func62 (res1 rfl rfl) (by exact ⟨by rw [local_eq, ht]; simp, rfl⟩) (by repeat (first | (with_reducible exact Fin.done (by repeat (first | (with_reducible exact Rest.here) | apply Rest.there))) | (apply Fin.cons (by first | ((repeat (first | (with_reducible exact F0 _) | apply F1)); done) | (repeat (first | exact F0 _ | apply F1))))))
            · try simp only [ZA, ZB, ZC, ZD, ZE, ZF, ZG, ZH, ZI, ZJ, ZK, ZL, ZM, ZN, ZO, ZP, ZQ, ZR] at hu
              refine RunD.not (i := 10) hok126 rfl (by kernel_rfl) rfl rfl (Wt.no rfl rfl rfl) ?_
              refine RunD.not (i := 11) hok126 rfl (by kernel_rfl) rfl rfl (Wt.no rfl rfl rfl) ?_
              refine RunD.not (i := 12) hok126 rfl (by kernel_rfl) rfl rfl (Wt.no rfl rfl rfl) ?_
              refine RunD.not (i := 13) hok126 rfl (by kernel_rfl) rfl rfl (Wt.no rfl rfl rfl) ?_
              refine RunD.pure (i := 14) hok126 rfl (by kernel_rfl) (Pure.pickF rfl rfl) (Wt.none rfl) rfl rfl ?_
              refine RunD.pure (i := 15) hok126 rfl (by kernel_rfl) (Pure.move rfl) (Wt.none rfl) rfl rfl ?_
              refine RunD.not (i := 16) hok126 rfl (by kernel_rfl) rfl rfl (Wt.no rfl rfl rfl) ?_
              refine RunD.not (i := 17) hok126 rfl (by kernel_rfl) rfl rfl (Wt.no rfl rfl rfl) ?_
              refine RunD.not (i := 18) hok126 rfl (by kernel_rfl) rfl rfl (Wt.no rfl rfl rfl) ?_
              refine RunD.not (i := 19) hok126 rfl (by kernel_rfl) rfl rfl (Wt.no rfl rfl rfl) ?_
              refine RunD.pure (i := 20) hok126 rfl (by kernel_rfl) (Pure.pickF rfl rfl) (Wt.none rfl) rfl rfl ?_
              refine RunD.pure (i := 21) hok126 rfl (by kernel_rfl) (Pure.assign rfl) (Wt.none rfl) rfl rfl ?_
              refine RunD.nilR (by kernel_rfl) ?_
              exact Run.ret Try.func62 (res1 rfl rfl) (by exact ⟨by rw [local_eq, hu]; simp, rfl⟩) (by repeat (first | (with_reducible exact Fin.done (by repeat (first | (with_reducible exact Rest.here) | apply Rest.there))) | (apply Fin.cons (by first | ((repeat (first | (with_reducible exact F0 _) | apply F1)); done) | (repeat (first | exact F0 _ | apply F1))))))
          · try simp only [ZA, ZB, ZC, ZD, ZE, ZF, ZG, ZH, ZI, ZJ, ZK, ZL, ZM, ZN, ZO, ZP, ZQ, ZR] at hn
            refine RunD.not (i := 5) hok126 rfl (by kernel_rfl) rfl rfl (Wt.no rfl rfl rfl) ?_
            refine RunD.not (i := 6) hok126 rfl (by kernel_rfl) rfl rfl (Wt.no rfl rfl rfl) ?_
            refine RunD.not (i := 7) hok126 rfl (by kernel_rfl) rfl rfl (Wt.no rfl rfl rfl) ?_
            refine RunD.pure (i := 8) hok126 rfl (by kernel_rfl) (Pure.pickF rfl rfl) (Wt.none rfl) rfl rfl ?_
            refine RunD.pure (i := 9) hok126 rfl (by kernel_rfl) (Pure.move rfl) (Wt.none rfl) rfl rfl ?_
            refine RunD.not (i := 10) hok126 rfl (by kernel_rfl) rfl rfl (Wt.no rfl rfl rfl) ?_
            refine RunD.not (i := 11) hok126 rfl (by kernel_rfl) rfl rfl (Wt.no rfl rfl rfl) ?_
            refine RunD.not (i := 12) hok126 rfl (by kernel_rfl) rfl rfl (Wt.no rfl rfl rfl) ?_
            refine RunD.not (i := 13) hok126 rfl (by kernel_rfl) rfl rfl (Wt.no rfl rfl rfl) ?_
            refine RunD.pure (i := 14) hok126 rfl (by kernel_rfl) (Pure.pickF rfl rfl) (Wt.none rfl) rfl rfl ?_
            refine RunD.pure (i := 15) hok126 rfl (by kernel_rfl) (Pure.move rfl) (Wt.none rfl) rfl rfl ?_
            refine RunD.not (i := 16) hok126 rfl (by kernel_rfl) rfl rfl (Wt.no rfl rfl rfl) ?_
            refine RunD.not (i := 17) hok126 rfl (by kernel_rfl) rfl rfl (Wt.no rfl rfl rfl) ?_
            refine RunD.not (i := 18) hok126 rfl (by kernel_rfl) rfl rfl (Wt.no rfl rfl rfl) ?_
            refine RunD.not (i := 19) hok126 rfl (by kernel_rfl) rfl rfl (Wt.no rfl rfl rfl) ?_
            refine RunD.pure (i := 20) hok126 rfl (by kernel_rfl) (Pure.pickF rfl rfl) (Wt.none rfl) rfl rfl ?_
            refine RunD.pure (i := 21) hok126 rfl (by kernel_rfl) (Pure.assign rfl) (Wt.none rfl) rfl rfl ?_
            refine RunD.nilR (by kernel_rfl) ?_
            exact Run.ret Try.func62 (res1 rfl rfl) (by exact ⟨by rw [local_eq, decide_eq_false hn]; simp, rfl⟩) (by repeat (first | (with_reducible exact Fin.done (by repeat (first | (with_reducible exact Rest.here) | apply Rest.there))) | (apply Fin.cons (by first | ((repeat (first | (with_reducible exact F0 _) | apply F1)); done) | (repeat (first | exact F0 _ | apply F1))))))
      · skip
        refine RunD.lend (Q := Sl 56 1 (some ⟨bf, 0, none⟩) 4 4 _) (Lends.litRow (n := 4)) (by first | ((repeat (first | (with_reducible exact F0 _) | apply F1)); done) | (repeat (first | exact F0 _ | apply F1))) ?_; intro ga hlega ha backga
        have hrb1_ga := hrb1.mono hlega
        obtain ⟨postf, hf⟩ := ha
        refine RunD.lend (Q := row bw 99 _) Lends.row (by first | ((repeat (first | (with_reducible exact F0 _) | apply F1)); done) | (repeat (first | exact F0 _ | apply F1))) ?_; intro gb hlegb hbw backgb
        try (replace ha := ha.mono hlegb)
        have hrb1_gb := hrb1_ga.mono hlegb
        replace hf := hf.mono hlegb
        refine RunD.pure (i := 12) hok7 rfl (by kernel_rfl) (Pure.indexAddr rfl rfl und93 sz56 (by omega) (by omega)) (Wt.yes rfl rfl rfl) rfl rfl ?_
        refine RunD.load1R (i := 13) hok7 rfl (by kernel_rfl) rfl hf (by rw [hk]; rfl) agg56 (Wt.yes rfl rfl rfl) rfl ?_
        refine RunD.one (i := 15) (by kernel_rfl) rfl ?_
        refine RunL.call rfl rfl (by rfl) (by repeat (first | (with_reducible exact Take.nil _) | (apply Take.cons (by first | ((repeat (first | (with_reducible exact F0 _) | apply F1)); done) | (repeat (first | exact F0 _ | apply F1)))))) (asks4_ctr (b := bw) hbw hs) (Wt.yes rfl rfl rfl) rfl ?_
        rintro _ _ ⟨rfl, hA_⟩
        replace hA_ := hA_.symm; subst hA_
        refine RunL.nilD' ?_
        have hask : asksB e = (namedB 33 (bl e.room) && (!e.typing || (decide (1 ≤ e.span) && decide (e.span ≤ 60)))) := by unfold asksB; rw [if_neg (by omega), if_pos hk]
        refine RunD.pure (i := 16) hok7 rfl (by kernel_rfl) (Pure.not rfl) (Wt.yes rfl rfl rfl) rfl rfl ?_
        refine RunD.pure (i := 17) hok7 rfl (by kernel_rfl) (Pure.pickF rfl rfl) (Wt.none rfl) rfl rfl ?_
        refine RunD.nilB (by kernel_rfl) (fun w sw => backga _ _ (backgb _ _ (sw))) ?_
        refine Run.cond rfl (fun hx => ?_) (fun hx => ?_)
        · try simp only [ZA, ZB, ZC, ZD, ZE, ZF, ZG, ZH, ZI, ZJ, ZK, ZL, ZM, ZN, ZO, ZP, ZQ, ZR] at hx
          refine Run.sr ?_
          refine RunL.as rfl rfl ?_
          refine RunL.nil ?_
          exact Run.ret Try.func62 (res1 rfl rfl) (by exact ⟨by rw [local_eq, hask, hx]; simp, rfl⟩) (by repeat (first | (with_reducible exact Fin.done (by repeat (first | (with_reducible exact Rest.here) | apply Rest.there))) | (apply Fin.cons (by first | ((repeat (first | (with_reducible exact F0 _) | apply F1)); done) | (repeat (first | exact F0 _ | apply F1))))))
        · try simp only [ZA, ZB, ZC, ZD, ZE, ZF, ZG, ZH, ZI, ZJ, ZK, ZL, ZM, ZN, ZO, ZP, ZQ, ZR] at hx
          replace hask : asksB e = true := by rw [hask]; simpa using hx
          refine Run.skip ?_
          refine Run.sr ?_
          refine RunL.as rfl rfl ?_
          refine RunL.nil ?_
          refine Run.seq ?_
          refine Run.regionD' (by kernel_rfl) (by kernel_rfl) (fun hok249 => ?_)
          refine RunD.loadNR (vs := (cEdu e)) (i := 0) hok249 rfl (by kernel_rfl) rfl (by assumption) agg50 sz50 (by first | exact Nat.le_of_ble_eq_true rfl | (simp; done) | (simp; omega)) rfl (Wt.none rfl) rfl ?_
          refine RunD.loadNR (vs := (cEdu e)) (i := 1) hok249 rfl (by kernel_rfl) rfl (by assumption) agg50 sz50 (by first | exact Nat.le_of_ble_eq_true rfl | (simp; done) | (simp; omega)) rfl (Wt.none rfl) rfl ?_
          refine RunD.one (i := 2) (by kernel_rfl) rfl ?_
          refine RunL.call rfl rfl (by rfl) (by repeat (first | (with_reducible exact Take.nil _) | (apply Take.cons (by first | ((repeat (first | (with_reducible exact F0 _) | apply F1)); done) | (repeat (first | exact F0 _ | apply F1)))))) (named_ctr) (Wt.none rfl) rfl ?_
          rintro _ _ ⟨rfl, hA_⟩
          replace hA_ := hA_.symm; subst hA_
          refine RunL.nilD' ?_
          refine RunD.pure (i := 3) hok249 rfl (by kernel_rfl) (Pure.aeql rfl rfl eqg50 (eqv50 (e) (namedE e)) (by decide)) (Wt.none rfl) rfl rfl ?_
          refine RunD.pure (i := 4) hok249 rfl (by kernel_rfl) (Pure.move rfl) (Wt.none rfl) rfl rfl ?_
          refine RunD.split (d := 26) rfl (fun hn => ?_) (fun hn => ?_)
          · try simp only [ZA, ZB, ZC, ZD, ZE, ZF, ZG, ZH, ZI, ZJ, ZK, ZL, ZM, ZN, ZO, ZP, ZQ, ZR] at hn
            refine RunD.pure (i := 5) hok249 rfl (by kernel_rfl) (Pure.fieldAddr rfl fo50_2) (Wt.yes rfl rfl rfl) rfl rfl ?_
            refine RunD.load1R (i := 6) hok249 rfl (by kernel_rfl) rfl (by assumption) (by rfl) agg9 (Wt.yes rfl rfl rfl) rfl ?_
            refine RunD.one (i := 7) (by kernel_rfl) rfl ?_
            refine RunL.call rfl rfl (by rfl) (by repeat (first | (with_reducible exact Take.nil _) | (apply Take.cons (by first | ((repeat (first | (with_reducible exact F0 _) | apply F1)); done) | (repeat (first | exact F0 _ | apply F1)))))) (User_ctr (by first | assumption | omega | (unfold eduSmall at hs; omega))) (Wt.yes rfl rfl rfl) rfl ?_
            rintro _ _ ⟨rfl, hA_⟩
            replace hA_ := hA_.symm; subst hA_
            refine RunL.nilD' ?_
            refine RunD.pure (i := 8) hok249 rfl (by kernel_rfl) (Pure.pickT rfl rfl) (Wt.none rfl) rfl rfl ?_
            refine RunD.pure (i := 9) hok249 rfl (by kernel_rfl) (Pure.move rfl) (Wt.none rfl) rfl rfl ?_
            refine RunD.split (d := 31) rfl (fun hu => ?_) (fun hu => ?_)
            · try simp only [ZA, ZB, ZC, ZD, ZE, ZF, ZG, ZH, ZI, ZJ, ZK, ZL, ZM, ZN, ZO, ZP, ZQ, ZR] at hu
              refine RunD.pure (i := 10) hok249 rfl (by kernel_rfl) (Pure.move rfl) (Wt.yes rfl rfl rfl) rfl rfl ?_
              refine RunD.pure (i := 11) hok249 rfl (by kernel_rfl) (Pure.fieldAddr rfl fo50_9) (Wt.yes rfl rfl rfl) rfl rfl ?_
              refine RunD.load1R (i := 12) hok249 rfl (by kernel_rfl) rfl (by assumption) (by rfl) agg3 (Wt.yes rfl rfl rfl) rfl ?_
              refine RunD.one (i := 13) (by kernel_rfl) rfl ?_
              refine RunL.call rfl rfl (by rfl) (by repeat (first | (with_reducible exact Take.nil _) | (apply Take.cons (by first | ((repeat (first | (with_reducible exact F0 _) | apply F1)); done) | (repeat (first | exact F0 _ | apply F1)))))) (in_ctr (n := e.tick)) (Wt.yes rfl rfl rfl) rfl ?_
              rintro _ _ ⟨rfl, hA_⟩
              replace hA_ := hA_.symm; subst hA_
              refine RunL.nilD' ?_
              refine RunD.pure (i := 14) hok249 rfl (by kernel_rfl) (Pure.pickT rfl rfl) (Wt.none rfl) rfl rfl ?_
              refine RunD.pure (i := 15) hok249 rfl (by kernel_rfl) (Pure.move rfl) (Wt.none rfl) rfl rfl ?_
              refine RunD.split (d := 37) rfl (fun ht => ?_) (fun ht => ?_)
              · try simp only [ZA, ZB, ZC, ZD, ZE, ZF, ZG, ZH, ZI, ZJ, ZK, ZL, ZM, ZN, ZO, ZP, ZQ, ZR] at ht
                refine RunD.pure (i := 16) hok249 rfl (by kernel_rfl) (Pure.move rfl) (Wt.yes rfl rfl rfl) rfl rfl ?_
                refine RunD.pure (i := 17) hok249 rfl (by kernel_rfl) (Pure.fieldAddr rfl fo50_10) (Wt.yes rfl rfl rfl) rfl rfl ?_
                refine RunD.load1R (i := 18) hok249 rfl (by kernel_rfl) rfl (by assumption) (by rfl) agg3 (Wt.yes rfl rfl rfl) rfl ?_
                refine RunD.one (i := 19) (by kernel_rfl) rfl ?_
                refine RunL.call rfl rfl (by rfl) (by repeat (first | (with_reducible exact Take.nil _) | (apply Take.cons (by first | ((repeat (first | (with_reducible exact F0 _) | apply F1)); done) | (repeat (first | exact F0 _ | apply F1)))))) (in_ctr (n := e.stamp)) (Wt.yes rfl rfl rfl) rfl ?_
                rintro _ _ ⟨rfl, hA_⟩
                replace hA_ := hA_.symm; subst hA_
                refine RunL.nilD' ?_
                refine RunD.pure (i := 20) hok249 rfl (by kernel_rfl) (Pure.pickT rfl rfl) (Wt.none rfl) rfl rfl ?_
                refine RunD.pure (i := 21) hok249 rfl (by kernel_rfl) (Pure.assign rfl) (Wt.none rfl) rfl rfl ?_
                refine RunD.nilR (by kernel_rfl) ?_
                exact Run.ret Try.func62 (res1 rfl rfl) (by exact ⟨by rw [local_eq, hask, decide_eq_true hn, hu, ht, decide_eq_true (show 0 ≤ e.kind from by omega), decide_eq_true (show e.kind ≤ 3 from by omega)]; rfl, rfl⟩) (by repeat (first | (with_reducible exact Fin.done (by repeat (first | (with_reducible exact Rest.here) | apply Rest.there))) | (apply Fin.cons (by first | ((repeat (first | (with_reducible exact F0 _) | apply F1)); done) | (repeat (first | exact F0 _ | apply F1))))))
              · try simp only [ZA, ZB, ZC, ZD, ZE, ZF, ZG, ZH, ZI, ZJ, ZK, ZL, ZM, ZN, ZO, ZP, ZQ, ZR] at ht
                refine RunD.not (i := 16) hok249 rfl (by kernel_rfl) rfl rfl (Wt.no rfl rfl rfl) ?_
                refine RunD.not (i := 17) hok249 rfl (by kernel_rfl) rfl rfl (Wt.no rfl rfl rfl) ?_
                refine RunD.not (i := 18) hok249 rfl (by kernel_rfl) rfl rfl (Wt.no rfl rfl rfl) ?_
                refine RunD.not (i := 19) hok249 rfl (by kernel_rfl) rfl rfl (Wt.no rfl rfl rfl) ?_
                refine RunD.pure (i := 20) hok249 rfl (by kernel_rfl) (Pure.pickF rfl rfl) (Wt.none rfl) rfl rfl ?_
                refine RunD.pure (i := 21) hok249 rfl (by kernel_rfl) (Pure.assign rfl) (Wt.none rfl) rfl rfl ?_
                refine RunD.nilR (by kernel_rfl) ?_
                exact Run.ret Try.func62 (res1 rfl rfl) (by exact ⟨by rw [local_eq, ht]; simp, rfl⟩) (by repeat (first | (with_reducible exact Fin.done (by repeat (first | (with_reducible exact Rest.here) | apply Rest.there))) | (apply Fin.cons (by first | ((repeat (first | (with_reducible exact F0 _) | apply F1)); done) | (repeat (first | exact F0 _ | apply F1))))))
            · try simp only [ZA, ZB, ZC, ZD, ZE, ZF, ZG, ZH, ZI, ZJ, ZK, ZL, ZM, ZN, ZO, ZP, ZQ, ZR] at hu
              refine RunD.not (i := 10) hok249 rfl (by kernel_rfl) rfl rfl (Wt.no rfl rfl rfl) ?_
              refine RunD.not (i := 11) hok249 rfl (by kernel_rfl) rfl rfl (Wt.no rfl rfl rfl) ?_
              refine RunD.not (i := 12) hok249 rfl (by kernel_rfl) rfl rfl (Wt.no rfl rfl rfl) ?_
              refine RunD.not (i := 13) hok249 rfl (by kernel_rfl) rfl rfl (Wt.no rfl rfl rfl) ?_
              refine RunD.pure (i := 14) hok249 rfl (by kernel_rfl) (Pure.pickF rfl rfl) (Wt.none rfl) rfl rfl ?_
              refine RunD.pure (i := 15) hok249 rfl (by kernel_rfl) (Pure.move rfl) (Wt.none rfl) rfl rfl ?_
              refine RunD.not (i := 16) hok249 rfl (by kernel_rfl) rfl rfl (Wt.no rfl rfl rfl) ?_
              refine RunD.not (i := 17) hok249 rfl (by kernel_rfl) rfl rfl (Wt.no rfl rfl rfl) ?_
              refine RunD.not (i := 18) hok249 rfl (by kernel_rfl) rfl rfl (Wt.no rfl rfl rfl) ?_
              refine RunD.not (i := 19) hok249 rfl (by kernel_rfl) rfl rfl (Wt.no rfl rfl rfl) ?_
              refine RunD.pure (i := 20) hok249 rfl (by kernel_rfl) (Pure.pickF rfl rfl) (Wt.none rfl) rfl rfl ?_
              refine RunD.pure (i := 21) hok249 rfl (by kernel_rfl) (Pure.assign rfl) (Wt.none rfl) rfl rfl ?_
              refine RunD.nilR (by kernel_rfl) ?_
              exact Run.ret Try.func62 (res1 rfl rfl) (by exact ⟨by rw [local_eq, hu]; simp, rfl⟩) (by repeat (first | (with_reducible exact Fin.done (by repeat (first | (with_reducible exact Rest.here) | apply Rest.there))) | (apply Fin.cons (by first | ((repeat (first | (with_reducible exact F0 _) | apply F1)); done) | (repeat (first | exact F0 _ | apply F1))))))
          · try simp only [ZA, ZB, ZC, ZD, ZE, ZF, ZG, ZH, ZI, ZJ, ZK, ZL, ZM, ZN, ZO, ZP, ZQ, ZR] at hn
            refine RunD.not (i := 5) hok249 rfl (by kernel_rfl) rfl rfl (Wt.no rfl rfl rfl) ?_
            refine RunD.not (i := 6) hok249 rfl (by kernel_rfl) rfl rfl (Wt.no rfl rfl rfl) ?_
            refine RunD.not (i := 7) hok249 rfl (by kernel_rfl) rfl rfl (Wt.no rfl rfl rfl) ?_
            refine RunD.pure (i := 8) hok249 rfl (by kernel_rfl) (Pure.pickF rfl rfl) (Wt.none rfl) rfl rfl ?_
            refine RunD.pure (i := 9) hok249 rfl (by kernel_rfl) (Pure.move rfl) (Wt.none rfl) rfl rfl ?_
            refine RunD.not (i := 10) hok249 rfl (by kernel_rfl) rfl rfl (Wt.no rfl rfl rfl) ?_
            refine RunD.not (i := 11) hok249 rfl (by kernel_rfl) rfl rfl (Wt.no rfl rfl rfl) ?_
            refine RunD.not (i := 12) hok249 rfl (by kernel_rfl) rfl rfl (Wt.no rfl rfl rfl) ?_
            refine RunD.not (i := 13) hok249 rfl (by kernel_rfl) rfl rfl (Wt.no rfl rfl rfl) ?_
            refine RunD.pure (i := 14) hok249 rfl (by kernel_rfl) (Pure.pickF rfl rfl) (Wt.none rfl) rfl rfl ?_
            refine RunD.pure (i := 15) hok249 rfl (by kernel_rfl) (Pure.move rfl) (Wt.none rfl) rfl rfl ?_
            refine RunD.not (i := 16) hok249 rfl (by kernel_rfl) rfl rfl (Wt.no rfl rfl rfl) ?_
            refine RunD.not (i := 17) hok249 rfl (by kernel_rfl) rfl rfl (Wt.no rfl rfl rfl) ?_
            refine RunD.not (i := 18) hok249 rfl (by kernel_rfl) rfl rfl (Wt.no rfl rfl rfl) ?_
            refine RunD.not (i := 19) hok249 rfl (by kernel_rfl) rfl rfl (Wt.no rfl rfl rfl) ?_
            refine RunD.pure (i := 20) hok249 rfl (by kernel_rfl) (Pure.pickF rfl rfl) (Wt.none rfl) rfl rfl ?_
            refine RunD.pure (i := 21) hok249 rfl (by kernel_rfl) (Pure.assign rfl) (Wt.none rfl) rfl rfl ?_
            refine RunD.nilR (by kernel_rfl) ?_
            exact Run.ret Try.func62 (res1 rfl rfl) (by exact ⟨by rw [local_eq, decide_eq_false hn]; simp, rfl⟩) (by repeat (first | (with_reducible exact Fin.done (by repeat (first | (with_reducible exact Rest.here) | apply Rest.there))) | (apply Fin.cons (by first | ((repeat (first | (with_reducible exact F0 _) | apply F1)); done) | (repeat (first | exact F0 _ | apply F1))))))
      · skip
        refine RunD.lend (Q := Sl 56 1 (some ⟨bf, 0, none⟩) 4 4 _) (Lends.litRow (n := 4)) (by first | ((repeat (first | (with_reducible exact F0 _) | apply F1)); done) | (repeat (first | exact F0 _ | apply F1))) ?_; intro ga hlega ha backga
        have hrb1_ga := hrb1.mono hlega
        obtain ⟨postf, hf⟩ := ha
        refine RunD.lend (Q := row bw 99 _) Lends.row (by first | ((repeat (first | (with_reducible exact F0 _) | apply F1)); done) | (repeat (first | exact F0 _ | apply F1))) ?_; intro gb hlegb hbw backgb
        try (replace ha := ha.mono hlegb)
        have hrb1_gb := hrb1_ga.mono hlegb
        replace hf := hf.mono hlegb
        refine RunD.pure (i := 12) hok7 rfl (by kernel_rfl) (Pure.indexAddr rfl rfl und93 sz56 (by omega) (by omega)) (Wt.yes rfl rfl rfl) rfl rfl ?_
        refine RunD.load1R (i := 13) hok7 rfl (by kernel_rfl) rfl hf (by rw [hk]; rfl) agg56 (Wt.yes rfl rfl rfl) rfl ?_
        refine RunD.one (i := 15) (by kernel_rfl) rfl ?_
        refine RunL.call rfl rfl (by rfl) (by repeat (first | (with_reducible exact Take.nil _) | (apply Take.cons (by first | ((repeat (first | (with_reducible exact F0 _) | apply F1)); done) | (repeat (first | exact F0 _ | apply F1)))))) (asks5_ctr (b := bw) hbw) (Wt.yes rfl rfl rfl) rfl ?_
        rintro _ _ ⟨rfl, hA_⟩
        replace hA_ := hA_.symm; subst hA_
        refine RunL.nilD' ?_
        have hask : asksB e = (decide (0 ≤ e.state) && decide (e.state ≤ 2)) := by unfold asksB; rw [if_neg (by omega), if_neg (by omega), if_pos hk]
        refine RunD.pure (i := 16) hok7 rfl (by kernel_rfl) (Pure.not rfl) (Wt.yes rfl rfl rfl) rfl rfl ?_
        refine RunD.pure (i := 17) hok7 rfl (by kernel_rfl) (Pure.pickF rfl rfl) (Wt.none rfl) rfl rfl ?_
        refine RunD.nilB (by kernel_rfl) (fun w sw => backga _ _ (backgb _ _ (sw))) ?_
        refine Run.cond rfl (fun hx => ?_) (fun hx => ?_)
        · try simp only [ZA, ZB, ZC, ZD, ZE, ZF, ZG, ZH, ZI, ZJ, ZK, ZL, ZM, ZN, ZO, ZP, ZQ, ZR] at hx
          refine Run.sr ?_
          refine RunL.as rfl rfl ?_
          refine RunL.nil ?_
          exact Run.ret Try.func62 (res1 rfl rfl) (by exact ⟨by rw [local_eq, hask, hx]; simp, rfl⟩) (by repeat (first | (with_reducible exact Fin.done (by repeat (first | (with_reducible exact Rest.here) | apply Rest.there))) | (apply Fin.cons (by first | ((repeat (first | (with_reducible exact F0 _) | apply F1)); done) | (repeat (first | exact F0 _ | apply F1))))))
        · try simp only [ZA, ZB, ZC, ZD, ZE, ZF, ZG, ZH, ZI, ZJ, ZK, ZL, ZM, ZN, ZO, ZP, ZQ, ZR] at hx
          replace hask : asksB e = true := by rw [hask]; simpa using hx
          refine Run.skip ?_
          refine Run.sr ?_
          refine RunL.as rfl rfl ?_
          refine RunL.nil ?_
          refine Run.seq ?_
          refine Run.regionD' (by kernel_rfl) (by kernel_rfl) (fun hok372 => ?_)
          refine RunD.loadNR (vs := (cEdu e)) (i := 0) hok372 rfl (by kernel_rfl) rfl (by assumption) agg50 sz50 (by first | exact Nat.le_of_ble_eq_true rfl | (simp; done) | (simp; omega)) rfl (Wt.none rfl) rfl ?_
          refine RunD.loadNR (vs := (cEdu e)) (i := 1) hok372 rfl (by kernel_rfl) rfl (by assumption) agg50 sz50 (by first | exact Nat.le_of_ble_eq_true rfl | (simp; done) | (simp; omega)) rfl (Wt.none rfl) rfl ?_
          refine RunD.one (i := 2) (by kernel_rfl) rfl ?_
          refine RunL.call rfl rfl (by rfl) (by repeat (first | (with_reducible exact Take.nil _) | (apply Take.cons (by first | ((repeat (first | (with_reducible exact F0 _) | apply F1)); done) | (repeat (first | exact F0 _ | apply F1)))))) (named_ctr) (Wt.none rfl) rfl ?_
          rintro _ _ ⟨rfl, hA_⟩
          replace hA_ := hA_.symm; subst hA_
          refine RunL.nilD' ?_
          refine RunD.pure (i := 3) hok372 rfl (by kernel_rfl) (Pure.aeql rfl rfl eqg50 (eqv50 (e) (namedE e)) (by decide)) (Wt.none rfl) rfl rfl ?_
          refine RunD.pure (i := 4) hok372 rfl (by kernel_rfl) (Pure.move rfl) (Wt.none rfl) rfl rfl ?_
          refine RunD.split (d := 26) rfl (fun hn => ?_) (fun hn => ?_)
          · try simp only [ZA, ZB, ZC, ZD, ZE, ZF, ZG, ZH, ZI, ZJ, ZK, ZL, ZM, ZN, ZO, ZP, ZQ, ZR] at hn
            refine RunD.pure (i := 5) hok372 rfl (by kernel_rfl) (Pure.fieldAddr rfl fo50_2) (Wt.yes rfl rfl rfl) rfl rfl ?_
            refine RunD.load1R (i := 6) hok372 rfl (by kernel_rfl) rfl (by assumption) (by rfl) agg9 (Wt.yes rfl rfl rfl) rfl ?_
            refine RunD.one (i := 7) (by kernel_rfl) rfl ?_
            refine RunL.call rfl rfl (by rfl) (by repeat (first | (with_reducible exact Take.nil _) | (apply Take.cons (by first | ((repeat (first | (with_reducible exact F0 _) | apply F1)); done) | (repeat (first | exact F0 _ | apply F1)))))) (User_ctr (by first | assumption | omega | (unfold eduSmall at hs; omega))) (Wt.yes rfl rfl rfl) rfl ?_
            rintro _ _ ⟨rfl, hA_⟩
            replace hA_ := hA_.symm; subst hA_
            refine RunL.nilD' ?_
            refine RunD.pure (i := 8) hok372 rfl (by kernel_rfl) (Pure.pickT rfl rfl) (Wt.none rfl) rfl rfl ?_
            refine RunD.pure (i := 9) hok372 rfl (by kernel_rfl) (Pure.move rfl) (Wt.none rfl) rfl rfl ?_
            refine RunD.split (d := 31) rfl (fun hu => ?_) (fun hu => ?_)
            · try simp only [ZA, ZB, ZC, ZD, ZE, ZF, ZG, ZH, ZI, ZJ, ZK, ZL, ZM, ZN, ZO, ZP, ZQ, ZR] at hu
              refine RunD.pure (i := 10) hok372 rfl (by kernel_rfl) (Pure.move rfl) (Wt.yes rfl rfl rfl) rfl rfl ?_
              refine RunD.pure (i := 11) hok372 rfl (by kernel_rfl) (Pure.fieldAddr rfl fo50_9) (Wt.yes rfl rfl rfl) rfl rfl ?_
              refine RunD.load1R (i := 12) hok372 rfl (by kernel_rfl) rfl (by assumption) (by rfl) agg3 (Wt.yes rfl rfl rfl) rfl ?_
              refine RunD.one (i := 13) (by kernel_rfl) rfl ?_
              refine RunL.call rfl rfl (by rfl) (by repeat (first | (with_reducible exact Take.nil _) | (apply Take.cons (by first | ((repeat (first | (with_reducible exact F0 _) | apply F1)); done) | (repeat (first | exact F0 _ | apply F1)))))) (in_ctr (n := e.tick)) (Wt.yes rfl rfl rfl) rfl ?_
              rintro _ _ ⟨rfl, hA_⟩
              replace hA_ := hA_.symm; subst hA_
              refine RunL.nilD' ?_
              refine RunD.pure (i := 14) hok372 rfl (by kernel_rfl) (Pure.pickT rfl rfl) (Wt.none rfl) rfl rfl ?_
              refine RunD.pure (i := 15) hok372 rfl (by kernel_rfl) (Pure.move rfl) (Wt.none rfl) rfl rfl ?_
              refine RunD.split (d := 37) rfl (fun ht => ?_) (fun ht => ?_)
              · try simp only [ZA, ZB, ZC, ZD, ZE, ZF, ZG, ZH, ZI, ZJ, ZK, ZL, ZM, ZN, ZO, ZP, ZQ, ZR] at ht
                refine RunD.pure (i := 16) hok372 rfl (by kernel_rfl) (Pure.move rfl) (Wt.yes rfl rfl rfl) rfl rfl ?_
                refine RunD.pure (i := 17) hok372 rfl (by kernel_rfl) (Pure.fieldAddr rfl fo50_10) (Wt.yes rfl rfl rfl) rfl rfl ?_
                refine RunD.load1R (i := 18) hok372 rfl (by kernel_rfl) rfl (by assumption) (by rfl) agg3 (Wt.yes rfl rfl rfl) rfl ?_
                refine RunD.one (i := 19) (by kernel_rfl) rfl ?_
                refine RunL.call rfl rfl (by rfl) (by repeat (first | (with_reducible exact Take.nil _) | (apply Take.cons (by first | ((repeat (first | (with_reducible exact F0 _) | apply F1)); done) | (repeat (first | exact F0 _ | apply F1)))))) (in_ctr (n := e.stamp)) (Wt.yes rfl rfl rfl) rfl ?_
                rintro _ _ ⟨rfl, hA_⟩
                replace hA_ := hA_.symm; subst hA_
                refine RunL.nilD' ?_
                refine RunD.pure (i := 20) hok372 rfl (by kernel_rfl) (Pure.pickT rfl rfl) (Wt.none rfl) rfl rfl ?_
                refine RunD.pure (i := 21) hok372 rfl (by kernel_rfl) (Pure.assign rfl) (Wt.none rfl) rfl rfl ?_
                refine RunD.nilR (by kernel_rfl) ?_
                exact Run.ret Try.func62 (res1 rfl rfl) (by exact ⟨by rw [local_eq, hask, decide_eq_true hn, hu, ht, decide_eq_true (show 0 ≤ e.kind from by omega), decide_eq_true (show e.kind ≤ 3 from by omega)]; rfl, rfl⟩) (by repeat (first | (with_reducible exact Fin.done (by repeat (first | (with_reducible exact Rest.here) | apply Rest.there))) | (apply Fin.cons (by first | ((repeat (first | (with_reducible exact F0 _) | apply F1)); done) | (repeat (first | exact F0 _ | apply F1))))))
              · try simp only [ZA, ZB, ZC, ZD, ZE, ZF, ZG, ZH, ZI, ZJ, ZK, ZL, ZM, ZN, ZO, ZP, ZQ, ZR] at ht
                refine RunD.not (i := 16) hok372 rfl (by kernel_rfl) rfl rfl (Wt.no rfl rfl rfl) ?_
                refine RunD.not (i := 17) hok372 rfl (by kernel_rfl) rfl rfl (Wt.no rfl rfl rfl) ?_
                refine RunD.not (i := 18) hok372 rfl (by kernel_rfl) rfl rfl (Wt.no rfl rfl rfl) ?_
                refine RunD.not (i := 19) hok372 rfl (by kernel_rfl) rfl rfl (Wt.no rfl rfl rfl) ?_
                refine RunD.pure (i := 20) hok372 rfl (by kernel_rfl) (Pure.pickF rfl rfl) (Wt.none rfl) rfl rfl ?_
                refine RunD.pure (i := 21) hok372 rfl (by kernel_rfl) (Pure.assign rfl) (Wt.none rfl) rfl rfl ?_
                refine RunD.nilR (by kernel_rfl) ?_
                exact Run.ret Try.func62 (res1 rfl rfl) (by exact ⟨by rw [local_eq, ht]; simp, rfl⟩) (by repeat (first | (with_reducible exact Fin.done (by repeat (first | (with_reducible exact Rest.here) | apply Rest.there))) | (apply Fin.cons (by first | ((repeat (first | (with_reducible exact F0 _) | apply F1)); done) | (repeat (first | exact F0 _ | apply F1))))))
            · try simp only [ZA, ZB, ZC, ZD, ZE, ZF, ZG, ZH, ZI, ZJ, ZK, ZL, ZM, ZN, ZO, ZP, ZQ, ZR] at hu
              refine RunD.not (i := 10) hok372 rfl (by kernel_rfl) rfl rfl (Wt.no rfl rfl rfl) ?_
              refine RunD.not (i := 11) hok372 rfl (by kernel_rfl) rfl rfl (Wt.no rfl rfl rfl) ?_
              refine RunD.not (i := 12) hok372 rfl (by kernel_rfl) rfl rfl (Wt.no rfl rfl rfl) ?_
              refine RunD.not (i := 13) hok372 rfl (by kernel_rfl) rfl rfl (Wt.no rfl rfl rfl) ?_
              refine RunD.pure (i := 14) hok372 rfl (by kernel_rfl) (Pure.pickF rfl rfl) (Wt.none rfl) rfl rfl ?_
              refine RunD.pure (i := 15) hok372 rfl (by kernel_rfl) (Pure.move rfl) (Wt.none rfl) rfl rfl ?_
              refine RunD.not (i := 16) hok372 rfl (by kernel_rfl) rfl rfl (Wt.no rfl rfl rfl) ?_
              refine RunD.not (i := 17) hok372 rfl (by kernel_rfl) rfl rfl (Wt.no rfl rfl rfl) ?_
              refine RunD.not (i := 18) hok372 rfl (by kernel_rfl) rfl rfl (Wt.no rfl rfl rfl) ?_
              refine RunD.not (i := 19) hok372 rfl (by kernel_rfl) rfl rfl (Wt.no rfl rfl rfl) ?_
              refine RunD.pure (i := 20) hok372 rfl (by kernel_rfl) (Pure.pickF rfl rfl) (Wt.none rfl) rfl rfl ?_
              refine RunD.pure (i := 21) hok372 rfl (by kernel_rfl) (Pure.assign rfl) (Wt.none rfl) rfl rfl ?_
              refine RunD.nilR (by kernel_rfl) ?_
              exact Run.ret Try.func62 (res1 rfl rfl) (by exact ⟨by rw [local_eq, hu]; simp, rfl⟩) (by repeat (first | (with_reducible exact Fin.done (by repeat (first | (with_reducible exact Rest.here) | apply Rest.there))) | (apply Fin.cons (by first | ((repeat (first | (with_reducible exact F0 _) | apply F1)); done) | (repeat (first | exact F0 _ | apply F1))))))
          · try simp only [ZA, ZB, ZC, ZD, ZE, ZF, ZG, ZH, ZI, ZJ, ZK, ZL, ZM, ZN, ZO, ZP, ZQ, ZR] at hn
            refine RunD.not (i := 5) hok372 rfl (by kernel_rfl) rfl rfl (Wt.no rfl rfl rfl) ?_
            refine RunD.not (i := 6) hok372 rfl (by kernel_rfl) rfl rfl (Wt.no rfl rfl rfl) ?_
            refine RunD.not (i := 7) hok372 rfl (by kernel_rfl) rfl rfl (Wt.no rfl rfl rfl) ?_
            refine RunD.pure (i := 8) hok372 rfl (by kernel_rfl) (Pure.pickF rfl rfl) (Wt.none rfl) rfl rfl ?_
            refine RunD.pure (i := 9) hok372 rfl (by kernel_rfl) (Pure.move rfl) (Wt.none rfl) rfl rfl ?_
            refine RunD.not (i := 10) hok372 rfl (by kernel_rfl) rfl rfl (Wt.no rfl rfl rfl) ?_
            refine RunD.not (i := 11) hok372 rfl (by kernel_rfl) rfl rfl (Wt.no rfl rfl rfl) ?_
            refine RunD.not (i := 12) hok372 rfl (by kernel_rfl) rfl rfl (Wt.no rfl rfl rfl) ?_
            refine RunD.not (i := 13) hok372 rfl (by kernel_rfl) rfl rfl (Wt.no rfl rfl rfl) ?_
            refine RunD.pure (i := 14) hok372 rfl (by kernel_rfl) (Pure.pickF rfl rfl) (Wt.none rfl) rfl rfl ?_
            refine RunD.pure (i := 15) hok372 rfl (by kernel_rfl) (Pure.move rfl) (Wt.none rfl) rfl rfl ?_
            refine RunD.not (i := 16) hok372 rfl (by kernel_rfl) rfl rfl (Wt.no rfl rfl rfl) ?_
            refine RunD.not (i := 17) hok372 rfl (by kernel_rfl) rfl rfl (Wt.no rfl rfl rfl) ?_
            refine RunD.not (i := 18) hok372 rfl (by kernel_rfl) rfl rfl (Wt.no rfl rfl rfl) ?_
            refine RunD.not (i := 19) hok372 rfl (by kernel_rfl) rfl rfl (Wt.no rfl rfl rfl) ?_
            refine RunD.pure (i := 20) hok372 rfl (by kernel_rfl) (Pure.pickF rfl rfl) (Wt.none rfl) rfl rfl ?_
            refine RunD.pure (i := 21) hok372 rfl (by kernel_rfl) (Pure.assign rfl) (Wt.none rfl) rfl rfl ?_
            refine RunD.nilR (by kernel_rfl) ?_
            exact Run.ret Try.func62 (res1 rfl rfl) (by exact ⟨by rw [local_eq, decide_eq_false hn]; simp, rfl⟩) (by repeat (first | (with_reducible exact Fin.done (by repeat (first | (with_reducible exact Rest.here) | apply Rest.there))) | (apply Fin.cons (by first | ((repeat (first | (with_reducible exact F0 _) | apply F1)); done) | (repeat (first | exact F0 _ | apply F1))))))

set_option maxRecDepth 100000 in
theorem May_ctr {G : Gp} {e : Edu} (hs : eduSmall e) :
    Ctr Try.prog G 35 [.agg (cEdu e).toArray] [] (fun F v A => v = .bool (eduMay e) ∧ A = F) := by
  refine Ctr.intro Try.func35 rfl (by kernel_rfl) rfl (fun F => ?_)
  simp only [List.nil_append]
  refine Run.sr ?_
  refine RunL.boxA (xs := (cEdu e)) rfl (Wt.none rfl) rfl ?_; intro b1
  refine RunL.as rfl rfl ?_
  refine RunL.nil ?_
  refine Run.lendAll (Q := row b1 50 _) Lends.row (by first | ((repeat (first | (with_reducible exact F0 _) | apply F1)); done) | (repeat (first | exact F0 _ | apply F1))) (fun G1 hleG1 hrb1 => ?_)
  refine Run.sr ?_
  first | refine RunL.loadA (vs := (cEdu e)) rfl (by first | ((repeat (first | (with_reducible exact F0 _) | apply F1)); done) | (repeat (first | exact F0 _ | apply F1))) agg50 sz50 (by first | exact Nat.le_of_ble_eq_true rfl | (simp; done) | (simp; omega)) rfl (Wt.none rfl) rfl ?_ | refine RunL.loadNR (vs := (cEdu e)) rfl (by assumption) agg50 sz50 (by first | exact Nat.le_of_ble_eq_true rfl | (simp; done) | (simp; omega)) rfl (Wt.none rfl) rfl ?_
  refine RunL.call rfl rfl (by rfl) (by repeat (first | (with_reducible exact Take.nil _) | (apply Take.cons (by first | ((repeat (first | (with_reducible exact F0 _) | apply F1)); done) | (repeat (first | exact F0 _ | apply F1)))))) (Local_ctr (by assumption)) (Wt.none rfl) rfl ?_
  rintro _ _ ⟨rfl, hA_⟩
  replace hA_ := hA_.symm; subst hA_
  refine RunL.mv rfl rfl ?_
  refine RunL.split (d := 5) rfl (fun h1 => ?_) (fun h1 => ?_)
  · try simp only [ZA, ZB, ZC, ZD, ZE, ZF, ZG, ZH, ZI, ZJ, ZK, ZL, ZM, ZN, ZO, ZP, ZQ, ZR] at h1
    refine RunL.pure (Pure.fieldAddr rfl fo50_5) (Wt.yes rfl rfl rfl) rfl rfl ?_
    first | refine RunL.load1 rfl (by first | ((repeat (first | (with_reducible exact F0 _) | apply F1)); done) | (repeat (first | exact F0 _ | apply F1))) (by rfl) agg4 (Wt.yes rfl rfl rfl) rfl ?_ | refine RunL.load1R rfl (by assumption) (by rfl) agg4 (Wt.yes rfl rfl rfl) rfl ?_
    refine RunL.pure (Pure.not rfl) (Wt.yes rfl rfl rfl) rfl rfl ?_
    refine RunL.pure (Pure.pickT rfl rfl) (Wt.none rfl) rfl rfl ?_
    refine RunL.as rfl rfl ?_
    refine RunL.nil ?_
    exact Run.ret Try.func35 (res1 rfl rfl) (by exact ⟨by rw [eduMay, h1]; rfl, rfl⟩) (by repeat (first | (with_reducible exact Fin.done (by repeat (first | (with_reducible exact Rest.here) | apply Rest.there))) | (apply Fin.cons (by first | ((repeat (first | (with_reducible exact F0 _) | apply F1)); done) | (repeat (first | exact F0 _ | apply F1))))))
  · try simp only [ZA, ZB, ZC, ZD, ZE, ZF, ZG, ZH, ZI, ZJ, ZK, ZL, ZM, ZN, ZO, ZP, ZQ, ZR] at h1
    refine RunL.not (Wt.no rfl rfl rfl) rfl rfl ?_
    refine RunL.not (Wt.no rfl rfl rfl) rfl rfl ?_
    refine RunL.not (Wt.no rfl rfl rfl) rfl rfl ?_
    refine RunL.pure (Pure.pickF rfl rfl) (Wt.none rfl) rfl rfl ?_
    refine RunL.as rfl rfl ?_
    refine RunL.nil ?_
    exact Run.ret Try.func35 (res1 rfl rfl) (by exact ⟨by rw [eduMay, h1]; rfl, rfl⟩) (by repeat (first | (with_reducible exact Fin.done (by repeat (first | (with_reducible exact Rest.here) | apply Rest.there))) | (apply Fin.cons (by first | ((repeat (first | (with_reducible exact F0 _) | apply F1)); done) | (repeat (first | exact F0 _ | apply F1))))))

set_option maxRecDepth 100000 in
theorem rLocal3_ctr {G : Gp} {e : Edu} (hs : eduSmall e) :
    Ctr Try.prog G 59 [.agg (cEdu e).toArray] [] (fun F v A => v = .bool (eduLocal e) ∧ A = F) := by
  refine Ctr.intro Try.func59 rfl (by kernel_rfl) rfl (fun F => ?_)
  simp only [List.nil_append]
  have hz0 : bl (⟨#[]⟩ : ByteArray) = [] := rfl
  obtain ⟨hs1, hs2, hs3, hs4⟩ := hs
  refine Run.sr ?_
  refine RunL.boxA (xs := (cEdu e)) rfl (Wt.none rfl) rfl ?_; intro b1
  refine RunL.as rfl rfl ?_
  refine RunL.nil ?_
  refine Run.lendAll (Q := row b1 50 _) Lends.row (by first | ((repeat (first | (with_reducible exact F0 _) | apply F1)); done) | (repeat (first | exact F0 _ | apply F1))) (fun G1 hleG1 hrb1 => ?_)
  refine Run.sr ?_
  refine RunL.pure (Pure.fieldAddr rfl fo50_2) (Wt.none rfl) rfl rfl ?_
  first | refine RunL.load1 rfl (by first | ((repeat (first | (with_reducible exact F0 _) | apply F1)); done) | (repeat (first | exact F0 _ | apply F1))) (by rfl) agg9 (Wt.none rfl) rfl ?_ | refine RunL.load1R rfl (by assumption) (by rfl) agg9 (Wt.none rfl) rfl ?_
  refine RunL.call rfl rfl (by rfl) (by repeat (first | (with_reducible exact Take.nil _) | (apply Take.cons (by first | ((repeat (first | (with_reducible exact F0 _) | apply F1)); done) | (repeat (first | exact F0 _ | apply F1)))))) (rNamed_ctr (sg := 64) (by decide) (by first | assumption | omega | (unfold eduSmall at hs; omega))) (Wt.none rfl) rfl ?_
  rintro _ _ ⟨rfl, hA_⟩
  replace hA_ := hA_.symm; subst hA_
  refine RunL.as rfl rfl ?_
  refine RunL.nil ?_
  refine Run.sr ?_
  refine RunL.pure (Pure.fieldAddr rfl fo50_1) (Wt.none rfl) rfl rfl ?_
  first | refine RunL.load1 rfl (by first | ((repeat (first | (with_reducible exact F0 _) | apply F1)); done) | (repeat (first | exact F0 _ | apply F1))) (by rfl) agg9 (Wt.none rfl) rfl ?_ | refine RunL.load1R rfl (by assumption) (by rfl) agg9 (Wt.none rfl) rfl ?_
  refine RunL.call rfl rfl (by rfl) (by repeat (first | (with_reducible exact Take.nil _) | (apply Take.cons (by first | ((repeat (first | (with_reducible exact F0 _) | apply F1)); done) | (repeat (first | exact F0 _ | apply F1)))))) (rNamed_ctr (sg := 33) (by decide) (by first | assumption | omega | (unfold eduSmall at hs; omega))) (Wt.none rfl) rfl ?_
  rintro _ _ ⟨rfl, hA_⟩
  replace hA_ := hA_.symm; subst hA_
  refine RunL.as rfl rfl ?_
  refine RunL.nil ?_
  refine Run.sr ?_
  refine RunL.pure (Pure.fieldAddr rfl fo50_3) (Wt.none rfl) rfl rfl ?_
  first | refine RunL.load1 rfl (by first | ((repeat (first | (with_reducible exact F0 _) | apply F1)); done) | (repeat (first | exact F0 _ | apply F1))) (by rfl) agg9 (Wt.none rfl) rfl ?_ | refine RunL.load1R rfl (by assumption) (by rfl) agg9 (Wt.none rfl) rfl ?_
  refine RunL.call rfl rfl (by rfl) (by repeat (first | (with_reducible exact Take.nil _) | (apply Take.cons (by first | ((repeat (first | (with_reducible exact F0 _) | apply F1)); done) | (repeat (first | exact F0 _ | apply F1)))))) (rEvent_ctr (by first | assumption | omega | (unfold eduSmall at hs; omega))) (Wt.none rfl) rfl ?_
  rintro _ _ ⟨rfl, hA_⟩
  replace hA_ := hA_.symm; subst hA_
  refine RunL.as rfl rfl ?_
  refine RunL.nil ?_
  refine Run.sr ?_
  refine RunL.pure (Pure.fieldAddr rfl fo50_4) (Wt.none rfl) rfl rfl ?_
  first | refine RunL.load1 rfl (by first | ((repeat (first | (with_reducible exact F0 _) | apply F1)); done) | (repeat (first | exact F0 _ | apply F1))) (by rfl) agg9 (Wt.none rfl) rfl ?_ | refine RunL.load1R rfl (by assumption) (by rfl) agg9 (Wt.none rfl) rfl ?_
  refine RunL.call rfl rfl (by rfl) (by repeat (first | (with_reducible exact Take.nil _) | (apply Take.cons (by first | ((repeat (first | (with_reducible exact F0 _) | apply F1)); done) | (repeat (first | exact F0 _ | apply F1)))))) (rThread_ctr (by first | assumption | omega | (unfold eduSmall at hs; omega))) (Wt.none rfl) rfl ?_
  rintro _ _ ⟨rfl, hA_⟩
  replace hA_ := hA_.symm; subst hA_
  refine RunL.as rfl rfl ?_
  refine RunL.nil ?_
  refine Run.seq ?_
  refine Run.sr ?_
  refine RunL.mv rfl rfl ?_
  refine RunL.pure (Pure.not rfl) (Wt.none rfl) rfl rfl ?_
  refine RunL.mv rfl rfl ?_
  refine RunL.split (d := 22) rfl (fun p0 => ?_) (fun p0 => ?_)
  · try simp only [ZA, ZB, ZC, ZD, ZE, ZF, ZG, ZH, ZI, ZJ, ZK, ZL, ZM, ZN, ZO, ZP, ZQ, ZR] at p0
    refine RunL.not (Wt.no rfl rfl rfl) rfl rfl ?_
    refine RunL.not (Wt.no rfl rfl rfl) rfl rfl ?_
    refine RunL.not (Wt.no rfl rfl rfl) rfl rfl ?_
    refine RunL.pure (Pure.pickT rfl rfl) (Wt.none rfl) rfl rfl ?_
    refine RunL.mv rfl rfl ?_
    refine RunL.not (Wt.no rfl rfl rfl) rfl rfl ?_
    refine RunL.not (Wt.no rfl rfl rfl) rfl rfl ?_
    refine RunL.not (Wt.no rfl rfl rfl) rfl rfl ?_
    refine RunL.pure (Pure.pickT rfl rfl) (Wt.none rfl) rfl rfl ?_
    refine RunL.mv rfl rfl ?_
    refine RunL.not (Wt.no rfl rfl rfl) rfl rfl ?_
    refine RunL.not (Wt.no rfl rfl rfl) rfl rfl ?_
    refine RunL.not (Wt.no rfl rfl rfl) rfl rfl ?_
    refine RunL.pure (Pure.pickT rfl rfl) (Wt.none rfl) rfl rfl ?_
    refine RunL.mv rfl rfl ?_
    refine RunL.not (Wt.no rfl rfl rfl) rfl rfl ?_
    refine RunL.not (Wt.no rfl rfl rfl) rfl rfl ?_
    refine RunL.not (Wt.no rfl rfl rfl) rfl rfl ?_
    refine RunL.pure (Pure.pickT rfl rfl) (Wt.none rfl) rfl rfl ?_
    refine RunL.nil ?_
    refine Run.condT rfl ?_
    refine Run.sr ?_
    refine RunL.as rfl rfl ?_
    refine RunL.nil ?_
    exact Run.ret Try.func59 (res1 rfl rfl) (by exact ⟨by congr 1; (try simp [eduLocal, eduKind, inR, *]); (first | done | (intros; omega) | grind), rfl⟩) (by repeat (first | (with_reducible exact Fin.done (by repeat (first | (with_reducible exact Rest.here) | apply Rest.there))) | (apply Fin.cons (by first | ((repeat (first | (with_reducible exact F0 _) | apply F1)); done) | (repeat (first | exact F0 _ | apply F1))))))
  · try simp only [ZA, ZB, ZC, ZD, ZE, ZF, ZG, ZH, ZI, ZJ, ZK, ZL, ZM, ZN, ZO, ZP, ZQ, ZR] at p0
    refine RunL.pure (Pure.fieldAddr rfl fo50_9) (Wt.yes rfl rfl rfl) rfl rfl ?_
    first | refine RunL.load1 rfl (by first | ((repeat (first | (with_reducible exact F0 _) | apply F1)); done) | (repeat (first | exact F0 _ | apply F1))) (by rfl) agg3 (Wt.yes rfl rfl rfl) rfl ?_ | refine RunL.load1R rfl (by assumption) (by rfl) agg3 (Wt.yes rfl rfl rfl) rfl ?_
    refine RunL.pure (Pure.lss rfl rfl) (Wt.yes rfl rfl rfl) rfl rfl ?_
    refine RunL.pure (Pure.pickF rfl rfl) (Wt.none rfl) rfl rfl ?_
    refine RunL.mv rfl rfl ?_
    refine RunL.split (d := 27) rfl (fun p1 => ?_) (fun p1 => ?_)
    · try simp only [ZA, ZB, ZC, ZD, ZE, ZF, ZG, ZH, ZI, ZJ, ZK, ZL, ZM, ZN, ZO, ZP, ZQ, ZR] at p1
      refine RunL.not (Wt.no rfl rfl rfl) rfl rfl ?_
      refine RunL.not (Wt.no rfl rfl rfl) rfl rfl ?_
      refine RunL.not (Wt.no rfl rfl rfl) rfl rfl ?_
      refine RunL.pure (Pure.pickT rfl rfl) (Wt.none rfl) rfl rfl ?_
      refine RunL.mv rfl rfl ?_
      refine RunL.not (Wt.no rfl rfl rfl) rfl rfl ?_
      refine RunL.not (Wt.no rfl rfl rfl) rfl rfl ?_
      refine RunL.not (Wt.no rfl rfl rfl) rfl rfl ?_
      refine RunL.pure (Pure.pickT rfl rfl) (Wt.none rfl) rfl rfl ?_
      refine RunL.mv rfl rfl ?_
      refine RunL.not (Wt.no rfl rfl rfl) rfl rfl ?_
      refine RunL.not (Wt.no rfl rfl rfl) rfl rfl ?_
      refine RunL.not (Wt.no rfl rfl rfl) rfl rfl ?_
      refine RunL.pure (Pure.pickT rfl rfl) (Wt.none rfl) rfl rfl ?_
      refine RunL.nil ?_
      refine Run.condT rfl ?_
      refine Run.sr ?_
      refine RunL.as rfl rfl ?_
      refine RunL.nil ?_
      exact Run.ret Try.func59 (res1 rfl rfl) (by exact ⟨by congr 1; (try simp [eduLocal, eduKind, inR, *]); (first | done | (intros; omega) | grind), rfl⟩) (by repeat (first | (with_reducible exact Fin.done (by repeat (first | (with_reducible exact Rest.here) | apply Rest.there))) | (apply Fin.cons (by first | ((repeat (first | (with_reducible exact F0 _) | apply F1)); done) | (repeat (first | exact F0 _ | apply F1))))))
    · try simp only [ZA, ZB, ZC, ZD, ZE, ZF, ZG, ZH, ZI, ZJ, ZK, ZL, ZM, ZN, ZO, ZP, ZQ, ZR] at p1
      refine RunL.pure (Pure.fieldAddr rfl fo50_9) (Wt.yes rfl rfl rfl) rfl rfl ?_
      first | refine RunL.load1 rfl (by first | ((repeat (first | (with_reducible exact F0 _) | apply F1)); done) | (repeat (first | exact F0 _ | apply F1))) (by rfl) agg3 (Wt.yes rfl rfl rfl) rfl ?_ | refine RunL.load1R rfl (by assumption) (by rfl) agg3 (Wt.yes rfl rfl rfl) rfl ?_
      refine RunL.pure (Pure.gtr rfl rfl) (Wt.yes rfl rfl rfl) rfl rfl ?_
      refine RunL.pure (Pure.pickF rfl rfl) (Wt.none rfl) rfl rfl ?_
      refine RunL.mv rfl rfl ?_
      refine RunL.split (d := 32) rfl (fun p2 => ?_) (fun p2 => ?_)
      · try simp only [ZA, ZB, ZC, ZD, ZE, ZF, ZG, ZH, ZI, ZJ, ZK, ZL, ZM, ZN, ZO, ZP, ZQ, ZR] at p2
        refine RunL.not (Wt.no rfl rfl rfl) rfl rfl ?_
        refine RunL.not (Wt.no rfl rfl rfl) rfl rfl ?_
        refine RunL.not (Wt.no rfl rfl rfl) rfl rfl ?_
        refine RunL.pure (Pure.pickT rfl rfl) (Wt.none rfl) rfl rfl ?_
        refine RunL.mv rfl rfl ?_
        refine RunL.not (Wt.no rfl rfl rfl) rfl rfl ?_
        refine RunL.not (Wt.no rfl rfl rfl) rfl rfl ?_
        refine RunL.not (Wt.no rfl rfl rfl) rfl rfl ?_
        refine RunL.pure (Pure.pickT rfl rfl) (Wt.none rfl) rfl rfl ?_
        refine RunL.nil ?_
        refine Run.condT rfl ?_
        refine Run.sr ?_
        refine RunL.as rfl rfl ?_
        refine RunL.nil ?_
        exact Run.ret Try.func59 (res1 rfl rfl) (by exact ⟨by congr 1; (try simp [eduLocal, eduKind, inR, *]); (first | done | (intros; omega) | grind), rfl⟩) (by repeat (first | (with_reducible exact Fin.done (by repeat (first | (with_reducible exact Rest.here) | apply Rest.there))) | (apply Fin.cons (by first | ((repeat (first | (with_reducible exact F0 _) | apply F1)); done) | (repeat (first | exact F0 _ | apply F1))))))
      · try simp only [ZA, ZB, ZC, ZD, ZE, ZF, ZG, ZH, ZI, ZJ, ZK, ZL, ZM, ZN, ZO, ZP, ZQ, ZR] at p2
        refine RunL.pure (Pure.fieldAddr rfl fo50_10) (Wt.yes rfl rfl rfl) rfl rfl ?_
        first | refine RunL.load1 rfl (by first | ((repeat (first | (with_reducible exact F0 _) | apply F1)); done) | (repeat (first | exact F0 _ | apply F1))) (by rfl) agg3 (Wt.yes rfl rfl rfl) rfl ?_ | refine RunL.load1R rfl (by assumption) (by rfl) agg3 (Wt.yes rfl rfl rfl) rfl ?_
        refine RunL.pure (Pure.lss rfl rfl) (Wt.yes rfl rfl rfl) rfl rfl ?_
        refine RunL.pure (Pure.pickF rfl rfl) (Wt.none rfl) rfl rfl ?_
        refine RunL.mv rfl rfl ?_
        refine RunL.split (d := 37) rfl (fun p3 => ?_) (fun p3 => ?_)
        · try simp only [ZA, ZB, ZC, ZD, ZE, ZF, ZG, ZH, ZI, ZJ, ZK, ZL, ZM, ZN, ZO, ZP, ZQ, ZR] at p3
          refine RunL.not (Wt.no rfl rfl rfl) rfl rfl ?_
          refine RunL.not (Wt.no rfl rfl rfl) rfl rfl ?_
          refine RunL.not (Wt.no rfl rfl rfl) rfl rfl ?_
          refine RunL.pure (Pure.pickT rfl rfl) (Wt.none rfl) rfl rfl ?_
          refine RunL.nil ?_
          refine Run.condT rfl ?_
          refine Run.sr ?_
          refine RunL.as rfl rfl ?_
          refine RunL.nil ?_
          exact Run.ret Try.func59 (res1 rfl rfl) (by exact ⟨by congr 1; (try simp [eduLocal, eduKind, inR, *]); (first | done | (intros; omega) | grind), rfl⟩) (by repeat (first | (with_reducible exact Fin.done (by repeat (first | (with_reducible exact Rest.here) | apply Rest.there))) | (apply Fin.cons (by first | ((repeat (first | (with_reducible exact F0 _) | apply F1)); done) | (repeat (first | exact F0 _ | apply F1))))))
        · try simp only [ZA, ZB, ZC, ZD, ZE, ZF, ZG, ZH, ZI, ZJ, ZK, ZL, ZM, ZN, ZO, ZP, ZQ, ZR] at p3
          refine RunL.pure (Pure.fieldAddr rfl fo50_10) (Wt.yes rfl rfl rfl) rfl rfl ?_
          first | refine RunL.load1 rfl (by first | ((repeat (first | (with_reducible exact F0 _) | apply F1)); done) | (repeat (first | exact F0 _ | apply F1))) (by rfl) agg3 (Wt.yes rfl rfl rfl) rfl ?_ | refine RunL.load1R rfl (by assumption) (by rfl) agg3 (Wt.yes rfl rfl rfl) rfl ?_
          refine RunL.pure (Pure.gtr rfl rfl) (Wt.yes rfl rfl rfl) rfl rfl ?_
          refine RunL.pure (Pure.pickF rfl rfl) (Wt.none rfl) rfl rfl ?_
          refine RunL.nil ?_
          refine Run.cond rfl (fun p4 => ?_) (fun p4 => ?_)
          · try simp only [ZA, ZB, ZC, ZD, ZE, ZF, ZG, ZH, ZI, ZJ, ZK, ZL, ZM, ZN, ZO, ZP, ZQ, ZR] at p4
            refine Run.sr ?_
            refine RunL.as rfl rfl ?_
            refine RunL.nil ?_
            exact Run.ret Try.func59 (res1 rfl rfl) (by exact ⟨by congr 1; (try simp [eduLocal, eduKind, inR, *]); (first | done | (intros; omega) | grind), rfl⟩) (by repeat (first | (with_reducible exact Fin.done (by repeat (first | (with_reducible exact Rest.here) | apply Rest.there))) | (apply Fin.cons (by first | ((repeat (first | (with_reducible exact F0 _) | apply F1)); done) | (repeat (first | exact F0 _ | apply F1))))))
          · try simp only [ZA, ZB, ZC, ZD, ZE, ZF, ZG, ZH, ZI, ZJ, ZK, ZL, ZM, ZN, ZO, ZP, ZQ, ZR] at p4
            refine Run.skip ?_
            refine Run.seq ?_
            refine Run.sr ?_
            refine RunL.pure (Pure.fieldAddr rfl fo50_0) (Wt.none rfl) rfl rfl ?_
            first | refine RunL.load1 rfl (by first | ((repeat (first | (with_reducible exact F0 _) | apply F1)); done) | (repeat (first | exact F0 _ | apply F1))) (by rfl) agg3 (Wt.none rfl) rfl ?_ | refine RunL.load1R rfl (by assumption) (by rfl) agg3 (Wt.none rfl) rfl ?_
            refine RunL.nil ?_
            refine Run.block ?_
            refine Run.sr ?_
            refine RunL.pure (Pure.eql rfl rfl) (Wt.none rfl) rfl rfl ?_
            refine RunL.as rfl rfl ?_
            refine RunL.nil ?_
            refine Run.cond rfl (fun k1 => ?_) (fun k1 => ?_)
            · try simp only [ZA, ZB, ZC, ZD, ZE, ZF, ZG, ZH, ZI, ZJ, ZK, ZL, ZM, ZN, ZO, ZP, ZQ, ZR] at k1
              refine Run.sr ?_
              refine RunL.mv rfl rfl ?_
              refine RunL.mv rfl rfl ?_
              refine RunL.split (d := 47) rfl (fun q0 => ?_) (fun q0 => ?_)
              · try simp only [ZA, ZB, ZC, ZD, ZE, ZF, ZG, ZH, ZI, ZJ, ZK, ZL, ZM, ZN, ZO, ZP, ZQ, ZR] at q0
                refine RunL.pure (Pure.move rfl) (Wt.yes rfl rfl rfl) rfl rfl ?_
                refine RunL.pure (Pure.pickT rfl rfl) (Wt.none rfl) rfl rfl ?_
                refine RunL.mv rfl rfl ?_
                refine RunL.split (d := 50) rfl (fun q1 => ?_) (fun q1 => ?_)
                · try simp only [ZA, ZB, ZC, ZD, ZE, ZF, ZG, ZH, ZI, ZJ, ZK, ZL, ZM, ZN, ZO, ZP, ZQ, ZR] at q1
                  refine RunL.pure (Pure.move rfl) (Wt.yes rfl rfl rfl) rfl rfl ?_
                  refine RunL.pure (Pure.pickT rfl rfl) (Wt.none rfl) rfl rfl ?_
                  refine RunL.mv rfl rfl ?_
                  refine RunL.split (d := 53) rfl (fun q2 => ?_) (fun q2 => ?_)
                  · try simp only [ZA, ZB, ZC, ZD, ZE, ZF, ZG, ZH, ZI, ZJ, ZK, ZL, ZM, ZN, ZO, ZP, ZQ, ZR] at q2
                    refine RunL.pure (Pure.fieldAddr rfl fo50_6) (Wt.yes rfl rfl rfl) rfl rfl ?_
                    first | refine RunL.load1 rfl (by first | ((repeat (first | (with_reducible exact F0 _) | apply F1)); done) | (repeat (first | exact F0 _ | apply F1))) (by rfl) agg4 (Wt.yes rfl rfl rfl) rfl ?_ | refine RunL.load1R rfl (by assumption) (by rfl) agg4 (Wt.yes rfl rfl rfl) rfl ?_
                    refine RunL.pure (Pure.not rfl) (Wt.yes rfl rfl rfl) rfl rfl ?_
                    refine RunL.pure (Pure.pickT rfl rfl) (Wt.none rfl) rfl rfl ?_
                    refine RunL.mv rfl rfl ?_
                    refine RunL.split (d := 58) rfl (fun q3 => ?_) (fun q3 => ?_)
                    · try simp only [ZA, ZB, ZC, ZD, ZE, ZF, ZG, ZH, ZI, ZJ, ZK, ZL, ZM, ZN, ZO, ZP, ZQ, ZR] at q3
                      refine RunL.pure (Pure.fieldAddr rfl fo50_7) (Wt.yes rfl rfl rfl) rfl rfl ?_
                      first | refine RunL.load1 rfl (by first | ((repeat (first | (with_reducible exact F0 _) | apply F1)); done) | (repeat (first | exact F0 _ | apply F1))) (by rfl) agg3 (Wt.yes rfl rfl rfl) rfl ?_ | refine RunL.load1R rfl (by assumption) (by rfl) agg3 (Wt.yes rfl rfl rfl) rfl ?_
                      refine RunL.pure (Pure.eql rfl rfl) (Wt.yes rfl rfl rfl) rfl rfl ?_
                      refine RunL.pure (Pure.pickT rfl rfl) (Wt.none rfl) rfl rfl ?_
                      refine RunL.mv rfl rfl ?_
                      refine RunL.split (d := 63) rfl (fun q4 => ?_) (fun q4 => ?_)
                      · try simp only [ZA, ZB, ZC, ZD, ZE, ZF, ZG, ZH, ZI, ZJ, ZK, ZL, ZM, ZN, ZO, ZP, ZQ, ZR] at q4
                        refine RunL.pure (Pure.fieldAddr rfl fo50_8) (Wt.yes rfl rfl rfl) rfl rfl ?_
                        first | refine RunL.load1 rfl (by first | ((repeat (first | (with_reducible exact F0 _) | apply F1)); done) | (repeat (first | exact F0 _ | apply F1))) (by rfl) agg3 (Wt.yes rfl rfl rfl) rfl ?_ | refine RunL.load1R rfl (by assumption) (by rfl) agg3 (Wt.yes rfl rfl rfl) rfl ?_
                        refine RunL.pure (Pure.eql rfl rfl) (Wt.yes rfl rfl rfl) rfl rfl ?_
                        refine RunL.pure (Pure.pickT rfl rfl) (Wt.none rfl) rfl rfl ?_
                        refine RunL.as rfl rfl ?_
                        refine RunL.nil ?_
                        exact Run.ret Try.func59 (res1 rfl rfl) (by exact ⟨by congr 1; (try simp [eduLocal, eduKind, inR, *]); (first | done | (intros; omega) | grind), rfl⟩) (by repeat (first | (with_reducible exact Fin.done (by repeat (first | (with_reducible exact Rest.here) | apply Rest.there))) | (apply Fin.cons (by first | ((repeat (first | (with_reducible exact F0 _) | apply F1)); done) | (repeat (first | exact F0 _ | apply F1))))))
                      · try simp only [ZA, ZB, ZC, ZD, ZE, ZF, ZG, ZH, ZI, ZJ, ZK, ZL, ZM, ZN, ZO, ZP, ZQ, ZR] at q4
                        refine RunL.not (Wt.no rfl rfl rfl) rfl rfl ?_
                        refine RunL.not (Wt.no rfl rfl rfl) rfl rfl ?_
                        refine RunL.not (Wt.no rfl rfl rfl) rfl rfl ?_
                        refine RunL.pure (Pure.pickF rfl rfl) (Wt.none rfl) rfl rfl ?_
                        refine RunL.as rfl rfl ?_
                        refine RunL.nil ?_
                        exact Run.ret Try.func59 (res1 rfl rfl) (by exact ⟨by congr 1; (try simp [eduLocal, eduKind, inR, *]); (first | done | (intros; omega) | grind), rfl⟩) (by repeat (first | (with_reducible exact Fin.done (by repeat (first | (with_reducible exact Rest.here) | apply Rest.there))) | (apply Fin.cons (by first | ((repeat (first | (with_reducible exact F0 _) | apply F1)); done) | (repeat (first | exact F0 _ | apply F1))))))
                    · try simp only [ZA, ZB, ZC, ZD, ZE, ZF, ZG, ZH, ZI, ZJ, ZK, ZL, ZM, ZN, ZO, ZP, ZQ, ZR] at q3
                      refine RunL.not (Wt.no rfl rfl rfl) rfl rfl ?_
                      refine RunL.not (Wt.no rfl rfl rfl) rfl rfl ?_
                      refine RunL.not (Wt.no rfl rfl rfl) rfl rfl ?_
                      refine RunL.pure (Pure.pickF rfl rfl) (Wt.none rfl) rfl rfl ?_
                      refine RunL.mv rfl rfl ?_
                      refine RunL.not (Wt.no rfl rfl rfl) rfl rfl ?_
                      refine RunL.not (Wt.no rfl rfl rfl) rfl rfl ?_
                      refine RunL.not (Wt.no rfl rfl rfl) rfl rfl ?_
                      refine RunL.pure (Pure.pickF rfl rfl) (Wt.none rfl) rfl rfl ?_
                      refine RunL.as rfl rfl ?_
                      refine RunL.nil ?_
                      exact Run.ret Try.func59 (res1 rfl rfl) (by exact ⟨by congr 1; (try simp [eduLocal, eduKind, inR, *]); (first | done | (intros; omega) | grind), rfl⟩) (by repeat (first | (with_reducible exact Fin.done (by repeat (first | (with_reducible exact Rest.here) | apply Rest.there))) | (apply Fin.cons (by first | ((repeat (first | (with_reducible exact F0 _) | apply F1)); done) | (repeat (first | exact F0 _ | apply F1))))))
                  · try simp only [ZA, ZB, ZC, ZD, ZE, ZF, ZG, ZH, ZI, ZJ, ZK, ZL, ZM, ZN, ZO, ZP, ZQ, ZR] at q2
                    refine RunL.not (Wt.no rfl rfl rfl) rfl rfl ?_
                    refine RunL.not (Wt.no rfl rfl rfl) rfl rfl ?_
                    refine RunL.not (Wt.no rfl rfl rfl) rfl rfl ?_
                    refine RunL.pure (Pure.pickF rfl rfl) (Wt.none rfl) rfl rfl ?_
                    refine RunL.mv rfl rfl ?_
                    refine RunL.not (Wt.no rfl rfl rfl) rfl rfl ?_
                    refine RunL.not (Wt.no rfl rfl rfl) rfl rfl ?_
                    refine RunL.not (Wt.no rfl rfl rfl) rfl rfl ?_
                    refine RunL.pure (Pure.pickF rfl rfl) (Wt.none rfl) rfl rfl ?_
                    refine RunL.mv rfl rfl ?_
                    refine RunL.not (Wt.no rfl rfl rfl) rfl rfl ?_
                    refine RunL.not (Wt.no rfl rfl rfl) rfl rfl ?_
                    refine RunL.not (Wt.no rfl rfl rfl) rfl rfl ?_
                    refine RunL.pure (Pure.pickF rfl rfl) (Wt.none rfl) rfl rfl ?_
                    refine RunL.as rfl rfl ?_
                    refine RunL.nil ?_
                    exact Run.ret Try.func59 (res1 rfl rfl) (by exact ⟨by congr 1; (try simp [eduLocal, eduKind, inR, *]); (first | done | (intros; omega) | grind), rfl⟩) (by repeat (first | (with_reducible exact Fin.done (by repeat (first | (with_reducible exact Rest.here) | apply Rest.there))) | (apply Fin.cons (by first | ((repeat (first | (with_reducible exact F0 _) | apply F1)); done) | (repeat (first | exact F0 _ | apply F1))))))
                · try simp only [ZA, ZB, ZC, ZD, ZE, ZF, ZG, ZH, ZI, ZJ, ZK, ZL, ZM, ZN, ZO, ZP, ZQ, ZR] at q1
                  refine RunL.not (Wt.no rfl rfl rfl) rfl rfl ?_
                  refine RunL.pure (Pure.pickF rfl rfl) (Wt.none rfl) rfl rfl ?_
                  refine RunL.mv rfl rfl ?_
                  refine RunL.not (Wt.no rfl rfl rfl) rfl rfl ?_
                  refine RunL.not (Wt.no rfl rfl rfl) rfl rfl ?_
                  refine RunL.not (Wt.no rfl rfl rfl) rfl rfl ?_
                  refine RunL.pure (Pure.pickF rfl rfl) (Wt.none rfl) rfl rfl ?_
                  refine RunL.mv rfl rfl ?_
                  refine RunL.not (Wt.no rfl rfl rfl) rfl rfl ?_
                  refine RunL.not (Wt.no rfl rfl rfl) rfl rfl ?_
                  refine RunL.not (Wt.no rfl rfl rfl) rfl rfl ?_
                  refine RunL.pure (Pure.pickF rfl rfl) (Wt.none rfl) rfl rfl ?_
                  refine RunL.mv rfl rfl ?_
                  refine RunL.not (Wt.no rfl rfl rfl) rfl rfl ?_
                  refine RunL.not (Wt.no rfl rfl rfl) rfl rfl ?_
                  refine RunL.not (Wt.no rfl rfl rfl) rfl rfl ?_
                  refine RunL.pure (Pure.pickF rfl rfl) (Wt.none rfl) rfl rfl ?_
                  refine RunL.as rfl rfl ?_
                  refine RunL.nil ?_
                  exact Run.ret Try.func59 (res1 rfl rfl) (by exact ⟨by congr 1; (try simp [eduLocal, eduKind, inR, *]); (first | done | (intros; omega) | grind), rfl⟩) (by repeat (first | (with_reducible exact Fin.done (by repeat (first | (with_reducible exact Rest.here) | apply Rest.there))) | (apply Fin.cons (by first | ((repeat (first | (with_reducible exact F0 _) | apply F1)); done) | (repeat (first | exact F0 _ | apply F1))))))
              · try simp only [ZA, ZB, ZC, ZD, ZE, ZF, ZG, ZH, ZI, ZJ, ZK, ZL, ZM, ZN, ZO, ZP, ZQ, ZR] at q0
                refine RunL.not (Wt.no rfl rfl rfl) rfl rfl ?_
                refine RunL.pure (Pure.pickF rfl rfl) (Wt.none rfl) rfl rfl ?_
                refine RunL.mv rfl rfl ?_
                refine RunL.not (Wt.no rfl rfl rfl) rfl rfl ?_
                refine RunL.pure (Pure.pickF rfl rfl) (Wt.none rfl) rfl rfl ?_
                refine RunL.mv rfl rfl ?_
                refine RunL.not (Wt.no rfl rfl rfl) rfl rfl ?_
                refine RunL.not (Wt.no rfl rfl rfl) rfl rfl ?_
                refine RunL.not (Wt.no rfl rfl rfl) rfl rfl ?_
                refine RunL.pure (Pure.pickF rfl rfl) (Wt.none rfl) rfl rfl ?_
                refine RunL.mv rfl rfl ?_
                refine RunL.not (Wt.no rfl rfl rfl) rfl rfl ?_
                refine RunL.not (Wt.no rfl rfl rfl) rfl rfl ?_
                refine RunL.not (Wt.no rfl rfl rfl) rfl rfl ?_
                refine RunL.pure (Pure.pickF rfl rfl) (Wt.none rfl) rfl rfl ?_
                refine RunL.mv rfl rfl ?_
                refine RunL.not (Wt.no rfl rfl rfl) rfl rfl ?_
                refine RunL.not (Wt.no rfl rfl rfl) rfl rfl ?_
                refine RunL.not (Wt.no rfl rfl rfl) rfl rfl ?_
                refine RunL.pure (Pure.pickF rfl rfl) (Wt.none rfl) rfl rfl ?_
                refine RunL.as rfl rfl ?_
                refine RunL.nil ?_
                exact Run.ret Try.func59 (res1 rfl rfl) (by exact ⟨by congr 1; (try simp [eduLocal, eduKind, inR, *]); (first | done | (intros; omega) | grind), rfl⟩) (by repeat (first | (with_reducible exact Fin.done (by repeat (first | (with_reducible exact Rest.here) | apply Rest.there))) | (apply Fin.cons (by first | ((repeat (first | (with_reducible exact F0 _) | apply F1)); done) | (repeat (first | exact F0 _ | apply F1))))))
            · try simp only [ZA, ZB, ZC, ZD, ZE, ZF, ZG, ZH, ZI, ZJ, ZK, ZL, ZM, ZN, ZO, ZP, ZQ, ZR] at k1
              refine Run.sr ?_
              refine RunL.pure (Pure.eql rfl rfl) (Wt.none rfl) rfl rfl ?_
              refine RunL.as rfl rfl ?_
              refine RunL.nil ?_
              refine Run.cond rfl (fun k2 => ?_) (fun k2 => ?_)
              · try simp only [ZA, ZB, ZC, ZD, ZE, ZF, ZG, ZH, ZI, ZJ, ZK, ZL, ZM, ZN, ZO, ZP, ZQ, ZR] at k2
                refine Run.sr ?_
                refine RunL.pure (Pure.fieldAddr rfl fo50_6) (Wt.none rfl) rfl rfl ?_
                first | refine RunL.load1 rfl (by first | ((repeat (first | (with_reducible exact F0 _) | apply F1)); done) | (repeat (first | exact F0 _ | apply F1))) (by rfl) agg4 (Wt.none rfl) rfl ?_ | refine RunL.load1R rfl (by assumption) (by rfl) agg4 (Wt.none rfl) rfl ?_
                refine RunL.mv rfl rfl ?_
                refine RunL.split (d := 72) rfl (fun s1 => ?_) (fun s1 => ?_)
                · try simp only [ZA, ZB, ZC, ZD, ZE, ZF, ZG, ZH, ZI, ZJ, ZK, ZL, ZM, ZN, ZO, ZP, ZQ, ZR] at s1
                  refine RunL.pure (Pure.fieldAddr rfl fo50_7) (Wt.yes rfl rfl rfl) rfl rfl ?_
                  first | refine RunL.load1 rfl (by first | ((repeat (first | (with_reducible exact F0 _) | apply F1)); done) | (repeat (first | exact F0 _ | apply F1))) (by rfl) agg3 (Wt.yes rfl rfl rfl) rfl ?_ | refine RunL.load1R rfl (by assumption) (by rfl) agg3 (Wt.yes rfl rfl rfl) rfl ?_
                  refine RunL.pure (Pure.geq rfl rfl) (Wt.yes rfl rfl rfl) rfl rfl ?_
                  refine RunL.pure (Pure.pickT rfl rfl) (Wt.none rfl) rfl rfl ?_
                  refine RunL.mv rfl rfl ?_
                  refine RunL.split (d := 77) rfl (fun s2 => ?_) (fun s2 => ?_)
                  · try simp only [ZA, ZB, ZC, ZD, ZE, ZF, ZG, ZH, ZI, ZJ, ZK, ZL, ZM, ZN, ZO, ZP, ZQ, ZR] at s2
                    refine RunL.pure (Pure.fieldAddr rfl fo50_7) (Wt.yes rfl rfl rfl) rfl rfl ?_
                    first | refine RunL.load1 rfl (by first | ((repeat (first | (with_reducible exact F0 _) | apply F1)); done) | (repeat (first | exact F0 _ | apply F1))) (by rfl) agg3 (Wt.yes rfl rfl rfl) rfl ?_ | refine RunL.load1R rfl (by assumption) (by rfl) agg3 (Wt.yes rfl rfl rfl) rfl ?_
                    refine RunL.pure (Pure.leq rfl rfl) (Wt.yes rfl rfl rfl) rfl rfl ?_
                    refine RunL.pure (Pure.pickT rfl rfl) (Wt.none rfl) rfl rfl ?_
                    refine RunL.mv rfl rfl ?_
                    refine RunL.split (d := 82) rfl (fun s3 => ?_) (fun s3 => ?_)
                    · try simp only [ZA, ZB, ZC, ZD, ZE, ZF, ZG, ZH, ZI, ZJ, ZK, ZL, ZM, ZN, ZO, ZP, ZQ, ZR] at s3
                      refine RunL.not (Wt.no rfl rfl rfl) rfl rfl ?_
                      refine RunL.not (Wt.no rfl rfl rfl) rfl rfl ?_
                      refine RunL.not (Wt.no rfl rfl rfl) rfl rfl ?_
                      refine RunL.not (Wt.no rfl rfl rfl) rfl rfl ?_
                      refine RunL.not (Wt.un rfl rfl rfl) rfl rfl ?_
                      refine RunL.not (Wt.un rfl rfl rfl) rfl rfl ?_
                      refine RunL.not (Wt.un rfl rfl rfl) rfl rfl ?_
                      refine RunL.not (Wt.no rfl rfl rfl) rfl rfl ?_
                      refine RunL.pure (Pure.pickT rfl rfl) (Wt.none rfl) rfl rfl ?_
                      refine RunL.as rfl rfl ?_
                      refine RunL.nil ?_
                      refine Run.sr ?_
                      refine RunL.mv rfl rfl ?_
                      refine RunL.mv rfl rfl ?_
                      refine RunL.split (d := 93) rfl (fun q7 => ?_) (fun q7 => ?_)
                      · try simp only [ZA, ZB, ZC, ZD, ZE, ZF, ZG, ZH, ZI, ZJ, ZK, ZL, ZM, ZN, ZO, ZP, ZQ, ZR] at q7
                        refine RunL.pure (Pure.move rfl) (Wt.yes rfl rfl rfl) rfl rfl ?_
                        refine RunL.pure (Pure.pickT rfl rfl) (Wt.none rfl) rfl rfl ?_
                        refine RunL.mv rfl rfl ?_
                        refine RunL.pure (Pure.fieldAddr rfl fo50_3) (Wt.yes rfl rfl rfl) rfl rfl ?_
                        first | refine RunL.load1 rfl (by first | ((repeat (first | (with_reducible exact F0 _) | apply F1)); done) | (repeat (first | exact F0 _ | apply F1))) (by rfl) agg9 (Wt.yes rfl rfl rfl) rfl ?_ | refine RunL.load1R rfl (by assumption) (by rfl) agg9 (Wt.yes rfl rfl rfl) rfl ?_
                        refine RunL.pure (Pure.seql rfl rfl) (Wt.yes rfl rfl rfl) rfl rfl ?_
                        refine RunL.pure (Pure.pickT rfl rfl) (Wt.none rfl) rfl rfl ?_
                        refine RunL.mv rfl rfl ?_
                        refine RunL.split (d := 101) rfl (fun q10 => ?_) (fun q10 => ?_)
                        · try simp only [ZA, ZB, ZC, ZD, ZE, ZF, ZG, ZH, ZI, ZJ, ZK, ZL, ZM, ZN, ZO, ZP, ZQ, ZR] at q10
                          refine RunL.pure (Pure.fieldAddr rfl fo50_4) (Wt.yes rfl rfl rfl) rfl rfl ?_
                          first | refine RunL.load1 rfl (by first | ((repeat (first | (with_reducible exact F0 _) | apply F1)); done) | (repeat (first | exact F0 _ | apply F1))) (by rfl) agg9 (Wt.yes rfl rfl rfl) rfl ?_ | refine RunL.load1R rfl (by assumption) (by rfl) agg9 (Wt.yes rfl rfl rfl) rfl ?_
                          refine RunL.pure (Pure.seql rfl rfl) (Wt.yes rfl rfl rfl) rfl rfl ?_
                          refine RunL.pure (Pure.pickT rfl rfl) (Wt.none rfl) rfl rfl ?_
                          refine RunL.mv rfl rfl ?_
                          refine RunL.split (d := 106) rfl (fun q11 => ?_) (fun q11 => ?_)
                          · try simp only [ZA, ZB, ZC, ZD, ZE, ZF, ZG, ZH, ZI, ZJ, ZK, ZL, ZM, ZN, ZO, ZP, ZQ, ZR] at q11
                            refine RunL.pure (Pure.fieldAddr rfl fo50_8) (Wt.yes rfl rfl rfl) rfl rfl ?_
                            first | refine RunL.load1 rfl (by first | ((repeat (first | (with_reducible exact F0 _) | apply F1)); done) | (repeat (first | exact F0 _ | apply F1))) (by rfl) agg3 (Wt.yes rfl rfl rfl) rfl ?_ | refine RunL.load1R rfl (by assumption) (by rfl) agg3 (Wt.yes rfl rfl rfl) rfl ?_
                            refine RunL.pure (Pure.eql rfl rfl) (Wt.yes rfl rfl rfl) rfl rfl ?_
                            refine RunL.pure (Pure.pickT rfl rfl) (Wt.none rfl) rfl rfl ?_
                            refine RunL.mv rfl rfl ?_
                            refine RunL.split (d := 111) rfl (fun q12 => ?_) (fun q12 => ?_)
                            · try simp only [ZA, ZB, ZC, ZD, ZE, ZF, ZG, ZH, ZI, ZJ, ZK, ZL, ZM, ZN, ZO, ZP, ZQ, ZR] at q12
                              refine RunL.pure (Pure.fieldAddr rfl fo50_5) (Wt.yes rfl rfl rfl) rfl rfl ?_
                              first | refine RunL.load1 rfl (by first | ((repeat (first | (with_reducible exact F0 _) | apply F1)); done) | (repeat (first | exact F0 _ | apply F1))) (by rfl) agg4 (Wt.yes rfl rfl rfl) rfl ?_ | refine RunL.load1R rfl (by assumption) (by rfl) agg4 (Wt.yes rfl rfl rfl) rfl ?_
                              refine RunL.pure (Pure.not rfl) (Wt.yes rfl rfl rfl) rfl rfl ?_
                              refine RunL.pure (Pure.pickT rfl rfl) (Wt.none rfl) rfl rfl ?_
                              refine RunL.as rfl rfl ?_
                              refine RunL.nil ?_
                              exact Run.ret Try.func59 (res1 rfl rfl) (by exact ⟨by congr 1; (try simp [eduLocal, eduKind, inR, *]); (first | done | (intros; omega) | grind), rfl⟩) (by repeat (first | (with_reducible exact Fin.done (by repeat (first | (with_reducible exact Rest.here) | apply Rest.there))) | (apply Fin.cons (by first | ((repeat (first | (with_reducible exact F0 _) | apply F1)); done) | (repeat (first | exact F0 _ | apply F1))))))
                            · try simp only [ZA, ZB, ZC, ZD, ZE, ZF, ZG, ZH, ZI, ZJ, ZK, ZL, ZM, ZN, ZO, ZP, ZQ, ZR] at q12
                              refine RunL.not (Wt.no rfl rfl rfl) rfl rfl ?_
                              refine RunL.not (Wt.no rfl rfl rfl) rfl rfl ?_
                              refine RunL.not (Wt.no rfl rfl rfl) rfl rfl ?_
                              refine RunL.pure (Pure.pickF rfl rfl) (Wt.none rfl) rfl rfl ?_
                              refine RunL.as rfl rfl ?_
                              refine RunL.nil ?_
                              exact Run.ret Try.func59 (res1 rfl rfl) (by exact ⟨by congr 1; (try simp [eduLocal, eduKind, inR, *]); (first | done | (intros; omega) | grind), rfl⟩) (by repeat (first | (with_reducible exact Fin.done (by repeat (first | (with_reducible exact Rest.here) | apply Rest.there))) | (apply Fin.cons (by first | ((repeat (first | (with_reducible exact F0 _) | apply F1)); done) | (repeat (first | exact F0 _ | apply F1))))))
                          · try simp only [ZA, ZB, ZC, ZD, ZE, ZF, ZG, ZH, ZI, ZJ, ZK, ZL, ZM, ZN, ZO, ZP, ZQ, ZR] at q11
                            refine RunL.not (Wt.no rfl rfl rfl) rfl rfl ?_
                            refine RunL.not (Wt.no rfl rfl rfl) rfl rfl ?_
                            refine RunL.not (Wt.no rfl rfl rfl) rfl rfl ?_
                            refine RunL.pure (Pure.pickF rfl rfl) (Wt.none rfl) rfl rfl ?_
                            refine RunL.mv rfl rfl ?_
                            refine RunL.not (Wt.no rfl rfl rfl) rfl rfl ?_
                            refine RunL.not (Wt.no rfl rfl rfl) rfl rfl ?_
                            refine RunL.not (Wt.no rfl rfl rfl) rfl rfl ?_
                            refine RunL.pure (Pure.pickF rfl rfl) (Wt.none rfl) rfl rfl ?_
                            refine RunL.as rfl rfl ?_
                            refine RunL.nil ?_
                            exact Run.ret Try.func59 (res1 rfl rfl) (by exact ⟨by congr 1; (try simp [eduLocal, eduKind, inR, *]); (first | done | (intros; omega) | grind), rfl⟩) (by repeat (first | (with_reducible exact Fin.done (by repeat (first | (with_reducible exact Rest.here) | apply Rest.there))) | (apply Fin.cons (by first | ((repeat (first | (with_reducible exact F0 _) | apply F1)); done) | (repeat (first | exact F0 _ | apply F1))))))
                        · try simp only [ZA, ZB, ZC, ZD, ZE, ZF, ZG, ZH, ZI, ZJ, ZK, ZL, ZM, ZN, ZO, ZP, ZQ, ZR] at q10
                          refine RunL.not (Wt.no rfl rfl rfl) rfl rfl ?_
                          refine RunL.not (Wt.no rfl rfl rfl) rfl rfl ?_
                          refine RunL.not (Wt.no rfl rfl rfl) rfl rfl ?_
                          refine RunL.pure (Pure.pickF rfl rfl) (Wt.none rfl) rfl rfl ?_
                          refine RunL.mv rfl rfl ?_
                          refine RunL.not (Wt.no rfl rfl rfl) rfl rfl ?_
                          refine RunL.not (Wt.no rfl rfl rfl) rfl rfl ?_
                          refine RunL.not (Wt.no rfl rfl rfl) rfl rfl ?_
                          refine RunL.pure (Pure.pickF rfl rfl) (Wt.none rfl) rfl rfl ?_
                          refine RunL.mv rfl rfl ?_
                          refine RunL.not (Wt.no rfl rfl rfl) rfl rfl ?_
                          refine RunL.not (Wt.no rfl rfl rfl) rfl rfl ?_
                          refine RunL.not (Wt.no rfl rfl rfl) rfl rfl ?_
                          refine RunL.pure (Pure.pickF rfl rfl) (Wt.none rfl) rfl rfl ?_
                          refine RunL.as rfl rfl ?_
                          refine RunL.nil ?_
                          exact Run.ret Try.func59 (res1 rfl rfl) (by exact ⟨by congr 1; (try simp [eduLocal, eduKind, inR, *]); (first | done | (intros; omega) | grind), rfl⟩) (by repeat (first | (with_reducible exact Fin.done (by repeat (first | (with_reducible exact Rest.here) | apply Rest.there))) | (apply Fin.cons (by first | ((repeat (first | (with_reducible exact F0 _) | apply F1)); done) | (repeat (first | exact F0 _ | apply F1))))))
                      · try simp only [ZA, ZB, ZC, ZD, ZE, ZF, ZG, ZH, ZI, ZJ, ZK, ZL, ZM, ZN, ZO, ZP, ZQ, ZR] at q7
                        refine RunL.not (Wt.no rfl rfl rfl) rfl rfl ?_
                        refine RunL.pure (Pure.pickF rfl rfl) (Wt.none rfl) rfl rfl ?_
                        refine RunL.mv rfl rfl ?_
                        refine RunL.not (Wt.no rfl rfl rfl) rfl rfl ?_
                        refine RunL.not (Wt.no rfl rfl rfl) rfl rfl ?_
                        refine RunL.not (Wt.no rfl rfl rfl) rfl rfl ?_
                        refine RunL.pure (Pure.pickF rfl rfl) (Wt.none rfl) rfl rfl ?_
                        refine RunL.mv rfl rfl ?_
                        refine RunL.not (Wt.no rfl rfl rfl) rfl rfl ?_
                        refine RunL.not (Wt.no rfl rfl rfl) rfl rfl ?_
                        refine RunL.not (Wt.no rfl rfl rfl) rfl rfl ?_
                        refine RunL.pure (Pure.pickF rfl rfl) (Wt.none rfl) rfl rfl ?_
                        refine RunL.mv rfl rfl ?_
                        refine RunL.not (Wt.no rfl rfl rfl) rfl rfl ?_
                        refine RunL.not (Wt.no rfl rfl rfl) rfl rfl ?_
                        refine RunL.not (Wt.no rfl rfl rfl) rfl rfl ?_
                        refine RunL.pure (Pure.pickF rfl rfl) (Wt.none rfl) rfl rfl ?_
                        refine RunL.mv rfl rfl ?_
                        refine RunL.not (Wt.no rfl rfl rfl) rfl rfl ?_
                        refine RunL.not (Wt.no rfl rfl rfl) rfl rfl ?_
                        refine RunL.not (Wt.no rfl rfl rfl) rfl rfl ?_
                        refine RunL.pure (Pure.pickF rfl rfl) (Wt.none rfl) rfl rfl ?_
                        refine RunL.as rfl rfl ?_
                        refine RunL.nil ?_
                        exact Run.ret Try.func59 (res1 rfl rfl) (by exact ⟨by congr 1; (try simp [eduLocal, eduKind, inR, *]); (first | done | (intros; omega) | grind), rfl⟩) (by repeat (first | (with_reducible exact Fin.done (by repeat (first | (with_reducible exact Rest.here) | apply Rest.there))) | (apply Fin.cons (by first | ((repeat (first | (with_reducible exact F0 _) | apply F1)); done) | (repeat (first | exact F0 _ | apply F1))))))
                    · try simp only [ZA, ZB, ZC, ZD, ZE, ZF, ZG, ZH, ZI, ZJ, ZK, ZL, ZM, ZN, ZO, ZP, ZQ, ZR] at s3
                      refine RunL.pure (Pure.fieldAddr rfl fo50_6) (Wt.yes rfl rfl rfl) rfl rfl ?_
                      first | refine RunL.load1 rfl (by first | ((repeat (first | (with_reducible exact F0 _) | apply F1)); done) | (repeat (first | exact F0 _ | apply F1))) (by rfl) agg4 (Wt.yes rfl rfl rfl) rfl ?_ | refine RunL.load1R rfl (by assumption) (by rfl) agg4 (Wt.yes rfl rfl rfl) rfl ?_
                      refine RunL.pure (Pure.not rfl) (Wt.yes rfl rfl rfl) rfl rfl ?_
                      refine RunL.pure (Pure.move rfl) (Wt.yes rfl rfl rfl) rfl rfl ?_
                      refine RunL.split (d := 86) rfl (fun hg1 => ?_) (fun hg1 => ?_)
                      · try simp only [ZA, ZB, ZC, ZD, ZE, ZF, ZG, ZH, ZI, ZJ, ZK, ZL, ZM, ZN, ZO, ZP, ZQ, ZR] at hg1
                        exfalso
                        simp_all
                      try simp only [ZA, ZB, ZC, ZD, ZE, ZF, ZG, ZH, ZI, ZJ, ZK, ZL, ZM, ZN, ZO, ZP, ZQ, ZR] at hg1
                      refine RunL.not (Wt.no rfl rfl rfl) rfl rfl ?_
                      refine RunL.not (Wt.no rfl rfl rfl) rfl rfl ?_
                      refine RunL.not (Wt.no rfl rfl rfl) rfl rfl ?_
                      refine RunL.pure (Pure.pickF rfl rfl) (Wt.yes rfl rfl rfl) rfl rfl ?_
                      refine RunL.pure (Pure.pickF rfl rfl) (Wt.none rfl) rfl rfl ?_
                      refine RunL.as rfl rfl ?_
                      refine RunL.nil ?_
                      refine Run.sr ?_
                      refine RunL.mv rfl rfl ?_
                      refine RunL.mv rfl rfl ?_
                      refine RunL.split (d := 93) rfl (fun q7 => ?_) (fun q7 => ?_)
                      · try simp only [ZA, ZB, ZC, ZD, ZE, ZF, ZG, ZH, ZI, ZJ, ZK, ZL, ZM, ZN, ZO, ZP, ZQ, ZR] at q7
                        refine RunL.pure (Pure.move rfl) (Wt.yes rfl rfl rfl) rfl rfl ?_
                        refine RunL.pure (Pure.pickT rfl rfl) (Wt.none rfl) rfl rfl ?_
                        refine RunL.mv rfl rfl ?_
                        refine RunL.not (Wt.no rfl rfl rfl) rfl rfl ?_
                        refine RunL.not (Wt.no rfl rfl rfl) rfl rfl ?_
                        refine RunL.not (Wt.no rfl rfl rfl) rfl rfl ?_
                        refine RunL.pure (Pure.pickF rfl rfl) (Wt.none rfl) rfl rfl ?_
                        refine RunL.mv rfl rfl ?_
                        refine RunL.not (Wt.no rfl rfl rfl) rfl rfl ?_
                        refine RunL.not (Wt.no rfl rfl rfl) rfl rfl ?_
                        refine RunL.not (Wt.no rfl rfl rfl) rfl rfl ?_
                        refine RunL.pure (Pure.pickF rfl rfl) (Wt.none rfl) rfl rfl ?_
                        refine RunL.mv rfl rfl ?_
                        refine RunL.not (Wt.no rfl rfl rfl) rfl rfl ?_
                        refine RunL.not (Wt.no rfl rfl rfl) rfl rfl ?_
                        refine RunL.not (Wt.no rfl rfl rfl) rfl rfl ?_
                        refine RunL.pure (Pure.pickF rfl rfl) (Wt.none rfl) rfl rfl ?_
                        refine RunL.mv rfl rfl ?_
                        refine RunL.not (Wt.no rfl rfl rfl) rfl rfl ?_
                        refine RunL.not (Wt.no rfl rfl rfl) rfl rfl ?_
                        refine RunL.not (Wt.no rfl rfl rfl) rfl rfl ?_
                        refine RunL.pure (Pure.pickF rfl rfl) (Wt.none rfl) rfl rfl ?_
                        refine RunL.as rfl rfl ?_
                        refine RunL.nil ?_
                        exact Run.ret Try.func59 (res1 rfl rfl) (by exact ⟨by congr 1; (try simp [eduLocal, eduKind, inR, *]); (first | done | (intros; omega) | grind), rfl⟩) (by repeat (first | (with_reducible exact Fin.done (by repeat (first | (with_reducible exact Rest.here) | apply Rest.there))) | (apply Fin.cons (by first | ((repeat (first | (with_reducible exact F0 _) | apply F1)); done) | (repeat (first | exact F0 _ | apply F1))))))
                      · try simp only [ZA, ZB, ZC, ZD, ZE, ZF, ZG, ZH, ZI, ZJ, ZK, ZL, ZM, ZN, ZO, ZP, ZQ, ZR] at q7
                        refine RunL.not (Wt.no rfl rfl rfl) rfl rfl ?_
                        refine RunL.pure (Pure.pickF rfl rfl) (Wt.none rfl) rfl rfl ?_
                        refine RunL.mv rfl rfl ?_
                        refine RunL.not (Wt.no rfl rfl rfl) rfl rfl ?_
                        refine RunL.not (Wt.no rfl rfl rfl) rfl rfl ?_
                        refine RunL.not (Wt.no rfl rfl rfl) rfl rfl ?_
                        refine RunL.pure (Pure.pickF rfl rfl) (Wt.none rfl) rfl rfl ?_
                        refine RunL.mv rfl rfl ?_
                        refine RunL.not (Wt.no rfl rfl rfl) rfl rfl ?_
                        refine RunL.not (Wt.no rfl rfl rfl) rfl rfl ?_
                        refine RunL.not (Wt.no rfl rfl rfl) rfl rfl ?_
                        refine RunL.pure (Pure.pickF rfl rfl) (Wt.none rfl) rfl rfl ?_
                        refine RunL.mv rfl rfl ?_
                        refine RunL.not (Wt.no rfl rfl rfl) rfl rfl ?_
                        refine RunL.not (Wt.no rfl rfl rfl) rfl rfl ?_
                        refine RunL.not (Wt.no rfl rfl rfl) rfl rfl ?_
                        refine RunL.pure (Pure.pickF rfl rfl) (Wt.none rfl) rfl rfl ?_
                        refine RunL.mv rfl rfl ?_
                        refine RunL.not (Wt.no rfl rfl rfl) rfl rfl ?_
                        refine RunL.not (Wt.no rfl rfl rfl) rfl rfl ?_
                        refine RunL.not (Wt.no rfl rfl rfl) rfl rfl ?_
                        refine RunL.pure (Pure.pickF rfl rfl) (Wt.none rfl) rfl rfl ?_
                        refine RunL.as rfl rfl ?_
                        refine RunL.nil ?_
                        exact Run.ret Try.func59 (res1 rfl rfl) (by exact ⟨by congr 1; (try simp [eduLocal, eduKind, inR, *]); (first | done | (intros; omega) | grind), rfl⟩) (by repeat (first | (with_reducible exact Fin.done (by repeat (first | (with_reducible exact Rest.here) | apply Rest.there))) | (apply Fin.cons (by first | ((repeat (first | (with_reducible exact F0 _) | apply F1)); done) | (repeat (first | exact F0 _ | apply F1))))))
                  · try simp only [ZA, ZB, ZC, ZD, ZE, ZF, ZG, ZH, ZI, ZJ, ZK, ZL, ZM, ZN, ZO, ZP, ZQ, ZR] at s2
                    refine RunL.not (Wt.no rfl rfl rfl) rfl rfl ?_
                    refine RunL.not (Wt.no rfl rfl rfl) rfl rfl ?_
                    refine RunL.not (Wt.no rfl rfl rfl) rfl rfl ?_
                    refine RunL.pure (Pure.pickF rfl rfl) (Wt.none rfl) rfl rfl ?_
                    refine RunL.mv rfl rfl ?_
                    refine RunL.pure (Pure.fieldAddr rfl fo50_6) (Wt.yes rfl rfl rfl) rfl rfl ?_
                    first | refine RunL.load1 rfl (by first | ((repeat (first | (with_reducible exact F0 _) | apply F1)); done) | (repeat (first | exact F0 _ | apply F1))) (by rfl) agg4 (Wt.yes rfl rfl rfl) rfl ?_ | refine RunL.load1R rfl (by assumption) (by rfl) agg4 (Wt.yes rfl rfl rfl) rfl ?_
                    refine RunL.pure (Pure.not rfl) (Wt.yes rfl rfl rfl) rfl rfl ?_
                    refine RunL.pure (Pure.move rfl) (Wt.yes rfl rfl rfl) rfl rfl ?_
                    refine RunL.split (d := 86) rfl (fun hg2 => ?_) (fun hg2 => ?_)
                    · try simp only [ZA, ZB, ZC, ZD, ZE, ZF, ZG, ZH, ZI, ZJ, ZK, ZL, ZM, ZN, ZO, ZP, ZQ, ZR] at hg2
                      exfalso
                      simp_all
                    try simp only [ZA, ZB, ZC, ZD, ZE, ZF, ZG, ZH, ZI, ZJ, ZK, ZL, ZM, ZN, ZO, ZP, ZQ, ZR] at hg2
                    refine RunL.not (Wt.no rfl rfl rfl) rfl rfl ?_
                    refine RunL.not (Wt.no rfl rfl rfl) rfl rfl ?_
                    refine RunL.not (Wt.no rfl rfl rfl) rfl rfl ?_
                    refine RunL.pure (Pure.pickF rfl rfl) (Wt.yes rfl rfl rfl) rfl rfl ?_
                    refine RunL.pure (Pure.pickF rfl rfl) (Wt.none rfl) rfl rfl ?_
                    refine RunL.as rfl rfl ?_
                    refine RunL.nil ?_
                    refine Run.sr ?_
                    refine RunL.mv rfl rfl ?_
                    refine RunL.mv rfl rfl ?_
                    refine RunL.split (d := 93) rfl (fun q7 => ?_) (fun q7 => ?_)
                    · try simp only [ZA, ZB, ZC, ZD, ZE, ZF, ZG, ZH, ZI, ZJ, ZK, ZL, ZM, ZN, ZO, ZP, ZQ, ZR] at q7
                      refine RunL.pure (Pure.move rfl) (Wt.yes rfl rfl rfl) rfl rfl ?_
                      refine RunL.pure (Pure.pickT rfl rfl) (Wt.none rfl) rfl rfl ?_
                      refine RunL.mv rfl rfl ?_
                      refine RunL.not (Wt.no rfl rfl rfl) rfl rfl ?_
                      refine RunL.not (Wt.no rfl rfl rfl) rfl rfl ?_
                      refine RunL.not (Wt.no rfl rfl rfl) rfl rfl ?_
                      refine RunL.pure (Pure.pickF rfl rfl) (Wt.none rfl) rfl rfl ?_
                      refine RunL.mv rfl rfl ?_
                      refine RunL.not (Wt.no rfl rfl rfl) rfl rfl ?_
                      refine RunL.not (Wt.no rfl rfl rfl) rfl rfl ?_
                      refine RunL.not (Wt.no rfl rfl rfl) rfl rfl ?_
                      refine RunL.pure (Pure.pickF rfl rfl) (Wt.none rfl) rfl rfl ?_
                      refine RunL.mv rfl rfl ?_
                      refine RunL.not (Wt.no rfl rfl rfl) rfl rfl ?_
                      refine RunL.not (Wt.no rfl rfl rfl) rfl rfl ?_
                      refine RunL.not (Wt.no rfl rfl rfl) rfl rfl ?_
                      refine RunL.pure (Pure.pickF rfl rfl) (Wt.none rfl) rfl rfl ?_
                      refine RunL.mv rfl rfl ?_
                      refine RunL.not (Wt.no rfl rfl rfl) rfl rfl ?_
                      refine RunL.not (Wt.no rfl rfl rfl) rfl rfl ?_
                      refine RunL.not (Wt.no rfl rfl rfl) rfl rfl ?_
                      refine RunL.pure (Pure.pickF rfl rfl) (Wt.none rfl) rfl rfl ?_
                      refine RunL.as rfl rfl ?_
                      refine RunL.nil ?_
                      exact Run.ret Try.func59 (res1 rfl rfl) (by exact ⟨by congr 1; (try simp [eduLocal, eduKind, inR, *]); (first | done | (intros; omega) | grind), rfl⟩) (by repeat (first | (with_reducible exact Fin.done (by repeat (first | (with_reducible exact Rest.here) | apply Rest.there))) | (apply Fin.cons (by first | ((repeat (first | (with_reducible exact F0 _) | apply F1)); done) | (repeat (first | exact F0 _ | apply F1))))))
                    · try simp only [ZA, ZB, ZC, ZD, ZE, ZF, ZG, ZH, ZI, ZJ, ZK, ZL, ZM, ZN, ZO, ZP, ZQ, ZR] at q7
                      refine RunL.not (Wt.no rfl rfl rfl) rfl rfl ?_
                      refine RunL.pure (Pure.pickF rfl rfl) (Wt.none rfl) rfl rfl ?_
                      refine RunL.mv rfl rfl ?_
                      refine RunL.not (Wt.no rfl rfl rfl) rfl rfl ?_
                      refine RunL.not (Wt.no rfl rfl rfl) rfl rfl ?_
                      refine RunL.not (Wt.no rfl rfl rfl) rfl rfl ?_
                      refine RunL.pure (Pure.pickF rfl rfl) (Wt.none rfl) rfl rfl ?_
                      refine RunL.mv rfl rfl ?_
                      refine RunL.not (Wt.no rfl rfl rfl) rfl rfl ?_
                      refine RunL.not (Wt.no rfl rfl rfl) rfl rfl ?_
                      refine RunL.not (Wt.no rfl rfl rfl) rfl rfl ?_
                      refine RunL.pure (Pure.pickF rfl rfl) (Wt.none rfl) rfl rfl ?_
                      refine RunL.mv rfl rfl ?_
                      refine RunL.not (Wt.no rfl rfl rfl) rfl rfl ?_
                      refine RunL.not (Wt.no rfl rfl rfl) rfl rfl ?_
                      refine RunL.not (Wt.no rfl rfl rfl) rfl rfl ?_
                      refine RunL.pure (Pure.pickF rfl rfl) (Wt.none rfl) rfl rfl ?_
                      refine RunL.mv rfl rfl ?_
                      refine RunL.not (Wt.no rfl rfl rfl) rfl rfl ?_
                      refine RunL.not (Wt.no rfl rfl rfl) rfl rfl ?_
                      refine RunL.not (Wt.no rfl rfl rfl) rfl rfl ?_
                      refine RunL.pure (Pure.pickF rfl rfl) (Wt.none rfl) rfl rfl ?_
                      refine RunL.as rfl rfl ?_
                      refine RunL.nil ?_
                      exact Run.ret Try.func59 (res1 rfl rfl) (by exact ⟨by congr 1; (try simp [eduLocal, eduKind, inR, *]); (first | done | (intros; omega) | grind), rfl⟩) (by repeat (first | (with_reducible exact Fin.done (by repeat (first | (with_reducible exact Rest.here) | apply Rest.there))) | (apply Fin.cons (by first | ((repeat (first | (with_reducible exact F0 _) | apply F1)); done) | (repeat (first | exact F0 _ | apply F1))))))
                · try simp only [ZA, ZB, ZC, ZD, ZE, ZF, ZG, ZH, ZI, ZJ, ZK, ZL, ZM, ZN, ZO, ZP, ZQ, ZR] at s1
                  refine RunL.not (Wt.no rfl rfl rfl) rfl rfl ?_
                  refine RunL.not (Wt.no rfl rfl rfl) rfl rfl ?_
                  refine RunL.not (Wt.no rfl rfl rfl) rfl rfl ?_
                  refine RunL.pure (Pure.pickF rfl rfl) (Wt.none rfl) rfl rfl ?_
                  refine RunL.mv rfl rfl ?_
                  refine RunL.not (Wt.no rfl rfl rfl) rfl rfl ?_
                  refine RunL.not (Wt.no rfl rfl rfl) rfl rfl ?_
                  refine RunL.not (Wt.no rfl rfl rfl) rfl rfl ?_
                  refine RunL.pure (Pure.pickF rfl rfl) (Wt.none rfl) rfl rfl ?_
                  refine RunL.mv rfl rfl ?_
                  refine RunL.pure (Pure.fieldAddr rfl fo50_6) (Wt.yes rfl rfl rfl) rfl rfl ?_
                  first | refine RunL.load1 rfl (by first | ((repeat (first | (with_reducible exact F0 _) | apply F1)); done) | (repeat (first | exact F0 _ | apply F1))) (by rfl) agg4 (Wt.yes rfl rfl rfl) rfl ?_ | refine RunL.load1R rfl (by assumption) (by rfl) agg4 (Wt.yes rfl rfl rfl) rfl ?_
                  refine RunL.pure (Pure.not rfl) (Wt.yes rfl rfl rfl) rfl rfl ?_
                  refine RunL.pure (Pure.move rfl) (Wt.yes rfl rfl rfl) rfl rfl ?_
                  refine RunL.split (d := 86) rfl (fun hg3 => ?_) (fun hg3 => ?_)
                  rotate_left
                  · try simp only [ZA, ZB, ZC, ZD, ZE, ZF, ZG, ZH, ZI, ZJ, ZK, ZL, ZM, ZN, ZO, ZP, ZQ, ZR] at hg3
                    exfalso
                    simp_all
                  try simp only [ZA, ZB, ZC, ZD, ZE, ZF, ZG, ZH, ZI, ZJ, ZK, ZL, ZM, ZN, ZO, ZP, ZQ, ZR] at hg3
                  refine RunL.pure (Pure.fieldAddr rfl fo50_7) (Wt.yes rfl rfl rfl) rfl rfl ?_
                  first | refine RunL.load1 rfl (by first | ((repeat (first | (with_reducible exact F0 _) | apply F1)); done) | (repeat (first | exact F0 _ | apply F1))) (by rfl) agg3 (Wt.yes rfl rfl rfl) rfl ?_ | refine RunL.load1R rfl (by assumption) (by rfl) agg3 (Wt.yes rfl rfl rfl) rfl ?_
                  refine RunL.pure (Pure.eql rfl rfl) (Wt.yes rfl rfl rfl) rfl rfl ?_
                  refine RunL.pure (Pure.pickT rfl rfl) (Wt.yes rfl rfl rfl) rfl rfl ?_
                  refine RunL.pure (Pure.pickF rfl rfl) (Wt.none rfl) rfl rfl ?_
                  refine RunL.as rfl rfl ?_
                  refine RunL.nil ?_
                  refine Run.sr ?_
                  refine RunL.mv rfl rfl ?_
                  refine RunL.mv rfl rfl ?_
                  refine RunL.split (d := 93) rfl (fun q7 => ?_) (fun q7 => ?_)
                  · try simp only [ZA, ZB, ZC, ZD, ZE, ZF, ZG, ZH, ZI, ZJ, ZK, ZL, ZM, ZN, ZO, ZP, ZQ, ZR] at q7
                    refine RunL.pure (Pure.move rfl) (Wt.yes rfl rfl rfl) rfl rfl ?_
                    refine RunL.pure (Pure.pickT rfl rfl) (Wt.none rfl) rfl rfl ?_
                    refine RunL.mv rfl rfl ?_
                    refine RunL.split (d := 96) rfl (fun q8 => ?_) (fun q8 => ?_)
                    · try simp only [ZA, ZB, ZC, ZD, ZE, ZF, ZG, ZH, ZI, ZJ, ZK, ZL, ZM, ZN, ZO, ZP, ZQ, ZR] at q8
                      refine RunL.pure (Pure.fieldAddr rfl fo50_3) (Wt.yes rfl rfl rfl) rfl rfl ?_
                      first | refine RunL.load1 rfl (by first | ((repeat (first | (with_reducible exact F0 _) | apply F1)); done) | (repeat (first | exact F0 _ | apply F1))) (by rfl) agg9 (Wt.yes rfl rfl rfl) rfl ?_ | refine RunL.load1R rfl (by assumption) (by rfl) agg9 (Wt.yes rfl rfl rfl) rfl ?_
                      refine RunL.pure (Pure.seql rfl rfl) (Wt.yes rfl rfl rfl) rfl rfl ?_
                      refine RunL.pure (Pure.pickT rfl rfl) (Wt.none rfl) rfl rfl ?_
                      refine RunL.mv rfl rfl ?_
                      refine RunL.split (d := 101) rfl (fun q10 => ?_) (fun q10 => ?_)
                      · try simp only [ZA, ZB, ZC, ZD, ZE, ZF, ZG, ZH, ZI, ZJ, ZK, ZL, ZM, ZN, ZO, ZP, ZQ, ZR] at q10
                        refine RunL.pure (Pure.fieldAddr rfl fo50_4) (Wt.yes rfl rfl rfl) rfl rfl ?_
                        first | refine RunL.load1 rfl (by first | ((repeat (first | (with_reducible exact F0 _) | apply F1)); done) | (repeat (first | exact F0 _ | apply F1))) (by rfl) agg9 (Wt.yes rfl rfl rfl) rfl ?_ | refine RunL.load1R rfl (by assumption) (by rfl) agg9 (Wt.yes rfl rfl rfl) rfl ?_
                        refine RunL.pure (Pure.seql rfl rfl) (Wt.yes rfl rfl rfl) rfl rfl ?_
                        refine RunL.pure (Pure.pickT rfl rfl) (Wt.none rfl) rfl rfl ?_
                        refine RunL.mv rfl rfl ?_
                        refine RunL.split (d := 106) rfl (fun q11 => ?_) (fun q11 => ?_)
                        · try simp only [ZA, ZB, ZC, ZD, ZE, ZF, ZG, ZH, ZI, ZJ, ZK, ZL, ZM, ZN, ZO, ZP, ZQ, ZR] at q11
                          refine RunL.pure (Pure.fieldAddr rfl fo50_8) (Wt.yes rfl rfl rfl) rfl rfl ?_
                          first | refine RunL.load1 rfl (by first | ((repeat (first | (with_reducible exact F0 _) | apply F1)); done) | (repeat (first | exact F0 _ | apply F1))) (by rfl) agg3 (Wt.yes rfl rfl rfl) rfl ?_ | refine RunL.load1R rfl (by assumption) (by rfl) agg3 (Wt.yes rfl rfl rfl) rfl ?_
                          refine RunL.pure (Pure.eql rfl rfl) (Wt.yes rfl rfl rfl) rfl rfl ?_
                          refine RunL.pure (Pure.pickT rfl rfl) (Wt.none rfl) rfl rfl ?_
                          refine RunL.mv rfl rfl ?_
                          refine RunL.split (d := 111) rfl (fun q12 => ?_) (fun q12 => ?_)
                          · try simp only [ZA, ZB, ZC, ZD, ZE, ZF, ZG, ZH, ZI, ZJ, ZK, ZL, ZM, ZN, ZO, ZP, ZQ, ZR] at q12
                            refine RunL.pure (Pure.fieldAddr rfl fo50_5) (Wt.yes rfl rfl rfl) rfl rfl ?_
                            first | refine RunL.load1 rfl (by first | ((repeat (first | (with_reducible exact F0 _) | apply F1)); done) | (repeat (first | exact F0 _ | apply F1))) (by rfl) agg4 (Wt.yes rfl rfl rfl) rfl ?_ | refine RunL.load1R rfl (by assumption) (by rfl) agg4 (Wt.yes rfl rfl rfl) rfl ?_
                            refine RunL.pure (Pure.not rfl) (Wt.yes rfl rfl rfl) rfl rfl ?_
                            refine RunL.pure (Pure.pickT rfl rfl) (Wt.none rfl) rfl rfl ?_
                            refine RunL.as rfl rfl ?_
                            refine RunL.nil ?_
                            exact Run.ret Try.func59 (res1 rfl rfl) (by exact ⟨by congr 1; (try simp [eduLocal, eduKind, inR, *]); (first | done | (intros; omega) | grind), rfl⟩) (by repeat (first | (with_reducible exact Fin.done (by repeat (first | (with_reducible exact Rest.here) | apply Rest.there))) | (apply Fin.cons (by first | ((repeat (first | (with_reducible exact F0 _) | apply F1)); done) | (repeat (first | exact F0 _ | apply F1))))))
                          · try simp only [ZA, ZB, ZC, ZD, ZE, ZF, ZG, ZH, ZI, ZJ, ZK, ZL, ZM, ZN, ZO, ZP, ZQ, ZR] at q12
                            refine RunL.not (Wt.no rfl rfl rfl) rfl rfl ?_
                            refine RunL.not (Wt.no rfl rfl rfl) rfl rfl ?_
                            refine RunL.not (Wt.no rfl rfl rfl) rfl rfl ?_
                            refine RunL.pure (Pure.pickF rfl rfl) (Wt.none rfl) rfl rfl ?_
                            refine RunL.as rfl rfl ?_
                            refine RunL.nil ?_
                            exact Run.ret Try.func59 (res1 rfl rfl) (by exact ⟨by congr 1; (try simp [eduLocal, eduKind, inR, *]); (first | done | (intros; omega) | grind), rfl⟩) (by repeat (first | (with_reducible exact Fin.done (by repeat (first | (with_reducible exact Rest.here) | apply Rest.there))) | (apply Fin.cons (by first | ((repeat (first | (with_reducible exact F0 _) | apply F1)); done) | (repeat (first | exact F0 _ | apply F1))))))
                        · try simp only [ZA, ZB, ZC, ZD, ZE, ZF, ZG, ZH, ZI, ZJ, ZK, ZL, ZM, ZN, ZO, ZP, ZQ, ZR] at q11
                          refine RunL.not (Wt.no rfl rfl rfl) rfl rfl ?_
                          refine RunL.not (Wt.no rfl rfl rfl) rfl rfl ?_
                          refine RunL.not (Wt.no rfl rfl rfl) rfl rfl ?_
                          refine RunL.pure (Pure.pickF rfl rfl) (Wt.none rfl) rfl rfl ?_
                          refine RunL.mv rfl rfl ?_
                          refine RunL.not (Wt.no rfl rfl rfl) rfl rfl ?_
                          refine RunL.not (Wt.no rfl rfl rfl) rfl rfl ?_
                          refine RunL.not (Wt.no rfl rfl rfl) rfl rfl ?_
                          refine RunL.pure (Pure.pickF rfl rfl) (Wt.none rfl) rfl rfl ?_
                          refine RunL.as rfl rfl ?_
                          refine RunL.nil ?_
                          exact Run.ret Try.func59 (res1 rfl rfl) (by exact ⟨by congr 1; (try simp [eduLocal, eduKind, inR, *]); (first | done | (intros; omega) | grind), rfl⟩) (by repeat (first | (with_reducible exact Fin.done (by repeat (first | (with_reducible exact Rest.here) | apply Rest.there))) | (apply Fin.cons (by first | ((repeat (first | (with_reducible exact F0 _) | apply F1)); done) | (repeat (first | exact F0 _ | apply F1))))))
                      · try simp only [ZA, ZB, ZC, ZD, ZE, ZF, ZG, ZH, ZI, ZJ, ZK, ZL, ZM, ZN, ZO, ZP, ZQ, ZR] at q10
                        refine RunL.not (Wt.no rfl rfl rfl) rfl rfl ?_
                        refine RunL.not (Wt.no rfl rfl rfl) rfl rfl ?_
                        refine RunL.not (Wt.no rfl rfl rfl) rfl rfl ?_
                        refine RunL.pure (Pure.pickF rfl rfl) (Wt.none rfl) rfl rfl ?_
                        refine RunL.mv rfl rfl ?_
                        refine RunL.not (Wt.no rfl rfl rfl) rfl rfl ?_
                        refine RunL.not (Wt.no rfl rfl rfl) rfl rfl ?_
                        refine RunL.not (Wt.no rfl rfl rfl) rfl rfl ?_
                        refine RunL.pure (Pure.pickF rfl rfl) (Wt.none rfl) rfl rfl ?_
                        refine RunL.mv rfl rfl ?_
                        refine RunL.not (Wt.no rfl rfl rfl) rfl rfl ?_
                        refine RunL.not (Wt.no rfl rfl rfl) rfl rfl ?_
                        refine RunL.not (Wt.no rfl rfl rfl) rfl rfl ?_
                        refine RunL.pure (Pure.pickF rfl rfl) (Wt.none rfl) rfl rfl ?_
                        refine RunL.as rfl rfl ?_
                        refine RunL.nil ?_
                        exact Run.ret Try.func59 (res1 rfl rfl) (by exact ⟨by congr 1; (try simp [eduLocal, eduKind, inR, *]); (first | done | (intros; omega) | grind), rfl⟩) (by repeat (first | (with_reducible exact Fin.done (by repeat (first | (with_reducible exact Rest.here) | apply Rest.there))) | (apply Fin.cons (by first | ((repeat (first | (with_reducible exact F0 _) | apply F1)); done) | (repeat (first | exact F0 _ | apply F1))))))
                    · try simp only [ZA, ZB, ZC, ZD, ZE, ZF, ZG, ZH, ZI, ZJ, ZK, ZL, ZM, ZN, ZO, ZP, ZQ, ZR] at q8
                      refine RunL.not (Wt.no rfl rfl rfl) rfl rfl ?_
                      refine RunL.not (Wt.no rfl rfl rfl) rfl rfl ?_
                      refine RunL.not (Wt.no rfl rfl rfl) rfl rfl ?_
                      refine RunL.pure (Pure.pickF rfl rfl) (Wt.none rfl) rfl rfl ?_
                      refine RunL.mv rfl rfl ?_
                      refine RunL.not (Wt.no rfl rfl rfl) rfl rfl ?_
                      refine RunL.not (Wt.no rfl rfl rfl) rfl rfl ?_
                      refine RunL.not (Wt.no rfl rfl rfl) rfl rfl ?_
                      refine RunL.pure (Pure.pickF rfl rfl) (Wt.none rfl) rfl rfl ?_
                      refine RunL.mv rfl rfl ?_
                      refine RunL.not (Wt.no rfl rfl rfl) rfl rfl ?_
                      refine RunL.not (Wt.no rfl rfl rfl) rfl rfl ?_
                      refine RunL.not (Wt.no rfl rfl rfl) rfl rfl ?_
                      refine RunL.pure (Pure.pickF rfl rfl) (Wt.none rfl) rfl rfl ?_
                      refine RunL.mv rfl rfl ?_
                      refine RunL.not (Wt.no rfl rfl rfl) rfl rfl ?_
                      refine RunL.not (Wt.no rfl rfl rfl) rfl rfl ?_
                      refine RunL.not (Wt.no rfl rfl rfl) rfl rfl ?_
                      refine RunL.pure (Pure.pickF rfl rfl) (Wt.none rfl) rfl rfl ?_
                      refine RunL.as rfl rfl ?_
                      refine RunL.nil ?_
                      exact Run.ret Try.func59 (res1 rfl rfl) (by exact ⟨by congr 1; (try simp [eduLocal, eduKind, inR, *]); (first | done | (intros; omega) | grind), rfl⟩) (by repeat (first | (with_reducible exact Fin.done (by repeat (first | (with_reducible exact Rest.here) | apply Rest.there))) | (apply Fin.cons (by first | ((repeat (first | (with_reducible exact F0 _) | apply F1)); done) | (repeat (first | exact F0 _ | apply F1))))))
                  · try simp only [ZA, ZB, ZC, ZD, ZE, ZF, ZG, ZH, ZI, ZJ, ZK, ZL, ZM, ZN, ZO, ZP, ZQ, ZR] at q7
                    refine RunL.not (Wt.no rfl rfl rfl) rfl rfl ?_
                    refine RunL.pure (Pure.pickF rfl rfl) (Wt.none rfl) rfl rfl ?_
                    refine RunL.mv rfl rfl ?_
                    refine RunL.not (Wt.no rfl rfl rfl) rfl rfl ?_
                    refine RunL.not (Wt.no rfl rfl rfl) rfl rfl ?_
                    refine RunL.not (Wt.no rfl rfl rfl) rfl rfl ?_
                    refine RunL.pure (Pure.pickF rfl rfl) (Wt.none rfl) rfl rfl ?_
                    refine RunL.mv rfl rfl ?_
                    refine RunL.not (Wt.no rfl rfl rfl) rfl rfl ?_
                    refine RunL.not (Wt.no rfl rfl rfl) rfl rfl ?_
                    refine RunL.not (Wt.no rfl rfl rfl) rfl rfl ?_
                    refine RunL.pure (Pure.pickF rfl rfl) (Wt.none rfl) rfl rfl ?_
                    refine RunL.mv rfl rfl ?_
                    refine RunL.not (Wt.no rfl rfl rfl) rfl rfl ?_
                    refine RunL.not (Wt.no rfl rfl rfl) rfl rfl ?_
                    refine RunL.not (Wt.no rfl rfl rfl) rfl rfl ?_
                    refine RunL.pure (Pure.pickF rfl rfl) (Wt.none rfl) rfl rfl ?_
                    refine RunL.mv rfl rfl ?_
                    refine RunL.not (Wt.no rfl rfl rfl) rfl rfl ?_
                    refine RunL.not (Wt.no rfl rfl rfl) rfl rfl ?_
                    refine RunL.not (Wt.no rfl rfl rfl) rfl rfl ?_
                    refine RunL.pure (Pure.pickF rfl rfl) (Wt.none rfl) rfl rfl ?_
                    refine RunL.as rfl rfl ?_
                    refine RunL.nil ?_
                    exact Run.ret Try.func59 (res1 rfl rfl) (by exact ⟨by congr 1; (try simp [eduLocal, eduKind, inR, *]); (first | done | (intros; omega) | grind), rfl⟩) (by repeat (first | (with_reducible exact Fin.done (by repeat (first | (with_reducible exact Rest.here) | apply Rest.there))) | (apply Fin.cons (by first | ((repeat (first | (with_reducible exact F0 _) | apply F1)); done) | (repeat (first | exact F0 _ | apply F1))))))
              · try simp only [ZA, ZB, ZC, ZD, ZE, ZF, ZG, ZH, ZI, ZJ, ZK, ZL, ZM, ZN, ZO, ZP, ZQ, ZR] at k2
                refine Run.sr ?_
                refine RunL.pure (Pure.eql rfl rfl) (Wt.none rfl) rfl rfl ?_
                refine RunL.as rfl rfl ?_
                refine RunL.nil ?_
                refine Run.cond rfl (fun k3 => ?_) (fun k3 => ?_)
                · try simp only [ZA, ZB, ZC, ZD, ZE, ZF, ZG, ZH, ZI, ZJ, ZK, ZL, ZM, ZN, ZO, ZP, ZQ, ZR] at k3
                  refine Run.sr ?_
                  refine RunL.pure (Pure.fieldAddr rfl fo50_1) (Wt.none rfl) rfl rfl ?_
                  first | refine RunL.load1 rfl (by first | ((repeat (first | (with_reducible exact F0 _) | apply F1)); done) | (repeat (first | exact F0 _ | apply F1))) (by rfl) agg9 (Wt.none rfl) rfl ?_ | refine RunL.load1R rfl (by assumption) (by rfl) agg9 (Wt.none rfl) rfl ?_
                  refine RunL.pure (Pure.seql rfl rfl) (Wt.none rfl) rfl rfl ?_
                  refine RunL.mv rfl rfl ?_
                  refine RunL.split (d := 121) rfl (fun q0 => ?_) (fun q0 => ?_)
                  · try simp only [ZA, ZB, ZC, ZD, ZE, ZF, ZG, ZH, ZI, ZJ, ZK, ZL, ZM, ZN, ZO, ZP, ZQ, ZR] at q0
                    refine RunL.pure (Pure.fieldAddr rfl fo50_3) (Wt.yes rfl rfl rfl) rfl rfl ?_
                    first | refine RunL.load1 rfl (by first | ((repeat (first | (with_reducible exact F0 _) | apply F1)); done) | (repeat (first | exact F0 _ | apply F1))) (by rfl) agg9 (Wt.yes rfl rfl rfl) rfl ?_ | refine RunL.load1R rfl (by assumption) (by rfl) agg9 (Wt.yes rfl rfl rfl) rfl ?_
                    refine RunL.pure (Pure.seql rfl rfl) (Wt.yes rfl rfl rfl) rfl rfl ?_
                    refine RunL.pure (Pure.pickT rfl rfl) (Wt.none rfl) rfl rfl ?_
                    refine RunL.mv rfl rfl ?_
                    refine RunL.split (d := 126) rfl (fun q1 => ?_) (fun q1 => ?_)
                    · try simp only [ZA, ZB, ZC, ZD, ZE, ZF, ZG, ZH, ZI, ZJ, ZK, ZL, ZM, ZN, ZO, ZP, ZQ, ZR] at q1
                      refine RunL.pure (Pure.fieldAddr rfl fo50_4) (Wt.yes rfl rfl rfl) rfl rfl ?_
                      first | refine RunL.load1 rfl (by first | ((repeat (first | (with_reducible exact F0 _) | apply F1)); done) | (repeat (first | exact F0 _ | apply F1))) (by rfl) agg9 (Wt.yes rfl rfl rfl) rfl ?_ | refine RunL.load1R rfl (by assumption) (by rfl) agg9 (Wt.yes rfl rfl rfl) rfl ?_
                      refine RunL.pure (Pure.seql rfl rfl) (Wt.yes rfl rfl rfl) rfl rfl ?_
                      refine RunL.pure (Pure.pickT rfl rfl) (Wt.none rfl) rfl rfl ?_
                      refine RunL.mv rfl rfl ?_
                      refine RunL.split (d := 131) rfl (fun q2 => ?_) (fun q2 => ?_)
                      · try simp only [ZA, ZB, ZC, ZD, ZE, ZF, ZG, ZH, ZI, ZJ, ZK, ZL, ZM, ZN, ZO, ZP, ZQ, ZR] at q2
                        refine RunL.pure (Pure.fieldAddr rfl fo50_6) (Wt.yes rfl rfl rfl) rfl rfl ?_
                        first | refine RunL.load1 rfl (by first | ((repeat (first | (with_reducible exact F0 _) | apply F1)); done) | (repeat (first | exact F0 _ | apply F1))) (by rfl) agg4 (Wt.yes rfl rfl rfl) rfl ?_ | refine RunL.load1R rfl (by assumption) (by rfl) agg4 (Wt.yes rfl rfl rfl) rfl ?_
                        refine RunL.pure (Pure.not rfl) (Wt.yes rfl rfl rfl) rfl rfl ?_
                        refine RunL.pure (Pure.pickT rfl rfl) (Wt.none rfl) rfl rfl ?_
                        refine RunL.mv rfl rfl ?_
                        refine RunL.split (d := 136) rfl (fun q3 => ?_) (fun q3 => ?_)
                        · try simp only [ZA, ZB, ZC, ZD, ZE, ZF, ZG, ZH, ZI, ZJ, ZK, ZL, ZM, ZN, ZO, ZP, ZQ, ZR] at q3
                          refine RunL.pure (Pure.fieldAddr rfl fo50_7) (Wt.yes rfl rfl rfl) rfl rfl ?_
                          first | refine RunL.load1 rfl (by first | ((repeat (first | (with_reducible exact F0 _) | apply F1)); done) | (repeat (first | exact F0 _ | apply F1))) (by rfl) agg3 (Wt.yes rfl rfl rfl) rfl ?_ | refine RunL.load1R rfl (by assumption) (by rfl) agg3 (Wt.yes rfl rfl rfl) rfl ?_
                          refine RunL.pure (Pure.eql rfl rfl) (Wt.yes rfl rfl rfl) rfl rfl ?_
                          refine RunL.pure (Pure.pickT rfl rfl) (Wt.none rfl) rfl rfl ?_
                          refine RunL.mv rfl rfl ?_
                          refine RunL.split (d := 141) rfl (fun q4 => ?_) (fun q4 => ?_)
                          · try simp only [ZA, ZB, ZC, ZD, ZE, ZF, ZG, ZH, ZI, ZJ, ZK, ZL, ZM, ZN, ZO, ZP, ZQ, ZR] at q4
                            refine RunL.pure (Pure.fieldAddr rfl fo50_5) (Wt.yes rfl rfl rfl) rfl rfl ?_
                            first | refine RunL.load1 rfl (by first | ((repeat (first | (with_reducible exact F0 _) | apply F1)); done) | (repeat (first | exact F0 _ | apply F1))) (by rfl) agg4 (Wt.yes rfl rfl rfl) rfl ?_ | refine RunL.load1R rfl (by assumption) (by rfl) agg4 (Wt.yes rfl rfl rfl) rfl ?_
                            refine RunL.pure (Pure.not rfl) (Wt.yes rfl rfl rfl) rfl rfl ?_
                            refine RunL.pure (Pure.pickT rfl rfl) (Wt.none rfl) rfl rfl ?_
                            refine RunL.mv rfl rfl ?_
                            refine RunL.split (d := 146) rfl (fun q5 => ?_) (fun q5 => ?_)
                            · try simp only [ZA, ZB, ZC, ZD, ZE, ZF, ZG, ZH, ZI, ZJ, ZK, ZL, ZM, ZN, ZO, ZP, ZQ, ZR] at q5
                              refine RunL.pure (Pure.fieldAddr rfl fo50_8) (Wt.yes rfl rfl rfl) rfl rfl ?_
                              first | refine RunL.load1 rfl (by first | ((repeat (first | (with_reducible exact F0 _) | apply F1)); done) | (repeat (first | exact F0 _ | apply F1))) (by rfl) agg3 (Wt.yes rfl rfl rfl) rfl ?_ | refine RunL.load1R rfl (by assumption) (by rfl) agg3 (Wt.yes rfl rfl rfl) rfl ?_
                              refine RunL.pure (Pure.geq rfl rfl) (Wt.yes rfl rfl rfl) rfl rfl ?_
                              refine RunL.pure (Pure.pickT rfl rfl) (Wt.none rfl) rfl rfl ?_
                              refine RunL.mv rfl rfl ?_
                              refine RunL.split (d := 151) rfl (fun q6 => ?_) (fun q6 => ?_)
                              · try simp only [ZA, ZB, ZC, ZD, ZE, ZF, ZG, ZH, ZI, ZJ, ZK, ZL, ZM, ZN, ZO, ZP, ZQ, ZR] at q6
                                refine RunL.pure (Pure.fieldAddr rfl fo50_8) (Wt.yes rfl rfl rfl) rfl rfl ?_
                                first | refine RunL.load1 rfl (by first | ((repeat (first | (with_reducible exact F0 _) | apply F1)); done) | (repeat (first | exact F0 _ | apply F1))) (by rfl) agg3 (Wt.yes rfl rfl rfl) rfl ?_ | refine RunL.load1R rfl (by assumption) (by rfl) agg3 (Wt.yes rfl rfl rfl) rfl ?_
                                refine RunL.pure (Pure.leq rfl rfl) (Wt.yes rfl rfl rfl) rfl rfl ?_
                                refine RunL.pure (Pure.pickT rfl rfl) (Wt.none rfl) rfl rfl ?_
                                refine RunL.as rfl rfl ?_
                                refine RunL.nil ?_
                                exact Run.ret Try.func59 (res1 rfl rfl) (by exact ⟨by congr 1; (try simp [eduLocal, eduKind, inR, *]); (first | done | (intros; omega) | grind), rfl⟩) (by repeat (first | (with_reducible exact Fin.done (by repeat (first | (with_reducible exact Rest.here) | apply Rest.there))) | (apply Fin.cons (by first | ((repeat (first | (with_reducible exact F0 _) | apply F1)); done) | (repeat (first | exact F0 _ | apply F1))))))
                              · try simp only [ZA, ZB, ZC, ZD, ZE, ZF, ZG, ZH, ZI, ZJ, ZK, ZL, ZM, ZN, ZO, ZP, ZQ, ZR] at q6
                                refine RunL.not (Wt.no rfl rfl rfl) rfl rfl ?_
                                refine RunL.not (Wt.no rfl rfl rfl) rfl rfl ?_
                                refine RunL.not (Wt.no rfl rfl rfl) rfl rfl ?_
                                refine RunL.pure (Pure.pickF rfl rfl) (Wt.none rfl) rfl rfl ?_
                                refine RunL.as rfl rfl ?_
                                refine RunL.nil ?_
                                exact Run.ret Try.func59 (res1 rfl rfl) (by exact ⟨by congr 1; (try simp [eduLocal, eduKind, inR, *]); (first | done | (intros; omega) | grind), rfl⟩) (by repeat (first | (with_reducible exact Fin.done (by repeat (first | (with_reducible exact Rest.here) | apply Rest.there))) | (apply Fin.cons (by first | ((repeat (first | (with_reducible exact F0 _) | apply F1)); done) | (repeat (first | exact F0 _ | apply F1))))))
                            · try simp only [ZA, ZB, ZC, ZD, ZE, ZF, ZG, ZH, ZI, ZJ, ZK, ZL, ZM, ZN, ZO, ZP, ZQ, ZR] at q5
                              refine RunL.not (Wt.no rfl rfl rfl) rfl rfl ?_
                              refine RunL.not (Wt.no rfl rfl rfl) rfl rfl ?_
                              refine RunL.not (Wt.no rfl rfl rfl) rfl rfl ?_
                              refine RunL.pure (Pure.pickF rfl rfl) (Wt.none rfl) rfl rfl ?_
                              refine RunL.mv rfl rfl ?_
                              refine RunL.not (Wt.no rfl rfl rfl) rfl rfl ?_
                              refine RunL.not (Wt.no rfl rfl rfl) rfl rfl ?_
                              refine RunL.not (Wt.no rfl rfl rfl) rfl rfl ?_
                              refine RunL.pure (Pure.pickF rfl rfl) (Wt.none rfl) rfl rfl ?_
                              refine RunL.as rfl rfl ?_
                              refine RunL.nil ?_
                              exact Run.ret Try.func59 (res1 rfl rfl) (by exact ⟨by congr 1; (try simp [eduLocal, eduKind, inR, *]); (first | done | (intros; omega) | grind), rfl⟩) (by repeat (first | (with_reducible exact Fin.done (by repeat (first | (with_reducible exact Rest.here) | apply Rest.there))) | (apply Fin.cons (by first | ((repeat (first | (with_reducible exact F0 _) | apply F1)); done) | (repeat (first | exact F0 _ | apply F1))))))
                          · try simp only [ZA, ZB, ZC, ZD, ZE, ZF, ZG, ZH, ZI, ZJ, ZK, ZL, ZM, ZN, ZO, ZP, ZQ, ZR] at q4
                            refine RunL.not (Wt.no rfl rfl rfl) rfl rfl ?_
                            refine RunL.not (Wt.no rfl rfl rfl) rfl rfl ?_
                            refine RunL.not (Wt.no rfl rfl rfl) rfl rfl ?_
                            refine RunL.pure (Pure.pickF rfl rfl) (Wt.none rfl) rfl rfl ?_
                            refine RunL.mv rfl rfl ?_
                            refine RunL.not (Wt.no rfl rfl rfl) rfl rfl ?_
                            refine RunL.not (Wt.no rfl rfl rfl) rfl rfl ?_
                            refine RunL.not (Wt.no rfl rfl rfl) rfl rfl ?_
                            refine RunL.pure (Pure.pickF rfl rfl) (Wt.none rfl) rfl rfl ?_
                            refine RunL.mv rfl rfl ?_
                            refine RunL.not (Wt.no rfl rfl rfl) rfl rfl ?_
                            refine RunL.not (Wt.no rfl rfl rfl) rfl rfl ?_
                            refine RunL.not (Wt.no rfl rfl rfl) rfl rfl ?_
                            refine RunL.pure (Pure.pickF rfl rfl) (Wt.none rfl) rfl rfl ?_
                            refine RunL.as rfl rfl ?_
                            refine RunL.nil ?_
                            exact Run.ret Try.func59 (res1 rfl rfl) (by exact ⟨by congr 1; (try simp [eduLocal, eduKind, inR, *]); (first | done | (intros; omega) | grind), rfl⟩) (by repeat (first | (with_reducible exact Fin.done (by repeat (first | (with_reducible exact Rest.here) | apply Rest.there))) | (apply Fin.cons (by first | ((repeat (first | (with_reducible exact F0 _) | apply F1)); done) | (repeat (first | exact F0 _ | apply F1))))))
                        · try simp only [ZA, ZB, ZC, ZD, ZE, ZF, ZG, ZH, ZI, ZJ, ZK, ZL, ZM, ZN, ZO, ZP, ZQ, ZR] at q3
                          refine RunL.not (Wt.no rfl rfl rfl) rfl rfl ?_
                          refine RunL.not (Wt.no rfl rfl rfl) rfl rfl ?_
                          refine RunL.not (Wt.no rfl rfl rfl) rfl rfl ?_
                          refine RunL.pure (Pure.pickF rfl rfl) (Wt.none rfl) rfl rfl ?_
                          refine RunL.mv rfl rfl ?_
                          refine RunL.not (Wt.no rfl rfl rfl) rfl rfl ?_
                          refine RunL.not (Wt.no rfl rfl rfl) rfl rfl ?_
                          refine RunL.not (Wt.no rfl rfl rfl) rfl rfl ?_
                          refine RunL.pure (Pure.pickF rfl rfl) (Wt.none rfl) rfl rfl ?_
                          refine RunL.mv rfl rfl ?_
                          refine RunL.not (Wt.no rfl rfl rfl) rfl rfl ?_
                          refine RunL.not (Wt.no rfl rfl rfl) rfl rfl ?_
                          refine RunL.not (Wt.no rfl rfl rfl) rfl rfl ?_
                          refine RunL.pure (Pure.pickF rfl rfl) (Wt.none rfl) rfl rfl ?_
                          refine RunL.mv rfl rfl ?_
                          refine RunL.not (Wt.no rfl rfl rfl) rfl rfl ?_
                          refine RunL.not (Wt.no rfl rfl rfl) rfl rfl ?_
                          refine RunL.not (Wt.no rfl rfl rfl) rfl rfl ?_
                          refine RunL.pure (Pure.pickF rfl rfl) (Wt.none rfl) rfl rfl ?_
                          refine RunL.as rfl rfl ?_
                          refine RunL.nil ?_
                          exact Run.ret Try.func59 (res1 rfl rfl) (by exact ⟨by congr 1; (try simp [eduLocal, eduKind, inR, *]); (first | done | (intros; omega) | grind), rfl⟩) (by repeat (first | (with_reducible exact Fin.done (by repeat (first | (with_reducible exact Rest.here) | apply Rest.there))) | (apply Fin.cons (by first | ((repeat (first | (with_reducible exact F0 _) | apply F1)); done) | (repeat (first | exact F0 _ | apply F1))))))
                      · try simp only [ZA, ZB, ZC, ZD, ZE, ZF, ZG, ZH, ZI, ZJ, ZK, ZL, ZM, ZN, ZO, ZP, ZQ, ZR] at q2
                        refine RunL.not (Wt.no rfl rfl rfl) rfl rfl ?_
                        refine RunL.not (Wt.no rfl rfl rfl) rfl rfl ?_
                        refine RunL.not (Wt.no rfl rfl rfl) rfl rfl ?_
                        refine RunL.pure (Pure.pickF rfl rfl) (Wt.none rfl) rfl rfl ?_
                        refine RunL.mv rfl rfl ?_
                        refine RunL.not (Wt.no rfl rfl rfl) rfl rfl ?_
                        refine RunL.not (Wt.no rfl rfl rfl) rfl rfl ?_
                        refine RunL.not (Wt.no rfl rfl rfl) rfl rfl ?_
                        refine RunL.pure (Pure.pickF rfl rfl) (Wt.none rfl) rfl rfl ?_
                        refine RunL.mv rfl rfl ?_
                        refine RunL.not (Wt.no rfl rfl rfl) rfl rfl ?_
                        refine RunL.not (Wt.no rfl rfl rfl) rfl rfl ?_
                        refine RunL.not (Wt.no rfl rfl rfl) rfl rfl ?_
                        refine RunL.pure (Pure.pickF rfl rfl) (Wt.none rfl) rfl rfl ?_
                        refine RunL.mv rfl rfl ?_
                        refine RunL.not (Wt.no rfl rfl rfl) rfl rfl ?_
                        refine RunL.not (Wt.no rfl rfl rfl) rfl rfl ?_
                        refine RunL.not (Wt.no rfl rfl rfl) rfl rfl ?_
                        refine RunL.pure (Pure.pickF rfl rfl) (Wt.none rfl) rfl rfl ?_
                        refine RunL.mv rfl rfl ?_
                        refine RunL.not (Wt.no rfl rfl rfl) rfl rfl ?_
                        refine RunL.not (Wt.no rfl rfl rfl) rfl rfl ?_
                        refine RunL.not (Wt.no rfl rfl rfl) rfl rfl ?_
                        refine RunL.pure (Pure.pickF rfl rfl) (Wt.none rfl) rfl rfl ?_
                        refine RunL.as rfl rfl ?_
                        refine RunL.nil ?_
                        exact Run.ret Try.func59 (res1 rfl rfl) (by exact ⟨by congr 1; (try simp [eduLocal, eduKind, inR, *]); (first | done | (intros; omega) | grind), rfl⟩) (by repeat (first | (with_reducible exact Fin.done (by repeat (first | (with_reducible exact Rest.here) | apply Rest.there))) | (apply Fin.cons (by first | ((repeat (first | (with_reducible exact F0 _) | apply F1)); done) | (repeat (first | exact F0 _ | apply F1))))))
                    · try simp only [ZA, ZB, ZC, ZD, ZE, ZF, ZG, ZH, ZI, ZJ, ZK, ZL, ZM, ZN, ZO, ZP, ZQ, ZR] at q1
                      refine RunL.not (Wt.no rfl rfl rfl) rfl rfl ?_
                      refine RunL.not (Wt.no rfl rfl rfl) rfl rfl ?_
                      refine RunL.not (Wt.no rfl rfl rfl) rfl rfl ?_
                      refine RunL.pure (Pure.pickF rfl rfl) (Wt.none rfl) rfl rfl ?_
                      refine RunL.mv rfl rfl ?_
                      refine RunL.not (Wt.no rfl rfl rfl) rfl rfl ?_
                      refine RunL.not (Wt.no rfl rfl rfl) rfl rfl ?_
                      refine RunL.not (Wt.no rfl rfl rfl) rfl rfl ?_
                      refine RunL.pure (Pure.pickF rfl rfl) (Wt.none rfl) rfl rfl ?_
                      refine RunL.mv rfl rfl ?_
                      refine RunL.not (Wt.no rfl rfl rfl) rfl rfl ?_
                      refine RunL.not (Wt.no rfl rfl rfl) rfl rfl ?_
                      refine RunL.not (Wt.no rfl rfl rfl) rfl rfl ?_
                      refine RunL.pure (Pure.pickF rfl rfl) (Wt.none rfl) rfl rfl ?_
                      refine RunL.mv rfl rfl ?_
                      refine RunL.not (Wt.no rfl rfl rfl) rfl rfl ?_
                      refine RunL.not (Wt.no rfl rfl rfl) rfl rfl ?_
                      refine RunL.not (Wt.no rfl rfl rfl) rfl rfl ?_
                      refine RunL.pure (Pure.pickF rfl rfl) (Wt.none rfl) rfl rfl ?_
                      refine RunL.mv rfl rfl ?_
                      refine RunL.not (Wt.no rfl rfl rfl) rfl rfl ?_
                      refine RunL.not (Wt.no rfl rfl rfl) rfl rfl ?_
                      refine RunL.not (Wt.no rfl rfl rfl) rfl rfl ?_
                      refine RunL.pure (Pure.pickF rfl rfl) (Wt.none rfl) rfl rfl ?_
                      refine RunL.mv rfl rfl ?_
                      refine RunL.not (Wt.no rfl rfl rfl) rfl rfl ?_
                      refine RunL.not (Wt.no rfl rfl rfl) rfl rfl ?_
                      refine RunL.not (Wt.no rfl rfl rfl) rfl rfl ?_
                      refine RunL.pure (Pure.pickF rfl rfl) (Wt.none rfl) rfl rfl ?_
                      refine RunL.as rfl rfl ?_
                      refine RunL.nil ?_
                      exact Run.ret Try.func59 (res1 rfl rfl) (by exact ⟨by congr 1; (try simp [eduLocal, eduKind, inR, *]); (first | done | (intros; omega) | grind), rfl⟩) (by repeat (first | (with_reducible exact Fin.done (by repeat (first | (with_reducible exact Rest.here) | apply Rest.there))) | (apply Fin.cons (by first | ((repeat (first | (with_reducible exact F0 _) | apply F1)); done) | (repeat (first | exact F0 _ | apply F1))))))
                  · try simp only [ZA, ZB, ZC, ZD, ZE, ZF, ZG, ZH, ZI, ZJ, ZK, ZL, ZM, ZN, ZO, ZP, ZQ, ZR] at q0
                    refine RunL.not (Wt.no rfl rfl rfl) rfl rfl ?_
                    refine RunL.not (Wt.no rfl rfl rfl) rfl rfl ?_
                    refine RunL.not (Wt.no rfl rfl rfl) rfl rfl ?_
                    refine RunL.pure (Pure.pickF rfl rfl) (Wt.none rfl) rfl rfl ?_
                    refine RunL.mv rfl rfl ?_
                    refine RunL.not (Wt.no rfl rfl rfl) rfl rfl ?_
                    refine RunL.not (Wt.no rfl rfl rfl) rfl rfl ?_
                    refine RunL.not (Wt.no rfl rfl rfl) rfl rfl ?_
                    refine RunL.pure (Pure.pickF rfl rfl) (Wt.none rfl) rfl rfl ?_
                    refine RunL.mv rfl rfl ?_
                    refine RunL.not (Wt.no rfl rfl rfl) rfl rfl ?_
                    refine RunL.not (Wt.no rfl rfl rfl) rfl rfl ?_
                    refine RunL.not (Wt.no rfl rfl rfl) rfl rfl ?_
                    refine RunL.pure (Pure.pickF rfl rfl) (Wt.none rfl) rfl rfl ?_
                    refine RunL.mv rfl rfl ?_
                    refine RunL.not (Wt.no rfl rfl rfl) rfl rfl ?_
                    refine RunL.not (Wt.no rfl rfl rfl) rfl rfl ?_
                    refine RunL.not (Wt.no rfl rfl rfl) rfl rfl ?_
                    refine RunL.pure (Pure.pickF rfl rfl) (Wt.none rfl) rfl rfl ?_
                    refine RunL.mv rfl rfl ?_
                    refine RunL.not (Wt.no rfl rfl rfl) rfl rfl ?_
                    refine RunL.not (Wt.no rfl rfl rfl) rfl rfl ?_
                    refine RunL.not (Wt.no rfl rfl rfl) rfl rfl ?_
                    refine RunL.pure (Pure.pickF rfl rfl) (Wt.none rfl) rfl rfl ?_
                    refine RunL.mv rfl rfl ?_
                    refine RunL.not (Wt.no rfl rfl rfl) rfl rfl ?_
                    refine RunL.not (Wt.no rfl rfl rfl) rfl rfl ?_
                    refine RunL.not (Wt.no rfl rfl rfl) rfl rfl ?_
                    refine RunL.pure (Pure.pickF rfl rfl) (Wt.none rfl) rfl rfl ?_
                    refine RunL.mv rfl rfl ?_
                    refine RunL.not (Wt.no rfl rfl rfl) rfl rfl ?_
                    refine RunL.not (Wt.no rfl rfl rfl) rfl rfl ?_
                    refine RunL.not (Wt.no rfl rfl rfl) rfl rfl ?_
                    refine RunL.pure (Pure.pickF rfl rfl) (Wt.none rfl) rfl rfl ?_
                    refine RunL.as rfl rfl ?_
                    refine RunL.nil ?_
                    exact Run.ret Try.func59 (res1 rfl rfl) (by exact ⟨by congr 1; (try simp [eduLocal, eduKind, inR, *]); (first | done | (intros; omega) | grind), rfl⟩) (by repeat (first | (with_reducible exact Fin.done (by repeat (first | (with_reducible exact Rest.here) | apply Rest.there))) | (apply Fin.cons (by first | ((repeat (first | (with_reducible exact F0 _) | apply F1)); done) | (repeat (first | exact F0 _ | apply F1))))))
                · try simp only [ZA, ZB, ZC, ZD, ZE, ZF, ZG, ZH, ZI, ZJ, ZK, ZL, ZM, ZN, ZO, ZP, ZQ, ZR] at k3
                  refine Run.skip ?_
                  refine Run.inBlock ?_
                  refine Run.sr ?_
                  refine RunL.as rfl rfl ?_
                  refine RunL.nil ?_
                  exact Run.ret Try.func59 (res1 rfl rfl) (by exact ⟨by congr 1; (try simp [eduLocal, eduKind, inR, *]); (first | done | (intros; omega) | grind), rfl⟩) (by repeat (first | (with_reducible exact Fin.done (by repeat (first | (with_reducible exact Rest.here) | apply Rest.there))) | (apply Fin.cons (by first | ((repeat (first | (with_reducible exact F0 _) | apply F1)); done) | (repeat (first | exact F0 _ | apply F1))))))

set_option maxRecDepth 100000 in
theorem rMay3_ctr {G : Gp} {e : Edu} (hs : eduSmall e) :
    Ctr Try.prog G 28 [.agg (cEdu e).toArray] [] (fun F v A => v = .bool (eduMay e) ∧ A = F) := by
  refine Ctr.intro Try.func28 rfl (by kernel_rfl) rfl (fun F => ?_)
  simp only [List.nil_append]
  refine Run.sr ?_
  refine RunL.boxA (xs := (cEdu e)) rfl (Wt.none rfl) rfl ?_; intro b1
  refine RunL.as rfl rfl ?_
  refine RunL.nil ?_
  refine Run.lendAll (Q := row b1 50 _) Lends.row (by first | ((repeat (first | (with_reducible exact F0 _) | apply F1)); done) | (repeat (first | exact F0 _ | apply F1))) (fun G1 hleG1 hrb1 => ?_)
  refine Run.sr ?_
  first | refine RunL.loadA (vs := (cEdu e)) rfl (by first | ((repeat (first | (with_reducible exact F0 _) | apply F1)); done) | (repeat (first | exact F0 _ | apply F1))) agg50 sz50 (by first | exact Nat.le_of_ble_eq_true rfl | (simp; done) | (simp; omega)) rfl (Wt.none rfl) rfl ?_ | refine RunL.loadNR (vs := (cEdu e)) rfl (by assumption) agg50 sz50 (by first | exact Nat.le_of_ble_eq_true rfl | (simp; done) | (simp; omega)) rfl (Wt.none rfl) rfl ?_
  refine RunL.call rfl rfl (by rfl) (by repeat (first | (with_reducible exact Take.nil _) | (apply Take.cons (by first | ((repeat (first | (with_reducible exact F0 _) | apply F1)); done) | (repeat (first | exact F0 _ | apply F1)))))) (rLocal3_ctr (by assumption)) (Wt.none rfl) rfl ?_
  rintro _ _ ⟨rfl, hA_⟩
  replace hA_ := hA_.symm; subst hA_
  refine RunL.as rfl rfl ?_
  refine RunL.nil ?_
  refine Run.sr ?_
  refine RunL.mv rfl rfl ?_
  refine RunL.mv rfl rfl ?_
  refine RunL.split (d := 7) rfl (fun h1 => ?_) (fun h1 => ?_)
  · try simp only [ZA, ZB, ZC, ZD, ZE, ZF, ZG, ZH, ZI, ZJ, ZK, ZL, ZM, ZN, ZO, ZP, ZQ, ZR] at h1
    refine RunL.pure (Pure.fieldAddr rfl fo50_5) (Wt.yes rfl rfl rfl) rfl rfl ?_
    first | refine RunL.load1 rfl (by first | ((repeat (first | (with_reducible exact F0 _) | apply F1)); done) | (repeat (first | exact F0 _ | apply F1))) (by rfl) agg4 (Wt.yes rfl rfl rfl) rfl ?_ | refine RunL.load1R rfl (by assumption) (by rfl) agg4 (Wt.yes rfl rfl rfl) rfl ?_
    refine RunL.pure (Pure.not rfl) (Wt.yes rfl rfl rfl) rfl rfl ?_
    refine RunL.pure (Pure.pickT rfl rfl) (Wt.none rfl) rfl rfl ?_
    refine RunL.as rfl rfl ?_
    refine RunL.nil ?_
    exact Run.ret Try.func28 (res1 rfl rfl) (by exact ⟨by rw [eduMay, h1]; rfl, rfl⟩) (by repeat (first | (with_reducible exact Fin.done (by repeat (first | (with_reducible exact Rest.here) | apply Rest.there))) | (apply Fin.cons (by first | ((repeat (first | (with_reducible exact F0 _) | apply F1)); done) | (repeat (first | exact F0 _ | apply F1))))))
  · try simp only [ZA, ZB, ZC, ZD, ZE, ZF, ZG, ZH, ZI, ZJ, ZK, ZL, ZM, ZN, ZO, ZP, ZQ, ZR] at h1
    refine RunL.not (Wt.no rfl rfl rfl) rfl rfl ?_
    refine RunL.not (Wt.no rfl rfl rfl) rfl rfl ?_
    refine RunL.not (Wt.no rfl rfl rfl) rfl rfl ?_
    refine RunL.pure (Pure.pickF rfl rfl) (Wt.none rfl) rfl rfl ?_
    refine RunL.as rfl rfl ?_
    refine RunL.nil ?_
    exact Run.ret Try.func28 (res1 rfl rfl) (by exact ⟨by rw [eduMay, h1]; rfl, rfl⟩) (by repeat (first | (with_reducible exact Fin.done (by repeat (first | (with_reducible exact Rest.here) | apply Rest.there))) | (apply Fin.cons (by first | ((repeat (first | (with_reducible exact F0 _) | apply F1)); done) | (repeat (first | exact F0 _ | apply F1))))))

end Go.Proofs.Ytbgjfpaigndbmaa
