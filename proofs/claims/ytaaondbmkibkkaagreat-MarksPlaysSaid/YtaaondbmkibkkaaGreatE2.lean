/- EDUs: what may be. -/
import Derived.Test.YtaaondbmkibkkaaGreatM2
set_option linter.unusedVariables false
set_option linter.unusedSimpArgs false
set_option linter.unusedSectionVars false
namespace Go.Proofs.YtaaondbmkibkkaaGreat
open Go Csl
theorem zz23 : zeroIs Tryz.prog 23 = some (.agg #[(.int .i64 0), (.string .empty), (.string .empty), (.string .empty), (.string .empty), (.bool false), (.bool false), (.int .i64 0), (.int .i64 0), (.int .i64 0), (.int .i64 0)]) := by kernel_rfl
theorem fo23_0 : fieldOff Tryz.prog 23 0 = some 0 := by kernel_rfl
theorem fo23_2 : fieldOff Tryz.prog 23 2 = some 2 := by kernel_rfl
theorem fo23_9 : fieldOff Tryz.prog 23 9 = some 9 := by kernel_rfl
theorem fo23_10 : fieldOff Tryz.prog 23 10 = some 10 := by kernel_rfl
theorem pl23 : placesOf Tryz.prog 23 = some ([(0, 1), (1, 1), (2, 1), (3, 1), (4, 1), (5, 1), (6, 1), (7, 1), (8, 1), (9, 1), (10, 1)], (.agg #[(.int .i64 0), (.string .empty), (.string .empty), (.string .empty), (.string .empty), (.bool false), (.bool false), (.int .i64 0), (.int .i64 0), (.int .i64 0), (.int .i64 0)])) := by kernel_rfl
theorem fo23_1 : fieldOff Tryz.prog 23 1 = some 1 := by kernel_rfl
theorem fo23_3 : fieldOff Tryz.prog 23 3 = some 3 := by kernel_rfl
theorem fo23_4 : fieldOff Tryz.prog 23 4 = some 4 := by kernel_rfl
theorem fo23_5 : fieldOff Tryz.prog 23 5 = some 5 := by kernel_rfl
theorem fo23_6 : fieldOff Tryz.prog 23 6 = some 6 := by kernel_rfl
theorem fo23_7 : fieldOff Tryz.prog 23 7 = some 7 := by kernel_rfl
theorem fo23_8 : fieldOff Tryz.prog 23 8 = some 8 := by kernel_rfl
theorem agg177 : isAggOf Tryz.prog 177 = some false := by kernel_rfl
theorem zz177 : zeroIs Tryz.prog 177 = some .nilFunc := by kernel_rfl
theorem sz177 : sizeIs Tryz.prog 177 = some 1 := by kernel_rfl
theorem und145 : Tryz.prog.underlying 145 = some (Go.TypeDesc.slice 38) := Tryz.underlying145
theorem sz38 : sizeIs Tryz.prog 38 = some 1 := by kernel_rfl
theorem zz38 : zeroIs Tryz.prog 38 = some .nilFunc := by kernel_rfl
theorem agg38 : isAggOf Tryz.prog 38 = some false := by kernel_rfl

namespace Csl
/-! ### The numbers' bytes -/
def numN (n : Nat) : List UInt8 := if h : n < 128 then [UInt8.ofNat n] else UInt8.ofNat (n % 128 + 128) :: numN (n / 128)
termination_by n
decreasing_by omega
theorem numN_small {n : Nat} (h : n < 128) : numN n = [UInt8.ofNat n] := by rw [numN, dif_pos h]
theorem numN_big {n : Nat} (h : 128 ≤ n) : numN n = UInt8.ofNat (n % 128 + 128) :: numN (n / 128) := by rw [numN, dif_neg (by omega)]
theorem numN_pos (n : Nat) : 0 < (numN n).length := by rw [numN]; split <;> simp
theorem numN_len (k : Nat) : ∀ n, n < 128 ^ (k + 1) → (numN n).length ≤ k + 1 := by
  induction k with
  | zero => intro n h; rw [numN_small (by simpa using h)]; simp
  | succ k ih =>
    intro n h
    by_cases h1 : n < 128
    · rw [numN_small h1]; simp
    · rw [numN_big (by omega)]
      have : n / 128 < 128 ^ (k + 1) := by rw [Nat.div_lt_iff_lt_mul (by decide)]; rw [Nat.pow_succ] at h; exact h
      have := ih _ this
      simp; omega
theorem numN_le (n : Nat) (h : n ≤ 9223372036854775807) : (numN n).length ≤ 9 := numN_len 8 n (by have : (128 : Nat) ^ (8 + 1) = 9223372036854775808 := (by decide); rw [this]; omega)
theorem bv_small {z : Int} (h0 : 0 ≤ z) (h : z < 128) : [Value.int .u8 z] = (numN z.toNat).map bv := by
  rw [numN_small (by omega)]
  simp only [List.map_cons, List.map_nil, bv]
  have : ((UInt8.ofNat z.toNat).toNat : Int) = z := by rw [UInt8.toNat_ofNat_of_lt' (by simp [UInt8.size]; omega)]; omega
  rw [this]
theorem bv_low {z : Int} (h0 : 0 ≤ z) : [Value.int .u8 (z % 128 + 128)] = [UInt8.ofNat (z.toNat % 128 + 128)].map bv := by
  simp only [List.map_cons, List.map_nil, bv]
  have : ((UInt8.ofNat (z.toNat % 128 + 128)).toNat : Int) = z % 128 + 128 := by rw [UInt8.toNat_ofNat_of_lt' (by simp [UInt8.size]; omega)]; omega
  rw [this]
theorem bv_low' {z : Int} (h0 : 0 ≤ z) : [Value.int .u8 (128 + z % 128)] = [UInt8.ofNat (z.toNat % 128 + 128)].map bv := by rw [← bv_low h0, Int.add_comm]
theorem numN_step {z : Int} (h0 : 128 ≤ z) : numN z.toNat = UInt8.ofNat (z.toNat % 128 + 128) :: numN (z / 128).toNat := by
  rw [numN_big (by omega)]; congr 2; omega
theorem isOne_bv (bs : List UInt8) : ∀ u ∈ bs.map bv, u.isOne = true := by
  intro u hu; obtain ⟨b, _, rfl⟩ := List.mem_map.1 hu; rfl
theorem SlR.cut {G : Gp} {T : TypeId} {a : Option Addr} {bs : List UInt8} (m : Nat) (h : SlR G T 1 a bs.length (bs.map bv)) : SlR G T 1 a (bs.take m).length ((bs.take m).map bv) := by
  rcases h with ⟨h1, h2⟩ | ⟨b, T1, pre, post, rfl, h2, h3⟩
  · left
    have : bs = [] := by simpa using h2
    subst this; simp
  · right
    refine ⟨b, T1, pre, (bs.drop m).map bv ++ post, rfl, by simp, ?_⟩
    have e : pre ++ (bs.take m).map bv ++ ((bs.drop m).map bv ++ post) = pre ++ bs.map bv ++ post := by
      rw [List.append_assoc, List.append_assoc, ← List.append_assoc ((bs.take m).map bv), ← List.map_append, List.take_append_drop]
    rw [e]; exact h3
/-- A fresh row of bytes. -/
def Fresh (T : TypeId) (bs : List UInt8) : Post := fun F v A => ∃ a c, v = .slice a bs.length c ∧ A = Sl T 1 a bs.length c (bs.map bv) :: F
end Csl

namespace Csl
def asksB (e : Edu) : Bool := if e.kind = 1 then namedB 33 (bl e.room) && (eventB (bl e.event) && threadB (bl e.thread)) else if e.kind = 2 then namedB 33 (bl e.room) && (!e.typing || (decide (1 ≤ e.span) && decide (e.span ≤ 60))) else if e.kind = 3 then decide (0 ≤ e.state) && decide (e.state ≤ 2) else false
def baseE (e : Edu) : Edu := ⟨e.kind, .empty, e.user, .empty, .empty, false, false, 0, 0, e.tick, e.stamp⟩
def namedE (e : Edu) : Edu := if e.kind = 1 then { baseE e with room := e.room, event := e.event, thread := e.thread, priv := e.priv } else if e.kind = 2 then { baseE e with room := e.room, typing := e.typing, span := if e.typing then e.span else 0 } else if e.kind = 3 then { baseE e with state := e.state } else baseE e
def inR (n : Int) : Bool := decide (0 ≤ n) && decide (n ≤ 1099511627776)
def eduKind (e : Edu) : Bool :=
  if e.kind = 1 then namedB 33 (bl e.room) && (eventB (bl e.event) && (threadB (bl e.thread) && (!e.typing && (decide (e.span = 0) && decide (e.state = 0)))))
  else if e.kind = 2 then namedB 33 (bl e.room) && (((e.typing && (decide (1 ≤ e.span) && decide (e.span ≤ 60))) || (!e.typing && decide (e.span = 0))) && (decide (bl e.event = []) && (decide (bl e.thread = []) && (decide (e.state = 0) && !e.priv))))
  else if e.kind = 3 then decide (bl e.room = []) && (decide (bl e.event = []) && (decide (bl e.thread = []) && (!e.typing && (decide (e.span = 0) && (!e.priv && (decide (0 ≤ e.state) && decide (e.state ≤ 2)))))))
  else false
def eduLocal (e : Edu) : Bool := namedB 64 (bl e.user) && (inR e.tick && (inR e.stamp && eduKind e))
def eduMay (e : Edu) : Bool := eduLocal e && !e.priv
theorem bl_nil {s : ByteArray} : bl s = [] ↔ s = .empty := ⟨fun h => bl_inj h, fun h => by rw [h]; rfl⟩
theorem local_eq (e : Edu) : eduLocal e = (decide (0 ≤ e.kind) && (decide (e.kind ≤ 3) && (asksB e && (decide (e = namedE e) && (namedB 64 (bl e.user) && (inR e.tick && inR e.stamp)))))) := by
  have key : (decide (0 ≤ e.kind) && (decide (e.kind ≤ 3) && (asksB e && decide (e = namedE e)))) = eduKind e := by
    obtain ⟨k, r, u, ev, th, pr, ty, sp, sa, ti, sm⟩ := e
    unfold asksB namedE eduKind baseE
    by_cases h1 : k = 1
    · subst h1; rw [Bool.eq_iff_iff]; simp; grind
    · by_cases h2 : k = 2
      · subst h2; rw [Bool.eq_iff_iff]; simp [bl_nil]; cases ty <;> grind
      · by_cases h3 : k = 3
        · subst h3; rw [Bool.eq_iff_iff]; simp [bl_nil]; grind
        · simp [h1, h2, h3]
  unfold eduLocal
  rw [← key]
  cases decide (0 ≤ e.kind) <;> cases decide (e.kind ≤ 3) <;> cases asksB e <;> cases decide (e = namedE e) <;> cases namedB 64 (bl e.user) <;> cases inR e.tick <;> cases inR e.stamp <;> rfl
def txt (s : ByteArray) : List UInt8 := numN s.size ++ bl s
def flg (b : Bool) : List UInt8 := [if b then 1 else 0]
def eduTexts (e : Edu) : List ByteArray := [e.room, e.user, e.event, e.thread]
def eduNums (e : Edu) : List Int := [e.span, e.state, e.tick, e.stamp]
def eduBytes (e : Edu) : List UInt8 := numN e.kind.toNat ++ (eduTexts e).flatMap txt ++ flg e.typing ++ (eduNums e).flatMap (fun z => numN z.toNat)
def eduSmall (e : Edu) : Prop := e.room.size ≤ 1000 ∧ e.user.size ≤ 1000 ∧ e.event.size ≤ 1000 ∧ e.thread.size ≤ 1000
theorem txt_len {s : ByteArray} (h : s.size ≤ 1000) : (txt s).length ≤ 1009 := by
  unfold txt; have := numN_le s.size (by omega); rw [List.length_append, bl_length]; omega
theorem wrap_range (n : Int) : -9223372036854775808 ≤ IntKind.i64.wrap n ∧ IntKind.i64.wrap n ≤ 9223372036854775807 := by
  simp [IntKind.wrap, IntKind.bits, IntKind.signed]; omega
def evNum (e : Edu) : Int := IntKind.i64.wrap (e.event.size + around e.tick 9)
def good0 (e : Edu) : Edu := ⟨1 + around e.kind 3, .empty, userOf e.state, .empty, .empty, false, false, 0, 0, around e.tick 100, around e.stamp 9⟩
def goodE (e : Edu) : Edu := if (good0 e).kind = 1 then { good0 e with room := roomOf e.span, event := eventOf (evNum e), thread := threadOf e.thread.size, priv := e.priv }
  else if (good0 e).kind = 2 then { good0 e with room := roomOf e.span, typing := e.typing, span := if e.typing then 1 + around e.span 60 else 0 } else { good0 e with state := around e.span 3 }
def pubE (e : Edu) : Edu := { goodE e with priv := false }
def fewE (e : Edu) : Edu := { e with room := cut e.room 40, user := cut e.user 40, event := cut e.event 40, thread := cut e.thread 40 }
end Csl

set_option maxRecDepth 100000 in
theorem named_ctr {G : Gp} {e : Edu} :
    Ctr Tryz.prog G 81 [.agg (cEdu e).toArray] [] (fun F v A => v = .agg (cEdu (namedE e)).toArray ∧ A = F) := by
  refine Ctr.intro Tryz.func81 rfl (by kernel_rfl) rfl (fun F => ?_)
  simp only [List.nil_append]
  refine sr' ?_
  refine RunL.boxA (xs := (cEdu e)) rfl (Wt.none rfl) rfl ?_; intro b1
  refine RunL.alloc zz23 (Wt.none rfl) rfl ?_; intro b2
  refine nl' ?_
  refine la' (row b1 23 _) Lends.row fun G1 hleG1 hrb1 => ?_
  refine sr' (pp' (Pure.fieldAddr rfl fo23_0) (l1' rfl agg3 ?_))
  refine pp' (Pure.fieldAddr rfl fo23_2) (l1' rfl agg9 ?_)
  refine pp' (Pure.fieldAddr rfl fo23_9) (l1' rfl agg3 ?_)
  refine pp' (Pure.fieldAddr rfl fo23_10) (l1' rfl agg3 ?_)
  refine pp' (Pure.buildL (ps := [(0, _), (2, _), (9, _), (10, _)]) (zs := [(.int .i64 0), (.string .empty), (.string .empty), (.string .empty), (.string .empty), (.bool false), (.bool false), (.int .i64 0), (.int .i64 0), (.int .i64 0), (.int .i64 0)]) (xs := (cEdu (baseE e))) pl23 rfl rfl rfl rfl) ?_
  refine RunL.alloc zz23 (Wt.none rfl) rfl ?_; intro b3
  refine sW' (cEdu (baseE e)) rfl rfl sz23 ?_
  refine nl' (sq' (sr' (pp' (Pure.fieldAddr rfl fo23_0) (l1' rfl agg3 ?_))))
  refine nl' (bl' (sr' (pp' (Pure.eql rfl rfl) (as' rfl (nl' ?_)))))
  refine Run.cond rfl (fun h1 => ?_) (fun h1 => ?_)
  · try simp only [Z] at h1
    refine Run.regionD' (by kernel_rfl) (by kernel_rfl) (fun hok30 => ?_)
    refine dp' 0 hok30 rfl (Pure.fieldAddr rfl fo23_1) (dl' 1 hok30 rfl rfl agg9 ?_)
    refine dp' 2 hok30 rfl (Pure.fieldAddr rfl fo23_3) (dl' 3 hok30 rfl rfl agg9 ?_)
    refine dp' 4 hok30 rfl (Pure.fieldAddr rfl fo23_4) (dl' 5 hok30 rfl rfl agg9 ?_)
    refine dp' 6 hok30 rfl (Pure.fieldAddr rfl fo23_5) (dl' 7 hok30 rfl rfl agg4 ?_)
    refine dp' 8 hok30 rfl (Pure.fieldAddr rfl fo23_1) ?_
    refine RunD.one (i := 9) (by kernel_rfl) rfl ?_
    refine RunL.store1A (cs' := (cEdu ({ baseE e with room := e.room }))) rfl rfl (by first | ((repeat (first | (with_reducible exact F0 _) | apply F1)); done) | (repeat (first | exact F0 _ | apply F1))) sz9 (by rfl) (by first | exact Nat.le_of_ble_eq_true rfl | (simp; done) | (simp; omega)) rfl (Wt.none rfl) ?_
    refine RunL.nilD' ?_
    refine dp' 10 hok30 rfl (Pure.fieldAddr rfl fo23_3) ?_
    refine RunD.one (i := 11) (by kernel_rfl) rfl ?_
    refine RunL.store1A (cs' := (cEdu ({ baseE e with room := e.room, event := e.event }))) rfl rfl (by first | ((repeat (first | (with_reducible exact F0 _) | apply F1)); done) | (repeat (first | exact F0 _ | apply F1))) sz9 (by rfl) (by first | exact Nat.le_of_ble_eq_true rfl | (simp; done) | (simp; omega)) rfl (Wt.none rfl) ?_
    refine RunL.nilD' ?_
    refine dp' 12 hok30 rfl (Pure.fieldAddr rfl fo23_4) ?_
    refine RunD.one (i := 13) (by kernel_rfl) rfl ?_
    refine RunL.store1A (cs' := (cEdu ({ baseE e with room := e.room, event := e.event, thread := e.thread }))) rfl rfl (by first | ((repeat (first | (with_reducible exact F0 _) | apply F1)); done) | (repeat (first | exact F0 _ | apply F1))) sz9 (by rfl) (by first | exact Nat.le_of_ble_eq_true rfl | (simp; done) | (simp; omega)) rfl (Wt.none rfl) ?_
    refine RunL.nilD' ?_
    refine dp' 14 hok30 rfl (Pure.fieldAddr rfl fo23_5) ?_
    refine RunD.one (i := 15) (by kernel_rfl) rfl ?_
    refine RunL.store1A (cs' := (cEdu ({ baseE e with room := e.room, event := e.event, thread := e.thread, priv := e.priv }))) rfl rfl (by first | ((repeat (first | (with_reducible exact F0 _) | apply F1)); done) | (repeat (first | exact F0 _ | apply F1))) sz4 (by rfl) (by first | exact Nat.le_of_ble_eq_true rfl | (simp; done) | (simp; omega)) rfl (Wt.none rfl) ?_
    refine RunL.nilD' ?_
    refine RunD.nilR (by kernel_rfl) ?_
    refine ib' (sr' (lA' (cEdu ({ baseE e with room := e.room, event := e.event, thread := e.thread, priv := e.priv })) rfl agg23 sz23 ?_))
    refine sW' (cEdu ({ baseE e with room := e.room, event := e.event, thread := e.thread, priv := e.priv })) rfl rfl sz23 ?_
    refine nl' ?_
    exact rt' Tryz.func81 (resV1 rfl (Rv.cellN (us := (cEdu ({ baseE e with room := e.room, event := e.event, thread := e.thread, priv := e.priv }))) rfl (by first | ((repeat (first | (with_reducible exact F0 _) | apply F1)); done) | (repeat (first | exact F0 _ | apply F1))) agg23 sz23 (by first | exact Nat.le_of_ble_eq_true rfl | (simp; done) | (simp; omega)) rfl)) (by exact ⟨by rw [show namedE e = { baseE e with room := e.room, event := e.event, thread := e.thread, priv := e.priv } from by unfold namedE; rw [if_pos h1]], rfl⟩)
  · try simp only [Z] at h1
    refine sr' (pp' (Pure.eql rfl rfl) (as' rfl (nl' ?_)))
    refine Run.cond rfl (fun h2 => ?_) (fun h2 => ?_)
    · try simp only [Z] at h2
      refine sq' ?_
      refine Run.regionD' (by kernel_rfl) (by kernel_rfl) (fun hok70 => ?_)
      refine dp' 0 hok70 rfl (Pure.fieldAddr rfl fo23_1) (dl' 1 hok70 rfl rfl agg9 ?_)
      refine dp' 2 hok70 rfl (Pure.fieldAddr rfl fo23_6) (dl' 3 hok70 rfl rfl agg4 ?_)
      refine dp' 4 hok70 rfl (Pure.fieldAddr rfl fo23_1) ?_
      refine RunD.one (i := 5) (by kernel_rfl) rfl ?_
      refine RunL.store1A (cs' := (cEdu ({ baseE e with room := e.room }))) rfl rfl (by first | ((repeat (first | (with_reducible exact F0 _) | apply F1)); done) | (repeat (first | exact F0 _ | apply F1))) sz9 (by rfl) (by first | exact Nat.le_of_ble_eq_true rfl | (simp; done) | (simp; omega)) rfl (Wt.none rfl) ?_
      refine RunL.nilD' ?_
      refine dp' 6 hok70 rfl (Pure.fieldAddr rfl fo23_6) ?_
      refine RunD.one (i := 7) (by kernel_rfl) rfl ?_
      refine RunL.store1A (cs' := (cEdu ({ baseE e with room := e.room, typing := e.typing }))) rfl rfl (by first | ((repeat (first | (with_reducible exact F0 _) | apply F1)); done) | (repeat (first | exact F0 _ | apply F1))) sz4 (by rfl) (by first | exact Nat.le_of_ble_eq_true rfl | (simp; done) | (simp; omega)) rfl (Wt.none rfl) ?_
      refine RunL.nilD' ?_
      refine RunD.nilR (by kernel_rfl) ?_
      refine sr' (pp' (Pure.fieldAddr rfl fo23_6) (l1' rfl agg4 ?_))
      refine nl' ?_
      refine Run.cond rfl (fun h3 => ?_) (fun h3 => ?_)
      · try simp only [Z] at h3
        refine rg' (pp' (Pure.fieldAddr rfl fo23_7) (l1' rfl agg3 ?_))
        refine pp' (Pure.fieldAddr rfl fo23_7) ?_
        refine RunL.store1A (cs' := (cEdu ({ baseE e with room := e.room, typing := e.typing, span := e.span }))) rfl rfl (by first | ((repeat (first | (with_reducible exact F0 _) | apply F1)); done) | (repeat (first | exact F0 _ | apply F1))) sz3 (by rfl) (by first | exact Nat.le_of_ble_eq_true rfl | (simp; done) | (simp; omega)) rfl (Wt.none rfl) ?_
        refine nl' (ib' (sr' (lA' (cEdu ({ baseE e with room := e.room, typing := e.typing, span := e.span })) rfl agg23 sz23 ?_)))
        refine sW' (cEdu ({ baseE e with room := e.room, typing := e.typing, span := e.span })) rfl rfl sz23 ?_
        refine nl' ?_
        exact rt' Tryz.func81 (resV1 rfl (Rv.cellN (us := (cEdu ({ baseE e with room := e.room, typing := e.typing, span := e.span }))) rfl (by first | ((repeat (first | (with_reducible exact F0 _) | apply F1)); done) | (repeat (first | exact F0 _ | apply F1))) agg23 sz23 (by first | exact Nat.le_of_ble_eq_true rfl | (simp; done) | (simp; omega)) rfl)) (by exact ⟨by rw [show namedE e = { baseE e with room := e.room, typing := e.typing, span := e.span } from by unfold namedE; rw [if_neg h1, if_pos h2, if_pos h3]], rfl⟩)
      · try simp only [Z] at h3
        refine sk' (ib' (sr' (lA' (cEdu ({ baseE e with room := e.room, typing := e.typing })) rfl agg23 sz23 ?_)))
        refine sW' (cEdu ({ baseE e with room := e.room, typing := e.typing })) rfl rfl sz23 ?_
        refine nl' ?_
        exact rt' Tryz.func81 (resV1 rfl (Rv.cellN (us := (cEdu ({ baseE e with room := e.room, typing := e.typing }))) rfl (by first | ((repeat (first | (with_reducible exact F0 _) | apply F1)); done) | (repeat (first | exact F0 _ | apply F1))) agg23 sz23 (by first | exact Nat.le_of_ble_eq_true rfl | (simp; done) | (simp; omega)) rfl)) (by exact ⟨by rw [show namedE e = { baseE e with room := e.room, typing := e.typing } from by unfold namedE; rw [if_neg h1, if_pos h2, if_neg (by rw [h3]; decide)]; rfl], rfl⟩)
    · try simp only [Z] at h2
      refine sr' (pp' (Pure.eql rfl rfl) (as' rfl (nl' ?_)))
      refine Run.cond rfl (fun h3 => ?_) (fun h3 => ?_)
      · try simp only [Z] at h3
        refine rg' (pp' (Pure.fieldAddr rfl fo23_8) (l1' rfl agg3 ?_))
        refine pp' (Pure.fieldAddr rfl fo23_8) ?_
        refine RunL.store1A (cs' := (cEdu ({ baseE e with state := e.state }))) rfl rfl (by first | ((repeat (first | (with_reducible exact F0 _) | apply F1)); done) | (repeat (first | exact F0 _ | apply F1))) sz3 (by rfl) (by first | exact Nat.le_of_ble_eq_true rfl | (simp; done) | (simp; omega)) rfl (Wt.none rfl) ?_
        refine nl' (ib' (sr' (lA' (cEdu ({ baseE e with state := e.state })) rfl agg23 sz23 ?_)))
        refine sW' (cEdu ({ baseE e with state := e.state })) rfl rfl sz23 ?_
        refine nl' ?_
        exact rt' Tryz.func81 (resV1 rfl (Rv.cellN (us := (cEdu ({ baseE e with state := e.state }))) rfl (by first | ((repeat (first | (with_reducible exact F0 _) | apply F1)); done) | (repeat (first | exact F0 _ | apply F1))) agg23 sz23 (by first | exact Nat.le_of_ble_eq_true rfl | (simp; done) | (simp; omega)) rfl)) (by exact ⟨by rw [show namedE e = { baseE e with state := e.state } from by unfold namedE; rw [if_neg h1, if_neg h2, if_pos h3]], rfl⟩)
      · try simp only [Z] at h3
        refine sk' (ib' (sr' (lA' (cEdu (baseE e)) rfl agg23 sz23 ?_)))
        refine sW' (cEdu (baseE e)) rfl rfl sz23 ?_
        refine nl' ?_
        exact rt' Tryz.func81 (resV1 rfl (Rv.cellN (us := (cEdu (baseE e))) rfl (by first | ((repeat (first | (with_reducible exact F0 _) | apply F1)); done) | (repeat (first | exact F0 _ | apply F1))) agg23 sz23 (by first | exact Nat.le_of_ble_eq_true rfl | (simp; done) | (simp; omega)) rfl)) (by exact ⟨by rw [show namedE e = baseE e from by unfold namedE; rw [if_neg h1, if_neg h2, if_neg h3]], rfl⟩)

set_option maxRecDepth 100000 in
theorem within_ctr {G : Gp} {n l h : Int} :
    Ctr Tryz.prog G 108 [.int .i64 n, .int .i64 l, .int .i64 h] [] (fun F v A => v = .bool (decide (l ≤ n) && decide (n ≤ h)) ∧ A = F) := by
  refine Ctr.intro Tryz.func108 rfl (by kernel_rfl) rfl (fun F => ?_)
  simp only [List.nil_append]
  refine sr' (as' rfl (nl' (sr' (mv' rfl (mv' rfl (pp' (Pure.geq rfl rfl) (mv' rfl ?_)))))))
  refine RunL.split (d := 10) rfl (fun h1 => ?_) (fun h1 => ?_)
  · try simp only [Z] at h1
    refine py' (Pure.move rfl) (py' (Pure.move rfl) (py' (Pure.leq rfl rfl) (pp' (Pure.pickT rfl rfl) (as' rfl (nl' ?_)))))
    exact rt' Tryz.func108 (res1 rfl rfl) (by exact ⟨by rw [decide_eq_true h1]; rfl, rfl⟩)
  · try simp only [Z] at h1
    refine no' (no' (no' (pp' (Pure.pickF rfl rfl) (as' rfl (nl' ?_)))))
    exact rt' Tryz.func108 (res1 rfl rfl) (by exact ⟨by rw [decide_eq_false (by omega)]; rfl, rfl⟩)

set_option maxRecDepth 100000 in
theorem asks2_ctr {G : Gp} {e : Edu} :
    Ctr Tryz.prog G 109 [.agg (cEdu e).toArray] [] (fun F v A => v = .bool false ∧ A = F) := by
  refine Ctr.intro Tryz.func109 rfl (by kernel_rfl) rfl (fun F => ?_)
  simp only [List.nil_append]
  refine sr' ?_
  refine RunL.boxA (xs := (cEdu e)) rfl (Wt.none rfl) rfl ?_; intro b1
  refine as' rfl (nl' ?_)
  refine la' (row b1 23 _) Lends.row fun G1 hleG1 hrb1 => ?_
  refine sr' (as' rfl (nl' ?_))
  exact rt' Tryz.func109 (res1 rfl rfl) (by exact ⟨rfl, rfl⟩)

set_option maxRecDepth 100000 in
theorem asks3_ctr {G : Gp} {e : Edu} (hs : eduSmall e) :
    Ctr Tryz.prog G 110 [.agg (cEdu e).toArray] [] (fun F v A => v = .bool (namedB 33 (bl e.room) && (eventB (bl e.event) && threadB (bl e.thread))) ∧ A = F) := by
  refine Ctr.intro Tryz.func110 rfl (by kernel_rfl) rfl (fun F => ?_)
  simp only [List.nil_append]
  obtain ⟨hs1, hs2, hs3, hs4⟩ := hs
  refine sr' ?_
  refine RunL.boxA (xs := (cEdu e)) rfl (Wt.none rfl) rfl ?_; intro b1
  refine as' rfl (nl' ?_)
  refine la' (row b1 23 _) Lends.row fun G1 hleG1 hrb1 => ?_
  refine sr' (pp' (Pure.fieldAddr rfl fo23_1) (l1' rfl agg9 ?_))
  refine ca' rfl rfl (s := Room_ctr (by first | assumption | omega | (unfold eduSmall at hs; omega))) (q := ?_)
  rintro _ _ ⟨rfl, hA_⟩
  replace hA_ := hA_.symm; subst hA_
  refine mv' rfl ?_
  refine RunL.split (d := 6) rfl (fun h1 => ?_) (fun h1 => ?_)
  · try simp only [Z] at h1
    refine py' (Pure.fieldAddr rfl fo23_3) (l1' rfl agg9 ?_)
    refine ca' rfl rfl (s := nEvent_ctr (by first | assumption | omega | (unfold eduSmall at hs; omega))) (q := ?_)
    rintro _ _ ⟨rfl, hA_⟩
    replace hA_ := hA_.symm; subst hA_
    refine pp' (Pure.pickT rfl rfl) (mv' rfl ?_)
    refine RunL.split (d := 11) rfl (fun h2 => ?_) (fun h2 => ?_)
    · try simp only [Z] at h2
      refine py' (Pure.fieldAddr rfl fo23_4) (l1' rfl agg9 ?_)
      refine ca' rfl rfl (s := nThread_ctr (by first | assumption | omega | (unfold eduSmall at hs; omega))) (q := ?_)
      rintro _ _ ⟨rfl, hA_⟩
      replace hA_ := hA_.symm; subst hA_
      refine pp' (Pure.pickT rfl rfl) (as' rfl (nl' ?_))
      exact rt' Tryz.func110 (res1 rfl rfl) (by exact ⟨by rw [h1, h2]; rfl, rfl⟩)
    · try simp only [Z] at h2
      refine no' (no' (no' (pp' (Pure.pickF rfl rfl) (as' rfl (nl' ?_)))))
      exact rt' Tryz.func110 (res1 rfl rfl) (by exact ⟨by rw [h1, h2]; rfl, rfl⟩)
  · try simp only [Z] at h1
    refine no' (no' (no' (pp' (Pure.pickF rfl rfl) (mv' rfl (no' (no' (no' (pp' (Pure.pickF rfl rfl) (as' rfl (nl' ?_))))))))))
    exact rt' Tryz.func110 (res1 rfl rfl) (by exact ⟨by rw [h1]; rfl, rfl⟩)

set_option maxRecDepth 100000 in
theorem asks4_ctr {G : Gp} {e : Edu} {b : Nat} (hr : Ro G b 177 [.func (.func 108) #[] #[]]) (hs : eduSmall e) :
    Ctr Tryz.prog G 114 [.agg (cEdu e).toArray, .pointer (some ⟨b, 0, none⟩)] [] (fun F v A => v = .bool (namedB 33 (bl e.room) && (!e.typing || (decide (1 ≤ e.span) && decide (e.span ≤ 60)))) ∧ A = F) := by
  refine Ctr.intro Tryz.func114 rfl (by kernel_rfl) rfl (fun F => ?_)
  simp only [List.nil_append]
  obtain ⟨hs1, hs2, hs3, hs4⟩ := hs
  refine sr' ?_
  refine RunL.boxA (xs := (cEdu e)) rfl (Wt.none rfl) rfl ?_; intro b2
  refine as' rfl (nl' ?_)
  refine la' (row b2 23 _) Lends.row fun G2 hleG2 hrb2 => ?_
  replace hr := hr.mono hleG2
  refine sr' (pp' (Pure.fieldAddr rfl fo23_1) (l1' rfl agg9 ?_))
  refine ca' rfl rfl (s := Room_ctr (by first | assumption | omega | (unfold eduSmall at hs; omega))) (q := ?_)
  rintro _ _ ⟨rfl, hA_⟩
  replace hA_ := hA_.symm; subst hA_
  refine mv' rfl ?_
  refine RunL.split (d := 7) rfl (fun h1 => ?_) (fun h1 => ?_)
  · try simp only [Z] at h1
    refine py' (Pure.fieldAddr rfl fo23_6) (l1' rfl agg4 ?_)
    refine py' (Pure.not rfl) (py' (Pure.move rfl) ?_)
    refine RunL.split (d := 11) rfl (fun h2 => ?_) (fun h2 => ?_)
    · try simp only [Z] at h2
      refine no' (no' (no' (no' (py' (Pure.pickT rfl rfl) (pp' (Pure.pickT rfl rfl) (as' rfl (nl' ?_)))))))
      exact rt' Tryz.func114 (res1 rfl rfl) (by exact ⟨by rw [h1, h2]; rfl, rfl⟩)
    · try simp only [Z] at h2
      refine l1' rfl agg177 ?_
      refine py' (Pure.fieldAddr rfl fo23_7) (l1' rfl agg3 ?_)
      refine ca' rfl rfl (s := within_ctr (n := e.span) (l := 1) (h := 60)) (q := ?_)
      rintro _ _ ⟨rfl, hA_⟩
      replace hA_ := hA_.symm; subst hA_
      refine py' (Pure.pickF rfl rfl) (pp' (Pure.pickT rfl rfl) (as' rfl (nl' ?_)))
      exact rt' Tryz.func114 (res1 rfl rfl) (by exact ⟨by rw [h1, h2]; rfl, rfl⟩)
  · try simp only [Z] at h1
    refine no' (no' (no' (no' (un' (un' (un' (un' (no' (pp' (Pure.pickF rfl rfl) (as' rfl (nl' ?_)))))))))))
    exact rt' Tryz.func114 (res1 rfl rfl) (by exact ⟨by rw [h1]; rfl, rfl⟩)

set_option maxRecDepth 100000 in
theorem asks5_ctr {G : Gp} {e : Edu} {b : Nat} (hr : Ro G b 177 [.func (.func 108) #[] #[]]) :
    Ctr Tryz.prog G 115 [.agg (cEdu e).toArray, .pointer (some ⟨b, 0, none⟩)] [] (fun F v A => v = .bool (decide (0 ≤ e.state) && decide (e.state ≤ 2)) ∧ A = F) := by
  refine Ctr.intro Tryz.func115 rfl (by kernel_rfl) rfl (fun F => ?_)
  simp only [List.nil_append]
  refine sr' ?_
  refine RunL.boxA (xs := (cEdu e)) rfl (Wt.none rfl) rfl ?_; intro b2
  refine as' rfl (nl' ?_)
  refine la' (row b2 23 _) Lends.row fun G2 hleG2 hrb2 => ?_
  replace hr := hr.mono hleG2
  refine sr' (l1' rfl agg177 ?_)
  refine pp' (Pure.fieldAddr rfl fo23_8) (l1' rfl agg3 ?_)
  refine ca' rfl rfl (s := within_ctr (n := e.state) (l := 0) (h := 2)) (q := ?_)
  rintro _ _ ⟨rfl, hA_⟩
  replace hA_ := hA_.symm; subst hA_
  refine as' rfl (nl' ?_)
  exact rt' Tryz.func115 (res1 rfl rfl) (by exact ⟨rfl, rfl⟩)

set_option maxRecDepth 100000 in
theorem asks_ctr {G : Gp} :
    Ctr Tryz.prog G 79 [] [] (fun F v A => ∃ b1 b, v = .slice (some ⟨b, 0, none⟩) 4 4 ∧ A = Sl 38 1 (some ⟨b, 0, none⟩) 4 4 [.func (.func 109) #[] #[], .func (.func 110) #[] #[], .func (.func 114) #[] #[.pointer (some ⟨b1, 0, none⟩)], .func (.func 115) #[] #[.pointer (some ⟨b1, 0, none⟩)]] :: row b1 177 [.func (.func 108) #[] #[]] :: F) := by
  refine Ctr.intro Tryz.func79 rfl (by kernel_rfl) rfl (fun F => ?_)
  simp only [List.nil_append]
  refine sr' (as' rfl (nl' (sr' ?_)))
  refine RunL.alloc zz177 (Wt.none rfl) rfl ?_; intro b1
  refine RunL.store1 rfl rfl (by first | ((repeat (first | (with_reducible exact F0 _) | apply F1)); done) | (repeat (first | exact F0 _ | apply F1))) sz177 (by rfl) (by first | exact Nat.le_of_ble_eq_true rfl | (simp; done) | (simp; omega)) (Wt.none rfl) ?_
  try simp only [List.set_cons_zero, List.set_cons_succ]
  refine nl' (sr' (pp' (Pure.makeFunc rfl rfl) (pp' (Pure.makeFunc rfl rfl) ?_)))
  refine RunL.lit (vals := [_, _, _, _]) (vs := [_, _, _, _]) und145 sz38 zz38 rfl rfl rfl rfl rfl rfl (by simp [Value.cells, bv, cDD, cEdu, cEvn, cGG, cK, cM, cNde, cPP, cPos, cSS, cVV]) rfl (Wt.none rfl) rfl ?_; intro b4
  refine as' rfl (nl' ?_)
  exact rt' Tryz.func79 (res1 rfl rfl) (by exact ⟨b1, b4, rfl, rfl⟩)

set_option maxRecDepth 100000 in
theorem in_ctr {G : Gp} {n : Int} :
    Ctr Tryz.prog G 80 [.int .i64 n] [] (fun F v A => v = .bool (inR n) ∧ A = F) := by
  refine Ctr.intro Tryz.func80 rfl (by kernel_rfl) rfl (fun F => ?_)
  simp only [List.nil_append]
  refine sr' (as' rfl (nl' (sr' (mv' rfl (pp' (Pure.geq rfl rfl) (mv' rfl ?_))))))
  refine RunL.split (d := 5) rfl (fun h1 => ?_) (fun h1 => ?_)
  · try simp only [Z] at h1
    refine py' (Pure.move rfl) (py' (Pure.leq rfl rfl) (pp' (Pure.pickT rfl rfl) (as' rfl (nl' ?_))))
    exact rt' Tryz.func80 (res1 rfl rfl) (by exact ⟨by rw [inR, decide_eq_true h1]; rfl, rfl⟩)
  · try simp only [Z] at h1
    refine no' (no' (pp' (Pure.pickF rfl rfl) (as' rfl (nl' ?_))))
    exact rt' Tryz.func80 (res1 rfl rfl) (by exact ⟨by rw [inR, decide_eq_false (by omega)]; rfl, rfl⟩)

set_option maxRecDepth 100000 in
theorem Local_ctr {G : Gp} {e : Edu} (hs : eduSmall e) :
    Ctr Tryz.prog G 50 [.agg (cEdu e).toArray] [] (fun F v A => v = .bool (eduLocal e) ∧ A = F) := by
  refine Ctr.intro Tryz.func50 rfl (by kernel_rfl) rfl (fun F => ?_)
  simp only [List.nil_append]
  refine sr' ?_
  refine RunL.boxA (xs := (cEdu e)) rfl (Wt.none rfl) rfl ?_; intro b1
  refine as' rfl (nl' ?_)
  refine la' (row b1 23 _) Lends.row fun G1 hleG1 hrb1 => ?_
  refine sq' (sq' ?_)
  refine Run.regionD' (by kernel_rfl) (by kernel_rfl) (fun hok7 => ?_)
  refine dp' 0 hok7 rfl (Pure.fieldAddr rfl fo23_0) (dl' 1 hok7 rfl rfl agg3 ?_)
  refine dp' 2 hok7 rfl (Pure.lss rfl rfl) (dp' 3 hok7 rfl (Pure.move rfl) ?_)
  refine RunD.split (d := 7) rfl (fun h1 => ?_) (fun h1 => ?_)
  · try simp only [Z] at h1
    refine dn' 4 hok7 rfl (dn' 5 hok7 rfl (dn' 6 hok7 rfl (dp' 7 hok7 rfl (Pure.pickT rfl rfl) (dp' 8 hok7 rfl (Pure.move rfl) (dn' 9 hok7 rfl (dn' 10 hok7 rfl (dn' 11 hok7 rfl (dn' 12 hok7 rfl (dn' 13 hok7 rfl (dn' 14 hok7 rfl (dn' 15 hok7 rfl (dn' 16 hok7 rfl (dp' 17 hok7 rfl (Pure.pickT rfl rfl) ?_)))))))))))))
    refine RunD.nilR (by kernel_rfl) ?_
    refine cT' (sr' (as' rfl (nl' ?_)))
    exact rt' Tryz.func50 (res1 rfl rfl) (by exact ⟨by rw [local_eq, decide_eq_false (by omega)]; rfl, rfl⟩)
  · try simp only [Z] at h1
    refine dp' 4 hok7 rfl (Pure.fieldAddr rfl fo23_0) (dl' 5 hok7 rfl rfl agg3 ?_)
    refine dp' 6 hok7 rfl (Pure.gtr rfl rfl) (dp' 7 hok7 rfl (Pure.pickF rfl rfl) (dp' 8 hok7 rfl (Pure.move rfl) ?_))
    refine RunD.split (d := 12) rfl (fun h2 => ?_) (fun h2 => ?_)
    · try simp only [Z] at h2
      refine dn' 9 hok7 rfl (dn' 10 hok7 rfl (dn' 11 hok7 rfl (dn' 12 hok7 rfl (dn' 13 hok7 rfl (dn' 14 hok7 rfl (dn' 15 hok7 rfl (dn' 16 hok7 rfl (dp' 17 hok7 rfl (Pure.pickT rfl rfl) ?_))))))))
      refine RunD.nilR (by kernel_rfl) ?_
      refine cT' (sr' (as' rfl (nl' ?_)))
      exact rt' Tryz.func50 (res1 rfl rfl) (by exact ⟨by rw [local_eq, decide_eq_false (show ¬ e.kind ≤ 3 from by omega)]; simp, rfl⟩)
    · try simp only [Z] at h2
      refine dp' 10 hok7 rfl (Pure.fieldAddr rfl fo23_0) (dl' 11 hok7 rfl rfl agg3 ?_)
      refine RunD.loadNR (vs := (cEdu e)) (i := 14) hok7 rfl (by kernel_rfl) rfl (by assumption) agg23 sz23 (by first | exact Nat.le_of_ble_eq_true rfl | (simp; done) | (simp; omega)) rfl (Wt.yes rfl rfl rfl) rfl ?_
      refine RunD.one (i := 9) (by kernel_rfl) rfl ?_
      refine ca' rfl rfl (s := asks_ctr) (q := ?_)
      rintro _ _ ⟨bw, bf, rfl, hA_⟩
      replace hA_ := hA_.symm; subst hA_
      refine RunL.nilD' ?_
      rcases (by omega : e.kind = 0 ∨ e.kind = 1 ∨ e.kind = 2 ∨ e.kind = 3) with hk | hk | hk | hk
      · skip
        refine ld' (Sl 38 1 (some ⟨bf, 0, none⟩) 4 4 _) (Lends.litRow (n := 4)) ?_; intro ga hlega ha backga
        have hrb1_ga := hrb1.mono hlega
        obtain ⟨postf, hf⟩ := ha
        refine ld' (row bw 177 _) Lends.row ?_; intro gb hlegb hbw backgb
        try (replace ha := ha.mono hlegb)
        have hrb1_gb := hrb1_ga.mono hlegb
        replace hf := hf.mono hlegb
        refine dp' 12 hok7 rfl (Pure.indexAddr rfl rfl und145 sz38 (by omega) (by omega)) ?_
        refine RunD.load1R (i := 13) hok7 rfl (by kernel_rfl) rfl hf (by rw [hk]; rfl) agg38 (Wt.yes rfl rfl rfl) rfl ?_
        refine RunD.one (i := 15) (by kernel_rfl) rfl ?_
        refine ca' rfl rfl (s := asks2_ctr) (q := ?_)
        rintro _ _ ⟨rfl, hA_⟩
        replace hA_ := hA_.symm; subst hA_
        refine RunL.nilD' ?_
        have hask : asksB e = false := by unfold asksB; rw [if_neg (by omega), if_neg (by omega), if_neg (by omega)]
        refine dp' 16 hok7 rfl (Pure.not rfl) (dp' 17 hok7 rfl (Pure.pickF rfl rfl) ?_)
        refine RunD.nilB (by kernel_rfl) (fun w sw => backga _ _ (backgb _ _ (sw))) ?_
        refine Run.cond rfl (fun hx => ?_) (fun hx => ?_)
        · try simp only [Z] at hx
          refine sr' (as' rfl (nl' ?_))
          exact rt' Tryz.func50 (res1 rfl rfl) (by exact ⟨by rw [local_eq, hask]; simp, rfl⟩)
        · try simp only [Z] at hx
          exfalso; simp at hx
      · skip
        refine ld' (Sl 38 1 (some ⟨bf, 0, none⟩) 4 4 _) (Lends.litRow (n := 4)) ?_; intro ga hlega ha backga
        have hrb1_ga := hrb1.mono hlega
        obtain ⟨postf, hf⟩ := ha
        refine ld' (row bw 177 _) Lends.row ?_; intro gb hlegb hbw backgb
        try (replace ha := ha.mono hlegb)
        have hrb1_gb := hrb1_ga.mono hlegb
        replace hf := hf.mono hlegb
        refine dp' 12 hok7 rfl (Pure.indexAddr rfl rfl und145 sz38 (by omega) (by omega)) ?_
        refine RunD.load1R (i := 13) hok7 rfl (by kernel_rfl) rfl hf (by rw [hk]; rfl) agg38 (Wt.yes rfl rfl rfl) rfl ?_
        refine RunD.one (i := 15) (by kernel_rfl) rfl ?_
        refine ca' rfl rfl (s := asks3_ctr hs) (q := ?_)
        rintro _ _ ⟨rfl, hA_⟩
        replace hA_ := hA_.symm; subst hA_
        refine RunL.nilD' ?_
        have hask : asksB e = (namedB 33 (bl e.room) && (eventB (bl e.event) && threadB (bl e.thread))) := by unfold asksB; rw [if_pos hk]
        refine dp' 16 hok7 rfl (Pure.not rfl) (dp' 17 hok7 rfl (Pure.pickF rfl rfl) ?_)
        refine RunD.nilB (by kernel_rfl) (fun w sw => backga _ _ (backgb _ _ (sw))) ?_
        refine Run.cond rfl (fun hx => ?_) (fun hx => ?_)
        · try simp only [Z] at hx
          refine sr' (as' rfl (nl' ?_))
          exact rt' Tryz.func50 (res1 rfl rfl) (by exact ⟨by rw [local_eq, hask, hx]; simp, rfl⟩)
        · try simp only [Z] at hx
          replace hask : asksB e = true := by rw [hask]; simpa using hx
          refine sk' (sr' (as' rfl (nl' (sq' ?_))))
          refine Run.regionD' (by kernel_rfl) (by kernel_rfl) (fun hok126 => ?_)
          refine RunD.loadNR (vs := (cEdu e)) (i := 0) hok126 rfl (by kernel_rfl) rfl (by assumption) agg23 sz23 (by first | exact Nat.le_of_ble_eq_true rfl | (simp; done) | (simp; omega)) rfl (Wt.none rfl) rfl ?_
          refine RunD.loadNR (vs := (cEdu e)) (i := 1) hok126 rfl (by kernel_rfl) rfl (by assumption) agg23 sz23 (by first | exact Nat.le_of_ble_eq_true rfl | (simp; done) | (simp; omega)) rfl (Wt.none rfl) rfl ?_
          refine RunD.one (i := 2) (by kernel_rfl) rfl ?_
          refine ca' rfl rfl (s := named_ctr) (q := ?_)
          rintro _ _ ⟨rfl, hA_⟩
          replace hA_ := hA_.symm; subst hA_
          refine RunL.nilD' ?_
          refine dp' 3 hok126 rfl (Pure.aeql rfl rfl eqg23 (eqv23 (e) (namedE e)) (by decide)) ?_
          refine dp' 4 hok126 rfl (Pure.move rfl) ?_
          refine RunD.split (d := 26) rfl (fun hn => ?_) (fun hn => ?_)
          · try simp only [Z] at hn
            refine dp' 5 hok126 rfl (Pure.fieldAddr rfl fo23_2) (dl' 6 hok126 rfl rfl agg9 ?_)
            refine RunD.one (i := 7) (by kernel_rfl) rfl ?_
            refine ca' rfl rfl (s := User_ctr (by first | assumption | omega | (unfold eduSmall at hs; omega))) (q := ?_)
            rintro _ _ ⟨rfl, hA_⟩
            replace hA_ := hA_.symm; subst hA_
            refine RunL.nilD' ?_
            refine dp' 8 hok126 rfl (Pure.pickT rfl rfl) (dp' 9 hok126 rfl (Pure.move rfl) ?_)
            refine RunD.split (d := 31) rfl (fun hu => ?_) (fun hu => ?_)
            · try simp only [Z] at hu
              refine dp' 10 hok126 rfl (Pure.move rfl) (dp' 11 hok126 rfl (Pure.fieldAddr rfl fo23_9) (dl' 12 hok126 rfl rfl agg3 ?_))
              refine RunD.one (i := 13) (by kernel_rfl) rfl ?_
              refine ca' rfl rfl (s := in_ctr (n := e.tick)) (q := ?_)
              rintro _ _ ⟨rfl, hA_⟩
              replace hA_ := hA_.symm; subst hA_
              refine RunL.nilD' ?_
              refine dp' 14 hok126 rfl (Pure.pickT rfl rfl) (dp' 15 hok126 rfl (Pure.move rfl) ?_)
              refine RunD.split (d := 37) rfl (fun ht => ?_) (fun ht => ?_)
              · try simp only [Z] at ht
                refine dp' 16 hok126 rfl (Pure.move rfl) (dp' 17 hok126 rfl (Pure.fieldAddr rfl fo23_10) (dl' 18 hok126 rfl rfl agg3 ?_))
                refine RunD.one (i := 19) (by kernel_rfl) rfl ?_
                refine ca' rfl rfl (s := in_ctr (n := e.stamp)) (q := ?_)
                rintro _ _ ⟨rfl, hA_⟩
                replace hA_ := hA_.symm; subst hA_
                refine RunL.nilD' ?_
                refine dp' 20 hok126 rfl (Pure.pickT rfl rfl) (dp' 21 hok126 rfl (Pure.assign rfl) ?_)
                refine RunD.nilR (by kernel_rfl) ?_
                exact rt' Tryz.func50 (res1 rfl rfl) (by exact ⟨by rw [local_eq, hask, decide_eq_true hn, hu, ht, decide_eq_true (show 0 ≤ e.kind from by omega), decide_eq_true (show e.kind ≤ 3 from by omega)]; rfl, rfl⟩)
              · try simp only [Z] at ht
                refine dn' 16 hok126 rfl (dn' 17 hok126 rfl (dn' 18 hok126 rfl (dn' 19 hok126 rfl (dp' 20 hok126 rfl (Pure.pickF rfl rfl) (dp' 21 hok126 rfl (Pure.assign rfl) ?_)))))
                refine RunD.nilR (by kernel_rfl) ?_
                exact rt' Tryz.func50 (res1 rfl rfl) (by exact ⟨by rw [local_eq, ht]; simp, rfl⟩)
            · try simp only [Z] at hu
              refine dn' 10 hok126 rfl (dn' 11 hok126 rfl (dn' 12 hok126 rfl (dn' 13 hok126 rfl (dp' 14 hok126 rfl (Pure.pickF rfl rfl) (dp' 15 hok126 rfl (Pure.move rfl) (dn' 16 hok126 rfl (dn' 17 hok126 rfl (dn' 18 hok126 rfl (dn' 19 hok126 rfl (dp' 20 hok126 rfl (Pure.pickF rfl rfl) (dp' 21 hok126 rfl (Pure.assign rfl) ?_)))))))))))
              refine RunD.nilR (by kernel_rfl) ?_
              exact rt' Tryz.func50 (res1 rfl rfl) (by exact ⟨by rw [local_eq, hu]; simp, rfl⟩)
          · try simp only [Z] at hn
            refine dn' 5 hok126 rfl (dn' 6 hok126 rfl (dn' 7 hok126 rfl (dp' 8 hok126 rfl (Pure.pickF rfl rfl) (dp' 9 hok126 rfl (Pure.move rfl) (dn' 10 hok126 rfl (dn' 11 hok126 rfl (dn' 12 hok126 rfl (dn' 13 hok126 rfl (dp' 14 hok126 rfl (Pure.pickF rfl rfl) (dp' 15 hok126 rfl (Pure.move rfl) (dn' 16 hok126 rfl (dn' 17 hok126 rfl (dn' 18 hok126 rfl (dn' 19 hok126 rfl (dp' 20 hok126 rfl (Pure.pickF rfl rfl) (dp' 21 hok126 rfl (Pure.assign rfl) ?_))))))))))))))))
            refine RunD.nilR (by kernel_rfl) ?_
            exact rt' Tryz.func50 (res1 rfl rfl) (by exact ⟨by rw [local_eq, decide_eq_false hn]; simp, rfl⟩)
      · skip
        refine ld' (Sl 38 1 (some ⟨bf, 0, none⟩) 4 4 _) (Lends.litRow (n := 4)) ?_; intro ga hlega ha backga
        have hrb1_ga := hrb1.mono hlega
        obtain ⟨postf, hf⟩ := ha
        refine ld' (row bw 177 _) Lends.row ?_; intro gb hlegb hbw backgb
        try (replace ha := ha.mono hlegb)
        have hrb1_gb := hrb1_ga.mono hlegb
        replace hf := hf.mono hlegb
        refine dp' 12 hok7 rfl (Pure.indexAddr rfl rfl und145 sz38 (by omega) (by omega)) ?_
        refine RunD.load1R (i := 13) hok7 rfl (by kernel_rfl) rfl hf (by rw [hk]; rfl) agg38 (Wt.yes rfl rfl rfl) rfl ?_
        refine RunD.one (i := 15) (by kernel_rfl) rfl ?_
        refine ca' rfl rfl (s := asks4_ctr (b := bw) hbw hs) (q := ?_)
        rintro _ _ ⟨rfl, hA_⟩
        replace hA_ := hA_.symm; subst hA_
        refine RunL.nilD' ?_
        have hask : asksB e = (namedB 33 (bl e.room) && (!e.typing || (decide (1 ≤ e.span) && decide (e.span ≤ 60)))) := by unfold asksB; rw [if_neg (by omega), if_pos hk]
        refine dp' 16 hok7 rfl (Pure.not rfl) (dp' 17 hok7 rfl (Pure.pickF rfl rfl) ?_)
        refine RunD.nilB (by kernel_rfl) (fun w sw => backga _ _ (backgb _ _ (sw))) ?_
        refine Run.cond rfl (fun hx => ?_) (fun hx => ?_)
        · try simp only [Z] at hx
          refine sr' (as' rfl (nl' ?_))
          exact rt' Tryz.func50 (res1 rfl rfl) (by exact ⟨by rw [local_eq, hask, hx]; simp, rfl⟩)
        · try simp only [Z] at hx
          replace hask : asksB e = true := by rw [hask]; simpa using hx
          refine sk' (sr' (as' rfl (nl' (sq' ?_))))
          refine Run.regionD' (by kernel_rfl) (by kernel_rfl) (fun hok249 => ?_)
          refine RunD.loadNR (vs := (cEdu e)) (i := 0) hok249 rfl (by kernel_rfl) rfl (by assumption) agg23 sz23 (by first | exact Nat.le_of_ble_eq_true rfl | (simp; done) | (simp; omega)) rfl (Wt.none rfl) rfl ?_
          refine RunD.loadNR (vs := (cEdu e)) (i := 1) hok249 rfl (by kernel_rfl) rfl (by assumption) agg23 sz23 (by first | exact Nat.le_of_ble_eq_true rfl | (simp; done) | (simp; omega)) rfl (Wt.none rfl) rfl ?_
          refine RunD.one (i := 2) (by kernel_rfl) rfl ?_
          refine ca' rfl rfl (s := named_ctr) (q := ?_)
          rintro _ _ ⟨rfl, hA_⟩
          replace hA_ := hA_.symm; subst hA_
          refine RunL.nilD' ?_
          refine dp' 3 hok249 rfl (Pure.aeql rfl rfl eqg23 (eqv23 (e) (namedE e)) (by decide)) ?_
          refine dp' 4 hok249 rfl (Pure.move rfl) ?_
          refine RunD.split (d := 26) rfl (fun hn => ?_) (fun hn => ?_)
          · try simp only [Z] at hn
            refine dp' 5 hok249 rfl (Pure.fieldAddr rfl fo23_2) (dl' 6 hok249 rfl rfl agg9 ?_)
            refine RunD.one (i := 7) (by kernel_rfl) rfl ?_
            refine ca' rfl rfl (s := User_ctr (by first | assumption | omega | (unfold eduSmall at hs; omega))) (q := ?_)
            rintro _ _ ⟨rfl, hA_⟩
            replace hA_ := hA_.symm; subst hA_
            refine RunL.nilD' ?_
            refine dp' 8 hok249 rfl (Pure.pickT rfl rfl) (dp' 9 hok249 rfl (Pure.move rfl) ?_)
            refine RunD.split (d := 31) rfl (fun hu => ?_) (fun hu => ?_)
            · try simp only [Z] at hu
              refine dp' 10 hok249 rfl (Pure.move rfl) (dp' 11 hok249 rfl (Pure.fieldAddr rfl fo23_9) (dl' 12 hok249 rfl rfl agg3 ?_))
              refine RunD.one (i := 13) (by kernel_rfl) rfl ?_
              refine ca' rfl rfl (s := in_ctr (n := e.tick)) (q := ?_)
              rintro _ _ ⟨rfl, hA_⟩
              replace hA_ := hA_.symm; subst hA_
              refine RunL.nilD' ?_
              refine dp' 14 hok249 rfl (Pure.pickT rfl rfl) (dp' 15 hok249 rfl (Pure.move rfl) ?_)
              refine RunD.split (d := 37) rfl (fun ht => ?_) (fun ht => ?_)
              · try simp only [Z] at ht
                refine dp' 16 hok249 rfl (Pure.move rfl) (dp' 17 hok249 rfl (Pure.fieldAddr rfl fo23_10) (dl' 18 hok249 rfl rfl agg3 ?_))
                refine RunD.one (i := 19) (by kernel_rfl) rfl ?_
                refine ca' rfl rfl (s := in_ctr (n := e.stamp)) (q := ?_)
                rintro _ _ ⟨rfl, hA_⟩
                replace hA_ := hA_.symm; subst hA_
                refine RunL.nilD' ?_
                refine dp' 20 hok249 rfl (Pure.pickT rfl rfl) (dp' 21 hok249 rfl (Pure.assign rfl) ?_)
                refine RunD.nilR (by kernel_rfl) ?_
                exact rt' Tryz.func50 (res1 rfl rfl) (by exact ⟨by rw [local_eq, hask, decide_eq_true hn, hu, ht, decide_eq_true (show 0 ≤ e.kind from by omega), decide_eq_true (show e.kind ≤ 3 from by omega)]; rfl, rfl⟩)
              · try simp only [Z] at ht
                refine dn' 16 hok249 rfl (dn' 17 hok249 rfl (dn' 18 hok249 rfl (dn' 19 hok249 rfl (dp' 20 hok249 rfl (Pure.pickF rfl rfl) (dp' 21 hok249 rfl (Pure.assign rfl) ?_)))))
                refine RunD.nilR (by kernel_rfl) ?_
                exact rt' Tryz.func50 (res1 rfl rfl) (by exact ⟨by rw [local_eq, ht]; simp, rfl⟩)
            · try simp only [Z] at hu
              refine dn' 10 hok249 rfl (dn' 11 hok249 rfl (dn' 12 hok249 rfl (dn' 13 hok249 rfl (dp' 14 hok249 rfl (Pure.pickF rfl rfl) (dp' 15 hok249 rfl (Pure.move rfl) (dn' 16 hok249 rfl (dn' 17 hok249 rfl (dn' 18 hok249 rfl (dn' 19 hok249 rfl (dp' 20 hok249 rfl (Pure.pickF rfl rfl) (dp' 21 hok249 rfl (Pure.assign rfl) ?_)))))))))))
              refine RunD.nilR (by kernel_rfl) ?_
              exact rt' Tryz.func50 (res1 rfl rfl) (by exact ⟨by rw [local_eq, hu]; simp, rfl⟩)
          · try simp only [Z] at hn
            refine dn' 5 hok249 rfl (dn' 6 hok249 rfl (dn' 7 hok249 rfl (dp' 8 hok249 rfl (Pure.pickF rfl rfl) (dp' 9 hok249 rfl (Pure.move rfl) (dn' 10 hok249 rfl (dn' 11 hok249 rfl (dn' 12 hok249 rfl (dn' 13 hok249 rfl (dp' 14 hok249 rfl (Pure.pickF rfl rfl) (dp' 15 hok249 rfl (Pure.move rfl) (dn' 16 hok249 rfl (dn' 17 hok249 rfl (dn' 18 hok249 rfl (dn' 19 hok249 rfl (dp' 20 hok249 rfl (Pure.pickF rfl rfl) (dp' 21 hok249 rfl (Pure.assign rfl) ?_))))))))))))))))
            refine RunD.nilR (by kernel_rfl) ?_
            exact rt' Tryz.func50 (res1 rfl rfl) (by exact ⟨by rw [local_eq, decide_eq_false hn]; simp, rfl⟩)
      · skip
        refine ld' (Sl 38 1 (some ⟨bf, 0, none⟩) 4 4 _) (Lends.litRow (n := 4)) ?_; intro ga hlega ha backga
        have hrb1_ga := hrb1.mono hlega
        obtain ⟨postf, hf⟩ := ha
        refine ld' (row bw 177 _) Lends.row ?_; intro gb hlegb hbw backgb
        try (replace ha := ha.mono hlegb)
        have hrb1_gb := hrb1_ga.mono hlegb
        replace hf := hf.mono hlegb
        refine dp' 12 hok7 rfl (Pure.indexAddr rfl rfl und145 sz38 (by omega) (by omega)) ?_
        refine RunD.load1R (i := 13) hok7 rfl (by kernel_rfl) rfl hf (by rw [hk]; rfl) agg38 (Wt.yes rfl rfl rfl) rfl ?_
        refine RunD.one (i := 15) (by kernel_rfl) rfl ?_
        refine ca' rfl rfl (s := asks5_ctr (b := bw) hbw) (q := ?_)
        rintro _ _ ⟨rfl, hA_⟩
        replace hA_ := hA_.symm; subst hA_
        refine RunL.nilD' ?_
        have hask : asksB e = (decide (0 ≤ e.state) && decide (e.state ≤ 2)) := by unfold asksB; rw [if_neg (by omega), if_neg (by omega), if_pos hk]
        refine dp' 16 hok7 rfl (Pure.not rfl) (dp' 17 hok7 rfl (Pure.pickF rfl rfl) ?_)
        refine RunD.nilB (by kernel_rfl) (fun w sw => backga _ _ (backgb _ _ (sw))) ?_
        refine Run.cond rfl (fun hx => ?_) (fun hx => ?_)
        · try simp only [Z] at hx
          refine sr' (as' rfl (nl' ?_))
          exact rt' Tryz.func50 (res1 rfl rfl) (by exact ⟨by rw [local_eq, hask, hx]; simp, rfl⟩)
        · try simp only [Z] at hx
          replace hask : asksB e = true := by rw [hask]; simpa using hx
          refine sk' (sr' (as' rfl (nl' (sq' ?_))))
          refine Run.regionD' (by kernel_rfl) (by kernel_rfl) (fun hok372 => ?_)
          refine RunD.loadNR (vs := (cEdu e)) (i := 0) hok372 rfl (by kernel_rfl) rfl (by assumption) agg23 sz23 (by first | exact Nat.le_of_ble_eq_true rfl | (simp; done) | (simp; omega)) rfl (Wt.none rfl) rfl ?_
          refine RunD.loadNR (vs := (cEdu e)) (i := 1) hok372 rfl (by kernel_rfl) rfl (by assumption) agg23 sz23 (by first | exact Nat.le_of_ble_eq_true rfl | (simp; done) | (simp; omega)) rfl (Wt.none rfl) rfl ?_
          refine RunD.one (i := 2) (by kernel_rfl) rfl ?_
          refine ca' rfl rfl (s := named_ctr) (q := ?_)
          rintro _ _ ⟨rfl, hA_⟩
          replace hA_ := hA_.symm; subst hA_
          refine RunL.nilD' ?_
          refine dp' 3 hok372 rfl (Pure.aeql rfl rfl eqg23 (eqv23 (e) (namedE e)) (by decide)) ?_
          refine dp' 4 hok372 rfl (Pure.move rfl) ?_
          refine RunD.split (d := 26) rfl (fun hn => ?_) (fun hn => ?_)
          · try simp only [Z] at hn
            refine dp' 5 hok372 rfl (Pure.fieldAddr rfl fo23_2) (dl' 6 hok372 rfl rfl agg9 ?_)
            refine RunD.one (i := 7) (by kernel_rfl) rfl ?_
            refine ca' rfl rfl (s := User_ctr (by first | assumption | omega | (unfold eduSmall at hs; omega))) (q := ?_)
            rintro _ _ ⟨rfl, hA_⟩
            replace hA_ := hA_.symm; subst hA_
            refine RunL.nilD' ?_
            refine dp' 8 hok372 rfl (Pure.pickT rfl rfl) (dp' 9 hok372 rfl (Pure.move rfl) ?_)
            refine RunD.split (d := 31) rfl (fun hu => ?_) (fun hu => ?_)
            · try simp only [Z] at hu
              refine dp' 10 hok372 rfl (Pure.move rfl) (dp' 11 hok372 rfl (Pure.fieldAddr rfl fo23_9) (dl' 12 hok372 rfl rfl agg3 ?_))
              refine RunD.one (i := 13) (by kernel_rfl) rfl ?_
              refine ca' rfl rfl (s := in_ctr (n := e.tick)) (q := ?_)
              rintro _ _ ⟨rfl, hA_⟩
              replace hA_ := hA_.symm; subst hA_
              refine RunL.nilD' ?_
              refine dp' 14 hok372 rfl (Pure.pickT rfl rfl) (dp' 15 hok372 rfl (Pure.move rfl) ?_)
              refine RunD.split (d := 37) rfl (fun ht => ?_) (fun ht => ?_)
              · try simp only [Z] at ht
                refine dp' 16 hok372 rfl (Pure.move rfl) (dp' 17 hok372 rfl (Pure.fieldAddr rfl fo23_10) (dl' 18 hok372 rfl rfl agg3 ?_))
                refine RunD.one (i := 19) (by kernel_rfl) rfl ?_
                refine ca' rfl rfl (s := in_ctr (n := e.stamp)) (q := ?_)
                rintro _ _ ⟨rfl, hA_⟩
                replace hA_ := hA_.symm; subst hA_
                refine RunL.nilD' ?_
                refine dp' 20 hok372 rfl (Pure.pickT rfl rfl) (dp' 21 hok372 rfl (Pure.assign rfl) ?_)
                refine RunD.nilR (by kernel_rfl) ?_
                exact rt' Tryz.func50 (res1 rfl rfl) (by exact ⟨by rw [local_eq, hask, decide_eq_true hn, hu, ht, decide_eq_true (show 0 ≤ e.kind from by omega), decide_eq_true (show e.kind ≤ 3 from by omega)]; rfl, rfl⟩)
              · try simp only [Z] at ht
                refine dn' 16 hok372 rfl (dn' 17 hok372 rfl (dn' 18 hok372 rfl (dn' 19 hok372 rfl (dp' 20 hok372 rfl (Pure.pickF rfl rfl) (dp' 21 hok372 rfl (Pure.assign rfl) ?_)))))
                refine RunD.nilR (by kernel_rfl) ?_
                exact rt' Tryz.func50 (res1 rfl rfl) (by exact ⟨by rw [local_eq, ht]; simp, rfl⟩)
            · try simp only [Z] at hu
              refine dn' 10 hok372 rfl (dn' 11 hok372 rfl (dn' 12 hok372 rfl (dn' 13 hok372 rfl (dp' 14 hok372 rfl (Pure.pickF rfl rfl) (dp' 15 hok372 rfl (Pure.move rfl) (dn' 16 hok372 rfl (dn' 17 hok372 rfl (dn' 18 hok372 rfl (dn' 19 hok372 rfl (dp' 20 hok372 rfl (Pure.pickF rfl rfl) (dp' 21 hok372 rfl (Pure.assign rfl) ?_)))))))))))
              refine RunD.nilR (by kernel_rfl) ?_
              exact rt' Tryz.func50 (res1 rfl rfl) (by exact ⟨by rw [local_eq, hu]; simp, rfl⟩)
          · try simp only [Z] at hn
            refine dn' 5 hok372 rfl (dn' 6 hok372 rfl (dn' 7 hok372 rfl (dp' 8 hok372 rfl (Pure.pickF rfl rfl) (dp' 9 hok372 rfl (Pure.move rfl) (dn' 10 hok372 rfl (dn' 11 hok372 rfl (dn' 12 hok372 rfl (dn' 13 hok372 rfl (dp' 14 hok372 rfl (Pure.pickF rfl rfl) (dp' 15 hok372 rfl (Pure.move rfl) (dn' 16 hok372 rfl (dn' 17 hok372 rfl (dn' 18 hok372 rfl (dn' 19 hok372 rfl (dp' 20 hok372 rfl (Pure.pickF rfl rfl) (dp' 21 hok372 rfl (Pure.assign rfl) ?_))))))))))))))))
            refine RunD.nilR (by kernel_rfl) ?_
            exact rt' Tryz.func50 (res1 rfl rfl) (by exact ⟨by rw [local_eq, decide_eq_false hn]; simp, rfl⟩)

set_option maxRecDepth 100000 in
theorem rLocal3_ctr {G : Gp} {e : Edu} (hs : eduSmall e) :
    Ctr Tryz.prog G 15 [.agg (cEdu e).toArray] [] (fun F v A => v = .bool (eduLocal e) ∧ A = F) := by
  refine Ctr.intro Tryz.func15 rfl (by kernel_rfl) rfl (fun F => ?_)
  simp only [List.nil_append]
  have hz0 : bl (⟨#[]⟩ : ByteArray) = [] := rfl
  obtain ⟨hs1, hs2, hs3, hs4⟩ := hs
  refine sr' ?_
  refine RunL.boxA (xs := (cEdu e)) rfl (Wt.none rfl) rfl ?_; intro b1
  refine as' rfl (nl' ?_)
  refine la' (row b1 23 _) Lends.row fun G1 hleG1 hrb1 => ?_
  refine sr' (pp' (Pure.fieldAddr rfl fo23_2) (l1' rfl agg9 ?_))
  refine ca' rfl rfl (s := rNamed_ctr (sg := 64) (by decide) (by first | assumption | omega | (unfold eduSmall at hs; omega))) (q := ?_)
  rintro _ _ ⟨rfl, hA_⟩
  replace hA_ := hA_.symm; subst hA_
  refine as' rfl (nl' (sr' (pp' (Pure.fieldAddr rfl fo23_1) (l1' rfl agg9 ?_))))
  refine ca' rfl rfl (s := rNamed_ctr (sg := 33) (by decide) (by first | assumption | omega | (unfold eduSmall at hs; omega))) (q := ?_)
  rintro _ _ ⟨rfl, hA_⟩
  replace hA_ := hA_.symm; subst hA_
  refine as' rfl (nl' (sr' (pp' (Pure.fieldAddr rfl fo23_3) (l1' rfl agg9 ?_))))
  refine ca' rfl rfl (s := rEvent_ctr (by first | assumption | omega | (unfold eduSmall at hs; omega))) (q := ?_)
  rintro _ _ ⟨rfl, hA_⟩
  replace hA_ := hA_.symm; subst hA_
  refine as' rfl (nl' (sr' (pp' (Pure.fieldAddr rfl fo23_4) (l1' rfl agg9 ?_))))
  refine ca' rfl rfl (s := rThread_ctr (by first | assumption | omega | (unfold eduSmall at hs; omega))) (q := ?_)
  rintro _ _ ⟨rfl, hA_⟩
  replace hA_ := hA_.symm; subst hA_
  refine as' rfl (nl' (sq' (sr' (mv' rfl (pp' (Pure.not rfl) (mv' rfl ?_))))))
  refine RunL.split (d := 22) rfl (fun p0 => ?_) (fun p0 => ?_)
  · try simp only [Z] at p0
    refine no' (no' (no' (pp' (Pure.pickT rfl rfl) (mv' rfl (no' (no' (no' (pp' (Pure.pickT rfl rfl) (mv' rfl (no' (no' (no' (pp' (Pure.pickT rfl rfl) (mv' rfl (no' (no' (no' (pp' (Pure.pickT rfl rfl) (nl' (cT' (sr' (as' rfl (nl' ?_)))))))))))))))))))))))
    exact rt' Tryz.func15 (res1 rfl rfl) (by exact ⟨by congr 1; (try simp [eduLocal, eduKind, inR, *]); (first | done | (intros; omega) | grind), rfl⟩)
  · try simp only [Z] at p0
    refine py' (Pure.fieldAddr rfl fo23_9) (l1' rfl agg3 ?_)
    refine py' (Pure.lss rfl rfl) (pp' (Pure.pickF rfl rfl) (mv' rfl ?_))
    refine RunL.split (d := 27) rfl (fun p1 => ?_) (fun p1 => ?_)
    · try simp only [Z] at p1
      refine no' (no' (no' (pp' (Pure.pickT rfl rfl) (mv' rfl (no' (no' (no' (pp' (Pure.pickT rfl rfl) (mv' rfl (no' (no' (no' (pp' (Pure.pickT rfl rfl) (nl' (cT' (sr' (as' rfl (nl' ?_))))))))))))))))))
      exact rt' Tryz.func15 (res1 rfl rfl) (by exact ⟨by congr 1; (try simp [eduLocal, eduKind, inR, *]); (first | done | (intros; omega) | grind), rfl⟩)
    · try simp only [Z] at p1
      refine py' (Pure.fieldAddr rfl fo23_9) (l1' rfl agg3 ?_)
      refine py' (Pure.gtr rfl rfl) (pp' (Pure.pickF rfl rfl) (mv' rfl ?_))
      refine RunL.split (d := 32) rfl (fun p2 => ?_) (fun p2 => ?_)
      · try simp only [Z] at p2
        refine no' (no' (no' (pp' (Pure.pickT rfl rfl) (mv' rfl (no' (no' (no' (pp' (Pure.pickT rfl rfl) (nl' (cT' (sr' (as' rfl (nl' ?_)))))))))))))
        exact rt' Tryz.func15 (res1 rfl rfl) (by exact ⟨by congr 1; (try simp [eduLocal, eduKind, inR, *]); (first | done | (intros; omega) | grind), rfl⟩)
      · try simp only [Z] at p2
        refine py' (Pure.fieldAddr rfl fo23_10) (l1' rfl agg3 ?_)
        refine py' (Pure.lss rfl rfl) (pp' (Pure.pickF rfl rfl) (mv' rfl ?_))
        refine RunL.split (d := 37) rfl (fun p3 => ?_) (fun p3 => ?_)
        · try simp only [Z] at p3
          refine no' (no' (no' (pp' (Pure.pickT rfl rfl) (nl' (cT' (sr' (as' rfl (nl' ?_))))))))
          exact rt' Tryz.func15 (res1 rfl rfl) (by exact ⟨by congr 1; (try simp [eduLocal, eduKind, inR, *]); (first | done | (intros; omega) | grind), rfl⟩)
        · try simp only [Z] at p3
          refine py' (Pure.fieldAddr rfl fo23_10) (l1' rfl agg3 ?_)
          refine py' (Pure.gtr rfl rfl) (pp' (Pure.pickF rfl rfl) (nl' ?_))
          refine Run.cond rfl (fun p4 => ?_) (fun p4 => ?_)
          · try simp only [Z] at p4
            refine sr' (as' rfl (nl' ?_))
            exact rt' Tryz.func15 (res1 rfl rfl) (by exact ⟨by congr 1; (try simp [eduLocal, eduKind, inR, *]); (first | done | (intros; omega) | grind), rfl⟩)
          · try simp only [Z] at p4
            refine sk' (sq' (sr' (pp' (Pure.fieldAddr rfl fo23_0) (l1' rfl agg3 ?_))))
            refine nl' (bl' (sr' (pp' (Pure.eql rfl rfl) (as' rfl (nl' ?_)))))
            refine Run.cond rfl (fun k1 => ?_) (fun k1 => ?_)
            · try simp only [Z] at k1
              refine sr' (mv' rfl (mv' rfl ?_))
              refine RunL.split (d := 47) rfl (fun q0 => ?_) (fun q0 => ?_)
              · try simp only [Z] at q0
                refine py' (Pure.move rfl) (pp' (Pure.pickT rfl rfl) (mv' rfl ?_))
                refine RunL.split (d := 50) rfl (fun q1 => ?_) (fun q1 => ?_)
                · try simp only [Z] at q1
                  refine py' (Pure.move rfl) (pp' (Pure.pickT rfl rfl) (mv' rfl ?_))
                  refine RunL.split (d := 53) rfl (fun q2 => ?_) (fun q2 => ?_)
                  · try simp only [Z] at q2
                    refine py' (Pure.fieldAddr rfl fo23_6) (l1' rfl agg4 ?_)
                    refine py' (Pure.not rfl) (pp' (Pure.pickT rfl rfl) (mv' rfl ?_))
                    refine RunL.split (d := 58) rfl (fun q3 => ?_) (fun q3 => ?_)
                    · try simp only [Z] at q3
                      refine py' (Pure.fieldAddr rfl fo23_7) (l1' rfl agg3 ?_)
                      refine py' (Pure.eql rfl rfl) (pp' (Pure.pickT rfl rfl) (mv' rfl ?_))
                      refine RunL.split (d := 63) rfl (fun q4 => ?_) (fun q4 => ?_)
                      · try simp only [Z] at q4
                        refine py' (Pure.fieldAddr rfl fo23_8) (l1' rfl agg3 ?_)
                        refine py' (Pure.eql rfl rfl) (pp' (Pure.pickT rfl rfl) (as' rfl (nl' ?_)))
                        exact rt' Tryz.func15 (res1 rfl rfl) (by exact ⟨by congr 1; (try simp [eduLocal, eduKind, inR, *]); (first | done | (intros; omega) | grind), rfl⟩)
                      · try simp only [Z] at q4
                        refine no' (no' (no' (pp' (Pure.pickF rfl rfl) (as' rfl (nl' ?_)))))
                        exact rt' Tryz.func15 (res1 rfl rfl) (by exact ⟨by congr 1; (try simp [eduLocal, eduKind, inR, *]); (first | done | (intros; omega) | grind), rfl⟩)
                    · try simp only [Z] at q3
                      refine no' (no' (no' (pp' (Pure.pickF rfl rfl) (mv' rfl (no' (no' (no' (pp' (Pure.pickF rfl rfl) (as' rfl (nl' ?_))))))))))
                      exact rt' Tryz.func15 (res1 rfl rfl) (by exact ⟨by congr 1; (try simp [eduLocal, eduKind, inR, *]); (first | done | (intros; omega) | grind), rfl⟩)
                  · try simp only [Z] at q2
                    refine no' (no' (no' (pp' (Pure.pickF rfl rfl) (mv' rfl (no' (no' (no' (pp' (Pure.pickF rfl rfl) (mv' rfl (no' (no' (no' (pp' (Pure.pickF rfl rfl) (as' rfl (nl' ?_)))))))))))))))
                    exact rt' Tryz.func15 (res1 rfl rfl) (by exact ⟨by congr 1; (try simp [eduLocal, eduKind, inR, *]); (first | done | (intros; omega) | grind), rfl⟩)
                · try simp only [Z] at q1
                  refine no' (pp' (Pure.pickF rfl rfl) (mv' rfl (no' (no' (no' (pp' (Pure.pickF rfl rfl) (mv' rfl (no' (no' (no' (pp' (Pure.pickF rfl rfl) (mv' rfl (no' (no' (no' (pp' (Pure.pickF rfl rfl) (as' rfl (nl' ?_))))))))))))))))))
                  exact rt' Tryz.func15 (res1 rfl rfl) (by exact ⟨by congr 1; (try simp [eduLocal, eduKind, inR, *]); (first | done | (intros; omega) | grind), rfl⟩)
              · try simp only [Z] at q0
                refine no' (pp' (Pure.pickF rfl rfl) (mv' rfl (no' (pp' (Pure.pickF rfl rfl) (mv' rfl (no' (no' (no' (pp' (Pure.pickF rfl rfl) (mv' rfl (no' (no' (no' (pp' (Pure.pickF rfl rfl) (mv' rfl (no' (no' (no' (pp' (Pure.pickF rfl rfl) (as' rfl (nl' ?_)))))))))))))))))))))
                exact rt' Tryz.func15 (res1 rfl rfl) (by exact ⟨by congr 1; (try simp [eduLocal, eduKind, inR, *]); (first | done | (intros; omega) | grind), rfl⟩)
            · try simp only [Z] at k1
              refine sr' (pp' (Pure.eql rfl rfl) (as' rfl (nl' ?_)))
              refine Run.cond rfl (fun k2 => ?_) (fun k2 => ?_)
              · try simp only [Z] at k2
                refine sr' (pp' (Pure.fieldAddr rfl fo23_6) (l1' rfl agg4 ?_))
                refine mv' rfl ?_
                refine RunL.split (d := 72) rfl (fun s1 => ?_) (fun s1 => ?_)
                · try simp only [Z] at s1
                  refine py' (Pure.fieldAddr rfl fo23_7) (l1' rfl agg3 ?_)
                  refine py' (Pure.geq rfl rfl) (pp' (Pure.pickT rfl rfl) (mv' rfl ?_))
                  refine RunL.split (d := 77) rfl (fun s2 => ?_) (fun s2 => ?_)
                  · try simp only [Z] at s2
                    refine py' (Pure.fieldAddr rfl fo23_7) (l1' rfl agg3 ?_)
                    refine py' (Pure.leq rfl rfl) (pp' (Pure.pickT rfl rfl) (mv' rfl ?_))
                    refine RunL.split (d := 82) rfl (fun s3 => ?_) (fun s3 => ?_)
                    · try simp only [Z] at s3
                      refine no' (no' (no' (no' (un' (un' (un' (no' (pp' (Pure.pickT rfl rfl) (as' rfl (nl' (sr' (mv' rfl (mv' rfl ?_)))))))))))))
                      refine RunL.split (d := 93) rfl (fun q7 => ?_) (fun q7 => ?_)
                      · try simp only [Z] at q7
                        refine py' (Pure.move rfl) (pp' (Pure.pickT rfl rfl) (mv' rfl (py' (Pure.fieldAddr rfl fo23_3) (l1' rfl agg9 ?_))))
                        refine py' (Pure.seql rfl rfl) (pp' (Pure.pickT rfl rfl) (mv' rfl ?_))
                        refine RunL.split (d := 101) rfl (fun q10 => ?_) (fun q10 => ?_)
                        · try simp only [Z] at q10
                          refine py' (Pure.fieldAddr rfl fo23_4) (l1' rfl agg9 ?_)
                          refine py' (Pure.seql rfl rfl) (pp' (Pure.pickT rfl rfl) (mv' rfl ?_))
                          refine RunL.split (d := 106) rfl (fun q11 => ?_) (fun q11 => ?_)
                          · try simp only [Z] at q11
                            refine py' (Pure.fieldAddr rfl fo23_8) (l1' rfl agg3 ?_)
                            refine py' (Pure.eql rfl rfl) (pp' (Pure.pickT rfl rfl) (mv' rfl ?_))
                            refine RunL.split (d := 111) rfl (fun q12 => ?_) (fun q12 => ?_)
                            · try simp only [Z] at q12
                              refine py' (Pure.fieldAddr rfl fo23_5) (l1' rfl agg4 ?_)
                              refine py' (Pure.not rfl) (pp' (Pure.pickT rfl rfl) (as' rfl (nl' ?_)))
                              exact rt' Tryz.func15 (res1 rfl rfl) (by exact ⟨by congr 1; (try simp [eduLocal, eduKind, inR, *]); (first | done | (intros; omega) | grind), rfl⟩)
                            · try simp only [Z] at q12
                              refine no' (no' (no' (pp' (Pure.pickF rfl rfl) (as' rfl (nl' ?_)))))
                              exact rt' Tryz.func15 (res1 rfl rfl) (by exact ⟨by congr 1; (try simp [eduLocal, eduKind, inR, *]); (first | done | (intros; omega) | grind), rfl⟩)
                          · try simp only [Z] at q11
                            refine no' (no' (no' (pp' (Pure.pickF rfl rfl) (mv' rfl (no' (no' (no' (pp' (Pure.pickF rfl rfl) (as' rfl (nl' ?_))))))))))
                            exact rt' Tryz.func15 (res1 rfl rfl) (by exact ⟨by congr 1; (try simp [eduLocal, eduKind, inR, *]); (first | done | (intros; omega) | grind), rfl⟩)
                        · try simp only [Z] at q10
                          refine no' (no' (no' (pp' (Pure.pickF rfl rfl) (mv' rfl (no' (no' (no' (pp' (Pure.pickF rfl rfl) (mv' rfl (no' (no' (no' (pp' (Pure.pickF rfl rfl) (as' rfl (nl' ?_)))))))))))))))
                          exact rt' Tryz.func15 (res1 rfl rfl) (by exact ⟨by congr 1; (try simp [eduLocal, eduKind, inR, *]); (first | done | (intros; omega) | grind), rfl⟩)
                      · try simp only [Z] at q7
                        refine no' (pp' (Pure.pickF rfl rfl) (mv' rfl (no' (no' (no' (pp' (Pure.pickF rfl rfl) (mv' rfl (no' (no' (no' (pp' (Pure.pickF rfl rfl) (mv' rfl (no' (no' (no' (pp' (Pure.pickF rfl rfl) (mv' rfl (no' (no' (no' (pp' (Pure.pickF rfl rfl) (as' rfl (nl' ?_)))))))))))))))))))))))
                        exact rt' Tryz.func15 (res1 rfl rfl) (by exact ⟨by congr 1; (try simp [eduLocal, eduKind, inR, *]); (first | done | (intros; omega) | grind), rfl⟩)
                    · try simp only [Z] at s3
                      refine py' (Pure.fieldAddr rfl fo23_6) (l1' rfl agg4 ?_)
                      refine py' (Pure.not rfl) (py' (Pure.move rfl) ?_)
                      refine RunL.split (d := 86) rfl (fun hg1 => ?_) (fun hg1 => ?_)
                      · try simp only [Z] at hg1
                        exfalso
                        simp_all
                      try simp only [Z] at hg1
                      refine no' (no' (no' (py' (Pure.pickF rfl rfl) (pp' (Pure.pickF rfl rfl) (as' rfl (nl' (sr' (mv' rfl (mv' rfl ?_)))))))))
                      refine RunL.split (d := 93) rfl (fun q7 => ?_) (fun q7 => ?_)
                      · try simp only [Z] at q7
                        refine py' (Pure.move rfl) (pp' (Pure.pickT rfl rfl) (mv' rfl (no' (no' (no' (pp' (Pure.pickF rfl rfl) (mv' rfl (no' (no' (no' (pp' (Pure.pickF rfl rfl) (mv' rfl (no' (no' (no' (pp' (Pure.pickF rfl rfl) (mv' rfl (no' (no' (no' (pp' (Pure.pickF rfl rfl) (as' rfl (nl' ?_)))))))))))))))))))))))
                        exact rt' Tryz.func15 (res1 rfl rfl) (by exact ⟨by congr 1; (try simp [eduLocal, eduKind, inR, *]); (first | done | (intros; omega) | grind), rfl⟩)
                      · try simp only [Z] at q7
                        refine no' (pp' (Pure.pickF rfl rfl) (mv' rfl (no' (no' (no' (pp' (Pure.pickF rfl rfl) (mv' rfl (no' (no' (no' (pp' (Pure.pickF rfl rfl) (mv' rfl (no' (no' (no' (pp' (Pure.pickF rfl rfl) (mv' rfl (no' (no' (no' (pp' (Pure.pickF rfl rfl) (as' rfl (nl' ?_)))))))))))))))))))))))
                        exact rt' Tryz.func15 (res1 rfl rfl) (by exact ⟨by congr 1; (try simp [eduLocal, eduKind, inR, *]); (first | done | (intros; omega) | grind), rfl⟩)
                  · try simp only [Z] at s2
                    refine no' (no' (no' (pp' (Pure.pickF rfl rfl) (mv' rfl (py' (Pure.fieldAddr rfl fo23_6) (l1' rfl agg4 ?_))))))
                    refine py' (Pure.not rfl) (py' (Pure.move rfl) ?_)
                    refine RunL.split (d := 86) rfl (fun hg2 => ?_) (fun hg2 => ?_)
                    · try simp only [Z] at hg2
                      exfalso
                      simp_all
                    try simp only [Z] at hg2
                    refine no' (no' (no' (py' (Pure.pickF rfl rfl) (pp' (Pure.pickF rfl rfl) (as' rfl (nl' (sr' (mv' rfl (mv' rfl ?_)))))))))
                    refine RunL.split (d := 93) rfl (fun q7 => ?_) (fun q7 => ?_)
                    · try simp only [Z] at q7
                      refine py' (Pure.move rfl) (pp' (Pure.pickT rfl rfl) (mv' rfl (no' (no' (no' (pp' (Pure.pickF rfl rfl) (mv' rfl (no' (no' (no' (pp' (Pure.pickF rfl rfl) (mv' rfl (no' (no' (no' (pp' (Pure.pickF rfl rfl) (mv' rfl (no' (no' (no' (pp' (Pure.pickF rfl rfl) (as' rfl (nl' ?_)))))))))))))))))))))))
                      exact rt' Tryz.func15 (res1 rfl rfl) (by exact ⟨by congr 1; (try simp [eduLocal, eduKind, inR, *]); (first | done | (intros; omega) | grind), rfl⟩)
                    · try simp only [Z] at q7
                      refine no' (pp' (Pure.pickF rfl rfl) (mv' rfl (no' (no' (no' (pp' (Pure.pickF rfl rfl) (mv' rfl (no' (no' (no' (pp' (Pure.pickF rfl rfl) (mv' rfl (no' (no' (no' (pp' (Pure.pickF rfl rfl) (mv' rfl (no' (no' (no' (pp' (Pure.pickF rfl rfl) (as' rfl (nl' ?_)))))))))))))))))))))))
                      exact rt' Tryz.func15 (res1 rfl rfl) (by exact ⟨by congr 1; (try simp [eduLocal, eduKind, inR, *]); (first | done | (intros; omega) | grind), rfl⟩)
                · try simp only [Z] at s1
                  refine no' (no' (no' (pp' (Pure.pickF rfl rfl) (mv' rfl (no' (no' (no' (pp' (Pure.pickF rfl rfl) (mv' rfl (py' (Pure.fieldAddr rfl fo23_6) (l1' rfl agg4 ?_)))))))))))
                  refine py' (Pure.not rfl) (py' (Pure.move rfl) ?_)
                  refine RunL.split (d := 86) rfl (fun hg3 => ?_) (fun hg3 => ?_)
                  rotate_left
                  · try simp only [Z] at hg3
                    exfalso
                    simp_all
                  try simp only [Z] at hg3
                  refine py' (Pure.fieldAddr rfl fo23_7) (l1' rfl agg3 ?_)
                  refine py' (Pure.eql rfl rfl) (py' (Pure.pickT rfl rfl) (pp' (Pure.pickF rfl rfl) (as' rfl (nl' (sr' (mv' rfl (mv' rfl ?_)))))))
                  refine RunL.split (d := 93) rfl (fun q7 => ?_) (fun q7 => ?_)
                  · try simp only [Z] at q7
                    refine py' (Pure.move rfl) (pp' (Pure.pickT rfl rfl) (mv' rfl ?_))
                    refine RunL.split (d := 96) rfl (fun q8 => ?_) (fun q8 => ?_)
                    · try simp only [Z] at q8
                      refine py' (Pure.fieldAddr rfl fo23_3) (l1' rfl agg9 ?_)
                      refine py' (Pure.seql rfl rfl) (pp' (Pure.pickT rfl rfl) (mv' rfl ?_))
                      refine RunL.split (d := 101) rfl (fun q10 => ?_) (fun q10 => ?_)
                      · try simp only [Z] at q10
                        refine py' (Pure.fieldAddr rfl fo23_4) (l1' rfl agg9 ?_)
                        refine py' (Pure.seql rfl rfl) (pp' (Pure.pickT rfl rfl) (mv' rfl ?_))
                        refine RunL.split (d := 106) rfl (fun q11 => ?_) (fun q11 => ?_)
                        · try simp only [Z] at q11
                          refine py' (Pure.fieldAddr rfl fo23_8) (l1' rfl agg3 ?_)
                          refine py' (Pure.eql rfl rfl) (pp' (Pure.pickT rfl rfl) (mv' rfl ?_))
                          refine RunL.split (d := 111) rfl (fun q12 => ?_) (fun q12 => ?_)
                          · try simp only [Z] at q12
                            refine py' (Pure.fieldAddr rfl fo23_5) (l1' rfl agg4 ?_)
                            refine py' (Pure.not rfl) (pp' (Pure.pickT rfl rfl) (as' rfl (nl' ?_)))
                            exact rt' Tryz.func15 (res1 rfl rfl) (by exact ⟨by congr 1; (try simp [eduLocal, eduKind, inR, *]); (first | done | (intros; omega) | grind), rfl⟩)
                          · try simp only [Z] at q12
                            refine no' (no' (no' (pp' (Pure.pickF rfl rfl) (as' rfl (nl' ?_)))))
                            exact rt' Tryz.func15 (res1 rfl rfl) (by exact ⟨by congr 1; (try simp [eduLocal, eduKind, inR, *]); (first | done | (intros; omega) | grind), rfl⟩)
                        · try simp only [Z] at q11
                          refine no' (no' (no' (pp' (Pure.pickF rfl rfl) (mv' rfl (no' (no' (no' (pp' (Pure.pickF rfl rfl) (as' rfl (nl' ?_))))))))))
                          exact rt' Tryz.func15 (res1 rfl rfl) (by exact ⟨by congr 1; (try simp [eduLocal, eduKind, inR, *]); (first | done | (intros; omega) | grind), rfl⟩)
                      · try simp only [Z] at q10
                        refine no' (no' (no' (pp' (Pure.pickF rfl rfl) (mv' rfl (no' (no' (no' (pp' (Pure.pickF rfl rfl) (mv' rfl (no' (no' (no' (pp' (Pure.pickF rfl rfl) (as' rfl (nl' ?_)))))))))))))))
                        exact rt' Tryz.func15 (res1 rfl rfl) (by exact ⟨by congr 1; (try simp [eduLocal, eduKind, inR, *]); (first | done | (intros; omega) | grind), rfl⟩)
                    · try simp only [Z] at q8
                      refine no' (no' (no' (pp' (Pure.pickF rfl rfl) (mv' rfl (no' (no' (no' (pp' (Pure.pickF rfl rfl) (mv' rfl (no' (no' (no' (pp' (Pure.pickF rfl rfl) (mv' rfl (no' (no' (no' (pp' (Pure.pickF rfl rfl) (as' rfl (nl' ?_))))))))))))))))))))
                      exact rt' Tryz.func15 (res1 rfl rfl) (by exact ⟨by congr 1; (try simp [eduLocal, eduKind, inR, *]); (first | done | (intros; omega) | grind), rfl⟩)
                  · try simp only [Z] at q7
                    refine no' (pp' (Pure.pickF rfl rfl) (mv' rfl (no' (no' (no' (pp' (Pure.pickF rfl rfl) (mv' rfl (no' (no' (no' (pp' (Pure.pickF rfl rfl) (mv' rfl (no' (no' (no' (pp' (Pure.pickF rfl rfl) (mv' rfl (no' (no' (no' (pp' (Pure.pickF rfl rfl) (as' rfl (nl' ?_)))))))))))))))))))))))
                    exact rt' Tryz.func15 (res1 rfl rfl) (by exact ⟨by congr 1; (try simp [eduLocal, eduKind, inR, *]); (first | done | (intros; omega) | grind), rfl⟩)
              · try simp only [Z] at k2
                refine sr' (pp' (Pure.eql rfl rfl) (as' rfl (nl' ?_)))
                refine Run.cond rfl (fun k3 => ?_) (fun k3 => ?_)
                · try simp only [Z] at k3
                  refine sr' (pp' (Pure.fieldAddr rfl fo23_1) (l1' rfl agg9 ?_))
                  refine pp' (Pure.seql rfl rfl) (mv' rfl ?_)
                  refine RunL.split (d := 121) rfl (fun q0 => ?_) (fun q0 => ?_)
                  · try simp only [Z] at q0
                    refine py' (Pure.fieldAddr rfl fo23_3) (l1' rfl agg9 ?_)
                    refine py' (Pure.seql rfl rfl) (pp' (Pure.pickT rfl rfl) (mv' rfl ?_))
                    refine RunL.split (d := 126) rfl (fun q1 => ?_) (fun q1 => ?_)
                    · try simp only [Z] at q1
                      refine py' (Pure.fieldAddr rfl fo23_4) (l1' rfl agg9 ?_)
                      refine py' (Pure.seql rfl rfl) (pp' (Pure.pickT rfl rfl) (mv' rfl ?_))
                      refine RunL.split (d := 131) rfl (fun q2 => ?_) (fun q2 => ?_)
                      · try simp only [Z] at q2
                        refine py' (Pure.fieldAddr rfl fo23_6) (l1' rfl agg4 ?_)
                        refine py' (Pure.not rfl) (pp' (Pure.pickT rfl rfl) (mv' rfl ?_))
                        refine RunL.split (d := 136) rfl (fun q3 => ?_) (fun q3 => ?_)
                        · try simp only [Z] at q3
                          refine py' (Pure.fieldAddr rfl fo23_7) (l1' rfl agg3 ?_)
                          refine py' (Pure.eql rfl rfl) (pp' (Pure.pickT rfl rfl) (mv' rfl ?_))
                          refine RunL.split (d := 141) rfl (fun q4 => ?_) (fun q4 => ?_)
                          · try simp only [Z] at q4
                            refine py' (Pure.fieldAddr rfl fo23_5) (l1' rfl agg4 ?_)
                            refine py' (Pure.not rfl) (pp' (Pure.pickT rfl rfl) (mv' rfl ?_))
                            refine RunL.split (d := 146) rfl (fun q5 => ?_) (fun q5 => ?_)
                            · try simp only [Z] at q5
                              refine py' (Pure.fieldAddr rfl fo23_8) (l1' rfl agg3 ?_)
                              refine py' (Pure.geq rfl rfl) (pp' (Pure.pickT rfl rfl) (mv' rfl ?_))
                              refine RunL.split (d := 151) rfl (fun q6 => ?_) (fun q6 => ?_)
                              · try simp only [Z] at q6
                                refine py' (Pure.fieldAddr rfl fo23_8) (l1' rfl agg3 ?_)
                                refine py' (Pure.leq rfl rfl) (pp' (Pure.pickT rfl rfl) (as' rfl (nl' ?_)))
                                exact rt' Tryz.func15 (res1 rfl rfl) (by exact ⟨by congr 1; (try simp [eduLocal, eduKind, inR, *]); (first | done | (intros; omega) | grind), rfl⟩)
                              · try simp only [Z] at q6
                                refine no' (no' (no' (pp' (Pure.pickF rfl rfl) (as' rfl (nl' ?_)))))
                                exact rt' Tryz.func15 (res1 rfl rfl) (by exact ⟨by congr 1; (try simp [eduLocal, eduKind, inR, *]); (first | done | (intros; omega) | grind), rfl⟩)
                            · try simp only [Z] at q5
                              refine no' (no' (no' (pp' (Pure.pickF rfl rfl) (mv' rfl (no' (no' (no' (pp' (Pure.pickF rfl rfl) (as' rfl (nl' ?_))))))))))
                              exact rt' Tryz.func15 (res1 rfl rfl) (by exact ⟨by congr 1; (try simp [eduLocal, eduKind, inR, *]); (first | done | (intros; omega) | grind), rfl⟩)
                          · try simp only [Z] at q4
                            refine no' (no' (no' (pp' (Pure.pickF rfl rfl) (mv' rfl (no' (no' (no' (pp' (Pure.pickF rfl rfl) (mv' rfl (no' (no' (no' (pp' (Pure.pickF rfl rfl) (as' rfl (nl' ?_)))))))))))))))
                            exact rt' Tryz.func15 (res1 rfl rfl) (by exact ⟨by congr 1; (try simp [eduLocal, eduKind, inR, *]); (first | done | (intros; omega) | grind), rfl⟩)
                        · try simp only [Z] at q3
                          refine no' (no' (no' (pp' (Pure.pickF rfl rfl) (mv' rfl (no' (no' (no' (pp' (Pure.pickF rfl rfl) (mv' rfl (no' (no' (no' (pp' (Pure.pickF rfl rfl) (mv' rfl (no' (no' (no' (pp' (Pure.pickF rfl rfl) (as' rfl (nl' ?_))))))))))))))))))))
                          exact rt' Tryz.func15 (res1 rfl rfl) (by exact ⟨by congr 1; (try simp [eduLocal, eduKind, inR, *]); (first | done | (intros; omega) | grind), rfl⟩)
                      · try simp only [Z] at q2
                        refine no' (no' (no' (pp' (Pure.pickF rfl rfl) (mv' rfl (no' (no' (no' (pp' (Pure.pickF rfl rfl) (mv' rfl (no' (no' (no' (pp' (Pure.pickF rfl rfl) (mv' rfl (no' (no' (no' (pp' (Pure.pickF rfl rfl) (mv' rfl (no' (no' (no' (pp' (Pure.pickF rfl rfl) (as' rfl (nl' ?_)))))))))))))))))))))))))
                        exact rt' Tryz.func15 (res1 rfl rfl) (by exact ⟨by congr 1; (try simp [eduLocal, eduKind, inR, *]); (first | done | (intros; omega) | grind), rfl⟩)
                    · try simp only [Z] at q1
                      refine no' (no' (no' (pp' (Pure.pickF rfl rfl) (mv' rfl (no' (no' (no' (pp' (Pure.pickF rfl rfl) (mv' rfl (no' (no' (no' (pp' (Pure.pickF rfl rfl) (mv' rfl (no' (no' (no' (pp' (Pure.pickF rfl rfl) (mv' rfl (no' (no' (no' (pp' (Pure.pickF rfl rfl) (mv' rfl (no' (no' (no' (pp' (Pure.pickF rfl rfl) (as' rfl (nl' ?_))))))))))))))))))))))))))))))
                      exact rt' Tryz.func15 (res1 rfl rfl) (by exact ⟨by congr 1; (try simp [eduLocal, eduKind, inR, *]); (first | done | (intros; omega) | grind), rfl⟩)
                  · try simp only [Z] at q0
                    refine no' (no' (no' (pp' (Pure.pickF rfl rfl) (mv' rfl (no' (no' (no' (pp' (Pure.pickF rfl rfl) (mv' rfl (no' (no' (no' (pp' (Pure.pickF rfl rfl) (mv' rfl (no' (no' (no' (pp' (Pure.pickF rfl rfl) (mv' rfl (no' (no' (no' (pp' (Pure.pickF rfl rfl) (mv' rfl (no' (no' (no' (pp' (Pure.pickF rfl rfl) (mv' rfl (no' (no' (no' (pp' (Pure.pickF rfl rfl) (as' rfl (nl' ?_)))))))))))))))))))))))))))))))))))
                    exact rt' Tryz.func15 (res1 rfl rfl) (by exact ⟨by congr 1; (try simp [eduLocal, eduKind, inR, *]); (first | done | (intros; omega) | grind), rfl⟩)
                · try simp only [Z] at k3
                  refine sk' (ib' (sr' (as' rfl (nl' ?_))))
                  exact rt' Tryz.func15 (res1 rfl rfl) (by exact ⟨by congr 1; (try simp [eduLocal, eduKind, inR, *]); (first | done | (intros; omega) | grind), rfl⟩)

end Go.Proofs.YtaaondbmkibkkaaGreat
