/- The small world. -/
import Derived.Test.YtcmkafellcfbeaaGreatO1
import Derived.Test.YtcmkafellcfbeaaGreatProg
set_option linter.unusedVariables false
set_option linter.unusedSimpArgs false
set_option linter.unusedSectionVars false
namespace Go.Proofs.YtcmkafellcfbeaaGreat
open Go Csl
theorem und33 : Tryz.prog.underlying 33 = some (Go.TypeDesc.struct #[{ name := "ID", type := 9, offset := 0, embedded := false, tag := "", pkgPath := "", byteOffset := 0 }, { name := "Room", type := 9, offset := 1, embedded := false, tag := "", pkgPath := "", byteOffset := 16 }, { name := "Parents", type := 31, offset := 2, embedded := false, tag := "", pkgPath := "", byteOffset := 32 }, { name := "Thread", type := 9, offset := 3, embedded := false, tag := "", pkgPath := "", byteOffset := 56 }, { name := "User", type := 9, offset := 4, embedded := false, tag := "", pkgPath := "", byteOffset := 72 }, { name := "Does", type := 3, offset := 5, embedded := false, tag := "", pkgPath := "", byteOffset := 88 }]) := Tryz.underlying33
theorem sz33 : sizeIs Tryz.prog 33 = some 6 := by kernel_rfl
theorem agg33 : isAggOf Tryz.prog 33 = some true := by kernel_rfl
theorem cz9 : Tryz.prog.cellsOf 9 = 1 := by kernel_rfl
theorem und9 : Tryz.prog.underlying 9 = some Go.TypeDesc.string := Tryz.underlying9
theorem cz31 : Tryz.prog.cellsOf 31 = 1 := by kernel_rfl
theorem und31 : Tryz.prog.underlying 31 = some (Go.TypeDesc.slice 9) := Tryz.underlying31
theorem cz3 : Tryz.prog.cellsOf 3 = 1 := by kernel_rfl
theorem und3 : Tryz.prog.underlying 3 = some (Go.TypeDesc.int Go.IntKind.i64) := Tryz.underlying3
theorem cz33 : Tryz.prog.cellsOf 33 = 6 := by kernel_rfl
theorem und54 : Tryz.prog.underlying 54 = some (Go.TypeDesc.struct #[{ name := "Depth", type := 3, offset := 0, embedded := false, tag := "", pkgPath := "", byteOffset := 0 }, { name := "ID", type := 9, offset := 1, embedded := false, tag := "", pkgPath := "", byteOffset := 8 }]) := Tryz.underlying54
theorem sz54 : sizeIs Tryz.prog 54 = some 2 := by kernel_rfl
theorem agg54 : isAggOf Tryz.prog 54 = some true := by kernel_rfl
theorem agg3 : isAggOf Tryz.prog 3 = some false := by kernel_rfl
theorem agg9 : isAggOf Tryz.prog 9 = some false := by kernel_rfl
theorem cz54 : Tryz.prog.cellsOf 54 = 2 := by kernel_rfl
theorem und26 : Tryz.prog.underlying 26 = some (Go.TypeDesc.struct #[{ name := "Room", type := 9, offset := 0, embedded := false, tag := "", pkgPath := "", byteOffset := 0 }, { name := "L", type := 24, offset := 1, embedded := false, tag := "", pkgPath := "", byteOffset := 16 }]) := Tryz.underlying26
theorem sz26 : sizeIs Tryz.prog 26 = some 2 := by kernel_rfl
theorem agg26 : isAggOf Tryz.prog 26 = some true := by kernel_rfl
theorem cz24 : Tryz.prog.cellsOf 24 = 1 := by kernel_rfl
theorem und24 : Tryz.prog.underlying 24 = some (Go.TypeDesc.slice 33) := Tryz.underlying24
theorem cz26 : Tryz.prog.cellsOf 26 = 2 := by kernel_rfl
theorem und79 : Tryz.prog.underlying 79 = some (Go.TypeDesc.struct #[{ name := "User", type := 3, offset := 0, embedded := false, tag := "", pkgPath := "", byteOffset := 0 }, { name := "Does", type := 3, offset := 1, embedded := false, tag := "", pkgPath := "", byteOffset := 8 }, { name := "Parents", type := 77, offset := 2, embedded := false, tag := "", pkgPath := "", byteOffset := 16 }, { name := "Thread", type := 3, offset := 3, embedded := false, tag := "", pkgPath := "", byteOffset := 40 }]) := Tryz.underlying79
theorem sz79 : sizeIs Tryz.prog 79 = some 4 := by kernel_rfl
theorem agg79 : isAggOf Tryz.prog 79 = some true := by kernel_rfl
theorem cz77 : Tryz.prog.cellsOf 77 = 1 := by kernel_rfl
theorem und77 : Tryz.prog.underlying 77 = some (Go.TypeDesc.slice 3) := Tryz.underlying77
theorem cz79 : Tryz.prog.cellsOf 79 = 4 := by kernel_rfl
theorem sz9 : sizeIs Tryz.prog 9 = some 1 := by kernel_rfl
theorem zz9 : zeroIs Tryz.prog 9 = some (.string .empty) := by kernel_rfl
theorem und5 : Tryz.prog.underlying 5 = some (Go.TypeDesc.int Go.IntKind.u8) := Tryz.underlying5
theorem und100 : Tryz.prog.underlying 100 = some (Go.TypeDesc.slice 5) := Tryz.underlying100
theorem sz5 : sizeIs Tryz.prog 5 = some 1 := by kernel_rfl
theorem zz5 : zeroIs Tryz.prog 5 = some (.int .u8 0) := by kernel_rfl
theorem sz3 : sizeIs Tryz.prog 3 = some 1 := by kernel_rfl

namespace Csl
/-- A number from 0 on, below 'm'. -/
def around (z m : Int) : Int := (if z < 0 then -(z + 1) else z) % m
theorem around_lt {z m : Int} (h : 0 < m) : 0 ≤ around z m ∧ around z m < m := ⟨Int.emod_nonneg _ (by omega), Int.emod_lt_of_pos _ h⟩
theorem around_id {z m : Int} (h0 : 0 ≤ z) (h : z < m) : around z m = z := by unfold around; rw [if_neg (by omega)]; exact Int.emod_eq_of_lt h0 h
/-- The first so many bytes. -/
def cut (s : ByteArray) (m : Nat) : ByteArray := ⟨((bl s).take m).toArray⟩
theorem bl_cut (s : ByteArray) (m : Nat) : bl (cut s m) = (bl s).take m := bl_mk _
theorem cut_size (s : ByteArray) (m : Nat) : (cut s m).size ≤ m := by rw [← bl_length, bl_cut, List.length_take]; omega
def roomOf (z : Int) : ByteArray := [(⟨#[33, 114, 58, 115, 49]⟩ : ByteArray), ⟨#[33, 113, 58, 115, 50]⟩].getD (around z 2).toNat .empty
def serverOf (z : Int) : ByteArray := [(⟨#[115, 49]⟩ : ByteArray), ⟨#[115, 50]⟩, ⟨#[115, 51]⟩].getD (around z 3).toNat .empty
def signOf (z : Int) : ByteArray := [(⟨#[64, 97, 58]⟩ : ByteArray), ⟨#[64, 98, 58]⟩, ⟨#[64, 99, 58]⟩].getD z.toNat .empty
def userOf (z : Int) : ByteArray := signOf (around z 9 / 3) ++ serverOf (around z 9 % 3)
def digit (z : Int) : ByteArray := ⟨#[UInt8.ofNat (48 + z.toNat)]⟩
def eventOf (z : Int) : ByteArray := (⟨#[36, 101]⟩ : ByteArray) ++ digit (around z 9)
def threadOf (z : Int) : ByteArray := if around z 11 = 9 then .empty else if around z 11 = 10 then ⟨#[109, 97, 105, 110]⟩ else eventOf (around z 11)
theorem getD_size {l : List ByteArray} {i m : Nat} (h : ∀ s ∈ l, s.size ≤ m) : (l.getD i .empty).size ≤ m := by
  rw [List.getD_eq_getElem?_getD]
  cases hq : l[i]? with
  | none => exact Nat.zero_le _
  | some x => exact h x (List.mem_of_getElem? hq)
theorem serverOf_size (z : Int) : (serverOf z).size ≤ 2 := getD_size (by intro s hs; simp at hs; rcases hs with rfl | rfl | rfl <;> decide)
theorem signOf_size (z : Int) : (signOf z).size ≤ 3 := getD_size (by intro s hs; simp at hs; rcases hs with rfl | rfl | rfl <;> decide)
theorem roomOf_size (z : Int) : (roomOf z).size ≤ 5 := getD_size (by intro s hs; simp at hs; rcases hs with rfl | rfl <;> decide)
theorem userOf_size (z : Int) : (userOf z).size ≤ 5 := by unfold userOf; rw [size_app]; have := signOf_size (around z 9 / 3); have := serverOf_size (around z 9 % 3); omega
theorem eventOf_size (z : Int) : (eventOf z).size = 3 := by unfold eventOf; rw [size_app]; rfl
theorem threadOf_size (z : Int) : (threadOf z).size ≤ 4 := by
  unfold threadOf; split
  · decide
  · split
    · decide
    · rw [eventOf_size]; decide
end Csl
namespace Csl
structure Sli where
  a : Option Addr
  n : Nat
  c : Nat
structure Evn where
  id : ByteArray
  room : ByteArray
  par : Sli
  thread : ByteArray
  user : ByteArray
  does : Int

def cEvn (x : Evn) : List Value := [.string x.id, .string x.room, .slice x.par.a x.par.n x.par.c, .string x.thread, .string x.user, .int .i64 x.does]
def okEvn (x : Evn) : Prop := x.id.size ≤ 9223372036854775807 ∧ x.room.size ≤ 9223372036854775807 ∧ x.thread.size ≤ 9223372036854775807 ∧ x.user.size ≤ 9223372036854775807 ∧ (Lit.int .i64 x.does).wf = true
structure Pos where
  depth : Int
  id : ByteArray
  deriving DecidableEq
def cPos (x : Pos) : List Value := [.int .i64 x.depth, .string x.id]
def okPos (x : Pos) : Prop := (Lit.int .i64 x.depth).wf = true ∧ x.id.size ≤ 9223372036854775807
structure DD where
  room : ByteArray
  l : Sli

def cDD (x : DD) : List Value := [.string x.room, .slice x.l.a x.l.n x.l.c]
def okDD (x : DD) : Prop := x.room.size ≤ 9223372036854775807
structure GG where
  user : Int
  does : Int
  par : Sli
  thread : Int

def cGG (x : GG) : List Value := [.int .i64 x.user, .int .i64 x.does, .slice x.par.a x.par.n x.par.c, .int .i64 x.thread]
def okGG (x : GG) : Prop := (Lit.int .i64 x.user).wf = true ∧ (Lit.int .i64 x.does).wf = true ∧ (Lit.int .i64 x.thread).wf = true
structure Nde where
  e : Evn
  depth : Int
  parent : Bool

def cNde (x : Nde) : List Value := [.string x.e.id, .string x.e.room, .slice x.e.par.a x.e.par.n x.e.par.c, .string x.e.thread, .string x.e.user, .int .i64 x.e.does, .int .i64 x.depth, .bool x.parent]
def okNde (x : Nde) : Prop := okEvn x.e ∧ (Lit.int .i64 x.depth).wf = true
end Csl

set_option maxRecDepth 100000 in
theorem tr33 {H : Type} {enc : TypeId × Value → H} {w : World} {vs : List Value} (h : Tr enc Tryz.prog w 33 vs) : ∃ x : Evn, vs = cEvn x ∧ (okEvn x ∧ Tr enc Tryz.prog w 31 [.slice x.par.a x.par.n x.par.c]) := by
  obtain ⟨h1, h2⟩ := h.struct und33
  rw [cz33] at h1
  match vs, h1 with
  | [v0, v1, v2, v3, v4, v5], _ =>
    have q0 : Tr enc Tryz.prog w 9 (([v0, v1, v2, v3, v4, v5].drop 0).take 1) := Tr.fieldAt h2 0 rfl cz9
    obtain ⟨x0, e0, w0⟩ := q0.string und9
    have q1 : Tr enc Tryz.prog w 9 (([v0, v1, v2, v3, v4, v5].drop 1).take 1) := Tr.fieldAt h2 1 rfl cz9
    obtain ⟨x1, e1, w1⟩ := q1.string und9
    have q2 : Tr enc Tryz.prog w 31 (([v0, v1, v2, v3, v4, v5].drop 2).take 1) := Tr.fieldAt h2 2 rfl cz31
    obtain ⟨sa2, sl2, sc2, e2, w2⟩ := q2.slice und31
    have t2 := q2; rw [e2] at t2
    have q3 : Tr enc Tryz.prog w 9 (([v0, v1, v2, v3, v4, v5].drop 3).take 1) := Tr.fieldAt h2 3 rfl cz9
    obtain ⟨x3, e3, w3⟩ := q3.string und9
    have q4 : Tr enc Tryz.prog w 9 (([v0, v1, v2, v3, v4, v5].drop 4).take 1) := Tr.fieldAt h2 4 rfl cz9
    obtain ⟨x4, e4, w4⟩ := q4.string und9
    have q5 : Tr enc Tryz.prog w 3 (([v0, v1, v2, v3, v4, v5].drop 5).take 1) := Tr.fieldAt h2 5 rfl cz3
    obtain ⟨x5, e5, w5⟩ := q5.int und3
    refine ⟨⟨x0, x1, ⟨sa2, sl2, sc2⟩, x3, x4, x5⟩, ?_, ⟨⟨w0, w1, w3, w4, w5⟩, t2⟩⟩
    simp only [List.drop_zero, List.drop_succ_cons, List.take_succ_cons, List.take_zero] at e0 e1 e2 e3 e4 e5
    simp only [List.cons.injEq, and_true] at e0 e1 e2 e3 e4 e5
    simp_all [cEvn]
theorem eqv54 (a b : Pos) : Eqv Tryz.prog 2 54 (.agg (cPos a).toArray) (.agg (cPos b).toArray) (decide (a = b)) :=
  Eqv.struct und54 (by kernel_rfl) (.cell rfl agg3 rfl rfl ((Eqv.int und3).up (by decide)) (.cell rfl agg9 rfl rfl ((Eqv.string und9).up (by decide)) .nil)) (by rw [Bool.eq_iff_iff]; cases a; cases b; simp)
theorem ck54 (a : Pos) : Ck Tryz.prog 2 54 (.agg (cPos a).toArray) := Ck.struct und54 (.cell rfl agg3 rfl ((Ck.int und3).up (by decide)) (.cell rfl agg9 rfl ((Ck.string und9).up (by decide)) .nil))
theorem key54 : KeyT Tryz.prog 54 (fun k : Pos => .agg (cPos k).toArray) := KeyT.struct und54 eqv54 (by decide) ck54 (by decide) (fun a v hv => by simp only [cPos, List.mem_cons, List.not_mem_nil, or_false] at hv; rcases hv with rfl | rfl <;> rfl)
theorem eqg54 : Tryz.prog.eqGuardType Tryz.prog.depth 54 = false := by kernel_rfl
set_option maxRecDepth 100000 in
theorem tr54 {H : Type} {enc : TypeId × Value → H} {w : World} {vs : List Value} (h : Tr enc Tryz.prog w 54 vs) : ∃ x : Pos, vs = cPos x ∧ okPos x := by
  obtain ⟨h1, h2⟩ := h.struct und54
  rw [cz54] at h1
  match vs, h1 with
  | [v0, v1], _ =>
    have q0 : Tr enc Tryz.prog w 3 (([v0, v1].drop 0).take 1) := Tr.fieldAt h2 0 rfl cz3
    obtain ⟨x0, e0, w0⟩ := q0.int und3
    have q1 : Tr enc Tryz.prog w 9 (([v0, v1].drop 1).take 1) := Tr.fieldAt h2 1 rfl cz9
    obtain ⟨x1, e1, w1⟩ := q1.string und9
    refine ⟨⟨x0, x1⟩, ?_, ⟨w0, w1⟩⟩
    simp only [List.drop_zero, List.drop_succ_cons, List.take_succ_cons, List.take_zero] at e0 e1
    simp only [List.cons.injEq, and_true] at e0 e1
    simp_all [cPos]
set_option maxRecDepth 100000 in
theorem tr26 {H : Type} {enc : TypeId × Value → H} {w : World} {vs : List Value} (h : Tr enc Tryz.prog w 26 vs) : ∃ x : DD, vs = cDD x ∧ (okDD x ∧ Tr enc Tryz.prog w 24 [.slice x.l.a x.l.n x.l.c]) := by
  obtain ⟨h1, h2⟩ := h.struct und26
  rw [cz26] at h1
  match vs, h1 with
  | [v0, v1], _ =>
    have q0 : Tr enc Tryz.prog w 9 (([v0, v1].drop 0).take 1) := Tr.fieldAt h2 0 rfl cz9
    obtain ⟨x0, e0, w0⟩ := q0.string und9
    have q1 : Tr enc Tryz.prog w 24 (([v0, v1].drop 1).take 1) := Tr.fieldAt h2 1 rfl cz24
    obtain ⟨sa1, sl1, sc1, e1, w1⟩ := q1.slice und24
    have t1 := q1; rw [e1] at t1
    refine ⟨⟨x0, ⟨sa1, sl1, sc1⟩⟩, ?_, ⟨w0, t1⟩⟩
    simp only [List.drop_zero, List.drop_succ_cons, List.take_succ_cons, List.take_zero] at e0 e1
    simp only [List.cons.injEq, and_true] at e0 e1
    simp_all [cDD]
set_option maxRecDepth 100000 in
theorem tr79 {H : Type} {enc : TypeId × Value → H} {w : World} {vs : List Value} (h : Tr enc Tryz.prog w 79 vs) : ∃ x : GG, vs = cGG x ∧ (okGG x ∧ Tr enc Tryz.prog w 77 [.slice x.par.a x.par.n x.par.c]) := by
  obtain ⟨h1, h2⟩ := h.struct und79
  rw [cz79] at h1
  match vs, h1 with
  | [v0, v1, v2, v3], _ =>
    have q0 : Tr enc Tryz.prog w 3 (([v0, v1, v2, v3].drop 0).take 1) := Tr.fieldAt h2 0 rfl cz3
    obtain ⟨x0, e0, w0⟩ := q0.int und3
    have q1 : Tr enc Tryz.prog w 3 (([v0, v1, v2, v3].drop 1).take 1) := Tr.fieldAt h2 1 rfl cz3
    obtain ⟨x1, e1, w1⟩ := q1.int und3
    have q2 : Tr enc Tryz.prog w 77 (([v0, v1, v2, v3].drop 2).take 1) := Tr.fieldAt h2 2 rfl cz77
    obtain ⟨sa2, sl2, sc2, e2, w2⟩ := q2.slice und77
    have t2 := q2; rw [e2] at t2
    have q3 : Tr enc Tryz.prog w 3 (([v0, v1, v2, v3].drop 3).take 1) := Tr.fieldAt h2 3 rfl cz3
    obtain ⟨x3, e3, w3⟩ := q3.int und3
    refine ⟨⟨x0, x1, ⟨sa2, sl2, sc2⟩, x3⟩, ?_, ⟨⟨w0, w1, w3⟩, t2⟩⟩
    simp only [List.drop_zero, List.drop_succ_cons, List.take_succ_cons, List.take_zero] at e0 e1 e2 e3
    simp only [List.cons.injEq, and_true] at e0 e1 e2 e3
    simp_all [cGG]
set_option maxRecDepth 100000 in
theorem Around_ctr {G : Gp} {z m : Int} (hz : -9223372036854775808 ≤ z ∧ z ≤ 9223372036854775807) (hm : 0 < m) :
    Ctr Tryz.prog G 20 [.int .i64 z, .int .i64 m] [] (fun F v A => v = .int .i64 (around z m) ∧ A = F) := by
  refine Ctr.intro Tryz.func20 rfl (by kernel_rfl) rfl (fun F => ?_)
  simp only [List.nil_append]
  refine Run.sr ?_
  refine RunL.as rfl rfl ?_
  refine RunL.nil ?_
  refine Run.seq ?_
  refine Run.sr ?_
  refine RunL.mv rfl rfl ?_
  refine RunL.pure (Pure.lss rfl rfl) (Wt.none rfl) rfl rfl ?_
  refine RunL.nil ?_
  refine Run.cond rfl (fun hc1 => ?_) (fun hc1 => ?_)
  · try simp only [ZA, ZB, ZC, ZD, ZE, ZF, ZG, ZH, ZI, ZJ, ZK, ZL, ZM, ZN, ZO, ZP, ZQ, ZR] at hc1
    refine Run.region ?_
    refine RunL.mv rfl rfl ?_
    first | refine RunL.pure (Pure.addI rfl rfl (by omega)) (Wt.none rfl) rfl rfl ?_ | refine RunL.pure (Pure.add rfl rfl) (Wt.none rfl) rfl rfl ?_
    first | refine RunL.pure (Pure.negI rfl (by omega)) (Wt.none rfl) rfl rfl ?_ | refine RunL.pure (Pure.neg rfl) (Wt.none rfl) rfl rfl ?_
    refine RunL.as rfl rfl ?_
    refine RunL.nil ?_
    refine Run.sr ?_
    refine RunL.mv rfl rfl ?_
    refine RunL.mv rfl rfl ?_
    first | refine RunL.pure (Pure.remI rfl rfl (by omega) (by omega)) (Wt.none rfl) rfl rfl ?_ | refine RunL.pure (Pure.rem rfl rfl (by omega)) (Wt.none rfl) rfl rfl ?_
    refine RunL.as rfl rfl ?_
    refine RunL.nil ?_
    exact Run.ret Tryz.func20 (res1 rfl rfl) (by exact ⟨by rw [around, if_pos hc1], rfl⟩) (by repeat (first | (with_reducible exact Fin.done (by repeat (first | (with_reducible exact Rest.here) | apply Rest.there))) | (apply Fin.cons (by first | ((repeat (first | (with_reducible exact F0 _) | apply F1)); done) | (repeat (first | exact F0 _ | apply F1))))))
  · try simp only [ZA, ZB, ZC, ZD, ZE, ZF, ZG, ZH, ZI, ZJ, ZK, ZL, ZM, ZN, ZO, ZP, ZQ, ZR] at hc1
    refine Run.skip ?_
    refine Run.sr ?_
    refine RunL.mv rfl rfl ?_
    refine RunL.mv rfl rfl ?_
    first | refine RunL.pure (Pure.remI rfl rfl (by omega) (by omega)) (Wt.none rfl) rfl rfl ?_ | refine RunL.pure (Pure.rem rfl rfl (by omega)) (Wt.none rfl) rfl rfl ?_
    refine RunL.as rfl rfl ?_
    refine RunL.nil ?_
    exact Run.ret Tryz.func20 (res1 rfl rfl) (by exact ⟨by rw [around, if_neg (by omega)], rfl⟩) (by repeat (first | (with_reducible exact Fin.done (by repeat (first | (with_reducible exact Rest.here) | apply Rest.there))) | (apply Fin.cons (by first | ((repeat (first | (with_reducible exact F0 _) | apply F1)); done) | (repeat (first | exact F0 _ | apply F1))))))

set_option maxRecDepth 100000 in
theorem Few_ctr {G : Gp} {s : ByteArray} {m : Int} (h0 : 0 ≤ m) (h1 : m ≤ 1000000) :
    Ctr Tryz.prog G 12 [.string s, .int .i64 m] [] (fun F v A => ∃ s', v = .string s' ∧ bl s' = (bl s).take m.toNat ∧ A = F) := by
  refine Ctr.intro Tryz.func12 rfl (by kernel_rfl) rfl (fun F => ?_)
  simp only [List.nil_append]
  refine Run.sr ?_
  refine RunL.as rfl rfl ?_
  refine RunL.nil ?_
  refine Run.seq ?_
  refine Run.sr ?_
  refine RunL.mv rfl rfl ?_
  refine RunL.pure (Pure.lenStr rfl rfl und9) (Wt.none rfl) rfl rfl ?_
  refine RunL.mv rfl rfl ?_
  refine RunL.pure (Pure.gtr rfl rfl) (Wt.none rfl) rfl rfl ?_
  refine RunL.nil ?_
  refine Run.cond rfl (fun hc1 => ?_) (fun hc1 => ?_)
  · try simp only [ZA, ZB, ZC, ZD, ZE, ZF, ZG, ZH, ZI, ZJ, ZK, ZL, ZM, ZN, ZO, ZP, ZQ, ZR] at hc1
    refine Run.sr ?_
    refine RunL.mv rfl rfl ?_
    refine RunL.mv rfl rfl ?_
    refine RunL.pure (Pure.sliceStrTo rfl rfl und9 (by first | omega | (simp; done) | (simp; omega)) (by first | omega | (simp; done) | (simp; omega))) (Wt.none rfl) rfl rfl ?_
    refine RunL.as rfl rfl ?_
    refine RunL.nil ?_
    exact Run.ret Tryz.func12 (res1 rfl rfl) (by exact ⟨_, rfl, bl_extract0 (by omega), rfl⟩) (by repeat (first | (with_reducible exact Fin.done (by repeat (first | (with_reducible exact Rest.here) | apply Rest.there))) | (apply Fin.cons (by first | ((repeat (first | (with_reducible exact F0 _) | apply F1)); done) | (repeat (first | exact F0 _ | apply F1))))))
  · try simp only [ZA, ZB, ZC, ZD, ZE, ZF, ZG, ZH, ZI, ZJ, ZK, ZL, ZM, ZN, ZO, ZP, ZQ, ZR] at hc1
    refine Run.skip ?_
    refine Run.sr ?_
    refine RunL.mv rfl rfl ?_
    refine RunL.as rfl rfl ?_
    refine RunL.nil ?_
    exact Run.ret Tryz.func12 (res1 rfl rfl) (by exact ⟨_, rfl, (List.take_of_length_le (by rw [bl_length]; omega)).symm, rfl⟩) (by repeat (first | (with_reducible exact Fin.done (by repeat (first | (with_reducible exact Rest.here) | apply Rest.there))) | (apply Fin.cons (by first | ((repeat (first | (with_reducible exact F0 _) | apply F1)); done) | (repeat (first | exact F0 _ | apply F1))))))

theorem FewC_ctr {G : Gp} {s : ByteArray} {m : Int} (h0 : 0 ≤ m) (h1 : m ≤ 1000000) : Ctr Tryz.prog G 12 [.string s, .int .i64 m] [] (fun F v A => v = .string (cut s m.toNat) ∧ A = F) := (Few_ctr h0 h1).mono (by rintro F v A ⟨s', rfl, hs, rfl⟩; exact ⟨by rw [bl_inj (hs.trans (bl_cut s _).symm)], rfl⟩)
set_option maxRecDepth 100000 in
theorem ServerOf_ctr {G : Gp} {z : Int} (hz : -9223372036854775808 ≤ z ∧ z ≤ 9223372036854775807) :
    Ctr Tryz.prog G 52 [.int .i64 z] [] (fun F v A => v = .string (serverOf z) ∧ A = F) := by
  refine Ctr.intro Tryz.func52 rfl (by kernel_rfl) rfl (fun F => ?_)
  simp only [List.nil_append]
  refine Run.sr ?_
  refine RunL.as rfl rfl ?_
  refine RunL.nil ?_
  refine Run.sr ?_
  refine RunL.lit (vals := [_, _, _]) (vs := [_, _, _]) und31 sz9 zz9 rfl rfl rfl rfl rfl rfl (by simp [Value.cells, bv, cDD, cEvn, cGG, cNde, cPos]) rfl (Wt.none rfl) rfl ?_; intro b3
  refine RunL.mv rfl rfl ?_
  refine RunL.call rfl rfl (by rfl) (by repeat (first | (with_reducible exact Take.nil _) | (apply Take.cons (by first | ((repeat (first | (with_reducible exact F0 _) | apply F1)); done) | (repeat (first | exact F0 _ | apply F1)))))) (Around_ctr hz (by decide)) (Wt.none rfl) rfl ?_
  rintro _ _ ⟨rfl, hA_⟩
  replace hA_ := hA_.symm; subst hA_
  have hk := around_lt (z := z) (m := 3) (by decide)
  refine RunL.openLit (by first | ((repeat (first | (with_reducible exact F0 _) | apply F1)); done) | (repeat (first | exact F0 _ | apply F1))) ?_; intro post
  refine RunL.pure (Pure.indexAddr rfl rfl und31 sz9 (by omega) (by omega)) (Wt.none rfl) rfl rfl ?_
  refine RunL.load1 rfl (by first | ((repeat (first | (with_reducible exact F0 _) | apply F1)); done) | (repeat (first | exact F0 _ | apply F1))) (elem1_at (show _ = some (serverOf z) from getD_some _ (by simp; omega))) agg9 (Wt.none rfl) rfl ?_
  refine RunL.as rfl rfl ?_
  refine RunL.nil ?_
  exact Run.ret Tryz.func52 (res1 rfl rfl) (by exact ⟨rfl, rfl⟩) (by repeat (first | (with_reducible exact Fin.done (by repeat (first | (with_reducible exact Rest.here) | apply Rest.there))) | (apply Fin.cons (by first | ((repeat (first | (with_reducible exact F0 _) | apply F1)); done) | (repeat (first | exact F0 _ | apply F1))))))

set_option maxRecDepth 100000 in
theorem UserOf_ctr {G : Gp} {z : Int} (hz : -9223372036854775808 ≤ z ∧ z ≤ 9223372036854775807) :
    Ctr Tryz.prog G 33 [.int .i64 z] [] (fun F v A => v = .string (userOf z) ∧ A = F) := by
  refine Ctr.intro Tryz.func33 rfl (by kernel_rfl) rfl (fun F => ?_)
  simp only [List.nil_append]
  refine Run.sr ?_
  refine RunL.as rfl rfl ?_
  refine RunL.nil ?_
  refine Run.sr ?_
  refine RunL.mv rfl rfl ?_
  refine RunL.call rfl rfl (by rfl) (by repeat (first | (with_reducible exact Take.nil _) | (apply Take.cons (by first | ((repeat (first | (with_reducible exact F0 _) | apply F1)); done) | (repeat (first | exact F0 _ | apply F1)))))) (Around_ctr hz (by decide)) (Wt.none rfl) rfl ?_
  rintro _ _ ⟨rfl, hA_⟩
  replace hA_ := hA_.symm; subst hA_
  have hk := around_lt (z := z) (m := 9) (by decide)
  have hs1 := signOf_size (around z 9 / 3)
  have hs2 := serverOf_size (around z 9 % 3)
  refine RunL.as rfl rfl ?_
  refine RunL.nil ?_
  refine Run.seq ?_
  refine Run.regionD' (by kernel_rfl) (by kernel_rfl) (fun hok14 => ?_)
  refine RunD.pure (i := 1) hok14 rfl (by kernel_rfl) (Pure.move rfl) (Wt.none rfl) rfl rfl ?_
  first | refine RunD.pure (i := 2) hok14 rfl (by kernel_rfl) (Pure.quoI rfl rfl (by omega) (by omega) (by omega)) (Wt.none rfl) rfl rfl ?_ | refine RunD.pure (i := 2) hok14 rfl (by kernel_rfl) (Pure.quo rfl rfl (by omega)) (Wt.none rfl) rfl rfl ?_
  refine RunD.pure (i := 5) hok14 rfl (by kernel_rfl) (Pure.move rfl) (Wt.none rfl) rfl rfl ?_
  first | refine RunD.pure (i := 6) hok14 rfl (by kernel_rfl) (Pure.remI rfl rfl (by omega) (by omega)) (Wt.none rfl) rfl rfl ?_ | refine RunD.pure (i := 6) hok14 rfl (by kernel_rfl) (Pure.rem rfl rfl (by omega)) (Wt.none rfl) rfl rfl ?_
  refine RunD.two (i := 0) (j := 7) (by kernel_rfl) rfl rfl ?_ ?_
  · skip
    refine RunL.lit (vals := [_, _, _]) (vs := [_, _, _]) und31 sz9 zz9 rfl rfl rfl rfl rfl rfl (by simp [Value.cells, bv, cDD, cEvn, cGG, cNde, cPos]) rfl (Wt.none rfl) rfl ?_; intro b6
    refine RunL.nilD' ?_
    refine RunD.openLit (by first | ((repeat (first | (with_reducible exact F0 _) | apply F1)); done) | (repeat (first | exact F0 _ | apply F1))) ?_; intro post
    refine RunD.lend (Q := row b6 9 _) Lends.row (by first | ((repeat (first | (with_reducible exact F0 _) | apply F1)); done) | (repeat (first | exact F0 _ | apply F1))) ?_; intro g1 hleg1 hr1 backg1
    refine RunD.pure (i := 3) hok14 rfl (by kernel_rfl) (Pure.indexAddr rfl rfl und31 sz9 (by omega) (by omega)) (Wt.none rfl) rfl rfl ?_
    refine RunD.load1R (i := 4) hok14 rfl (by kernel_rfl) rfl hr1 (elem1_at (show _ = some (signOf (around z 9 / 3)) from getD_some _ (by simp; omega))) agg9 (Wt.none rfl) rfl ?_
    refine RunD.one (i := 7) (by kernel_rfl) rfl ?_
    refine RunL.call rfl rfl (by rfl) (by repeat (first | (with_reducible exact Take.nil _) | (apply Take.cons (by first | ((repeat (first | (with_reducible exact F0 _) | apply F1)); done) | (repeat (first | exact F0 _ | apply F1)))))) (ServerOf_ctr (z := around z 9 % 3) (by omega)) (Wt.none rfl) rfl ?_
    rintro _ _ ⟨rfl, hA_⟩
    replace hA_ := hA_.symm; subst hA_
    refine RunL.nilD' ?_
    refine RunD.pure (i := 8) hok14 rfl (by kernel_rfl) (Pure.sadd rfl rfl (by first | omega | (simp only [size_mk, size_app, List.length_append, bl_length, List.length_cons, List.length_nil]; omega) | (simp; omega))) (Wt.none rfl) rfl rfl ?_
    refine RunD.pure (i := 9) hok14 rfl (by kernel_rfl) (Pure.assign rfl) (Wt.none rfl) rfl rfl ?_
    refine RunD.nilB (by kernel_rfl) (fun w sw => backg1 _ _ (sw)) ?_
    exact Run.ret Tryz.func33 (res1 rfl rfl) (by exact ⟨rfl, rfl⟩) (by repeat (first | (with_reducible exact Fin.done (by repeat (first | (with_reducible exact Rest.here) | apply Rest.there))) | (apply Fin.cons (by first | ((repeat (first | (with_reducible exact F0 _) | apply F1)); done) | (repeat (first | exact F0 _ | apply F1))))))
  · skip
    refine RunL.call rfl rfl (by rfl) (by repeat (first | (with_reducible exact Take.nil _) | (apply Take.cons (by first | ((repeat (first | (with_reducible exact F0 _) | apply F1)); done) | (repeat (first | exact F0 _ | apply F1)))))) (ServerOf_ctr (z := around z 9 % 3) (by omega)) (Wt.none rfl) rfl ?_
    rintro _ _ ⟨rfl, hA_⟩
    replace hA_ := hA_.symm; subst hA_
    refine RunL.nilD' ?_
    refine RunD.one (i := 0) (by kernel_rfl) rfl ?_
    refine RunL.lit (vals := [_, _, _]) (vs := [_, _, _]) und31 sz9 zz9 rfl rfl rfl rfl rfl rfl (by simp [Value.cells, bv, cDD, cEvn, cGG, cNde, cPos]) rfl (Wt.none rfl) rfl ?_; intro b6
    refine RunL.nilD' ?_
    refine RunD.openLit (by first | ((repeat (first | (with_reducible exact F0 _) | apply F1)); done) | (repeat (first | exact F0 _ | apply F1))) ?_; intro post
    refine RunD.lend (Q := row b6 9 _) Lends.row (by first | ((repeat (first | (with_reducible exact F0 _) | apply F1)); done) | (repeat (first | exact F0 _ | apply F1))) ?_; intro g1 hleg1 hr1 backg1
    refine RunD.pure (i := 3) hok14 rfl (by kernel_rfl) (Pure.indexAddr rfl rfl und31 sz9 (by omega) (by omega)) (Wt.none rfl) rfl rfl ?_
    refine RunD.load1R (i := 4) hok14 rfl (by kernel_rfl) rfl hr1 (elem1_at (show _ = some (signOf (around z 9 / 3)) from getD_some _ (by simp; omega))) agg9 (Wt.none rfl) rfl ?_
    refine RunD.pure (i := 8) hok14 rfl (by kernel_rfl) (Pure.sadd rfl rfl (by first | omega | (simp only [size_mk, size_app, List.length_append, bl_length, List.length_cons, List.length_nil]; omega) | (simp; omega))) (Wt.none rfl) rfl rfl ?_
    refine RunD.pure (i := 9) hok14 rfl (by kernel_rfl) (Pure.assign rfl) (Wt.none rfl) rfl rfl ?_
    refine RunD.nilB (by kernel_rfl) (fun w sw => backg1 _ _ (sw)) ?_
    exact Run.ret Tryz.func33 (res1 rfl rfl) (by exact ⟨rfl, rfl⟩) (by repeat (first | (with_reducible exact Fin.done (by repeat (first | (with_reducible exact Rest.here) | apply Rest.there))) | (apply Fin.cons (by first | ((repeat (first | (with_reducible exact F0 _) | apply F1)); done) | (repeat (first | exact F0 _ | apply F1))))))

set_option maxRecDepth 100000 in
theorem Decimal_ctr {G : Gp} {z : Int} (h0 : 0 ≤ z) (h9 : z < 10) :
    Ctr Tryz.prog G 31 [.int .i64 z] [] (fun F v A => v = .string (digit z) ∧ A = F) := by
  refine Ctr.intro Tryz.func31 rfl (by kernel_rfl) rfl (fun F => ?_)
  simp only [List.nil_append]
  refine Run.sr ?_
  refine RunL.as rfl rfl ?_
  refine RunL.nil ?_
  refine Run.sr ?_
  refine RunL.mv rfl rfl ?_
  first | refine RunL.pure (Pure.remI rfl rfl (by omega) (by omega)) (Wt.none rfl) rfl rfl ?_ | refine RunL.pure (Pure.rem rfl rfl (by omega)) (Wt.none rfl) rfl rfl ?_
  refine RunL.as rfl rfl ?_
  refine RunL.nil ?_
  refine Run.seq ?_
  refine Run.sr ?_
  refine RunL.mv rfl rfl ?_
  refine RunL.pure (Pure.lss rfl rfl) (Wt.none rfl) rfl rfl ?_
  refine RunL.nil ?_
  refine Run.cond rfl (fun hc1 => ?_) (fun hc1 => ?_)
  · try simp only [ZA, ZB, ZC, ZD, ZE, ZF, ZG, ZH, ZI, ZJ, ZK, ZL, ZM, ZN, ZO, ZP, ZQ, ZR] at hc1
    exfalso; omega
  · try simp only [ZA, ZB, ZC, ZD, ZE, ZF, ZG, ZH, ZI, ZJ, ZK, ZL, ZM, ZN, ZO, ZP, ZQ, ZR] at hc1
    rw [show z % 10 = z from by omega]
    refine Run.skip ?_
    refine Run.sr ?_
    refine RunL.mv rfl rfl ?_
    first | refine RunL.pure (Pure.addI rfl rfl (by omega)) (Wt.none rfl) rfl rfl ?_ | refine RunL.pure (Pure.add rfl rfl) (Wt.none rfl) rfl rfl ?_
    first | refine RunL.pure (Pure.convId und3 und5 rfl (by first | exact wrap_i64 (by omega) (by omega) | exact wrap_u8 (by omega) (by omega) | exact wrap_i32 (by omega) (by omega))) (Wt.none rfl) rfl rfl ?_ | refine RunL.pure (Pure.convInt und3 und5 rfl) (Wt.none rfl) rfl rfl ?_
    refine RunL.lit (vals := [_]) (vs := [_]) und100 sz5 zz5 rfl rfl rfl rfl rfl rfl (by simp [Value.cells, bv, cDD, cEvn, cGG, cNde, cPos]) rfl (Wt.none rfl) rfl ?_; intro b14
    refine RunL.bytesStr (bs := [UInt8.ofNat (48 + z.toNat)]) rfl und100 und5 und9 (fun w sw => (by have := sw.src (P := Tryz.prog); rw [show [Value.int .u8 (48 + z)] = [UInt8.ofNat (48 + z.toNat)].map bv from by simp only [List.map_cons, List.map_nil, bv]; rw [UInt8.toNat_ofNat_of_lt' (by simp [UInt8.size]; omega)]; congr 2; omega] at this; exact this)) (Wt.none rfl) rfl ?_
    refine RunL.as rfl rfl ?_
    refine RunL.nil ?_
    refine Run.seq ?_
    refine Run.sr ?_
    refine RunL.mv rfl rfl ?_
    refine RunL.pure (Pure.gtr rfl rfl) (Wt.none rfl) rfl rfl ?_
    refine RunL.mv rfl rfl ?_
    refine RunL.split (d := 18) rfl (fun hc2 => ?_) (fun hc2 => ?_)
    · try simp only [ZA, ZB, ZC, ZD, ZE, ZF, ZG, ZH, ZI, ZJ, ZK, ZL, ZM, ZN, ZO, ZP, ZQ, ZR] at hc2
      refine RunL.pure (Pure.move rfl) (Wt.yes rfl rfl rfl) rfl rfl ?_
      refine RunL.pure (Pure.lss rfl rfl) (Wt.yes rfl rfl rfl) rfl rfl ?_
      refine RunL.pure (Pure.pickT rfl rfl) (Wt.none rfl) rfl rfl ?_
      refine RunL.nil ?_
      refine Run.cond rfl (fun hc3 => ?_) (fun hc3 => ?_)
      · try simp only [ZA, ZB, ZC, ZD, ZE, ZF, ZG, ZH, ZI, ZJ, ZK, ZL, ZM, ZN, ZO, ZP, ZQ, ZR] at hc3
        refine Run.seq ?_
        refine Run.sr ?_
        refine RunL.mv rfl rfl ?_
        refine RunL.pure (Pure.lss rfl rfl) (Wt.none rfl) rfl rfl ?_
        refine RunL.nil ?_
        refine Run.cond rfl (fun hc4 => ?_) (fun hc4 => ?_)
        · try simp only [ZA, ZB, ZC, ZD, ZE, ZF, ZG, ZH, ZI, ZJ, ZK, ZL, ZM, ZN, ZO, ZP, ZQ, ZR] at hc4
          exfalso; omega
        · try simp only [ZA, ZB, ZC, ZD, ZE, ZF, ZG, ZH, ZI, ZJ, ZK, ZL, ZM, ZN, ZO, ZP, ZQ, ZR] at hc4
          refine Run.skip ?_
          refine Run.sr ?_
          refine RunL.mv rfl rfl ?_
          refine RunL.as rfl rfl ?_
          refine RunL.nil ?_
          exact Run.ret Tryz.func31 (res1 rfl rfl) (by exact ⟨rfl, rfl⟩) (by repeat (first | (with_reducible exact Fin.done (by repeat (first | (with_reducible exact Rest.here) | apply Rest.there))) | (apply Fin.cons (by first | ((repeat (first | (with_reducible exact F0 _) | apply F1)); done) | (repeat (first | exact F0 _ | apply F1))))))
      · try simp only [ZA, ZB, ZC, ZD, ZE, ZF, ZG, ZH, ZI, ZJ, ZK, ZL, ZM, ZN, ZO, ZP, ZQ, ZR] at hc3
        exfalso; omega
    · try simp only [ZA, ZB, ZC, ZD, ZE, ZF, ZG, ZH, ZI, ZJ, ZK, ZL, ZM, ZN, ZO, ZP, ZQ, ZR] at hc2
      exfalso; omega

set_option maxRecDepth 100000 in
theorem EventOf_ctr {G : Gp} {z : Int} (hz : -9223372036854775808 ≤ z ∧ z ≤ 9223372036854775807) :
    Ctr Tryz.prog G 13 [.int .i64 z] [] (fun F v A => v = .string (eventOf z) ∧ A = F) := by
  refine Ctr.intro Tryz.func13 rfl (by kernel_rfl) rfl (fun F => ?_)
  simp only [List.nil_append]
  refine Run.sr ?_
  refine RunL.as rfl rfl ?_
  refine RunL.nil ?_
  refine Run.sr ?_
  refine RunL.mv rfl rfl ?_
  refine RunL.call rfl rfl (by rfl) (by repeat (first | (with_reducible exact Take.nil _) | (apply Take.cons (by first | ((repeat (first | (with_reducible exact F0 _) | apply F1)); done) | (repeat (first | exact F0 _ | apply F1)))))) (Around_ctr hz (by decide)) (Wt.none rfl) rfl ?_
  rintro _ _ ⟨rfl, hA_⟩
  replace hA_ := hA_.symm; subst hA_
  have hk := around_lt (z := z) (m := 9) (by decide)
  refine RunL.call rfl rfl (by rfl) (by repeat (first | (with_reducible exact Take.nil _) | (apply Take.cons (by first | ((repeat (first | (with_reducible exact F0 _) | apply F1)); done) | (repeat (first | exact F0 _ | apply F1)))))) (Decimal_ctr (z := around z 9) (by omega) (by omega)) (Wt.none rfl) rfl ?_
  rintro _ _ ⟨rfl, hA_⟩
  replace hA_ := hA_.symm; subst hA_
  have hd : (digit (around z 9)).size = 1 := rfl
  have hd2 : (⟨#[36, 101]⟩ : ByteArray).size = 2 := rfl
  refine RunL.pure (Pure.sadd rfl rfl (by first | omega | (simp only [size_mk, size_app, List.length_append, bl_length, List.length_cons, List.length_nil]; omega) | (simp; omega))) (Wt.none rfl) rfl rfl ?_
  refine RunL.as rfl rfl ?_
  refine RunL.nil ?_
  exact Run.ret Tryz.func13 (res1 rfl rfl) (by exact ⟨rfl, rfl⟩) (by repeat (first | (with_reducible exact Fin.done (by repeat (first | (with_reducible exact Rest.here) | apply Rest.there))) | (apply Fin.cons (by first | ((repeat (first | (with_reducible exact F0 _) | apply F1)); done) | (repeat (first | exact F0 _ | apply F1))))))

set_option maxRecDepth 100000 in
theorem isNaNs_ctr {G : Gp} {a : ByteArray} :
    Ctr Tryz.prog G 62 [.string a] [] (fun F v A => v = .bool false ∧ A = F) := by
  refine Ctr.intro Tryz.func62 rfl (by kernel_rfl) rfl (fun F => ?_)
  simp only [List.nil_append]
  refine Run.sr ?_
  refine RunL.as rfl rfl ?_
  refine RunL.nil ?_
  refine Run.sr ?_
  refine RunL.mv rfl rfl ?_
  refine RunL.mv rfl rfl ?_
  refine RunL.pure (Pure.sneq rfl rfl) (Wt.none rfl) rfl rfl ?_
  refine RunL.as rfl rfl ?_
  refine RunL.nil ?_
  exact Run.ret Tryz.func62 (res1 rfl rfl) (by exact ⟨by simp, rfl⟩) (by repeat (first | (with_reducible exact Fin.done (by repeat (first | (with_reducible exact Rest.here) | apply Rest.there))) | (apply Fin.cons (by first | ((repeat (first | (with_reducible exact F0 _) | apply F1)); done) | (repeat (first | exact F0 _ | apply F1))))))

set_option maxRecDepth 100000 in
theorem cmpS_ctr {G : Gp} {a b : ByteArray} :
    Ctr Tryz.prog G 47 [.string a, .string b] [] (fun F v A => v = .int .i64 (cmpS a b) ∧ A = F) := by
  refine Ctr.intro Tryz.func47 rfl (by kernel_rfl) rfl (fun F => ?_)
  simp only [List.nil_append]
  refine Run.sr ?_
  refine RunL.as rfl rfl ?_
  refine RunL.nil ?_
  refine Run.sr ?_
  refine RunL.mv rfl rfl ?_
  refine RunL.call rfl rfl (by rfl) (by repeat (first | (with_reducible exact Take.nil _) | (apply Take.cons (by first | ((repeat (first | (with_reducible exact F0 _) | apply F1)); done) | (repeat (first | exact F0 _ | apply F1)))))) (isNaNs_ctr) (Wt.none rfl) rfl ?_
  rintro _ _ ⟨rfl, hA_⟩
  replace hA_ := hA_.symm; subst hA_
  refine RunL.as rfl rfl ?_
  refine RunL.nil ?_
  refine Run.sr ?_
  refine RunL.mv rfl rfl ?_
  refine RunL.call rfl rfl (by rfl) (by repeat (first | (with_reducible exact Take.nil _) | (apply Take.cons (by first | ((repeat (first | (with_reducible exact F0 _) | apply F1)); done) | (repeat (first | exact F0 _ | apply F1)))))) (isNaNs_ctr) (Wt.none rfl) rfl ?_
  rintro _ _ ⟨rfl, hA_⟩
  replace hA_ := hA_.symm; subst hA_
  refine RunL.as rfl rfl ?_
  refine RunL.nil ?_
  refine Run.seq ?_
  refine Run.sr ?_
  refine RunL.mv rfl rfl ?_
  refine RunL.nil ?_
  refine Run.condF rfl ?_
  refine Run.skip ?_
  refine Run.seq ?_
  refine Run.sr ?_
  refine RunL.mv rfl rfl ?_
  refine RunL.nil ?_
  refine Run.condF rfl ?_
  refine Run.skip ?_
  refine Run.seq ?_
  refine Run.sr ?_
  refine RunL.mv rfl rfl ?_
  refine RunL.mv rfl rfl ?_
  refine RunL.pure (Pure.slss rfl rfl) (Wt.none rfl) rfl rfl ?_
  refine RunL.nil ?_
  refine Run.cond rfl (fun h1 => ?_) (fun h1 => ?_)
  · try simp only [ZA, ZB, ZC, ZD, ZE, ZF, ZG, ZH, ZI, ZJ, ZK, ZL, ZM, ZN, ZO, ZP, ZQ, ZR] at h1
    refine Run.sr ?_
    refine RunL.as rfl rfl ?_
    refine RunL.nil ?_
    exact Run.ret Tryz.func47 (res1 rfl rfl) (by exact ⟨by rw [cmpS, if_pos h1], rfl⟩) (by repeat (first | (with_reducible exact Fin.done (by repeat (first | (with_reducible exact Rest.here) | apply Rest.there))) | (apply Fin.cons (by first | ((repeat (first | (with_reducible exact F0 _) | apply F1)); done) | (repeat (first | exact F0 _ | apply F1))))))
  · try simp only [ZA, ZB, ZC, ZD, ZE, ZF, ZG, ZH, ZI, ZJ, ZK, ZL, ZM, ZN, ZO, ZP, ZQ, ZR] at h1
    refine Run.skip ?_
    refine Run.seq ?_
    refine Run.sr ?_
    refine RunL.mv rfl rfl ?_
    refine RunL.mv rfl rfl ?_
    refine RunL.pure (Pure.sgtr rfl rfl) (Wt.none rfl) rfl rfl ?_
    refine RunL.nil ?_
    refine Run.cond rfl (fun h2 => ?_) (fun h2 => ?_)
    · try simp only [ZA, ZB, ZC, ZD, ZE, ZF, ZG, ZH, ZI, ZJ, ZK, ZL, ZM, ZN, ZO, ZP, ZQ, ZR] at h2
      refine Run.sr ?_
      refine RunL.as rfl rfl ?_
      refine RunL.nil ?_
      exact Run.ret Tryz.func47 (res1 rfl rfl) (by exact ⟨by rw [cmpS, if_neg (by rw [h1]; decide), if_neg (fun e => by subst e; simp at h2)], rfl⟩) (by repeat (first | (with_reducible exact Fin.done (by repeat (first | (with_reducible exact Rest.here) | apply Rest.there))) | (apply Fin.cons (by first | ((repeat (first | (with_reducible exact F0 _) | apply F1)); done) | (repeat (first | exact F0 _ | apply F1))))))
    · try simp only [ZA, ZB, ZC, ZD, ZE, ZF, ZG, ZH, ZI, ZJ, ZK, ZL, ZM, ZN, ZO, ZP, ZQ, ZR] at h2
      refine Run.skip ?_
      refine Run.sr ?_
      refine RunL.as rfl rfl ?_
      refine RunL.nil ?_
      exact Run.ret Tryz.func47 (res1 rfl rfl) (by exact ⟨by have : a = b := bl_inj (by simpa [h1] using h2); rw [(cmpS_law.eq0 a b).2 this], rfl⟩) (by repeat (first | (with_reducible exact Fin.done (by repeat (first | (with_reducible exact Rest.here) | apply Rest.there))) | (apply Fin.cons (by first | ((repeat (first | (with_reducible exact F0 _) | apply F1)); done) | (repeat (first | exact F0 _ | apply F1))))))

set_option maxRecDepth 100000 in
theorem isNaNi_ctr {G : Gp} {a : Int} :
    Ctr Tryz.prog G 61 [.int .i64 a] [] (fun F v A => v = .bool false ∧ A = F) := by
  refine Ctr.intro Tryz.func61 rfl (by kernel_rfl) rfl (fun F => ?_)
  simp only [List.nil_append]
  refine Run.sr ?_
  refine RunL.as rfl rfl ?_
  refine RunL.nil ?_
  refine Run.sr ?_
  refine RunL.mv rfl rfl ?_
  refine RunL.mv rfl rfl ?_
  refine RunL.pure (Pure.neq rfl rfl) (Wt.none rfl) rfl rfl ?_
  refine RunL.as rfl rfl ?_
  refine RunL.nil ?_
  exact Run.ret Tryz.func61 (res1 rfl rfl) (by exact ⟨by simp, rfl⟩) (by repeat (first | (with_reducible exact Fin.done (by repeat (first | (with_reducible exact Rest.here) | apply Rest.there))) | (apply Fin.cons (by first | ((repeat (first | (with_reducible exact F0 _) | apply F1)); done) | (repeat (first | exact F0 _ | apply F1))))))

set_option maxRecDepth 100000 in
theorem cmpI_ctr {G : Gp} {a b : Int} :
    Ctr Tryz.prog G 46 [.int .i64 a, .int .i64 b] [] (fun F v A => v = .int .i64 (cmpI a b) ∧ A = F) := by
  refine Ctr.intro Tryz.func46 rfl (by kernel_rfl) rfl (fun F => ?_)
  simp only [List.nil_append]
  refine Run.sr ?_
  refine RunL.as rfl rfl ?_
  refine RunL.nil ?_
  refine Run.sr ?_
  refine RunL.mv rfl rfl ?_
  refine RunL.call rfl rfl (by rfl) (by repeat (first | (with_reducible exact Take.nil _) | (apply Take.cons (by first | ((repeat (first | (with_reducible exact F0 _) | apply F1)); done) | (repeat (first | exact F0 _ | apply F1)))))) (isNaNi_ctr) (Wt.none rfl) rfl ?_
  rintro _ _ ⟨rfl, hA_⟩
  replace hA_ := hA_.symm; subst hA_
  refine RunL.as rfl rfl ?_
  refine RunL.nil ?_
  refine Run.sr ?_
  refine RunL.mv rfl rfl ?_
  refine RunL.call rfl rfl (by rfl) (by repeat (first | (with_reducible exact Take.nil _) | (apply Take.cons (by first | ((repeat (first | (with_reducible exact F0 _) | apply F1)); done) | (repeat (first | exact F0 _ | apply F1)))))) (isNaNi_ctr) (Wt.none rfl) rfl ?_
  rintro _ _ ⟨rfl, hA_⟩
  replace hA_ := hA_.symm; subst hA_
  refine RunL.as rfl rfl ?_
  refine RunL.nil ?_
  refine Run.seq ?_
  refine Run.sr ?_
  refine RunL.mv rfl rfl ?_
  refine RunL.nil ?_
  refine Run.condF rfl ?_
  refine Run.skip ?_
  refine Run.seq ?_
  refine Run.sr ?_
  refine RunL.mv rfl rfl ?_
  refine RunL.nil ?_
  refine Run.condF rfl ?_
  refine Run.skip ?_
  refine Run.seq ?_
  refine Run.sr ?_
  refine RunL.mv rfl rfl ?_
  refine RunL.mv rfl rfl ?_
  refine RunL.pure (Pure.lss rfl rfl) (Wt.none rfl) rfl rfl ?_
  refine RunL.nil ?_
  refine Run.cond rfl (fun h1 => ?_) (fun h1 => ?_)
  · try simp only [ZA, ZB, ZC, ZD, ZE, ZF, ZG, ZH, ZI, ZJ, ZK, ZL, ZM, ZN, ZO, ZP, ZQ, ZR] at h1
    refine Run.sr ?_
    refine RunL.as rfl rfl ?_
    refine RunL.nil ?_
    exact Run.ret Tryz.func46 (res1 rfl rfl) (by exact ⟨by rw [cmpI, if_pos h1], rfl⟩) (by repeat (first | (with_reducible exact Fin.done (by repeat (first | (with_reducible exact Rest.here) | apply Rest.there))) | (apply Fin.cons (by first | ((repeat (first | (with_reducible exact F0 _) | apply F1)); done) | (repeat (first | exact F0 _ | apply F1))))))
  · try simp only [ZA, ZB, ZC, ZD, ZE, ZF, ZG, ZH, ZI, ZJ, ZK, ZL, ZM, ZN, ZO, ZP, ZQ, ZR] at h1
    refine Run.skip ?_
    refine Run.seq ?_
    refine Run.sr ?_
    refine RunL.mv rfl rfl ?_
    refine RunL.mv rfl rfl ?_
    refine RunL.pure (Pure.gtr rfl rfl) (Wt.none rfl) rfl rfl ?_
    refine RunL.nil ?_
    refine Run.cond rfl (fun h2 => ?_) (fun h2 => ?_)
    · try simp only [ZA, ZB, ZC, ZD, ZE, ZF, ZG, ZH, ZI, ZJ, ZK, ZL, ZM, ZN, ZO, ZP, ZQ, ZR] at h2
      refine Run.sr ?_
      refine RunL.as rfl rfl ?_
      refine RunL.nil ?_
      exact Run.ret Tryz.func46 (res1 rfl rfl) (by exact ⟨by rw [cmpI, if_neg (by omega), if_pos h2], rfl⟩) (by repeat (first | (with_reducible exact Fin.done (by repeat (first | (with_reducible exact Rest.here) | apply Rest.there))) | (apply Fin.cons (by first | ((repeat (first | (with_reducible exact F0 _) | apply F1)); done) | (repeat (first | exact F0 _ | apply F1))))))
    · try simp only [ZA, ZB, ZC, ZD, ZE, ZF, ZG, ZH, ZI, ZJ, ZK, ZL, ZM, ZN, ZO, ZP, ZQ, ZR] at h2
      refine Run.skip ?_
      refine Run.sr ?_
      refine RunL.as rfl rfl ?_
      refine RunL.nil ?_
      exact Run.ret Tryz.func46 (res1 rfl rfl) (by exact ⟨by rw [cmpI, if_neg (by omega), if_neg (by omega)], rfl⟩) (by repeat (first | (with_reducible exact Fin.done (by repeat (first | (with_reducible exact Rest.here) | apply Rest.there))) | (apply Fin.cons (by first | ((repeat (first | (with_reducible exact F0 _) | apply F1)); done) | (repeat (first | exact F0 _ | apply F1))))))

set_option maxRecDepth 100000 in
theorem Or_ctr {G : Gp} {a : Option Addr} {zs : List Int} {cap : Nat} (h : SlR G 77 1 a zs.length (zs.map (Value.int .i64))) (hb : zs.length ≤ 1000000) :
    Ctr Tryz.prog G 45 [.slice a zs.length cap] [] (fun F v A => v = .int .i64 (orL zs) ∧ A = F) := by
  refine Ctr.intro Tryz.func45 rfl (by kernel_rfl) rfl (fun F => ?_)
  simp only [List.nil_append]
  refine Run.sr ?_
  refine RunL.as rfl rfl ?_
  refine RunL.nil ?_
  refine Run.sr ?_
  refine RunL.as rfl rfl ?_
  refine RunL.nil ?_
  refine Run.seq ?_
  refine Run.sr ?_
  refine RunL.mv rfl rfl ?_
  refine RunL.pure (Pure.lenSl rfl rfl und77) (Wt.none rfl) rfl rfl ?_
  refine RunL.mv rfl rfl ?_
  refine RunL.nil ?_
  refine Run.block ?_
  refine Run.keep (.cons rfl (.cons rfl (.cons rfl (.cons rfl (.nil)))) : Keep _ [3, 6, 7, 8] _) ?_
  refine Run.loopR (fun n e A => ∃ (i : Nat), i ≤ zs.length ∧ orL zs = orL (zs.drop i) ∧ n = zs.length - i ∧ e = [(3, .int .i64 0), (6, .slice a zs.length cap), (7, .int .i64 (zs.length : Nat)), (8, .int .i64 (i : Nat))] ∧ A = F) (zs.length) ⟨0, Nat.zero_le _, rfl, rfl, rfl, rfl⟩ ?_
  rintro n _ _ ⟨i, hi, ho, rfl, rfl, rfl⟩ ih
  refine Run.sr ?_
  refine RunL.pure (Pure.lss rfl rfl) (Wt.none rfl) rfl rfl ?_
  refine RunL.nil ?_
  refine Run.seq ?_
  refine Run.cond rfl (fun h1 => ?_) (fun h1 => ?_)
  · try simp only [ZA, ZB, ZC, ZD, ZE, ZF, ZG, ZH, ZI, ZJ, ZK, ZL, ZM, ZN, ZO, ZP, ZQ, ZR] at h1
    obtain ⟨b, T', pre, post, rfl, hro⟩ := h.open1 (show 0 < zs.length by omega)
    obtain ⟨x, hx⟩ := get_some (xs := zs) (i := i) (by omega)
    have hd : zs.drop i = x :: zs.drop (i + 1) := by rw [List.drop_eq_getElem_cons (by omega)]; congr 1; rw [List.getElem?_eq_getElem (by omega)] at hx; exact Option.some.inj hx
    refine Run.skip ?_
    refine Run.seq ?_
    refine Run.block ?_
    refine Run.sr ?_
    refine RunL.pure (Pure.indexAddr rfl rfl und77 sz3 (by omega) (by omega)) (Wt.none rfl) rfl rfl ?_
    refine RunL.load1R rfl hro (elem1_at hx) agg3 (Wt.none rfl) rfl ?_
    refine RunL.as rfl rfl ?_
    refine RunL.nil ?_
    refine Run.sr ?_
    refine RunL.mv rfl rfl ?_
    refine RunL.mv rfl rfl ?_
    refine RunL.pure (Pure.neq rfl rfl) (Wt.none rfl) rfl rfl ?_
    refine RunL.nil ?_
    refine Run.cond rfl (fun h2 => ?_) (fun h2 => ?_)
    · try simp only [ZA, ZB, ZC, ZD, ZE, ZF, ZG, ZH, ZI, ZJ, ZK, ZL, ZM, ZN, ZO, ZP, ZQ, ZR] at h2
      refine Run.sr ?_
      refine RunL.mv rfl rfl ?_
      refine RunL.as rfl rfl ?_
      refine RunL.nil ?_
      exact Run.ret Tryz.func45 (res1 rfl rfl) (by exact ⟨by rw [ho, hd, orL, orI, if_pos h2], rfl⟩) (by repeat (first | (with_reducible exact Fin.done (by repeat (first | (with_reducible exact Rest.here) | apply Rest.there))) | (apply Fin.cons (by first | ((repeat (first | (with_reducible exact F0 _) | apply F1)); done) | (repeat (first | exact F0 _ | apply F1))))))
    · try simp only [ZA, ZB, ZC, ZD, ZE, ZF, ZG, ZH, ZI, ZJ, ZK, ZL, ZM, ZN, ZO, ZP, ZQ, ZR] at h2
      refine Run.skip ?_
      refine Run.inBlock ?_
      refine Run.region ?_
      first | refine RunL.pure (Pure.addI rfl rfl (by omega)) (Wt.none rfl) rfl rfl ?_ | refine RunL.pure (Pure.add rfl rfl) (Wt.none rfl) rfl rfl ?_
      refine RunL.mv rfl rfl ?_
      refine RunL.nil ?_
      refine Run.keep (.cons rfl (.cons rfl (.cons rfl (.cons rfl (.nil)))) : Keep _ [3, 6, 7, 8] _) ?_
      refine ih _ _ _ ?_ ⟨i + 1, by omega, by rw [ho, hd, orL, orI, if_neg (by omega)], rfl, rfl, rfl⟩
      omega
  · try simp only [ZA, ZB, ZC, ZD, ZE, ZF, ZG, ZH, ZI, ZJ, ZK, ZL, ZM, ZN, ZO, ZP, ZQ, ZR] at h1
    refine Run.exit rfl ?_
    refine Run.sr ?_
    refine RunL.mv rfl rfl ?_
    refine RunL.as rfl rfl ?_
    refine RunL.nil ?_
    exact Run.ret Tryz.func45 (res1 rfl rfl) (by exact ⟨by rw [ho, List.drop_of_length_le (by omega)]; rfl, rfl⟩) (by repeat (first | (with_reducible exact Fin.done (by repeat (first | (with_reducible exact Rest.here) | apply Rest.there))) | (apply Fin.cons (by first | ((repeat (first | (with_reducible exact F0 _) | apply F1)); done) | (repeat (first | exact F0 _ | apply F1))))))

end Go.Proofs.YtcmkafellcfbeaaGreat
