/- The small world. -/
import Derived.Test.YtaaondbmkibkkaaGreatO1
import Derived.Test.YtaaondbmkibkkaaGreatProg
set_option linter.unusedVariables false
set_option linter.unusedSimpArgs false
set_option linter.unusedSectionVars false
namespace Go.Proofs.YtaaondbmkibkkaaGreat
open Go Csl
theorem und49 : Tryz.prog.underlying 49 = some (Go.TypeDesc.struct #[{ name := "ID", type := 9, offset := 0, embedded := false, tag := "", pkgPath := "", byteOffset := 0 }, { name := "Room", type := 9, offset := 1, embedded := false, tag := "", pkgPath := "", byteOffset := 16 }, { name := "Parents", type := 47, offset := 2, embedded := false, tag := "", pkgPath := "", byteOffset := 32 }, { name := "Thread", type := 9, offset := 3, embedded := false, tag := "", pkgPath := "", byteOffset := 56 }, { name := "User", type := 9, offset := 4, embedded := false, tag := "", pkgPath := "", byteOffset := 72 }, { name := "Does", type := 3, offset := 5, embedded := false, tag := "", pkgPath := "", byteOffset := 88 }]) := Tryz.underlying49
theorem sz49 : sizeIs Tryz.prog 49 = some 6 := by kernel_rfl
theorem agg49 : isAggOf Tryz.prog 49 = some true := by kernel_rfl
theorem cz9 : Tryz.prog.cellsOf 9 = 1 := by kernel_rfl
theorem und9 : Tryz.prog.underlying 9 = some Go.TypeDesc.string := Tryz.underlying9
theorem cz47 : Tryz.prog.cellsOf 47 = 1 := by kernel_rfl
theorem und47 : Tryz.prog.underlying 47 = some (Go.TypeDesc.slice 9) := Tryz.underlying47
theorem cz3 : Tryz.prog.cellsOf 3 = 1 := by kernel_rfl
theorem und3 : Tryz.prog.underlying 3 = some (Go.TypeDesc.int Go.IntKind.i64) := Tryz.underlying3
theorem cz49 : Tryz.prog.cellsOf 49 = 6 := by kernel_rfl
theorem und69 : Tryz.prog.underlying 69 = some (Go.TypeDesc.struct #[{ name := "Depth", type := 3, offset := 0, embedded := false, tag := "", pkgPath := "", byteOffset := 0 }, { name := "ID", type := 9, offset := 1, embedded := false, tag := "", pkgPath := "", byteOffset := 8 }]) := Tryz.underlying69
theorem sz69 : sizeIs Tryz.prog 69 = some 2 := by kernel_rfl
theorem agg69 : isAggOf Tryz.prog 69 = some true := by kernel_rfl
theorem agg3 : isAggOf Tryz.prog 3 = some false := by kernel_rfl
theorem agg9 : isAggOf Tryz.prog 9 = some false := by kernel_rfl
theorem cz69 : Tryz.prog.cellsOf 69 = 2 := by kernel_rfl
theorem und130 : Tryz.prog.underlying 130 = some (Go.TypeDesc.struct #[{ name := "User", type := 3, offset := 0, embedded := false, tag := "", pkgPath := "", byteOffset := 0 }, { name := "Does", type := 3, offset := 1, embedded := false, tag := "", pkgPath := "", byteOffset := 8 }, { name := "Parents", type := 43, offset := 2, embedded := false, tag := "", pkgPath := "", byteOffset := 16 }, { name := "Thread", type := 3, offset := 3, embedded := false, tag := "", pkgPath := "", byteOffset := 40 }]) := Tryz.underlying130
theorem sz130 : sizeIs Tryz.prog 130 = some 4 := by kernel_rfl
theorem agg130 : isAggOf Tryz.prog 130 = some true := by kernel_rfl
theorem cz43 : Tryz.prog.cellsOf 43 = 1 := by kernel_rfl
theorem und43 : Tryz.prog.underlying 43 = some (Go.TypeDesc.slice 3) := Tryz.underlying43
theorem cz130 : Tryz.prog.cellsOf 130 = 4 := by kernel_rfl
theorem und23 : Tryz.prog.underlying 23 = some (Go.TypeDesc.struct #[{ name := "Kind", type := 3, offset := 0, embedded := false, tag := "", pkgPath := "", byteOffset := 0 }, { name := "Room", type := 9, offset := 1, embedded := false, tag := "", pkgPath := "", byteOffset := 8 }, { name := "User", type := 9, offset := 2, embedded := false, tag := "", pkgPath := "", byteOffset := 24 }, { name := "Event", type := 9, offset := 3, embedded := false, tag := "", pkgPath := "", byteOffset := 40 }, { name := "Thread", type := 9, offset := 4, embedded := false, tag := "", pkgPath := "", byteOffset := 56 }, { name := "Private", type := 4, offset := 5, embedded := false, tag := "", pkgPath := "", byteOffset := 72 }, { name := "On", type := 4, offset := 6, embedded := false, tag := "", pkgPath := "", byteOffset := 73 }, { name := "Span", type := 3, offset := 7, embedded := false, tag := "", pkgPath := "", byteOffset := 80 }, { name := "State", type := 3, offset := 8, embedded := false, tag := "", pkgPath := "", byteOffset := 88 }, { name := "Tick", type := 3, offset := 9, embedded := false, tag := "", pkgPath := "", byteOffset := 96 }, { name := "Stamp", type := 3, offset := 10, embedded := false, tag := "", pkgPath := "", byteOffset := 104 }]) := Tryz.underlying23
theorem sz23 : sizeIs Tryz.prog 23 = some 11 := by kernel_rfl
theorem agg23 : isAggOf Tryz.prog 23 = some true := by kernel_rfl
theorem agg4 : isAggOf Tryz.prog 4 = some false := by kernel_rfl
theorem und4 : Tryz.prog.underlying 4 = some Go.TypeDesc.bool := Tryz.underlying4
theorem cz4 : Tryz.prog.cellsOf 4 = 1 := by kernel_rfl
theorem cz23 : Tryz.prog.cellsOf 23 = 11 := by kernel_rfl
theorem und33 : Tryz.prog.underlying 33 = some (Go.TypeDesc.struct #[{ name := "Room", type := 9, offset := 0, embedded := false, tag := "", pkgPath := "", byteOffset := 0 }, { name := "User", type := 9, offset := 1, embedded := false, tag := "", pkgPath := "", byteOffset := 16 }, { name := "Thread", type := 9, offset := 2, embedded := false, tag := "", pkgPath := "", byteOffset := 32 }, { name := "Private", type := 4, offset := 3, embedded := false, tag := "", pkgPath := "", byteOffset := 48 }]) := Tryz.underlying33
theorem sz33 : sizeIs Tryz.prog 33 = some 4 := by kernel_rfl
theorem agg33 : isAggOf Tryz.prog 33 = some true := by kernel_rfl
theorem cz33 : Tryz.prog.cellsOf 33 = 4 := by kernel_rfl
theorem und34 : Tryz.prog.underlying 34 = some (Go.TypeDesc.struct #[{ name := "Room", type := 9, offset := 0, embedded := false, tag := "", pkgPath := "", byteOffset := 0 }, { name := "User", type := 9, offset := 1, embedded := false, tag := "", pkgPath := "", byteOffset := 16 }, { name := "Thread", type := 9, offset := 2, embedded := false, tag := "", pkgPath := "", byteOffset := 32 }, { name := "Private", type := 4, offset := 3, embedded := false, tag := "", pkgPath := "", byteOffset := 48 }]) := Tryz.underlying34
theorem sz34 : sizeIs Tryz.prog 34 = some 4 := by kernel_rfl
theorem agg34 : isAggOf Tryz.prog 34 = some true := by kernel_rfl
theorem cz34 : Tryz.prog.cellsOf 34 = 4 := by kernel_rfl
theorem und117 : Tryz.prog.underlying 117 = some (Go.TypeDesc.struct #[{ name := "K", type := 33, offset := 0, embedded := false, tag := "", pkgPath := "", byteOffset := 0 }, { name := "At", type := 69, offset := 4, embedded := false, tag := "", pkgPath := "", byteOffset := 56 }]) := Tryz.underlying117
theorem sz117 : sizeIs Tryz.prog 117 = some 6 := by kernel_rfl
theorem agg117 : isAggOf Tryz.prog 117 = some true := by kernel_rfl
theorem cz117 : Tryz.prog.cellsOf 117 = 6 := by kernel_rfl
theorem und115 : Tryz.prog.underlying 115 = some (Go.TypeDesc.struct #[{ name := "Key", type := 34, offset := 0, embedded := true, tag := "", pkgPath := "", byteOffset := 0 }, { name := "At", type := 69, offset := 4, embedded := false, tag := "", pkgPath := "", byteOffset := 56 }]) := Tryz.underlying115
theorem sz115 : sizeIs Tryz.prog 115 = some 6 := by kernel_rfl
theorem agg115 : isAggOf Tryz.prog 115 = some true := by kernel_rfl
theorem cz115 : Tryz.prog.cellsOf 115 = 6 := by kernel_rfl
theorem sz9 : sizeIs Tryz.prog 9 = some 1 := by kernel_rfl
theorem zz9 : zeroIs Tryz.prog 9 = some (.string .empty) := by kernel_rfl
theorem und5 : Tryz.prog.underlying 5 = some (Go.TypeDesc.int Go.IntKind.u8) := Tryz.underlying5
theorem und176 : Tryz.prog.underlying 176 = some (Go.TypeDesc.slice 5) := Tryz.underlying176
theorem sz5 : sizeIs Tryz.prog 5 = some 1 := by kernel_rfl
theorem zz5 : zeroIs Tryz.prog 5 = some (.int .u8 0) := by kernel_rfl
theorem sz3 : sizeIs Tryz.prog 3 = some 1 := by kernel_rfl

namespace Csl
/-- A number from 0 on, below 'm'. -/
def around (z m : Int) : Int := (if z < 0 then -(z + 1) else z) % m
theorem around_lt {z m : Int} (h : 0 < m) : 0 ≤ around z m ∧ around z m < m := ⟨Int.emod_nonneg _ (by omega), Int.emod_lt_of_pos _ h⟩
theorem around_id {z m : Int} (h0 : 0 ≤ z) (h : z < m) : around z m = z := by unfold around; rw [if_neg (by omega)]; exact Int.emod_eq_of_lt h0 h
/-- The first so many bytes. -/
def cut (s : ByteArray) (m : Nat) : ByteArray := ⟨((bl s).take m).toArray⟩
theorem bl_cut (s : ByteArray) (m : Nat) : bl (cut s m) = (bl s).take m := bl_mk _
theorem cut_size (s : ByteArray) (m : Nat) : (cut s m).size ≤ m := by rw [← bl_length, bl_cut, List.length_take]; omega
def roomOf (z : Int) : ByteArray := [(⟨#[33, 114, 58, 115, 49]⟩ : ByteArray), ⟨#[33, 113, 58, 115, 50]⟩].getD (around z 2).toNat .empty
def serverOf (z : Int) : ByteArray := [(⟨#[115, 49]⟩ : ByteArray), ⟨#[115, 50]⟩, ⟨#[115, 51]⟩].getD (around z 3).toNat .empty
def signOf (z : Int) : ByteArray := [(⟨#[64, 97, 58]⟩ : ByteArray), ⟨#[64, 98, 58]⟩, ⟨#[64, 99, 58]⟩].getD z.toNat .empty
def userOf (z : Int) : ByteArray := signOf (around z 9 / 3) ++ serverOf (around z 9 % 3)
def digit (z : Int) : ByteArray := ⟨#[UInt8.ofNat (48 + z.toNat)]⟩
def eventOf (z : Int) : ByteArray := (⟨#[36, 101]⟩ : ByteArray) ++ digit (around z 9)
def threadOf (z : Int) : ByteArray := if around z 11 = 9 then .empty else if around z 11 = 10 then ⟨#[109, 97, 105, 110]⟩ else eventOf (around z 11)
theorem getD_size {l : List ByteArray} {i m : Nat} (h : ∀ s ∈ l, s.size ≤ m) : (l.getD i .empty).size ≤ m := by
  rw [List.getD_eq_getElem?_getD]
  cases hq : l[i]? with
  | none => exact Nat.zero_le _
  | some x => exact h x (List.mem_of_getElem? hq)
theorem serverOf_size (z : Int) : (serverOf z).size ≤ 2 := getD_size (by intro s hs; simp at hs; rcases hs with rfl | rfl | rfl <;> decide)
theorem signOf_size (z : Int) : (signOf z).size ≤ 3 := getD_size (by intro s hs; simp at hs; rcases hs with rfl | rfl | rfl <;> decide)
theorem roomOf_size (z : Int) : (roomOf z).size ≤ 5 := getD_size (by intro s hs; simp at hs; rcases hs with rfl | rfl <;> decide)
theorem userOf_size (z : Int) : (userOf z).size ≤ 5 := by unfold userOf; rw [size_app]; have := signOf_size (around z 9 / 3); have := serverOf_size (around z 9 % 3); omega
theorem eventOf_size (z : Int) : (eventOf z).size = 3 := by unfold eventOf; rw [size_app]; rfl
theorem threadOf_size (z : Int) : (threadOf z).size ≤ 4 := by
  unfold threadOf; split
  · decide
  · split
    · decide
    · rw [eventOf_size]; decide
end Csl
namespace Csl
structure Sli where
  a : Option Addr
  n : Nat
  c : Nat
structure Evn where
  id : ByteArray
  room : ByteArray
  par : Sli
  thread : ByteArray
  user : ByteArray
  does : Int

def cEvn (x : Evn) : List Value := [.string x.id, .string x.room, .slice x.par.a x.par.n x.par.c, .string x.thread, .string x.user, .int .i64 x.does]
def okEvn (x : Evn) : Prop := x.id.size ≤ 9223372036854775807 ∧ x.room.size ≤ 9223372036854775807 ∧ x.thread.size ≤ 9223372036854775807 ∧ x.user.size ≤ 9223372036854775807 ∧ (Lit.int .i64 x.does).wf = true
structure Pos where
  depth : Int
  id : ByteArray
  deriving DecidableEq
def cPos (x : Pos) : List Value := [.int .i64 x.depth, .string x.id]
def okPos (x : Pos) : Prop := (Lit.int .i64 x.depth).wf = true ∧ x.id.size ≤ 9223372036854775807
structure DD where
  room : ByteArray
  l : Sli

def cDD (x : DD) : List Value := [.string x.room, .slice x.l.a x.l.n x.l.c]
def okDD (x : DD) : Prop := x.room.size ≤ 9223372036854775807
structure GG where
  user : Int
  does : Int
  par : Sli
  thread : Int

def cGG (x : GG) : List Value := [.int .i64 x.user, .int .i64 x.does, .slice x.par.a x.par.n x.par.c, .int .i64 x.thread]
def okGG (x : GG) : Prop := (Lit.int .i64 x.user).wf = true ∧ (Lit.int .i64 x.does).wf = true ∧ (Lit.int .i64 x.thread).wf = true
structure Edu where
  kind : Int
  room : ByteArray
  user : ByteArray
  event : ByteArray
  thread : ByteArray
  priv : Bool
  typing : Bool
  span : Int
  state : Int
  tick : Int
  stamp : Int
  deriving DecidableEq
def cEdu (x : Edu) : List Value := [.int .i64 x.kind, .string x.room, .string x.user, .string x.event, .string x.thread, .bool x.priv, .bool x.typing, .int .i64 x.span, .int .i64 x.state, .int .i64 x.tick, .int .i64 x.stamp]
def okEdu (x : Edu) : Prop := (Lit.int .i64 x.kind).wf = true ∧ x.room.size ≤ 9223372036854775807 ∧ x.user.size ≤ 9223372036854775807 ∧ x.event.size ≤ 9223372036854775807 ∧ x.thread.size ≤ 9223372036854775807 ∧ (Lit.int .i64 x.span).wf = true ∧ (Lit.int .i64 x.state).wf = true ∧ (Lit.int .i64 x.tick).wf = true ∧ (Lit.int .i64 x.stamp).wf = true
structure K where
  room : ByteArray
  user : ByteArray
  thread : ByteArray
  priv : Bool
  deriving DecidableEq
def cK (x : K) : List Value := [.string x.room, .string x.user, .string x.thread, .bool x.priv]
def okK (x : K) : Prop := x.room.size ≤ 9223372036854775807 ∧ x.user.size ≤ 9223372036854775807 ∧ x.thread.size ≤ 9223372036854775807
structure VV where
  d : Sli

def cVV (x : VV) : List Value := [.slice x.d.a x.d.n x.d.c]
def okVV (x : VV) : Prop := True
structure PP where
  most : Int
  l : Sli
  lost : Int

def cPP (x : PP) : List Value := [.int .i64 x.most, .slice x.l.a x.l.n x.l.c, .int .i64 x.lost]
def okPP (x : PP) : Prop := (Lit.int .i64 x.most).wf = true ∧ (Lit.int .i64 x.lost).wf = true
structure Nde where
  e : Evn
  depth : Int
  parent : Bool

def cNde (x : Nde) : List Value := [.string x.e.id, .string x.e.room, .slice x.e.par.a x.e.par.n x.e.par.c, .string x.e.thread, .string x.e.user, .int .i64 x.e.does, .int .i64 x.depth, .bool x.parent]
def okNde (x : Nde) : Prop := okEvn x.e ∧ (Lit.int .i64 x.depth).wf = true
structure M where
  k : K
  pos : Pos
  deriving DecidableEq
def cM (x : M) : List Value := [.string x.k.room, .string x.k.user, .string x.k.thread, .bool x.k.priv, .int .i64 x.pos.depth, .string x.pos.id]
def okM (x : M) : Prop := okK x.k ∧ okPos x.pos
structure SS where
  l : Sli
  p : PP

def cSS (x : SS) : List Value := [.slice x.l.a x.l.n x.l.c, .int .i64 x.p.most, .slice x.p.l.a x.p.l.n x.p.l.c, .int .i64 x.p.lost]
def okSS (x : SS) : Prop := okPP x.p
end Csl

set_option maxRecDepth 100000 in
theorem tr49 {H : Type} {enc : TypeId × Value → H} {w : World} {vs : List Value} (h : Tr enc Tryz.prog w 49 vs) : ∃ x : Evn, vs = cEvn x ∧ (okEvn x ∧ Tr enc Tryz.prog w 47 [.slice x.par.a x.par.n x.par.c]) := by
  obtain ⟨h1, h2⟩ := h.struct und49
  rw [cz49] at h1
  match vs, h1 with
  | [v0, v1, v2, v3, v4, v5], _ =>
    have q0 : Tr enc Tryz.prog w 9 (([v0, v1, v2, v3, v4, v5].drop 0).take 1) := Tr.fieldAt h2 0 rfl cz9
    obtain ⟨x0, e0, w0⟩ := q0.string und9
    have q1 : Tr enc Tryz.prog w 9 (([v0, v1, v2, v3, v4, v5].drop 1).take 1) := Tr.fieldAt h2 1 rfl cz9
    obtain ⟨x1, e1, w1⟩ := q1.string und9
    have q2 : Tr enc Tryz.prog w 47 (([v0, v1, v2, v3, v4, v5].drop 2).take 1) := Tr.fieldAt h2 2 rfl cz47
    obtain ⟨sa2, sl2, sc2, e2, w2⟩ := q2.slice und47
    have t2 := q2; rw [e2] at t2
    have q3 : Tr enc Tryz.prog w 9 (([v0, v1, v2, v3, v4, v5].drop 3).take 1) := Tr.fieldAt h2 3 rfl cz9
    obtain ⟨x3, e3, w3⟩ := q3.string und9
    have q4 : Tr enc Tryz.prog w 9 (([v0, v1, v2, v3, v4, v5].drop 4).take 1) := Tr.fieldAt h2 4 rfl cz9
    obtain ⟨x4, e4, w4⟩ := q4.string und9
    have q5 : Tr enc Tryz.prog w 3 (([v0, v1, v2, v3, v4, v5].drop 5).take 1) := Tr.fieldAt h2 5 rfl cz3
    obtain ⟨x5, e5, w5⟩ := q5.int und3
    refine ⟨⟨x0, x1, ⟨sa2, sl2, sc2⟩, x3, x4, x5⟩, ?_, ⟨⟨w0, w1, w3, w4, w5⟩, t2⟩⟩
    simp only [List.drop_zero, List.drop_succ_cons, List.take_succ_cons, List.take_zero] at e0 e1 e2 e3 e4 e5
    simp only [List.cons.injEq, and_true] at e0 e1 e2 e3 e4 e5
    simp_all [cEvn]
theorem eqv69 (a b : Pos) : Eqv Tryz.prog 2 69 (.agg (cPos a).toArray) (.agg (cPos b).toArray) (decide (a = b)) :=
  Eqv.struct und69 (by kernel_rfl) (.cell rfl agg3 rfl rfl ((Eqv.int und3).up (by decide)) (.cell rfl agg9 rfl rfl ((Eqv.string und9).up (by decide)) .nil)) (by rw [Bool.eq_iff_iff]; cases a; cases b; simp)
theorem ck69 (a : Pos) : Ck Tryz.prog 2 69 (.agg (cPos a).toArray) := Ck.struct und69 (.cell rfl agg3 rfl ((Ck.int und3).up (by decide)) (.cell rfl agg9 rfl ((Ck.string und9).up (by decide)) .nil))
theorem key69 : KeyT Tryz.prog 69 (fun k : Pos => .agg (cPos k).toArray) := KeyT.struct und69 eqv69 (by decide) ck69 (by decide) (fun a v hv => by simp only [cPos, List.mem_cons, List.not_mem_nil, or_false] at hv; rcases hv with rfl | rfl <;> rfl)
theorem eqg69 : Tryz.prog.eqGuardType Tryz.prog.depth 69 = false := by kernel_rfl
set_option maxRecDepth 100000 in
theorem tr69 {H : Type} {enc : TypeId × Value → H} {w : World} {vs : List Value} (h : Tr enc Tryz.prog w 69 vs) : ∃ x : Pos, vs = cPos x ∧ okPos x := by
  obtain ⟨h1, h2⟩ := h.struct und69
  rw [cz69] at h1
  match vs, h1 with
  | [v0, v1], _ =>
    have q0 : Tr enc Tryz.prog w 3 (([v0, v1].drop 0).take 1) := Tr.fieldAt h2 0 rfl cz3
    obtain ⟨x0, e0, w0⟩ := q0.int und3
    have q1 : Tr enc Tryz.prog w 9 (([v0, v1].drop 1).take 1) := Tr.fieldAt h2 1 rfl cz9
    obtain ⟨x1, e1, w1⟩ := q1.string und9
    refine ⟨⟨x0, x1⟩, ?_, ⟨w0, w1⟩⟩
    simp only [List.drop_zero, List.drop_succ_cons, List.take_succ_cons, List.take_zero] at e0 e1
    simp only [List.cons.injEq, and_true] at e0 e1
    simp_all [cPos]
set_option maxRecDepth 100000 in
theorem tr130 {H : Type} {enc : TypeId × Value → H} {w : World} {vs : List Value} (h : Tr enc Tryz.prog w 130 vs) : ∃ x : GG, vs = cGG x ∧ (okGG x ∧ Tr enc Tryz.prog w 43 [.slice x.par.a x.par.n x.par.c]) := by
  obtain ⟨h1, h2⟩ := h.struct und130
  rw [cz130] at h1
  match vs, h1 with
  | [v0, v1, v2, v3], _ =>
    have q0 : Tr enc Tryz.prog w 3 (([v0, v1, v2, v3].drop 0).take 1) := Tr.fieldAt h2 0 rfl cz3
    obtain ⟨x0, e0, w0⟩ := q0.int und3
    have q1 : Tr enc Tryz.prog w 3 (([v0, v1, v2, v3].drop 1).take 1) := Tr.fieldAt h2 1 rfl cz3
    obtain ⟨x1, e1, w1⟩ := q1.int und3
    have q2 : Tr enc Tryz.prog w 43 (([v0, v1, v2, v3].drop 2).take 1) := Tr.fieldAt h2 2 rfl cz43
    obtain ⟨sa2, sl2, sc2, e2, w2⟩ := q2.slice und43
    have t2 := q2; rw [e2] at t2
    have q3 : Tr enc Tryz.prog w 3 (([v0, v1, v2, v3].drop 3).take 1) := Tr.fieldAt h2 3 rfl cz3
    obtain ⟨x3, e3, w3⟩ := q3.int und3
    refine ⟨⟨x0, x1, ⟨sa2, sl2, sc2⟩, x3⟩, ?_, ⟨⟨w0, w1, w3⟩, t2⟩⟩
    simp only [List.drop_zero, List.drop_succ_cons, List.take_succ_cons, List.take_zero] at e0 e1 e2 e3
    simp only [List.cons.injEq, and_true] at e0 e1 e2 e3
    simp_all [cGG]
theorem eqv23 (a b : Edu) : Eqv Tryz.prog 2 23 (.agg (cEdu a).toArray) (.agg (cEdu b).toArray) (decide (a = b)) :=
  Eqv.struct und23 (by kernel_rfl) (.cell rfl agg3 rfl rfl ((Eqv.int und3).up (by decide)) (.cell rfl agg9 rfl rfl ((Eqv.string und9).up (by decide)) (.cell rfl agg9 rfl rfl ((Eqv.string und9).up (by decide)) (.cell rfl agg9 rfl rfl ((Eqv.string und9).up (by decide)) (.cell rfl agg9 rfl rfl ((Eqv.string und9).up (by decide)) (.cell rfl agg4 rfl rfl ((Eqv.bool und4).up (by decide)) (.cell rfl agg4 rfl rfl ((Eqv.bool und4).up (by decide)) (.cell rfl agg3 rfl rfl ((Eqv.int und3).up (by decide)) (.cell rfl agg3 rfl rfl ((Eqv.int und3).up (by decide)) (.cell rfl agg3 rfl rfl ((Eqv.int und3).up (by decide)) (.cell rfl agg3 rfl rfl ((Eqv.int und3).up (by decide)) .nil))))))))))) (by rw [Bool.eq_iff_iff]; cases a; cases b; simp)
theorem ck23 (a : Edu) : Ck Tryz.prog 2 23 (.agg (cEdu a).toArray) := Ck.struct und23 (.cell rfl agg3 rfl ((Ck.int und3).up (by decide)) (.cell rfl agg9 rfl ((Ck.string und9).up (by decide)) (.cell rfl agg9 rfl ((Ck.string und9).up (by decide)) (.cell rfl agg9 rfl ((Ck.string und9).up (by decide)) (.cell rfl agg9 rfl ((Ck.string und9).up (by decide)) (.cell rfl agg4 rfl ((Ck.bool und4).up (by decide)) (.cell rfl agg4 rfl ((Ck.bool und4).up (by decide)) (.cell rfl agg3 rfl ((Ck.int und3).up (by decide)) (.cell rfl agg3 rfl ((Ck.int und3).up (by decide)) (.cell rfl agg3 rfl ((Ck.int und3).up (by decide)) (.cell rfl agg3 rfl ((Ck.int und3).up (by decide)) .nil)))))))))))
theorem key23 : KeyT Tryz.prog 23 (fun k : Edu => .agg (cEdu k).toArray) := KeyT.struct und23 eqv23 (by decide) ck23 (by decide) (fun a v hv => by simp only [cEdu, List.mem_cons, List.not_mem_nil, or_false] at hv; rcases hv with rfl | rfl | rfl | rfl | rfl | rfl | rfl | rfl | rfl | rfl | rfl <;> rfl)
theorem eqg23 : Tryz.prog.eqGuardType Tryz.prog.depth 23 = false := by kernel_rfl
set_option maxRecDepth 100000 in
theorem tr23 {H : Type} {enc : TypeId × Value → H} {w : World} {vs : List Value} (h : Tr enc Tryz.prog w 23 vs) : ∃ x : Edu, vs = cEdu x ∧ okEdu x := by
  obtain ⟨h1, h2⟩ := h.struct und23
  rw [cz23] at h1
  match vs, h1 with
  | [v0, v1, v2, v3, v4, v5, v6, v7, v8, v9, v10], _ =>
    have q0 : Tr enc Tryz.prog w 3 (([v0, v1, v2, v3, v4, v5, v6, v7, v8, v9, v10].drop 0).take 1) := Tr.fieldAt h2 0 rfl cz3
    obtain ⟨x0, e0, w0⟩ := q0.int und3
    have q1 : Tr enc Tryz.prog w 9 (([v0, v1, v2, v3, v4, v5, v6, v7, v8, v9, v10].drop 1).take 1) := Tr.fieldAt h2 1 rfl cz9
    obtain ⟨x1, e1, w1⟩ := q1.string und9
    have q2 : Tr enc Tryz.prog w 9 (([v0, v1, v2, v3, v4, v5, v6, v7, v8, v9, v10].drop 2).take 1) := Tr.fieldAt h2 2 rfl cz9
    obtain ⟨x2, e2, w2⟩ := q2.string und9
    have q3 : Tr enc Tryz.prog w 9 (([v0, v1, v2, v3, v4, v5, v6, v7, v8, v9, v10].drop 3).take 1) := Tr.fieldAt h2 3 rfl cz9
    obtain ⟨x3, e3, w3⟩ := q3.string und9
    have q4 : Tr enc Tryz.prog w 9 (([v0, v1, v2, v3, v4, v5, v6, v7, v8, v9, v10].drop 4).take 1) := Tr.fieldAt h2 4 rfl cz9
    obtain ⟨x4, e4, w4⟩ := q4.string und9
    have q5 : Tr enc Tryz.prog w 4 (([v0, v1, v2, v3, v4, v5, v6, v7, v8, v9, v10].drop 5).take 1) := Tr.fieldAt h2 5 rfl cz4
    obtain ⟨x5, e5⟩ := q5.bool und4
    have q6 : Tr enc Tryz.prog w 4 (([v0, v1, v2, v3, v4, v5, v6, v7, v8, v9, v10].drop 6).take 1) := Tr.fieldAt h2 6 rfl cz4
    obtain ⟨x6, e6⟩ := q6.bool und4
    have q7 : Tr enc Tryz.prog w 3 (([v0, v1, v2, v3, v4, v5, v6, v7, v8, v9, v10].drop 7).take 1) := Tr.fieldAt h2 7 rfl cz3
    obtain ⟨x7, e7, w7⟩ := q7.int und3
    have q8 : Tr enc Tryz.prog w 3 (([v0, v1, v2, v3, v4, v5, v6, v7, v8, v9, v10].drop 8).take 1) := Tr.fieldAt h2 8 rfl cz3
    obtain ⟨x8, e8, w8⟩ := q8.int und3
    have q9 : Tr enc Tryz.prog w 3 (([v0, v1, v2, v3, v4, v5, v6, v7, v8, v9, v10].drop 9).take 1) := Tr.fieldAt h2 9 rfl cz3
    obtain ⟨x9, e9, w9⟩ := q9.int und3
    have q10 : Tr enc Tryz.prog w 3 (([v0, v1, v2, v3, v4, v5, v6, v7, v8, v9, v10].drop 10).take 1) := Tr.fieldAt h2 10 rfl cz3
    obtain ⟨x10, e10, w10⟩ := q10.int und3
    refine ⟨⟨x0, x1, x2, x3, x4, x5, x6, x7, x8, x9, x10⟩, ?_, ⟨w0, w1, w2, w3, w4, w7, w8, w9, w10⟩⟩
    simp only [List.drop_zero, List.drop_succ_cons, List.take_succ_cons, List.take_zero] at e0 e1 e2 e3 e4 e5 e6 e7 e8 e9 e10
    simp only [List.cons.injEq, and_true] at e0 e1 e2 e3 e4 e5 e6 e7 e8 e9 e10
    simp_all [cEdu]
theorem eqv33 (a b : K) : Eqv Tryz.prog 2 33 (.agg (cK a).toArray) (.agg (cK b).toArray) (decide (a = b)) :=
  Eqv.struct und33 (by kernel_rfl) (.cell rfl agg9 rfl rfl ((Eqv.string und9).up (by decide)) (.cell rfl agg9 rfl rfl ((Eqv.string und9).up (by decide)) (.cell rfl agg9 rfl rfl ((Eqv.string und9).up (by decide)) (.cell rfl agg4 rfl rfl ((Eqv.bool und4).up (by decide)) .nil)))) (by rw [Bool.eq_iff_iff]; cases a; cases b; simp)
theorem ck33 (a : K) : Ck Tryz.prog 2 33 (.agg (cK a).toArray) := Ck.struct und33 (.cell rfl agg9 rfl ((Ck.string und9).up (by decide)) (.cell rfl agg9 rfl ((Ck.string und9).up (by decide)) (.cell rfl agg9 rfl ((Ck.string und9).up (by decide)) (.cell rfl agg4 rfl ((Ck.bool und4).up (by decide)) .nil))))
theorem key33 : KeyT Tryz.prog 33 (fun k : K => .agg (cK k).toArray) := KeyT.struct und33 eqv33 (by decide) ck33 (by decide) (fun a v hv => by simp only [cK, List.mem_cons, List.not_mem_nil, or_false] at hv; rcases hv with rfl | rfl | rfl | rfl <;> rfl)
theorem eqg33 : Tryz.prog.eqGuardType Tryz.prog.depth 33 = false := by kernel_rfl
set_option maxRecDepth 100000 in
theorem tr33 {H : Type} {enc : TypeId × Value → H} {w : World} {vs : List Value} (h : Tr enc Tryz.prog w 33 vs) : ∃ x : K, vs = cK x ∧ okK x := by
  obtain ⟨h1, h2⟩ := h.struct und33
  rw [cz33] at h1
  match vs, h1 with
  | [v0, v1, v2, v3], _ =>
    have q0 : Tr enc Tryz.prog w 9 (([v0, v1, v2, v3].drop 0).take 1) := Tr.fieldAt h2 0 rfl cz9
    obtain ⟨x0, e0, w0⟩ := q0.string und9
    have q1 : Tr enc Tryz.prog w 9 (([v0, v1, v2, v3].drop 1).take 1) := Tr.fieldAt h2 1 rfl cz9
    obtain ⟨x1, e1, w1⟩ := q1.string und9
    have q2 : Tr enc Tryz.prog w 9 (([v0, v1, v2, v3].drop 2).take 1) := Tr.fieldAt h2 2 rfl cz9
    obtain ⟨x2, e2, w2⟩ := q2.string und9
    have q3 : Tr enc Tryz.prog w 4 (([v0, v1, v2, v3].drop 3).take 1) := Tr.fieldAt h2 3 rfl cz4
    obtain ⟨x3, e3⟩ := q3.bool und4
    refine ⟨⟨x0, x1, x2, x3⟩, ?_, ⟨w0, w1, w2⟩⟩
    simp only [List.drop_zero, List.drop_succ_cons, List.take_succ_cons, List.take_zero] at e0 e1 e2 e3
    simp only [List.cons.injEq, and_true] at e0 e1 e2 e3
    simp_all [cK]
theorem eqv34 (a b : K) : Eqv Tryz.prog 2 34 (.agg (cK a).toArray) (.agg (cK b).toArray) (decide (a = b)) :=
  Eqv.struct und34 (by kernel_rfl) (.cell rfl agg9 rfl rfl ((Eqv.string und9).up (by decide)) (.cell rfl agg9 rfl rfl ((Eqv.string und9).up (by decide)) (.cell rfl agg9 rfl rfl ((Eqv.string und9).up (by decide)) (.cell rfl agg4 rfl rfl ((Eqv.bool und4).up (by decide)) .nil)))) (by rw [Bool.eq_iff_iff]; cases a; cases b; simp)
theorem ck34 (a : K) : Ck Tryz.prog 2 34 (.agg (cK a).toArray) := Ck.struct und34 (.cell rfl agg9 rfl ((Ck.string und9).up (by decide)) (.cell rfl agg9 rfl ((Ck.string und9).up (by decide)) (.cell rfl agg9 rfl ((Ck.string und9).up (by decide)) (.cell rfl agg4 rfl ((Ck.bool und4).up (by decide)) .nil))))
theorem key34 : KeyT Tryz.prog 34 (fun k : K => .agg (cK k).toArray) := KeyT.struct und34 eqv34 (by decide) ck34 (by decide) (fun a v hv => by simp only [cK, List.mem_cons, List.not_mem_nil, or_false] at hv; rcases hv with rfl | rfl | rfl | rfl <;> rfl)
theorem eqg34 : Tryz.prog.eqGuardType Tryz.prog.depth 34 = false := by kernel_rfl
set_option maxRecDepth 100000 in
theorem tr34 {H : Type} {enc : TypeId × Value → H} {w : World} {vs : List Value} (h : Tr enc Tryz.prog w 34 vs) : ∃ x : K, vs = cK x ∧ okK x := by
  obtain ⟨h1, h2⟩ := h.struct und34
  rw [cz34] at h1
  match vs, h1 with
  | [v0, v1, v2, v3], _ =>
    have q0 : Tr enc Tryz.prog w 9 (([v0, v1, v2, v3].drop 0).take 1) := Tr.fieldAt h2 0 rfl cz9
    obtain ⟨x0, e0, w0⟩ := q0.string und9
    have q1 : Tr enc Tryz.prog w 9 (([v0, v1, v2, v3].drop 1).take 1) := Tr.fieldAt h2 1 rfl cz9
    obtain ⟨x1, e1, w1⟩ := q1.string und9
    have q2 : Tr enc Tryz.prog w 9 (([v0, v1, v2, v3].drop 2).take 1) := Tr.fieldAt h2 2 rfl cz9
    obtain ⟨x2, e2, w2⟩ := q2.string und9
    have q3 : Tr enc Tryz.prog w 4 (([v0, v1, v2, v3].drop 3).take 1) := Tr.fieldAt h2 3 rfl cz4
    obtain ⟨x3, e3⟩ := q3.bool und4
    refine ⟨⟨x0, x1, x2, x3⟩, ?_, ⟨w0, w1, w2⟩⟩
    simp only [List.drop_zero, List.drop_succ_cons, List.take_succ_cons, List.take_zero] at e0 e1 e2 e3
    simp only [List.cons.injEq, and_true] at e0 e1 e2 e3
    simp_all [cK]
theorem eqv117 (a b : M) : Eqv Tryz.prog 3 117 (.agg (cM a).toArray) (.agg (cM b).toArray) (decide (a = b)) :=
  Eqv.struct und117 (by kernel_rfl) (.agg rfl agg33 sz33 rfl rfl ((eqv33 _ _).up (by decide)) (.agg rfl agg69 sz69 rfl rfl ((eqv69 _ _).up (by decide)) .nil)) (by rw [Bool.eq_iff_iff]; cases a; cases b; simp)
theorem ck117 (a : M) : Ck Tryz.prog 3 117 (.agg (cM a).toArray) := Ck.struct und117 (.agg rfl agg33 sz33 rfl ((ck33 _).up (by decide)) (.agg rfl agg69 sz69 rfl ((ck69 _).up (by decide)) .nil))
theorem key117 : KeyT Tryz.prog 117 (fun k : M => .agg (cM k).toArray) := KeyT.struct und117 eqv117 (by decide) ck117 (by decide) (fun a v hv => by simp only [cM, List.mem_cons, List.not_mem_nil, or_false] at hv; rcases hv with rfl | rfl | rfl | rfl | rfl | rfl <;> rfl)
theorem eqg117 : Tryz.prog.eqGuardType Tryz.prog.depth 117 = false := by kernel_rfl
set_option maxRecDepth 100000 in
theorem tr117 {H : Type} {enc : TypeId × Value → H} {w : World} {vs : List Value} (h : Tr enc Tryz.prog w 117 vs) : ∃ x : M, vs = cM x ∧ okM x := by
  obtain ⟨h1, h2⟩ := h.struct und117
  rw [cz117] at h1
  match vs, h1 with
  | [v0, v1, v2, v3, v4, v5], _ =>
    have q0 : Tr enc Tryz.prog w 33 (([v0, v1, v2, v3, v4, v5].drop 0).take 4) := Tr.fieldAt h2 0 rfl cz33
    obtain ⟨x0, e0, w0⟩ := tr33 q0
    have q1 : Tr enc Tryz.prog w 69 (([v0, v1, v2, v3, v4, v5].drop 4).take 2) := Tr.fieldAt h2 1 rfl cz69
    obtain ⟨x1, e1, w1⟩ := tr69 q1
    refine ⟨⟨x0, x1⟩, ?_, ⟨w0, w1⟩⟩
    simp only [List.drop_zero, List.drop_succ_cons, List.take_succ_cons, List.take_zero, cK, cPos] at e0 e1
    simp only [List.cons.injEq, and_true] at e0 e1
    simp_all [cM]
theorem eqv115 (a b : M) : Eqv Tryz.prog 3 115 (.agg (cM a).toArray) (.agg (cM b).toArray) (decide (a = b)) :=
  Eqv.struct und115 (by kernel_rfl) (.agg rfl agg34 sz34 rfl rfl ((eqv34 _ _).up (by decide)) (.agg rfl agg69 sz69 rfl rfl ((eqv69 _ _).up (by decide)) .nil)) (by rw [Bool.eq_iff_iff]; cases a; cases b; simp)
theorem ck115 (a : M) : Ck Tryz.prog 3 115 (.agg (cM a).toArray) := Ck.struct und115 (.agg rfl agg34 sz34 rfl ((ck34 _).up (by decide)) (.agg rfl agg69 sz69 rfl ((ck69 _).up (by decide)) .nil))
theorem key115 : KeyT Tryz.prog 115 (fun k : M => .agg (cM k).toArray) := KeyT.struct und115 eqv115 (by decide) ck115 (by decide) (fun a v hv => by simp only [cM, List.mem_cons, List.not_mem_nil, or_false] at hv; rcases hv with rfl | rfl | rfl | rfl | rfl | rfl <;> rfl)
theorem eqg115 : Tryz.prog.eqGuardType Tryz.prog.depth 115 = false := by kernel_rfl
set_option maxRecDepth 100000 in
theorem tr115 {H : Type} {enc : TypeId × Value → H} {w : World} {vs : List Value} (h : Tr enc Tryz.prog w 115 vs) : ∃ x : M, vs = cM x ∧ okM x := by
  obtain ⟨h1, h2⟩ := h.struct und115
  rw [cz115] at h1
  match vs, h1 with
  | [v0, v1, v2, v3, v4, v5], _ =>
    have q0 : Tr enc Tryz.prog w 34 (([v0, v1, v2, v3, v4, v5].drop 0).take 4) := Tr.fieldAt h2 0 rfl cz34
    obtain ⟨x0, e0, w0⟩ := tr34 q0
    have q1 : Tr enc Tryz.prog w 69 (([v0, v1, v2, v3, v4, v5].drop 4).take 2) := Tr.fieldAt h2 1 rfl cz69
    obtain ⟨x1, e1, w1⟩ := tr69 q1
    refine ⟨⟨x0, x1⟩, ?_, ⟨w0, w1⟩⟩
    simp only [List.drop_zero, List.drop_succ_cons, List.take_succ_cons, List.take_zero, cK, cPos] at e0 e1
    simp only [List.cons.injEq, and_true] at e0 e1
    simp_all [cM]
set_option maxRecDepth 100000 in
theorem Around_ctr {G : Gp} {z m : Int} (hz : -9223372036854775808 ≤ z ∧ z ≤ 9223372036854775807) (hm : 0 < m) :
    Ctr Tryz.prog G 20 [.int .i64 z, .int .i64 m] [] (fun F v A => v = .int .i64 (around z m) ∧ A = F) := by
  refine Ctr.intro Tryz.func20 rfl (by kernel_rfl) rfl (fun F => ?_)
  simp only [List.nil_append]
  refine sr' (as' rfl (nl' (sq' (sr' (mv' rfl (pp' (Pure.lss rfl rfl) (nl' ?_)))))))
  refine Run.cond rfl (fun hc1 => ?_) (fun hc1 => ?_)
  · try simp only [Z] at hc1
    refine rg' (mv' rfl ?_)
    first | refine RunL.pure (Pure.addI rfl rfl (by omega)) (Wt.none rfl) rfl rfl ?_ | refine RunL.pure (Pure.add rfl rfl) (Wt.none rfl) rfl rfl ?_
    first | refine RunL.pure (Pure.negI rfl (by omega)) (Wt.none rfl) rfl rfl ?_ | refine RunL.pure (Pure.neg rfl) (Wt.none rfl) rfl rfl ?_
    refine as' rfl (nl' (sr' (mv' rfl (mv' rfl ?_))))
    first | refine RunL.pure (Pure.remI rfl rfl (by omega) (by omega)) (Wt.none rfl) rfl rfl ?_ | refine RunL.pure (Pure.rem rfl rfl (by omega)) (Wt.none rfl) rfl rfl ?_
    refine as' rfl (nl' ?_)
    exact rt' Tryz.func20 (res1 rfl rfl) (by exact ⟨by rw [around, if_pos hc1], rfl⟩)
  · try simp only [Z] at hc1
    refine sk' (sr' (mv' rfl (mv' rfl ?_)))
    first | refine RunL.pure (Pure.remI rfl rfl (by omega) (by omega)) (Wt.none rfl) rfl rfl ?_ | refine RunL.pure (Pure.rem rfl rfl (by omega)) (Wt.none rfl) rfl rfl ?_
    refine as' rfl (nl' ?_)
    exact rt' Tryz.func20 (res1 rfl rfl) (by exact ⟨by rw [around, if_neg (by omega)], rfl⟩)

set_option maxRecDepth 100000 in
theorem Few_ctr {G : Gp} {s : ByteArray} {m : Int} (h0 : 0 ≤ m) (h1 : m ≤ 1000000) :
    Ctr Tryz.prog G 40 [.string s, .int .i64 m] [] (fun F v A => ∃ s', v = .string s' ∧ bl s' = (bl s).take m.toNat ∧ A = F) := by
  refine Ctr.intro Tryz.func40 rfl (by kernel_rfl) rfl (fun F => ?_)
  simp only [List.nil_append]
  refine sr' (as' rfl (nl' (sq' (sr' (mv' rfl (pp' (Pure.lenStr rfl rfl und9) (mv' rfl (pp' (Pure.gtr rfl rfl) (nl' ?_)))))))))
  refine Run.cond rfl (fun hc1 => ?_) (fun hc1 => ?_)
  · try simp only [Z] at hc1
    refine sr' (mv' rfl (mv' rfl ?_))
    refine pp' (Pure.sliceStrTo rfl rfl und9 (by first | omega | (simp; done) | (simp; omega)) (by first | omega | (simp; done) | (simp; omega))) ?_
    refine as' rfl (nl' ?_)
    exact rt' Tryz.func40 (res1 rfl rfl) (by exact ⟨_, rfl, bl_extract0 (by omega), rfl⟩)
  · try simp only [Z] at hc1
    refine sk' (sr' (mv' rfl (as' rfl (nl' ?_))))
    exact rt' Tryz.func40 (res1 rfl rfl) (by exact ⟨_, rfl, (List.take_of_length_le (by rw [bl_length]; omega)).symm, rfl⟩)

theorem FewC_ctr {G : Gp} {s : ByteArray} {m : Int} (h0 : 0 ≤ m) (h1 : m ≤ 1000000) : Ctr Tryz.prog G 40 [.string s, .int .i64 m] [] (fun F v A => v = .string (cut s m.toNat) ∧ A = F) := (Few_ctr h0 h1).mono (by rintro F v A ⟨s', rfl, hs, rfl⟩; exact ⟨by rw [bl_inj (hs.trans (bl_cut s _).symm)], rfl⟩)
set_option maxRecDepth 100000 in
theorem RoomOf_ctr {G : Gp} {z : Int} (hz : -9223372036854775808 ≤ z ∧ z ≤ 9223372036854775807) :
    Ctr Tryz.prog G 32 [.int .i64 z] [] (fun F v A => v = .string (roomOf z) ∧ A = F) := by
  refine Ctr.intro Tryz.func32 rfl (by kernel_rfl) rfl (fun F => ?_)
  simp only [List.nil_append]
  refine sr' (as' rfl (nl' (sr' ?_)))
  refine RunL.lit (vals := [_, _]) (vs := [_, _]) und47 sz9 zz9 rfl rfl rfl rfl rfl rfl (by simp [Value.cells, bv, cDD, cEdu, cEvn, cGG, cK, cM, cNde, cPP, cPos, cSS, cVV]) rfl (Wt.none rfl) rfl ?_; intro b3
  refine mv' rfl ?_
  refine ca' rfl rfl (s := Around_ctr hz (by decide)) (q := ?_)
  rintro _ _ ⟨rfl, hA_⟩
  replace hA_ := hA_.symm; subst hA_
  have hk := around_lt (z := z) (m := 2) (by decide)
  refine RunL.openLit (by first | ((repeat (first | (with_reducible exact F0 _) | apply F1)); done) | (repeat (first | exact F0 _ | apply F1))) ?_; intro post
  refine pp' (Pure.indexAddr rfl rfl und47 sz9 (by omega) (by omega)) ?_
  refine RunL.load1 rfl (by first | ((repeat (first | (with_reducible exact F0 _) | apply F1)); done) | (repeat (first | exact F0 _ | apply F1))) (elem1_at (show _ = some (roomOf z) from getD_some _ (by simp; omega))) agg9 (Wt.none rfl) rfl ?_
  refine as' rfl (nl' ?_)
  exact rt' Tryz.func32 (res1 rfl rfl) (by exact ⟨rfl, rfl⟩)

set_option maxRecDepth 100000 in
theorem ServerOf_ctr {G : Gp} {z : Int} (hz : -9223372036854775808 ≤ z ∧ z ≤ 9223372036854775807) :
    Ctr Tryz.prog G 72 [.int .i64 z] [] (fun F v A => v = .string (serverOf z) ∧ A = F) := by
  refine Ctr.intro Tryz.func72 rfl (by kernel_rfl) rfl (fun F => ?_)
  simp only [List.nil_append]
  refine sr' (as' rfl (nl' (sr' ?_)))
  refine RunL.lit (vals := [_, _, _]) (vs := [_, _, _]) und47 sz9 zz9 rfl rfl rfl rfl rfl rfl (by simp [Value.cells, bv, cDD, cEdu, cEvn, cGG, cK, cM, cNde, cPP, cPos, cSS, cVV]) rfl (Wt.none rfl) rfl ?_; intro b3
  refine mv' rfl ?_
  refine ca' rfl rfl (s := Around_ctr hz (by decide)) (q := ?_)
  rintro _ _ ⟨rfl, hA_⟩
  replace hA_ := hA_.symm; subst hA_
  have hk := around_lt (z := z) (m := 3) (by decide)
  refine RunL.openLit (by first | ((repeat (first | (with_reducible exact F0 _) | apply F1)); done) | (repeat (first | exact F0 _ | apply F1))) ?_; intro post
  refine pp' (Pure.indexAddr rfl rfl und47 sz9 (by omega) (by omega)) ?_
  refine RunL.load1 rfl (by first | ((repeat (first | (with_reducible exact F0 _) | apply F1)); done) | (repeat (first | exact F0 _ | apply F1))) (elem1_at (show _ = some (serverOf z) from getD_some _ (by simp; omega))) agg9 (Wt.none rfl) rfl ?_
  refine as' rfl (nl' ?_)
  exact rt' Tryz.func72 (res1 rfl rfl) (by exact ⟨rfl, rfl⟩)

set_option maxRecDepth 100000 in
theorem UserOf_ctr {G : Gp} {z : Int} (hz : -9223372036854775808 ≤ z ∧ z ≤ 9223372036854775807) :
    Ctr Tryz.prog G 41 [.int .i64 z] [] (fun F v A => v = .string (userOf z) ∧ A = F) := by
  refine Ctr.intro Tryz.func41 rfl (by kernel_rfl) rfl (fun F => ?_)
  simp only [List.nil_append]
  refine sr' (as' rfl (nl' (sr' (mv' rfl ?_))))
  refine ca' rfl rfl (s := Around_ctr hz (by decide)) (q := ?_)
  rintro _ _ ⟨rfl, hA_⟩
  replace hA_ := hA_.symm; subst hA_
  have hk := around_lt (z := z) (m := 9) (by decide)
  have hs1 := signOf_size (around z 9 / 3)
  have hs2 := serverOf_size (around z 9 % 3)
  refine as' rfl (nl' (sq' ?_))
  refine Run.regionD' (by kernel_rfl) (by kernel_rfl) (fun hok14 => ?_)
  refine dp' 1 hok14 rfl (Pure.move rfl) ?_
  first | refine RunD.pure (i := 2) hok14 rfl (by kernel_rfl) (Pure.quoI rfl rfl (by omega) (by omega) (by omega)) (Wt.none rfl) rfl rfl ?_ | refine RunD.pure (i := 2) hok14 rfl (by kernel_rfl) (Pure.quo rfl rfl (by omega)) (Wt.none rfl) rfl rfl ?_
  refine dp' 5 hok14 rfl (Pure.move rfl) ?_
  first | refine RunD.pure (i := 6) hok14 rfl (by kernel_rfl) (Pure.remI rfl rfl (by omega) (by omega)) (Wt.none rfl) rfl rfl ?_ | refine RunD.pure (i := 6) hok14 rfl (by kernel_rfl) (Pure.rem rfl rfl (by omega)) (Wt.none rfl) rfl rfl ?_
  refine RunD.two (i := 0) (j := 7) (by kernel_rfl) rfl rfl ?_ ?_
  · skip
    refine RunL.lit (vals := [_, _, _]) (vs := [_, _, _]) und47 sz9 zz9 rfl rfl rfl rfl rfl rfl (by simp [Value.cells, bv, cDD, cEdu, cEvn, cGG, cK, cM, cNde, cPP, cPos, cSS, cVV]) rfl (Wt.none rfl) rfl ?_; intro b6
    refine RunL.nilD' ?_
    refine RunD.openLit (by first | ((repeat (first | (with_reducible exact F0 _) | apply F1)); done) | (repeat (first | exact F0 _ | apply F1))) ?_; intro post
    refine ld' (row b6 9 _) Lends.row ?_; intro g1 hleg1 hr1 backg1
    refine dp' 3 hok14 rfl (Pure.indexAddr rfl rfl und47 sz9 (by omega) (by omega)) ?_
    refine RunD.load1R (i := 4) hok14 rfl (by kernel_rfl) rfl hr1 (elem1_at (show _ = some (signOf (around z 9 / 3)) from getD_some _ (by simp; omega))) agg9 (Wt.none rfl) rfl ?_
    refine RunD.one (i := 7) (by kernel_rfl) rfl ?_
    refine ca' rfl rfl (s := ServerOf_ctr (z := around z 9 % 3) (by omega)) (q := ?_)
    rintro _ _ ⟨rfl, hA_⟩
    replace hA_ := hA_.symm; subst hA_
    refine RunL.nilD' ?_
    refine dp' 8 hok14 rfl (Pure.sadd rfl rfl (by first | omega | (simp only [size_mk, size_app, List.length_append, bl_length, List.length_cons, List.length_nil]; omega) | (simp; omega))) ?_
    refine dp' 9 hok14 rfl (Pure.assign rfl) ?_
    refine RunD.nilB (by kernel_rfl) (fun w sw => backg1 _ _ (sw)) ?_
    exact rt' Tryz.func41 (res1 rfl rfl) (by exact ⟨rfl, rfl⟩)
  · skip
    refine ca' rfl rfl (s := ServerOf_ctr (z := around z 9 % 3) (by omega)) (q := ?_)
    rintro _ _ ⟨rfl, hA_⟩
    replace hA_ := hA_.symm; subst hA_
    refine RunL.nilD' ?_
    refine RunD.one (i := 0) (by kernel_rfl) rfl ?_
    refine RunL.lit (vals := [_, _, _]) (vs := [_, _, _]) und47 sz9 zz9 rfl rfl rfl rfl rfl rfl (by simp [Value.cells, bv, cDD, cEdu, cEvn, cGG, cK, cM, cNde, cPP, cPos, cSS, cVV]) rfl (Wt.none rfl) rfl ?_; intro b6
    refine RunL.nilD' ?_
    refine RunD.openLit (by first | ((repeat (first | (with_reducible exact F0 _) | apply F1)); done) | (repeat (first | exact F0 _ | apply F1))) ?_; intro post
    refine ld' (row b6 9 _) Lends.row ?_; intro g1 hleg1 hr1 backg1
    refine dp' 3 hok14 rfl (Pure.indexAddr rfl rfl und47 sz9 (by omega) (by omega)) ?_
    refine RunD.load1R (i := 4) hok14 rfl (by kernel_rfl) rfl hr1 (elem1_at (show _ = some (signOf (around z 9 / 3)) from getD_some _ (by simp; omega))) agg9 (Wt.none rfl) rfl ?_
    refine dp' 8 hok14 rfl (Pure.sadd rfl rfl (by first | omega | (simp only [size_mk, size_app, List.length_append, bl_length, List.length_cons, List.length_nil]; omega) | (simp; omega))) ?_
    refine dp' 9 hok14 rfl (Pure.assign rfl) ?_
    refine RunD.nilB (by kernel_rfl) (fun w sw => backg1 _ _ (sw)) ?_
    exact rt' Tryz.func41 (res1 rfl rfl) (by exact ⟨rfl, rfl⟩)

set_option maxRecDepth 100000 in
theorem Decimal_ctr {G : Gp} {z : Int} (h0 : 0 ≤ z) (h9 : z < 10) :
    Ctr Tryz.prog G 73 [.int .i64 z] [] (fun F v A => v = .string (digit z) ∧ A = F) := by
  refine Ctr.intro Tryz.func73 rfl (by kernel_rfl) rfl (fun F => ?_)
  simp only [List.nil_append]
  refine sr' (as' rfl (nl' (sr' (mv' rfl ?_))))
  first | refine RunL.pure (Pure.remI rfl rfl (by omega) (by omega)) (Wt.none rfl) rfl rfl ?_ | refine RunL.pure (Pure.rem rfl rfl (by omega)) (Wt.none rfl) rfl rfl ?_
  refine as' rfl (nl' (sq' (sr' (mv' rfl (pp' (Pure.lss rfl rfl) (nl' ?_))))))
  refine Run.cond rfl (fun hc1 => ?_) (fun hc1 => ?_)
  · try simp only [Z] at hc1
    exfalso; omega
  · try simp only [Z] at hc1
    rw [show z % 10 = z from by omega]
    refine sk' (sr' (mv' rfl ?_))
    first | refine RunL.pure (Pure.addI rfl rfl (by omega)) (Wt.none rfl) rfl rfl ?_ | refine RunL.pure (Pure.add rfl rfl) (Wt.none rfl) rfl rfl ?_
    first | refine RunL.pure (Pure.convId und3 und5 rfl (by first | exact wrap_i64 (by omega) (by omega) | exact wrap_u8 (by omega) (by omega) | exact wrap_i32 (by omega) (by omega))) (Wt.none rfl) rfl rfl ?_ | refine RunL.pure (Pure.convInt und3 und5 rfl) (Wt.none rfl) rfl rfl ?_
    refine RunL.lit (vals := [_]) (vs := [_]) und176 sz5 zz5 rfl rfl rfl rfl rfl rfl (by simp [Value.cells, bv, cDD, cEdu, cEvn, cGG, cK, cM, cNde, cPP, cPos, cSS, cVV]) rfl (Wt.none rfl) rfl ?_; intro b14
    refine RunL.bytesStr (bs := [UInt8.ofNat (48 + z.toNat)]) rfl und176 und5 und9 (fun w sw => (by have := sw.src (P := Tryz.prog); rw [show [Value.int .u8 (48 + z)] = [UInt8.ofNat (48 + z.toNat)].map bv from by simp only [List.map_cons, List.map_nil, bv]; rw [UInt8.toNat_ofNat_of_lt' (by simp [UInt8.size]; omega)]; congr 2; omega] at this; exact this)) (Wt.none rfl) rfl ?_
    refine as' rfl (nl' (sq' (sr' (mv' rfl (pp' (Pure.gtr rfl rfl) (mv' rfl ?_))))))
    refine RunL.split (d := 18) rfl (fun hc2 => ?_) (fun hc2 => ?_)
    · try simp only [Z] at hc2
      refine py' (Pure.move rfl) (py' (Pure.lss rfl rfl) (pp' (Pure.pickT rfl rfl) (nl' ?_)))
      refine Run.cond rfl (fun hc3 => ?_) (fun hc3 => ?_)
      · try simp only [Z] at hc3
        refine sq' (sr' (mv' rfl (pp' (Pure.lss rfl rfl) (nl' ?_))))
        refine Run.cond rfl (fun hc4 => ?_) (fun hc4 => ?_)
        · try simp only [Z] at hc4
          exfalso; omega
        · try simp only [Z] at hc4
          refine sk' (sr' (mv' rfl (as' rfl (nl' ?_))))
          exact rt' Tryz.func73 (res1 rfl rfl) (by exact ⟨rfl, rfl⟩)
      · try simp only [Z] at hc3
        exfalso; omega
    · try simp only [Z] at hc2
      exfalso; omega

set_option maxRecDepth 100000 in
theorem EventOf_ctr {G : Gp} {z : Int} (hz : -9223372036854775808 ≤ z ∧ z ≤ 9223372036854775807) :
    Ctr Tryz.prog G 42 [.int .i64 z] [] (fun F v A => v = .string (eventOf z) ∧ A = F) := by
  refine Ctr.intro Tryz.func42 rfl (by kernel_rfl) rfl (fun F => ?_)
  simp only [List.nil_append]
  refine sr' (as' rfl (nl' (sr' (mv' rfl ?_))))
  refine ca' rfl rfl (s := Around_ctr hz (by decide)) (q := ?_)
  rintro _ _ ⟨rfl, hA_⟩
  replace hA_ := hA_.symm; subst hA_
  have hk := around_lt (z := z) (m := 9) (by decide)
  refine ca' rfl rfl (s := Decimal_ctr (z := around z 9) (by omega) (by omega)) (q := ?_)
  rintro _ _ ⟨rfl, hA_⟩
  replace hA_ := hA_.symm; subst hA_
  have hd : (digit (around z 9)).size = 1 := rfl
  have hd2 : (⟨#[36, 101]⟩ : ByteArray).size = 2 := rfl
  refine pp' (Pure.sadd rfl rfl (by first | omega | (simp only [size_mk, size_app, List.length_append, bl_length, List.length_cons, List.length_nil]; omega) | (simp; omega))) ?_
  refine as' rfl (nl' ?_)
  exact rt' Tryz.func42 (res1 rfl rfl) (by exact ⟨rfl, rfl⟩)

set_option maxRecDepth 100000 in
theorem ThreadOf_ctr {G : Gp} {z : Int} (hz : -9223372036854775808 ≤ z ∧ z ≤ 9223372036854775807) :
    Ctr Tryz.prog G 43 [.int .i64 z] [] (fun F v A => v = .string (threadOf z) ∧ A = F) := by
  refine Ctr.intro Tryz.func43 rfl (by kernel_rfl) rfl (fun F => ?_)
  simp only [List.nil_append]
  refine sr' (as' rfl (nl' (sr' (mv' rfl ?_))))
  refine ca' rfl rfl (s := Around_ctr hz (by decide)) (q := ?_)
  rintro _ _ ⟨rfl, hA_⟩
  replace hA_ := hA_.symm; subst hA_
  have hk := around_lt (z := z) (m := 11) (by decide)
  refine as' rfl (nl' (sq' (sr' (mv' rfl (pp' (Pure.eql rfl rfl) (nl' ?_))))))
  refine Run.cond rfl (fun hc1 => ?_) (fun hc1 => ?_)
  · try simp only [Z] at hc1
    refine sr' (as' rfl (nl' ?_))
    exact rt' Tryz.func43 (res1 rfl rfl) (by exact ⟨by rw [threadOf, if_pos hc1]; rfl, rfl⟩)
  · try simp only [Z] at hc1
    refine sk' (sq' (sr' (mv' rfl (pp' (Pure.eql rfl rfl) (nl' ?_)))))
    refine Run.cond rfl (fun hc2 => ?_) (fun hc2 => ?_)
    · try simp only [Z] at hc2
      refine sr' (as' rfl (nl' ?_))
      exact rt' Tryz.func43 (res1 rfl rfl) (by exact ⟨by rw [threadOf, if_neg hc1, if_pos hc2], rfl⟩)
    · try simp only [Z] at hc2
      refine sk' (sr' (mv' rfl ?_))
      refine ca' rfl rfl (s := EventOf_ctr (z := around z 11) (by omega)) (q := ?_)
      rintro _ _ ⟨rfl, hA_⟩
      replace hA_ := hA_.symm; subst hA_
      refine as' rfl (nl' ?_)
      exact rt' Tryz.func43 (res1 rfl rfl) (by exact ⟨by rw [threadOf, if_neg hc1, if_neg hc2], rfl⟩)

set_option maxRecDepth 100000 in
theorem isNaNs_ctr {G : Gp} {a : ByteArray} :
    Ctr Tryz.prog G 130 [.string a] [] (fun F v A => v = .bool false ∧ A = F) := by
  refine Ctr.intro Tryz.func130 rfl (by kernel_rfl) rfl (fun F => ?_)
  simp only [List.nil_append]
  refine sr' (as' rfl (nl' (sr' (mv' rfl (mv' rfl (pp' (Pure.sneq rfl rfl) (as' rfl (nl' ?_))))))))
  exact rt' Tryz.func130 (res1 rfl rfl) (by exact ⟨by simp, rfl⟩)

set_option maxRecDepth 100000 in
theorem cmpS_ctr {G : Gp} {a b : ByteArray} :
    Ctr Tryz.prog G 99 [.string a, .string b] [] (fun F v A => v = .int .i64 (cmpS a b) ∧ A = F) := by
  refine Ctr.intro Tryz.func99 rfl (by kernel_rfl) rfl (fun F => ?_)
  simp only [List.nil_append]
  refine sr' (as' rfl (nl' (sr' (mv' rfl ?_))))
  refine ca' rfl rfl (s := isNaNs_ctr) (q := ?_)
  rintro _ _ ⟨rfl, hA_⟩
  replace hA_ := hA_.symm; subst hA_
  refine as' rfl (nl' (sr' (mv' rfl ?_)))
  refine ca' rfl rfl (s := isNaNs_ctr) (q := ?_)
  rintro _ _ ⟨rfl, hA_⟩
  replace hA_ := hA_.symm; subst hA_
  refine as' rfl (nl' (sq' (sr' (mv' rfl (nl' (cF' (sk' (sq' (sr' (mv' rfl (nl' (cF' (sk' (sq' (sr' (mv' rfl (mv' rfl (pp' (Pure.slss rfl rfl) (nl' ?_)))))))))))))))))))
  refine Run.cond rfl (fun h1 => ?_) (fun h1 => ?_)
  · try simp only [Z] at h1
    refine sr' (as' rfl (nl' ?_))
    exact rt' Tryz.func99 (res1 rfl rfl) (by exact ⟨by rw [cmpS, if_pos h1], rfl⟩)
  · try simp only [Z] at h1
    refine sk' (sq' (sr' (mv' rfl (mv' rfl (pp' (Pure.sgtr rfl rfl) (nl' ?_))))))
    refine Run.cond rfl (fun h2 => ?_) (fun h2 => ?_)
    · try simp only [Z] at h2
      refine sr' (as' rfl (nl' ?_))
      exact rt' Tryz.func99 (res1 rfl rfl) (by exact ⟨by rw [cmpS, if_neg (by rw [h1]; decide), if_neg (fun e => by subst e; simp at h2)], rfl⟩)
    · try simp only [Z] at h2
      refine sk' (sr' (as' rfl (nl' ?_)))
      exact rt' Tryz.func99 (res1 rfl rfl) (by exact ⟨by have : a = b := bl_inj (by simpa [h1] using h2); rw [(cmpS_law.eq0 a b).2 this], rfl⟩)

set_option maxRecDepth 100000 in
theorem isNaNi_ctr {G : Gp} {a : Int} :
    Ctr Tryz.prog G 131 [.int .i64 a] [] (fun F v A => v = .bool false ∧ A = F) := by
  refine Ctr.intro Tryz.func131 rfl (by kernel_rfl) rfl (fun F => ?_)
  simp only [List.nil_append]
  refine sr' (as' rfl (nl' (sr' (mv' rfl (mv' rfl (pp' (Pure.neq rfl rfl) (as' rfl (nl' ?_))))))))
  exact rt' Tryz.func131 (res1 rfl rfl) (by exact ⟨by simp, rfl⟩)

set_option maxRecDepth 100000 in
theorem cmpI_ctr {G : Gp} {a b : Int} :
    Ctr Tryz.prog G 100 [.int .i64 a, .int .i64 b] [] (fun F v A => v = .int .i64 (cmpI a b) ∧ A = F) := by
  refine Ctr.intro Tryz.func100 rfl (by kernel_rfl) rfl (fun F => ?_)
  simp only [List.nil_append]
  refine sr' (as' rfl (nl' (sr' (mv' rfl ?_))))
  refine ca' rfl rfl (s := isNaNi_ctr) (q := ?_)
  rintro _ _ ⟨rfl, hA_⟩
  replace hA_ := hA_.symm; subst hA_
  refine as' rfl (nl' (sr' (mv' rfl ?_)))
  refine ca' rfl rfl (s := isNaNi_ctr) (q := ?_)
  rintro _ _ ⟨rfl, hA_⟩
  replace hA_ := hA_.symm; subst hA_
  refine as' rfl (nl' (sq' (sr' (mv' rfl (nl' (cF' (sk' (sq' (sr' (mv' rfl (nl' (cF' (sk' (sq' (sr' (mv' rfl (mv' rfl (pp' (Pure.lss rfl rfl) (nl' ?_)))))))))))))))))))
  refine Run.cond rfl (fun h1 => ?_) (fun h1 => ?_)
  · try simp only [Z] at h1
    refine sr' (as' rfl (nl' ?_))
    exact rt' Tryz.func100 (res1 rfl rfl) (by exact ⟨by rw [cmpI, if_pos h1], rfl⟩)
  · try simp only [Z] at h1
    refine sk' (sq' (sr' (mv' rfl (mv' rfl (pp' (Pure.gtr rfl rfl) (nl' ?_))))))
    refine Run.cond rfl (fun h2 => ?_) (fun h2 => ?_)
    · try simp only [Z] at h2
      refine sr' (as' rfl (nl' ?_))
      exact rt' Tryz.func100 (res1 rfl rfl) (by exact ⟨by rw [cmpI, if_neg (by omega), if_pos h2], rfl⟩)
    · try simp only [Z] at h2
      refine sk' (sr' (as' rfl (nl' ?_)))
      exact rt' Tryz.func100 (res1 rfl rfl) (by exact ⟨by rw [cmpI, if_neg (by omega), if_neg (by omega)], rfl⟩)

set_option maxRecDepth 100000 in
theorem Or_ctr {G : Gp} {a : Option Addr} {zs : List Int} {cap : Nat} (h : SlR G 43 1 a zs.length (zs.map (Value.int .i64))) (hb : zs.length ≤ 1000000) :
    Ctr Tryz.prog G 98 [.slice a zs.length cap] [] (fun F v A => v = .int .i64 (orL zs) ∧ A = F) := by
  refine Ctr.intro Tryz.func98 rfl (by kernel_rfl) rfl (fun F => ?_)
  simp only [List.nil_append]
  refine sr' (as' rfl (nl' (sr' (as' rfl (nl' (sq' (sr' (mv' rfl (pp' (Pure.lenSl rfl rfl und43) (mv' rfl (nl' (bl' ?_))))))))))))
  refine kp' [3, 6, 7, 8] ?_
  refine Run.loopR (fun n e A => ∃ (i : Nat), i ≤ zs.length ∧ orL zs = orL (zs.drop i) ∧ n = zs.length - i ∧ e = [(3, .int .i64 0), (6, .slice a zs.length cap), (7, .int .i64 (zs.length : Nat)), (8, .int .i64 (i : Nat))] ∧ A = F) (zs.length) ⟨0, Nat.zero_le _, rfl, rfl, rfl, rfl⟩ ?_
  rintro n _ _ ⟨i, hi, ho, rfl, rfl, rfl⟩ ih
  refine sr' (pp' (Pure.lss rfl rfl) (nl' (sq' ?_)))
  refine Run.cond rfl (fun h1 => ?_) (fun h1 => ?_)
  · try simp only [Z] at h1
    obtain ⟨b, T', pre, post, rfl, hro⟩ := h.open1 (show 0 < zs.length by omega)
    obtain ⟨x, hx⟩ := get_some (xs := zs) (i := i) (by omega)
    have hd : zs.drop i = x :: zs.drop (i + 1) := by rw [List.drop_eq_getElem_cons (by omega)]; congr 1; rw [List.getElem?_eq_getElem (by omega)] at hx; exact Option.some.inj hx
    refine sk' (sq' (bl' (sr' ?_)))
    refine pp' (Pure.indexAddr rfl rfl und43 sz3 (by omega) (by omega)) ?_
    refine RunL.load1R rfl hro (elem1_at hx) agg3 (Wt.none rfl) rfl ?_
    refine as' rfl (nl' (sr' (mv' rfl (mv' rfl (pp' (Pure.neq rfl rfl) (nl' ?_))))))
    refine Run.cond rfl (fun h2 => ?_) (fun h2 => ?_)
    · try simp only [Z] at h2
      refine sr' (mv' rfl (as' rfl (nl' ?_)))
      exact rt' Tryz.func98 (res1 rfl rfl) (by exact ⟨by rw [ho, hd, orL, orI, if_pos h2], rfl⟩)
    · try simp only [Z] at h2
      refine sk' (ib' (rg' ?_))
      first | refine RunL.pure (Pure.addI rfl rfl (by omega)) (Wt.none rfl) rfl rfl ?_ | refine RunL.pure (Pure.add rfl rfl) (Wt.none rfl) rfl rfl ?_
      refine mv' rfl (nl' ?_)
      refine kp' [3, 6, 7, 8] ?_
      refine ih _ _ _ ?_ ⟨i + 1, by omega, by rw [ho, hd, orL, orI, if_neg (by omega)], rfl, rfl, rfl⟩
      omega
  · try simp only [Z] at h1
    refine ex' rfl (sr' (mv' rfl (as' rfl (nl' ?_))))
    exact rt' Tryz.func98 (res1 rfl rfl) (by exact ⟨by rw [ho, List.drop_of_length_le (by omega)]; rfl, rfl⟩)

end Go.Proofs.YtaaondbmkibkkaaGreat
