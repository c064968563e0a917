/- The small world. -/
import Derived.Test.YtaeacdhilekcbaaO1
import Derived.Test.YtaeacdhilekcbaaCsl16
import Derived.Test.YtaeacdhilekcbaaProg
set_option linter.unusedVariables false
set_option linter.unusedSimpArgs false
namespace Go.Proofs.Ytaeacdhilekcbaa
open Go Csl
theorem und24 : Try.prog.underlying 24 = some (Go.TypeDesc.struct #[{ name := "Room", type := 9, offset := 0, embedded := false, tag := "", pkgPath := "", byteOffset := 0 }, { name := "User", type := 9, offset := 1, embedded := false, tag := "", pkgPath := "", byteOffset := 16 }, { name := "Thread", type := 9, offset := 2, embedded := false, tag := "", pkgPath := "", byteOffset := 32 }, { name := "Private", type := 4, offset := 3, embedded := false, tag := "", pkgPath := "", byteOffset := 48 }]) := Try.underlying24
theorem sz24 : sizeIs Try.prog 24 = some 4 := by kernel_rfl
theorem agg24 : isAggOf Try.prog 24 = some true := by kernel_rfl
theorem agg9 : isAggOf Try.prog 9 = some false := by kernel_rfl
theorem und9 : Try.prog.underlying 9 = some Go.TypeDesc.string := Try.underlying9
theorem agg4 : isAggOf Try.prog 4 = some false := by kernel_rfl
theorem und4 : Try.prog.underlying 4 = some Go.TypeDesc.bool := Try.underlying4
theorem cz9 : Try.prog.cellsOf 9 = 1 := by kernel_rfl
theorem cz4 : Try.prog.cellsOf 4 = 1 := by kernel_rfl
theorem cz24 : Try.prog.cellsOf 24 = 4 := by kernel_rfl
theorem und36 : Try.prog.underlying 36 = some (Go.TypeDesc.struct #[{ name := "Room", type := 9, offset := 0, embedded := false, tag := "", pkgPath := "", byteOffset := 0 }, { name := "User", type := 9, offset := 1, embedded := false, tag := "", pkgPath := "", byteOffset := 16 }, { name := "Thread", type := 9, offset := 2, embedded := false, tag := "", pkgPath := "", byteOffset := 32 }, { name := "Private", type := 4, offset := 3, embedded := false, tag := "", pkgPath := "", byteOffset := 48 }]) := Try.underlying36
theorem sz36 : sizeIs Try.prog 36 = some 4 := by kernel_rfl
theorem agg36 : isAggOf Try.prog 36 = some true := by kernel_rfl
theorem cz36 : Try.prog.cellsOf 36 = 4 := by kernel_rfl
theorem und26 : Try.prog.underlying 26 = some (Go.TypeDesc.struct #[{ name := "Depth", type := 3, offset := 0, embedded := false, tag := "", pkgPath := "", byteOffset := 0 }, { name := "ID", type := 9, offset := 1, embedded := false, tag := "", pkgPath := "", byteOffset := 8 }]) := Try.underlying26
theorem sz26 : sizeIs Try.prog 26 = some 2 := by kernel_rfl
theorem agg26 : isAggOf Try.prog 26 = some true := by kernel_rfl
theorem agg3 : isAggOf Try.prog 3 = some false := by kernel_rfl
theorem und3 : Try.prog.underlying 3 = some (Go.TypeDesc.int Go.IntKind.i64) := Try.underlying3
theorem cz3 : Try.prog.cellsOf 3 = 1 := by kernel_rfl
theorem cz26 : Try.prog.cellsOf 26 = 2 := by kernel_rfl
theorem und28 : Try.prog.underlying 28 = some (Go.TypeDesc.struct #[{ name := "K", type := 24, offset := 0, embedded := false, tag := "", pkgPath := "", byteOffset := 0 }, { name := "At", type := 26, offset := 4, embedded := false, tag := "", pkgPath := "", byteOffset := 56 }]) := Try.underlying28
theorem sz28 : sizeIs Try.prog 28 = some 6 := by kernel_rfl
theorem agg28 : isAggOf Try.prog 28 = some true := by kernel_rfl
theorem cz28 : Try.prog.cellsOf 28 = 6 := by kernel_rfl
theorem und69 : Try.prog.underlying 69 = some (Go.TypeDesc.struct #[{ name := "Key", type := 36, offset := 0, embedded := true, tag := "", pkgPath := "", byteOffset := 0 }, { name := "At", type := 26, offset := 4, embedded := false, tag := "", pkgPath := "", byteOffset := 56 }]) := Try.underlying69
theorem sz69 : sizeIs Try.prog 69 = some 6 := by kernel_rfl
theorem agg69 : isAggOf Try.prog 69 = some true := by kernel_rfl
theorem cz69 : Try.prog.cellsOf 69 = 6 := by kernel_rfl
theorem und74 : Try.prog.underlying 74 = some (Go.TypeDesc.slice 9) := Try.underlying74
theorem sz9 : sizeIs Try.prog 9 = some 1 := by kernel_rfl
theorem zz9 : zeroIs Try.prog 9 = some (.string .empty) := by kernel_rfl
theorem und5 : Try.prog.underlying 5 = some (Go.TypeDesc.int Go.IntKind.u8) := Try.underlying5
theorem und82 : Try.prog.underlying 82 = some (Go.TypeDesc.slice 5) := Try.underlying82
theorem sz5 : sizeIs Try.prog 5 = some 1 := by kernel_rfl
theorem zz5 : zeroIs Try.prog 5 = some (.int .u8 0) := by kernel_rfl

namespace Csl
/-- A number from 0 on, below 'm'. -/
def around (z m : Int) : Int := (if z < 0 then -(z + 1) else z) % m
theorem around_lt {z m : Int} (h : 0 < m) : 0 ≤ around z m ∧ around z m < m := ⟨Int.emod_nonneg _ (by omega), Int.emod_lt_of_pos _ h⟩
theorem around_id {z m : Int} (h0 : 0 ≤ z) (h : z < m) : around z m = z := by unfold around; rw [if_neg (by omega)]; exact Int.emod_eq_of_lt h0 h
/-- The first so many bytes. -/
def cut (s : ByteArray) (m : Nat) : ByteArray := ⟨((bl s).take m).toArray⟩
theorem bl_cut (s : ByteArray) (m : Nat) : bl (cut s m) = (bl s).take m := bl_mk _
theorem cut_size (s : ByteArray) (m : Nat) : (cut s m).size ≤ m := by rw [← bl_length, bl_cut, List.length_take]; omega
def roomOf (z : Int) : ByteArray := [(⟨#[33, 114, 58, 115, 49]⟩ : ByteArray), ⟨#[33, 113, 58, 115, 50]⟩].getD (around z 2).toNat .empty
def serverOf (z : Int) : ByteArray := [(⟨#[115, 49]⟩ : ByteArray), ⟨#[115, 50]⟩, ⟨#[115, 51]⟩].getD (around z 3).toNat .empty
def signOf (z : Int) : ByteArray := [(⟨#[64, 97, 58]⟩ : ByteArray), ⟨#[64, 98, 58]⟩, ⟨#[64, 99, 58]⟩].getD z.toNat .empty
def userOf (z : Int) : ByteArray := signOf (around z 9 / 3) ++ serverOf (around z 9 % 3)
def digit (z : Int) : ByteArray := ⟨#[UInt8.ofNat (48 + z.toNat)]⟩
def eventOf (z : Int) : ByteArray := (⟨#[36, 101]⟩ : ByteArray) ++ digit (around z 9)
def threadOf (z : Int) : ByteArray := if around z 11 = 9 then .empty else if around z 11 = 10 then ⟨#[109, 97, 105, 110]⟩ else eventOf (around z 11)
theorem getD_size {l : List ByteArray} {i m : Nat} (h : ∀ s ∈ l, s.size ≤ m) : (l.getD i .empty).size ≤ m := by
  rw [List.getD_eq_getElem?_getD]
  cases hq : l[i]? with
  | none => exact Nat.zero_le _
  | some x => exact h x (List.mem_of_getElem? hq)
theorem serverOf_size (z : Int) : (serverOf z).size ≤ 2 := getD_size (by intro s hs; simp at hs; rcases hs with rfl | rfl | rfl <;> decide)
theorem signOf_size (z : Int) : (signOf z).size ≤ 3 := getD_size (by intro s hs; simp at hs; rcases hs with rfl | rfl | rfl <;> decide)
theorem roomOf_size (z : Int) : (roomOf z).size ≤ 5 := getD_size (by intro s hs; simp at hs; rcases hs with rfl | rfl <;> decide)
theorem userOf_size (z : Int) : (userOf z).size ≤ 5 := by unfold userOf; rw [size_app]; have := signOf_size (around z 9 / 3); have := serverOf_size (around z 9 % 3); omega
theorem eventOf_size (z : Int) : (eventOf z).size = 3 := by unfold eventOf; rw [size_app]; rfl
theorem threadOf_size (z : Int) : (threadOf z).size ≤ 4 := by
  unfold threadOf; split
  · decide
  · split
    · decide
    · rw [eventOf_size]; decide
end Csl
namespace Csl
structure K where
  room : ByteArray
  user : ByteArray
  thread : ByteArray
  priv : Bool
  deriving DecidableEq
def cK (x : K) : List Value := [.string x.room, .string x.user, .string x.thread, .bool x.priv]
def okK (x : K) : Prop := x.room.size ≤ 9223372036854775807 ∧ x.user.size ≤ 9223372036854775807 ∧ x.thread.size ≤ 9223372036854775807
structure Pos where
  depth : Int
  id : ByteArray
  deriving DecidableEq
def cPos (x : Pos) : List Value := [.int .i64 x.depth, .string x.id]
def okPos (x : Pos) : Prop := (Lit.int .i64 x.depth).wf = true ∧ x.id.size ≤ 9223372036854775807
structure M where
  k : K
  pos : Pos
  deriving DecidableEq
def cM (x : M) : List Value := [.string x.k.room, .string x.k.user, .string x.k.thread, .bool x.k.priv, .int .i64 x.pos.depth, .string x.pos.id]
def okM (x : M) : Prop := okK x.k ∧ okPos x.pos
end Csl

theorem eqv24 (a b : K) : Eqv Try.prog 2 24 (.agg (cK a).toArray) (.agg (cK b).toArray) (decide (a = b)) :=
  Eqv.struct und24 (by kernel_rfl) (.cell rfl agg9 rfl rfl ((Eqv.string und9).up (by decide)) (.cell rfl agg9 rfl rfl ((Eqv.string und9).up (by decide)) (.cell rfl agg9 rfl rfl ((Eqv.string und9).up (by decide)) (.cell rfl agg4 rfl rfl ((Eqv.bool und4).up (by decide)) .nil)))) (by rw [Bool.eq_iff_iff]; cases a; cases b; simp)
theorem ck24 (a : K) : Ck Try.prog 2 24 (.agg (cK a).toArray) := Ck.struct und24 (.cell rfl agg9 rfl ((Ck.string und9).up (by decide)) (.cell rfl agg9 rfl ((Ck.string und9).up (by decide)) (.cell rfl agg9 rfl ((Ck.string und9).up (by decide)) (.cell rfl agg4 rfl ((Ck.bool und4).up (by decide)) .nil))))
theorem key24 : KeyT Try.prog 24 (fun k : K => .agg (cK k).toArray) := KeyT.struct und24 eqv24 (by decide) ck24 (by decide) (fun a v hv => by simp only [cK, List.mem_cons, List.not_mem_nil, or_false] at hv; rcases hv with rfl | rfl | rfl | rfl <;> rfl)
theorem eqg24 : Try.prog.eqGuardType Try.prog.depth 24 = false := by kernel_rfl
set_option maxRecDepth 100000 in
theorem tr24 {H : Type} {enc : TypeId × Value → H} {w : World} {vs : List Value} (h : Tr enc Try.prog w 24 vs) : ∃ x : K, vs = cK x ∧ okK x := by
  obtain ⟨h1, h2⟩ := h.struct und24
  rw [cz24] at h1
  match vs, h1 with
  | [v0, v1, v2, v3], _ =>
    have q0 : Tr enc Try.prog w 9 (([v0, v1, v2, v3].drop 0).take 1) := Tr.fieldAt h2 0 rfl cz9
    obtain ⟨x0, e0, w0⟩ := q0.string und9
    have q1 : Tr enc Try.prog w 9 (([v0, v1, v2, v3].drop 1).take 1) := Tr.fieldAt h2 1 rfl cz9
    obtain ⟨x1, e1, w1⟩ := q1.string und9
    have q2 : Tr enc Try.prog w 9 (([v0, v1, v2, v3].drop 2).take 1) := Tr.fieldAt h2 2 rfl cz9
    obtain ⟨x2, e2, w2⟩ := q2.string und9
    have q3 : Tr enc Try.prog w 4 (([v0, v1, v2, v3].drop 3).take 1) := Tr.fieldAt h2 3 rfl cz4
    obtain ⟨x3, e3⟩ := q3.bool und4
    refine ⟨⟨x0, x1, x2, x3⟩, ?_, ⟨w0, w1, w2⟩⟩
    simp only [List.drop_zero, List.drop_succ_cons, List.take_succ_cons, List.take_zero] at e0 e1 e2 e3
    simp only [List.cons.injEq, and_true] at e0 e1 e2 e3
    simp_all [cK]
theorem eqv36 (a b : K) : Eqv Try.prog 2 36 (.agg (cK a).toArray) (.agg (cK b).toArray) (decide (a = b)) :=
  Eqv.struct und36 (by kernel_rfl) (.cell rfl agg9 rfl rfl ((Eqv.string und9).up (by decide)) (.cell rfl agg9 rfl rfl ((Eqv.string und9).up (by decide)) (.cell rfl agg9 rfl rfl ((Eqv.string und9).up (by decide)) (.cell rfl agg4 rfl rfl ((Eqv.bool und4).up (by decide)) .nil)))) (by rw [Bool.eq_iff_iff]; cases a; cases b; simp)
theorem ck36 (a : K) : Ck Try.prog 2 36 (.agg (cK a).toArray) := Ck.struct und36 (.cell rfl agg9 rfl ((Ck.string und9).up (by decide)) (.cell rfl agg9 rfl ((Ck.string und9).up (by decide)) (.cell rfl agg9 rfl ((Ck.string und9).up (by decide)) (.cell rfl agg4 rfl ((Ck.bool und4).up (by decide)) .nil))))
theorem key36 : KeyT Try.prog 36 (fun k : K => .agg (cK k).toArray) := KeyT.struct und36 eqv36 (by decide) ck36 (by decide) (fun a v hv => by simp only [cK, List.mem_cons, List.not_mem_nil, or_false] at hv; rcases hv with rfl | rfl | rfl | rfl <;> rfl)
theorem eqg36 : Try.prog.eqGuardType Try.prog.depth 36 = false := by kernel_rfl
set_option maxRecDepth 100000 in
theorem tr36 {H : Type} {enc : TypeId × Value → H} {w : World} {vs : List Value} (h : Tr enc Try.prog w 36 vs) : ∃ x : K, vs = cK x ∧ okK x := by
  obtain ⟨h1, h2⟩ := h.struct und36
  rw [cz36] at h1
  match vs, h1 with
  | [v0, v1, v2, v3], _ =>
    have q0 : Tr enc Try.prog w 9 (([v0, v1, v2, v3].drop 0).take 1) := Tr.fieldAt h2 0 rfl cz9
    obtain ⟨x0, e0, w0⟩ := q0.string und9
    have q1 : Tr enc Try.prog w 9 (([v0, v1, v2, v3].drop 1).take 1) := Tr.fieldAt h2 1 rfl cz9
    obtain ⟨x1, e1, w1⟩ := q1.string und9
    have q2 : Tr enc Try.prog w 9 (([v0, v1, v2, v3].drop 2).take 1) := Tr.fieldAt h2 2 rfl cz9
    obtain ⟨x2, e2, w2⟩ := q2.string und9
    have q3 : Tr enc Try.prog w 4 (([v0, v1, v2, v3].drop 3).take 1) := Tr.fieldAt h2 3 rfl cz4
    obtain ⟨x3, e3⟩ := q3.bool und4
    refine ⟨⟨x0, x1, x2, x3⟩, ?_, ⟨w0, w1, w2⟩⟩
    simp only [List.drop_zero, List.drop_succ_cons, List.take_succ_cons, List.take_zero] at e0 e1 e2 e3
    simp only [List.cons.injEq, and_true] at e0 e1 e2 e3
    simp_all [cK]
theorem eqv26 (a b : Pos) : Eqv Try.prog 2 26 (.agg (cPos a).toArray) (.agg (cPos b).toArray) (decide (a = b)) :=
  Eqv.struct und26 (by kernel_rfl) (.cell rfl agg3 rfl rfl ((Eqv.int und3).up (by decide)) (.cell rfl agg9 rfl rfl ((Eqv.string und9).up (by decide)) .nil)) (by rw [Bool.eq_iff_iff]; cases a; cases b; simp)
theorem ck26 (a : Pos) : Ck Try.prog 2 26 (.agg (cPos a).toArray) := Ck.struct und26 (.cell rfl agg3 rfl ((Ck.int und3).up (by decide)) (.cell rfl agg9 rfl ((Ck.string und9).up (by decide)) .nil))
theorem key26 : KeyT Try.prog 26 (fun k : Pos => .agg (cPos k).toArray) := KeyT.struct und26 eqv26 (by decide) ck26 (by decide) (fun a v hv => by simp only [cPos, List.mem_cons, List.not_mem_nil, or_false] at hv; rcases hv with rfl | rfl <;> rfl)
theorem eqg26 : Try.prog.eqGuardType Try.prog.depth 26 = false := by kernel_rfl
set_option maxRecDepth 100000 in
theorem tr26 {H : Type} {enc : TypeId × Value → H} {w : World} {vs : List Value} (h : Tr enc Try.prog w 26 vs) : ∃ x : Pos, vs = cPos x ∧ okPos x := by
  obtain ⟨h1, h2⟩ := h.struct und26
  rw [cz26] at h1
  match vs, h1 with
  | [v0, v1], _ =>
    have q0 : Tr enc Try.prog w 3 (([v0, v1].drop 0).take 1) := Tr.fieldAt h2 0 rfl cz3
    obtain ⟨x0, e0, w0⟩ := q0.int und3
    have q1 : Tr enc Try.prog w 9 (([v0, v1].drop 1).take 1) := Tr.fieldAt h2 1 rfl cz9
    obtain ⟨x1, e1, w1⟩ := q1.string und9
    refine ⟨⟨x0, x1⟩, ?_, ⟨w0, w1⟩⟩
    simp only [List.drop_zero, List.drop_succ_cons, List.take_succ_cons, List.take_zero] at e0 e1
    simp only [List.cons.injEq, and_true] at e0 e1
    simp_all [cPos]
theorem eqv28 (a b : M) : Eqv Try.prog 3 28 (.agg (cM a).toArray) (.agg (cM b).toArray) (decide (a = b)) :=
  Eqv.struct und28 (by kernel_rfl) (.agg rfl agg24 sz24 rfl rfl ((eqv24 _ _).up (by decide)) (.agg rfl agg26 sz26 rfl rfl ((eqv26 _ _).up (by decide)) .nil)) (by rw [Bool.eq_iff_iff]; cases a; cases b; simp)
theorem ck28 (a : M) : Ck Try.prog 3 28 (.agg (cM a).toArray) := Ck.struct und28 (.agg rfl agg24 sz24 rfl ((ck24 _).up (by decide)) (.agg rfl agg26 sz26 rfl ((ck26 _).up (by decide)) .nil))
theorem key28 : KeyT Try.prog 28 (fun k : M => .agg (cM k).toArray) := KeyT.struct und28 eqv28 (by decide) ck28 (by decide) (fun a v hv => by simp only [cM, List.mem_cons, List.not_mem_nil, or_false] at hv; rcases hv with rfl | rfl | rfl | rfl | rfl | rfl <;> rfl)
theorem eqg28 : Try.prog.eqGuardType Try.prog.depth 28 = false := by kernel_rfl
set_option maxRecDepth 100000 in
theorem tr28 {H : Type} {enc : TypeId × Value → H} {w : World} {vs : List Value} (h : Tr enc Try.prog w 28 vs) : ∃ x : M, vs = cM x ∧ okM x := by
  obtain ⟨h1, h2⟩ := h.struct und28
  rw [cz28] at h1
  match vs, h1 with
  | [v0, v1, v2, v3, v4, v5], _ =>
    have q0 : Tr enc Try.prog w 24 (([v0, v1, v2, v3, v4, v5].drop 0).take 4) := Tr.fieldAt h2 0 rfl cz24
    obtain ⟨x0, e0, w0⟩ := tr24 q0
    have q1 : Tr enc Try.prog w 26 (([v0, v1, v2, v3, v4, v5].drop 4).take 2) := Tr.fieldAt h2 1 rfl cz26
    obtain ⟨x1, e1, w1⟩ := tr26 q1
    refine ⟨⟨x0, x1⟩, ?_, ⟨w0, w1⟩⟩
    simp only [List.drop_zero, List.drop_succ_cons, List.take_succ_cons, List.take_zero, cK, cPos] at e0 e1
    simp only [List.cons.injEq, and_true] at e0 e1
    simp_all [cM]
theorem eqv69 (a b : M) : Eqv Try.prog 3 69 (.agg (cM a).toArray) (.agg (cM b).toArray) (decide (a = b)) :=
  Eqv.struct und69 (by kernel_rfl) (.agg rfl agg36 sz36 rfl rfl ((eqv36 _ _).up (by decide)) (.agg rfl agg26 sz26 rfl rfl ((eqv26 _ _).up (by decide)) .nil)) (by rw [Bool.eq_iff_iff]; cases a; cases b; simp)
theorem ck69 (a : M) : Ck Try.prog 3 69 (.agg (cM a).toArray) := Ck.struct und69 (.agg rfl agg36 sz36 rfl ((ck36 _).up (by decide)) (.agg rfl agg26 sz26 rfl ((ck26 _).up (by decide)) .nil))
theorem key69 : KeyT Try.prog 69 (fun k : M => .agg (cM k).toArray) := KeyT.struct und69 eqv69 (by decide) ck69 (by decide) (fun a v hv => by simp only [cM, List.mem_cons, List.not_mem_nil, or_false] at hv; rcases hv with rfl | rfl | rfl | rfl | rfl | rfl <;> rfl)
theorem eqg69 : Try.prog.eqGuardType Try.prog.depth 69 = false := by kernel_rfl
set_option maxRecDepth 100000 in
theorem tr69 {H : Type} {enc : TypeId × Value → H} {w : World} {vs : List Value} (h : Tr enc Try.prog w 69 vs) : ∃ x : M, vs = cM x ∧ okM x := by
  obtain ⟨h1, h2⟩ := h.struct und69
  rw [cz69] at h1
  match vs, h1 with
  | [v0, v1, v2, v3, v4, v5], _ =>
    have q0 : Tr enc Try.prog w 36 (([v0, v1, v2, v3, v4, v5].drop 0).take 4) := Tr.fieldAt h2 0 rfl cz36
    obtain ⟨x0, e0, w0⟩ := tr36 q0
    have q1 : Tr enc Try.prog w 26 (([v0, v1, v2, v3, v4, v5].drop 4).take 2) := Tr.fieldAt h2 1 rfl cz26
    obtain ⟨x1, e1, w1⟩ := tr26 q1
    refine ⟨⟨x0, x1⟩, ?_, ⟨w0, w1⟩⟩
    simp only [List.drop_zero, List.drop_succ_cons, List.take_succ_cons, List.take_zero, cK, cPos] at e0 e1
    simp only [List.cons.injEq, and_true] at e0 e1
    simp_all [cM]
set_option maxRecDepth 100000 in
theorem Around_ctr {G : Gp} {z m : Int} (hz : -9223372036854775808 ≤ z ∧ z ≤ 9223372036854775807) (hm : 0 < m) :
    Ctr Try.prog G 22 [.int .i64 z, .int .i64 m] [] (fun F v A => v = .int .i64 (around z m) ∧ A = F) := by
  refine Ctr.intro Try.func22 rfl (by kernel_rfl) rfl (fun F => ?_)
  simp only [List.nil_append]
  refine Run.sr ?_
  refine RunL.as rfl rfl ?_
  refine RunL.nil ?_
  refine Run.seq ?_
  refine Run.sr ?_
  refine RunL.mv rfl rfl ?_
  refine RunL.pure (Pure.lss rfl rfl) (Wt.none rfl) rfl rfl ?_
  refine RunL.nil ?_
  refine Run.cond rfl (fun hc1 => ?_) (fun hc1 => ?_)
  · try simp only [ZA, ZB, ZC, ZD, ZE, ZF, ZG, ZH, ZI, ZJ, ZK, ZL, ZM, ZN, ZO, ZP, ZQ, ZR] at hc1
    refine Run.region ?_
    refine RunL.mv rfl rfl ?_
    first | refine RunL.pure (Pure.addI rfl rfl (by omega)) (Wt.none rfl) rfl rfl ?_ | refine RunL.pure (Pure.add rfl rfl) (Wt.none rfl) rfl rfl ?_
    first | refine RunL.pure (Pure.negI rfl (by omega)) (Wt.none rfl) rfl rfl ?_ | refine RunL.pure (Pure.neg rfl) (Wt.none rfl) rfl rfl ?_
    refine RunL.as rfl rfl ?_
    refine RunL.nil ?_
    refine Run.sr ?_
    refine RunL.mv rfl rfl ?_
    refine RunL.mv rfl rfl ?_
    first | refine RunL.pure (Pure.remI rfl rfl (by omega) (by omega)) (Wt.none rfl) rfl rfl ?_ | refine RunL.pure (Pure.rem rfl rfl (by omega)) (Wt.none rfl) rfl rfl ?_
    refine RunL.as rfl rfl ?_
    refine RunL.nil ?_
    exact Run.ret Try.func22 (res1 rfl rfl) (by exact ⟨by rw [around, if_pos hc1], rfl⟩) (by repeat (first | (with_reducible exact Fin.done (by repeat (first | (with_reducible exact Rest.here) | apply Rest.there))) | (apply Fin.cons (by first | ((repeat (first | (with_reducible exact F0 _) | apply F1)); done) | (repeat (first | exact F0 _ | apply F1))))))
  · try simp only [ZA, ZB, ZC, ZD, ZE, ZF, ZG, ZH, ZI, ZJ, ZK, ZL, ZM, ZN, ZO, ZP, ZQ, ZR] at hc1
    refine Run.skip ?_
    refine Run.sr ?_
    refine RunL.mv rfl rfl ?_
    refine RunL.mv rfl rfl ?_
    first | refine RunL.pure (Pure.remI rfl rfl (by omega) (by omega)) (Wt.none rfl) rfl rfl ?_ | refine RunL.pure (Pure.rem rfl rfl (by omega)) (Wt.none rfl) rfl rfl ?_
    refine RunL.as rfl rfl ?_
    refine RunL.nil ?_
    exact Run.ret Try.func22 (res1 rfl rfl) (by exact ⟨by rw [around, if_neg (by omega)], rfl⟩) (by repeat (first | (with_reducible exact Fin.done (by repeat (first | (with_reducible exact Rest.here) | apply Rest.there))) | (apply Fin.cons (by first | ((repeat (first | (with_reducible exact F0 _) | apply F1)); done) | (repeat (first | exact F0 _ | apply F1))))))

set_option maxRecDepth 100000 in
theorem Few_ctr {G : Gp} {s : ByteArray} {m : Int} (h0 : 0 ≤ m) (h1 : m ≤ 1000000) :
    Ctr Try.prog G 33 [.string s, .int .i64 m] [] (fun F v A => ∃ s', v = .string s' ∧ bl s' = (bl s).take m.toNat ∧ A = F) := by
  refine Ctr.intro Try.func33 rfl (by kernel_rfl) rfl (fun F => ?_)
  simp only [List.nil_append]
  refine Run.sr ?_
  refine RunL.as rfl rfl ?_
  refine RunL.nil ?_
  refine Run.seq ?_
  refine Run.sr ?_
  refine RunL.mv rfl rfl ?_
  refine RunL.pure (Pure.lenStr rfl rfl und9) (Wt.none rfl) rfl rfl ?_
  refine RunL.mv rfl rfl ?_
  refine RunL.pure (Pure.gtr rfl rfl) (Wt.none rfl) rfl rfl ?_
  refine RunL.nil ?_
  refine Run.cond rfl (fun hc1 => ?_) (fun hc1 => ?_)
  · try simp only [ZA, ZB, ZC, ZD, ZE, ZF, ZG, ZH, ZI, ZJ, ZK, ZL, ZM, ZN, ZO, ZP, ZQ, ZR] at hc1
    refine Run.sr ?_
    refine RunL.mv rfl rfl ?_
    refine RunL.mv rfl rfl ?_
    refine RunL.pure (Pure.sliceStrTo rfl rfl und9 (by first | omega | (simp; done) | (simp; omega)) (by first | omega | (simp; done) | (simp; omega))) (Wt.none rfl) rfl rfl ?_
    refine RunL.as rfl rfl ?_
    refine RunL.nil ?_
    exact Run.ret Try.func33 (res1 rfl rfl) (by exact ⟨_, rfl, bl_extract0 (by omega), rfl⟩) (by repeat (first | (with_reducible exact Fin.done (by repeat (first | (with_reducible exact Rest.here) | apply Rest.there))) | (apply Fin.cons (by first | ((repeat (first | (with_reducible exact F0 _) | apply F1)); done) | (repeat (first | exact F0 _ | apply F1))))))
  · try simp only [ZA, ZB, ZC, ZD, ZE, ZF, ZG, ZH, ZI, ZJ, ZK, ZL, ZM, ZN, ZO, ZP, ZQ, ZR] at hc1
    refine Run.skip ?_
    refine Run.sr ?_
    refine RunL.mv rfl rfl ?_
    refine RunL.as rfl rfl ?_
    refine RunL.nil ?_
    exact Run.ret Try.func33 (res1 rfl rfl) (by exact ⟨_, rfl, (List.take_of_length_le (by rw [bl_length]; omega)).symm, rfl⟩) (by repeat (first | (with_reducible exact Fin.done (by repeat (first | (with_reducible exact Rest.here) | apply Rest.there))) | (apply Fin.cons (by first | ((repeat (first | (with_reducible exact F0 _) | apply F1)); done) | (repeat (first | exact F0 _ | apply F1))))))

theorem FewC_ctr {G : Gp} {s : ByteArray} {m : Int} (h0 : 0 ≤ m) (h1 : m ≤ 1000000) : Ctr Try.prog G 33 [.string s, .int .i64 m] [] (fun F v A => v = .string (cut s m.toNat) ∧ A = F) := (Few_ctr h0 h1).mono (by rintro F v A ⟨s', rfl, hs, rfl⟩; exact ⟨by rw [bl_inj (hs.trans (bl_cut s _).symm)], rfl⟩)
set_option maxRecDepth 100000 in
theorem RoomOf_ctr {G : Gp} {z : Int} (hz : -9223372036854775808 ≤ z ∧ z ≤ 9223372036854775807) :
    Ctr Try.prog G 29 [.int .i64 z] [] (fun F v A => v = .string (roomOf z) ∧ A = F) := by
  refine Ctr.intro Try.func29 rfl (by kernel_rfl) rfl (fun F => ?_)
  simp only [List.nil_append]
  refine Run.sr ?_
  refine RunL.as rfl rfl ?_
  refine RunL.nil ?_
  refine Run.sr ?_
  refine RunL.lit (vals := [_, _]) (vs := [_, _]) und74 sz9 zz9 rfl rfl rfl rfl rfl rfl (by simp [Value.cells, bv, cK, cM, cPos]) rfl (Wt.none rfl) rfl ?_; intro b3
  refine RunL.mv rfl rfl ?_
  refine RunL.call rfl rfl (by rfl) (by repeat (first | (with_reducible exact Take.nil _) | (apply Take.cons (by first | ((repeat (first | (with_reducible exact F0 _) | apply F1)); done) | (repeat (first | exact F0 _ | apply F1)))))) (Around_ctr hz (by decide)) (Wt.none rfl) rfl ?_
  rintro _ _ ⟨rfl, hA_⟩
  replace hA_ := hA_.symm; subst hA_
  have hk := around_lt (z := z) (m := 2) (by decide)
  refine RunL.openLit (by first | ((repeat (first | (with_reducible exact F0 _) | apply F1)); done) | (repeat (first | exact F0 _ | apply F1))) ?_; intro post
  refine RunL.pure (Pure.indexAddr rfl rfl und74 sz9 (by omega) (by omega)) (Wt.none rfl) rfl rfl ?_
  refine RunL.load1 rfl (by first | ((repeat (first | (with_reducible exact F0 _) | apply F1)); done) | (repeat (first | exact F0 _ | apply F1))) (elem1_at (show _ = some (roomOf z) from getD_some _ (by simp; omega))) agg9 (Wt.none rfl) rfl ?_
  refine RunL.as rfl rfl ?_
  refine RunL.nil ?_
  exact Run.ret Try.func29 (res1 rfl rfl) (by exact ⟨rfl, rfl⟩) (by repeat (first | (with_reducible exact Fin.done (by repeat (first | (with_reducible exact Rest.here) | apply Rest.there))) | (apply Fin.cons (by first | ((repeat (first | (with_reducible exact F0 _) | apply F1)); done) | (repeat (first | exact F0 _ | apply F1))))))

set_option maxRecDepth 100000 in
theorem ServerOf_ctr {G : Gp} {z : Int} (hz : -9223372036854775808 ≤ z ∧ z ≤ 9223372036854775807) :
    Ctr Try.prog G 43 [.int .i64 z] [] (fun F v A => v = .string (serverOf z) ∧ A = F) := by
  refine Ctr.intro Try.func43 rfl (by kernel_rfl) rfl (fun F => ?_)
  simp only [List.nil_append]
  refine Run.sr ?_
  refine RunL.as rfl rfl ?_
  refine RunL.nil ?_
  refine Run.sr ?_
  refine RunL.lit (vals := [_, _, _]) (vs := [_, _, _]) und74 sz9 zz9 rfl rfl rfl rfl rfl rfl (by simp [Value.cells, bv, cK, cM, cPos]) rfl (Wt.none rfl) rfl ?_; intro b3
  refine RunL.mv rfl rfl ?_
  refine RunL.call rfl rfl (by rfl) (by repeat (first | (with_reducible exact Take.nil _) | (apply Take.cons (by first | ((repeat (first | (with_reducible exact F0 _) | apply F1)); done) | (repeat (first | exact F0 _ | apply F1)))))) (Around_ctr hz (by decide)) (Wt.none rfl) rfl ?_
  rintro _ _ ⟨rfl, hA_⟩
  replace hA_ := hA_.symm; subst hA_
  have hk := around_lt (z := z) (m := 3) (by decide)
  refine RunL.openLit (by first | ((repeat (first | (with_reducible exact F0 _) | apply F1)); done) | (repeat (first | exact F0 _ | apply F1))) ?_; intro post
  refine RunL.pure (Pure.indexAddr rfl rfl und74 sz9 (by omega) (by omega)) (Wt.none rfl) rfl rfl ?_
  refine RunL.load1 rfl (by first | ((repeat (first | (with_reducible exact F0 _) | apply F1)); done) | (repeat (first | exact F0 _ | apply F1))) (elem1_at (show _ = some (serverOf z) from getD_some _ (by simp; omega))) agg9 (Wt.none rfl) rfl ?_
  refine RunL.as rfl rfl ?_
  refine RunL.nil ?_
  exact Run.ret Try.func43 (res1 rfl rfl) (by exact ⟨rfl, rfl⟩) (by repeat (first | (with_reducible exact Fin.done (by repeat (first | (with_reducible exact Rest.here) | apply Rest.there))) | (apply Fin.cons (by first | ((repeat (first | (with_reducible exact F0 _) | apply F1)); done) | (repeat (first | exact F0 _ | apply F1))))))

set_option maxRecDepth 100000 in
theorem UserOf_ctr {G : Gp} {z : Int} (hz : -9223372036854775808 ≤ z ∧ z ≤ 9223372036854775807) :
    Ctr Try.prog G 30 [.int .i64 z] [] (fun F v A => v = .string (userOf z) ∧ A = F) := by
  refine Ctr.intro Try.func30 rfl (by kernel_rfl) rfl (fun F => ?_)
  simp only [List.nil_append]
  refine Run.sr ?_
  refine RunL.as rfl rfl ?_
  refine RunL.nil ?_
  refine Run.sr ?_
  refine RunL.mv rfl rfl ?_
  refine RunL.call rfl rfl (by rfl) (by repeat (first | (with_reducible exact Take.nil _) | (apply Take.cons (by first | ((repeat (first | (with_reducible exact F0 _) | apply F1)); done) | (repeat (first | exact F0 _ | apply F1)))))) (Around_ctr hz (by decide)) (Wt.none rfl) rfl ?_
  rintro _ _ ⟨rfl, hA_⟩
  replace hA_ := hA_.symm; subst hA_
  have hk := around_lt (z := z) (m := 9) (by decide)
  have hs1 := signOf_size (around z 9 / 3)
  have hs2 := serverOf_size (around z 9 % 3)
  refine RunL.as rfl rfl ?_
  refine RunL.nil ?_
  refine Run.seq ?_
  refine Run.regionD' (by kernel_rfl) (by kernel_rfl) (fun hok14 => ?_)
  refine RunD.pure (i := 1) hok14 rfl (by kernel_rfl) (Pure.move rfl) (Wt.none rfl) rfl rfl ?_
  first | refine RunD.pure (i := 2) hok14 rfl (by kernel_rfl) (Pure.quoI rfl rfl (by omega) (by omega) (by omega)) (Wt.none rfl) rfl rfl ?_ | refine RunD.pure (i := 2) hok14 rfl (by kernel_rfl) (Pure.quo rfl rfl (by omega)) (Wt.none rfl) rfl rfl ?_
  refine RunD.pure (i := 5) hok14 rfl (by kernel_rfl) (Pure.move rfl) (Wt.none rfl) rfl rfl ?_
  first | refine RunD.pure (i := 6) hok14 rfl (by kernel_rfl) (Pure.remI rfl rfl (by omega) (by omega)) (Wt.none rfl) rfl rfl ?_ | refine RunD.pure (i := 6) hok14 rfl (by kernel_rfl) (Pure.rem rfl rfl (by omega)) (Wt.none rfl) rfl rfl ?_
  refine RunD.two (i := 0) (j := 7) (by kernel_rfl) rfl rfl ?_ ?_
  · skip
    refine RunL.lit (vals := [_, _, _]) (vs := [_, _, _]) und74 sz9 zz9 rfl rfl rfl rfl rfl rfl (by simp [Value.cells, bv, cK, cM, cPos]) rfl (Wt.none rfl) rfl ?_; intro b6
    refine RunL.nilD' ?_
    refine RunD.openLit (by first | ((repeat (first | (with_reducible exact F0 _) | apply F1)); done) | (repeat (first | exact F0 _ | apply F1))) ?_; intro post
    refine RunD.lend (Q := row b6 9 _) Lends.row (by first | ((repeat (first | (with_reducible exact F0 _) | apply F1)); done) | (repeat (first | exact F0 _ | apply F1))) ?_; intro g1 hleg1 hr1 backg1
    refine RunD.pure (i := 3) hok14 rfl (by kernel_rfl) (Pure.indexAddr rfl rfl und74 sz9 (by omega) (by omega)) (Wt.none rfl) rfl rfl ?_
    refine RunD.load1R (i := 4) hok14 rfl (by kernel_rfl) rfl hr1 (elem1_at (show _ = some (signOf (around z 9 / 3)) from getD_some _ (by simp; omega))) agg9 (Wt.none rfl) rfl ?_
    refine RunD.one (i := 7) (by kernel_rfl) rfl ?_
    refine RunL.call rfl rfl (by rfl) (by repeat (first | (with_reducible exact Take.nil _) | (apply Take.cons (by first | ((repeat (first | (with_reducible exact F0 _) | apply F1)); done) | (repeat (first | exact F0 _ | apply F1)))))) (ServerOf_ctr (z := around z 9 % 3) (by omega)) (Wt.none rfl) rfl ?_
    rintro _ _ ⟨rfl, hA_⟩
    replace hA_ := hA_.symm; subst hA_
    refine RunL.nilD' ?_
    refine RunD.pure (i := 8) hok14 rfl (by kernel_rfl) (Pure.sadd rfl rfl (by first | omega | (simp only [size_mk, size_app, List.length_append, bl_length, List.length_cons, List.length_nil]; omega) | (simp; omega))) (Wt.none rfl) rfl rfl ?_
    refine RunD.pure (i := 9) hok14 rfl (by kernel_rfl) (Pure.assign rfl) (Wt.none rfl) rfl rfl ?_
    refine RunD.nilB (by kernel_rfl) (fun w sw => backg1 _ _ (sw)) ?_
    exact Run.ret Try.func30 (res1 rfl rfl) (by exact ⟨rfl, rfl⟩) (by repeat (first | (with_reducible exact Fin.done (by repeat (first | (with_reducible exact Rest.here) | apply Rest.there))) | (apply Fin.cons (by first | ((repeat (first | (with_reducible exact F0 _) | apply F1)); done) | (repeat (first | exact F0 _ | apply F1))))))
  · skip
    refine RunL.call rfl rfl (by rfl) (by repeat (first | (with_reducible exact Take.nil _) | (apply Take.cons (by first | ((repeat (first | (with_reducible exact F0 _) | apply F1)); done) | (repeat (first | exact F0 _ | apply F1)))))) (ServerOf_ctr (z := around z 9 % 3) (by omega)) (Wt.none rfl) rfl ?_
    rintro _ _ ⟨rfl, hA_⟩
    replace hA_ := hA_.symm; subst hA_
    refine RunL.nilD' ?_
    refine RunD.one (i := 0) (by kernel_rfl) rfl ?_
    refine RunL.lit (vals := [_, _, _]) (vs := [_, _, _]) und74 sz9 zz9 rfl rfl rfl rfl rfl rfl (by simp [Value.cells, bv, cK, cM, cPos]) rfl (Wt.none rfl) rfl ?_; intro b6
    refine RunL.nilD' ?_
    refine RunD.openLit (by first | ((repeat (first | (with_reducible exact F0 _) | apply F1)); done) | (repeat (first | exact F0 _ | apply F1))) ?_; intro post
    refine RunD.lend (Q := row b6 9 _) Lends.row (by first | ((repeat (first | (with_reducible exact F0 _) | apply F1)); done) | (repeat (first | exact F0 _ | apply F1))) ?_; intro g1 hleg1 hr1 backg1
    refine RunD.pure (i := 3) hok14 rfl (by kernel_rfl) (Pure.indexAddr rfl rfl und74 sz9 (by omega) (by omega)) (Wt.none rfl) rfl rfl ?_
    refine RunD.load1R (i := 4) hok14 rfl (by kernel_rfl) rfl hr1 (elem1_at (show _ = some (signOf (around z 9 / 3)) from getD_some _ (by simp; omega))) agg9 (Wt.none rfl) rfl ?_
    refine RunD.pure (i := 8) hok14 rfl (by kernel_rfl) (Pure.sadd rfl rfl (by first | omega | (simp only [size_mk, size_app, List.length_append, bl_length, List.length_cons, List.length_nil]; omega) | (simp; omega))) (Wt.none rfl) rfl rfl ?_
    refine RunD.pure (i := 9) hok14 rfl (by kernel_rfl) (Pure.assign rfl) (Wt.none rfl) rfl rfl ?_
    refine RunD.nilB (by kernel_rfl) (fun w sw => backg1 _ _ (sw)) ?_
    exact Run.ret Try.func30 (res1 rfl rfl) (by exact ⟨rfl, rfl⟩) (by repeat (first | (with_reducible exact Fin.done (by repeat (first | (with_reducible exact Rest.here) | apply Rest.there))) | (apply Fin.cons (by first | ((repeat (first | (with_reducible exact F0 _) | apply F1)); done) | (repeat (first | exact F0 _ | apply F1))))))

set_option maxRecDepth 100000 in
theorem Decimal_ctr {G : Gp} {z : Int} (h0 : 0 ≤ z) (h9 : z < 10) :
    Ctr Try.prog G 44 [.int .i64 z] [] (fun F v A => v = .string (digit z) ∧ A = F) := by
  refine Ctr.intro Try.func44 rfl (by kernel_rfl) rfl (fun F => ?_)
  simp only [List.nil_append]
  refine Run.sr ?_
  refine RunL.as rfl rfl ?_
  refine RunL.nil ?_
  refine Run.sr ?_
  refine RunL.mv rfl rfl ?_
  first | refine RunL.pure (Pure.remI rfl rfl (by omega) (by omega)) (Wt.none rfl) rfl rfl ?_ | refine RunL.pure (Pure.rem rfl rfl (by omega)) (Wt.none rfl) rfl rfl ?_
  refine RunL.as rfl rfl ?_
  refine RunL.nil ?_
  refine Run.seq ?_
  refine Run.sr ?_
  refine RunL.mv rfl rfl ?_
  refine RunL.pure (Pure.lss rfl rfl) (Wt.none rfl) rfl rfl ?_
  refine RunL.nil ?_
  refine Run.cond rfl (fun hc1 => ?_) (fun hc1 => ?_)
  · try simp only [ZA, ZB, ZC, ZD, ZE, ZF, ZG, ZH, ZI, ZJ, ZK, ZL, ZM, ZN, ZO, ZP, ZQ, ZR] at hc1
    exfalso; omega
  · try simp only [ZA, ZB, ZC, ZD, ZE, ZF, ZG, ZH, ZI, ZJ, ZK, ZL, ZM, ZN, ZO, ZP, ZQ, ZR] at hc1
    rw [show z % 10 = z from by omega]
    refine Run.skip ?_
    refine Run.sr ?_
    refine RunL.mv rfl rfl ?_
    first | refine RunL.pure (Pure.addI rfl rfl (by omega)) (Wt.none rfl) rfl rfl ?_ | refine RunL.pure (Pure.add rfl rfl) (Wt.none rfl) rfl rfl ?_
    first | refine RunL.pure (Pure.convId und3 und5 rfl (by first | exact wrap_i64 (by omega) (by omega) | exact wrap_u8 (by omega) (by omega) | exact wrap_i32 (by omega) (by omega))) (Wt.none rfl) rfl rfl ?_ | refine RunL.pure (Pure.convInt und3 und5 rfl) (Wt.none rfl) rfl rfl ?_
    refine RunL.lit (vals := [_]) (vs := [_]) und82 sz5 zz5 rfl rfl rfl rfl rfl rfl (by simp [Value.cells, bv, cK, cM, cPos]) rfl (Wt.none rfl) rfl ?_; intro b14
    refine RunL.bytesStr (bs := [UInt8.ofNat (48 + z.toNat)]) rfl und82 und5 und9 (fun w sw => (by have := sw.src (P := Try.prog); rw [show [Value.int .u8 (48 + z)] = [UInt8.ofNat (48 + z.toNat)].map bv from by simp only [List.map_cons, List.map_nil, bv]; rw [UInt8.toNat_ofNat_of_lt' (by simp [UInt8.size]; omega)]; congr 2; omega] at this; exact this)) (Wt.none rfl) rfl ?_
    refine RunL.as rfl rfl ?_
    refine RunL.nil ?_
    refine Run.seq ?_
    refine Run.sr ?_
    refine RunL.mv rfl rfl ?_
    refine RunL.pure (Pure.gtr rfl rfl) (Wt.none rfl) rfl rfl ?_
    refine RunL.mv rfl rfl ?_
    refine RunL.split (d := 18) rfl (fun hc2 => ?_) (fun hc2 => ?_)
    · try simp only [ZA, ZB, ZC, ZD, ZE, ZF, ZG, ZH, ZI, ZJ, ZK, ZL, ZM, ZN, ZO, ZP, ZQ, ZR] at hc2
      refine RunL.pure (Pure.move rfl) (Wt.yes rfl rfl rfl) rfl rfl ?_
      refine RunL.pure (Pure.lss rfl rfl) (Wt.yes rfl rfl rfl) rfl rfl ?_
      refine RunL.pure (Pure.pickT rfl rfl) (Wt.none rfl) rfl rfl ?_
      refine RunL.nil ?_
      refine Run.cond rfl (fun hc3 => ?_) (fun hc3 => ?_)
      · try simp only [ZA, ZB, ZC, ZD, ZE, ZF, ZG, ZH, ZI, ZJ, ZK, ZL, ZM, ZN, ZO, ZP, ZQ, ZR] at hc3
        refine Run.seq ?_
        refine Run.sr ?_
        refine RunL.mv rfl rfl ?_
        refine RunL.pure (Pure.lss rfl rfl) (Wt.none rfl) rfl rfl ?_
        refine RunL.nil ?_
        refine Run.cond rfl (fun hc4 => ?_) (fun hc4 => ?_)
        · try simp only [ZA, ZB, ZC, ZD, ZE, ZF, ZG, ZH, ZI, ZJ, ZK, ZL, ZM, ZN, ZO, ZP, ZQ, ZR] at hc4
          exfalso; omega
        · try simp only [ZA, ZB, ZC, ZD, ZE, ZF, ZG, ZH, ZI, ZJ, ZK, ZL, ZM, ZN, ZO, ZP, ZQ, ZR] at hc4
          refine Run.skip ?_
          refine Run.sr ?_
          refine RunL.mv rfl rfl ?_
          refine RunL.as rfl rfl ?_
          refine RunL.nil ?_
          exact Run.ret Try.func44 (res1 rfl rfl) (by exact ⟨rfl, rfl⟩) (by repeat (first | (with_reducible exact Fin.done (by repeat (first | (with_reducible exact Rest.here) | apply Rest.there))) | (apply Fin.cons (by first | ((repeat (first | (with_reducible exact F0 _) | apply F1)); done) | (repeat (first | exact F0 _ | apply F1))))))
      · try simp only [ZA, ZB, ZC, ZD, ZE, ZF, ZG, ZH, ZI, ZJ, ZK, ZL, ZM, ZN, ZO, ZP, ZQ, ZR] at hc3
        exfalso; omega
    · try simp only [ZA, ZB, ZC, ZD, ZE, ZF, ZG, ZH, ZI, ZJ, ZK, ZL, ZM, ZN, ZO, ZP, ZQ, ZR] at hc2
      exfalso; omega

set_option maxRecDepth 100000 in
theorem EventOf_ctr {G : Gp} {z : Int} (hz : -9223372036854775808 ≤ z ∧ z ≤ 9223372036854775807) :
    Ctr Try.prog G 32 [.int .i64 z] [] (fun F v A => v = .string (eventOf z) ∧ A = F) := by
  refine Ctr.intro Try.func32 rfl (by kernel_rfl) rfl (fun F => ?_)
  simp only [List.nil_append]
  refine Run.sr ?_
  refine RunL.as rfl rfl ?_
  refine RunL.nil ?_
  refine Run.sr ?_
  refine RunL.mv rfl rfl ?_
  refine RunL.call rfl rfl (by rfl) (by repeat (first | (with_reducible exact Take.nil _) | (apply Take.cons (by first | ((repeat (first | (with_reducible exact F0 _) | apply F1)); done) | (repeat (first | exact F0 _ | apply F1)))))) (Around_ctr hz (by decide)) (Wt.none rfl) rfl ?_
  rintro _ _ ⟨rfl, hA_⟩
  replace hA_ := hA_.symm; subst hA_
  have hk := around_lt (z := z) (m := 9) (by decide)
  refine RunL.call rfl rfl (by rfl) (by repeat (first | (with_reducible exact Take.nil _) | (apply Take.cons (by first | ((repeat (first | (with_reducible exact F0 _) | apply F1)); done) | (repeat (first | exact F0 _ | apply F1)))))) (Decimal_ctr (z := around z 9) (by omega) (by omega)) (Wt.none rfl) rfl ?_
  rintro _ _ ⟨rfl, hA_⟩
  replace hA_ := hA_.symm; subst hA_
  have hd : (digit (around z 9)).size = 1 := rfl
  have hd2 : (⟨#[36, 101]⟩ : ByteArray).size = 2 := rfl
  refine RunL.pure (Pure.sadd rfl rfl (by first | omega | (simp only [size_mk, size_app, List.length_append, bl_length, List.length_cons, List.length_nil]; omega) | (simp; omega))) (Wt.none rfl) rfl rfl ?_
  refine RunL.as rfl rfl ?_
  refine RunL.nil ?_
  exact Run.ret Try.func32 (res1 rfl rfl) (by exact ⟨rfl, rfl⟩) (by repeat (first | (with_reducible exact Fin.done (by repeat (first | (with_reducible exact Rest.here) | apply Rest.there))) | (apply Fin.cons (by first | ((repeat (first | (with_reducible exact F0 _) | apply F1)); done) | (repeat (first | exact F0 _ | apply F1))))))

set_option maxRecDepth 100000 in
theorem ThreadOf_ctr {G : Gp} {z : Int} (hz : -9223372036854775808 ≤ z ∧ z ≤ 9223372036854775807) :
    Ctr Try.prog G 31 [.int .i64 z] [] (fun F v A => v = .string (threadOf z) ∧ A = F) := by
  refine Ctr.intro Try.func31 rfl (by kernel_rfl) rfl (fun F => ?_)
  simp only [List.nil_append]
  refine Run.sr ?_
  refine RunL.as rfl rfl ?_
  refine RunL.nil ?_
  refine Run.sr ?_
  refine RunL.mv rfl rfl ?_
  refine RunL.call rfl rfl (by rfl) (by repeat (first | (with_reducible exact Take.nil _) | (apply Take.cons (by first | ((repeat (first | (with_reducible exact F0 _) | apply F1)); done) | (repeat (first | exact F0 _ | apply F1)))))) (Around_ctr hz (by decide)) (Wt.none rfl) rfl ?_
  rintro _ _ ⟨rfl, hA_⟩
  replace hA_ := hA_.symm; subst hA_
  have hk := around_lt (z := z) (m := 11) (by decide)
  refine RunL.as rfl rfl ?_
  refine RunL.nil ?_
  refine Run.seq ?_
  refine Run.sr ?_
  refine RunL.mv rfl rfl ?_
  refine RunL.pure (Pure.eql rfl rfl) (Wt.none rfl) rfl rfl ?_
  refine RunL.nil ?_
  refine Run.cond rfl (fun hc1 => ?_) (fun hc1 => ?_)
  · try simp only [ZA, ZB, ZC, ZD, ZE, ZF, ZG, ZH, ZI, ZJ, ZK, ZL, ZM, ZN, ZO, ZP, ZQ, ZR] at hc1
    refine Run.sr ?_
    refine RunL.as rfl rfl ?_
    refine RunL.nil ?_
    exact Run.ret Try.func31 (res1 rfl rfl) (by exact ⟨by rw [threadOf, if_pos hc1]; rfl, rfl⟩) (by repeat (first | (with_reducible exact Fin.done (by repeat (first | (with_reducible exact Rest.here) | apply Rest.there))) | (apply Fin.cons (by first | ((repeat (first | (with_reducible exact F0 _) | apply F1)); done) | (repeat (first | exact F0 _ | apply F1))))))
  · try simp only [ZA, ZB, ZC, ZD, ZE, ZF, ZG, ZH, ZI, ZJ, ZK, ZL, ZM, ZN, ZO, ZP, ZQ, ZR] at hc1
    refine Run.skip ?_
    refine Run.seq ?_
    refine Run.sr ?_
    refine RunL.mv rfl rfl ?_
    refine RunL.pure (Pure.eql rfl rfl) (Wt.none rfl) rfl rfl ?_
    refine RunL.nil ?_
    refine Run.cond rfl (fun hc2 => ?_) (fun hc2 => ?_)
    · try simp only [ZA, ZB, ZC, ZD, ZE, ZF, ZG, ZH, ZI, ZJ, ZK, ZL, ZM, ZN, ZO, ZP, ZQ, ZR] at hc2
      refine Run.sr ?_
      refine RunL.as rfl rfl ?_
      refine RunL.nil ?_
      exact Run.ret Try.func31 (res1 rfl rfl) (by exact ⟨by rw [threadOf, if_neg hc1, if_pos hc2], rfl⟩) (by repeat (first | (with_reducible exact Fin.done (by repeat (first | (with_reducible exact Rest.here) | apply Rest.there))) | (apply Fin.cons (by first | ((repeat (first | (with_reducible exact F0 _) | apply F1)); done) | (repeat (first | exact F0 _ | apply F1))))))
    · try simp only [ZA, ZB, ZC, ZD, ZE, ZF, ZG, ZH, ZI, ZJ, ZK, ZL, ZM, ZN, ZO, ZP, ZQ, ZR] at hc2
      refine Run.skip ?_
      refine Run.sr ?_
      refine RunL.mv rfl rfl ?_
      refine RunL.call rfl rfl (by rfl) (by repeat (first | (with_reducible exact Take.nil _) | (apply Take.cons (by first | ((repeat (first | (with_reducible exact F0 _) | apply F1)); done) | (repeat (first | exact F0 _ | apply F1)))))) (EventOf_ctr (z := around z 11) (by omega)) (Wt.none rfl) rfl ?_
      rintro _ _ ⟨rfl, hA_⟩
      replace hA_ := hA_.symm; subst hA_
      refine RunL.as rfl rfl ?_
      refine RunL.nil ?_
      exact Run.ret Try.func31 (res1 rfl rfl) (by exact ⟨by rw [threadOf, if_neg hc1, if_neg hc2], rfl⟩) (by repeat (first | (with_reducible exact Fin.done (by repeat (first | (with_reducible exact Rest.here) | apply Rest.there))) | (apply Fin.cons (by first | ((repeat (first | (with_reducible exact F0 _) | apply F1)); done) | (repeat (first | exact F0 _ | apply F1))))))

end Go.Proofs.Ytaeacdhilekcbaa
