/- The small world, comparisons. -/
import Derived.Test.YtppamndllgojnaaO1
import Derived.Test.YtppamndllgojnaaProg
set_option linter.unusedVariables false
set_option linter.unusedSimpArgs false
set_option linter.unusedSectionVars false
namespace Go.Proofs.Ytppamndllgojnaa
open Go Csl
theorem und36 : Try.prog.underlying 36 = some (Go.TypeDesc.struct #[{ name := "At", type := 3, offset := 0, embedded := false, tag := "", pkgPath := "", byteOffset := 0 }, { name := "Key", type := 9, offset := 1, embedded := false, tag := "", pkgPath := "", byteOffset := 8 }]) := Try.underlying36
theorem sz36 : sizeIs Try.prog 36 = some 2 := by kernel_rfl
theorem agg36 : isAggOf Try.prog 36 = some true := by kernel_rfl
theorem agg3 : isAggOf Try.prog 3 = some false := by kernel_rfl
theorem und3 : Try.prog.underlying 3 = some (Go.TypeDesc.int Go.IntKind.i64) := Try.underlying3
theorem agg9 : isAggOf Try.prog 9 = some false := by kernel_rfl
theorem und9 : Try.prog.underlying 9 = some Go.TypeDesc.string := Try.underlying9
theorem cz3 : Try.prog.cellsOf 3 = 1 := by kernel_rfl
theorem cz9 : Try.prog.cellsOf 9 = 1 := by kernel_rfl
theorem cz36 : Try.prog.cellsOf 36 = 2 := by kernel_rfl
theorem und45 : Try.prog.underlying 45 = some (Go.TypeDesc.struct #[{ name := "At", type := 3, offset := 0, embedded := false, tag := "", pkgPath := "", byteOffset := 0 }, { name := "Key", type := 9, offset := 1, embedded := false, tag := "", pkgPath := "", byteOffset := 8 }]) := Try.underlying45
theorem sz45 : sizeIs Try.prog 45 = some 2 := by kernel_rfl
theorem agg45 : isAggOf Try.prog 45 = some true := by kernel_rfl
theorem cz45 : Try.prog.cellsOf 45 = 2 := by kernel_rfl
theorem und31 : Try.prog.underlying 31 = some (Go.TypeDesc.struct #[{ name := "Do", type := 3, offset := 0, embedded := false, tag := "", pkgPath := "", byteOffset := 0 }, { name := "At", type := 3, offset := 1, embedded := false, tag := "", pkgPath := "", byteOffset := 8 }, { name := "Key", type := 9, offset := 2, embedded := false, tag := "", pkgPath := "", byteOffset := 16 }]) := Try.underlying31
theorem sz31 : sizeIs Try.prog 31 = some 3 := by kernel_rfl
theorem agg31 : isAggOf Try.prog 31 = some true := by kernel_rfl
theorem cz31 : Try.prog.cellsOf 31 = 3 := by kernel_rfl
theorem und23 : Try.prog.underlying 23 = some (Go.TypeDesc.slice 3) := Try.underlying23
theorem sz3 : sizeIs Try.prog 3 = some 1 := by kernel_rfl

namespace Csl
/-- A number from 0 on, below 'm'. -/
def around (z m : Int) : Int := (if z < 0 then -(z + 1) else z) % m
theorem around_lt {z m : Int} (h : 0 < m) : 0 ≤ around z m ∧ around z m < m := ⟨Int.emod_nonneg _ (by omega), Int.emod_lt_of_pos _ h⟩
theorem around_id {z m : Int} (h0 : 0 ≤ z) (h : z < m) : around z m = z := by unfold around; rw [if_neg (by omega)]; exact Int.emod_eq_of_lt h0 h
/-- The first so many bytes. -/
def cut (s : ByteArray) (m : Nat) : ByteArray := ⟨((bl s).take m).toArray⟩
theorem bl_cut (s : ByteArray) (m : Nat) : bl (cut s m) = (bl s).take m := bl_mk _
theorem cut_size (s : ByteArray) (m : Nat) : (cut s m).size ≤ m := by rw [← bl_length, bl_cut, List.length_take]; omega
def roomOf (z : Int) : ByteArray := [(⟨#[33, 114, 58, 115, 49]⟩ : ByteArray), ⟨#[33, 113, 58, 115, 50]⟩].getD (around z 2).toNat .empty
def serverOf (z : Int) : ByteArray := [(⟨#[115, 49]⟩ : ByteArray), ⟨#[115, 50]⟩, ⟨#[115, 51]⟩].getD (around z 3).toNat .empty
def signOf (z : Int) : ByteArray := [(⟨#[64, 97, 58]⟩ : ByteArray), ⟨#[64, 98, 58]⟩, ⟨#[64, 99, 58]⟩].getD z.toNat .empty
def userOf (z : Int) : ByteArray := signOf (around z 9 / 3) ++ serverOf (around z 9 % 3)
def digit (z : Int) : ByteArray := ⟨#[UInt8.ofNat (48 + z.toNat)]⟩
def eventOf (z : Int) : ByteArray := (⟨#[36, 101]⟩ : ByteArray) ++ digit (around z 9)
def threadOf (z : Int) : ByteArray := if around z 11 = 9 then .empty else if around z 11 = 10 then ⟨#[109, 97, 105, 110]⟩ else eventOf (around z 11)
theorem getD_size {l : List ByteArray} {i m : Nat} (h : ∀ s ∈ l, s.size ≤ m) : (l.getD i .empty).size ≤ m := by
  rw [List.getD_eq_getElem?_getD]
  cases hq : l[i]? with
  | none => exact Nat.zero_le _
  | some x => exact h x (List.mem_of_getElem? hq)
theorem serverOf_size (z : Int) : (serverOf z).size ≤ 2 := getD_size (by intro s hs; simp at hs; rcases hs with rfl | rfl | rfl <;> decide)
theorem signOf_size (z : Int) : (signOf z).size ≤ 3 := getD_size (by intro s hs; simp at hs; rcases hs with rfl | rfl | rfl <;> decide)
theorem roomOf_size (z : Int) : (roomOf z).size ≤ 5 := getD_size (by intro s hs; simp at hs; rcases hs with rfl | rfl <;> decide)
theorem userOf_size (z : Int) : (userOf z).size ≤ 5 := by unfold userOf; rw [size_app]; have := signOf_size (around z 9 / 3); have := serverOf_size (around z 9 % 3); omega
theorem eventOf_size (z : Int) : (eventOf z).size = 3 := by unfold eventOf; rw [size_app]; rfl
theorem threadOf_size (z : Int) : (threadOf z).size ≤ 4 := by
  unfold threadOf; split
  · decide
  · split
    · decide
    · rw [eventOf_size]; decide
end Csl
namespace Csl
structure E where
  tick : Int
  key : ByteArray
  deriving DecidableEq
def cE (x : E) : List Value := [.int .i64 x.tick, .string x.key]
def okE (x : E) : Prop := (Lit.int .i64 x.tick).wf = true ∧ x.key.size ≤ 9223372036854775807
structure OO where
  what : Int
  tick : Int
  key : ByteArray
  deriving DecidableEq
def cOO (x : OO) : List Value := [.int .i64 x.what, .int .i64 x.tick, .string x.key]
def okOO (x : OO) : Prop := (Lit.int .i64 x.what).wf = true ∧ (Lit.int .i64 x.tick).wf = true ∧ x.key.size ≤ 9223372036854775807
end Csl

theorem eqv36 (a b : E) : Eqv Try.prog 2 36 (.agg (cE a).toArray) (.agg (cE b).toArray) (decide (a = b)) :=
  Eqv.struct und36 (by kernel_rfl) (.cell rfl agg3 rfl rfl ((Eqv.int und3).up (by decide)) (.cell rfl agg9 rfl rfl ((Eqv.string und9).up (by decide)) .nil)) (by rw [Bool.eq_iff_iff]; cases a; cases b; simp)
theorem ck36 (a : E) : Ck Try.prog 2 36 (.agg (cE a).toArray) := Ck.struct und36 (.cell rfl agg3 rfl ((Ck.int und3).up (by decide)) (.cell rfl agg9 rfl ((Ck.string und9).up (by decide)) .nil))
theorem key36 : KeyT Try.prog 36 (fun k : E => .agg (cE k).toArray) := KeyT.struct und36 eqv36 (by decide) ck36 (by decide) (fun a v hv => by simp only [cE, List.mem_cons, List.not_mem_nil, or_false] at hv; rcases hv with rfl | rfl <;> rfl)
theorem eqg36 : Try.prog.eqGuardType Try.prog.depth 36 = false := by kernel_rfl
set_option maxRecDepth 100000 in
theorem tr36 {H : Type} {enc : TypeId × Value → H} {w : World} {vs : List Value} (h : Tr enc Try.prog w 36 vs) : ∃ x : E, vs = cE x ∧ okE x := by
  obtain ⟨h1, h2⟩ := h.struct und36
  rw [cz36] at h1
  match vs, h1 with
  | [v0, v1], _ =>
    have q0 : Tr enc Try.prog w 3 (([v0, v1].drop 0).take 1) := Tr.fieldAt h2 0 rfl cz3
    obtain ⟨x0, e0, w0⟩ := q0.int und3
    have q1 : Tr enc Try.prog w 9 (([v0, v1].drop 1).take 1) := Tr.fieldAt h2 1 rfl cz9
    obtain ⟨x1, e1, w1⟩ := q1.string und9
    refine ⟨⟨x0, x1⟩, ?_, ⟨w0, w1⟩⟩
    simp only [List.drop_zero, List.drop_succ_cons, List.take_succ_cons, List.take_zero] at e0 e1
    simp only [List.cons.injEq, and_true] at e0 e1
    simp_all [cE]
theorem eqv45 (a b : E) : Eqv Try.prog 2 45 (.agg (cE a).toArray) (.agg (cE b).toArray) (decide (a = b)) :=
  Eqv.struct und45 (by kernel_rfl) (.cell rfl agg3 rfl rfl ((Eqv.int und3).up (by decide)) (.cell rfl agg9 rfl rfl ((Eqv.string und9).up (by decide)) .nil)) (by rw [Bool.eq_iff_iff]; cases a; cases b; simp)
theorem ck45 (a : E) : Ck Try.prog 2 45 (.agg (cE a).toArray) := Ck.struct und45 (.cell rfl agg3 rfl ((Ck.int und3).up (by decide)) (.cell rfl agg9 rfl ((Ck.string und9).up (by decide)) .nil))
theorem key45 : KeyT Try.prog 45 (fun k : E => .agg (cE k).toArray) := KeyT.struct und45 eqv45 (by decide) ck45 (by decide) (fun a v hv => by simp only [cE, List.mem_cons, List.not_mem_nil, or_false] at hv; rcases hv with rfl | rfl <;> rfl)
theorem eqg45 : Try.prog.eqGuardType Try.prog.depth 45 = false := by kernel_rfl
set_option maxRecDepth 100000 in
theorem tr45 {H : Type} {enc : TypeId × Value → H} {w : World} {vs : List Value} (h : Tr enc Try.prog w 45 vs) : ∃ x : E, vs = cE x ∧ okE x := by
  obtain ⟨h1, h2⟩ := h.struct und45
  rw [cz45] at h1
  match vs, h1 with
  | [v0, v1], _ =>
    have q0 : Tr enc Try.prog w 3 (([v0, v1].drop 0).take 1) := Tr.fieldAt h2 0 rfl cz3
    obtain ⟨x0, e0, w0⟩ := q0.int und3
    have q1 : Tr enc Try.prog w 9 (([v0, v1].drop 1).take 1) := Tr.fieldAt h2 1 rfl cz9
    obtain ⟨x1, e1, w1⟩ := q1.string und9
    refine ⟨⟨x0, x1⟩, ?_, ⟨w0, w1⟩⟩
    simp only [List.drop_zero, List.drop_succ_cons, List.take_succ_cons, List.take_zero] at e0 e1
    simp only [List.cons.injEq, and_true] at e0 e1
    simp_all [cE]
theorem eqv31 (a b : OO) : Eqv Try.prog 2 31 (.agg (cOO a).toArray) (.agg (cOO b).toArray) (decide (a = b)) :=
  Eqv.struct und31 (by kernel_rfl) (.cell rfl agg3 rfl rfl ((Eqv.int und3).up (by decide)) (.cell rfl agg3 rfl rfl ((Eqv.int und3).up (by decide)) (.cell rfl agg9 rfl rfl ((Eqv.string und9).up (by decide)) .nil))) (by rw [Bool.eq_iff_iff]; cases a; cases b; simp)
theorem ck31 (a : OO) : Ck Try.prog 2 31 (.agg (cOO a).toArray) := Ck.struct und31 (.cell rfl agg3 rfl ((Ck.int und3).up (by decide)) (.cell rfl agg3 rfl ((Ck.int und3).up (by decide)) (.cell rfl agg9 rfl ((Ck.string und9).up (by decide)) .nil)))
theorem key31 : KeyT Try.prog 31 (fun k : OO => .agg (cOO k).toArray) := KeyT.struct und31 eqv31 (by decide) ck31 (by decide) (fun a v hv => by simp only [cOO, List.mem_cons, List.not_mem_nil, or_false] at hv; rcases hv with rfl | rfl | rfl <;> rfl)
theorem eqg31 : Try.prog.eqGuardType Try.prog.depth 31 = false := by kernel_rfl
set_option maxRecDepth 100000 in
theorem tr31 {H : Type} {enc : TypeId × Value → H} {w : World} {vs : List Value} (h : Tr enc Try.prog w 31 vs) : ∃ x : OO, vs = cOO x ∧ okOO x := by
  obtain ⟨h1, h2⟩ := h.struct und31
  rw [cz31] at h1
  match vs, h1 with
  | [v0, v1, v2], _ =>
    have q0 : Tr enc Try.prog w 3 (([v0, v1, v2].drop 0).take 1) := Tr.fieldAt h2 0 rfl cz3
    obtain ⟨x0, e0, w0⟩ := q0.int und3
    have q1 : Tr enc Try.prog w 3 (([v0, v1, v2].drop 1).take 1) := Tr.fieldAt h2 1 rfl cz3
    obtain ⟨x1, e1, w1⟩ := q1.int und3
    have q2 : Tr enc Try.prog w 9 (([v0, v1, v2].drop 2).take 1) := Tr.fieldAt h2 2 rfl cz9
    obtain ⟨x2, e2, w2⟩ := q2.string und9
    refine ⟨⟨x0, x1, x2⟩, ?_, ⟨w0, w1, w2⟩⟩
    simp only [List.drop_zero, List.drop_succ_cons, List.take_succ_cons, List.take_zero] at e0 e1 e2
    simp only [List.cons.injEq, and_true] at e0 e1 e2
    simp_all [cOO]
set_option maxRecDepth 100000 in
theorem Around_ctr {G : Gp} {z m : Int} (hz : -9223372036854775808 ≤ z ∧ z ≤ 9223372036854775807) (hm : 0 < m) :
    Ctr Try.prog G 26 [.int .i64 z, .int .i64 m] [] (fun F v A => v = .int .i64 (around z m) ∧ A = F) := by
  refine Ctr.intro Try.func26 rfl (by kernel_rfl) rfl (fun F => ?_)
  simp only [List.nil_append]
  refine Run.sr ?_
  refine RunL.as rfl rfl ?_
  refine RunL.nil ?_
  refine Run.seq ?_
  refine Run.sr ?_
  refine RunL.mv rfl rfl ?_
  refine RunL.pure (Pure.lss rfl rfl) (Wt.none rfl) rfl rfl ?_
  refine RunL.nil ?_
  refine Run.cond rfl (fun hc1 => ?_) (fun hc1 => ?_)
  · try simp only [ZA, ZB, ZC, ZD, ZE, ZF, ZG, ZH, ZI, ZJ, ZK, ZL, ZM, ZN, ZO, ZP, ZQ, ZR] at hc1
    refine Run.region ?_
    refine RunL.mv rfl rfl ?_
    first | refine RunL.pure (Pure.addI rfl rfl (by omega)) (Wt.none rfl) rfl rfl ?_ | refine RunL.pure (Pure.add rfl rfl) (Wt.none rfl) rfl rfl ?_
    first | refine RunL.pure (Pure.negI rfl (by omega)) (Wt.none rfl) rfl rfl ?_ | refine RunL.pure (Pure.neg rfl) (Wt.none rfl) rfl rfl ?_
    refine RunL.as rfl rfl ?_
    refine RunL.nil ?_
    refine Run.sr ?_
    refine RunL.mv rfl rfl ?_
    refine RunL.mv rfl rfl ?_
    first | refine RunL.pure (Pure.remI rfl rfl (by omega) (by omega)) (Wt.none rfl) rfl rfl ?_ | refine RunL.pure (Pure.rem rfl rfl (by omega)) (Wt.none rfl) rfl rfl ?_
    refine RunL.as rfl rfl ?_
    refine RunL.nil ?_
    exact Run.ret Try.func26 (res1 rfl rfl) (by exact ⟨by rw [around, if_pos hc1], rfl⟩) (by repeat (first | (with_reducible exact Fin.done (by repeat (first | (with_reducible exact Rest.here) | apply Rest.there))) | (apply Fin.cons (by first | ((repeat (first | (with_reducible exact F0 _) | apply F1)); done) | (repeat (first | exact F0 _ | apply F1))))))
  · try simp only [ZA, ZB, ZC, ZD, ZE, ZF, ZG, ZH, ZI, ZJ, ZK, ZL, ZM, ZN, ZO, ZP, ZQ, ZR] at hc1
    refine Run.skip ?_
    refine Run.sr ?_
    refine RunL.mv rfl rfl ?_
    refine RunL.mv rfl rfl ?_
    first | refine RunL.pure (Pure.remI rfl rfl (by omega) (by omega)) (Wt.none rfl) rfl rfl ?_ | refine RunL.pure (Pure.rem rfl rfl (by omega)) (Wt.none rfl) rfl rfl ?_
    refine RunL.as rfl rfl ?_
    refine RunL.nil ?_
    exact Run.ret Try.func26 (res1 rfl rfl) (by exact ⟨by rw [around, if_neg (by omega)], rfl⟩) (by repeat (first | (with_reducible exact Fin.done (by repeat (first | (with_reducible exact Rest.here) | apply Rest.there))) | (apply Fin.cons (by first | ((repeat (first | (with_reducible exact F0 _) | apply F1)); done) | (repeat (first | exact F0 _ | apply F1))))))

set_option maxRecDepth 100000 in
theorem Few_ctr {G : Gp} {s : ByteArray} {m : Int} (h0 : 0 ≤ m) (h1 : m ≤ 1000000) :
    Ctr Try.prog G 18 [.string s, .int .i64 m] [] (fun F v A => ∃ s', v = .string s' ∧ bl s' = (bl s).take m.toNat ∧ A = F) := by
  refine Ctr.intro Try.func18 rfl (by kernel_rfl) rfl (fun F => ?_)
  simp only [List.nil_append]
  refine Run.sr ?_
  refine RunL.as rfl rfl ?_
  refine RunL.nil ?_
  refine Run.seq ?_
  refine Run.sr ?_
  refine RunL.mv rfl rfl ?_
  refine RunL.pure (Pure.lenStr rfl rfl und9) (Wt.none rfl) rfl rfl ?_
  refine RunL.mv rfl rfl ?_
  refine RunL.pure (Pure.gtr rfl rfl) (Wt.none rfl) rfl rfl ?_
  refine RunL.nil ?_
  refine Run.cond rfl (fun hc1 => ?_) (fun hc1 => ?_)
  · try simp only [ZA, ZB, ZC, ZD, ZE, ZF, ZG, ZH, ZI, ZJ, ZK, ZL, ZM, ZN, ZO, ZP, ZQ, ZR] at hc1
    refine Run.sr ?_
    refine RunL.mv rfl rfl ?_
    refine RunL.mv rfl rfl ?_
    refine RunL.pure (Pure.sliceStrTo rfl rfl und9 (by first | omega | (simp; done) | (simp; omega)) (by first | omega | (simp; done) | (simp; omega))) (Wt.none rfl) rfl rfl ?_
    refine RunL.as rfl rfl ?_
    refine RunL.nil ?_
    exact Run.ret Try.func18 (res1 rfl rfl) (by exact ⟨_, rfl, bl_extract0 (by omega), rfl⟩) (by repeat (first | (with_reducible exact Fin.done (by repeat (first | (with_reducible exact Rest.here) | apply Rest.there))) | (apply Fin.cons (by first | ((repeat (first | (with_reducible exact F0 _) | apply F1)); done) | (repeat (first | exact F0 _ | apply F1))))))
  · try simp only [ZA, ZB, ZC, ZD, ZE, ZF, ZG, ZH, ZI, ZJ, ZK, ZL, ZM, ZN, ZO, ZP, ZQ, ZR] at hc1
    refine Run.skip ?_
    refine Run.sr ?_
    refine RunL.mv rfl rfl ?_
    refine RunL.as rfl rfl ?_
    refine RunL.nil ?_
    exact Run.ret Try.func18 (res1 rfl rfl) (by exact ⟨_, rfl, (List.take_of_length_le (by rw [bl_length]; omega)).symm, rfl⟩) (by repeat (first | (with_reducible exact Fin.done (by repeat (first | (with_reducible exact Rest.here) | apply Rest.there))) | (apply Fin.cons (by first | ((repeat (first | (with_reducible exact F0 _) | apply F1)); done) | (repeat (first | exact F0 _ | apply F1))))))

theorem FewC_ctr {G : Gp} {s : ByteArray} {m : Int} (h0 : 0 ≤ m) (h1 : m ≤ 1000000) : Ctr Try.prog G 18 [.string s, .int .i64 m] [] (fun F v A => v = .string (cut s m.toNat) ∧ A = F) := (Few_ctr h0 h1).mono (by rintro F v A ⟨s', rfl, hs, rfl⟩; exact ⟨by rw [bl_inj (hs.trans (bl_cut s _).symm)], rfl⟩)
set_option maxRecDepth 100000 in
theorem isNaNs_ctr {G : Gp} {a : ByteArray} :
    Ctr Try.prog G 46 [.string a] [] (fun F v A => v = .bool false ∧ A = F) := by
  refine Ctr.intro Try.func46 rfl (by kernel_rfl) rfl (fun F => ?_)
  simp only [List.nil_append]
  refine Run.sr ?_
  refine RunL.as rfl rfl ?_
  refine RunL.nil ?_
  refine Run.sr ?_
  refine RunL.mv rfl rfl ?_
  refine RunL.mv rfl rfl ?_
  refine RunL.pure (Pure.sneq rfl rfl) (Wt.none rfl) rfl rfl ?_
  refine RunL.as rfl rfl ?_
  refine RunL.nil ?_
  exact Run.ret Try.func46 (res1 rfl rfl) (by exact ⟨by simp, rfl⟩) (by repeat (first | (with_reducible exact Fin.done (by repeat (first | (with_reducible exact Rest.here) | apply Rest.there))) | (apply Fin.cons (by first | ((repeat (first | (with_reducible exact F0 _) | apply F1)); done) | (repeat (first | exact F0 _ | apply F1))))))

set_option maxRecDepth 100000 in
theorem cmpS_ctr {G : Gp} {a b : ByteArray} :
    Ctr Try.prog G 41 [.string a, .string b] [] (fun F v A => v = .int .i64 (cmpS a b) ∧ A = F) := by
  refine Ctr.intro Try.func41 rfl (by kernel_rfl) rfl (fun F => ?_)
  simp only [List.nil_append]
  refine Run.sr ?_
  refine RunL.as rfl rfl ?_
  refine RunL.nil ?_
  refine Run.sr ?_
  refine RunL.mv rfl rfl ?_
  refine RunL.call rfl rfl (by rfl) (by repeat (first | (with_reducible exact Take.nil _) | (apply Take.cons (by first | ((repeat (first | (with_reducible exact F0 _) | apply F1)); done) | (repeat (first | exact F0 _ | apply F1)))))) (isNaNs_ctr) (Wt.none rfl) rfl ?_
  rintro _ _ ⟨rfl, hA_⟩
  replace hA_ := hA_.symm; subst hA_
  refine RunL.as rfl rfl ?_
  refine RunL.nil ?_
  refine Run.sr ?_
  refine RunL.mv rfl rfl ?_
  refine RunL.call rfl rfl (by rfl) (by repeat (first | (with_reducible exact Take.nil _) | (apply Take.cons (by first | ((repeat (first | (with_reducible exact F0 _) | apply F1)); done) | (repeat (first | exact F0 _ | apply F1)))))) (isNaNs_ctr) (Wt.none rfl) rfl ?_
  rintro _ _ ⟨rfl, hA_⟩
  replace hA_ := hA_.symm; subst hA_
  refine RunL.as rfl rfl ?_
  refine RunL.nil ?_
  refine Run.seq ?_
  refine Run.sr ?_
  refine RunL.mv rfl rfl ?_
  refine RunL.nil ?_
  refine Run.condF rfl ?_
  refine Run.skip ?_
  refine Run.seq ?_
  refine Run.sr ?_
  refine RunL.mv rfl rfl ?_
  refine RunL.nil ?_
  refine Run.condF rfl ?_
  refine Run.skip ?_
  refine Run.seq ?_
  refine Run.sr ?_
  refine RunL.mv rfl rfl ?_
  refine RunL.mv rfl rfl ?_
  refine RunL.pure (Pure.slss rfl rfl) (Wt.none rfl) rfl rfl ?_
  refine RunL.nil ?_
  refine Run.cond rfl (fun h1 => ?_) (fun h1 => ?_)
  · try simp only [ZA, ZB, ZC, ZD, ZE, ZF, ZG, ZH, ZI, ZJ, ZK, ZL, ZM, ZN, ZO, ZP, ZQ, ZR] at h1
    refine Run.sr ?_
    refine RunL.as rfl rfl ?_
    refine RunL.nil ?_
    exact Run.ret Try.func41 (res1 rfl rfl) (by exact ⟨by rw [cmpS, if_pos h1], rfl⟩) (by repeat (first | (with_reducible exact Fin.done (by repeat (first | (with_reducible exact Rest.here) | apply Rest.there))) | (apply Fin.cons (by first | ((repeat (first | (with_reducible exact F0 _) | apply F1)); done) | (repeat (first | exact F0 _ | apply F1))))))
  · try simp only [ZA, ZB, ZC, ZD, ZE, ZF, ZG, ZH, ZI, ZJ, ZK, ZL, ZM, ZN, ZO, ZP, ZQ, ZR] at h1
    refine Run.skip ?_
    refine Run.seq ?_
    refine Run.sr ?_
    refine RunL.mv rfl rfl ?_
    refine RunL.mv rfl rfl ?_
    refine RunL.pure (Pure.sgtr rfl rfl) (Wt.none rfl) rfl rfl ?_
    refine RunL.nil ?_
    refine Run.cond rfl (fun h2 => ?_) (fun h2 => ?_)
    · try simp only [ZA, ZB, ZC, ZD, ZE, ZF, ZG, ZH, ZI, ZJ, ZK, ZL, ZM, ZN, ZO, ZP, ZQ, ZR] at h2
      refine Run.sr ?_
      refine RunL.as rfl rfl ?_
      refine RunL.nil ?_
      exact Run.ret Try.func41 (res1 rfl rfl) (by exact ⟨by rw [cmpS, if_neg (by rw [h1]; decide), if_neg (fun e => by subst e; simp at h2)], rfl⟩) (by repeat (first | (with_reducible exact Fin.done (by repeat (first | (with_reducible exact Rest.here) | apply Rest.there))) | (apply Fin.cons (by first | ((repeat (first | (with_reducible exact F0 _) | apply F1)); done) | (repeat (first | exact F0 _ | apply F1))))))
    · try simp only [ZA, ZB, ZC, ZD, ZE, ZF, ZG, ZH, ZI, ZJ, ZK, ZL, ZM, ZN, ZO, ZP, ZQ, ZR] at h2
      refine Run.skip ?_
      refine Run.sr ?_
      refine RunL.as rfl rfl ?_
      refine RunL.nil ?_
      exact Run.ret Try.func41 (res1 rfl rfl) (by exact ⟨by have : a = b := bl_inj (by simpa [h1] using h2); rw [(cmpS_law.eq0 a b).2 this], rfl⟩) (by repeat (first | (with_reducible exact Fin.done (by repeat (first | (with_reducible exact Rest.here) | apply Rest.there))) | (apply Fin.cons (by first | ((repeat (first | (with_reducible exact F0 _) | apply F1)); done) | (repeat (first | exact F0 _ | apply F1))))))

set_option maxRecDepth 100000 in
theorem isNaNi_ctr {G : Gp} {a : Int} :
    Ctr Try.prog G 45 [.int .i64 a] [] (fun F v A => v = .bool false ∧ A = F) := by
  refine Ctr.intro Try.func45 rfl (by kernel_rfl) rfl (fun F => ?_)
  simp only [List.nil_append]
  refine Run.sr ?_
  refine RunL.as rfl rfl ?_
  refine RunL.nil ?_
  refine Run.sr ?_
  refine RunL.mv rfl rfl ?_
  refine RunL.mv rfl rfl ?_
  refine RunL.pure (Pure.neq rfl rfl) (Wt.none rfl) rfl rfl ?_
  refine RunL.as rfl rfl ?_
  refine RunL.nil ?_
  exact Run.ret Try.func45 (res1 rfl rfl) (by exact ⟨by simp, rfl⟩) (by repeat (first | (with_reducible exact Fin.done (by repeat (first | (with_reducible exact Rest.here) | apply Rest.there))) | (apply Fin.cons (by first | ((repeat (first | (with_reducible exact F0 _) | apply F1)); done) | (repeat (first | exact F0 _ | apply F1))))))

set_option maxRecDepth 100000 in
theorem cmpI_ctr {G : Gp} {a b : Int} :
    Ctr Try.prog G 40 [.int .i64 a, .int .i64 b] [] (fun F v A => v = .int .i64 (cmpI a b) ∧ A = F) := by
  refine Ctr.intro Try.func40 rfl (by kernel_rfl) rfl (fun F => ?_)
  simp only [List.nil_append]
  refine Run.sr ?_
  refine RunL.as rfl rfl ?_
  refine RunL.nil ?_
  refine Run.sr ?_
  refine RunL.mv rfl rfl ?_
  refine RunL.call rfl rfl (by rfl) (by repeat (first | (with_reducible exact Take.nil _) | (apply Take.cons (by first | ((repeat (first | (with_reducible exact F0 _) | apply F1)); done) | (repeat (first | exact F0 _ | apply F1)))))) (isNaNi_ctr) (Wt.none rfl) rfl ?_
  rintro _ _ ⟨rfl, hA_⟩
  replace hA_ := hA_.symm; subst hA_
  refine RunL.as rfl rfl ?_
  refine RunL.nil ?_
  refine Run.sr ?_
  refine RunL.mv rfl rfl ?_
  refine RunL.call rfl rfl (by rfl) (by repeat (first | (with_reducible exact Take.nil _) | (apply Take.cons (by first | ((repeat (first | (with_reducible exact F0 _) | apply F1)); done) | (repeat (first | exact F0 _ | apply F1)))))) (isNaNi_ctr) (Wt.none rfl) rfl ?_
  rintro _ _ ⟨rfl, hA_⟩
  replace hA_ := hA_.symm; subst hA_
  refine RunL.as rfl rfl ?_
  refine RunL.nil ?_
  refine Run.seq ?_
  refine Run.sr ?_
  refine RunL.mv rfl rfl ?_
  refine RunL.nil ?_
  refine Run.condF rfl ?_
  refine Run.skip ?_
  refine Run.seq ?_
  refine Run.sr ?_
  refine RunL.mv rfl rfl ?_
  refine RunL.nil ?_
  refine Run.condF rfl ?_
  refine Run.skip ?_
  refine Run.seq ?_
  refine Run.sr ?_
  refine RunL.mv rfl rfl ?_
  refine RunL.mv rfl rfl ?_
  refine RunL.pure (Pure.lss rfl rfl) (Wt.none rfl) rfl rfl ?_
  refine RunL.nil ?_
  refine Run.cond rfl (fun h1 => ?_) (fun h1 => ?_)
  · try simp only [ZA, ZB, ZC, ZD, ZE, ZF, ZG, ZH, ZI, ZJ, ZK, ZL, ZM, ZN, ZO, ZP, ZQ, ZR] at h1
    refine Run.sr ?_
    refine RunL.as rfl rfl ?_
    refine RunL.nil ?_
    exact Run.ret Try.func40 (res1 rfl rfl) (by exact ⟨by rw [cmpI, if_pos h1], rfl⟩) (by repeat (first | (with_reducible exact Fin.done (by repeat (first | (with_reducible exact Rest.here) | apply Rest.there))) | (apply Fin.cons (by first | ((repeat (first | (with_reducible exact F0 _) | apply F1)); done) | (repeat (first | exact F0 _ | apply F1))))))
  · try simp only [ZA, ZB, ZC, ZD, ZE, ZF, ZG, ZH, ZI, ZJ, ZK, ZL, ZM, ZN, ZO, ZP, ZQ, ZR] at h1
    refine Run.skip ?_
    refine Run.seq ?_
    refine Run.sr ?_
    refine RunL.mv rfl rfl ?_
    refine RunL.mv rfl rfl ?_
    refine RunL.pure (Pure.gtr rfl rfl) (Wt.none rfl) rfl rfl ?_
    refine RunL.nil ?_
    refine Run.cond rfl (fun h2 => ?_) (fun h2 => ?_)
    · try simp only [ZA, ZB, ZC, ZD, ZE, ZF, ZG, ZH, ZI, ZJ, ZK, ZL, ZM, ZN, ZO, ZP, ZQ, ZR] at h2
      refine Run.sr ?_
      refine RunL.as rfl rfl ?_
      refine RunL.nil ?_
      exact Run.ret Try.func40 (res1 rfl rfl) (by exact ⟨by rw [cmpI, if_neg (by omega), if_pos h2], rfl⟩) (by repeat (first | (with_reducible exact Fin.done (by repeat (first | (with_reducible exact Rest.here) | apply Rest.there))) | (apply Fin.cons (by first | ((repeat (first | (with_reducible exact F0 _) | apply F1)); done) | (repeat (first | exact F0 _ | apply F1))))))
    · try simp only [ZA, ZB, ZC, ZD, ZE, ZF, ZG, ZH, ZI, ZJ, ZK, ZL, ZM, ZN, ZO, ZP, ZQ, ZR] at h2
      refine Run.skip ?_
      refine Run.sr ?_
      refine RunL.as rfl rfl ?_
      refine RunL.nil ?_
      exact Run.ret Try.func40 (res1 rfl rfl) (by exact ⟨by rw [cmpI, if_neg (by omega), if_neg (by omega)], rfl⟩) (by repeat (first | (with_reducible exact Fin.done (by repeat (first | (with_reducible exact Rest.here) | apply Rest.there))) | (apply Fin.cons (by first | ((repeat (first | (with_reducible exact F0 _) | apply F1)); done) | (repeat (first | exact F0 _ | apply F1))))))

set_option maxRecDepth 100000 in
theorem Or_ctr {G : Gp} {a : Option Addr} {zs : List Int} {cap : Nat} (h : SlR G 23 1 a zs.length (zs.map (Value.int .i64))) (hb : zs.length ≤ 1000000) :
    Ctr Try.prog G 39 [.slice a zs.length cap] [] (fun F v A => v = .int .i64 (orL zs) ∧ A = F) := by
  refine Ctr.intro Try.func39 rfl (by kernel_rfl) rfl (fun F => ?_)
  simp only [List.nil_append]
  refine Run.sr ?_
  refine RunL.as rfl rfl ?_
  refine RunL.nil ?_
  refine Run.sr ?_
  refine RunL.as rfl rfl ?_
  refine RunL.nil ?_
  refine Run.seq ?_
  refine Run.sr ?_
  refine RunL.mv rfl rfl ?_
  refine RunL.pure (Pure.lenSl rfl rfl und23) (Wt.none rfl) rfl rfl ?_
  refine RunL.mv rfl rfl ?_
  refine RunL.nil ?_
  refine Run.block ?_
  refine Run.keep (.cons rfl (.cons rfl (.cons rfl (.cons rfl (.nil)))) : Keep _ [3, 6, 7, 8] _) ?_
  refine Run.loopR (fun n e A => ∃ (i : Nat), i ≤ zs.length ∧ orL zs = orL (zs.drop i) ∧ n = zs.length - i ∧ e = [(3, .int .i64 0), (6, .slice a zs.length cap), (7, .int .i64 (zs.length : Nat)), (8, .int .i64 (i : Nat))] ∧ A = F) (zs.length) ⟨0, Nat.zero_le _, rfl, rfl, rfl, rfl⟩ ?_
  rintro n _ _ ⟨i, hi, ho, rfl, rfl, rfl⟩ ih
  refine Run.sr ?_
  refine RunL.pure (Pure.lss rfl rfl) (Wt.none rfl) rfl rfl ?_
  refine RunL.nil ?_
  refine Run.seq ?_
  refine Run.cond rfl (fun h1 => ?_) (fun h1 => ?_)
  · try simp only [ZA, ZB, ZC, ZD, ZE, ZF, ZG, ZH, ZI, ZJ, ZK, ZL, ZM, ZN, ZO, ZP, ZQ, ZR] at h1
    obtain ⟨b, T', pre, post, rfl, hro⟩ := h.open1 (show 0 < zs.length by omega)
    obtain ⟨x, hx⟩ := get_some (xs := zs) (i := i) (by omega)
    have hd : zs.drop i = x :: zs.drop (i + 1) := by rw [List.drop_eq_getElem_cons (by omega)]; congr 1; rw [List.getElem?_eq_getElem (by omega)] at hx; exact Option.some.inj hx
    refine Run.skip ?_
    refine Run.seq ?_
    refine Run.block ?_
    refine Run.sr ?_
    refine RunL.pure (Pure.indexAddr rfl rfl und23 sz3 (by omega) (by omega)) (Wt.none rfl) rfl rfl ?_
    refine RunL.load1R rfl hro (elem1_at hx) agg3 (Wt.none rfl) rfl ?_
    refine RunL.as rfl rfl ?_
    refine RunL.nil ?_
    refine Run.sr ?_
    refine RunL.mv rfl rfl ?_
    refine RunL.mv rfl rfl ?_
    refine RunL.pure (Pure.neq rfl rfl) (Wt.none rfl) rfl rfl ?_
    refine RunL.nil ?_
    refine Run.cond rfl (fun h2 => ?_) (fun h2 => ?_)
    · try simp only [ZA, ZB, ZC, ZD, ZE, ZF, ZG, ZH, ZI, ZJ, ZK, ZL, ZM, ZN, ZO, ZP, ZQ, ZR] at h2
      refine Run.sr ?_
      refine RunL.mv rfl rfl ?_
      refine RunL.as rfl rfl ?_
      refine RunL.nil ?_
      exact Run.ret Try.func39 (res1 rfl rfl) (by exact ⟨by rw [ho, hd, orL, orI, if_pos h2], rfl⟩) (by repeat (first | (with_reducible exact Fin.done (by repeat (first | (with_reducible exact Rest.here) | apply Rest.there))) | (apply Fin.cons (by first | ((repeat (first | (with_reducible exact F0 _) | apply F1)); done) | (repeat (first | exact F0 _ | apply F1))))))
    · try simp only [ZA, ZB, ZC, ZD, ZE, ZF, ZG, ZH, ZI, ZJ, ZK, ZL, ZM, ZN, ZO, ZP, ZQ, ZR] at h2
      refine Run.skip ?_
      refine Run.inBlock ?_
      refine Run.region ?_
      first | refine RunL.pure (Pure.addI rfl rfl (by omega)) (Wt.none rfl) rfl rfl ?_ | refine RunL.pure (Pure.add rfl rfl) (Wt.none rfl) rfl rfl ?_
      refine RunL.mv rfl rfl ?_
      refine RunL.nil ?_
      refine Run.keep (.cons rfl (.cons rfl (.cons rfl (.cons rfl (.nil)))) : Keep _ [3, 6, 7, 8] _) ?_
      refine ih _ _ _ ?_ ⟨i + 1, by omega, by rw [ho, hd, orL, orI, if_neg (by omega)], rfl, rfl, rfl⟩
      omega
  · try simp only [ZA, ZB, ZC, ZD, ZE, ZF, ZG, ZH, ZI, ZJ, ZK, ZL, ZM, ZN, ZO, ZP, ZQ, ZR] at h1
    refine Run.exit rfl ?_
    refine Run.sr ?_
    refine RunL.mv rfl rfl ?_
    refine RunL.as rfl rfl ?_
    refine RunL.nil ?_
    exact Run.ret Try.func39 (res1 rfl rfl) (by exact ⟨by rw [ho, List.drop_of_length_le (by omega)]; rfl, rfl⟩) (by repeat (first | (with_reducible exact Fin.done (by repeat (first | (with_reducible exact Rest.here) | apply Rest.there))) | (apply Fin.cons (by first | ((repeat (first | (with_reducible exact F0 _) | apply F1)); done) | (repeat (first | exact F0 _ | apply F1))))))

end Go.Proofs.Ytppamndllgojnaa
