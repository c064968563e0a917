/- Comparisons. -/
import Derived.Test.YtaeacdhilekcbaaR1
set_option linter.unusedVariables false
set_option linter.unusedSimpArgs false
namespace Go.Proofs.Ytaeacdhilekcbaa
open Go Csl


namespace Csl
def cmpPos (a b : Pos) : Int := orI (cmpI a.depth b.depth) (cmpS a.id b.id)
def numB (b : Bool) : Int := if b then 1 else 0
def cmpK (a b : K) : Int := orI (cmpS a.room b.room) (orI (cmpS a.user b.user) (orI (cmpS a.thread b.thread) (cmpI (numB a.priv) (numB b.priv))))
theorem cmpPos_law : LawCmp cmpPos := (cmpI_law.lex cmpS_law).map (f := fun p : Pos => (p.depth, p.id)) (fun a b h => by cases a; cases b; simp_all)
theorem cmpK_law : LawCmp cmpK := (cmpS_law.lex (cmpS_law.lex (cmpS_law.lex cmpI_law))).map (f := fun k : K => (k.room, k.user, k.thread, numB k.priv)) (fun a b h => by
  obtain ⟨a1, a2, a3, a4⟩ := a; obtain ⟨b1, b2, b3, b4⟩ := b
  simp only [Prod.mk.injEq] at h
  obtain ⟨rfl, rfl, rfl, h⟩ := h
  cases a4 <;> cases b4 <;> simp_all [numB])
def beforePos (a b : Pos) : Bool := decide (a.depth < b.depth) || (decide (a.depth = b.depth) && Op.bytesLess (bl a.id) (bl b.id))
def beforeK (a b : K) : Bool := if a.room ≠ b.room then Op.bytesLess (bl a.room) (bl b.room) else if a.user ≠ b.user then Op.bytesLess (bl a.user) (bl b.user) else if a.thread ≠ b.thread then Op.bytesLess (bl a.thread) (bl b.thread) else !a.priv && b.priv
theorem beforePos_cmp {a b : Pos} : beforePos a b = true ↔ cmpPos a b < 0 := by
  unfold beforePos cmpPos orI cmpI
  by_cases h1 : a.depth < b.depth
  · simp [h1]
  · by_cases h2 : a.depth = b.depth
    · simp [h2, cmpS_lt]
    · have : a.depth > b.depth := by omega
      simp [h1, h2, this]
theorem beforeK_cmp {a b : K} : beforeK a b = true ↔ cmpK a b < 0 := by
  unfold beforeK cmpK orI
  by_cases h1 : a.room = b.room
  · have z1 := (cmpS_law.eq0 a.room b.room).2 h1
    by_cases h2 : a.user = b.user
    · have z2 := (cmpS_law.eq0 a.user b.user).2 h2
      by_cases h3 : a.thread = b.thread
      · have z3 := (cmpS_law.eq0 a.thread b.thread).2 h3
        simp [h1, h2, h3, z1, z2, z3, (cmpS_law.eq0 b.room b.room).2 rfl, (cmpS_law.eq0 b.user b.user).2 rfl, (cmpS_law.eq0 b.thread b.thread).2 rfl]
        cases a.priv <;> cases b.priv <;> simp [numB, cmpI]
      · have z3 : cmpS a.thread b.thread ≠ 0 := fun e => h3 ((cmpS_law.eq0 _ _).1 e)
        simp [h1, h2, h3, z3, cmpS_lt, (cmpS_law.eq0 b.room b.room).2 rfl, (cmpS_law.eq0 b.user b.user).2 rfl]
    · have z2 : cmpS a.user b.user ≠ 0 := fun e => h2 ((cmpS_law.eq0 _ _).1 e)
      simp [h1, h2, z2, cmpS_lt, (cmpS_law.eq0 b.room b.room).2 rfl]
  · have z1 : cmpS a.room b.room ≠ 0 := fun e => h1 ((cmpS_law.eq0 _ _).1 e)
    simp [h1, z1, cmpS_lt]
abbrev eK (k : K) : Value := .agg (cK k).toArray
abbrev eP (p : Pos) : Value := .agg (cPos p).toArray
def noPos : Pos := ⟨0, .empty⟩
theorem mvalP (o : Option Pos) : mval eP (.agg #[.int .i64 0, .string .empty]) o = .agg (cPos (o.getD noPos)).toArray := by cases o <;> rfl
/-- A table of marks. -/
def Tb (p : Nat) (l : List (K × Pos)) : HProp := Ex (fun _ : Nat => True) (fun r => [row p 63 [.map (some r)], Mp r (menc eK eP l)])
def TbR (G : Gp) (p : Nat) (l : List (K × Pos)) : Prop := ∃ r, Ro G p 63 [.map (some r)] ∧ MpR G r (menc eK eP l)
theorem TbR.mono {G G' : Gp} {p : Nat} {l : List (K × Pos)} (h : Gp.le G G') (t : TbR G p l) : TbR G' p l := by
  obtain ⟨r, h1, h2⟩ := t; exact ⟨r, h1.mono h, h2.mono h⟩
theorem Lends.Tb {p : Nat} {l : List (K × Pos)} : Lends (Tb p l) (fun G => TbR G p l) := Lends.of fun G h q d => by
  obtain ⟨r, _, h1, h2, d', rfl, q1, h3, h4, d'', rfl, q2, q3⟩ := q
  have e3 : h4 = Hp.empty := q3
  subst e3
  rw [Hp.join_empty] at d d' ⊢
  exact ⟨r, Ro.in_join d (Ro.of_row q1 (Hp.disj_join.1 d).1), MpR.in_join d (MpR.of_mp q2 (Hp.disj_join.1 d).2) d'⟩
/-- What a table takes. -/
def adopts (l : List (K × Pos)) (k : K) (q : Pos) : Bool := match mget k l with
  | some o => decide (cmpPos o q < 0)
  | none => true
def tput (l : List (K × Pos)) (k : K) (q : Pos) : List (K × Pos) := if adopts l k q then mput k q l else l
def orZ (l : List Int) : Int := match l.find? (fun z => decide (z ≠ 0)) with
  | some z => z
  | none => 0
end Csl

set_option maxRecDepth 100000 in
theorem isNaNs_ctr {G : Gp} {a : ByteArray} :
    Ctr Try.prog G 45 [.string a] [] (fun F v A => v = .bool false ∧ A = F) := by
  refine Ctr.intro Try.func45 rfl (by kernel_rfl) rfl (fun F => ?_)
  simp only [List.nil_append]
  refine Run.sr ?_
  refine RunL.as rfl rfl ?_
  refine RunL.nil ?_
  refine Run.sr ?_
  refine RunL.mv rfl rfl ?_
  refine RunL.mv rfl rfl ?_
  refine RunL.pure (Pure.sneq rfl rfl) (Wt.none rfl) rfl rfl ?_
  refine RunL.as rfl rfl ?_
  refine RunL.nil ?_
  exact Run.ret Try.func45 (res1 rfl rfl) (by exact ⟨by simp, rfl⟩) (by repeat (first | (with_reducible exact Fin.done (by repeat (first | (with_reducible exact Rest.here) | apply Rest.there))) | (apply Fin.cons (by first | ((repeat (first | (with_reducible exact F0 _) | apply F1)); done) | (repeat (first | exact F0 _ | apply F1))))))

set_option maxRecDepth 100000 in
theorem isNaNi_ctr {G : Gp} {a : Int} :
    Ctr Try.prog G 46 [.int .i64 a] [] (fun F v A => v = .bool false ∧ A = F) := by
  refine Ctr.intro Try.func46 rfl (by kernel_rfl) rfl (fun F => ?_)
  simp only [List.nil_append]
  refine Run.sr ?_
  refine RunL.as rfl rfl ?_
  refine RunL.nil ?_
  refine Run.sr ?_
  refine RunL.mv rfl rfl ?_
  refine RunL.mv rfl rfl ?_
  refine RunL.pure (Pure.neq rfl rfl) (Wt.none rfl) rfl rfl ?_
  refine RunL.as rfl rfl ?_
  refine RunL.nil ?_
  exact Run.ret Try.func46 (res1 rfl rfl) (by exact ⟨by simp, rfl⟩) (by repeat (first | (with_reducible exact Fin.done (by repeat (first | (with_reducible exact Rest.here) | apply Rest.there))) | (apply Fin.cons (by first | ((repeat (first | (with_reducible exact F0 _) | apply F1)); done) | (repeat (first | exact F0 _ | apply F1))))))

set_option maxRecDepth 100000 in
theorem cmpS_ctr {G : Gp} {a b : ByteArray} :
    Ctr Try.prog G 36 [.string a, .string b] [] (fun F v A => v = .int .i64 (cmpS a b) ∧ A = F) := by
  refine Ctr.intro Try.func36 rfl (by kernel_rfl) rfl (fun F => ?_)
  simp only [List.nil_append]
  refine Run.sr ?_
  refine RunL.as rfl rfl ?_
  refine RunL.nil ?_
  refine Run.sr ?_
  refine RunL.mv rfl rfl ?_
  refine RunL.call rfl rfl (by rfl) (by repeat (first | (with_reducible exact Take.nil _) | (apply Take.cons (by first | ((repeat (first | (with_reducible exact F0 _) | apply F1)); done) | (repeat (first | exact F0 _ | apply F1)))))) (isNaNs_ctr) (Wt.none rfl) rfl ?_
  rintro _ _ ⟨rfl, hA_⟩
  replace hA_ := hA_.symm; subst hA_
  refine RunL.as rfl rfl ?_
  refine RunL.nil ?_
  refine Run.sr ?_
  refine RunL.mv rfl rfl ?_
  refine RunL.call rfl rfl (by rfl) (by repeat (first | (with_reducible exact Take.nil _) | (apply Take.cons (by first | ((repeat (first | (with_reducible exact F0 _) | apply F1)); done) | (repeat (first | exact F0 _ | apply F1)))))) (isNaNs_ctr) (Wt.none rfl) rfl ?_
  rintro _ _ ⟨rfl, hA_⟩
  replace hA_ := hA_.symm; subst hA_
  refine RunL.as rfl rfl ?_
  refine RunL.nil ?_
  refine Run.seq ?_
  refine Run.sr ?_
  refine RunL.mv rfl rfl ?_
  refine RunL.nil ?_
  refine Run.condF rfl ?_
  refine Run.skip ?_
  refine Run.seq ?_
  refine Run.sr ?_
  refine RunL.mv rfl rfl ?_
  refine RunL.nil ?_
  refine Run.condF rfl ?_
  refine Run.skip ?_
  refine Run.seq ?_
  refine Run.sr ?_
  refine RunL.mv rfl rfl ?_
  refine RunL.mv rfl rfl ?_
  refine RunL.pure (Pure.slss rfl rfl) (Wt.none rfl) rfl rfl ?_
  refine RunL.nil ?_
  refine Run.cond rfl (fun h1 => ?_) (fun h1 => ?_)
  · try simp only [ZA, ZB, ZC, ZD, ZE, ZF, ZG, ZH, ZI, ZJ, ZK, ZL, ZM, ZN, ZO, ZP, ZQ, ZR] at h1
    refine Run.sr ?_
    refine RunL.as rfl rfl ?_
    refine RunL.nil ?_
    exact Run.ret Try.func36 (res1 rfl rfl) (by exact ⟨by rw [cmpS, if_pos h1], rfl⟩) (by repeat (first | (with_reducible exact Fin.done (by repeat (first | (with_reducible exact Rest.here) | apply Rest.there))) | (apply Fin.cons (by first | ((repeat (first | (with_reducible exact F0 _) | apply F1)); done) | (repeat (first | exact F0 _ | apply F1))))))
  · try simp only [ZA, ZB, ZC, ZD, ZE, ZF, ZG, ZH, ZI, ZJ, ZK, ZL, ZM, ZN, ZO, ZP, ZQ, ZR] at h1
    refine Run.skip ?_
    refine Run.seq ?_
    refine Run.sr ?_
    refine RunL.mv rfl rfl ?_
    refine RunL.mv rfl rfl ?_
    refine RunL.pure (Pure.sgtr rfl rfl) (Wt.none rfl) rfl rfl ?_
    refine RunL.nil ?_
    refine Run.cond rfl (fun h2 => ?_) (fun h2 => ?_)
    · try simp only [ZA, ZB, ZC, ZD, ZE, ZF, ZG, ZH, ZI, ZJ, ZK, ZL, ZM, ZN, ZO, ZP, ZQ, ZR] at h2
      refine Run.sr ?_
      refine RunL.as rfl rfl ?_
      refine RunL.nil ?_
      exact Run.ret Try.func36 (res1 rfl rfl) (by exact ⟨by rw [cmpS, if_neg (by rw [h1]; decide), if_neg (fun e => by subst e; simp at h2)], rfl⟩) (by repeat (first | (with_reducible exact Fin.done (by repeat (first | (with_reducible exact Rest.here) | apply Rest.there))) | (apply Fin.cons (by first | ((repeat (first | (with_reducible exact F0 _) | apply F1)); done) | (repeat (first | exact F0 _ | apply F1))))))
    · try simp only [ZA, ZB, ZC, ZD, ZE, ZF, ZG, ZH, ZI, ZJ, ZK, ZL, ZM, ZN, ZO, ZP, ZQ, ZR] at h2
      refine Run.skip ?_
      refine Run.sr ?_
      refine RunL.as rfl rfl ?_
      refine RunL.nil ?_
      exact Run.ret Try.func36 (res1 rfl rfl) (by exact ⟨by have : a = b := bl_inj (by simpa [h1] using h2); rw [(cmpS_law.eq0 a b).2 this], rfl⟩) (by repeat (first | (with_reducible exact Fin.done (by repeat (first | (with_reducible exact Rest.here) | apply Rest.there))) | (apply Fin.cons (by first | ((repeat (first | (with_reducible exact F0 _) | apply F1)); done) | (repeat (first | exact F0 _ | apply F1))))))

set_option maxRecDepth 100000 in
theorem cmpI_ctr {G : Gp} {a b : Int} :
    Ctr Try.prog G 37 [.int .i64 a, .int .i64 b] [] (fun F v A => v = .int .i64 (cmpI a b) ∧ A = F) := by
  refine Ctr.intro Try.func37 rfl (by kernel_rfl) rfl (fun F => ?_)
  simp only [List.nil_append]
  refine Run.sr ?_
  refine RunL.as rfl rfl ?_
  refine RunL.nil ?_
  refine Run.sr ?_
  refine RunL.mv rfl rfl ?_
  refine RunL.call rfl rfl (by rfl) (by repeat (first | (with_reducible exact Take.nil _) | (apply Take.cons (by first | ((repeat (first | (with_reducible exact F0 _) | apply F1)); done) | (repeat (first | exact F0 _ | apply F1)))))) (isNaNi_ctr) (Wt.none rfl) rfl ?_
  rintro _ _ ⟨rfl, hA_⟩
  replace hA_ := hA_.symm; subst hA_
  refine RunL.as rfl rfl ?_
  refine RunL.nil ?_
  refine Run.sr ?_
  refine RunL.mv rfl rfl ?_
  refine RunL.call rfl rfl (by rfl) (by repeat (first | (with_reducible exact Take.nil _) | (apply Take.cons (by first | ((repeat (first | (with_reducible exact F0 _) | apply F1)); done) | (repeat (first | exact F0 _ | apply F1)))))) (isNaNi_ctr) (Wt.none rfl) rfl ?_
  rintro _ _ ⟨rfl, hA_⟩
  replace hA_ := hA_.symm; subst hA_
  refine RunL.as rfl rfl ?_
  refine RunL.nil ?_
  refine Run.seq ?_
  refine Run.sr ?_
  refine RunL.mv rfl rfl ?_
  refine RunL.nil ?_
  refine Run.condF rfl ?_
  refine Run.skip ?_
  refine Run.seq ?_
  refine Run.sr ?_
  refine RunL.mv rfl rfl ?_
  refine RunL.nil ?_
  refine Run.condF rfl ?_
  refine Run.skip ?_
  refine Run.seq ?_
  refine Run.sr ?_
  refine RunL.mv rfl rfl ?_
  refine RunL.mv rfl rfl ?_
  refine RunL.pure (Pure.lss rfl rfl) (Wt.none rfl) rfl rfl ?_
  refine RunL.nil ?_
  refine Run.cond rfl (fun h1 => ?_) (fun h1 => ?_)
  · try simp only [ZA, ZB, ZC, ZD, ZE, ZF, ZG, ZH, ZI, ZJ, ZK, ZL, ZM, ZN, ZO, ZP, ZQ, ZR] at h1
    refine Run.sr ?_
    refine RunL.as rfl rfl ?_
    refine RunL.nil ?_
    exact Run.ret Try.func37 (res1 rfl rfl) (by exact ⟨by rw [cmpI, if_pos h1], rfl⟩) (by repeat (first | (with_reducible exact Fin.done (by repeat (first | (with_reducible exact Rest.here) | apply Rest.there))) | (apply Fin.cons (by first | ((repeat (first | (with_reducible exact F0 _) | apply F1)); done) | (repeat (first | exact F0 _ | apply F1))))))
  · try simp only [ZA, ZB, ZC, ZD, ZE, ZF, ZG, ZH, ZI, ZJ, ZK, ZL, ZM, ZN, ZO, ZP, ZQ, ZR] at h1
    refine Run.skip ?_
    refine Run.seq ?_
    refine Run.sr ?_
    refine RunL.mv rfl rfl ?_
    refine RunL.mv rfl rfl ?_
    refine RunL.pure (Pure.gtr rfl rfl) (Wt.none rfl) rfl rfl ?_
    refine RunL.nil ?_
    refine Run.cond rfl (fun h2 => ?_) (fun h2 => ?_)
    · try simp only [ZA, ZB, ZC, ZD, ZE, ZF, ZG, ZH, ZI, ZJ, ZK, ZL, ZM, ZN, ZO, ZP, ZQ, ZR] at h2
      refine Run.sr ?_
      refine RunL.as rfl rfl ?_
      refine RunL.nil ?_
      exact Run.ret Try.func37 (res1 rfl rfl) (by exact ⟨by rw [cmpI, if_neg (by omega), if_pos h2], rfl⟩) (by repeat (first | (with_reducible exact Fin.done (by repeat (first | (with_reducible exact Rest.here) | apply Rest.there))) | (apply Fin.cons (by first | ((repeat (first | (with_reducible exact F0 _) | apply F1)); done) | (repeat (first | exact F0 _ | apply F1))))))
    · try simp only [ZA, ZB, ZC, ZD, ZE, ZF, ZG, ZH, ZI, ZJ, ZK, ZL, ZM, ZN, ZO, ZP, ZQ, ZR] at h2
      refine Run.skip ?_
      refine Run.sr ?_
      refine RunL.as rfl rfl ?_
      refine RunL.nil ?_
      exact Run.ret Try.func37 (res1 rfl rfl) (by exact ⟨by rw [cmpI, if_neg (by omega), if_neg (by omega)], rfl⟩) (by repeat (first | (with_reducible exact Fin.done (by repeat (first | (with_reducible exact Rest.here) | apply Rest.there))) | (apply Fin.cons (by first | ((repeat (first | (with_reducible exact F0 _) | apply F1)); done) | (repeat (first | exact F0 _ | apply F1))))))

end Go.Proofs.Ytaeacdhilekcbaa
