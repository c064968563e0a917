/- The reference's heap. -/
import Derived.Test.YtppamndllgojnaaH7
set_option linter.unusedVariables false
set_option linter.unusedSimpArgs false
set_option linter.unusedSectionVars false
namespace Go.Proofs.Ytppamndllgojnaa
open Go Csl
theorem fo29_0 : fieldOff Try.prog 29 0 = some 0 := by kernel_rfl
theorem agg27 : isAggOf Try.prog 27 = some false := by kernel_rfl
theorem und27 : Try.prog.underlying 27 = some (Go.TypeDesc.slice 36) := Try.underlying27
theorem fo36_1 : fieldOff Try.prog 36 1 = some 1 := by kernel_rfl
theorem zz36 : zeroIs Try.prog 36 = some (.agg #[(.int .i64 0), (.string .empty)]) := by kernel_rfl
theorem by36 : bytesIs Try.prog 36 = some 24 := by kernel_rfl
theorem sz27 : sizeIs Try.prog 27 = some 1 := by kernel_rfl
theorem fo36_0 : fieldOff Try.prog 36 0 = some 0 := by kernel_rfl
theorem pl36 : placesOf Try.prog 36 = some ([(0, 1), (1, 1)], (.agg #[(.int .i64 0), (.string .empty)])) := by kernel_rfl

namespace Csl
def RH (q : Nat) (tl : List (ByteArray × Int)) : HProp := Ex (fun _ : Option Addr × Nat => True) (fun x => [row q 29 [.slice x.1 (EL tl).length x.2], Sl 36 2 x.1 (EL tl).length x.2 ((EL tl).flatMap cE)])
section
variable {c : Cx} {G : Gp} {ops : Array Oper} {kk : KT} {e : Env} {A A' : List HProp} {lo : List Oper} {st : List Item} {q n cap : Nat} {a : Option Addr} {tl : List (ByteArray × Int)} {cs : List Value}
theorem Run.openR (hf : Find (RH q tl) A A') (next : ∀ a cap, Run c G st e (row q 29 [.slice a (EL tl).length cap] :: Sl 36 2 a (EL tl).length cap ((EL tl).flatMap cE) :: A')) : Run c G st e A := Run.openEx hf fun x _ => next x.1 x.2
theorem RunL.openR (hf : Find (RH q tl) A A') (next : ∀ a cap, RunL c G ops lo kk e (row q 29 [.slice a (EL tl).length cap] :: Sl 36 2 a (EL tl).length cap ((EL tl).flatMap cE) :: A')) : RunL c G ops lo kk e A := RunL.openEx hf fun x _ => next x.1 x.2
theorem Run.mkR (tl : List (ByteArray × Int)) (ht : Take [row q 29 [.slice a n cap], Sl 36 2 a n cap cs] A A') (hn : n = (EL tl).length) (hc : cs = (EL tl).flatMap cE) (next : Run c G st e (RH q tl :: A')) : Run c G st e A := Run.mkEx (a, cap) (by subst hn; subst hc; exact ht) trivial next
theorem RunL.mkR (tl : List (ByteArray × Int)) (ht : Take [row q 29 [.slice a n cap], Sl 36 2 a n cap cs] A A') (hn : n = (EL tl).length) (hc : cs = (EL tl).flatMap cE) (next : RunL c G ops lo kk e (RH q tl :: A')) : RunL c G ops lo kk e A := RunL.mkEx (a, cap) (by subst hn; subst hc; exact ht) trivial next
end
theorem cmpE_lt {x y : E} : cmpE x y < 0 ↔ x.tick < y.tick ∨ (x.tick = y.tick ∧ Op.bytesLess (bl x.key) (bl y.key) = true) := by
  unfold cmpE orI cmpI
  by_cases h1 : x.tick < y.tick
  · simp [h1]
  · by_cases h2 : x.tick = y.tick
    · simp [h2, cmpS_lt]
    · have : x.tick > y.tick := by omega
      simp [h1, h2, this]
theorem EL_drop1 {tl : List (ByteArray × Int)} (hn : KN tl) {e : E} (h : (EL tl)[0]? = some e) : (EL tl).drop 1 = EL (mdel e.key tl) := by
  have := EL_del hn h; simpa using this
def fewO (o : OO) : OO := { o with key := cut o.key 4 }
end Csl

set_option maxHeartbeats 2000000 in
set_option maxRecDepth 100000 in
theorem rDrop_ctr {G : Gp} {q : Nat} {tl : List (ByteArray × Int)} {k : ByteArray} (hn : KN tl) (hb : tl.length ≤ 1000) :
    Ctr Try.prog G 23 [.pointer (some ⟨q, 0, none⟩), .string k] [RH q tl] (fun F v A => v = .bool (mget k tl).isSome ∧ A = RH q (mdel k tl) :: F) := by
  refine Ctr.intro Try.func23 rfl (by kernel_rfl) rfl (fun F => ?_)
  simp only [List.cons_append, List.nil_append]
  have hEl := EL_len tl
  refine Run.sr ?_
  refine RunL.as rfl rfl ?_
  refine RunL.nil ?_
  refine Run.seq ?_
  refine Run.sr ?_
  refine RunL.as rfl rfl ?_
  refine RunL.nil ?_
  refine Run.block ?_
  refine Run.keep (.cons rfl (.cons rfl (.cons rfl (.nil))) : Keep _ [0, 1, 5] _) ?_
  refine Run.loopF (F := F) (fun n e A => ∃ (i : Nat), i ≤ (EL tl).length ∧ (∀ j x, j < i → (EL tl)[j]? = some x → x.key ≠ k) ∧ n = (EL tl).length - i ∧ e = [(0, .pointer (some ⟨q, 0, none⟩)), (1, .string k), (5, .int .i64 (i : Nat))] ∧ A = RH q tl :: F) ((EL tl).length) (by exact ⟨0, by omega, fun j x hj => by omega, rfl, rfl, rfl⟩) (by repeat (first | (with_reducible exact Fin.done (by repeat (first | (with_reducible exact Rest.here) | apply Rest.there))) | (apply Fin.cons (by first | ((repeat (first | (with_reducible exact F0 _) | apply F1)); done) | (repeat (first | exact F0 _ | apply F1)))))) ?_
  rintro n _ _ ⟨i, hi, hno, rfl, rfl, hA_⟩ ih
  replace hA_ := hA_.symm; subst hA_
  refine Run.openR (by first | ((repeat (first | (with_reducible exact F0 _) | apply F1)); done) | (repeat (first | exact F0 _ | apply F1))) ?_; intro a cap
  refine Run.seq ?_
  refine Run.sr ?_
  refine RunL.mv rfl rfl ?_
  refine RunL.mv rfl rfl ?_
  refine RunL.pure (Pure.nilCheck rfl) (Wt.none rfl) rfl rfl ?_
  refine RunL.pure (Pure.fieldAddr rfl fo29_0) (Wt.none rfl) rfl rfl ?_
  first | refine RunL.load1 rfl (by first | ((repeat (first | (with_reducible exact F0 _) | apply F1)); done) | (repeat (first | exact F0 _ | apply F1))) (by rfl) agg27 (Wt.none rfl) rfl ?_ | refine RunL.load1R rfl (by assumption) (by rfl) agg27 (Wt.none rfl) rfl ?_
  refine RunL.pure (Pure.lenSl rfl rfl und27) (Wt.none rfl) rfl rfl ?_
  refine RunL.pure (Pure.lss rfl rfl) (Wt.none rfl) rfl rfl ?_
  refine RunL.nil ?_
  refine Run.cond rfl (fun h1 => ?_) (fun h1 => ?_)
  · try simp only [ZA, ZB, ZC, ZD, ZE, ZF, ZG, ZH, ZI, ZJ, ZK, ZL, ZM, ZN, ZO, ZP, ZQ, ZR] at h1
    obtain ⟨x, hx⟩ := get_some (xs := EL tl) (i := i) (by omega)
    refine Run.openSl (a := a) (n := (EL tl).length) (by first | ((repeat (first | (with_reducible exact F0 _) | apply F1)); done) | (repeat (first | exact F0 _ | apply F1))) (by omega) ?_; rintro b2 pre2 post2 rfl hsl1 hsl2 hsl3
    refine Run.skip ?_
    refine Run.seq ?_
    refine Run.block ?_
    refine Run.sr ?_
    refine RunL.mv rfl rfl ?_
    refine RunL.pure (Pure.nilCheck rfl) (Wt.none rfl) rfl rfl ?_
    refine RunL.pure (Pure.fieldAddr rfl fo29_0) (Wt.none rfl) rfl rfl ?_
    first | refine RunL.load1 rfl (by first | ((repeat (first | (with_reducible exact F0 _) | apply F1)); done) | (repeat (first | exact F0 _ | apply F1))) (by rfl) agg27 (Wt.none rfl) rfl ?_ | refine RunL.load1R rfl (by assumption) (by rfl) agg27 (Wt.none rfl) rfl ?_
    refine RunL.mv rfl rfl ?_
    refine RunL.pure (Pure.indexAddr rfl rfl und27 sz36 (by omega) (by omega)) (Wt.none rfl) rfl rfl ?_
    refine RunL.pure (Pure.fieldAddr rfl fo36_1) (Wt.none rfl) rfl rfl ?_
    refine RunL.load1 rfl (by first | ((repeat (first | (with_reducible exact F0 _) | apply F1)); done) | (repeat (first | exact F0 _ | apply F1))) ((elem_at (f := cE) (sz := 2) (j := 1) (fun _ _ => rfl) hx (by decide)).trans rfl) agg9 (Wt.none rfl) rfl ?_
    refine RunL.mv rfl rfl ?_
    refine RunL.pure (Pure.seql rfl rfl) (Wt.none rfl) rfl rfl ?_
    refine RunL.nil ?_
    refine Run.cond rfl (fun h2 => ?_) (fun h2 => ?_)
    · try simp only [ZA, ZB, ZC, ZD, ZE, ZF, ZG, ZH, ZI, ZJ, ZK, ZL, ZM, ZN, ZO, ZP, ZQ, ZR] at h2
      obtain rfl : x.key = k := bl_inj h2
      have hmg := EL_mget hn (List.mem_of_getElem? hx)
      have hdel := EL_del hn hx
      refine Run.mkSl (b := b2) (pre := pre2) (post := post2) (sz := 2) (cs := (EL tl).flatMap cE) (n := (EL tl).length) (by first | ((repeat (first | (with_reducible exact F0 _) | apply F1)); done) | (repeat (first | exact F0 _ | apply F1))) hsl1 hsl2 hsl3 ?_
      refine Run.sr ?_
      refine RunL.as rfl rfl ?_
      refine RunL.nil ?_
      refine Run.sr ?_
      refine RunL.mv rfl rfl ?_
      refine RunL.mv rfl rfl ?_
      refine RunL.pure (Pure.nilCheck rfl) (Wt.none rfl) rfl rfl ?_
      refine RunL.pure (Pure.fieldAddr rfl fo29_0) (Wt.none rfl) rfl rfl ?_
      first | refine RunL.load1 rfl (by first | ((repeat (first | (with_reducible exact F0 _) | apply F1)); done) | (repeat (first | exact F0 _ | apply F1))) (by rfl) agg27 (Wt.none rfl) rfl ?_ | refine RunL.load1R rfl (by assumption) (by rfl) agg27 (Wt.none rfl) rfl ?_
      refine RunL.mv rfl rfl ?_
      refine RunL.pure (Pure.sliceTo rfl rfl und27 sz36 (by first | omega | (simp; done) | (simp; omega)) (by first | omega | (simp; done) | (simp; omega))) (Wt.none rfl) rfl rfl ?_
      refine RunL.append0 (m := i) rfl rfl rfl rfl und27 und27 rfl sz36 zz36 rfl by36 (by omega) (by omega) (fun w sw => (sw.find (p := Sl 36 2 _ (EL tl).length cap _) (by first | ((repeat (first | (with_reducible exact F0 _) | apply F1)); done) | (repeat (first | exact F0 _ | apply F1)))).srcTakeF i (fun _ _ => rfl) (by omega)) (Wt.none rfl) rfl ?_; intro a1 c1
      refine RunL.as rfl rfl ?_
      refine RunL.nil ?_
      refine Run.sr ?_
      refine RunL.mv rfl rfl ?_
      refine RunL.mv rfl rfl ?_
      refine RunL.mv rfl rfl ?_
      refine RunL.pure (Pure.nilCheck rfl) (Wt.none rfl) rfl rfl ?_
      refine RunL.pure (Pure.fieldAddr rfl fo29_0) (Wt.none rfl) rfl rfl ?_
      first | refine RunL.load1 rfl (by first | ((repeat (first | (with_reducible exact F0 _) | apply F1)); done) | (repeat (first | exact F0 _ | apply F1))) (by rfl) agg27 (Wt.none rfl) rfl ?_ | refine RunL.load1R rfl (by assumption) (by rfl) agg27 (Wt.none rfl) rfl ?_
      refine RunL.mv rfl rfl ?_
      first | refine RunL.pure (Pure.addI rfl rfl (by omega)) (Wt.none rfl) rfl rfl ?_ | refine RunL.pure (Pure.add rfl rfl) (Wt.none rfl) rfl rfl ?_
      refine RunL.pure (Pure.sliceFrom rfl rfl und27 sz36 (by first | omega | (simp; done) | (simp; omega)) (by first | omega | (simp; done) | (simp; omega))) (Wt.none rfl) rfl rfl ?_
      refine RunL.append (m := ((EL tl).length - (i + 1))) (n' := ((EL tl).take i ++ (EL tl).drop (i + 1)).length) (cs' := ((EL tl).take i ++ (EL tl).drop (i + 1)).flatMap cE) rfl rfl (by first | ((repeat (first | (with_reducible exact F0 _) | apply F1)); done) | (repeat (first | exact F0 _ | apply F1))) rfl rfl und27 und27 rfl sz36 zz36 rfl by36 (by omega) (by omega) (fun w sw => (sw.find (p := Sl 36 2 _ (EL tl).length cap _) (by first | ((repeat (first | (with_reducible exact F0 _) | apply F1)); done) | (repeat (first | exact F0 _ | apply F1)))).srcFromF (i + 1) (fun _ _ => rfl) (by omega)) (isOne_flat (f := cE) (fun _ => rfl)) (by simp; omega) (by rw [flatMap_app]) (Wt.none rfl) rfl ?_; intro a3 c3
      refine RunL.pure (Pure.nilCheck rfl) (Wt.none rfl) rfl rfl ?_
      refine RunL.pure (Pure.fieldAddr rfl fo29_0) (Wt.none rfl) rfl rfl ?_
      refine RunL.store1 rfl rfl (by first | ((repeat (first | (with_reducible exact F0 _) | apply F1)); done) | (repeat (first | exact F0 _ | apply F1))) sz27 (by rfl) (by simp) (Wt.none rfl) ?_
      try simp only [List.set_cons_zero, List.set_cons_succ]
      refine RunL.nil ?_
      refine Run.sr ?_
      refine RunL.as rfl rfl ?_
      refine RunL.nil ?_
      refine Run.mkR (mdel x.key tl) (by repeat (first | (with_reducible exact Take.nil _) | (apply Take.cons (by first | ((repeat (first | (with_reducible exact F0 _) | apply F1)); done) | (repeat (first | exact F0 _ | apply F1)))))) (by rw [hdel]) (by rw [hdel]) ?_
      exact Run.ret Try.func23 (res1 rfl rfl) (by exact ⟨by rw [hmg]; rfl, rfl⟩) (by repeat (first | (with_reducible exact Fin.done (by repeat (first | (with_reducible exact Rest.here) | apply Rest.there))) | (apply Fin.cons (by first | ((repeat (first | (with_reducible exact F0 _) | apply F1)); done) | (repeat (first | exact F0 _ | apply F1))))))
    · try simp only [ZA, ZB, ZC, ZD, ZE, ZF, ZG, ZH, ZI, ZJ, ZK, ZL, ZM, ZN, ZO, ZP, ZQ, ZR] at h2
      refine Run.skip ?_
      refine Run.inBlock ?_
      refine Run.region ?_
      refine RunL.mv rfl rfl ?_
      first | refine RunL.pure (Pure.addI rfl rfl (by omega)) (Wt.none rfl) rfl rfl ?_ | refine RunL.pure (Pure.add rfl rfl) (Wt.none rfl) rfl rfl ?_
      refine RunL.as rfl rfl ?_
      refine RunL.nil ?_
      refine Run.mkSl (b := b2) (pre := pre2) (post := post2) (sz := 2) (cs := (EL tl).flatMap cE) (n := (EL tl).length) (by first | ((repeat (first | (with_reducible exact F0 _) | apply F1)); done) | (repeat (first | exact F0 _ | apply F1))) hsl1 hsl2 hsl3 ?_
      refine Run.mkR (tl) (by repeat (first | (with_reducible exact Take.nil _) | (apply Take.cons (by first | ((repeat (first | (with_reducible exact F0 _) | apply F1)); done) | (repeat (first | exact F0 _ | apply F1)))))) (rfl) (rfl) ?_
      refine Run.keep (.cons rfl (.cons rfl (.cons rfl (.nil))) : Keep _ [0, 1, 5] _) ?_
      refine Run.againF (F := F) ih (by exact ⟨i + 1, by omega, lt_succ_of hno hx (fun e => h2 (by rw [e])), rfl, rfl, rfl⟩) (by repeat (first | (with_reducible exact Fin.done (by repeat (first | (with_reducible exact Rest.here) | apply Rest.there))) | (apply Fin.cons (by first | ((repeat (first | (with_reducible exact F0 _) | apply F1)); done) | (repeat (first | exact F0 _ | apply F1)))))) ?_
      omega
  · try simp only [ZA, ZB, ZC, ZD, ZE, ZF, ZG, ZH, ZI, ZJ, ZK, ZL, ZM, ZN, ZO, ZP, ZQ, ZR] at h1
    have hmg : mget k tl = none := EL_none (all_of_lt hno (by omega))
    refine Run.exit rfl ?_
    refine Run.sr ?_
    refine RunL.as rfl rfl ?_
    refine RunL.nil ?_
    refine Run.mkR (mdel k tl) (by repeat (first | (with_reducible exact Take.nil _) | (apply Take.cons (by first | ((repeat (first | (with_reducible exact F0 _) | apply F1)); done) | (repeat (first | exact F0 _ | apply F1)))))) (by rw [mdel_absent hmg]) (by rw [mdel_absent hmg]) ?_
    exact Run.ret Try.func23 (res1 rfl rfl) (by exact ⟨by rw [hmg]; rfl, rfl⟩) (by repeat (first | (with_reducible exact Fin.done (by repeat (first | (with_reducible exact Rest.here) | apply Rest.there))) | (apply Fin.cons (by first | ((repeat (first | (with_reducible exact F0 _) | apply F1)); done) | (repeat (first | exact F0 _ | apply F1))))))

set_option maxHeartbeats 2000000 in
set_option maxRecDepth 100000 in
theorem rAt_ctr {G : Gp} {q : Nat} {tl : List (ByteArray × Int)} {k : ByteArray} (hn : KN tl) (hb : tl.length ≤ 1000) :
    Ctr Try.prog G 21 [.pointer (some ⟨q, 0, none⟩), .string k] [RH q tl] (fun F v A => v = .tuple #[.int .i64 ((mget k tl).getD 0), .bool (mget k tl).isSome] ∧ A = RH q tl :: F) := by
  refine Ctr.intro Try.func21 rfl (by kernel_rfl) rfl (fun F => ?_)
  simp only [List.cons_append, List.nil_append]
  have hEl := EL_len tl
  refine Run.sr ?_
  refine RunL.as rfl rfl ?_
  refine RunL.as rfl rfl ?_
  refine RunL.nil ?_
  refine Run.seq ?_
  refine Run.sr ?_
  refine RunL.as rfl rfl ?_
  refine RunL.nil ?_
  refine Run.block ?_
  refine Run.keep (.cons rfl (.cons rfl (.cons rfl (.nil))) : Keep _ [0, 1, 6] _) ?_
  refine Run.loopF (F := F) (fun n e A => ∃ (i : Nat), i ≤ (EL tl).length ∧ (∀ j x, j < i → (EL tl)[j]? = some x → x.key ≠ k) ∧ n = (EL tl).length - i ∧ e = [(0, .pointer (some ⟨q, 0, none⟩)), (1, .string k), (6, .int .i64 (i : Nat))] ∧ A = RH q tl :: F) ((EL tl).length) (by exact ⟨0, by omega, fun j x hj => by omega, rfl, rfl, rfl⟩) (by repeat (first | (with_reducible exact Fin.done (by repeat (first | (with_reducible exact Rest.here) | apply Rest.there))) | (apply Fin.cons (by first | ((repeat (first | (with_reducible exact F0 _) | apply F1)); done) | (repeat (first | exact F0 _ | apply F1)))))) ?_
  rintro n _ _ ⟨i, hi, hno, rfl, rfl, hA_⟩ ih
  replace hA_ := hA_.symm; subst hA_
  refine Run.openR (by first | ((repeat (first | (with_reducible exact F0 _) | apply F1)); done) | (repeat (first | exact F0 _ | apply F1))) ?_; intro a cap
  refine Run.seq ?_
  refine Run.sr ?_
  refine RunL.mv rfl rfl ?_
  refine RunL.mv rfl rfl ?_
  refine RunL.pure (Pure.nilCheck rfl) (Wt.none rfl) rfl rfl ?_
  refine RunL.pure (Pure.fieldAddr rfl fo29_0) (Wt.none rfl) rfl rfl ?_
  first | refine RunL.load1 rfl (by first | ((repeat (first | (with_reducible exact F0 _) | apply F1)); done) | (repeat (first | exact F0 _ | apply F1))) (by rfl) agg27 (Wt.none rfl) rfl ?_ | refine RunL.load1R rfl (by assumption) (by rfl) agg27 (Wt.none rfl) rfl ?_
  refine RunL.pure (Pure.lenSl rfl rfl und27) (Wt.none rfl) rfl rfl ?_
  refine RunL.pure (Pure.lss rfl rfl) (Wt.none rfl) rfl rfl ?_
  refine RunL.nil ?_
  refine Run.cond rfl (fun h1 => ?_) (fun h1 => ?_)
  · try simp only [ZA, ZB, ZC, ZD, ZE, ZF, ZG, ZH, ZI, ZJ, ZK, ZL, ZM, ZN, ZO, ZP, ZQ, ZR] at h1
    obtain ⟨x, hx⟩ := get_some (xs := EL tl) (i := i) (by omega)
    refine Run.openSl (a := a) (n := (EL tl).length) (by first | ((repeat (first | (with_reducible exact F0 _) | apply F1)); done) | (repeat (first | exact F0 _ | apply F1))) (by omega) ?_; rintro b2 pre2 post2 rfl hsl1 hsl2 hsl3
    refine Run.skip ?_
    refine Run.seq ?_
    refine Run.block ?_
    refine Run.sr ?_
    refine RunL.mv rfl rfl ?_
    refine RunL.pure (Pure.nilCheck rfl) (Wt.none rfl) rfl rfl ?_
    refine RunL.pure (Pure.fieldAddr rfl fo29_0) (Wt.none rfl) rfl rfl ?_
    first | refine RunL.load1 rfl (by first | ((repeat (first | (with_reducible exact F0 _) | apply F1)); done) | (repeat (first | exact F0 _ | apply F1))) (by rfl) agg27 (Wt.none rfl) rfl ?_ | refine RunL.load1R rfl (by assumption) (by rfl) agg27 (Wt.none rfl) rfl ?_
    refine RunL.mv rfl rfl ?_
    refine RunL.pure (Pure.indexAddr rfl rfl und27 sz36 (by omega) (by omega)) (Wt.none rfl) rfl rfl ?_
    refine RunL.pure (Pure.fieldAddr rfl fo36_1) (Wt.none rfl) rfl rfl ?_
    refine RunL.load1 rfl (by first | ((repeat (first | (with_reducible exact F0 _) | apply F1)); done) | (repeat (first | exact F0 _ | apply F1))) ((elem_at (f := cE) (sz := 2) (j := 1) (fun _ _ => rfl) hx (by decide)).trans rfl) agg9 (Wt.none rfl) rfl ?_
    refine RunL.mv rfl rfl ?_
    refine RunL.pure (Pure.seql rfl rfl) (Wt.none rfl) rfl rfl ?_
    refine RunL.nil ?_
    refine Run.cond rfl (fun h2 => ?_) (fun h2 => ?_)
    · try simp only [ZA, ZB, ZC, ZD, ZE, ZF, ZG, ZH, ZI, ZJ, ZK, ZL, ZM, ZN, ZO, ZP, ZQ, ZR] at h2
      obtain rfl : x.key = k := bl_inj h2
      have hmg := EL_mget hn (List.mem_of_getElem? hx)
      refine Run.sr ?_
      refine RunL.mv rfl rfl ?_
      refine RunL.pure (Pure.nilCheck rfl) (Wt.none rfl) rfl rfl ?_
      refine RunL.pure (Pure.fieldAddr rfl fo29_0) (Wt.none rfl) rfl rfl ?_
      first | refine RunL.load1 rfl (by first | ((repeat (first | (with_reducible exact F0 _) | apply F1)); done) | (repeat (first | exact F0 _ | apply F1))) (by rfl) agg27 (Wt.none rfl) rfl ?_ | refine RunL.load1R rfl (by assumption) (by rfl) agg27 (Wt.none rfl) rfl ?_
      refine RunL.mv rfl rfl ?_
      refine RunL.pure (Pure.indexAddr rfl rfl und27 sz36 (by omega) (by omega)) (Wt.none rfl) rfl rfl ?_
      refine RunL.pure (Pure.fieldAddr rfl fo36_0) (Wt.none rfl) rfl rfl ?_
      refine RunL.load1 rfl (by first | ((repeat (first | (with_reducible exact F0 _) | apply F1)); done) | (repeat (first | exact F0 _ | apply F1))) ((elem_at (f := cE) (sz := 2) (j := 0) (fun _ _ => rfl) hx (by decide)).trans rfl) agg3 (Wt.none rfl) rfl ?_
      refine RunL.as rfl rfl ?_
      refine RunL.as rfl rfl ?_
      refine RunL.nil ?_
      refine Run.mkSl (b := b2) (pre := pre2) (post := post2) (sz := 2) (cs := (EL tl).flatMap cE) (n := (EL tl).length) (by first | ((repeat (first | (with_reducible exact F0 _) | apply F1)); done) | (repeat (first | exact F0 _ | apply F1))) hsl1 hsl2 hsl3 ?_
      refine Run.mkR (tl) (by repeat (first | (with_reducible exact Take.nil _) | (apply Take.cons (by first | ((repeat (first | (with_reducible exact F0 _) | apply F1)); done) | (repeat (first | exact F0 _ | apply F1)))))) (rfl) (rfl) ?_
      exact Run.ret Try.func21 (res2 rfl rfl rfl) (by exact ⟨by rw [hmg]; rfl, rfl⟩) (by repeat (first | (with_reducible exact Fin.done (by repeat (first | (with_reducible exact Rest.here) | apply Rest.there))) | (apply Fin.cons (by first | ((repeat (first | (with_reducible exact F0 _) | apply F1)); done) | (repeat (first | exact F0 _ | apply F1))))))
    · try simp only [ZA, ZB, ZC, ZD, ZE, ZF, ZG, ZH, ZI, ZJ, ZK, ZL, ZM, ZN, ZO, ZP, ZQ, ZR] at h2
      refine Run.skip ?_
      refine Run.inBlock ?_
      refine Run.region ?_
      refine RunL.mv rfl rfl ?_
      first | refine RunL.pure (Pure.addI rfl rfl (by omega)) (Wt.none rfl) rfl rfl ?_ | refine RunL.pure (Pure.add rfl rfl) (Wt.none rfl) rfl rfl ?_
      refine RunL.as rfl rfl ?_
      refine RunL.nil ?_
      refine Run.mkSl (b := b2) (pre := pre2) (post := post2) (sz := 2) (cs := (EL tl).flatMap cE) (n := (EL tl).length) (by first | ((repeat (first | (with_reducible exact F0 _) | apply F1)); done) | (repeat (first | exact F0 _ | apply F1))) hsl1 hsl2 hsl3 ?_
      refine Run.mkR (tl) (by repeat (first | (with_reducible exact Take.nil _) | (apply Take.cons (by first | ((repeat (first | (with_reducible exact F0 _) | apply F1)); done) | (repeat (first | exact F0 _ | apply F1)))))) (rfl) (rfl) ?_
      refine Run.keep (.cons rfl (.cons rfl (.cons rfl (.nil))) : Keep _ [0, 1, 6] _) ?_
      refine Run.againF (F := F) ih (by exact ⟨i + 1, by omega, lt_succ_of hno hx (fun e => h2 (by rw [e])), rfl, rfl, rfl⟩) (by repeat (first | (with_reducible exact Fin.done (by repeat (first | (with_reducible exact Rest.here) | apply Rest.there))) | (apply Fin.cons (by first | ((repeat (first | (with_reducible exact F0 _) | apply F1)); done) | (repeat (first | exact F0 _ | apply F1)))))) ?_
      omega
  · try simp only [ZA, ZB, ZC, ZD, ZE, ZF, ZG, ZH, ZI, ZJ, ZK, ZL, ZM, ZN, ZO, ZP, ZQ, ZR] at h1
    have hmg : mget k tl = none := EL_none (all_of_lt hno (by omega))
    refine Run.exit rfl ?_
    refine Run.sr ?_
    refine RunL.as rfl rfl ?_
    refine RunL.as rfl rfl ?_
    refine RunL.nil ?_
    refine Run.mkR (tl) (by repeat (first | (with_reducible exact Take.nil _) | (apply Take.cons (by first | ((repeat (first | (with_reducible exact F0 _) | apply F1)); done) | (repeat (first | exact F0 _ | apply F1)))))) (rfl) (rfl) ?_
    exact Run.ret Try.func21 (res2 rfl rfl rfl) (by exact ⟨by rw [hmg]; rfl, rfl⟩) (by repeat (first | (with_reducible exact Fin.done (by repeat (first | (with_reducible exact Rest.here) | apply Rest.there))) | (apply Fin.cons (by first | ((repeat (first | (with_reducible exact F0 _) | apply F1)); done) | (repeat (first | exact F0 _ | apply F1))))))

set_option maxHeartbeats 4000000 in
set_option maxRecDepth 100000 in
theorem rHPut_ctr {G : Gp} {q : Nat} {tl : List (ByteArray × Int)} {k : ByteArray} {t : Int} (hn : KN tl) (hb : tl.length < 1000) :
    Ctr Try.prog G 11 [.pointer (some ⟨q, 0, none⟩), .int .i64 t, .string k] [RH q tl] (fun F v A => v = .tuple #[] ∧ A = RH q (mput k t tl) :: F) := by
  refine Ctr.intro Try.func11 rfl (by kernel_rfl) rfl (fun F => ?_)
  simp only [List.cons_append, List.nil_append]
  have hEl := EL_len (mdel k tl)
  have hdl : (mdel k tl).length ≤ tl.length := by
    cases hq : mget k tl with
    | none => rw [mdel_absent hq]; exact Nat.le_refl _
    | some z => have := mdel_len hq; omega
  have hk1 : mget k (mdel k tl) = none := by rw [mget_mdel hn, if_pos rfl]
  refine Run.sr ?_
  refine RunL.mv rfl rfl ?_
  refine RunL.mv rfl rfl ?_
  refine RunL.call rfl rfl (by rfl) (by repeat (first | (with_reducible exact Take.nil _) | (apply Take.cons (by first | ((repeat (first | (with_reducible exact F0 _) | apply F1)); done) | (repeat (first | exact F0 _ | apply F1)))))) (rDrop_ctr (by assumption) (by omega)) (Wt.none rfl) rfl ?_
  rintro _ _ ⟨rfl, hA_⟩
  replace hA_ := hA_.symm; subst hA_
  refine RunL.nil ?_
  refine Run.sr ?_
  refine RunL.as rfl rfl ?_
  refine RunL.nil ?_
  refine Run.seq ?_
  refine Run.block ?_
  refine Run.keep (.cons rfl (.cons rfl (.cons rfl (.cons rfl (.nil)))) : Keep _ [0, 1, 2, 6] _) ?_
  refine Run.loopF (F := F) (fun n e A => ∃ (j : Nat), j ≤ (EL (mdel k tl)).length ∧ (∀ i x, i < j → (EL (mdel k tl))[i]? = some x → cmpE x (⟨t, k⟩ : E) < 0) ∧ n = (EL (mdel k tl)).length - j ∧ e = [(0, .pointer (some ⟨q, 0, none⟩)), (1, .int .i64 t), (2, .string k), (6, .int .i64 (j : Nat))] ∧ A = RH q (mdel k tl) :: F) ((EL (mdel k tl)).length) (by exact ⟨0, by omega, fun i x hj => by omega, rfl, rfl, rfl⟩) (by repeat (first | (with_reducible exact Fin.done (by repeat (first | (with_reducible exact Rest.here) | apply Rest.there))) | (apply Fin.cons (by first | ((repeat (first | (with_reducible exact F0 _) | apply F1)); done) | (repeat (first | exact F0 _ | apply F1)))))) ?_
  rintro n _ _ ⟨j, hj, hpre, rfl, rfl, hA_⟩ ih
  replace hA_ := hA_.symm; subst hA_
  refine Run.openR (by first | ((repeat (first | (with_reducible exact F0 _) | apply F1)); done) | (repeat (first | exact F0 _ | apply F1))) ?_; intro a cap
  refine Run.seq ?_
  refine Run.sr ?_
  refine RunL.mv rfl rfl ?_
  refine RunL.mv rfl rfl ?_
  refine RunL.pure (Pure.nilCheck rfl) (Wt.none rfl) rfl rfl ?_
  refine RunL.pure (Pure.fieldAddr rfl fo29_0) (Wt.none rfl) rfl rfl ?_
  first | refine RunL.load1 rfl (by first | ((repeat (first | (with_reducible exact F0 _) | apply F1)); done) | (repeat (first | exact F0 _ | apply F1))) (by rfl) agg27 (Wt.none rfl) rfl ?_ | refine RunL.load1R rfl (by assumption) (by rfl) agg27 (Wt.none rfl) rfl ?_
  refine RunL.pure (Pure.lenSl rfl rfl und27) (Wt.none rfl) rfl rfl ?_
  refine RunL.pure (Pure.lss rfl rfl) (Wt.none rfl) rfl rfl ?_
  refine RunL.mv rfl rfl ?_
  refine RunL.split (d := 18) rfl (fun h1 => ?_) (fun h1 => ?_)
  · try simp only [ZA, ZB, ZC, ZD, ZE, ZF, ZG, ZH, ZI, ZJ, ZK, ZL, ZM, ZN, ZO, ZP, ZQ, ZR] at h1
    obtain ⟨x, hx⟩ := get_some (xs := EL (mdel k tl)) (i := j) (by omega)
    refine RunL.openSl (a := a) (n := (EL (mdel k tl)).length) (by first | ((repeat (first | (with_reducible exact F0 _) | apply F1)); done) | (repeat (first | exact F0 _ | apply F1))) (by omega) ?_; rintro b2 pre2 post2 rfl hsl1 hsl2 hsl3
    refine RunL.pure (Pure.move rfl) (Wt.yes rfl rfl rfl) rfl rfl ?_
    refine RunL.pure (Pure.nilCheck rfl) (Wt.yes rfl rfl rfl) rfl rfl ?_
    refine RunL.pure (Pure.fieldAddr rfl fo29_0) (Wt.yes rfl rfl rfl) rfl rfl ?_
    first | refine RunL.load1 rfl (by first | ((repeat (first | (with_reducible exact F0 _) | apply F1)); done) | (repeat (first | exact F0 _ | apply F1))) (by rfl) agg27 (Wt.yes rfl rfl rfl) rfl ?_ | refine RunL.load1R rfl (by assumption) (by rfl) agg27 (Wt.yes rfl rfl rfl) rfl ?_
    refine RunL.pure (Pure.move rfl) (Wt.yes rfl rfl rfl) rfl rfl ?_
    refine RunL.pure (Pure.indexAddr rfl rfl und27 sz36 (by omega) (by omega)) (Wt.yes rfl rfl rfl) rfl rfl ?_
    refine RunL.pure (Pure.fieldAddr rfl fo36_0) (Wt.yes rfl rfl rfl) rfl rfl ?_
    refine RunL.load1 rfl (by first | ((repeat (first | (with_reducible exact F0 _) | apply F1)); done) | (repeat (first | exact F0 _ | apply F1))) ((elem_at (f := cE) (sz := 2) (j := 0) (fun _ _ => rfl) hx (by decide)).trans rfl) agg3 (Wt.yes rfl rfl rfl) rfl ?_
    refine RunL.pure (Pure.move rfl) (Wt.yes rfl rfl rfl) rfl rfl ?_
    refine RunL.pure (Pure.lss rfl rfl) (Wt.yes rfl rfl rfl) rfl rfl ?_
    refine RunL.pure (Pure.move rfl) (Wt.yes rfl rfl rfl) rfl rfl ?_
    refine RunL.split (d := 29) rfl (fun h2 => ?_) (fun h2 => ?_)
    · try simp only [ZA, ZB, ZC, ZD, ZE, ZF, ZG, ZH, ZI, ZJ, ZK, ZL, ZM, ZN, ZO, ZP, ZQ, ZR] at h2
      refine RunL.not (Wt.no rfl rfl rfl) rfl rfl ?_
      refine RunL.not (Wt.no rfl rfl rfl) rfl rfl ?_
      refine RunL.not (Wt.no rfl rfl rfl) rfl rfl ?_
      refine RunL.not (Wt.no rfl rfl rfl) rfl rfl ?_
      refine RunL.not (Wt.no rfl rfl rfl) rfl rfl ?_
      refine RunL.not (Wt.no rfl rfl rfl) rfl rfl ?_
      refine RunL.not (Wt.no rfl rfl rfl) rfl rfl ?_
      refine RunL.not (Wt.no rfl rfl rfl) rfl rfl ?_
      refine RunL.not (Wt.no rfl rfl rfl) rfl rfl ?_
      refine RunL.not (Wt.no rfl rfl rfl) rfl rfl ?_
      refine RunL.not (Wt.no rfl rfl rfl) rfl rfl ?_
      refine RunL.not (Wt.un rfl rfl rfl) rfl rfl ?_
      refine RunL.not (Wt.un rfl rfl rfl) rfl rfl ?_
      refine RunL.not (Wt.un rfl rfl rfl) rfl rfl ?_
      refine RunL.not (Wt.un rfl rfl rfl) rfl rfl ?_
      refine RunL.not (Wt.un rfl rfl rfl) rfl rfl ?_
      refine RunL.not (Wt.un rfl rfl rfl) rfl rfl ?_
      refine RunL.not (Wt.un rfl rfl rfl) rfl rfl ?_
      refine RunL.not (Wt.un rfl rfl rfl) rfl rfl ?_
      refine RunL.not (Wt.un rfl rfl rfl) rfl rfl ?_
      refine RunL.not (Wt.un rfl rfl rfl) rfl rfl ?_
      refine RunL.not (Wt.no rfl rfl rfl) rfl rfl ?_
      refine RunL.pure (Pure.pickT rfl rfl) (Wt.yes rfl rfl rfl) rfl rfl ?_
      refine RunL.pure (Pure.pickT rfl rfl) (Wt.none rfl) rfl rfl ?_
      refine RunL.nil ?_
      refine Run.condT rfl ?_
      refine Run.skip ?_
      refine Run.block ?_
      refine Run.region ?_
      refine RunL.mv rfl rfl ?_
      first | refine RunL.pure (Pure.addI rfl rfl (by omega)) (Wt.none rfl) rfl rfl ?_ | refine RunL.pure (Pure.add rfl rfl) (Wt.none rfl) rfl rfl ?_
      refine RunL.as rfl rfl ?_
      refine RunL.nil ?_
      refine Run.inBlock ?_
      refine Run.mkSl (b := b2) (pre := pre2) (post := post2) (sz := 2) (cs := (EL (mdel k tl)).flatMap cE) (n := (EL (mdel k tl)).length) (by first | ((repeat (first | (with_reducible exact F0 _) | apply F1)); done) | (repeat (first | exact F0 _ | apply F1))) hsl1 hsl2 hsl3 ?_
      refine Run.mkR ((mdel k tl)) (by repeat (first | (with_reducible exact Take.nil _) | (apply Take.cons (by first | ((repeat (first | (with_reducible exact F0 _) | apply F1)); done) | (repeat (first | exact F0 _ | apply F1)))))) (rfl) (rfl) ?_
      refine Run.keep (.cons rfl (.cons rfl (.cons rfl (.cons rfl (.nil)))) : Keep _ [0, 1, 2, 6] _) ?_
      refine Run.againF (F := F) ih (by exact ⟨j + 1, by omega, lt_succ_of hpre hx (cmpE_lt.2 (.inl h2)), rfl, rfl, rfl⟩) (by repeat (first | (with_reducible exact Fin.done (by repeat (first | (with_reducible exact Rest.here) | apply Rest.there))) | (apply Fin.cons (by first | ((repeat (first | (with_reducible exact F0 _) | apply F1)); done) | (repeat (first | exact F0 _ | apply F1)))))) ?_
      omega
    · try simp only [ZA, ZB, ZC, ZD, ZE, ZF, ZG, ZH, ZI, ZJ, ZK, ZL, ZM, ZN, ZO, ZP, ZQ, ZR] at h2
      refine RunL.pure (Pure.move rfl) (Wt.yes rfl rfl rfl) rfl rfl ?_
      refine RunL.pure (Pure.nilCheck rfl) (Wt.yes rfl rfl rfl) rfl rfl ?_
      refine RunL.pure (Pure.fieldAddr rfl fo29_0) (Wt.yes rfl rfl rfl) rfl rfl ?_
      first | refine RunL.load1 rfl (by first | ((repeat (first | (with_reducible exact F0 _) | apply F1)); done) | (repeat (first | exact F0 _ | apply F1))) (by rfl) agg27 (Wt.yes rfl rfl rfl) rfl ?_ | refine RunL.load1R rfl (by assumption) (by rfl) agg27 (Wt.yes rfl rfl rfl) rfl ?_
      refine RunL.pure (Pure.move rfl) (Wt.yes rfl rfl rfl) rfl rfl ?_
      refine RunL.pure (Pure.indexAddr rfl rfl und27 sz36 (by omega) (by omega)) (Wt.yes rfl rfl rfl) rfl rfl ?_
      refine RunL.pure (Pure.fieldAddr rfl fo36_0) (Wt.yes rfl rfl rfl) rfl rfl ?_
      refine RunL.load1 rfl (by first | ((repeat (first | (with_reducible exact F0 _) | apply F1)); done) | (repeat (first | exact F0 _ | apply F1))) ((elem_at (f := cE) (sz := 2) (j := 0) (fun _ _ => rfl) hx (by decide)).trans rfl) agg3 (Wt.yes rfl rfl rfl) rfl ?_
      refine RunL.pure (Pure.move rfl) (Wt.yes rfl rfl rfl) rfl rfl ?_
      refine RunL.pure (Pure.eql rfl rfl) (Wt.yes rfl rfl rfl) rfl rfl ?_
      refine RunL.pure (Pure.move rfl) (Wt.yes rfl rfl rfl) rfl rfl ?_
      refine RunL.split (d := 40) rfl (fun h3 => ?_) (fun h3 => ?_)
      · try simp only [ZA, ZB, ZC, ZD, ZE, ZF, ZG, ZH, ZI, ZJ, ZK, ZL, ZM, ZN, ZO, ZP, ZQ, ZR] at h3
        refine RunL.pure (Pure.move rfl) (Wt.yes rfl rfl rfl) rfl rfl ?_
        refine RunL.pure (Pure.nilCheck rfl) (Wt.yes rfl rfl rfl) rfl rfl ?_
        refine RunL.pure (Pure.fieldAddr rfl fo29_0) (Wt.yes rfl rfl rfl) rfl rfl ?_
        first | refine RunL.load1 rfl (by first | ((repeat (first | (with_reducible exact F0 _) | apply F1)); done) | (repeat (first | exact F0 _ | apply F1))) (by rfl) agg27 (Wt.yes rfl rfl rfl) rfl ?_ | refine RunL.load1R rfl (by assumption) (by rfl) agg27 (Wt.yes rfl rfl rfl) rfl ?_
        refine RunL.pure (Pure.move rfl) (Wt.yes rfl rfl rfl) rfl rfl ?_
        refine RunL.pure (Pure.indexAddr rfl rfl und27 sz36 (by omega) (by omega)) (Wt.yes rfl rfl rfl) rfl rfl ?_
        refine RunL.pure (Pure.fieldAddr rfl fo36_1) (Wt.yes rfl rfl rfl) rfl rfl ?_
        refine RunL.load1 rfl (by first | ((repeat (first | (with_reducible exact F0 _) | apply F1)); done) | (repeat (first | exact F0 _ | apply F1))) ((elem_at (f := cE) (sz := 2) (j := 1) (fun _ _ => rfl) hx (by decide)).trans rfl) agg9 (Wt.yes rfl rfl rfl) rfl ?_
        refine RunL.pure (Pure.move rfl) (Wt.yes rfl rfl rfl) rfl rfl ?_
        refine RunL.pure (Pure.slss rfl rfl) (Wt.yes rfl rfl rfl) rfl rfl ?_
        refine RunL.pure (Pure.pickT rfl rfl) (Wt.yes rfl rfl rfl) rfl rfl ?_
        refine RunL.pure (Pure.pickF rfl rfl) (Wt.yes rfl rfl rfl) rfl rfl ?_
        refine RunL.pure (Pure.pickT rfl rfl) (Wt.none rfl) rfl rfl ?_
        refine RunL.nil ?_
        refine Run.cond rfl (fun h4 => ?_) (fun h4 => ?_)
        · try simp only [ZA, ZB, ZC, ZD, ZE, ZF, ZG, ZH, ZI, ZJ, ZK, ZL, ZM, ZN, ZO, ZP, ZQ, ZR] at h4
          refine Run.skip ?_
          refine Run.block ?_
          refine Run.region ?_
          refine RunL.mv rfl rfl ?_
          first | refine RunL.pure (Pure.addI rfl rfl (by omega)) (Wt.none rfl) rfl rfl ?_ | refine RunL.pure (Pure.add rfl rfl) (Wt.none rfl) rfl rfl ?_
          refine RunL.as rfl rfl ?_
          refine RunL.nil ?_
          refine Run.inBlock ?_
          refine Run.mkSl (b := b2) (pre := pre2) (post := post2) (sz := 2) (cs := (EL (mdel k tl)).flatMap cE) (n := (EL (mdel k tl)).length) (by first | ((repeat (first | (with_reducible exact F0 _) | apply F1)); done) | (repeat (first | exact F0 _ | apply F1))) hsl1 hsl2 hsl3 ?_
          refine Run.mkR ((mdel k tl)) (by repeat (first | (with_reducible exact Take.nil _) | (apply Take.cons (by first | ((repeat (first | (with_reducible exact F0 _) | apply F1)); done) | (repeat (first | exact F0 _ | apply F1)))))) (rfl) (rfl) ?_
          refine Run.keep (.cons rfl (.cons rfl (.cons rfl (.cons rfl (.nil)))) : Keep _ [0, 1, 2, 6] _) ?_
          refine Run.againF (F := F) ih (by exact ⟨j + 1, by omega, lt_succ_of hpre hx (cmpE_lt.2 (.inr ⟨h3, h4⟩)), rfl, rfl, rfl⟩) (by repeat (first | (with_reducible exact Fin.done (by repeat (first | (with_reducible exact Rest.here) | apply Rest.there))) | (apply Fin.cons (by first | ((repeat (first | (with_reducible exact F0 _) | apply F1)); done) | (repeat (first | exact F0 _ | apply F1)))))) ?_
          omega
        · try simp only [ZA, ZB, ZC, ZD, ZE, ZF, ZG, ZH, ZI, ZJ, ZK, ZL, ZM, ZN, ZO, ZP, ZQ, ZR] at h4
          refine Run.mkSl (b := b2) (pre := pre2) (post := post2) (sz := 2) (cs := (EL (mdel k tl)).flatMap cE) (n := (EL (mdel k tl)).length) (by first | ((repeat (first | (with_reducible exact F0 _) | apply F1)); done) | (repeat (first | exact F0 _ | apply F1))) hsl1 hsl2 hsl3 ?_
          have hins := EL_ins (t := t) hn.mdel hk1 hpre (fun y hy => by rw [hx] at hy; cases hy; rw [cmpE_lt]; rintro (q1 | ⟨_, q2⟩); exact absurd q1 (by simp; omega); simp at q2; rw [q2] at h4; cases h4)
          refine Run.exit rfl ?_
          refine Run.sr ?_
          refine RunL.as rfl rfl ?_
          refine RunL.nil ?_
          refine Run.sr ?_
          refine RunL.mv rfl rfl ?_
          refine RunL.mv rfl rfl ?_
          refine RunL.pure (Pure.nilCheck rfl) (Wt.none rfl) rfl rfl ?_
          refine RunL.pure (Pure.fieldAddr rfl fo29_0) (Wt.none rfl) rfl rfl ?_
          first | refine RunL.load1 rfl (by first | ((repeat (first | (with_reducible exact F0 _) | apply F1)); done) | (repeat (first | exact F0 _ | apply F1))) (by rfl) agg27 (Wt.none rfl) rfl ?_ | refine RunL.load1R rfl (by assumption) (by rfl) agg27 (Wt.none rfl) rfl ?_
          refine RunL.mv rfl rfl ?_
          refine RunL.pure (Pure.sliceTo rfl rfl und27 sz36 (by first | omega | (simp; done) | (simp; omega)) (by first | omega | (simp; done) | (simp; omega))) (Wt.none rfl) rfl rfl ?_
          refine RunL.append0 (m := j) rfl rfl rfl rfl und27 und27 rfl sz36 zz36 rfl by36 (by omega) (by omega) (fun w sw => (sw.find (p := Sl 36 2 _ (EL (mdel k tl)).length cap _) (by first | ((repeat (first | (with_reducible exact F0 _) | apply F1)); done) | (repeat (first | exact F0 _ | apply F1)))).srcTakeF j (fun _ _ => rfl) (by omega)) (Wt.none rfl) rfl ?_; intro a1 c1
          refine RunL.as rfl rfl ?_
          refine RunL.nil ?_
          refine Run.sr ?_
          refine RunL.mv rfl rfl ?_
          refine RunL.mv rfl rfl ?_
          refine RunL.mv rfl rfl ?_
          refine RunL.pure (Pure.buildL (ps := [(0, _), (1, _)]) (zs := [(.int .i64 0), (.string .empty)]) (xs := (cE ((⟨t, k⟩ : E)))) pl36 rfl rfl rfl rfl) (Wt.none rfl) rfl rfl ?_
          refine RunL.lit (vals := [_]) (vs := ([(⟨t, k⟩ : E)] : List E).flatMap cE) und27 sz36 zz36 rfl rfl rfl rfl rfl rfl (by simp [Value.cells, bv, cE, cOO]) rfl (Wt.none rfl) rfl ?_; intro b68
          refine RunL.append (m := 1) (n' := ((EL (mdel k tl)).take j ++ [(⟨t, k⟩ : E)]).length) (cs' := ((EL (mdel k tl)).take j ++ [(⟨t, k⟩ : E)]).flatMap cE) rfl rfl (by first | ((repeat (first | (with_reducible exact F0 _) | apply F1)); done) | (repeat (first | exact F0 _ | apply F1))) rfl rfl und27 und27 rfl sz36 zz36 rfl by36 (by omega) (by omega) (fun w sw => sw.src) (isOne_flat (f := cE) (fun _ => rfl)) (by simp; omega) (by rw [flatMap_app]) (Wt.none rfl) rfl ?_; intro a2 c2
          refine RunL.as rfl rfl ?_
          refine RunL.nil ?_
          refine Run.region ?_
          refine RunL.mv rfl rfl ?_
          refine RunL.mv rfl rfl ?_
          refine RunL.mv rfl rfl ?_
          refine RunL.pure (Pure.nilCheck rfl) (Wt.none rfl) rfl rfl ?_
          refine RunL.pure (Pure.fieldAddr rfl fo29_0) (Wt.none rfl) rfl rfl ?_
          first | refine RunL.load1 rfl (by first | ((repeat (first | (with_reducible exact F0 _) | apply F1)); done) | (repeat (first | exact F0 _ | apply F1))) (by rfl) agg27 (Wt.none rfl) rfl ?_ | refine RunL.load1R rfl (by assumption) (by rfl) agg27 (Wt.none rfl) rfl ?_
          refine RunL.mv rfl rfl ?_
          refine RunL.pure (Pure.sliceFrom rfl rfl und27 sz36 (by first | omega | (simp; done) | (simp; omega)) (by first | omega | (simp; done) | (simp; omega))) (Wt.none rfl) rfl rfl ?_
          refine RunL.append (m := ((EL (mdel k tl)).length - j)) (n' := ((EL (mdel k tl)).take j ++ (⟨t, k⟩ : E) :: (EL (mdel k tl)).drop j).length) (cs' := ((EL (mdel k tl)).take j ++ (⟨t, k⟩ : E) :: (EL (mdel k tl)).drop j).flatMap cE) rfl rfl (by first | ((repeat (first | (with_reducible exact F0 _) | apply F1)); done) | (repeat (first | exact F0 _ | apply F1))) rfl rfl und27 und27 rfl sz36 zz36 rfl by36 (by simp; omega) (by simp; omega) (fun w sw => (sw.find (p := Sl 36 2 _ (EL (mdel k tl)).length cap _) (by first | ((repeat (first | (with_reducible exact F0 _) | apply F1)); done) | (repeat (first | exact F0 _ | apply F1)))).srcFromF j (fun _ _ => rfl) (by omega)) (isOne_flat (f := cE) (fun _ => rfl)) (by simp; omega) (by rw [← flatMap_app, List.append_assoc]; rfl) (Wt.none rfl) rfl ?_; intro a3 c3
          refine RunL.pure (Pure.nilCheck rfl) (Wt.none rfl) rfl rfl ?_
          refine RunL.pure (Pure.fieldAddr rfl fo29_0) (Wt.none rfl) rfl rfl ?_
          refine RunL.store1 rfl rfl (by first | ((repeat (first | (with_reducible exact F0 _) | apply F1)); done) | (repeat (first | exact F0 _ | apply F1))) sz27 (by rfl) (by simp) (Wt.none rfl) ?_
          try simp only [List.set_cons_zero, List.set_cons_succ]
          refine RunL.nil ?_
          have hput : mput k t (mdel k tl) = mput k t (mdel k tl) := rfl
          refine Run.mkR (mput k t tl) (by repeat (first | (with_reducible exact Take.nil _) | (apply Take.cons (by first | ((repeat (first | (with_reducible exact F0 _) | apply F1)); done) | (repeat (first | exact F0 _ | apply F1)))))) (by rw [hins, EL_congr hn.mdel.mput (mput_del_perm hn)]) (by rw [hins, EL_congr hn.mdel.mput (mput_del_perm hn)]) ?_
          exact Run.fin Try.func11 (res0 rfl) (by exact ⟨rfl, rfl⟩) (by repeat (first | (with_reducible exact Fin.done (by repeat (first | (with_reducible exact Rest.here) | apply Rest.there))) | (apply Fin.cons (by first | ((repeat (first | (with_reducible exact F0 _) | apply F1)); done) | (repeat (first | exact F0 _ | apply F1))))))
      · try simp only [ZA, ZB, ZC, ZD, ZE, ZF, ZG, ZH, ZI, ZJ, ZK, ZL, ZM, ZN, ZO, ZP, ZQ, ZR] at h3
        refine RunL.mkSl (b := b2) (pre := pre2) (post := post2) (sz := 2) (cs := (EL (mdel k tl)).flatMap cE) (n := (EL (mdel k tl)).length) (by first | ((repeat (first | (with_reducible exact F0 _) | apply F1)); done) | (repeat (first | exact F0 _ | apply F1))) hsl1 hsl2 hsl3 ?_
        have hins := EL_ins (t := t) hn.mdel hk1 hpre (fun y hy => by rw [hx] at hy; cases hy; rw [cmpE_lt]; rintro (q1 | ⟨q1, _⟩); exact absurd q1 (by simp; omega); exact h3 q1)
        refine RunL.not (Wt.no rfl rfl rfl) rfl rfl ?_
        refine RunL.not (Wt.no rfl rfl rfl) rfl rfl ?_
        refine RunL.not (Wt.no rfl rfl rfl) rfl rfl ?_
        refine RunL.not (Wt.no rfl rfl rfl) rfl rfl ?_
        refine RunL.not (Wt.no rfl rfl rfl) rfl rfl ?_
        refine RunL.not (Wt.no rfl rfl rfl) rfl rfl ?_
        refine RunL.not (Wt.no rfl rfl rfl) rfl rfl ?_
        refine RunL.not (Wt.no rfl rfl rfl) rfl rfl ?_
        refine RunL.not (Wt.no rfl rfl rfl) rfl rfl ?_
        refine RunL.not (Wt.no rfl rfl rfl) rfl rfl ?_
        refine RunL.pure (Pure.pickF rfl rfl) (Wt.yes rfl rfl rfl) rfl rfl ?_
        refine RunL.pure (Pure.pickF rfl rfl) (Wt.yes rfl rfl rfl) rfl rfl ?_
        refine RunL.pure (Pure.pickT rfl rfl) (Wt.none rfl) rfl rfl ?_
        refine RunL.nil ?_
        refine Run.condF rfl ?_
        refine Run.exit rfl ?_
        refine Run.sr ?_
        refine RunL.as rfl rfl ?_
        refine RunL.nil ?_
        refine Run.sr ?_
        refine RunL.mv rfl rfl ?_
        refine RunL.mv rfl rfl ?_
        refine RunL.pure (Pure.nilCheck rfl) (Wt.none rfl) rfl rfl ?_
        refine RunL.pure (Pure.fieldAddr rfl fo29_0) (Wt.none rfl) rfl rfl ?_
        first | refine RunL.load1 rfl (by first | ((repeat (first | (with_reducible exact F0 _) | apply F1)); done) | (repeat (first | exact F0 _ | apply F1))) (by rfl) agg27 (Wt.none rfl) rfl ?_ | refine RunL.load1R rfl (by assumption) (by rfl) agg27 (Wt.none rfl) rfl ?_
        refine RunL.mv rfl rfl ?_
        refine RunL.pure (Pure.sliceTo rfl rfl und27 sz36 (by first | omega | (simp; done) | (simp; omega)) (by first | omega | (simp; done) | (simp; omega))) (Wt.none rfl) rfl rfl ?_
        refine RunL.append0 (m := j) rfl rfl rfl rfl und27 und27 rfl sz36 zz36 rfl by36 (by omega) (by omega) (fun w sw => (sw.find (p := Sl 36 2 _ (EL (mdel k tl)).length cap _) (by first | ((repeat (first | (with_reducible exact F0 _) | apply F1)); done) | (repeat (first | exact F0 _ | apply F1)))).srcTakeF j (fun _ _ => rfl) (by omega)) (Wt.none rfl) rfl ?_; intro a1 c1
        refine RunL.as rfl rfl ?_
        refine RunL.nil ?_
        refine Run.sr ?_
        refine RunL.mv rfl rfl ?_
        refine RunL.mv rfl rfl ?_
        refine RunL.mv rfl rfl ?_
        refine RunL.pure (Pure.buildL (ps := [(0, _), (1, _)]) (zs := [(.int .i64 0), (.string .empty)]) (xs := (cE ((⟨t, k⟩ : E)))) pl36 rfl rfl rfl rfl) (Wt.none rfl) rfl rfl ?_
        refine RunL.lit (vals := [_]) (vs := ([(⟨t, k⟩ : E)] : List E).flatMap cE) und27 sz36 zz36 rfl rfl rfl rfl rfl rfl (by simp [Value.cells, bv, cE, cOO]) rfl (Wt.none rfl) rfl ?_; intro b68
        refine RunL.append (m := 1) (n' := ((EL (mdel k tl)).take j ++ [(⟨t, k⟩ : E)]).length) (cs' := ((EL (mdel k tl)).take j ++ [(⟨t, k⟩ : E)]).flatMap cE) rfl rfl (by first | ((repeat (first | (with_reducible exact F0 _) | apply F1)); done) | (repeat (first | exact F0 _ | apply F1))) rfl rfl und27 und27 rfl sz36 zz36 rfl by36 (by omega) (by omega) (fun w sw => sw.src) (isOne_flat (f := cE) (fun _ => rfl)) (by simp; omega) (by rw [flatMap_app]) (Wt.none rfl) rfl ?_; intro a2 c2
        refine RunL.as rfl rfl ?_
        refine RunL.nil ?_
        refine Run.region ?_
        refine RunL.mv rfl rfl ?_
        refine RunL.mv rfl rfl ?_
        refine RunL.mv rfl rfl ?_
        refine RunL.pure (Pure.nilCheck rfl) (Wt.none rfl) rfl rfl ?_
        refine RunL.pure (Pure.fieldAddr rfl fo29_0) (Wt.none rfl) rfl rfl ?_
        first | refine RunL.load1 rfl (by first | ((repeat (first | (with_reducible exact F0 _) | apply F1)); done) | (repeat (first | exact F0 _ | apply F1))) (by rfl) agg27 (Wt.none rfl) rfl ?_ | refine RunL.load1R rfl (by assumption) (by rfl) agg27 (Wt.none rfl) rfl ?_
        refine RunL.mv rfl rfl ?_
        refine RunL.pure (Pure.sliceFrom rfl rfl und27 sz36 (by first | omega | (simp; done) | (simp; omega)) (by first | omega | (simp; done) | (simp; omega))) (Wt.none rfl) rfl rfl ?_
        refine RunL.append (m := ((EL (mdel k tl)).length - j)) (n' := ((EL (mdel k tl)).take j ++ (⟨t, k⟩ : E) :: (EL (mdel k tl)).drop j).length) (cs' := ((EL (mdel k tl)).take j ++ (⟨t, k⟩ : E) :: (EL (mdel k tl)).drop j).flatMap cE) rfl rfl (by first | ((repeat (first | (with_reducible exact F0 _) | apply F1)); done) | (repeat (first | exact F0 _ | apply F1))) rfl rfl und27 und27 rfl sz36 zz36 rfl by36 (by simp; omega) (by simp; omega) (fun w sw => (sw.find (p := Sl 36 2 _ (EL (mdel k tl)).length cap _) (by first | ((repeat (first | (with_reducible exact F0 _) | apply F1)); done) | (repeat (first | exact F0 _ | apply F1)))).srcFromF j (fun _ _ => rfl) (by omega)) (isOne_flat (f := cE) (fun _ => rfl)) (by simp; omega) (by rw [← flatMap_app, List.append_assoc]; rfl) (Wt.none rfl) rfl ?_; intro a3 c3
        refine RunL.pure (Pure.nilCheck rfl) (Wt.none rfl) rfl rfl ?_
        refine RunL.pure (Pure.fieldAddr rfl fo29_0) (Wt.none rfl) rfl rfl ?_
        refine RunL.store1 rfl rfl (by first | ((repeat (first | (with_reducible exact F0 _) | apply F1)); done) | (repeat (first | exact F0 _ | apply F1))) sz27 (by rfl) (by simp) (Wt.none rfl) ?_
        try simp only [List.set_cons_zero, List.set_cons_succ]
        refine RunL.nil ?_
        have hput : mput k t (mdel k tl) = mput k t (mdel k tl) := rfl
        refine Run.mkR (mput k t tl) (by repeat (first | (with_reducible exact Take.nil _) | (apply Take.cons (by first | ((repeat (first | (with_reducible exact F0 _) | apply F1)); done) | (repeat (first | exact F0 _ | apply F1)))))) (by rw [hins, EL_congr hn.mdel.mput (mput_del_perm hn)]) (by rw [hins, EL_congr hn.mdel.mput (mput_del_perm hn)]) ?_
        exact Run.fin Try.func11 (res0 rfl) (by exact ⟨rfl, rfl⟩) (by repeat (first | (with_reducible exact Fin.done (by repeat (first | (with_reducible exact Rest.here) | apply Rest.there))) | (apply Fin.cons (by first | ((repeat (first | (with_reducible exact F0 _) | apply F1)); done) | (repeat (first | exact F0 _ | apply F1))))))
  · try simp only [ZA, ZB, ZC, ZD, ZE, ZF, ZG, ZH, ZI, ZJ, ZK, ZL, ZM, ZN, ZO, ZP, ZQ, ZR] at h1
    refine RunL.know (fun w s => (St.Sl_length (s.find (p := Sl 36 2 a _ cap _) (by first | ((repeat (first | (with_reducible exact F0 _) | apply F1)); done) | (repeat (first | exact F0 _ | apply F1))))).2) (fun hcap => ?_)
    have hins := EL_ins (t := t) hn.mdel hk1 hpre (fun y hy => by have := (List.getElem?_eq_some_iff.1 hy).1; omega)
    refine RunL.not (Wt.no rfl rfl rfl) rfl rfl ?_
    refine RunL.not (Wt.no rfl rfl rfl) rfl rfl ?_
    refine RunL.not (Wt.no rfl rfl rfl) rfl rfl ?_
    refine RunL.not (Wt.no rfl rfl rfl) rfl rfl ?_
    refine RunL.not (Wt.no rfl rfl rfl) rfl rfl ?_
    refine RunL.not (Wt.no rfl rfl rfl) rfl rfl ?_
    refine RunL.not (Wt.no rfl rfl rfl) rfl rfl ?_
    refine RunL.not (Wt.no rfl rfl rfl) rfl rfl ?_
    refine RunL.not (Wt.no rfl rfl rfl) rfl rfl ?_
    refine RunL.not (Wt.no rfl rfl rfl) rfl rfl ?_
    refine RunL.not (Wt.no rfl rfl rfl) rfl rfl ?_
    refine RunL.not (Wt.un rfl rfl rfl) rfl rfl ?_
    refine RunL.not (Wt.un rfl rfl rfl) rfl rfl ?_
    refine RunL.not (Wt.un rfl rfl rfl) rfl rfl ?_
    refine RunL.not (Wt.un rfl rfl rfl) rfl rfl ?_
    refine RunL.not (Wt.un rfl rfl rfl) rfl rfl ?_
    refine RunL.not (Wt.un rfl rfl rfl) rfl rfl ?_
    refine RunL.not (Wt.un rfl rfl rfl) rfl rfl ?_
    refine RunL.not (Wt.un rfl rfl rfl) rfl rfl ?_
    refine RunL.not (Wt.un rfl rfl rfl) rfl rfl ?_
    refine RunL.not (Wt.un rfl rfl rfl) rfl rfl ?_
    refine RunL.not (Wt.un rfl rfl rfl) rfl rfl ?_
    refine RunL.not (Wt.un rfl rfl rfl) rfl rfl ?_
    refine RunL.not (Wt.un rfl rfl rfl) rfl rfl ?_
    refine RunL.not (Wt.un rfl rfl rfl) rfl rfl ?_
    refine RunL.not (Wt.un rfl rfl rfl) rfl rfl ?_
    refine RunL.not (Wt.un rfl rfl rfl) rfl rfl ?_
    refine RunL.not (Wt.un rfl rfl rfl) rfl rfl ?_
    refine RunL.not (Wt.un rfl rfl rfl) rfl rfl ?_
    refine RunL.not (Wt.un rfl rfl rfl) rfl rfl ?_
    refine RunL.not (Wt.un rfl rfl rfl) rfl rfl ?_
    refine RunL.not (Wt.un rfl rfl rfl) rfl rfl ?_
    refine RunL.not (Wt.un rfl rfl rfl) rfl rfl ?_
    refine RunL.not (Wt.no rfl rfl rfl) rfl rfl ?_
    refine RunL.pure (Pure.pickF rfl rfl) (Wt.none rfl) rfl rfl ?_
    refine RunL.nil ?_
    refine Run.condF rfl ?_
    refine Run.exit rfl ?_
    refine Run.sr ?_
    refine RunL.as rfl rfl ?_
    refine RunL.nil ?_
    refine Run.sr ?_
    refine RunL.mv rfl rfl ?_
    refine RunL.mv rfl rfl ?_
    refine RunL.pure (Pure.nilCheck rfl) (Wt.none rfl) rfl rfl ?_
    refine RunL.pure (Pure.fieldAddr rfl fo29_0) (Wt.none rfl) rfl rfl ?_
    first | refine RunL.load1 rfl (by first | ((repeat (first | (with_reducible exact F0 _) | apply F1)); done) | (repeat (first | exact F0 _ | apply F1))) (by rfl) agg27 (Wt.none rfl) rfl ?_ | refine RunL.load1R rfl (by assumption) (by rfl) agg27 (Wt.none rfl) rfl ?_
    refine RunL.mv rfl rfl ?_
    refine RunL.pure (Pure.sliceTo rfl rfl und27 sz36 (by first | omega | (simp; done) | (simp; omega)) (by first | omega | (simp; done) | (simp; omega))) (Wt.none rfl) rfl rfl ?_
    refine RunL.append0 (m := j) rfl rfl rfl rfl und27 und27 rfl sz36 zz36 rfl by36 (by omega) (by omega) (fun w sw => (sw.find (p := Sl 36 2 _ (EL (mdel k tl)).length cap _) (by first | ((repeat (first | (with_reducible exact F0 _) | apply F1)); done) | (repeat (first | exact F0 _ | apply F1)))).srcTakeF j (fun _ _ => rfl) (by omega)) (Wt.none rfl) rfl ?_; intro a1 c1
    refine RunL.as rfl rfl ?_
    refine RunL.nil ?_
    refine Run.sr ?_
    refine RunL.mv rfl rfl ?_
    refine RunL.mv rfl rfl ?_
    refine RunL.mv rfl rfl ?_
    refine RunL.pure (Pure.buildL (ps := [(0, _), (1, _)]) (zs := [(.int .i64 0), (.string .empty)]) (xs := (cE ((⟨t, k⟩ : E)))) pl36 rfl rfl rfl rfl) (Wt.none rfl) rfl rfl ?_
    refine RunL.lit (vals := [_]) (vs := ([(⟨t, k⟩ : E)] : List E).flatMap cE) und27 sz36 zz36 rfl rfl rfl rfl rfl rfl (by simp [Value.cells, bv, cE, cOO]) rfl (Wt.none rfl) rfl ?_; intro b68
    refine RunL.append (m := 1) (n' := ((EL (mdel k tl)).take j ++ [(⟨t, k⟩ : E)]).length) (cs' := ((EL (mdel k tl)).take j ++ [(⟨t, k⟩ : E)]).flatMap cE) rfl rfl (by first | ((repeat (first | (with_reducible exact F0 _) | apply F1)); done) | (repeat (first | exact F0 _ | apply F1))) rfl rfl und27 und27 rfl sz36 zz36 rfl by36 (by omega) (by omega) (fun w sw => sw.src) (isOne_flat (f := cE) (fun _ => rfl)) (by simp; omega) (by rw [flatMap_app]) (Wt.none rfl) rfl ?_; intro a2 c2
    refine RunL.as rfl rfl ?_
    refine RunL.nil ?_
    refine Run.region ?_
    refine RunL.mv rfl rfl ?_
    refine RunL.mv rfl rfl ?_
    refine RunL.mv rfl rfl ?_
    refine RunL.pure (Pure.nilCheck rfl) (Wt.none rfl) rfl rfl ?_
    refine RunL.pure (Pure.fieldAddr rfl fo29_0) (Wt.none rfl) rfl rfl ?_
    first | refine RunL.load1 rfl (by first | ((repeat (first | (with_reducible exact F0 _) | apply F1)); done) | (repeat (first | exact F0 _ | apply F1))) (by rfl) agg27 (Wt.none rfl) rfl ?_ | refine RunL.load1R rfl (by assumption) (by rfl) agg27 (Wt.none rfl) rfl ?_
    refine RunL.mv rfl rfl ?_
    refine RunL.pure (Pure.sliceFrom rfl rfl und27 sz36 (by first | omega | (simp; done) | (simp; omega)) (by first | omega | (simp; done) | (simp; omega))) (Wt.none rfl) rfl rfl ?_
    refine RunL.append (m := ((EL (mdel k tl)).length - j)) (n' := ((EL (mdel k tl)).take j ++ (⟨t, k⟩ : E) :: (EL (mdel k tl)).drop j).length) (cs' := ((EL (mdel k tl)).take j ++ (⟨t, k⟩ : E) :: (EL (mdel k tl)).drop j).flatMap cE) rfl rfl (by first | ((repeat (first | (with_reducible exact F0 _) | apply F1)); done) | (repeat (first | exact F0 _ | apply F1))) rfl rfl und27 und27 rfl sz36 zz36 rfl by36 (by simp; omega) (by simp; omega) (fun w sw => (sw.find (p := Sl 36 2 _ (EL (mdel k tl)).length cap _) (by first | ((repeat (first | (with_reducible exact F0 _) | apply F1)); done) | (repeat (first | exact F0 _ | apply F1)))).srcFromF j (fun _ _ => rfl) (by omega)) (isOne_flat (f := cE) (fun _ => rfl)) (by simp; omega) (by rw [← flatMap_app, List.append_assoc]; rfl) (Wt.none rfl) rfl ?_; intro a3 c3
    refine RunL.pure (Pure.nilCheck rfl) (Wt.none rfl) rfl rfl ?_
    refine RunL.pure (Pure.fieldAddr rfl fo29_0) (Wt.none rfl) rfl rfl ?_
    refine RunL.store1 rfl rfl (by first | ((repeat (first | (with_reducible exact F0 _) | apply F1)); done) | (repeat (first | exact F0 _ | apply F1))) sz27 (by rfl) (by simp) (Wt.none rfl) ?_
    try simp only [List.set_cons_zero, List.set_cons_succ]
    refine RunL.nil ?_
    have hput : mput k t (mdel k tl) = mput k t (mdel k tl) := rfl
    refine Run.mkR (mput k t tl) (by repeat (first | (with_reducible exact Take.nil _) | (apply Take.cons (by first | ((repeat (first | (with_reducible exact F0 _) | apply F1)); done) | (repeat (first | exact F0 _ | apply F1)))))) (by rw [hins, EL_congr hn.mdel.mput (mput_del_perm hn)]) (by rw [hins, EL_congr hn.mdel.mput (mput_del_perm hn)]) ?_
    exact Run.fin Try.func11 (res0 rfl) (by exact ⟨rfl, rfl⟩) (by repeat (first | (with_reducible exact Fin.done (by repeat (first | (with_reducible exact Rest.here) | apply Rest.there))) | (apply Fin.cons (by first | ((repeat (first | (with_reducible exact F0 _) | apply F1)); done) | (repeat (first | exact F0 _ | apply F1))))))

end Go.Proofs.Ytppamndllgojnaa
