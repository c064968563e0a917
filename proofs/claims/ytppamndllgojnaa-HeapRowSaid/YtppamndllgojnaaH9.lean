/- The reference's heap: what is due. -/
import Derived.Test.YtppamndllgojnaaH8
set_option linter.unusedVariables false
set_option linter.unusedSimpArgs false
set_option linter.unusedSectionVars false
namespace Go.Proofs.Ytppamndllgojnaa
open Go Csl
theorem zz31 : zeroIs Try.prog 31 = some (.agg #[(.int .i64 0), (.int .i64 0), (.string .empty)]) := by kernel_rfl
theorem fo31_2 : fieldOff Try.prog 31 2 = some 2 := by kernel_rfl

namespace Csl
theorem due_step {tl tl' : List (ByteArray × Int)} {j : Nat} (hn : KN tl') (he : EL tl' = (EL tl).drop j) (hj : j ≤ (EL tl).length) (t : Int) : ((EL tl).take j).map E.key ++ dueK tl' t = ((EL tl).take (j + (dueK tl' t).length)).map E.key ∧ EL (afterT tl' t) = (EL tl).drop (j + (dueK tl' t).length) ∧ j + (dueK tl' t).length ≤ (EL tl).length := by
  have h1 : EL tl' = (EL tl').takeWhile (overT t) ++ (EL tl').dropWhile (overT t) := List.takeWhile_append_dropWhile.symm
  have hl : (dueK tl' t).length = ((EL tl').takeWhile (overT t)).length := by unfold dueK; rw [List.length_map]
  have h2 : ((EL tl').takeWhile (overT t)).length ≤ (EL tl').length := (List.takeWhile_sublist _).length_le
  have h3 : (EL tl').length = (EL tl).length - j := by rw [he, List.length_drop]
  have h4 : (EL tl').take (dueK tl' t).length = (EL tl').takeWhile (overT t) := by
    rw [hl]; conv => lhs; arg 2; rw [h1]
    exact List.take_left
  have h5 : (EL tl').drop (dueK tl' t).length = (EL tl').dropWhile (overT t) := by
    rw [hl]; conv => lhs; arg 2; rw [h1]
    exact List.drop_left
  refine ⟨?_, ?_, by omega⟩
  · rw [List.take_add, List.map_append, ← he, h4]; rfl
  · rw [afterT_EL hn, ← h5, he, List.drop_drop]
def kindO (o : OO) : Int := if around o.what 12 < 7 then 0 else if around o.what 12 < 9 then 1 else if around o.what 12 < 11 then 2 else 3
def doT (tl : List (ByteArray × Int)) (o : OO) : List (ByteArray × Int) := if kindO o = 0 then mput o.key o.tick tl else if kindO o = 1 then mdel o.key tl else if kindO o = 2 then afterT tl o.tick else []
def toldT (tl : List (ByteArray × Int)) (o : OO) : List ByteArray := if kindO o = 2 then dueK tl o.tick else []
theorem mdel_len_le {tl : List (ByteArray × Int)} {k : ByteArray} : (mdel k tl).length ≤ tl.length := by
  cases hq : mget k tl with
  | none => rw [mdel_absent hq]; exact Nat.le_refl _
  | some z => have := mdel_len hq; omega
theorem doT_ok {tl : List (ByteArray × Int)} (h : KN tl) (o : OO) : KN (doT tl o) ∧ (doT tl o).length ≤ tl.length + 1 := by
  unfold doT
  split
  · exact ⟨h.mput, by rw [mput_len]; split <;> omega⟩
  · split
    · exact ⟨h.mdel, by have := mdel_len_le (tl := tl) (k := o.key); omega⟩
    · split
      · exact ⟨afterT_KN h _, by have := afterT_len h o.tick; omega⟩
      · exact ⟨List.nodup_nil, Nat.zero_le _⟩
theorem EL_nil : EL [] = [] := rfl
theorem dueAll {tl : List (ByteArray × Int)} (hn : KN tl) {t : Int} (h : ∀ e ∈ EL tl, e.tick ≤ t) : dueK tl t = (EL tl).map E.key ∧ afterT tl t = [] := by
  have h1 : (EL tl).takeWhile (overT t) = EL tl ∧ (EL tl).dropWhile (overT t) = [] := by
    have hall : ∀ e ∈ EL tl, overT t e = true := fun e he => by simp [overT, h e he]
    generalize EL tl = l at hall
    induction l with
    | nil => exact ⟨rfl, rfl⟩
    | cons x l ih =>
      have := hall x (by simp)
      have ih := ih (fun e he => hall e (by simp [he]))
      simp [List.takeWhile_cons, List.dropWhile_cons, this, ih]
  exact ⟨by unfold dueK; rw [h1.1], by unfold afterT; rw [h1.2]; rfl⟩
end Csl

set_option maxRecDepth 100000 in
theorem SameTexts_ctr {G : Gp} {a a' : Option Addr} {c c' : Nat} {xs ys : List ByteArray} (hb : xs.length ≤ 1000000) :
    Ctr Try.prog G 14 [.slice a xs.length c, .slice a' ys.length c'] [Sl 9 1 a xs.length c (xs.map Value.string), Sl 9 1 a' ys.length c' (ys.map Value.string)] (fun F v A => v = .bool (decide (xs = ys)) ∧ A = F) := by
  refine Ctr.intro Try.func14 rfl (by kernel_rfl) rfl (fun F => ?_)
  simp only [List.cons_append, List.nil_append]
  refine Run.lendAll (Q := Sl 9 1 a xs.length c (xs.map Value.string)) Lends.Sl (by first | ((repeat (first | (with_reducible exact F0 _) | apply F1)); done) | (repeat (first | exact F0 _ | apply F1))) (fun Gh1 hleGh1 h1 => ?_)
  obtain ⟨h1, h1c⟩ := h1
  refine Run.lendAll (Q := Sl 9 1 a' ys.length c' (ys.map Value.string)) Lends.Sl (by first | ((repeat (first | (with_reducible exact F0 _) | apply F1)); done) | (repeat (first | exact F0 _ | apply F1))) (fun Gh2 hleGh2 h2 => ?_)
  replace h1 := h1.mono hleGh2
  obtain ⟨h2, h2c⟩ := h2
  refine Run.sr ?_
  refine RunL.as rfl rfl ?_
  refine RunL.nil ?_
  refine Run.seq ?_
  refine Run.sr ?_
  refine RunL.mv rfl rfl ?_
  refine RunL.pure (Pure.lenSl rfl rfl und34) (Wt.none rfl) rfl rfl ?_
  refine RunL.mv rfl rfl ?_
  refine RunL.pure (Pure.lenSl rfl rfl und34) (Wt.none rfl) rfl rfl ?_
  refine RunL.pure (Pure.neq rfl rfl) (Wt.none rfl) rfl rfl ?_
  refine RunL.nil ?_
  refine Run.cond rfl (fun h3 => ?_) (fun h3 => ?_)
  · try simp only [ZA, ZB, ZC, ZD, ZE, ZF, ZG, ZH, ZI, ZJ, ZK, ZL, ZM, ZN, ZO, ZP, ZQ, ZR] at h3
    refine Run.sr ?_
    refine RunL.as rfl rfl ?_
    refine RunL.nil ?_
    exact Run.ret Try.func14 (res1 rfl rfl) (by exact ⟨by rw [decide_eq_false (fun e => h3 (by rw [e]))], rfl⟩) (by repeat (first | (with_reducible exact Fin.done (by repeat (first | (with_reducible exact Rest.here) | apply Rest.there))) | (apply Fin.cons (by first | ((repeat (first | (with_reducible exact F0 _) | apply F1)); done) | (repeat (first | exact F0 _ | apply F1))))))
  · try simp only [ZA, ZB, ZC, ZD, ZE, ZF, ZG, ZH, ZI, ZJ, ZK, ZL, ZM, ZN, ZO, ZP, ZQ, ZR] at h3
    refine Run.skip ?_
    refine Run.seq ?_
    refine Run.sr ?_
    refine RunL.as rfl rfl ?_
    refine RunL.nil ?_
    refine Run.block ?_
    refine Run.keep (.cons rfl (.cons rfl (.cons rfl (.nil))) : Keep _ [0, 1, 5] _) ?_
    refine Run.loopF (F := F) (fun n e A => ∃ (i : Nat), i ≤ xs.length ∧ (∀ j x, j < i → xs[j]? = some x → ys[j]? = some x) ∧ n = xs.length - i ∧ e = [(0, .slice a xs.length c), (1, .slice a' ys.length c'), (5, .int .i64 (i : Nat))] ∧ A = F) (xs.length) (by exact ⟨0, by omega, fun j x hj => by omega, rfl, rfl, rfl⟩) (by repeat (first | (with_reducible exact Fin.done (by repeat (first | (with_reducible exact Rest.here) | apply Rest.there))) | (apply Fin.cons (by first | ((repeat (first | (with_reducible exact F0 _) | apply F1)); done) | (repeat (first | exact F0 _ | apply F1)))))) ?_
    rintro n _ _ ⟨i, hi, hsame, rfl, rfl, hA_⟩ ih
    replace hA_ := hA_.symm; subst hA_
    refine Run.seq ?_
    refine Run.sr ?_
    refine RunL.mv rfl rfl ?_
    refine RunL.mv rfl rfl ?_
    refine RunL.pure (Pure.lenSl rfl rfl und34) (Wt.none rfl) rfl rfl ?_
    refine RunL.pure (Pure.lss rfl rfl) (Wt.none rfl) rfl rfl ?_
    refine RunL.nil ?_
    refine Run.cond rfl (fun h4 => ?_) (fun h4 => ?_)
    · try simp only [ZA, ZB, ZC, ZD, ZE, ZF, ZG, ZH, ZI, ZJ, ZK, ZL, ZM, ZN, ZO, ZP, ZQ, ZR] at h4
      obtain ⟨b, T', pre, post, rfl, hro⟩ := h1.open1 (show 0 < xs.length by omega)
      obtain ⟨b', T2, pre', post', rfl, hro'⟩ := h2.open1 (show 0 < ys.length by omega)
      obtain ⟨x, hx⟩ := get_some (xs := xs) (i := i) (by omega)
      obtain ⟨y, hy⟩ := get_some (xs := ys) (i := i) (by omega)
      refine Run.skip ?_
      refine Run.seq ?_
      refine Run.block ?_
      refine Run.seq ?_
      refine Run.regionD' (by kernel_rfl) (by kernel_rfl) (fun hok50 => ?_)
      refine RunD.pure (i := 0) hok50 rfl (by kernel_rfl) (Pure.move rfl) (Wt.none rfl) rfl rfl ?_
      refine RunD.pure (i := 1) hok50 rfl (by kernel_rfl) (Pure.move rfl) (Wt.none rfl) rfl rfl ?_
      refine RunD.pure (i := 2) hok50 rfl (by kernel_rfl) (Pure.indexAddr rfl rfl und34 sz9 (by omega) (by omega)) (Wt.none rfl) rfl rfl ?_
      refine RunD.load1R (i := 3) hok50 rfl (by kernel_rfl) rfl hro (elem1_at hx) agg9 (Wt.none rfl) rfl ?_
      refine RunD.pure (i := 4) hok50 rfl (by kernel_rfl) (Pure.move rfl) (Wt.none rfl) rfl rfl ?_
      refine RunD.pure (i := 5) hok50 rfl (by kernel_rfl) (Pure.move rfl) (Wt.none rfl) rfl rfl ?_
      refine RunD.pure (i := 6) hok50 rfl (by kernel_rfl) (Pure.indexAddr rfl rfl und34 sz9 (by omega) (by omega)) (Wt.none rfl) rfl rfl ?_
      refine RunD.load1R (i := 7) hok50 rfl (by kernel_rfl) rfl hro' (elem1_at hy) agg9 (Wt.none rfl) rfl ?_
      refine RunD.pure (i := 8) hok50 rfl (by kernel_rfl) (Pure.sneq rfl rfl) (Wt.none rfl) rfl rfl ?_
      refine RunD.nilR (by kernel_rfl) ?_
      refine Run.cond rfl (fun h5 => ?_) (fun h5 => ?_)
      · try simp only [ZA, ZB, ZC, ZD, ZE, ZF, ZG, ZH, ZI, ZJ, ZK, ZL, ZM, ZN, ZO, ZP, ZQ, ZR] at h5
        refine Run.sr ?_
        refine RunL.as rfl rfl ?_
        refine RunL.nil ?_
        exact Run.ret Try.func14 (res1 rfl rfl) (by exact ⟨by rw [decide_eq_false]; intro e; subst e; rw [hx] at hy; cases hy; exact h5 rfl, rfl⟩) (by repeat (first | (with_reducible exact Fin.done (by repeat (first | (with_reducible exact Rest.here) | apply Rest.there))) | (apply Fin.cons (by first | ((repeat (first | (with_reducible exact F0 _) | apply F1)); done) | (repeat (first | exact F0 _ | apply F1))))))
      · try simp only [ZA, ZB, ZC, ZD, ZE, ZF, ZG, ZH, ZI, ZJ, ZK, ZL, ZM, ZN, ZO, ZP, ZQ, ZR] at h5
        obtain rfl : x = y := bl_inj h5
        refine Run.skip ?_
        refine Run.inBlock ?_
        refine Run.region ?_
        refine RunL.mv rfl rfl ?_
        first | refine RunL.pure (Pure.addI rfl rfl (by omega)) (Wt.none rfl) rfl rfl ?_ | refine RunL.pure (Pure.add rfl rfl) (Wt.none rfl) rfl rfl ?_
        refine RunL.as rfl rfl ?_
        refine RunL.nil ?_
        refine Run.keep (.cons rfl (.cons rfl (.cons rfl (.nil))) : Keep _ [0, 1, 5] _) ?_
        refine Run.againF (F := F) ih (by exact ⟨i + 1, by omega, fun j z hj hz => by (rcases Nat.lt_or_ge j i with q | q); exact hsame j z q hz; have : j = i := (by omega); subst this; rw [hx] at hz; cases hz; exact hy, rfl, rfl, rfl⟩) (by repeat (first | (with_reducible exact Fin.done (by repeat (first | (with_reducible exact Rest.here) | apply Rest.there))) | (apply Fin.cons (by first | ((repeat (first | (with_reducible exact F0 _) | apply F1)); done) | (repeat (first | exact F0 _ | apply F1)))))) ?_
        omega
    · try simp only [ZA, ZB, ZC, ZD, ZE, ZF, ZG, ZH, ZI, ZJ, ZK, ZL, ZM, ZN, ZO, ZP, ZQ, ZR] at h4
      refine Run.exit rfl ?_
      refine Run.sr ?_
      refine RunL.as rfl rfl ?_
      refine RunL.nil ?_
      exact Run.ret Try.func14 (res1 rfl rfl) (by exact ⟨by rw [decide_eq_true]; apply List.ext_getElem?; intro j; rcases Nat.lt_or_ge j xs.length with q | q; obtain ⟨x, hx⟩ := get_some (xs := xs) q; rw [hx, hsame j x (by omega) hx]; rw [List.getElem?_eq_none q, List.getElem?_eq_none (by omega)], rfl⟩) (by repeat (first | (with_reducible exact Fin.done (by repeat (first | (with_reducible exact Rest.here) | apply Rest.there))) | (apply Fin.cons (by first | ((repeat (first | (with_reducible exact F0 _) | apply F1)); done) | (repeat (first | exact F0 _ | apply F1))))))

set_option maxHeartbeats 4000000 in
set_option maxRecDepth 100000 in
theorem rDue_ctr {G : Gp} {q : Nat} {tl : List (ByteArray × Int)} {t : Int} (hn : KN tl) (hb : tl.length ≤ 1000) :
    Ctr Try.prog G 30 [.pointer (some ⟨q, 0, none⟩), .int .i64 t] [RH q tl] (fun F v A => ∃ ao co, v = .slice ao (dueK tl t).length co ∧ A = RH q (afterT tl t) :: Sl 9 1 ao (dueK tl t).length co ((dueK tl t).map Value.string) :: F) := by
  refine Ctr.intro Try.func30 rfl (by kernel_rfl) rfl (fun F => ?_)
  simp only [List.cons_append, List.nil_append]
  refine Run.nilSl 9 1 ?_
  have hEl := EL_len tl
  refine Run.sr ?_
  refine RunL.as rfl rfl ?_
  refine RunL.nil ?_
  refine Run.sr ?_
  refine RunL.as rfl rfl ?_
  refine RunL.nil ?_
  refine Run.seq ?_
  refine Run.block ?_
  refine Run.keep (.cons rfl (.cons rfl (.cons rfl (.nil))) : Keep _ [0, 1, 5] _) ?_
  refine Run.loopF (F := F) (fun n e A => ∃ (j : Nat) (tl' : List (ByteArray × Int)) (os : List ByteArray) (ao : Option Addr) (co : Nat), j ≤ (EL tl).length ∧ KN tl' ∧ EL tl' = (EL tl).drop j ∧ os = ((EL tl).take j).map E.key ∧ (∀ i x, i < j → (EL tl)[i]? = some x → overT t x = true) ∧ n = (EL tl).length - j ∧ e = [(0, .pointer (some ⟨q, 0, none⟩)), (1, .int .i64 t), (5, .slice ao os.length co)] ∧ A = RH q tl' :: Sl 9 1 ao os.length co (os.map Value.string) :: F) ((EL tl).length) (by exact ⟨0, tl, [], none, 0, by omega, hn, rfl, rfl, fun i x hi => by omega, rfl, rfl, rfl⟩) (by repeat (first | (with_reducible exact Fin.done (by repeat (first | (with_reducible exact Rest.here) | apply Rest.there))) | (apply Fin.cons (by first | ((repeat (first | (with_reducible exact F0 _) | apply F1)); done) | (repeat (first | exact F0 _ | apply F1)))))) ?_
  rintro n _ _ ⟨j, tl', os, ao, co, hj, hn', hel, hos, hpre, rfl, rfl, hA_⟩ ih
  replace hA_ := hA_.symm; subst hA_
  have hlj : (EL tl').length = (EL tl).length - j := by rw [hel, List.length_drop]
  have hol : os.length = j := by rw [hos]; simp; omega
  refine Run.openR (by first | ((repeat (first | (with_reducible exact F0 _) | apply F1)); done) | (repeat (first | exact F0 _ | apply F1))) ?_; intro a cap
  refine Run.seq ?_
  refine Run.sr ?_
  refine RunL.mv rfl rfl ?_
  refine RunL.pure (Pure.nilCheck rfl) (Wt.none rfl) rfl rfl ?_
  refine RunL.pure (Pure.fieldAddr rfl fo29_0) (Wt.none rfl) rfl rfl ?_
  first | refine RunL.load1 rfl (by first | ((repeat (first | (with_reducible exact F0 _) | apply F1)); done) | (repeat (first | exact F0 _ | apply F1))) (by rfl) agg27 (Wt.none rfl) rfl ?_ | refine RunL.load1R rfl (by assumption) (by rfl) agg27 (Wt.none rfl) rfl ?_
  refine RunL.pure (Pure.lenSl rfl rfl und27) (Wt.none rfl) rfl rfl ?_
  refine RunL.pure (Pure.gtr rfl rfl) (Wt.none rfl) rfl rfl ?_
  refine RunL.mv rfl rfl ?_
  refine RunL.split (d := 12) rfl (fun h1 => ?_) (fun h1 => ?_)
  · try simp only [ZA, ZB, ZC, ZD, ZE, ZF, ZG, ZH, ZI, ZJ, ZK, ZL, ZM, ZN, ZO, ZP, ZQ, ZR] at h1
    obtain ⟨x, hx⟩ := get_some (xs := EL tl') (i := 0) (by omega)
    have hxj : (EL tl)[j]? = some x := by rw [hel, List.getElem?_drop] at hx; exact hx
    have hd1 := EL_drop1 hn' hx
    refine RunL.openSl (a := a) (n := (EL tl').length) (by first | ((repeat (first | (with_reducible exact F0 _) | apply F1)); done) | (repeat (first | exact F0 _ | apply F1))) (by omega) ?_; rintro b2 pre2 post2 rfl hsl1 hsl2 hsl3
    refine RunL.pure (Pure.move rfl) (Wt.yes rfl rfl rfl) rfl rfl ?_
    refine RunL.pure (Pure.nilCheck rfl) (Wt.yes rfl rfl rfl) rfl rfl ?_
    refine RunL.pure (Pure.fieldAddr rfl fo29_0) (Wt.yes rfl rfl rfl) rfl rfl ?_
    first | refine RunL.load1 rfl (by first | ((repeat (first | (with_reducible exact F0 _) | apply F1)); done) | (repeat (first | exact F0 _ | apply F1))) (by rfl) agg27 (Wt.yes rfl rfl rfl) rfl ?_ | refine RunL.load1R rfl (by assumption) (by rfl) agg27 (Wt.yes rfl rfl rfl) rfl ?_
    refine RunL.pure (Pure.indexAddr rfl rfl und27 sz36 (by omega) (by omega)) (Wt.yes rfl rfl rfl) rfl rfl ?_
    refine RunL.pure (Pure.fieldAddr rfl fo36_0) (Wt.yes rfl rfl rfl) rfl rfl ?_
    refine RunL.load1 rfl (by first | ((repeat (first | (with_reducible exact F0 _) | apply F1)); done) | (repeat (first | exact F0 _ | apply F1))) ((elem_at (f := cE) (sz := 2) (j := 0) (fun _ _ => rfl) (show (EL tl')[(0 : Int).toNat]? = some x from hx) (by decide)).trans rfl) agg3 (Wt.yes rfl rfl rfl) rfl ?_
    refine RunL.pure (Pure.move rfl) (Wt.yes rfl rfl rfl) rfl rfl ?_
    refine RunL.pure (Pure.leq rfl rfl) (Wt.yes rfl rfl rfl) rfl rfl ?_
    refine RunL.pure (Pure.pickT rfl rfl) (Wt.none rfl) rfl rfl ?_
    refine RunL.nil ?_
    refine Run.cond rfl (fun h2 => ?_) (fun h2 => ?_)
    · try simp only [ZA, ZB, ZC, ZD, ZE, ZF, ZG, ZH, ZI, ZJ, ZK, ZL, ZM, ZN, ZO, ZP, ZQ, ZR] at h2
      refine Run.skip ?_
      refine Run.block ?_
      refine Run.sr ?_
      refine RunL.mv rfl rfl ?_
      refine RunL.mv rfl rfl ?_
      refine RunL.pure (Pure.nilCheck rfl) (Wt.none rfl) rfl rfl ?_
      refine RunL.pure (Pure.fieldAddr rfl fo29_0) (Wt.none rfl) rfl rfl ?_
      first | refine RunL.load1 rfl (by first | ((repeat (first | (with_reducible exact F0 _) | apply F1)); done) | (repeat (first | exact F0 _ | apply F1))) (by rfl) agg27 (Wt.none rfl) rfl ?_ | refine RunL.load1R rfl (by assumption) (by rfl) agg27 (Wt.none rfl) rfl ?_
      refine RunL.pure (Pure.indexAddr rfl rfl und27 sz36 (by omega) (by omega)) (Wt.none rfl) rfl rfl ?_
      refine RunL.pure (Pure.fieldAddr rfl fo36_1) (Wt.none rfl) rfl rfl ?_
      refine RunL.load1 rfl (by first | ((repeat (first | (with_reducible exact F0 _) | apply F1)); done) | (repeat (first | exact F0 _ | apply F1))) ((elem_at (f := cE) (sz := 2) (j := 1) (fun _ _ => rfl) (show (EL tl')[(0 : Int).toNat]? = some x from hx) (by decide)).trans rfl) agg9 (Wt.none rfl) rfl ?_
      refine RunL.lit (vals := [_]) (vs := ([x.key] : List ByteArray).map Value.string) und34 sz9 zz9 rfl rfl rfl rfl rfl rfl (by simp [Value.cells, bv, cE, cOO]) rfl (Wt.none rfl) rfl ?_; intro b31
      refine RunL.append (m := 1) (n' := (os ++ [x.key]).length) (cs' := (os ++ [x.key]).map Value.string) rfl rfl (by first | ((repeat (first | (with_reducible exact F0 _) | apply F1)); done) | (repeat (first | exact F0 _ | apply F1))) rfl rfl und34 und34 rfl sz9 zz9 rfl by9 (by omega) (by omega) (fun w sw => sw.src) (by simp [Value.isOne]) (by simp) (by simp) (Wt.none rfl) rfl ?_; intro a1 c1
      refine RunL.as rfl rfl ?_
      refine RunL.nil ?_
      refine Run.mkSl (b := b2) (pre := pre2) (post := post2) (sz := 2) (cs := (EL tl').flatMap cE) (n := (EL tl').length) (by first | ((repeat (first | (with_reducible exact F0 _) | apply F1)); done) | (repeat (first | exact F0 _ | apply F1))) hsl1 hsl2 hsl3 ?_
      refine Run.fromSlF (xs := EL tl') (f := cE) 1 (fun _ _ => rfl) (by first | ((repeat (first | (with_reducible exact F0 _) | apply F1)); done) | (repeat (first | exact F0 _ | apply F1))) (by omega) ?_
      refine Run.region ?_
      refine RunL.mv rfl rfl ?_
      refine RunL.mv rfl rfl ?_
      refine RunL.pure (Pure.nilCheck rfl) (Wt.none rfl) rfl rfl ?_
      refine RunL.pure (Pure.fieldAddr rfl fo29_0) (Wt.none rfl) rfl rfl ?_
      first | refine RunL.load1 rfl (by first | ((repeat (first | (with_reducible exact F0 _) | apply F1)); done) | (repeat (first | exact F0 _ | apply F1))) (by rfl) agg27 (Wt.none rfl) rfl ?_ | refine RunL.load1R rfl (by assumption) (by rfl) agg27 (Wt.none rfl) rfl ?_
      refine RunL.pure (Pure.sliceFrom rfl rfl und27 sz36 (by first | omega | (simp; done) | (simp; omega)) (by first | omega | (simp; done) | (simp; omega))) (Wt.none rfl) rfl rfl ?_
      refine RunL.pure (Pure.nilCheck rfl) (Wt.none rfl) rfl rfl ?_
      refine RunL.pure (Pure.fieldAddr rfl fo29_0) (Wt.none rfl) rfl rfl ?_
      refine RunL.store1 rfl rfl (by first | ((repeat (first | (with_reducible exact F0 _) | apply F1)); done) | (repeat (first | exact F0 _ | apply F1))) sz27 (by rfl) (by simp) (Wt.none rfl) ?_
      try simp only [List.set_cons_zero, List.set_cons_succ]
      refine RunL.nil ?_
      refine Run.inBlock ?_
      rw [show (List.drop 1 (EL tl')).length = (EL tl').length - 1 from List.length_drop]
      refine Run.mkR (mdel x.key tl') (by repeat (first | (with_reducible exact Take.nil _) | (apply Take.cons (by first | ((repeat (first | (with_reducible exact F0 _) | apply F1)); done) | (repeat (first | exact F0 _ | apply F1)))))) (by rw [← hd1, List.length_drop]; rfl) (by rw [hd1]) ?_
      refine Run.keep (.cons rfl (.cons rfl (.cons rfl (.nil))) : Keep _ [0, 1, 5] _) ?_
      refine Run.againF (F := F) ih (by exact ⟨j + 1, mdel x.key tl', os ++ [x.key], _, _, by omega, hn'.mdel, by rw [← hd1, hel]; simp, by rw [hos, List.take_add_one, hxj]; simp, lt_succ_of hpre hxj (by simp [overT]; omega), rfl, rfl, rfl⟩) (by repeat (first | (with_reducible exact Fin.done (by repeat (first | (with_reducible exact Rest.here) | apply Rest.there))) | (apply Fin.cons (by first | ((repeat (first | (with_reducible exact F0 _) | apply F1)); done) | (repeat (first | exact F0 _ | apply F1)))))) ?_
      omega
    · try simp only [ZA, ZB, ZC, ZD, ZE, ZF, ZG, ZH, ZI, ZJ, ZK, ZL, ZM, ZN, ZO, ZP, ZQ, ZR] at h2
      obtain ⟨e1, e2⟩ := takeWhile_eq hpre (fun y hy => by rw [hxj] at hy; cases hy; simp [overT]; omega) hj
      have e3 : dueK tl t = os := by unfold dueK; rw [e1, hos]
      have e4 : EL tl' = EL (afterT tl t) := by rw [afterT_EL hn, e2, hel]
      refine Run.exit rfl ?_
      refine Run.sr ?_
      refine RunL.mv rfl rfl ?_
      refine RunL.as rfl rfl ?_
      refine RunL.nil ?_
      refine Run.mkSl (b := b2) (pre := pre2) (post := post2) (sz := 2) (cs := (EL tl').flatMap cE) (n := (EL tl').length) (by first | ((repeat (first | (with_reducible exact F0 _) | apply F1)); done) | (repeat (first | exact F0 _ | apply F1))) hsl1 hsl2 hsl3 ?_
      refine Run.mkR (afterT tl t) (by repeat (first | (with_reducible exact Take.nil _) | (apply Take.cons (by first | ((repeat (first | (with_reducible exact F0 _) | apply F1)); done) | (repeat (first | exact F0 _ | apply F1)))))) (by rw [← e4]) (by rw [← e4]) ?_
      exact Run.ret Try.func30 (res1 rfl rfl) (by exact ⟨_, _, by rw [e3], by rw [e3]⟩) (by repeat (first | (with_reducible exact Fin.done (by repeat (first | (with_reducible exact Rest.here) | apply Rest.there))) | (apply Fin.cons (by first | ((repeat (first | (with_reducible exact F0 _) | apply F1)); done) | (repeat (first | exact F0 _ | apply F1))))))
  · try simp only [ZA, ZB, ZC, ZD, ZE, ZF, ZG, ZH, ZI, ZJ, ZK, ZL, ZM, ZN, ZO, ZP, ZQ, ZR] at h1
    obtain ⟨e1, e2⟩ := takeWhile_eq hpre (fun y hy => by have := (List.getElem?_eq_some_iff.1 hy).1; omega) hj
    have e3 : dueK tl t = os := by unfold dueK; rw [e1, hos]
    have e4 : EL tl' = EL (afterT tl t) := by rw [afterT_EL hn, e2, hel]
    refine RunL.not (Wt.no rfl rfl rfl) rfl rfl ?_
    refine RunL.not (Wt.no rfl rfl rfl) rfl rfl ?_
    refine RunL.not (Wt.no rfl rfl rfl) rfl rfl ?_
    refine RunL.not (Wt.no rfl rfl rfl) rfl rfl ?_
    refine RunL.not (Wt.no rfl rfl rfl) rfl rfl ?_
    refine RunL.not (Wt.no rfl rfl rfl) rfl rfl ?_
    refine RunL.not (Wt.no rfl rfl rfl) rfl rfl ?_
    refine RunL.not (Wt.no rfl rfl rfl) rfl rfl ?_
    refine RunL.not (Wt.no rfl rfl rfl) rfl rfl ?_
    refine RunL.pure (Pure.pickF rfl rfl) (Wt.none rfl) rfl rfl ?_
    refine RunL.nil ?_
    refine Run.condF rfl ?_
    refine Run.exit rfl ?_
    refine Run.sr ?_
    refine RunL.mv rfl rfl ?_
    refine RunL.as rfl rfl ?_
    refine RunL.nil ?_
    refine Run.mkR (afterT tl t) (by repeat (first | (with_reducible exact Take.nil _) | (apply Take.cons (by first | ((repeat (first | (with_reducible exact F0 _) | apply F1)); done) | (repeat (first | exact F0 _ | apply F1)))))) (by rw [← e4]) (by rw [← e4]) ?_
    exact Run.ret Try.func30 (res1 rfl rfl) (by exact ⟨_, _, by rw [e3], by rw [e3]⟩) (by repeat (first | (with_reducible exact Fin.done (by repeat (first | (with_reducible exact Rest.here) | apply Rest.there))) | (apply Fin.cons (by first | ((repeat (first | (with_reducible exact F0 _) | apply F1)); done) | (repeat (first | exact F0 _ | apply F1))))))

set_option maxRecDepth 100000 in
theorem few_ctr {G : Gp} {o : OO} :
    Ctr Try.prog G 9 [.agg (cOO o).toArray] [] (fun F v A => v = .agg (cOO (fewO o)).toArray ∧ A = F) := by
  refine Ctr.intro Try.func9 rfl (by kernel_rfl) rfl (fun F => ?_)
  simp only [List.nil_append]
  refine Run.sr ?_
  refine RunL.boxA (xs := (cOO o)) rfl (Wt.none rfl) rfl ?_; intro b1
  refine RunL.alloc zz31 (Wt.none rfl) rfl ?_; intro b2
  refine RunL.nil ?_
  refine Run.sr ?_
  refine RunL.pure (Pure.fieldAddr rfl fo31_2) (Wt.none rfl) rfl rfl ?_
  first | refine RunL.load1 rfl (by first | ((repeat (first | (with_reducible exact F0 _) | apply F1)); done) | (repeat (first | exact F0 _ | apply F1))) (by rfl) agg9 (Wt.none rfl) rfl ?_ | refine RunL.load1R rfl (by assumption) (by rfl) agg9 (Wt.none rfl) rfl ?_
  refine RunL.call rfl rfl (by rfl) (by repeat (first | (with_reducible exact Take.nil _) | (apply Take.cons (by first | ((repeat (first | (with_reducible exact F0 _) | apply F1)); done) | (repeat (first | exact F0 _ | apply F1)))))) (FewC_ctr (m := 4) (by decide) (by decide)) (Wt.none rfl) rfl ?_
  rintro _ _ ⟨rfl, hA_⟩
  replace hA_ := hA_.symm; subst hA_
  refine RunL.pure (Pure.fieldAddr rfl fo31_2) (Wt.none rfl) rfl rfl ?_
  refine RunL.store1A (cs' := (cOO (fewO o))) rfl rfl (by first | ((repeat (first | (with_reducible exact F0 _) | apply F1)); done) | (repeat (first | exact F0 _ | apply F1))) sz9 (by rfl) (by first | exact Nat.le_of_ble_eq_true rfl | (simp; done) | (simp; omega)) rfl (Wt.none rfl) ?_
  refine RunL.nil ?_
  refine Run.sr ?_
  first | refine RunL.loadA (vs := (cOO (fewO o))) rfl (by first | ((repeat (first | (with_reducible exact F0 _) | apply F1)); done) | (repeat (first | exact F0 _ | apply F1))) agg31 sz31 (by first | exact Nat.le_of_ble_eq_true rfl | (simp; done) | (simp; omega)) rfl (Wt.none rfl) rfl ?_ | refine RunL.loadNR (vs := (cOO (fewO o))) rfl (by assumption) agg31 sz31 (by first | exact Nat.le_of_ble_eq_true rfl | (simp; done) | (simp; omega)) rfl (Wt.none rfl) rfl ?_
  refine RunL.storeW (xs := (cOO (fewO o))) rfl rfl (by first | ((repeat (first | (with_reducible exact F0 _) | apply F1)); done) | (repeat (first | exact F0 _ | apply F1))) sz31 (by rfl) (by rfl) (by rfl) (Wt.none rfl) ?_
  refine RunL.nil ?_
  exact Run.ret Try.func9 (resV1 rfl (Rv.cellN (us := (cOO (fewO o))) rfl (by first | ((repeat (first | (with_reducible exact F0 _) | apply F1)); done) | (repeat (first | exact F0 _ | apply F1))) agg31 sz31 (by first | exact Nat.le_of_ble_eq_true rfl | (simp; done) | (simp; omega)) rfl)) (by exact ⟨rfl, rfl⟩) (by repeat (first | (with_reducible exact Fin.done (by repeat (first | (with_reducible exact Rest.here) | apply Rest.there))) | (apply Fin.cons (by first | ((repeat (first | (with_reducible exact F0 _) | apply F1)); done) | (repeat (first | exact F0 _ | apply F1))))))

end Go.Proofs.Ytppamndllgojnaa
