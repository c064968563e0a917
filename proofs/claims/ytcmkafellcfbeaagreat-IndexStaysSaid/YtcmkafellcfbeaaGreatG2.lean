/- Events that are the same. -/
import Derived.Test.YtcmkafellcfbeaaGreatG1
set_option linter.unusedVariables false
set_option linter.unusedSimpArgs false
set_option linter.unusedSectionVars false
namespace Go.Proofs.YtcmkafellcfbeaaGreat
open Go Csl


set_option maxHeartbeats 4000000 in
set_option maxRecDepth 100000 in
theorem TextsR_ctr {G : Gp} {a a' : Option Addr} {c c' : Nat} {xs ys : List ByteArray} (h : SlR G 9 1 a xs.length (xs.map Value.string)) (h' : SlR G 9 1 a' ys.length (ys.map Value.string)) (hb : xs.length ≤ 1000000) :
    Ctr Tryz.prog G 23 [.slice a xs.length c, .slice a' ys.length c'] [] (fun F v A => v = .bool (decide (xs = ys)) ∧ A = F) := by
  refine Ctr.intro Tryz.func23 rfl (by kernel_rfl) rfl (fun F => ?_)
  simp only [List.nil_append]
  refine Run.sr ?_
  refine RunL.as rfl rfl ?_
  refine RunL.nil ?_
  refine Run.seq ?_
  refine Run.sr ?_
  refine RunL.mv rfl rfl ?_
  refine RunL.pure (Pure.lenSl rfl rfl und31) (Wt.none rfl) rfl rfl ?_
  refine RunL.mv rfl rfl ?_
  refine RunL.pure (Pure.lenSl rfl rfl und31) (Wt.none rfl) rfl rfl ?_
  refine RunL.pure (Pure.neq rfl rfl) (Wt.none rfl) rfl rfl ?_
  refine RunL.nil ?_
  refine Run.cond rfl (fun h1 => ?_) (fun h1 => ?_)
  · try simp only [ZA, ZB, ZC, ZD, ZE, ZF, ZG, ZH, ZI, ZJ, ZK, ZL, ZM, ZN, ZO, ZP, ZQ, ZR] at h1
    refine Run.sr ?_
    refine RunL.as rfl rfl ?_
    refine RunL.nil ?_
    exact Run.ret Tryz.func23 (res1 rfl rfl) (by exact ⟨by rw [decide_eq_false (fun q => h1 (by rw [q]))], rfl⟩) (by repeat (first | (with_reducible exact Fin.done (by repeat (first | (with_reducible exact Rest.here) | apply Rest.there))) | (apply Fin.cons (by first | ((repeat (first | (with_reducible exact F0 _) | apply F1)); done) | (repeat (first | exact F0 _ | apply F1))))))
  · try simp only [ZA, ZB, ZC, ZD, ZE, ZF, ZG, ZH, ZI, ZJ, ZK, ZL, ZM, ZN, ZO, ZP, ZQ, ZR] at h1
    have hl : xs.length = ys.length := by omega
    refine Run.skip ?_
    refine Run.seq ?_
    refine Run.sr ?_
    refine RunL.as rfl rfl ?_
    refine RunL.nil ?_
    refine Run.block ?_
    refine Run.keep (.cons rfl (.cons rfl (.cons rfl (.nil))) : Keep _ [0, 1, 5] _) ?_
    refine Run.loopF (F := F) (fun n e A => ∃ i : Nat, i ≤ xs.length ∧ (∀ j, j < i → xs[j]? = ys[j]?) ∧ n = xs.length - i ∧ e = [(0, .slice a xs.length c), (1, .slice a' ys.length c'), (5, .int .i64 (i : Nat))] ∧ A = F) (xs.length) (by exact ⟨0, by omega, fun j q => by omega, rfl, rfl, rfl⟩) (by repeat (first | (with_reducible exact Fin.done (by repeat (first | (with_reducible exact Rest.here) | apply Rest.there))) | (apply Fin.cons (by first | ((repeat (first | (with_reducible exact F0 _) | apply F1)); done) | (repeat (first | exact F0 _ | apply F1)))))) ?_
    rintro n _ _ ⟨i, hi, hall, rfl, rfl, hA_⟩ ih
    replace hA_ := hA_.symm; subst hA_
    refine Run.seq ?_
    refine Run.sr ?_
    refine RunL.mv rfl rfl ?_
    refine RunL.mv rfl rfl ?_
    refine RunL.pure (Pure.lenSl rfl rfl und31) (Wt.none rfl) rfl rfl ?_
    refine RunL.pure (Pure.lss rfl rfl) (Wt.none rfl) rfl rfl ?_
    refine RunL.nil ?_
    refine Run.cond rfl (fun h2 => ?_) (fun h2 => ?_)
    · try simp only [ZA, ZB, ZC, ZD, ZE, ZF, ZG, ZH, ZI, ZJ, ZK, ZL, ZM, ZN, ZO, ZP, ZQ, ZR] at h2
      obtain ⟨x, hx⟩ := get_some (xs := xs) (i := i) (by omega)
      obtain ⟨y, hy⟩ := get_some (xs := ys) (i := i) (by omega)
      obtain ⟨ba, Ta, prea, posta, rfl, hroa⟩ := h.open1 (show 0 < xs.length by omega)
      obtain ⟨bb, Tb, preb, postb, rfl, hrob⟩ := h'.open1 (show 0 < ys.length by omega)
      refine Run.skip ?_
      refine Run.seq ?_
      refine Run.block ?_
      refine Run.seq ?_
      refine Run.regionD' (by kernel_rfl) (by kernel_rfl) (fun hok46 => ?_)
      refine RunD.pure (i := 0) hok46 rfl (by kernel_rfl) (Pure.move rfl) (Wt.none rfl) rfl rfl ?_
      refine RunD.pure (i := 1) hok46 rfl (by kernel_rfl) (Pure.move rfl) (Wt.none rfl) rfl rfl ?_
      refine RunD.pure (i := 2) hok46 rfl (by kernel_rfl) (Pure.indexAddr rfl rfl und31 sz9 (by omega) (by omega)) (Wt.none rfl) rfl rfl ?_
      refine RunD.load1R (i := 3) hok46 rfl (by kernel_rfl) rfl hroa (elem1_at hx) agg9 (Wt.none rfl) rfl ?_
      refine RunD.pure (i := 4) hok46 rfl (by kernel_rfl) (Pure.move rfl) (Wt.none rfl) rfl rfl ?_
      refine RunD.pure (i := 5) hok46 rfl (by kernel_rfl) (Pure.move rfl) (Wt.none rfl) rfl rfl ?_
      refine RunD.pure (i := 6) hok46 rfl (by kernel_rfl) (Pure.indexAddr rfl rfl und31 sz9 (by omega) (by omega)) (Wt.none rfl) rfl rfl ?_
      refine RunD.load1R (i := 7) hok46 rfl (by kernel_rfl) rfl hrob (elem1_at hy) agg9 (Wt.none rfl) rfl ?_
      refine RunD.pure (i := 8) hok46 rfl (by kernel_rfl) (Pure.sneq rfl rfl) (Wt.none rfl) rfl rfl ?_
      refine RunD.nilR (by kernel_rfl) ?_
      refine Run.cond rfl (fun h3 => ?_) (fun h3 => ?_)
      · try simp only [ZA, ZB, ZC, ZD, ZE, ZF, ZG, ZH, ZI, ZJ, ZK, ZL, ZM, ZN, ZO, ZP, ZQ, ZR] at h3
        refine Run.sr ?_
        refine RunL.as rfl rfl ?_
        refine RunL.nil ?_
        exact Run.ret Tryz.func23 (res1 rfl rfl) (by exact ⟨by rw [decide_eq_false (fun q => h3 (by subst q; rw [hx] at hy; cases hy; rfl))], rfl⟩) (by repeat (first | (with_reducible exact Fin.done (by repeat (first | (with_reducible exact Rest.here) | apply Rest.there))) | (apply Fin.cons (by first | ((repeat (first | (with_reducible exact F0 _) | apply F1)); done) | (repeat (first | exact F0 _ | apply F1))))))
      · try simp only [ZA, ZB, ZC, ZD, ZE, ZF, ZG, ZH, ZI, ZJ, ZK, ZL, ZM, ZN, ZO, ZP, ZQ, ZR] at h3
        refine Run.skip ?_
        refine Run.inBlock ?_
        refine Run.region ?_
        refine RunL.mv rfl rfl ?_
        first | refine RunL.pure (Pure.addI rfl rfl (by omega)) (Wt.none rfl) rfl rfl ?_ | refine RunL.pure (Pure.add rfl rfl) (Wt.none rfl) rfl rfl ?_
        refine RunL.as rfl rfl ?_
        refine RunL.nil ?_
        refine Run.keep (.cons rfl (.cons rfl (.cons rfl (.nil))) : Keep _ [0, 1, 5] _) ?_
        refine Run.againF (F := F) ih (by exact ⟨i + 1, by omega, fun j hj => by (rcases Nat.lt_or_ge j i with q_ | q_; exact hall j q_; have : j = i := (by omega); subst this; rw [hx, hy, bl_inj h3]), rfl, rfl, rfl⟩) (by repeat (first | (with_reducible exact Fin.done (by repeat (first | (with_reducible exact Rest.here) | apply Rest.there))) | (apply Fin.cons (by first | ((repeat (first | (with_reducible exact F0 _) | apply F1)); done) | (repeat (first | exact F0 _ | apply F1)))))) ?_
        omega
    · try simp only [ZA, ZB, ZC, ZD, ZE, ZF, ZG, ZH, ZI, ZJ, ZK, ZL, ZM, ZN, ZO, ZP, ZQ, ZR] at h2
      refine Run.exit rfl ?_
      refine Run.sr ?_
      refine RunL.as rfl rfl ?_
      refine RunL.nil ?_
      exact Run.ret Tryz.func23 (res1 rfl rfl) (by exact ⟨by rw [decide_eq_true (List.ext_getElem? fun j => by (rcases Nat.lt_or_ge j i with q_ | q_; exact hall j q_; rw [List.getElem?_eq_none (by omega), List.getElem?_eq_none (by omega)]))], rfl⟩) (by repeat (first | (with_reducible exact Fin.done (by repeat (first | (with_reducible exact Rest.here) | apply Rest.there))) | (apply Fin.cons (by first | ((repeat (first | (with_reducible exact F0 _) | apply F1)); done) | (repeat (first | exact F0 _ | apply F1))))))

end Go.Proofs.YtcmkafellcfbeaaGreat
