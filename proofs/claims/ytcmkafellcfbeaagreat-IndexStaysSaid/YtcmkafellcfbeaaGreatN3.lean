/- Names. -/
import Derived.Test.YtcmkafellcfbeaaGreatN2
set_option linter.unusedVariables false
set_option linter.unusedSimpArgs false
set_option linter.unusedSectionVars false
namespace Go.Proofs.YtcmkafellcfbeaaGreat
open Go Csl


set_option maxRecDepth 100000 in
theorem rEvent_ctr {G : Gp} {s : ByteArray} (hb : s.size ≤ 9223372036854775807) :
    Ctr Tryz.prog G 66 [.string s] [] (fun F v A => v = .bool (eventB (bl s)) ∧ A = F) := by
  refine Ctr.intro Tryz.func66 rfl (by kernel_rfl) rfl (fun F => ?_)
  simp only [List.nil_append]
  have hl := bl_length s
  refine Run.sr ?_
  refine RunL.as rfl rfl ?_
  refine RunL.nil ?_
  refine Run.seq ?_
  refine Run.sr ?_
  refine RunL.mv rfl rfl ?_
  refine RunL.pure (Pure.lenStr rfl rfl und9) (Wt.none rfl) rfl rfl ?_
  refine RunL.pure (Pure.lss rfl rfl) (Wt.none rfl) rfl rfl ?_
  refine RunL.mv rfl rfl ?_
  refine RunL.split (d := 9) rfl (fun h1 => ?_) (fun h1 => ?_)
  · try simp only [ZA, ZB, ZC, ZD, ZE, ZF, ZG, ZH, ZI, ZJ, ZK, ZL, ZM, ZN, ZO, ZP, ZQ, ZR] at h1
    refine RunL.not (Wt.no rfl rfl rfl) rfl rfl ?_
    refine RunL.not (Wt.no rfl rfl rfl) rfl rfl ?_
    refine RunL.not (Wt.no rfl rfl rfl) rfl rfl ?_
    refine RunL.pure (Pure.pickT rfl rfl) (Wt.none rfl) rfl rfl ?_
    refine RunL.mv rfl rfl ?_
    refine RunL.not (Wt.no rfl rfl rfl) rfl rfl ?_
    refine RunL.not (Wt.no rfl rfl rfl) rfl rfl ?_
    refine RunL.not (Wt.no rfl rfl rfl) rfl rfl ?_
    refine RunL.pure (Pure.pickT rfl rfl) (Wt.none rfl) rfl rfl ?_
    refine RunL.nil ?_
    refine Run.condT rfl ?_
    refine Run.sr ?_
    refine RunL.as rfl rfl ?_
    refine RunL.nil ?_
    exact Run.ret Tryz.func66 (res1 rfl rfl) (by exact ⟨by rw [event_short (by omega)], rfl⟩) (by repeat (first | (with_reducible exact Fin.done (by repeat (first | (with_reducible exact Rest.here) | apply Rest.there))) | (apply Fin.cons (by first | ((repeat (first | (with_reducible exact F0 _) | apply F1)); done) | (repeat (first | exact F0 _ | apply F1))))))
  · try simp only [ZA, ZB, ZC, ZD, ZE, ZF, ZG, ZH, ZI, ZJ, ZK, ZL, ZM, ZN, ZO, ZP, ZQ, ZR] at h1
    refine RunL.pure (Pure.move rfl) (Wt.yes rfl rfl rfl) rfl rfl ?_
    refine RunL.pure (Pure.lenStr rfl rfl und9) (Wt.yes rfl rfl rfl) rfl rfl ?_
    refine RunL.pure (Pure.gtr rfl rfl) (Wt.yes rfl rfl rfl) rfl rfl ?_
    refine RunL.pure (Pure.pickF rfl rfl) (Wt.none rfl) rfl rfl ?_
    refine RunL.mv rfl rfl ?_
    refine RunL.split (d := 14) rfl (fun h2 => ?_) (fun h2 => ?_)
    · try simp only [ZA, ZB, ZC, ZD, ZE, ZF, ZG, ZH, ZI, ZJ, ZK, ZL, ZM, ZN, ZO, ZP, ZQ, ZR] at h2
      refine RunL.not (Wt.no rfl rfl rfl) rfl rfl ?_
      refine RunL.not (Wt.no rfl rfl rfl) rfl rfl ?_
      refine RunL.not (Wt.no rfl rfl rfl) rfl rfl ?_
      refine RunL.pure (Pure.pickT rfl rfl) (Wt.none rfl) rfl rfl ?_
      refine RunL.nil ?_
      refine Run.condT rfl ?_
      refine Run.sr ?_
      refine RunL.as rfl rfl ?_
      refine RunL.nil ?_
      exact Run.ret Tryz.func66 (res1 rfl rfl) (by exact ⟨by rw [event_long (by omega)], rfl⟩) (by repeat (first | (with_reducible exact Fin.done (by repeat (first | (with_reducible exact Rest.here) | apply Rest.there))) | (apply Fin.cons (by first | ((repeat (first | (with_reducible exact F0 _) | apply F1)); done) | (repeat (first | exact F0 _ | apply F1))))))
    · try simp only [ZA, ZB, ZC, ZD, ZE, ZF, ZG, ZH, ZI, ZJ, ZK, ZL, ZM, ZN, ZO, ZP, ZQ, ZR] at h2
      obtain ⟨c0, hc0⟩ := get_some (xs := bl s) (i := 0) (by omega)
      refine RunL.pure (Pure.move rfl) (Wt.yes rfl rfl rfl) rfl rfl ?_
      refine RunL.pure (Pure.indexStrC rfl rfl und9 hc0 (by omega)) (Wt.yes rfl rfl rfl) rfl rfl ?_
      refine RunL.pure (Pure.neq rfl rfl) (Wt.yes rfl rfl rfl) rfl rfl ?_
      refine RunL.pure (Pure.pickF rfl rfl) (Wt.none rfl) rfl rfl ?_
      refine RunL.nil ?_
      refine Run.cond rfl (fun h3 => ?_) (fun h3 => ?_)
      · try simp only [ZA, ZB, ZC, ZD, ZE, ZF, ZG, ZH, ZI, ZJ, ZK, ZL, ZM, ZN, ZO, ZP, ZQ, ZR] at h3
        refine Run.sr ?_
        refine RunL.as rfl rfl ?_
        refine RunL.nil ?_
        exact Run.ret Tryz.func66 (res1 rfl rfl) (by exact ⟨by rw [event_head hc0 (fun e => h3 (by rw [e]; rfl))], rfl⟩) (by repeat (first | (with_reducible exact Fin.done (by repeat (first | (with_reducible exact Rest.here) | apply Rest.there))) | (apply Fin.cons (by first | ((repeat (first | (with_reducible exact F0 _) | apply F1)); done) | (repeat (first | exact F0 _ | apply F1))))))
      · try simp only [ZA, ZB, ZC, ZD, ZE, ZF, ZG, ZH, ZI, ZJ, ZK, ZL, ZM, ZN, ZO, ZP, ZQ, ZR] at h3
        obtain ⟨r, hr⟩ : ∃ r, bl s = 36 :: r := by
          cases hq : bl s with
          | nil => rw [hq] at hc0; cases hc0
          | cons a r => rw [hq] at hc0; cases hc0; exact ⟨r, by rw [u8_eq (n := 36) h3 (by decide)]; rfl⟩
        have hrl : r.length + 1 = s.size := by rw [← hl, hr]; simp
        refine Run.skip ?_
        refine Run.seq ?_
        refine Run.sr ?_
        refine RunL.as rfl rfl ?_
        refine RunL.nil ?_
        refine Run.block ?_
        refine Run.keep (.cons rfl (.cons rfl (.nil)) : Keep _ [0, 3] _) ?_
        refine Run.loopF (F := F) (fun n e A => ∃ (i : Nat), i ≤ r.length ∧ (∀ j c, j < i → r[j]? = some c → amK 2 c = true) ∧ n = r.length - i ∧ e = [(0, .string s), (3, .int .i64 ((i : Int) + 1))] ∧ A = F) (r.length) (by exact ⟨0, by omega, fun j c hj => by omega, rfl, rfl, rfl⟩) (by repeat (first | (with_reducible exact Fin.done (by repeat (first | (with_reducible exact Rest.here) | apply Rest.there))) | (apply Fin.cons (by first | ((repeat (first | (with_reducible exact F0 _) | apply F1)); done) | (repeat (first | exact F0 _ | apply F1)))))) ?_
        rintro n _ _ ⟨i, hi, hall, rfl, rfl, hA_⟩ ih
        replace hA_ := hA_.symm; subst hA_
        refine Run.seq ?_
        refine Run.sr ?_
        refine RunL.mv rfl rfl ?_
        refine RunL.mv rfl rfl ?_
        refine RunL.pure (Pure.lenStr rfl rfl und9) (Wt.none rfl) rfl rfl ?_
        refine RunL.pure (Pure.lss rfl rfl) (Wt.none rfl) rfl rfl ?_
        refine RunL.nil ?_
        refine Run.cond rfl (fun h1 => ?_) (fun h1 => ?_)
        · try simp only [ZA, ZB, ZC, ZD, ZE, ZF, ZG, ZH, ZI, ZJ, ZK, ZL, ZM, ZN, ZO, ZP, ZQ, ZR] at h1
          obtain ⟨c, hc⟩ := get_some (xs := r) (i := i) (by omega)
          have hc' : (bl s)[((i : Int) + 1).toNat]? = some c := by rw [show ((i : Int) + 1).toNat = i + 1 from by omega, hr]; exact hc
          refine Run.skip ?_
          refine Run.seq ?_
          refine Run.block ?_
          refine Run.sr ?_
          refine RunL.mv rfl rfl ?_
          refine RunL.mv rfl rfl ?_
          refine RunL.pure (Pure.indexStrC rfl rfl und9 hc' (by omega)) (Wt.none rfl) rfl rfl ?_
          refine RunL.call rfl rfl (by rfl) (by repeat (first | (with_reducible exact Take.nil _) | (apply Take.cons (by first | ((repeat (first | (with_reducible exact F0 _) | apply F1)); done) | (repeat (first | exact F0 _ | apply F1)))))) (low_ctr) (Wt.none rfl) rfl ?_
          rintro _ _ ⟨rfl, hA_⟩
          replace hA_ := hA_.symm; subst hA_
          refine RunL.as rfl rfl ?_
          refine RunL.nil ?_
          refine Run.sr ?_
          refine RunL.mv rfl rfl ?_
          refine RunL.mv rfl rfl ?_
          refine RunL.pure (Pure.indexStrC rfl rfl und9 hc' (by omega)) (Wt.none rfl) rfl rfl ?_
          refine RunL.pure (Pure.geq rfl rfl) (Wt.none rfl) rfl rfl ?_
          refine RunL.mv rfl rfl ?_
          refine RunL.split (d := 33) rfl (fun h4 => ?_) (fun h4 => ?_)
          · try simp only [ZA, ZB, ZC, ZD, ZE, ZF, ZG, ZH, ZI, ZJ, ZK, ZL, ZM, ZN, ZO, ZP, ZQ, ZR] at h4
            refine RunL.pure (Pure.move rfl) (Wt.yes rfl rfl rfl) rfl rfl ?_
            refine RunL.pure (Pure.move rfl) (Wt.yes rfl rfl rfl) rfl rfl ?_
            refine RunL.pure (Pure.indexStrC rfl rfl und9 hc' (by omega)) (Wt.yes rfl rfl rfl) rfl rfl ?_
            refine RunL.pure (Pure.leq rfl rfl) (Wt.yes rfl rfl rfl) rfl rfl ?_
            refine RunL.pure (Pure.pickT rfl rfl) (Wt.none rfl) rfl rfl ?_
            refine RunL.as rfl rfl ?_
            refine RunL.nil ?_
            refine Run.sr ?_
            refine RunL.mv rfl rfl ?_
            refine RunL.pure (Pure.not rfl) (Wt.none rfl) rfl rfl ?_
            refine RunL.mv rfl rfl ?_
            refine RunL.split (d := 41) rfl (fun hlow => ?_) (fun hlow => ?_)
            · try simp only [ZA, ZB, ZC, ZD, ZE, ZF, ZG, ZH, ZI, ZJ, ZK, ZL, ZM, ZN, ZO, ZP, ZQ, ZR] at hlow
              refine RunL.pure (Pure.move rfl) (Wt.yes rfl rfl rfl) rfl rfl ?_
              refine RunL.pure (Pure.not rfl) (Wt.yes rfl rfl rfl) rfl rfl ?_
              refine RunL.pure (Pure.pickT rfl rfl) (Wt.none rfl) rfl rfl ?_
              refine RunL.mv rfl rfl ?_
              refine RunL.split (d := 45) rfl (fun h5 => ?_) (fun h5 => ?_)
              · try simp only [ZA, ZB, ZC, ZD, ZE, ZF, ZG, ZH, ZI, ZJ, ZK, ZL, ZM, ZN, ZO, ZP, ZQ, ZR] at h5
                refine RunL.pure (Pure.move rfl) (Wt.yes rfl rfl rfl) rfl rfl ?_
                refine RunL.pure (Pure.move rfl) (Wt.yes rfl rfl rfl) rfl rfl ?_
                refine RunL.pure (Pure.indexStrC rfl rfl und9 hc' (by omega)) (Wt.yes rfl rfl rfl) rfl rfl ?_
                refine RunL.pure (Pure.neq rfl rfl) (Wt.yes rfl rfl rfl) rfl rfl ?_
                refine RunL.pure (Pure.pickT rfl rfl) (Wt.none rfl) rfl rfl ?_
                refine RunL.mv rfl rfl ?_
                refine RunL.split (d := 51) rfl (fun h6 => ?_) (fun h6 => ?_)
                · try simp only [ZA, ZB, ZC, ZD, ZE, ZF, ZG, ZH, ZI, ZJ, ZK, ZL, ZM, ZN, ZO, ZP, ZQ, ZR] at h6
                  refine RunL.pure (Pure.move rfl) (Wt.yes rfl rfl rfl) rfl rfl ?_
                  refine RunL.pure (Pure.move rfl) (Wt.yes rfl rfl rfl) rfl rfl ?_
                  refine RunL.pure (Pure.indexStrC rfl rfl und9 hc' (by omega)) (Wt.yes rfl rfl rfl) rfl rfl ?_
                  refine RunL.pure (Pure.neq rfl rfl) (Wt.yes rfl rfl rfl) rfl rfl ?_
                  refine RunL.pure (Pure.pickT rfl rfl) (Wt.none rfl) rfl rfl ?_
                  refine RunL.nil ?_
                  refine Run.cond rfl (fun h7 => ?_) (fun h7 => ?_)
                  · try simp only [ZA, ZB, ZC, ZD, ZE, ZF, ZG, ZH, ZI, ZJ, ZK, ZL, ZM, ZN, ZO, ZP, ZQ, ZR] at h7
                    refine Run.sr ?_
                    refine RunL.as rfl rfl ?_
                    refine RunL.nil ?_
                    exact Run.ret Tryz.func66 (res1 rfl rfl) (by exact ⟨by rw [hr]; rw [show eventB (36 :: r) = mayB 2 r from by simp [eventB], mayB_false hc (by rw [show amK 2 c = (lowB c || ((decide (65 ≤ c.toNat) && decide (c.toNat ≤ 90)) || (decide (c.toNat = 45) || decide (c.toNat = 95)))) from rfl]; simp [hlow]; omega)], rfl⟩) (by repeat (first | (with_reducible exact Fin.done (by repeat (first | (with_reducible exact Rest.here) | apply Rest.there))) | (apply Fin.cons (by first | ((repeat (first | (with_reducible exact F0 _) | apply F1)); done) | (repeat (first | exact F0 _ | apply F1))))))
                  · try simp only [ZA, ZB, ZC, ZD, ZE, ZF, ZG, ZH, ZI, ZJ, ZK, ZL, ZM, ZN, ZO, ZP, ZQ, ZR] at h7
                    refine Run.skip ?_
                    refine Run.inBlock ?_
                    refine Run.region ?_
                    refine RunL.mv rfl rfl ?_
                    first | refine RunL.pure (Pure.addI rfl rfl (by omega)) (Wt.none rfl) rfl rfl ?_ | refine RunL.pure (Pure.add rfl rfl) (Wt.none rfl) rfl rfl ?_
                    refine RunL.as rfl rfl ?_
                    refine RunL.nil ?_
                    rw [show (i : Int) + 1 + 1 = ((i + 1 : Nat) : Int) + 1 from by omega]
                    refine Run.keep (.cons rfl (.cons rfl (.nil)) : Keep _ [0, 3] _) ?_
                    refine Run.againF (F := F) ih (by exact ⟨i + 1, by omega, lt_succ_of hall hc (by rw [show amK 2 c = (lowB c || ((decide (65 ≤ c.toNat) && decide (c.toNat ≤ 90)) || (decide (c.toNat = 45) || decide (c.toNat = 95)))) from rfl]; simp [hlow]; (try omega)), rfl, rfl, rfl⟩) (by repeat (first | (with_reducible exact Fin.done (by repeat (first | (with_reducible exact Rest.here) | apply Rest.there))) | (apply Fin.cons (by first | ((repeat (first | (with_reducible exact F0 _) | apply F1)); done) | (repeat (first | exact F0 _ | apply F1)))))) ?_
                    omega
                · try simp only [ZA, ZB, ZC, ZD, ZE, ZF, ZG, ZH, ZI, ZJ, ZK, ZL, ZM, ZN, ZO, ZP, ZQ, ZR] at h6
                  refine RunL.not (Wt.no rfl rfl rfl) rfl rfl ?_
                  refine RunL.not (Wt.no rfl rfl rfl) rfl rfl ?_
                  refine RunL.not (Wt.no rfl rfl rfl) rfl rfl ?_
                  refine RunL.not (Wt.no rfl rfl rfl) rfl rfl ?_
                  refine RunL.pure (Pure.pickF rfl rfl) (Wt.none rfl) rfl rfl ?_
                  refine RunL.nil ?_
                  refine Run.condF rfl ?_
                  refine Run.skip ?_
                  refine Run.inBlock ?_
                  refine Run.region ?_
                  refine RunL.mv rfl rfl ?_
                  first | refine RunL.pure (Pure.addI rfl rfl (by omega)) (Wt.none rfl) rfl rfl ?_ | refine RunL.pure (Pure.add rfl rfl) (Wt.none rfl) rfl rfl ?_
                  refine RunL.as rfl rfl ?_
                  refine RunL.nil ?_
                  rw [show (i : Int) + 1 + 1 = ((i + 1 : Nat) : Int) + 1 from by omega]
                  refine Run.keep (.cons rfl (.cons rfl (.nil)) : Keep _ [0, 3] _) ?_
                  refine Run.againF (F := F) ih (by exact ⟨i + 1, by omega, lt_succ_of hall hc (by rw [show amK 2 c = (lowB c || ((decide (65 ≤ c.toNat) && decide (c.toNat ≤ 90)) || (decide (c.toNat = 45) || decide (c.toNat = 95)))) from rfl]; simp [hlow]; (try omega)), rfl, rfl, rfl⟩) (by repeat (first | (with_reducible exact Fin.done (by repeat (first | (with_reducible exact Rest.here) | apply Rest.there))) | (apply Fin.cons (by first | ((repeat (first | (with_reducible exact F0 _) | apply F1)); done) | (repeat (first | exact F0 _ | apply F1)))))) ?_
                  omega
              · try simp only [ZA, ZB, ZC, ZD, ZE, ZF, ZG, ZH, ZI, ZJ, ZK, ZL, ZM, ZN, ZO, ZP, ZQ, ZR] at h5
                refine RunL.not (Wt.no rfl rfl rfl) rfl rfl ?_
                refine RunL.not (Wt.no rfl rfl rfl) rfl rfl ?_
                refine RunL.not (Wt.no rfl rfl rfl) rfl rfl ?_
                refine RunL.not (Wt.no rfl rfl rfl) rfl rfl ?_
                refine RunL.pure (Pure.pickF rfl rfl) (Wt.none rfl) rfl rfl ?_
                refine RunL.mv rfl rfl ?_
                refine RunL.not (Wt.no rfl rfl rfl) rfl rfl ?_
                refine RunL.not (Wt.no rfl rfl rfl) rfl rfl ?_
                refine RunL.not (Wt.no rfl rfl rfl) rfl rfl ?_
                refine RunL.not (Wt.no rfl rfl rfl) rfl rfl ?_
                refine RunL.pure (Pure.pickF rfl rfl) (Wt.none rfl) rfl rfl ?_
                refine RunL.nil ?_
                refine Run.condF rfl ?_
                refine Run.skip ?_
                refine Run.inBlock ?_
                refine Run.region ?_
                refine RunL.mv rfl rfl ?_
                first | refine RunL.pure (Pure.addI rfl rfl (by omega)) (Wt.none rfl) rfl rfl ?_ | refine RunL.pure (Pure.add rfl rfl) (Wt.none rfl) rfl rfl ?_
                refine RunL.as rfl rfl ?_
                refine RunL.nil ?_
                rw [show (i : Int) + 1 + 1 = ((i + 1 : Nat) : Int) + 1 from by omega]
                refine Run.keep (.cons rfl (.cons rfl (.nil)) : Keep _ [0, 3] _) ?_
                refine Run.againF (F := F) ih (by exact ⟨i + 1, by omega, lt_succ_of hall hc (by rw [show amK 2 c = (lowB c || ((decide (65 ≤ c.toNat) && decide (c.toNat ≤ 90)) || (decide (c.toNat = 45) || decide (c.toNat = 95)))) from rfl]; simp [hlow]; (try omega)), rfl, rfl, rfl⟩) (by repeat (first | (with_reducible exact Fin.done (by repeat (first | (with_reducible exact Rest.here) | apply Rest.there))) | (apply Fin.cons (by first | ((repeat (first | (with_reducible exact F0 _) | apply F1)); done) | (repeat (first | exact F0 _ | apply F1)))))) ?_
                omega
            · try simp only [ZA, ZB, ZC, ZD, ZE, ZF, ZG, ZH, ZI, ZJ, ZK, ZL, ZM, ZN, ZO, ZP, ZQ, ZR] at hlow
              refine RunL.not (Wt.no rfl rfl rfl) rfl rfl ?_
              refine RunL.not (Wt.no rfl rfl rfl) rfl rfl ?_
              refine RunL.pure (Pure.pickF rfl rfl) (Wt.none rfl) rfl rfl ?_
              refine RunL.mv rfl rfl ?_
              refine RunL.not (Wt.no rfl rfl rfl) rfl rfl ?_
              refine RunL.not (Wt.no rfl rfl rfl) rfl rfl ?_
              refine RunL.not (Wt.no rfl rfl rfl) rfl rfl ?_
              refine RunL.not (Wt.no rfl rfl rfl) rfl rfl ?_
              refine RunL.pure (Pure.pickF rfl rfl) (Wt.none rfl) rfl rfl ?_
              refine RunL.mv rfl rfl ?_
              refine RunL.not (Wt.no rfl rfl rfl) rfl rfl ?_
              refine RunL.not (Wt.no rfl rfl rfl) rfl rfl ?_
              refine RunL.not (Wt.no rfl rfl rfl) rfl rfl ?_
              refine RunL.not (Wt.no rfl rfl rfl) rfl rfl ?_
              refine RunL.pure (Pure.pickF rfl rfl) (Wt.none rfl) rfl rfl ?_
              refine RunL.nil ?_
              refine Run.condF rfl ?_
              refine Run.skip ?_
              refine Run.inBlock ?_
              refine Run.region ?_
              refine RunL.mv rfl rfl ?_
              first | refine RunL.pure (Pure.addI rfl rfl (by omega)) (Wt.none rfl) rfl rfl ?_ | refine RunL.pure (Pure.add rfl rfl) (Wt.none rfl) rfl rfl ?_
              refine RunL.as rfl rfl ?_
              refine RunL.nil ?_
              rw [show (i : Int) + 1 + 1 = ((i + 1 : Nat) : Int) + 1 from by omega]
              refine Run.keep (.cons rfl (.cons rfl (.nil)) : Keep _ [0, 3] _) ?_
              refine Run.againF (F := F) ih (by exact ⟨i + 1, by omega, lt_succ_of hall hc (by rw [show amK 2 c = (lowB c || ((decide (65 ≤ c.toNat) && decide (c.toNat ≤ 90)) || (decide (c.toNat = 45) || decide (c.toNat = 95)))) from rfl]; simp [hlow]; (try omega)), rfl, rfl, rfl⟩) (by repeat (first | (with_reducible exact Fin.done (by repeat (first | (with_reducible exact Rest.here) | apply Rest.there))) | (apply Fin.cons (by first | ((repeat (first | (with_reducible exact F0 _) | apply F1)); done) | (repeat (first | exact F0 _ | apply F1)))))) ?_
              omega
          · try simp only [ZA, ZB, ZC, ZD, ZE, ZF, ZG, ZH, ZI, ZJ, ZK, ZL, ZM, ZN, ZO, ZP, ZQ, ZR] at h4
            refine RunL.not (Wt.no rfl rfl rfl) rfl rfl ?_
            refine RunL.not (Wt.no rfl rfl rfl) rfl rfl ?_
            refine RunL.not (Wt.no rfl rfl rfl) rfl rfl ?_
            refine RunL.not (Wt.no rfl rfl rfl) rfl rfl ?_
            refine RunL.pure (Pure.pickF rfl rfl) (Wt.none rfl) rfl rfl ?_
            refine RunL.as rfl rfl ?_
            refine RunL.nil ?_
            refine Run.sr ?_
            refine RunL.mv rfl rfl ?_
            refine RunL.pure (Pure.not rfl) (Wt.none rfl) rfl rfl ?_
            refine RunL.mv rfl rfl ?_
            refine RunL.split (d := 41) rfl (fun hlow => ?_) (fun hlow => ?_)
            · try simp only [ZA, ZB, ZC, ZD, ZE, ZF, ZG, ZH, ZI, ZJ, ZK, ZL, ZM, ZN, ZO, ZP, ZQ, ZR] at hlow
              refine RunL.pure (Pure.move rfl) (Wt.yes rfl rfl rfl) rfl rfl ?_
              refine RunL.pure (Pure.not rfl) (Wt.yes rfl rfl rfl) rfl rfl ?_
              refine RunL.pure (Pure.pickT rfl rfl) (Wt.none rfl) rfl rfl ?_
              refine RunL.mv rfl rfl ?_
              refine RunL.pure (Pure.move rfl) (Wt.yes rfl rfl rfl) rfl rfl ?_
              refine RunL.pure (Pure.move rfl) (Wt.yes rfl rfl rfl) rfl rfl ?_
              refine RunL.pure (Pure.indexStrC rfl rfl und9 hc' (by omega)) (Wt.yes rfl rfl rfl) rfl rfl ?_
              refine RunL.pure (Pure.neq rfl rfl) (Wt.yes rfl rfl rfl) rfl rfl ?_
              refine RunL.pure (Pure.pickT rfl rfl) (Wt.none rfl) rfl rfl ?_
              refine RunL.mv rfl rfl ?_
              refine RunL.split (d := 51) rfl (fun h6 => ?_) (fun h6 => ?_)
              · try simp only [ZA, ZB, ZC, ZD, ZE, ZF, ZG, ZH, ZI, ZJ, ZK, ZL, ZM, ZN, ZO, ZP, ZQ, ZR] at h6
                refine RunL.pure (Pure.move rfl) (Wt.yes rfl rfl rfl) rfl rfl ?_
                refine RunL.pure (Pure.move rfl) (Wt.yes rfl rfl rfl) rfl rfl ?_
                refine RunL.pure (Pure.indexStrC rfl rfl und9 hc' (by omega)) (Wt.yes rfl rfl rfl) rfl rfl ?_
                refine RunL.pure (Pure.neq rfl rfl) (Wt.yes rfl rfl rfl) rfl rfl ?_
                refine RunL.pure (Pure.pickT rfl rfl) (Wt.none rfl) rfl rfl ?_
                refine RunL.nil ?_
                refine Run.cond rfl (fun h7 => ?_) (fun h7 => ?_)
                · try simp only [ZA, ZB, ZC, ZD, ZE, ZF, ZG, ZH, ZI, ZJ, ZK, ZL, ZM, ZN, ZO, ZP, ZQ, ZR] at h7
                  refine Run.sr ?_
                  refine RunL.as rfl rfl ?_
                  refine RunL.nil ?_
                  exact Run.ret Tryz.func66 (res1 rfl rfl) (by exact ⟨by rw [hr]; rw [show eventB (36 :: r) = mayB 2 r from by simp [eventB], mayB_false hc (by rw [show amK 2 c = (lowB c || ((decide (65 ≤ c.toNat) && decide (c.toNat ≤ 90)) || (decide (c.toNat = 45) || decide (c.toNat = 95)))) from rfl]; simp [hlow]; omega)], rfl⟩) (by repeat (first | (with_reducible exact Fin.done (by repeat (first | (with_reducible exact Rest.here) | apply Rest.there))) | (apply Fin.cons (by first | ((repeat (first | (with_reducible exact F0 _) | apply F1)); done) | (repeat (first | exact F0 _ | apply F1))))))
                · try simp only [ZA, ZB, ZC, ZD, ZE, ZF, ZG, ZH, ZI, ZJ, ZK, ZL, ZM, ZN, ZO, ZP, ZQ, ZR] at h7
                  refine Run.skip ?_
                  refine Run.inBlock ?_
                  refine Run.region ?_
                  refine RunL.mv rfl rfl ?_
                  first | refine RunL.pure (Pure.addI rfl rfl (by omega)) (Wt.none rfl) rfl rfl ?_ | refine RunL.pure (Pure.add rfl rfl) (Wt.none rfl) rfl rfl ?_
                  refine RunL.as rfl rfl ?_
                  refine RunL.nil ?_
                  rw [show (i : Int) + 1 + 1 = ((i + 1 : Nat) : Int) + 1 from by omega]
                  refine Run.keep (.cons rfl (.cons rfl (.nil)) : Keep _ [0, 3] _) ?_
                  refine Run.againF (F := F) ih (by exact ⟨i + 1, by omega, lt_succ_of hall hc (by rw [show amK 2 c = (lowB c || ((decide (65 ≤ c.toNat) && decide (c.toNat ≤ 90)) || (decide (c.toNat = 45) || decide (c.toNat = 95)))) from rfl]; simp [hlow]; (try omega)), rfl, rfl, rfl⟩) (by repeat (first | (with_reducible exact Fin.done (by repeat (first | (with_reducible exact Rest.here) | apply Rest.there))) | (apply Fin.cons (by first | ((repeat (first | (with_reducible exact F0 _) | apply F1)); done) | (repeat (first | exact F0 _ | apply F1)))))) ?_
                  omega
              · try simp only [ZA, ZB, ZC, ZD, ZE, ZF, ZG, ZH, ZI, ZJ, ZK, ZL, ZM, ZN, ZO, ZP, ZQ, ZR] at h6
                refine RunL.not (Wt.no rfl rfl rfl) rfl rfl ?_
                refine RunL.not (Wt.no rfl rfl rfl) rfl rfl ?_
                refine RunL.not (Wt.no rfl rfl rfl) rfl rfl ?_
                refine RunL.not (Wt.no rfl rfl rfl) rfl rfl ?_
                refine RunL.pure (Pure.pickF rfl rfl) (Wt.none rfl) rfl rfl ?_
                refine RunL.nil ?_
                refine Run.condF rfl ?_
                refine Run.skip ?_
                refine Run.inBlock ?_
                refine Run.region ?_
                refine RunL.mv rfl rfl ?_
                first | refine RunL.pure (Pure.addI rfl rfl (by omega)) (Wt.none rfl) rfl rfl ?_ | refine RunL.pure (Pure.add rfl rfl) (Wt.none rfl) rfl rfl ?_
                refine RunL.as rfl rfl ?_
                refine RunL.nil ?_
                rw [show (i : Int) + 1 + 1 = ((i + 1 : Nat) : Int) + 1 from by omega]
                refine Run.keep (.cons rfl (.cons rfl (.nil)) : Keep _ [0, 3] _) ?_
                refine Run.againF (F := F) ih (by exact ⟨i + 1, by omega, lt_succ_of hall hc (by rw [show amK 2 c = (lowB c || ((decide (65 ≤ c.toNat) && decide (c.toNat ≤ 90)) || (decide (c.toNat = 45) || decide (c.toNat = 95)))) from rfl]; simp [hlow]; (try omega)), rfl, rfl, rfl⟩) (by repeat (first | (with_reducible exact Fin.done (by repeat (first | (with_reducible exact Rest.here) | apply Rest.there))) | (apply Fin.cons (by first | ((repeat (first | (with_reducible exact F0 _) | apply F1)); done) | (repeat (first | exact F0 _ | apply F1)))))) ?_
                omega
            · try simp only [ZA, ZB, ZC, ZD, ZE, ZF, ZG, ZH, ZI, ZJ, ZK, ZL, ZM, ZN, ZO, ZP, ZQ, ZR] at hlow
              refine RunL.not (Wt.no rfl rfl rfl) rfl rfl ?_
              refine RunL.not (Wt.no rfl rfl rfl) rfl rfl ?_
              refine RunL.pure (Pure.pickF rfl rfl) (Wt.none rfl) rfl rfl ?_
              refine RunL.mv rfl rfl ?_
              refine RunL.not (Wt.no rfl rfl rfl) rfl rfl ?_
              refine RunL.not (Wt.no rfl rfl rfl) rfl rfl ?_
              refine RunL.not (Wt.no rfl rfl rfl) rfl rfl ?_
              refine RunL.not (Wt.no rfl rfl rfl) rfl rfl ?_
              refine RunL.pure (Pure.pickF rfl rfl) (Wt.none rfl) rfl rfl ?_
              refine RunL.mv rfl rfl ?_
              refine RunL.not (Wt.no rfl rfl rfl) rfl rfl ?_
              refine RunL.not (Wt.no rfl rfl rfl) rfl rfl ?_
              refine RunL.not (Wt.no rfl rfl rfl) rfl rfl ?_
              refine RunL.not (Wt.no rfl rfl rfl) rfl rfl ?_
              refine RunL.pure (Pure.pickF rfl rfl) (Wt.none rfl) rfl rfl ?_
              refine RunL.nil ?_
              refine Run.condF rfl ?_
              refine Run.skip ?_
              refine Run.inBlock ?_
              refine Run.region ?_
              refine RunL.mv rfl rfl ?_
              first | refine RunL.pure (Pure.addI rfl rfl (by omega)) (Wt.none rfl) rfl rfl ?_ | refine RunL.pure (Pure.add rfl rfl) (Wt.none rfl) rfl rfl ?_
              refine RunL.as rfl rfl ?_
              refine RunL.nil ?_
              rw [show (i : Int) + 1 + 1 = ((i + 1 : Nat) : Int) + 1 from by omega]
              refine Run.keep (.cons rfl (.cons rfl (.nil)) : Keep _ [0, 3] _) ?_
              refine Run.againF (F := F) ih (by exact ⟨i + 1, by omega, lt_succ_of hall hc (by rw [show amK 2 c = (lowB c || ((decide (65 ≤ c.toNat) && decide (c.toNat ≤ 90)) || (decide (c.toNat = 45) || decide (c.toNat = 95)))) from rfl]; simp [hlow]; (try omega)), rfl, rfl, rfl⟩) (by repeat (first | (with_reducible exact Fin.done (by repeat (first | (with_reducible exact Rest.here) | apply Rest.there))) | (apply Fin.cons (by first | ((repeat (first | (with_reducible exact F0 _) | apply F1)); done) | (repeat (first | exact F0 _ | apply F1)))))) ?_
              omega
        · try simp only [ZA, ZB, ZC, ZD, ZE, ZF, ZG, ZH, ZI, ZJ, ZK, ZL, ZM, ZN, ZO, ZP, ZQ, ZR] at h1
          refine Run.exit rfl ?_
          refine Run.sr ?_
          refine RunL.as rfl rfl ?_
          refine RunL.nil ?_
          exact Run.ret Tryz.func66 (res1 rfl rfl) (by exact ⟨by rw [hr, show eventB (36 :: r) = mayB 2 r from by simp [eventB], part_true hall (by omega), decide_eq_true (by omega), decide_eq_true (by omega)]; rfl, rfl⟩) (by repeat (first | (with_reducible exact Fin.done (by repeat (first | (with_reducible exact Rest.here) | apply Rest.there))) | (apply Fin.cons (by first | ((repeat (first | (with_reducible exact F0 _) | apply F1)); done) | (repeat (first | exact F0 _ | apply F1))))))

end Go.Proofs.YtcmkafellcfbeaaGreat
