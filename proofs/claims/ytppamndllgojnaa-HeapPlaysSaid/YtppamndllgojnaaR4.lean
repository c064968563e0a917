/- What is done, and what is there. -/
import Derived.Test.YtppamndllgojnaaR3
set_option linter.unusedVariables false
set_option linter.unusedSimpArgs false
set_option linter.unusedSectionVars false
namespace Go.Proofs.Ytppamndllgojnaa
open Go Csl


namespace Csl
theorem okFew {o : OO} (h : okOO o) : okOO (fewO o) := ⟨h.1, h.2.1, by have := cut_size o.key 4; simp only [fewO]; omega⟩
end Csl

set_option maxHeartbeats 8000000 in
set_option maxRecDepth 100000 in
theorem HeapPlays_ctr {G : Gp} {a : Option Addr} {l : List OO} {cap : Nat} (h : SlR G 31 3 a l.length (l.flatMap cOO)) (hok : ∀ o ∈ l, okOO o) (hb : l.length ≤ 9223372036854775807) :
    Ctr Try.prog G 6 [.slice a l.length cap] [] (fun F v A => v = .bool true ∧ A = F) := by
  refine Ctr.intro Try.func6 rfl (by kernel_rfl) rfl (fun F => ?_)
  simp only [List.nil_append]
  refine Run.sr ?_
  refine RunL.as rfl rfl ?_
  refine RunL.nil ?_
  refine Run.sr ?_
  refine RunL.call rfl rfl (by rfl) (by repeat (first | (with_reducible exact Take.nil _) | (apply Take.cons (by first | ((repeat (first | (with_reducible exact F0 _) | apply F1)); done) | (repeat (first | exact F0 _ | apply F1)))))) (HNew_ctr) (Wt.none rfl) rfl ?_
  rintro _ _ ⟨p, rfl, hA_⟩
  replace hA_ := hA_.symm; subst hA_
  refine RunL.as rfl rfl ?_
  refine RunL.nil ?_
  refine Run.seq ?_
  refine Run.sr ?_
  refine RunL.mv rfl rfl ?_
  refine RunL.pure (Pure.ptrEqNil rfl rfl und24) (Wt.none rfl) rfl rfl ?_
  refine RunL.nil ?_
  refine Run.condF rfl ?_
  refine Run.skip ?_
  refine Run.sr ?_
  refine RunL.pure (Pure.buildL (ps := []) (zs := [(.slice none 0 0)]) (xs := [_]) pl29 rfl rfl rfl rfl) (Wt.none rfl) rfl rfl ?_
  refine RunL.box rfl (Wt.none rfl) rfl ?_; intro b13
  refine RunL.as rfl rfl ?_
  refine RunL.nil ?_
  refine Run.nilSl 36 2 ?_
  refine Run.mkR (q := b13) (a := none) (cap := 0) (n := 0) (cs := []) [] (by repeat (first | (with_reducible exact Take.nil _) | (apply Take.cons (by first | ((repeat (first | (with_reducible exact F0 _) | apply F1)); done) | (repeat (first | exact F0 _ | apply F1)))))) rfl rfl ?_
  refine Run.seq ?_
  refine Run.sr ?_
  refine RunL.as rfl rfl ?_
  refine RunL.nil ?_
  refine Run.block ?_
  refine Run.keep (.cons rfl (.cons rfl (.cons rfl (.cons rfl (.nil)))) : Keep _ [0, 3, 4, 5] _) ?_
  refine Run.loopF (F := F) (fun n e A => ∃ (i : Nat) (tl : List (ByteArray × Int)), i ≤ 24 ∧ KN tl ∧ tl.length ≤ i ∧ n = 24 - i ∧ e = [(0, .slice a l.length cap), (3, .pointer (some ⟨p, 0, none⟩)), (4, .pointer (some ⟨b13, 0, none⟩)), (5, .int .i64 (i : Nat))] ∧ A = Hq p tl :: RH b13 tl :: F) (24) (by exact ⟨0, [], by omega, List.nodup_nil, by simp, rfl, rfl, rfl⟩) (by repeat (first | (with_reducible exact Fin.done (by repeat (first | (with_reducible exact Rest.here) | apply Rest.there))) | (apply Fin.cons (by first | ((repeat (first | (with_reducible exact F0 _) | apply F1)); done) | (repeat (first | exact F0 _ | apply F1)))))) ?_
  rintro n _ _ ⟨i, tl, hi, hkn, hln, rfl, rfl, hA_⟩ ih
  replace hA_ := hA_.symm; subst hA_
  refine Run.seq ?_
  refine Run.sr ?_
  refine RunL.mv rfl rfl ?_
  refine RunL.mv rfl rfl ?_
  refine RunL.pure (Pure.lenSl rfl rfl und22) (Wt.none rfl) rfl rfl ?_
  refine RunL.pure (Pure.lss rfl rfl) (Wt.none rfl) rfl rfl ?_
  refine RunL.mv rfl rfl ?_
  refine RunL.split (d := 18) rfl (fun h1 => ?_) (fun h1 => ?_)
  · try simp only [ZA, ZB, ZC, ZD, ZE, ZF, ZG, ZH, ZI, ZJ, ZK, ZL, ZM, ZN, ZO, ZP, ZQ, ZR] at h1
    refine RunL.pure (Pure.move rfl) (Wt.yes rfl rfl rfl) rfl rfl ?_
    refine RunL.pure (Pure.lss rfl rfl) (Wt.yes rfl rfl rfl) rfl rfl ?_
    refine RunL.pure (Pure.pickT rfl rfl) (Wt.none rfl) rfl rfl ?_
    refine RunL.nil ?_
    refine Run.cond rfl (fun h2 => ?_) (fun h2 => ?_)
    · try simp only [ZA, ZB, ZC, ZD, ZE, ZF, ZG, ZH, ZI, ZJ, ZK, ZL, ZM, ZN, ZO, ZP, ZQ, ZR] at h2
      obtain ⟨b, T', pre, post, rfl, hro⟩ := h.open1 (show 0 < l.length by omega)
      obtain ⟨o, ho⟩ := get_some (xs := l) (i := i) (by omega)
      have hoo := hok o (List.mem_of_getElem? ho)
      have hof := okFew hoo
      obtain ⟨hk2, hl2⟩ := doT_ok hkn (fewO o)
      have htd : (toldT tl (fewO o)).length ≤ 1000000 := by
        unfold toldT; split
        · unfold dueK; rw [List.length_map]; have := (List.takeWhile_sublist (overT (fewO o).tick) (l := EL tl)).length_le; rw [EL_len] at this; omega
        · simp
      refine Run.skip ?_
      refine Run.seq ?_
      refine Run.block ?_
      refine Run.sr ?_
      refine RunL.mv rfl rfl ?_
      refine RunL.mv rfl rfl ?_
      refine RunL.pure (Pure.indexAddr rfl rfl und22 sz31 (by omega) (by omega)) (Wt.none rfl) rfl rfl ?_
      refine RunL.loadNR (vs := (cOO o)) rfl hro agg31 sz31 (elemN_len (f := cOO) (sz := 3) (j := 0) (n := 3) (fun _ _ => rfl) ho (by decide)) ((elemN_at (f := cOO) (sz := 3) (j := 0) (n := 3) (fun _ _ => rfl) ho (by decide)).trans rfl) (Wt.none rfl) rfl ?_
      refine RunL.call rfl rfl (by rfl) (by repeat (first | (with_reducible exact Take.nil _) | (apply Take.cons (by first | ((repeat (first | (with_reducible exact F0 _) | apply F1)); done) | (repeat (first | exact F0 _ | apply F1)))))) (few_ctr) (Wt.none rfl) rfl ?_
      rintro _ _ ⟨rfl, hA_⟩
      replace hA_ := hA_.symm; subst hA_
      refine RunL.alloc zz31 (Wt.none rfl) rfl ?_; intro b6
      refine RunL.storeW (xs := (cOO ((fewO o)))) rfl rfl (by first | ((repeat (first | (with_reducible exact F0 _) | apply F1)); done) | (repeat (first | exact F0 _ | apply F1))) sz31 (by rfl) (by rfl) (by rfl) (Wt.none rfl) ?_
      refine RunL.nil ?_
      refine Run.sr ?_
      refine RunL.mv rfl rfl ?_
      first | refine RunL.loadA (vs := (cOO ((fewO o)))) rfl (by first | ((repeat (first | (with_reducible exact F0 _) | apply F1)); done) | (repeat (first | exact F0 _ | apply F1))) agg31 sz31 (by first | exact Nat.le_of_ble_eq_true rfl | (simp; done) | (simp; omega)) rfl (Wt.none rfl) rfl ?_ | refine RunL.loadNR (vs := (cOO ((fewO o)))) rfl (by assumption) agg31 sz31 (by first | exact Nat.le_of_ble_eq_true rfl | (simp; done) | (simp; omega)) rfl (Wt.none rfl) rfl ?_
      refine RunL.call rfl rfl (by rfl) (by repeat (first | (with_reducible exact Take.nil _) | (apply Take.cons (by first | ((repeat (first | (with_reducible exact F0 _) | apply F1)); done) | (repeat (first | exact F0 _ | apply F1)))))) (do_ctr hof hkn (by omega)) (Wt.none rfl) rfl ?_
      rintro _ _ ⟨ad, cd, rfl, hA_⟩
      replace hA_ := hA_.symm; subst hA_
      refine RunL.as rfl rfl ?_
      refine RunL.nil ?_
      refine Run.sr ?_
      refine RunL.mv rfl rfl ?_
      first | refine RunL.loadA (vs := (cOO ((fewO o)))) rfl (by first | ((repeat (first | (with_reducible exact F0 _) | apply F1)); done) | (repeat (first | exact F0 _ | apply F1))) agg31 sz31 (by first | exact Nat.le_of_ble_eq_true rfl | (simp; done) | (simp; omega)) rfl (Wt.none rfl) rfl ?_ | refine RunL.loadNR (vs := (cOO ((fewO o)))) rfl (by assumption) agg31 sz31 (by first | exact Nat.le_of_ble_eq_true rfl | (simp; done) | (simp; omega)) rfl (Wt.none rfl) rfl ?_
      refine RunL.call rfl rfl (by rfl) (by repeat (first | (with_reducible exact Take.nil _) | (apply Take.cons (by first | ((repeat (first | (with_reducible exact F0 _) | apply F1)); done) | (repeat (first | exact F0 _ | apply F1)))))) (rDo_ctr hof hkn (by omega)) (Wt.none rfl) rfl ?_
      rintro _ _ ⟨ad2, cd2, rfl, hA_⟩
      replace hA_ := hA_.symm; subst hA_
      refine RunL.as rfl rfl ?_
      refine RunL.nil ?_
      refine Run.openR (q := b13) (by first | ((repeat (first | (with_reducible exact F0 _) | apply F1)); done) | (repeat (first | exact F0 _ | apply F1))) ?_; intro ar capr
      refine Run.seq ?_
      refine Run.regionD' (by kernel_rfl) (by kernel_rfl) (fun hok88 => ?_)
      refine RunD.lend (Q := row b13 29 _) Lends.row (by first | ((repeat (first | (with_reducible exact F0 _) | apply F1)); done) | (repeat (first | exact F0 _ | apply F1))) ?_; intro g1 hleg1 hg1 backg1
      have h_g1 := h.mono hleg1
      refine RunD.pure (i := 0) hok88 rfl (by kernel_rfl) (Pure.move rfl) (Wt.none rfl) rfl rfl ?_
      refine RunD.pure (i := 1) hok88 rfl (by kernel_rfl) (Pure.move rfl) (Wt.none rfl) rfl rfl ?_
      refine RunD.one (i := 2) (by kernel_rfl) rfl ?_
      refine RunL.call rfl rfl (by rfl) (by repeat (first | (with_reducible exact Take.nil _) | (apply Take.cons (by first | ((repeat (first | (with_reducible exact F0 _) | apply F1)); done) | (repeat (first | exact F0 _ | apply F1)))))) (SameTexts_ctr (by omega)) (Wt.none rfl) rfl ?_
      rintro _ _ ⟨rfl, hA_⟩
      replace hA_ := hA_.symm; subst hA_
      refine RunL.nilD' ?_
      refine RunD.pure (i := 3) hok88 rfl (by kernel_rfl) (Pure.not rfl) (Wt.none rfl) rfl rfl ?_
      refine RunD.pure (i := 4) hok88 rfl (by kernel_rfl) (Pure.move rfl) (Wt.none rfl) rfl rfl ?_
      refine RunD.split (d := 39) rfl (fun hg1 => ?_) (fun hg1 => ?_)
      · try simp only [ZA, ZB, ZC, ZD, ZE, ZF, ZG, ZH, ZI, ZJ, ZK, ZL, ZM, ZN, ZO, ZP, ZQ, ZR] at hg1
        exfalso
        first | exact hg1 rfl | exact hg1 trivial | (simp at hg1; done)
      try simp only [ZA, ZB, ZC, ZD, ZE, ZF, ZG, ZH, ZI, ZJ, ZK, ZL, ZM, ZN, ZO, ZP, ZQ, ZR] at hg1
      refine RunD.pure (i := 5) hok88 rfl (by kernel_rfl) (Pure.move rfl) (Wt.yes rfl rfl rfl) rfl rfl ?_
      refine RunD.pure (i := 7) hok88 rfl (by kernel_rfl) (Pure.move rfl) (Wt.yes rfl rfl rfl) rfl rfl ?_
      refine RunD.pure (i := 8) hok88 rfl (by kernel_rfl) (Pure.nilCheck rfl) (Wt.yes rfl rfl rfl) rfl rfl ?_
      refine RunD.pure (i := 9) hok88 rfl (by kernel_rfl) (Pure.fieldAddr rfl fo29_0) (Wt.yes rfl rfl rfl) rfl rfl ?_
      refine RunD.load1R (i := 10) hok88 rfl (by kernel_rfl) rfl (by assumption) (by rfl) agg27 (Wt.yes rfl rfl rfl) rfl ?_
      refine RunD.one (i := 6) (by kernel_rfl) rfl ?_
      refine RunL.call rfl rfl (by rfl) (by repeat (first | (with_reducible exact Take.nil _) | (apply Take.cons (by first | ((repeat (first | (with_reducible exact F0 _) | apply F1)); done) | (repeat (first | exact F0 _ | apply F1)))))) (HAll_ctr (by omega)) (Wt.yes rfl rfl rfl) rfl ?_
      rintro _ _ ⟨za, zc, rfl, hA_⟩
      replace hA_ := hA_.symm; subst hA_
      refine RunL.nilD' ?_
      refine RunD.one (i := 11) (by kernel_rfl) rfl ?_
      refine RunL.call rfl rfl (by rfl) (by repeat (first | (with_reducible exact Take.nil _) | (apply Take.cons (by first | ((repeat (first | (with_reducible exact F0 _) | apply F1)); done) | (repeat (first | exact F0 _ | apply F1)))))) (sameO_ctr (by rw [EL_len]; omega)) (Wt.yes rfl rfl rfl) rfl ?_
      rintro _ _ ⟨rfl, hA_⟩
      replace hA_ := hA_.symm; subst hA_
      refine RunL.nilD' ?_
      refine RunD.pure (i := 12) hok88 rfl (by kernel_rfl) (Pure.not rfl) (Wt.yes rfl rfl rfl) rfl rfl ?_
      refine RunD.pure (i := 13) hok88 rfl (by kernel_rfl) (Pure.pickF rfl rfl) (Wt.none rfl) rfl rfl ?_
      refine RunD.pure (i := 14) hok88 rfl (by kernel_rfl) (Pure.move rfl) (Wt.none rfl) rfl rfl ?_
      refine RunD.split (d := 49) rfl (fun hg2 => ?_) (fun hg2 => ?_)
      · try simp only [ZA, ZB, ZC, ZD, ZE, ZF, ZG, ZH, ZI, ZJ, ZK, ZL, ZM, ZN, ZO, ZP, ZQ, ZR] at hg2
        exfalso
        first | exact hg2 rfl | exact hg2 trivial | (simp at hg2; done)
      try simp only [ZA, ZB, ZC, ZD, ZE, ZF, ZG, ZH, ZI, ZJ, ZK, ZL, ZM, ZN, ZO, ZP, ZQ, ZR] at hg2
      refine RunD.pure (i := 15) hok88 rfl (by kernel_rfl) (Pure.move rfl) (Wt.yes rfl rfl rfl) rfl rfl ?_
      refine RunD.pure (i := 17) hok88 rfl (by kernel_rfl) (Pure.move rfl) (Wt.yes rfl rfl rfl) rfl rfl ?_
      refine RunD.pure (i := 18) hok88 rfl (by kernel_rfl) (Pure.nilCheck rfl) (Wt.yes rfl rfl rfl) rfl rfl ?_
      refine RunD.pure (i := 19) hok88 rfl (by kernel_rfl) (Pure.fieldAddr rfl fo29_0) (Wt.yes rfl rfl rfl) rfl rfl ?_
      refine RunD.load1R (i := 20) hok88 rfl (by kernel_rfl) rfl (by assumption) (by rfl) agg27 (Wt.yes rfl rfl rfl) rfl ?_
      refine RunD.pure (i := 21) hok88 rfl (by kernel_rfl) (Pure.lenSl rfl rfl und27) (Wt.yes rfl rfl rfl) rfl rfl ?_
      refine RunD.one (i := 16) (by kernel_rfl) rfl ?_
      refine RunL.call rfl rfl (by rfl) (by repeat (first | (with_reducible exact Take.nil _) | (apply Take.cons (by first | ((repeat (first | (with_reducible exact F0 _) | apply F1)); done) | (repeat (first | exact F0 _ | apply F1)))))) (HLen_ctr) (Wt.yes rfl rfl rfl) rfl ?_
      rintro _ _ ⟨rfl, hA_⟩
      replace hA_ := hA_.symm; subst hA_
      refine RunL.nilD' ?_
      refine RunD.pure (i := 22) hok88 rfl (by kernel_rfl) (Pure.neq rfl rfl) (Wt.yes rfl rfl rfl) rfl rfl ?_
      refine RunD.pure (i := 23) hok88 rfl (by kernel_rfl) (Pure.pickF rfl rfl) (Wt.none rfl) rfl rfl ?_
      refine RunD.nilB (by kernel_rfl) (fun w sw => backg1 _ _ (sw)) ?_
      refine Run.cond rfl (fun hc3 => ?_) (fun hc3 => ?_)
      · try simp only [ZA, ZB, ZC, ZD, ZE, ZF, ZG, ZH, ZI, ZJ, ZK, ZL, ZM, ZN, ZO, ZP, ZQ, ZR] at hc3
        exfalso
        apply hc3; rw [EL_len]
      try simp only [ZA, ZB, ZC, ZD, ZE, ZF, ZG, ZH, ZI, ZJ, ZK, ZL, ZM, ZN, ZO, ZP, ZQ, ZR] at hc3
      refine Run.skip ?_
      refine Run.inBlock ?_
      refine Run.region ?_
      refine RunL.mv rfl rfl ?_
      first | refine RunL.pure (Pure.addI rfl rfl (by omega)) (Wt.none rfl) rfl rfl ?_ | refine RunL.pure (Pure.add rfl rfl) (Wt.none rfl) rfl rfl ?_
      refine RunL.as rfl rfl ?_
      refine RunL.nil ?_
      refine Run.mkR (q := b13) ((doT tl (fewO o))) (by repeat (first | (with_reducible exact Take.nil _) | (apply Take.cons (by first | ((repeat (first | (with_reducible exact F0 _) | apply F1)); done) | (repeat (first | exact F0 _ | apply F1)))))) (rfl) (rfl) ?_
      refine Run.keep (.cons rfl (.cons rfl (.cons rfl (.cons rfl (.nil)))) : Keep _ [0, 3, 4, 5] _) ?_
      refine Run.againF (F := F) ih (by exact ⟨i + 1, (doT tl (fewO o)), by omega, hk2, by omega, rfl, rfl, rfl⟩) (by repeat (first | (with_reducible exact Fin.done (by repeat (first | (with_reducible exact Rest.here) | apply Rest.there))) | (apply Fin.cons (by first | ((repeat (first | (with_reducible exact F0 _) | apply F1)); done) | (repeat (first | exact F0 _ | apply F1)))))) ?_
      omega
    · try simp only [ZA, ZB, ZC, ZD, ZE, ZF, ZG, ZH, ZI, ZJ, ZK, ZL, ZM, ZN, ZO, ZP, ZQ, ZR] at h2
      refine Run.exit rfl ?_
      refine Run.sr ?_
      refine RunL.call rfl rfl (by rfl) (by repeat (first | (with_reducible exact Take.nil _) | (apply Take.cons (by first | ((repeat (first | (with_reducible exact F0 _) | apply F1)); done) | (repeat (first | exact F0 _ | apply F1)))))) (lives_ctr) (Wt.none rfl) rfl ?_
      rintro _ _ ⟨rfl, hA_⟩
      replace hA_ := hA_.symm; subst hA_
      refine RunL.as rfl rfl ?_
      refine RunL.nil ?_
      exact Run.ret Try.func6 (res1 rfl rfl) (by exact ⟨rfl, rfl⟩) (by repeat (first | (with_reducible exact Fin.done (by repeat (first | (with_reducible exact Rest.here) | apply Rest.there))) | (apply Fin.cons (by first | ((repeat (first | (with_reducible exact F0 _) | apply F1)); done) | (repeat (first | exact F0 _ | apply F1))))))
  · try simp only [ZA, ZB, ZC, ZD, ZE, ZF, ZG, ZH, ZI, ZJ, ZK, ZL, ZM, ZN, ZO, ZP, ZQ, ZR] at h1
    refine RunL.not (Wt.no rfl rfl rfl) rfl rfl ?_
    refine RunL.not (Wt.no rfl rfl rfl) rfl rfl ?_
    refine RunL.pure (Pure.pickF rfl rfl) (Wt.none rfl) rfl rfl ?_
    refine RunL.nil ?_
    refine Run.condF rfl ?_
    refine Run.exit rfl ?_
    refine Run.sr ?_
    refine RunL.call rfl rfl (by rfl) (by repeat (first | (with_reducible exact Take.nil _) | (apply Take.cons (by first | ((repeat (first | (with_reducible exact F0 _) | apply F1)); done) | (repeat (first | exact F0 _ | apply F1)))))) (lives_ctr) (Wt.none rfl) rfl ?_
    rintro _ _ ⟨rfl, hA_⟩
    replace hA_ := hA_.symm; subst hA_
    refine RunL.as rfl rfl ?_
    refine RunL.nil ?_
    exact Run.ret Try.func6 (res1 rfl rfl) (by exact ⟨rfl, rfl⟩) (by repeat (first | (with_reducible exact Fin.done (by repeat (first | (with_reducible exact Rest.here) | apply Rest.there))) | (apply Fin.cons (by first | ((repeat (first | (with_reducible exact F0 _) | apply F1)); done) | (repeat (first | exact F0 _ | apply F1))))))

end Go.Proofs.Ytppamndllgojnaa
