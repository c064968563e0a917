/- Tables filled. -/
import Derived.Test.YtaeacdhilekcbaaR7
set_option linter.unusedVariables false
set_option linter.unusedSimpArgs false
namespace Go.Proofs.Ytaeacdhilekcbaa
open Go Csl


set_option maxHeartbeats 2000000 in
set_option maxRecDepth 100000 in
theorem fill_ctr {G : Gp} {a : Option Addr} {l : List M} {cap : Nat} {most : Int} {good : Bool} (h : SlR G 28 6 a l.length (l.flatMap cM)) (hok : ∀ m ∈ l, okM m) (hb : l.length ≤ 9223372036854775807) (h0 : 0 ≤ most) (h1 : most ≤ 100) :
    Ctr Try.prog G 9 [.slice a l.length cap, .int .i64 most, .bool good] [] (fun F v A => ∃ p a' cap', v = .tuple #[.pointer (some ⟨p, 0, none⟩), .slice a' (ML (fillT (if good then goodM else fewM) (l.take most.toNat))).length cap'] ∧ A = Tb p (fillT (if good then goodM else fewM) (l.take most.toNat)) :: Sl 28 6 a' (ML (fillT (if good then goodM else fewM) (l.take most.toNat))).length cap' ((ML (fillT (if good then goodM else fewM) (l.take most.toNat))).flatMap cM) :: F) := by
  refine Ctr.intro Try.func9 rfl (by kernel_rfl) rfl (fun F => ?_)
  simp only [List.nil_append]
  refine Run.sr ?_
  refine RunL.as rfl rfl ?_
  refine RunL.as rfl rfl ?_
  refine RunL.nil ?_
  refine Run.sr ?_
  refine RunL.call rfl rfl (by rfl) (by repeat (first | (with_reducible exact Take.nil _) | (apply Take.cons (by first | ((repeat (first | (with_reducible exact F0 _) | apply F1)); done) | (repeat (first | exact F0 _ | apply F1)))))) (New_ctr) (Wt.none rfl) rfl ?_
  rintro _ _ ⟨p, rfl, hA_⟩
  replace hA_ := hA_.symm; subst hA_
  refine RunL.nilSl 28 6 ?_
  refine RunL.as rfl rfl ?_
  refine RunL.nil ?_
  refine Run.sr ?_
  refine RunL.as rfl rfl ?_
  refine RunL.nil ?_
  refine Run.seq ?_
  refine Run.sr ?_
  refine RunL.mv rfl rfl ?_
  refine RunL.pure (Pure.ptrEqNil rfl rfl und29) (Wt.none rfl) rfl rfl ?_
  refine RunL.nil ?_
  refine Run.condF rfl ?_
  refine Run.skip ?_
  refine Run.seq ?_
  refine Run.sr ?_
  refine RunL.as rfl rfl ?_
  refine RunL.nil ?_
  refine Run.block ?_
  refine Run.keep (.cons rfl (.cons rfl (.cons rfl (.cons rfl (.cons rfl (.cons rfl (.nil)))))) : Keep _ [0, 1, 2, 8, 9, 10] _) ?_
  refine Run.loopF (F := F) (fun n e A => ∃ (i : Nat) (a' : Option Addr) (c' : Nat), (i : Int) ≤ most ∧ i ≤ l.length ∧ n = most.toNat - i ∧ e = [(0, .slice a l.length cap), (1, .int .i64 most), (2, .bool good), (8, .pointer (some ⟨p, 0, none⟩)), (9, .slice a' (ML (fillT (if good then goodM else fewM) (l.take i))).length c'), (10, .int .i64 (i : Nat))] ∧ A = Tb p (fillT (if good then goodM else fewM) (l.take i)) :: Sl 28 6 a' (ML (fillT (if good then goodM else fewM) (l.take i))).length c' ((ML (fillT (if good then goodM else fewM) (l.take i))).flatMap cM) :: F) (most.toNat) (by exact ⟨0, none, 0, by omega, by omega, rfl, rfl, rfl⟩) (by repeat (first | (with_reducible exact Fin.done (by repeat (first | (with_reducible exact Rest.here) | apply Rest.there))) | (apply Fin.cons (by first | ((repeat (first | (with_reducible exact F0 _) | apply F1)); done) | (repeat (first | exact F0 _ | apply F1)))))) ?_
  rintro n _ _ ⟨i, a', c', hi, hil, rfl, rfl, hA_⟩ ih
  replace hA_ := hA_.symm; subst hA_
  refine Run.seq ?_
  refine Run.sr ?_
  refine RunL.mv rfl rfl ?_
  refine RunL.mv rfl rfl ?_
  refine RunL.pure (Pure.lenSl rfl rfl und22) (Wt.none rfl) rfl rfl ?_
  refine RunL.pure (Pure.lss rfl rfl) (Wt.none rfl) rfl rfl ?_
  refine RunL.mv rfl rfl ?_
  refine RunL.split (d := 22) rfl (fun h2 => ?_) (fun h2 => ?_)
  · try simp only [ZA, ZB, ZC, ZD, ZE, ZF, ZG, ZH, ZI, ZJ, ZK, ZL, ZM, ZN, ZO, ZP, ZQ, ZR] at h2
    refine RunL.pure (Pure.move rfl) (Wt.yes rfl rfl rfl) rfl rfl ?_
    refine RunL.pure (Pure.move rfl) (Wt.yes rfl rfl rfl) rfl rfl ?_
    refine RunL.pure (Pure.lss rfl rfl) (Wt.yes rfl rfl rfl) rfl rfl ?_
    refine RunL.pure (Pure.pickT rfl rfl) (Wt.none rfl) rfl rfl ?_
    refine RunL.nil ?_
    refine Run.cond rfl (fun h3 => ?_) (fun h3 => ?_)
    · try simp only [ZA, ZB, ZC, ZD, ZE, ZF, ZG, ZH, ZI, ZJ, ZK, ZL, ZM, ZN, ZO, ZP, ZQ, ZR] at h3
      obtain ⟨b, T', pre, post, rfl, hro⟩ := h.open1 (show 0 < l.length by omega)
      obtain ⟨m, hm⟩ := get_some (xs := l) (i := i) (by omega)
      have hokm := hok m (List.mem_of_getElem? hm)
      have hs := fillT_succ (if good then goodM else fewM) hm
      have hl1 := fillT_len (if good then goodM else fewM) (l.take i)
      have hl2 : (l.take i).length ≤ i := by rw [List.length_take]; omega
      refine Run.skip ?_
      refine Run.seq ?_
      refine Run.block ?_
      refine Run.sr ?_
      refine RunL.mv rfl rfl ?_
      refine RunL.mv rfl rfl ?_
      refine RunL.pure (Pure.indexAddr rfl rfl und22 sz28 (by omega) (by omega)) (Wt.none rfl) rfl rfl ?_
      refine RunL.loadNR (vs := (cM m)) rfl hro agg28 sz28 (elemN_len (f := cM) (sz := 6) (j := 0) (n := 6) (fun _ _ => rfl) hm (by decide)) ((elemN_at (f := cM) (sz := 6) (j := 0) (n := 6) (fun _ _ => rfl) hm (by decide)).trans rfl) (Wt.none rfl) rfl ?_
      refine RunL.call rfl rfl (by rfl) (by repeat (first | (with_reducible exact Take.nil _) | (apply Take.cons (by first | ((repeat (first | (with_reducible exact F0 _) | apply F1)); done) | (repeat (first | exact F0 _ | apply F1)))))) (FewM_ctr (m := m)) (Wt.none rfl) rfl ?_
      rintro _ _ ⟨rfl, hA_⟩
      replace hA_ := hA_.symm; subst hA_
      refine RunL.alloc zz28 (Wt.none rfl) rfl ?_; intro b11
      refine RunL.storeW (xs := (cM (fewM m))) rfl rfl (by first | ((repeat (first | (with_reducible exact F0 _) | apply F1)); done) | (repeat (first | exact F0 _ | apply F1))) sz28 (by rfl) (by rfl) (by rfl) (Wt.none rfl) ?_
      refine RunL.nil ?_
      refine Run.seq ?_
      refine Run.sr ?_
      refine RunL.mv rfl rfl ?_
      refine RunL.nil ?_
      refine Run.cond rfl (fun h4 => ?_) (fun h4 => ?_)
      · try simp only [ZA, ZB, ZC, ZD, ZE, ZF, ZG, ZH, ZI, ZJ, ZK, ZL, ZM, ZN, ZO, ZP, ZQ, ZR] at h4
        have hg : (if good then goodM else fewM) m = goodM m := by rw [if_pos h4]
        refine Run.region ?_
        refine RunL.mv rfl rfl ?_
        refine RunL.mv rfl rfl ?_
        refine RunL.pure (Pure.indexAddr rfl rfl und22 sz28 (by omega) (by omega)) (Wt.none rfl) rfl rfl ?_
        refine RunL.loadNR (vs := (cM m)) rfl hro agg28 sz28 (elemN_len (f := cM) (sz := 6) (j := 0) (n := 6) (fun _ _ => rfl) hm (by decide)) ((elemN_at (f := cM) (sz := 6) (j := 0) (n := 6) (fun _ _ => rfl) hm (by decide)).trans rfl) (Wt.none rfl) rfl ?_
        refine RunL.call rfl rfl (by rfl) (by repeat (first | (with_reducible exact Take.nil _) | (apply Take.cons (by first | ((repeat (first | (with_reducible exact F0 _) | apply F1)); done) | (repeat (first | exact F0 _ | apply F1)))))) (Good_ctr hokm) (Wt.none rfl) rfl ?_
        rintro _ _ ⟨rfl, hA_⟩
        replace hA_ := hA_.symm; subst hA_
        refine RunL.storeW (xs := (cM (goodM m))) rfl rfl (by first | ((repeat (first | (with_reducible exact F0 _) | apply F1)); done) | (repeat (first | exact F0 _ | apply F1))) sz28 (by rfl) (by rfl) (by rfl) (Wt.none rfl) ?_
        refine RunL.nil ?_
        refine Run.sr ?_
        refine RunL.mv rfl rfl ?_
        refine RunL.pure (Pure.fieldAddr rfl fo28_0) (Wt.none rfl) rfl rfl ?_
        first | refine RunL.loadA (vs := (cK ((goodM m).k))) rfl (by first | ((repeat (first | (with_reducible exact F0 _) | apply F1)); done) | (repeat (first | exact F0 _ | apply F1))) agg24 sz24 (by first | exact Nat.le_of_ble_eq_true rfl | (simp; done) | (simp; omega)) rfl (Wt.none rfl) rfl ?_ | refine RunL.loadNR (vs := (cK ((goodM m).k))) rfl (by assumption) agg24 sz24 (by first | exact Nat.le_of_ble_eq_true rfl | (simp; done) | (simp; omega)) rfl (Wt.none rfl) rfl ?_
        refine RunL.pure (Pure.fieldAddr rfl fo28_1) (Wt.none rfl) rfl rfl ?_
        first | refine RunL.loadA (vs := (cPos ((goodM m).pos))) rfl (by first | ((repeat (first | (with_reducible exact F0 _) | apply F1)); done) | (repeat (first | exact F0 _ | apply F1))) agg26 sz26 (by first | exact Nat.le_of_ble_eq_true rfl | (simp; done) | (simp; omega)) rfl (Wt.none rfl) rfl ?_ | refine RunL.loadNR (vs := (cPos ((goodM m).pos))) rfl (by assumption) agg26 sz26 (by first | exact Nat.le_of_ble_eq_true rfl | (simp; done) | (simp; omega)) rfl (Wt.none rfl) rfl ?_
        refine RunL.call rfl rfl (by rfl) (by repeat (first | (with_reducible exact Take.nil _) | (apply Take.cons (by first | ((repeat (first | (with_reducible exact F0 _) | apply F1)); done) | (repeat (first | exact F0 _ | apply F1)))))) (rPut_ctr (fillT_KN _ _) (by omega)) (Wt.none rfl) rfl ?_
        rintro _ _ ⟨a2, c2, rfl, hA_⟩
        replace hA_ := hA_.symm; subst hA_
        refine RunL.mv rfl rfl ?_
        refine RunL.pure (Pure.extract rfl rfl) (Wt.none rfl) rfl rfl ?_
        refine RunL.pure (Pure.extract rfl rfl) (Wt.none rfl) rfl rfl ?_
        refine RunL.as rfl rfl ?_
        refine RunL.as rfl rfl ?_
        refine RunL.nil ?_
        refine Run.sr ?_
        refine RunL.mv rfl rfl ?_
        refine RunL.as rfl rfl ?_
        refine RunL.nil ?_
        refine Run.seq ?_
        refine Run.regionD' (by kernel_rfl) (by kernel_rfl) (fun hok103 => ?_)
        refine RunD.lend (Q := row b11 28 _) Lends.row (by first | ((repeat (first | (with_reducible exact F0 _) | apply F1)); done) | (repeat (first | exact F0 _ | apply F1))) ?_; intro gl1 hlegl1 hl1 backgl1
        have h_gl1 := h.mono hlegl1
        refine RunD.pure (i := 0) hok103 rfl (by kernel_rfl) (Pure.move rfl) (Wt.none rfl) rfl rfl ?_
        refine RunD.pure (i := 1) hok103 rfl (by kernel_rfl) (Pure.fieldAddr rfl fo28_0) (Wt.none rfl) rfl rfl ?_
        refine RunD.loadNR (vs := (cK ((goodM m).k))) (i := 2) hok103 rfl (by kernel_rfl) rfl (by assumption) agg24 sz24 (by first | exact Nat.le_of_ble_eq_true rfl | (simp; done) | (simp; omega)) rfl (Wt.none rfl) rfl ?_
        refine RunD.pure (i := 4) hok103 rfl (by kernel_rfl) (Pure.fieldAddr rfl fo28_1) (Wt.none rfl) rfl rfl ?_
        refine RunD.loadNR (vs := (cPos ((goodM m).pos))) (i := 5) hok103 rfl (by kernel_rfl) rfl (by assumption) agg26 sz26 (by first | exact Nat.le_of_ble_eq_true rfl | (simp; done) | (simp; omega)) rfl (Wt.none rfl) rfl ?_
        refine RunD.pure (i := 7) hok103 rfl (by kernel_rfl) (Pure.move rfl) (Wt.none rfl) rfl rfl ?_
        refine RunD.one (i := 3) (by kernel_rfl) rfl ?_
        refine RunL.call rfl rfl (by rfl) (by repeat (first | (with_reducible exact Take.nil _) | (apply Take.cons (by first | ((repeat (first | (with_reducible exact F0 _) | apply F1)); done) | (repeat (first | exact F0 _ | apply F1)))))) (of_ctr) (Wt.none rfl) rfl ?_
        rintro _ _ ⟨rfl, hA_⟩
        replace hA_ := hA_.symm; subst hA_
        refine RunL.nilD' ?_
        refine RunD.one (i := 6) (by kernel_rfl) rfl ?_
        refine RunL.call rfl rfl (by rfl) (by repeat (first | (with_reducible exact Take.nil _) | (apply Take.cons (by first | ((repeat (first | (with_reducible exact F0 _) | apply F1)); done) | (repeat (first | exact F0 _ | apply F1)))))) (Put_ctr (l := (fillT (if good then goodM else fewM) (l.take i))) (k := (goodM m).k) (q := (goodM m).pos)) (Wt.none rfl) rfl ?_
        rintro _ _ ⟨rfl, hA_⟩
        replace hA_ := hA_.symm; subst hA_
        refine RunL.nilD' ?_
        refine RunD.pure (i := 8) hok103 rfl (by kernel_rfl) (Pure.bneq rfl rfl und4) (Wt.none rfl) rfl rfl ?_
        refine RunD.nilB (by kernel_rfl) (fun w sw => backgl1 _ _ (sw)) ?_
        refine Run.cond rfl (fun hc1 => ?_) (fun hc1 => ?_)
        · try simp only [ZA, ZB, ZC, ZD, ZE, ZF, ZG, ZH, ZI, ZJ, ZK, ZL, ZM, ZN, ZO, ZP, ZQ, ZR] at hc1
          exfalso
          simp at hc1
        try simp only [ZA, ZB, ZC, ZD, ZE, ZF, ZG, ZH, ZI, ZJ, ZK, ZL, ZM, ZN, ZO, ZP, ZQ, ZR] at hc1
        refine Run.skip ?_
        refine Run.inBlock ?_
        refine Run.region ?_
        refine RunL.mv rfl rfl ?_
        first | refine RunL.pure (Pure.addI rfl rfl (by omega)) (Wt.none rfl) rfl rfl ?_ | refine RunL.pure (Pure.add rfl rfl) (Wt.none rfl) rfl rfl ?_
        refine RunL.as rfl rfl ?_
        refine RunL.nil ?_
        rw [hg] at hs
        rw [← hs]
        refine Run.keep (.cons rfl (.cons rfl (.cons rfl (.cons rfl (.cons rfl (.cons rfl (.nil)))))) : Keep _ [0, 1, 2, 8, 9, 10] _) ?_
        refine Run.againF (F := F) ih (by exact ⟨i + 1, a2, c2, by omega, by omega, rfl, rfl, rfl⟩) (by repeat (first | (with_reducible exact Fin.done (by repeat (first | (with_reducible exact Rest.here) | apply Rest.there))) | (apply Fin.cons (by first | ((repeat (first | (with_reducible exact F0 _) | apply F1)); done) | (repeat (first | exact F0 _ | apply F1)))))) ?_
        omega
      · try simp only [ZA, ZB, ZC, ZD, ZE, ZF, ZG, ZH, ZI, ZJ, ZK, ZL, ZM, ZN, ZO, ZP, ZQ, ZR] at h4
        have hg : (if good then goodM else fewM) m = fewM m := by rw [if_neg (by rw [h4]; decide)]
        refine Run.skip ?_
        refine Run.sr ?_
        refine RunL.mv rfl rfl ?_
        refine RunL.pure (Pure.fieldAddr rfl fo28_0) (Wt.none rfl) rfl rfl ?_
        first | refine RunL.loadA (vs := (cK ((fewM m).k))) rfl (by first | ((repeat (first | (with_reducible exact F0 _) | apply F1)); done) | (repeat (first | exact F0 _ | apply F1))) agg24 sz24 (by first | exact Nat.le_of_ble_eq_true rfl | (simp; done) | (simp; omega)) rfl (Wt.none rfl) rfl ?_ | refine RunL.loadNR (vs := (cK ((fewM m).k))) rfl (by assumption) agg24 sz24 (by first | exact Nat.le_of_ble_eq_true rfl | (simp; done) | (simp; omega)) rfl (Wt.none rfl) rfl ?_
        refine RunL.pure (Pure.fieldAddr rfl fo28_1) (Wt.none rfl) rfl rfl ?_
        first | refine RunL.loadA (vs := (cPos ((fewM m).pos))) rfl (by first | ((repeat (first | (with_reducible exact F0 _) | apply F1)); done) | (repeat (first | exact F0 _ | apply F1))) agg26 sz26 (by first | exact Nat.le_of_ble_eq_true rfl | (simp; done) | (simp; omega)) rfl (Wt.none rfl) rfl ?_ | refine RunL.loadNR (vs := (cPos ((fewM m).pos))) rfl (by assumption) agg26 sz26 (by first | exact Nat.le_of_ble_eq_true rfl | (simp; done) | (simp; omega)) rfl (Wt.none rfl) rfl ?_
        refine RunL.call rfl rfl (by rfl) (by repeat (first | (with_reducible exact Take.nil _) | (apply Take.cons (by first | ((repeat (first | (with_reducible exact F0 _) | apply F1)); done) | (repeat (first | exact F0 _ | apply F1)))))) (rPut_ctr (fillT_KN _ _) (by omega)) (Wt.none rfl) rfl ?_
        rintro _ _ ⟨a2, c2, rfl, hA_⟩
        replace hA_ := hA_.symm; subst hA_
        refine RunL.mv rfl rfl ?_
        refine RunL.pure (Pure.extract rfl rfl) (Wt.none rfl) rfl rfl ?_
        refine RunL.pure (Pure.extract rfl rfl) (Wt.none rfl) rfl rfl ?_
        refine RunL.as rfl rfl ?_
        refine RunL.as rfl rfl ?_
        refine RunL.nil ?_
        refine Run.sr ?_
        refine RunL.mv rfl rfl ?_
        refine RunL.as rfl rfl ?_
        refine RunL.nil ?_
        refine Run.seq ?_
        refine Run.regionD' (by kernel_rfl) (by kernel_rfl) (fun hok164 => ?_)
        refine RunD.lend (Q := row b11 28 _) Lends.row (by first | ((repeat (first | (with_reducible exact F0 _) | apply F1)); done) | (repeat (first | exact F0 _ | apply F1))) ?_; intro gl2 hlegl2 hl2 backgl2
        have h_gl2 := h.mono hlegl2
        refine RunD.pure (i := 0) hok164 rfl (by kernel_rfl) (Pure.move rfl) (Wt.none rfl) rfl rfl ?_
        refine RunD.pure (i := 1) hok164 rfl (by kernel_rfl) (Pure.fieldAddr rfl fo28_0) (Wt.none rfl) rfl rfl ?_
        refine RunD.loadNR (vs := (cK ((fewM m).k))) (i := 2) hok164 rfl (by kernel_rfl) rfl (by assumption) agg24 sz24 (by first | exact Nat.le_of_ble_eq_true rfl | (simp; done) | (simp; omega)) rfl (Wt.none rfl) rfl ?_
        refine RunD.pure (i := 4) hok164 rfl (by kernel_rfl) (Pure.fieldAddr rfl fo28_1) (Wt.none rfl) rfl rfl ?_
        refine RunD.loadNR (vs := (cPos ((fewM m).pos))) (i := 5) hok164 rfl (by kernel_rfl) rfl (by assumption) agg26 sz26 (by first | exact Nat.le_of_ble_eq_true rfl | (simp; done) | (simp; omega)) rfl (Wt.none rfl) rfl ?_
        refine RunD.pure (i := 7) hok164 rfl (by kernel_rfl) (Pure.move rfl) (Wt.none rfl) rfl rfl ?_
        refine RunD.one (i := 3) (by kernel_rfl) rfl ?_
        refine RunL.call rfl rfl (by rfl) (by repeat (first | (with_reducible exact Take.nil _) | (apply Take.cons (by first | ((repeat (first | (with_reducible exact F0 _) | apply F1)); done) | (repeat (first | exact F0 _ | apply F1)))))) (of_ctr) (Wt.none rfl) rfl ?_
        rintro _ _ ⟨rfl, hA_⟩
        replace hA_ := hA_.symm; subst hA_
        refine RunL.nilD' ?_
        refine RunD.one (i := 6) (by kernel_rfl) rfl ?_
        refine RunL.call rfl rfl (by rfl) (by repeat (first | (with_reducible exact Take.nil _) | (apply Take.cons (by first | ((repeat (first | (with_reducible exact F0 _) | apply F1)); done) | (repeat (first | exact F0 _ | apply F1)))))) (Put_ctr (l := (fillT (if good then goodM else fewM) (l.take i))) (k := (fewM m).k) (q := (fewM m).pos)) (Wt.none rfl) rfl ?_
        rintro _ _ ⟨rfl, hA_⟩
        replace hA_ := hA_.symm; subst hA_
        refine RunL.nilD' ?_
        refine RunD.pure (i := 8) hok164 rfl (by kernel_rfl) (Pure.bneq rfl rfl und4) (Wt.none rfl) rfl rfl ?_
        refine RunD.nilB (by kernel_rfl) (fun w sw => backgl2 _ _ (sw)) ?_
        refine Run.cond rfl (fun hc2 => ?_) (fun hc2 => ?_)
        · try simp only [ZA, ZB, ZC, ZD, ZE, ZF, ZG, ZH, ZI, ZJ, ZK, ZL, ZM, ZN, ZO, ZP, ZQ, ZR] at hc2
          exfalso
          simp at hc2
        try simp only [ZA, ZB, ZC, ZD, ZE, ZF, ZG, ZH, ZI, ZJ, ZK, ZL, ZM, ZN, ZO, ZP, ZQ, ZR] at hc2
        refine Run.skip ?_
        refine Run.inBlock ?_
        refine Run.region ?_
        refine RunL.mv rfl rfl ?_
        first | refine RunL.pure (Pure.addI rfl rfl (by omega)) (Wt.none rfl) rfl rfl ?_ | refine RunL.pure (Pure.add rfl rfl) (Wt.none rfl) rfl rfl ?_
        refine RunL.as rfl rfl ?_
        refine RunL.nil ?_
        rw [hg] at hs
        rw [← hs]
        refine Run.keep (.cons rfl (.cons rfl (.cons rfl (.cons rfl (.cons rfl (.cons rfl (.nil)))))) : Keep _ [0, 1, 2, 8, 9, 10] _) ?_
        refine Run.againF (F := F) ih (by exact ⟨i + 1, a2, c2, by omega, by omega, rfl, rfl, rfl⟩) (by repeat (first | (with_reducible exact Fin.done (by repeat (first | (with_reducible exact Rest.here) | apply Rest.there))) | (apply Fin.cons (by first | ((repeat (first | (with_reducible exact F0 _) | apply F1)); done) | (repeat (first | exact F0 _ | apply F1)))))) ?_
        omega
    · try simp only [ZA, ZB, ZC, ZD, ZE, ZF, ZG, ZH, ZI, ZJ, ZK, ZL, ZM, ZN, ZO, ZP, ZQ, ZR] at h3
      refine Run.exit rfl ?_
      refine Run.sr ?_
      refine RunL.mv rfl rfl ?_
      refine RunL.mv rfl rfl ?_
      refine RunL.as rfl rfl ?_
      refine RunL.as rfl rfl ?_
      refine RunL.nil ?_
      rw [show l.take i = l.take most.toNat from by congr 1; omega]
      exact Run.ret Try.func9 (res2 rfl rfl rfl) (by exact ⟨_, _, _, rfl, rfl⟩) (by repeat (first | (with_reducible exact Fin.done (by repeat (first | (with_reducible exact Rest.here) | apply Rest.there))) | (apply Fin.cons (by first | ((repeat (first | (with_reducible exact F0 _) | apply F1)); done) | (repeat (first | exact F0 _ | apply F1))))))
  · try simp only [ZA, ZB, ZC, ZD, ZE, ZF, ZG, ZH, ZI, ZJ, ZK, ZL, ZM, ZN, ZO, ZP, ZQ, ZR] at h2
    refine RunL.not (Wt.no rfl rfl rfl) rfl rfl ?_
    refine RunL.not (Wt.no rfl rfl rfl) rfl rfl ?_
    refine RunL.not (Wt.no rfl rfl rfl) rfl rfl ?_
    refine RunL.pure (Pure.pickF rfl rfl) (Wt.none rfl) rfl rfl ?_
    refine RunL.nil ?_
    refine Run.condF rfl ?_
    refine Run.exit rfl ?_
    refine Run.sr ?_
    refine RunL.mv rfl rfl ?_
    refine RunL.mv rfl rfl ?_
    refine RunL.as rfl rfl ?_
    refine RunL.as rfl rfl ?_
    refine RunL.nil ?_
    rw [show l.take i = l.take most.toNat from by rw [List.take_of_length_le (by omega), List.take_of_length_le (by omega)]]
    exact Run.ret Try.func9 (res2 rfl rfl rfl) (by exact ⟨_, _, _, rfl, rfl⟩) (by repeat (first | (with_reducible exact Fin.done (by repeat (first | (with_reducible exact Rest.here) | apply Rest.there))) | (apply Fin.cons (by first | ((repeat (first | (with_reducible exact F0 _) | apply F1)); done) | (repeat (first | exact F0 _ | apply F1))))))

end Go.Proofs.Ytaeacdhilekcbaa
