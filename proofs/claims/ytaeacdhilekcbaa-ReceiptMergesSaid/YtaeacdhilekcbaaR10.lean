/- A key's mark. -/
import Derived.Test.YtaeacdhilekcbaaR9
set_option linter.unusedVariables false
set_option linter.unusedSimpArgs false
namespace Go.Proofs.Ytaeacdhilekcbaa
open Go Csl
theorem by24 : bytesIs Try.prog 24 = some 56 := by kernel_rfl

set_option maxHeartbeats 4000000 in
set_option maxRecDepth 100000 in
theorem ReceiptGets_ctr {G : Gp} {a : Option Addr} {l : List M} {cap : Nat} {m : M} (h : SlR G 28 6 a l.length (l.flatMap cM)) (hok : ∀ m ∈ l, okM m) (hb : l.length ≤ 9223372036854775807) (hm : okM m) :
    Ctr Try.prog G 3 [.slice a l.length cap, .agg (cM m).toArray] [] (fun F v A => v = .bool true ∧ A = F) := by
  refine Ctr.intro Try.func3 rfl (by kernel_rfl) rfl (fun F => ?_)
  simp only [List.nil_append]
  refine Run.sr ?_
  refine RunL.boxA (xs := (cM m)) rfl (Wt.none rfl) rfl ?_; intro b3
  refine RunL.as rfl rfl ?_
  refine RunL.nil ?_
  refine Run.lendAll (Q := row b3 28 _) Lends.row (by first | ((repeat (first | (with_reducible exact F0 _) | apply F1)); done) | (repeat (first | exact F0 _ | apply F1))) (fun G3 hleG3 hrb3 => ?_)
  replace h := h.mono hleG3
  refine Run.sr ?_
  refine RunL.mv rfl rfl ?_
  refine RunL.call rfl rfl (by rfl) (by repeat (first | (with_reducible exact Take.nil _) | (apply Take.cons (by first | ((repeat (first | (with_reducible exact F0 _) | apply F1)); done) | (repeat (first | exact F0 _ | apply F1)))))) (fill_ctr h hok hb (by decide) (by decide)) (Wt.none rfl) rfl ?_
  rintro _ _ ⟨p, a', c', rfl, hA_⟩
  replace hA_ := hA_.symm; subst hA_
  have hkn := fillT_KN (if true = true then goodM else fewM) (l.take (12 : Int).toNat)
  have hln := fillT_len (if true = true then goodM else fewM) (l.take (12 : Int).toNat)
  have hln2 : (l.take (12 : Int).toNat).length ≤ 12 := by rw [List.length_take]; omega
  generalize (fillT (if true = true then goodM else fewM) (l.take (12 : Int).toNat)) = tl at *
  have hml := ML_len tl
  refine RunL.mv rfl rfl ?_
  refine RunL.pure (Pure.extract rfl rfl) (Wt.none rfl) rfl rfl ?_
  refine RunL.pure (Pure.extract rfl rfl) (Wt.none rfl) rfl rfl ?_
  refine RunL.as rfl rfl ?_
  refine RunL.as rfl rfl ?_
  refine RunL.nil ?_
  refine Run.seq ?_
  refine Run.sr ?_
  refine RunL.mv rfl rfl ?_
  refine RunL.pure (Pure.ptrEqNil rfl rfl und29) (Wt.none rfl) rfl rfl ?_
  refine RunL.nil ?_
  refine Run.condF rfl ?_
  refine Run.skip ?_
  refine Run.seq ?_
  refine Run.regionD' (by kernel_rfl) (by kernel_rfl) (fun hok30 => ?_)
  refine RunD.loadNR (vs := (cM m)) (i := 0) hok30 rfl (by kernel_rfl) rfl (by assumption) agg28 sz28 (by first | exact Nat.le_of_ble_eq_true rfl | (simp; done) | (simp; omega)) rfl (Wt.none rfl) rfl ?_
  refine RunD.loadNR (vs := (cM m)) (i := 3) hok30 rfl (by kernel_rfl) rfl (by assumption) agg28 sz28 (by first | exact Nat.le_of_ble_eq_true rfl | (simp; done) | (simp; omega)) rfl (Wt.none rfl) rfl ?_
  refine RunD.one (i := 1) (by kernel_rfl) rfl ?_
  refine RunL.call rfl rfl (by rfl) (by repeat (first | (with_reducible exact Take.nil _) | (apply Take.cons (by first | ((repeat (first | (with_reducible exact F0 _) | apply F1)); done) | (repeat (first | exact F0 _ | apply F1)))))) (Good_ctr hm) (Wt.none rfl) rfl ?_
  rintro _ _ ⟨rfl, hA_⟩
  replace hA_ := hA_.symm; subst hA_
  refine RunL.nilD' ?_
  refine RunD.pure (i := 2) hok30 rfl (by kernel_rfl) (Pure.fieldN (ys := (cK ((goodM m).k)).toArray) rfl und28 rfl agg24 sz24 rfl) (Wt.none rfl) rfl rfl ?_
  refine RunD.one (i := 4) (by kernel_rfl) rfl ?_
  refine RunL.call rfl rfl (by rfl) (by repeat (first | (with_reducible exact Take.nil _) | (apply Take.cons (by first | ((repeat (first | (with_reducible exact F0 _) | apply F1)); done) | (repeat (first | exact F0 _ | apply F1)))))) (FewM_ctr) (Wt.none rfl) rfl ?_
  rintro _ _ ⟨rfl, hA_⟩
  replace hA_ := hA_.symm; subst hA_
  refine RunL.nilD' ?_
  refine RunD.pure (i := 5) hok30 rfl (by kernel_rfl) (Pure.fieldN (ys := (cK ((fewM m).k)).toArray) rfl und28 rfl agg24 sz24 rfl) (Wt.none rfl) rfl rfl ?_
  refine RunD.one (i := 6) (by kernel_rfl) rfl ?_
  refine RunL.lit (vals := [_, _]) (vs := ([(goodM m).k, (fewM m).k] : List K).flatMap cK) und33 sz24 zz24 rfl rfl rfl rfl rfl rfl (by simp [Value.cells, bv, cK, cM, cPos]) rfl (Wt.none rfl) rfl ?_; intro b25
  refine RunL.nilD' ?_
  refine RunD.pure (i := 7) hok30 rfl (by kernel_rfl) (Pure.assign rfl) (Wt.none rfl) rfl rfl ?_
  refine RunD.nilR (by kernel_rfl) ?_
  refine Run.seq ?_
  refine Run.sr ?_
  refine RunL.mv rfl rfl ?_
  refine RunL.pure (Pure.lenSl rfl rfl und22) (Wt.none rfl) rfl rfl ?_
  refine RunL.pure (Pure.gtr rfl rfl) (Wt.none rfl) rfl rfl ?_
  refine RunL.nil ?_
  refine Run.cut (fun e A => ∃ (xs : List K) (aK : Option Addr) (cK_ : Nat), xs.length ≤ 3 ∧ e = [(5, .pointer (some ⟨p, 0, none⟩)), (6, .slice a' (ML tl).length c'), (7, .slice aK xs.length cK_)] ∧ A = Sl 24 4 aK xs.length cK_ (xs.flatMap cK) :: Tb p tl :: Sl 28 6 a' (ML tl).length c' ((ML tl).flatMap cM) :: F) (fun e A hM => ?_) (fun hk => ?_)
  · obtain ⟨xs, aK, cK_, hx3, rfl, hA_⟩ := hM
    replace hA_ := hA_.symm; subst hA_
    refine Run.lendAll (Q := Sl 24 4 aK xs.length cK_ (xs.flatMap cK)) Lends.Sl (by first | ((repeat (first | (with_reducible exact F0 _) | apply F1)); done) | (repeat (first | exact F0 _ | apply F1))) (fun GhK hleGhK hK => ?_)
    replace h := h.mono hleGhK
    replace hrb3 := hrb3.mono hleGhK
    obtain ⟨hK, hKc⟩ := hK
    refine Run.lendAll (Q := Sl 28 6 a' (ML tl).length c' ((ML tl).flatMap cM)) Lends.Sl (by first | ((repeat (first | (with_reducible exact F0 _) | apply F1)); done) | (repeat (first | exact F0 _ | apply F1))) (fun GhM hleGhM hM => ?_)
    replace h := h.mono hleGhM
    replace hrb3 := hrb3.mono hleGhM
    replace hK := hK.mono hleGhM
    obtain ⟨hM, hMc⟩ := hM
    refine Run.lendAll (Q := Tb p tl) Lends.Tb (by first | ((repeat (first | (with_reducible exact F0 _) | apply F1)); done) | (repeat (first | exact F0 _ | apply F1))) (fun GhT hleGhT hT => ?_)
    replace h := h.mono hleGhT
    replace hrb3 := hrb3.mono hleGhT
    replace hK := hK.mono hleGhT
    replace hM := hM.mono hleGhT
    refine Run.seq ?_
    refine Run.sr ?_
    refine RunL.as rfl rfl ?_
    refine RunL.nil ?_
    refine Run.block ?_
    refine Run.keep (.cons rfl (.cons rfl (.cons rfl (.cons rfl (.nil)))) : Keep _ [5, 6, 7, 8] _) ?_
    refine Run.loopF (F := F) (fun n e A => ∃ (i : Nat), i ≤ xs.length ∧ n = xs.length - i ∧ e = [(5, .pointer (some ⟨p, 0, none⟩)), (6, .slice a' (ML tl).length c'), (7, .slice aK xs.length cK_), (8, .int .i64 (i : Nat))] ∧ A = F) (xs.length) (by exact ⟨0, by omega, rfl, rfl, rfl⟩) (by repeat (first | (with_reducible exact Fin.done (by repeat (first | (with_reducible exact Rest.here) | apply Rest.there))) | (apply Fin.cons (by first | ((repeat (first | (with_reducible exact F0 _) | apply F1)); done) | (repeat (first | exact F0 _ | apply F1)))))) ?_
    rintro n _ _ ⟨i, hi, rfl, rfl, hA_⟩ ih
    replace hA_ := hA_.symm; subst hA_
    refine Run.seq ?_
    refine Run.sr ?_
    refine RunL.mv rfl rfl ?_
    refine RunL.mv rfl rfl ?_
    refine RunL.pure (Pure.lenSl rfl rfl und33) (Wt.none rfl) rfl rfl ?_
    refine RunL.pure (Pure.lss rfl rfl) (Wt.none rfl) rfl rfl ?_
    refine RunL.nil ?_
    refine Run.cond rfl (fun h2 => ?_) (fun h2 => ?_)
    · try simp only [ZA, ZB, ZC, ZD, ZE, ZF, ZG, ZH, ZI, ZJ, ZK, ZL, ZM, ZN, ZO, ZP, ZQ, ZR] at h2
      obtain ⟨b, T', pre, post, rfl, hro⟩ := hK.open1 (show 0 < xs.length by omega)
      obtain ⟨k, hk⟩ := get_some (xs := xs) (i := i) (by omega)
      refine Run.skip ?_
      refine Run.seq ?_
      refine Run.block ?_
      refine Run.sr ?_
      refine RunL.mv rfl rfl ?_
      refine RunL.mv rfl rfl ?_
      refine RunL.mv rfl rfl ?_
      refine RunL.pure (Pure.indexAddr rfl rfl und33 sz24 (by omega) (by omega)) (Wt.none rfl) rfl rfl ?_
      refine RunL.loadNR (vs := (cK k)) rfl hro agg24 sz24 (elemN_len (f := cK) (sz := 4) (j := 0) (n := 4) (fun _ _ => rfl) hk (by decide)) ((elemN_at (f := cK) (sz := 4) (j := 0) (n := 4) (fun _ _ => rfl) hk (by decide)).trans rfl) (Wt.none rfl) rfl ?_
      refine RunL.call rfl rfl (by rfl) (by repeat (first | (with_reducible exact Take.nil _) | (apply Take.cons (by first | ((repeat (first | (with_reducible exact F0 _) | apply F1)); done) | (repeat (first | exact F0 _ | apply F1)))))) (of_ctr) (Wt.none rfl) rfl ?_
      rintro _ _ ⟨rfl, hA_⟩
      replace hA_ := hA_.symm; subst hA_
      refine RunL.call rfl rfl (by rfl) (by repeat (first | (with_reducible exact Take.nil _) | (apply Take.cons (by first | ((repeat (first | (with_reducible exact F0 _) | apply F1)); done) | (repeat (first | exact F0 _ | apply F1)))))) (Get_ctr (l := tl) hT) (Wt.none rfl) rfl ?_
      rintro _ _ ⟨rfl, hA_⟩
      replace hA_ := hA_.symm; subst hA_
      refine RunL.mv rfl rfl ?_
      refine RunL.pure (Pure.extract rfl rfl) (Wt.none rfl) rfl rfl ?_
      refine RunL.pure (Pure.extract rfl rfl) (Wt.none rfl) rfl rfl ?_
      refine RunL.alloc zz26 (Wt.none rfl) rfl ?_; intro b9
      refine RunL.storeW (xs := (cPos ((mget k tl).getD noPos))) rfl rfl (by first | ((repeat (first | (with_reducible exact F0 _) | apply F1)); done) | (repeat (first | exact F0 _ | apply F1))) sz26 (by rfl) (by rfl) (by rfl) (Wt.none rfl) ?_
      refine RunL.as rfl rfl ?_
      refine RunL.nil ?_
      refine Run.sr ?_
      refine RunL.mv rfl rfl ?_
      refine RunL.mv rfl rfl ?_
      refine RunL.mv rfl rfl ?_
      refine RunL.pure (Pure.indexAddr rfl rfl und33 sz24 (by omega) (by omega)) (Wt.none rfl) rfl rfl ?_
      refine RunL.loadNR (vs := (cK k)) rfl hro agg24 sz24 (elemN_len (f := cK) (sz := 4) (j := 0) (n := 4) (fun _ _ => rfl) hk (by decide)) ((elemN_at (f := cK) (sz := 4) (j := 0) (n := 4) (fun _ _ => rfl) hk (by decide)).trans rfl) (Wt.none rfl) rfl ?_
      refine RunL.call rfl rfl (by rfl) (by repeat (first | (with_reducible exact Take.nil _) | (apply Take.cons (by first | ((repeat (first | (with_reducible exact F0 _) | apply F1)); done) | (repeat (first | exact F0 _ | apply F1)))))) (rGet_ctr hM (by rw [ML_len]; omega)) (Wt.none rfl) rfl ?_
      rintro _ _ ⟨z, rfl, hz, hA_⟩
      replace hA_ := hA_.symm; subst hA_
      rcases hz with ⟨rfl, hno⟩ | ⟨j, mm, rfl, hm2, hk2⟩
      · skip
        have hmg := ML_none hno
        refine RunL.as rfl rfl ?_
        refine RunL.nil ?_
        refine Run.seq ?_
        refine Run.regionD' (by kernel_rfl) (by kernel_rfl) (fun hok130 => ?_)
        refine RunD.lend (Q := row b9 26 _) Lends.row (by first | ((repeat (first | (with_reducible exact F0 _) | apply F1)); done) | (repeat (first | exact F0 _ | apply F1))) ?_; intro gl1 hlegl1 hl1 backgl1
        have h_gl1 := h.mono hlegl1
        have hrb3_gl1 := hrb3.mono hlegl1
        have hK_gl1 := hK.mono hlegl1
        have hM_gl1 := hM.mono hlegl1
        have hT_gl1 := hT.mono hlegl1
        refine RunD.pure (i := 0) hok130 rfl (by kernel_rfl) (Pure.move rfl) (Wt.none rfl) rfl rfl ?_
        refine RunD.pure (i := 1) hok130 rfl (by kernel_rfl) (Pure.move rfl) (Wt.none rfl) rfl rfl ?_
        refine RunD.pure (i := 2) hok130 rfl (by kernel_rfl) (Pure.geq rfl rfl) (Wt.none rfl) rfl rfl ?_
        refine RunD.pure (i := 3) hok130 rfl (by kernel_rfl) (Pure.bneq rfl rfl und4) (Wt.none rfl) rfl rfl ?_
        refine RunD.pure (i := 4) hok130 rfl (by kernel_rfl) (Pure.move rfl) (Wt.none rfl) rfl rfl ?_
        refine RunD.split (d := 65) rfl (fun hg1 => ?_) (fun hg1 => ?_)
        · try simp only [ZA, ZB, ZC, ZD, ZE, ZF, ZG, ZH, ZI, ZJ, ZK, ZL, ZM, ZN, ZO, ZP, ZQ, ZR] at hg1
          exfalso
          rw [hmg] at hg1; simp at hg1
        try simp only [ZA, ZB, ZC, ZD, ZE, ZF, ZG, ZH, ZI, ZJ, ZK, ZL, ZM, ZN, ZO, ZP, ZQ, ZR] at hg1
        refine RunD.pure (i := 5) hok130 rfl (by kernel_rfl) (Pure.move rfl) (Wt.yes rfl rfl rfl) rfl rfl ?_
        refine RunD.pure (i := 6) hok130 rfl (by kernel_rfl) (Pure.geq rfl rfl) (Wt.yes rfl rfl rfl) rfl rfl ?_
        refine RunD.pure (i := 7) hok130 rfl (by kernel_rfl) (Pure.move rfl) (Wt.yes rfl rfl rfl) rfl rfl ?_
        refine RunD.split (d := 68) rfl (fun hg2 => ?_) (fun hg2 => ?_)
        · try simp only [ZA, ZB, ZC, ZD, ZE, ZF, ZG, ZH, ZI, ZJ, ZK, ZL, ZM, ZN, ZO, ZP, ZQ, ZR] at hg2
          exfalso
          omega
        try simp only [ZA, ZB, ZC, ZD, ZE, ZF, ZG, ZH, ZI, ZJ, ZK, ZL, ZM, ZN, ZO, ZP, ZQ, ZR] at hg2
        refine RunD.not (i := 8) hok130 rfl (by kernel_rfl) rfl rfl (Wt.no rfl rfl rfl) ?_
        refine RunD.not (i := 9) hok130 rfl (by kernel_rfl) rfl rfl (Wt.no rfl rfl rfl) ?_
        refine RunD.not (i := 10) hok130 rfl (by kernel_rfl) rfl rfl (Wt.no rfl rfl rfl) ?_
        refine RunD.not (i := 11) hok130 rfl (by kernel_rfl) rfl rfl (Wt.no rfl rfl rfl) ?_
        refine RunD.not (i := 12) hok130 rfl (by kernel_rfl) rfl rfl (Wt.no rfl rfl rfl) ?_
        refine RunD.not (i := 13) hok130 rfl (by kernel_rfl) rfl rfl (Wt.no rfl rfl rfl) ?_
        refine RunD.not (i := 14) hok130 rfl (by kernel_rfl) rfl rfl (Wt.no rfl rfl rfl) ?_
        refine RunD.not (i := 15) hok130 rfl (by kernel_rfl) rfl rfl (Wt.no rfl rfl rfl) ?_
        refine RunD.pure (i := 16) hok130 rfl (by kernel_rfl) (Pure.pickF rfl rfl) (Wt.yes rfl rfl rfl) rfl rfl ?_
        refine RunD.pure (i := 17) hok130 rfl (by kernel_rfl) (Pure.pickF rfl rfl) (Wt.none rfl) rfl rfl ?_
        refine RunD.pure (i := 18) hok130 rfl (by kernel_rfl) (Pure.move rfl) (Wt.none rfl) rfl rfl ?_
        refine RunD.pure (i := 19) hok130 rfl (by kernel_rfl) (Pure.move rfl) (Wt.yes rfl rfl rfl) rfl rfl ?_
        refine RunD.pure (i := 20) hok130 rfl (by kernel_rfl) (Pure.lss rfl rfl) (Wt.yes rfl rfl rfl) rfl rfl ?_
        refine RunD.pure (i := 21) hok130 rfl (by kernel_rfl) (Pure.move rfl) (Wt.yes rfl rfl rfl) rfl rfl ?_
        refine RunD.split (d := 82) rfl (fun hg3 => ?_) (fun hg3 => ?_)
        rotate_left
        · try simp only [ZA, ZB, ZC, ZD, ZE, ZF, ZG, ZH, ZI, ZJ, ZK, ZL, ZM, ZN, ZO, ZP, ZQ, ZR] at hg3
          exfalso
          omega
        try simp only [ZA, ZB, ZC, ZD, ZE, ZF, ZG, ZH, ZI, ZJ, ZK, ZL, ZM, ZN, ZO, ZP, ZQ, ZR] at hg3
        refine RunD.loadNR (vs := (cPos ((mget k tl).getD noPos))) (i := 22) hok130 rfl (by kernel_rfl) rfl (by assumption) agg26 sz26 (by first | exact Nat.le_of_ble_eq_true rfl | (simp; done) | (simp; omega)) rfl (Wt.yes rfl rfl rfl) rfl ?_
        refine RunD.pure (i := 23) hok130 rfl (by kernel_rfl) (Pure.buildL (ps := []) (zs := [(.int .i64 0), (.string .empty)]) (xs := (cPos noPos)) pl26 rfl rfl rfl rfl) (Wt.yes rfl rfl rfl) rfl rfl ?_
        refine RunD.pure (i := 24) hok130 rfl (by kernel_rfl) (Pure.aneq rfl rfl eqg26 (eqv26 ((mget k tl).getD noPos) (noPos)) (by decide)) (Wt.yes rfl rfl rfl) rfl rfl ?_
        refine RunD.pure (i := 25) hok130 rfl (by kernel_rfl) (Pure.pickT rfl rfl) (Wt.yes rfl rfl rfl) rfl rfl ?_
        refine RunD.pure (i := 26) hok130 rfl (by kernel_rfl) (Pure.pickF rfl rfl) (Wt.none rfl) rfl rfl ?_
        refine RunD.nilB (by kernel_rfl) (fun w sw => backgl1 _ _ (sw)) ?_
        refine Run.cond rfl (fun hc4 => ?_) (fun hc4 => ?_)
        · try simp only [ZA, ZB, ZC, ZD, ZE, ZF, ZG, ZH, ZI, ZJ, ZK, ZL, ZM, ZN, ZO, ZP, ZQ, ZR] at hc4
          exfalso
          apply hc4; rw [hmg]; rfl
        try simp only [ZA, ZB, ZC, ZD, ZE, ZF, ZG, ZH, ZI, ZJ, ZK, ZL, ZM, ZN, ZO, ZP, ZQ, ZR] at hc4
        refine Run.skip ?_
        refine Run.inBlock ?_
        refine Run.region ?_
        refine RunL.mv rfl rfl ?_
        first | refine RunL.pure (Pure.addI rfl rfl (by omega)) (Wt.none rfl) rfl rfl ?_ | refine RunL.pure (Pure.add rfl rfl) (Wt.none rfl) rfl rfl ?_
        refine RunL.as rfl rfl ?_
        refine RunL.nil ?_
        refine Run.keep (.cons rfl (.cons rfl (.cons rfl (.cons rfl (.nil)))) : Keep _ [5, 6, 7, 8] _) ?_
        refine Run.againF (F := F) ih (by exact ⟨i + 1, by omega, rfl, rfl, rfl⟩) (by repeat (first | (with_reducible exact Fin.done (by repeat (first | (with_reducible exact Rest.here) | apply Rest.there))) | (apply Fin.cons (by first | ((repeat (first | (with_reducible exact F0 _) | apply F1)); done) | (repeat (first | exact F0 _ | apply F1)))))) ?_
        omega
      · skip
        have hmg := ML_mget hkn hm2
        rw [hk2] at hmg
        have hjl := (List.getElem?_eq_some_iff.1 hm2).1
        obtain ⟨b2, T2, pre2, post2, rfl, hro2⟩ := hM.open1 (show 0 < (ML tl).length by omega)
        refine RunL.as rfl rfl ?_
        refine RunL.nil ?_
        refine Run.seq ?_
        refine Run.regionD' (by kernel_rfl) (by kernel_rfl) (fun hok204 => ?_)
        refine RunD.lend (Q := row b9 26 _) Lends.row (by first | ((repeat (first | (with_reducible exact F0 _) | apply F1)); done) | (repeat (first | exact F0 _ | apply F1))) ?_; intro gl2 hlegl2 hl2 backgl2
        have h_gl2 := h.mono hlegl2
        have hrb3_gl2 := hrb3.mono hlegl2
        have hK_gl2 := hK.mono hlegl2
        have hM_gl2 := hM.mono hlegl2
        have hT_gl2 := hT.mono hlegl2
        have hro2_gl2 := hro2.mono hlegl2
        refine RunD.pure (i := 0) hok204 rfl (by kernel_rfl) (Pure.move rfl) (Wt.none rfl) rfl rfl ?_
        refine RunD.pure (i := 1) hok204 rfl (by kernel_rfl) (Pure.move rfl) (Wt.none rfl) rfl rfl ?_
        refine RunD.pure (i := 2) hok204 rfl (by kernel_rfl) (Pure.geq rfl rfl) (Wt.none rfl) rfl rfl ?_
        refine RunD.pure (i := 3) hok204 rfl (by kernel_rfl) (Pure.bneq rfl rfl und4) (Wt.none rfl) rfl rfl ?_
        refine RunD.pure (i := 4) hok204 rfl (by kernel_rfl) (Pure.move rfl) (Wt.none rfl) rfl rfl ?_
        refine RunD.split (d := 65) rfl (fun hg5 => ?_) (fun hg5 => ?_)
        · try simp only [ZA, ZB, ZC, ZD, ZE, ZF, ZG, ZH, ZI, ZJ, ZK, ZL, ZM, ZN, ZO, ZP, ZQ, ZR] at hg5
          exfalso
          rw [hmg] at hg5; simp at hg5; try omega
        try simp only [ZA, ZB, ZC, ZD, ZE, ZF, ZG, ZH, ZI, ZJ, ZK, ZL, ZM, ZN, ZO, ZP, ZQ, ZR] at hg5
        refine RunD.pure (i := 5) hok204 rfl (by kernel_rfl) (Pure.move rfl) (Wt.yes rfl rfl rfl) rfl rfl ?_
        refine RunD.pure (i := 6) hok204 rfl (by kernel_rfl) (Pure.geq rfl rfl) (Wt.yes rfl rfl rfl) rfl rfl ?_
        refine RunD.pure (i := 7) hok204 rfl (by kernel_rfl) (Pure.move rfl) (Wt.yes rfl rfl rfl) rfl rfl ?_
        refine RunD.split (d := 68) rfl (fun hg6 => ?_) (fun hg6 => ?_)
        rotate_left
        · try simp only [ZA, ZB, ZC, ZD, ZE, ZF, ZG, ZH, ZI, ZJ, ZK, ZL, ZM, ZN, ZO, ZP, ZQ, ZR] at hg6
          exfalso
          omega
        try simp only [ZA, ZB, ZC, ZD, ZE, ZF, ZG, ZH, ZI, ZJ, ZK, ZL, ZM, ZN, ZO, ZP, ZQ, ZR] at hg6
        refine RunD.loadNR (vs := (cPos ((mget k tl).getD noPos))) (i := 8) hok204 rfl (by kernel_rfl) rfl (by assumption) agg26 sz26 (by first | exact Nat.le_of_ble_eq_true rfl | (simp; done) | (simp; omega)) rfl (Wt.yes rfl rfl rfl) rfl ?_
        refine RunD.pure (i := 9) hok204 rfl (by kernel_rfl) (Pure.move rfl) (Wt.yes rfl rfl rfl) rfl rfl ?_
        refine RunD.pure (i := 10) hok204 rfl (by kernel_rfl) (Pure.move rfl) (Wt.yes rfl rfl rfl) rfl rfl ?_
        refine RunD.pure (i := 11) hok204 rfl (by kernel_rfl) (Pure.max2 rfl rfl) (Wt.yes rfl rfl rfl) rfl rfl ?_
        refine RunD.pure (i := 12) hok204 rfl (by kernel_rfl) (Pure.indexAddr rfl rfl und22 sz28 (by omega) (by omega)) (Wt.yes rfl rfl rfl) rfl rfl ?_
        refine RunD.pure (i := 13) hok204 rfl (by kernel_rfl) (Pure.fieldAddr rfl fo28_1) (Wt.yes rfl rfl rfl) rfl rfl ?_
        refine RunD.loadNR (vs := (cPos mm.pos)) (i := 14) hok204 rfl (by kernel_rfl) rfl hro2_gl2 agg26 sz26 (elemN_len (f := cM) (sz := 6) (j := 4) (n := 2) (fun _ _ => rfl) (show (ML tl)[(max (j : Int) 0).toNat]? = some mm from by rw [show (max (j : Int) 0).toNat = j from by omega]; exact hm2) (by decide)) ((elemN_at (f := cM) (sz := 6) (j := 4) (n := 2) (fun _ _ => rfl) (show (ML tl)[(max (j : Int) 0).toNat]? = some mm from by rw [show (max (j : Int) 0).toNat = j from by omega]; exact hm2) (by decide)).trans rfl) (Wt.yes rfl rfl rfl) rfl ?_
        refine RunD.pure (i := 15) hok204 rfl (by kernel_rfl) (Pure.aneq rfl rfl eqg26 (eqv26 ((mget k tl).getD noPos) (mm.pos)) (by decide)) (Wt.yes rfl rfl rfl) rfl rfl ?_
        refine RunD.pure (i := 16) hok204 rfl (by kernel_rfl) (Pure.pickT rfl rfl) (Wt.yes rfl rfl rfl) rfl rfl ?_
        refine RunD.pure (i := 17) hok204 rfl (by kernel_rfl) (Pure.pickF rfl rfl) (Wt.none rfl) rfl rfl ?_
        refine RunD.pure (i := 18) hok204 rfl (by kernel_rfl) (Pure.move rfl) (Wt.none rfl) rfl rfl ?_
        refine RunD.split (d := 79) rfl (fun hg7 => ?_) (fun hg7 => ?_)
        · try simp only [ZA, ZB, ZC, ZD, ZE, ZF, ZG, ZH, ZI, ZJ, ZK, ZL, ZM, ZN, ZO, ZP, ZQ, ZR] at hg7
          exfalso
          apply hg7; rw [hmg]; rfl
        try simp only [ZA, ZB, ZC, ZD, ZE, ZF, ZG, ZH, ZI, ZJ, ZK, ZL, ZM, ZN, ZO, ZP, ZQ, ZR] at hg7
        refine RunD.pure (i := 19) hok204 rfl (by kernel_rfl) (Pure.move rfl) (Wt.yes rfl rfl rfl) rfl rfl ?_
        refine RunD.pure (i := 20) hok204 rfl (by kernel_rfl) (Pure.lss rfl rfl) (Wt.yes rfl rfl rfl) rfl rfl ?_
        refine RunD.pure (i := 21) hok204 rfl (by kernel_rfl) (Pure.move rfl) (Wt.yes rfl rfl rfl) rfl rfl ?_
        refine RunD.split (d := 82) rfl (fun hg8 => ?_) (fun hg8 => ?_)
        · try simp only [ZA, ZB, ZC, ZD, ZE, ZF, ZG, ZH, ZI, ZJ, ZK, ZL, ZM, ZN, ZO, ZP, ZQ, ZR] at hg8
          exfalso
          omega
        try simp only [ZA, ZB, ZC, ZD, ZE, ZF, ZG, ZH, ZI, ZJ, ZK, ZL, ZM, ZN, ZO, ZP, ZQ, ZR] at hg8
        refine RunD.not (i := 22) hok204 rfl (by kernel_rfl) rfl rfl (Wt.no rfl rfl rfl) ?_
        refine RunD.not (i := 23) hok204 rfl (by kernel_rfl) rfl rfl (Wt.no rfl rfl rfl) ?_
        refine RunD.not (i := 24) hok204 rfl (by kernel_rfl) rfl rfl (Wt.no rfl rfl rfl) ?_
        refine RunD.pure (i := 25) hok204 rfl (by kernel_rfl) (Pure.pickF rfl rfl) (Wt.yes rfl rfl rfl) rfl rfl ?_
        refine RunD.pure (i := 26) hok204 rfl (by kernel_rfl) (Pure.pickF rfl rfl) (Wt.none rfl) rfl rfl ?_
        refine RunD.nilB (by kernel_rfl) (fun w sw => backgl2 _ _ (sw)) ?_
        refine Run.condF rfl ?_
        refine Run.skip ?_
        refine Run.inBlock ?_
        refine Run.region ?_
        refine RunL.mv rfl rfl ?_
        first | refine RunL.pure (Pure.addI rfl rfl (by omega)) (Wt.none rfl) rfl rfl ?_ | refine RunL.pure (Pure.add rfl rfl) (Wt.none rfl) rfl rfl ?_
        refine RunL.as rfl rfl ?_
        refine RunL.nil ?_
        refine Run.keep (.cons rfl (.cons rfl (.cons rfl (.cons rfl (.nil)))) : Keep _ [5, 6, 7, 8] _) ?_
        refine Run.againF (F := F) ih (by exact ⟨i + 1, by omega, rfl, rfl, rfl⟩) (by repeat (first | (with_reducible exact Fin.done (by repeat (first | (with_reducible exact Rest.here) | apply Rest.there))) | (apply Fin.cons (by first | ((repeat (first | (with_reducible exact F0 _) | apply F1)); done) | (repeat (first | exact F0 _ | apply F1)))))) ?_
        omega
    · try simp only [ZA, ZB, ZC, ZD, ZE, ZF, ZG, ZH, ZI, ZJ, ZK, ZL, ZM, ZN, ZO, ZP, ZQ, ZR] at h2
      refine Run.exit rfl ?_
      refine Run.sr ?_
      refine RunL.call rfl rfl (by rfl) (by repeat (first | (with_reducible exact Take.nil _) | (apply Take.cons (by first | ((repeat (first | (with_reducible exact F0 _) | apply F1)); done) | (repeat (first | exact F0 _ | apply F1)))))) (lives_ctr) (Wt.none rfl) rfl ?_
      rintro _ _ ⟨rfl, hA_⟩
      replace hA_ := hA_.symm; subst hA_
      refine RunL.as rfl rfl ?_
      refine RunL.nil ?_
      exact Run.ret Try.func3 (res1 rfl rfl) (by exact ⟨rfl, rfl⟩) (by repeat (first | (with_reducible exact Fin.done (by repeat (first | (with_reducible exact Rest.here) | apply Rest.there))) | (apply Fin.cons (by first | ((repeat (first | (with_reducible exact F0 _) | apply F1)); done) | (repeat (first | exact F0 _ | apply F1))))))
  · skip
    refine Run.cond rfl (fun h2 => ?_) (fun h2 => ?_)
    · try simp only [ZA, ZB, ZC, ZD, ZE, ZF, ZG, ZH, ZI, ZJ, ZK, ZL, ZM, ZN, ZO, ZP, ZQ, ZR] at h2
      refine Run.openSl (a := a') (n := (ML tl).length) (by first | ((repeat (first | (with_reducible exact F0 _) | apply F1)); done) | (repeat (first | exact F0 _ | apply F1))) (by omega) ?_; rintro b2 pre2 post2 rfl hsl1 hsl2 hsl3
      obtain ⟨mm, hmm⟩ := get_some (xs := ML tl) (i := ((((ML tl).length : Nat) : Int) / 2).toNat) (by omega)
      refine Run.region ?_
      refine RunL.mv rfl rfl ?_
      refine RunL.mv rfl rfl ?_
      refine RunL.mv rfl rfl ?_
      refine RunL.pure (Pure.lenSl rfl rfl und22) (Wt.none rfl) rfl rfl ?_
      first | refine RunL.pure (Pure.quoI rfl rfl (by omega) (by omega) (by omega)) (Wt.none rfl) rfl rfl ?_ | refine RunL.pure (Pure.quo rfl rfl (by omega)) (Wt.none rfl) rfl rfl ?_
      refine RunL.pure (Pure.indexAddr rfl rfl und22 sz28 (by omega) (by omega)) (Wt.none rfl) rfl rfl ?_
      refine RunL.pure (Pure.fieldAddr rfl fo28_0) (Wt.none rfl) rfl rfl ?_
      refine RunL.loadA (vs := (cK mm.k)) rfl (by first | ((repeat (first | (with_reducible exact F0 _) | apply F1)); done) | (repeat (first | exact F0 _ | apply F1))) agg24 sz24 (elemN_len (f := cM) (sz := 6) (j := 0) (n := 4) (fun _ _ => rfl) hmm (by decide)) ((elemN_at (f := cM) (sz := 6) (j := 0) (n := 4) (fun _ _ => rfl) hmm (by decide)).trans rfl) (Wt.none rfl) rfl ?_
      refine RunL.lit (vals := [_]) (vs := ([mm.k] : List K).flatMap cK) und33 sz24 zz24 rfl rfl rfl rfl rfl rfl (by simp [Value.cells, bv, cK, cM, cPos]) rfl (Wt.none rfl) rfl ?_; intro b37
      refine RunL.append (m := 1) (n' := (([(goodM m).k, (fewM m).k] : List K) ++ [mm.k]).length) (cs' := (([(goodM m).k, (fewM m).k] : List K) ++ [mm.k]).flatMap cK) rfl rfl (by first | ((repeat (first | (with_reducible exact F0 _) | apply F1)); done) | (repeat (first | exact F0 _ | apply F1))) rfl rfl und33 und33 rfl sz24 zz24 rfl by24 (by omega) (by omega) (fun w sw => sw.src) (isOne_flat (f := cK) (xs := [mm.k]) (fun _ => rfl)) rfl rfl (Wt.none rfl) rfl ?_; intro a1 c1
      refine RunL.mkSl (b := b2) (pre := pre2) (post := post2) (sz := 6) (cs := (ML tl).flatMap cM) (n := (ML tl).length) (by first | ((repeat (first | (with_reducible exact F0 _) | apply F1)); done) | (repeat (first | exact F0 _ | apply F1))) hsl1 hsl2 hsl3 ?_
      refine RunL.as rfl rfl ?_
      refine RunL.nil ?_
      refine Run.keep (.cons rfl (.cons rfl (.cons rfl (.nil))) : Keep _ [5, 6, 7] _) ?_
      exact Run.meetF (F := F) hk (by exact ⟨([(goodM m).k, (fewM m).k] : List K) ++ [mm.k], _, _, by simp, rfl, rfl⟩) (by repeat (first | (with_reducible exact Fin.done (by repeat (first | (with_reducible exact Rest.here) | apply Rest.there))) | (apply Fin.cons (by first | ((repeat (first | (with_reducible exact F0 _) | apply F1)); done) | (repeat (first | exact F0 _ | apply F1))))))
    · try simp only [ZA, ZB, ZC, ZD, ZE, ZF, ZG, ZH, ZI, ZJ, ZK, ZL, ZM, ZN, ZO, ZP, ZQ, ZR] at h2
      refine Run.skip ?_
      refine Run.keep (.cons rfl (.cons rfl (.cons rfl (.nil))) : Keep _ [5, 6, 7] _) ?_
      exact Run.meetF (F := F) hk (by exact ⟨([(goodM m).k, (fewM m).k] : List K), _, _, by simp, rfl, rfl⟩) (by repeat (first | (with_reducible exact Fin.done (by repeat (first | (with_reducible exact Rest.here) | apply Rest.there))) | (apply Fin.cons (by first | ((repeat (first | (with_reducible exact F0 _) | apply F1)); done) | (repeat (first | exact F0 _ | apply F1))))))

end Go.Proofs.Ytaeacdhilekcbaa
