/- The row of keys. -/
import Derived.Test.YtaeacdhilekcbaaR4
set_option linter.unusedVariables false
set_option linter.unusedSimpArgs false
namespace Go.Proofs.Ytaeacdhilekcbaa
open Go Csl
theorem und33 : Try.prog.underlying 33 = some (Go.TypeDesc.slice 24) := Try.underlying33
theorem zz24 : zeroIs Try.prog 24 = some (.agg #[(.string .empty), (.string .empty), (.string .empty), (.bool false)]) := by kernel_rfl

set_option maxRecDepth 100000 in
theorem ReceiptRow_ctr {G : Gp} {a b d : M} (ha : okM a) (hb : okM b) (hd : okM d) :
    Ctr Try.prog G 5 [.agg (cM a).toArray, .agg (cM b).toArray, .agg (cM d).toArray] [] (fun F v A => v = .bool true ∧ A = F) := by
  refine Ctr.intro Try.func5 rfl (by kernel_rfl) rfl (fun F => ?_)
  simp only [List.nil_append]
  refine Run.sr ?_
  refine RunL.boxA (xs := (cM a)) rfl (Wt.none rfl) rfl ?_; intro b3
  refine RunL.boxA (xs := (cM b)) rfl (Wt.none rfl) rfl ?_; intro b4
  refine RunL.boxA (xs := (cM d)) rfl (Wt.none rfl) rfl ?_; intro b5
  refine RunL.as rfl rfl ?_
  refine RunL.nil ?_
  refine Run.lendAll (Q := row b3 28 _) Lends.row (by first | ((repeat (first | (with_reducible exact F0 _) | apply F1)); done) | (repeat (first | exact F0 _ | apply F1))) (fun Ghr3 hleGhr3 hr3 => ?_)
  refine Run.lendAll (Q := row b4 28 _) Lends.row (by first | ((repeat (first | (with_reducible exact F0 _) | apply F1)); done) | (repeat (first | exact F0 _ | apply F1))) (fun Ghr4 hleGhr4 hr4 => ?_)
  replace hr3 := hr3.mono hleGhr4
  refine Run.lendAll (Q := row b5 28 _) Lends.row (by first | ((repeat (first | (with_reducible exact F0 _) | apply F1)); done) | (repeat (first | exact F0 _ | apply F1))) (fun Ghr5 hleGhr5 hr5 => ?_)
  replace hr3 := hr3.mono hleGhr5
  replace hr4 := hr4.mono hleGhr5
  refine Run.seq ?_
  refine Run.regionD' (by kernel_rfl) (by kernel_rfl) (fun hok13 => ?_)
  refine RunD.loadNR (vs := (cM a)) (i := 0) hok13 rfl (by kernel_rfl) rfl (by assumption) agg28 sz28 (by first | exact Nat.le_of_ble_eq_true rfl | (simp; done) | (simp; omega)) rfl (Wt.none rfl) rfl ?_
  refine RunD.loadNR (vs := (cM a)) (i := 3) hok13 rfl (by kernel_rfl) rfl (by assumption) agg28 sz28 (by first | exact Nat.le_of_ble_eq_true rfl | (simp; done) | (simp; omega)) rfl (Wt.none rfl) rfl ?_
  refine RunD.one (i := 1) (by kernel_rfl) rfl ?_
  refine RunL.call rfl rfl (by rfl) (by repeat (first | (with_reducible exact Take.nil _) | (apply Take.cons (by first | ((repeat (first | (with_reducible exact F0 _) | apply F1)); done) | (repeat (first | exact F0 _ | apply F1)))))) (Good_ctr ha) (Wt.none rfl) rfl ?_
  rintro _ _ ⟨rfl, hA_⟩
  replace hA_ := hA_.symm; subst hA_
  refine RunL.nilD' ?_
  refine RunD.pure (i := 2) hok13 rfl (by kernel_rfl) (Pure.fieldN (ys := (cK ((goodM a).k)).toArray) rfl und28 rfl agg24 sz24 rfl) (Wt.none rfl) rfl rfl ?_
  refine RunD.one (i := 4) (by kernel_rfl) rfl ?_
  refine RunL.call rfl rfl (by rfl) (by repeat (first | (with_reducible exact Take.nil _) | (apply Take.cons (by first | ((repeat (first | (with_reducible exact F0 _) | apply F1)); done) | (repeat (first | exact F0 _ | apply F1)))))) (FewM_ctr) (Wt.none rfl) rfl ?_
  rintro _ _ ⟨rfl, hA_⟩
  replace hA_ := hA_.symm; subst hA_
  refine RunL.nilD' ?_
  refine RunD.pure (i := 5) hok13 rfl (by kernel_rfl) (Pure.fieldN (ys := (cK ((fewM a).k)).toArray) rfl und28 rfl agg24 sz24 rfl) (Wt.none rfl) rfl rfl ?_
  refine RunD.one (i := 6) (by kernel_rfl) rfl ?_
  refine RunL.lit (vals := [_, _]) (vs := ([(goodM a).k, (fewM a).k] : List K).flatMap cK) und33 sz24 zz24 rfl rfl rfl rfl rfl rfl (by simp [Value.cells, bv, cK, cM, cPos]) rfl (Wt.none rfl) rfl ?_; intro b19
  refine RunL.nilD' ?_
  refine RunD.pure (i := 7) hok13 rfl (by kernel_rfl) (Pure.assign rfl) (Wt.none rfl) rfl rfl ?_
  refine RunD.nilR (by kernel_rfl) ?_
  refine Run.seq ?_
  refine Run.regionD' (by kernel_rfl) (by kernel_rfl) (fun hok34 => ?_)
  refine RunD.loadNR (vs := (cM b)) (i := 0) hok34 rfl (by kernel_rfl) rfl (by assumption) agg28 sz28 (by first | exact Nat.le_of_ble_eq_true rfl | (simp; done) | (simp; omega)) rfl (Wt.none rfl) rfl ?_
  refine RunD.loadNR (vs := (cM b)) (i := 3) hok34 rfl (by kernel_rfl) rfl (by assumption) agg28 sz28 (by first | exact Nat.le_of_ble_eq_true rfl | (simp; done) | (simp; omega)) rfl (Wt.none rfl) rfl ?_
  refine RunD.one (i := 1) (by kernel_rfl) rfl ?_
  refine RunL.call rfl rfl (by rfl) (by repeat (first | (with_reducible exact Take.nil _) | (apply Take.cons (by first | ((repeat (first | (with_reducible exact F0 _) | apply F1)); done) | (repeat (first | exact F0 _ | apply F1)))))) (Good_ctr hb) (Wt.none rfl) rfl ?_
  rintro _ _ ⟨rfl, hA_⟩
  replace hA_ := hA_.symm; subst hA_
  refine RunL.nilD' ?_
  refine RunD.pure (i := 2) hok34 rfl (by kernel_rfl) (Pure.fieldN (ys := (cK ((goodM b).k)).toArray) rfl und28 rfl agg24 sz24 rfl) (Wt.none rfl) rfl rfl ?_
  refine RunD.one (i := 4) (by kernel_rfl) rfl ?_
  refine RunL.call rfl rfl (by rfl) (by repeat (first | (with_reducible exact Take.nil _) | (apply Take.cons (by first | ((repeat (first | (with_reducible exact F0 _) | apply F1)); done) | (repeat (first | exact F0 _ | apply F1)))))) (FewM_ctr) (Wt.none rfl) rfl ?_
  rintro _ _ ⟨rfl, hA_⟩
  replace hA_ := hA_.symm; subst hA_
  refine RunL.nilD' ?_
  refine RunD.pure (i := 5) hok34 rfl (by kernel_rfl) (Pure.fieldN (ys := (cK ((fewM b).k)).toArray) rfl und28 rfl agg24 sz24 rfl) (Wt.none rfl) rfl rfl ?_
  refine RunD.one (i := 6) (by kernel_rfl) rfl ?_
  refine RunL.lit (vals := [_, _]) (vs := ([(goodM b).k, (fewM b).k] : List K).flatMap cK) und33 sz24 zz24 rfl rfl rfl rfl rfl rfl (by simp [Value.cells, bv, cK, cM, cPos]) rfl (Wt.none rfl) rfl ?_; intro b26
  refine RunL.nilD' ?_
  refine RunD.pure (i := 7) hok34 rfl (by kernel_rfl) (Pure.assign rfl) (Wt.none rfl) rfl rfl ?_
  refine RunD.nilR (by kernel_rfl) ?_
  refine Run.seq ?_
  refine Run.regionD' (by kernel_rfl) (by kernel_rfl) (fun hok55 => ?_)
  refine RunD.loadNR (vs := (cM d)) (i := 0) hok55 rfl (by kernel_rfl) rfl (by assumption) agg28 sz28 (by first | exact Nat.le_of_ble_eq_true rfl | (simp; done) | (simp; omega)) rfl (Wt.none rfl) rfl ?_
  refine RunD.loadNR (vs := (cM d)) (i := 3) hok55 rfl (by kernel_rfl) rfl (by assumption) agg28 sz28 (by first | exact Nat.le_of_ble_eq_true rfl | (simp; done) | (simp; omega)) rfl (Wt.none rfl) rfl ?_
  refine RunD.one (i := 1) (by kernel_rfl) rfl ?_
  refine RunL.call rfl rfl (by rfl) (by repeat (first | (with_reducible exact Take.nil _) | (apply Take.cons (by first | ((repeat (first | (with_reducible exact F0 _) | apply F1)); done) | (repeat (first | exact F0 _ | apply F1)))))) (Good_ctr hd) (Wt.none rfl) rfl ?_
  rintro _ _ ⟨rfl, hA_⟩
  replace hA_ := hA_.symm; subst hA_
  refine RunL.nilD' ?_
  refine RunD.pure (i := 2) hok55 rfl (by kernel_rfl) (Pure.fieldN (ys := (cK ((goodM d).k)).toArray) rfl und28 rfl agg24 sz24 rfl) (Wt.none rfl) rfl rfl ?_
  refine RunD.one (i := 4) (by kernel_rfl) rfl ?_
  refine RunL.call rfl rfl (by rfl) (by repeat (first | (with_reducible exact Take.nil _) | (apply Take.cons (by first | ((repeat (first | (with_reducible exact F0 _) | apply F1)); done) | (repeat (first | exact F0 _ | apply F1)))))) (FewM_ctr) (Wt.none rfl) rfl ?_
  rintro _ _ ⟨rfl, hA_⟩
  replace hA_ := hA_.symm; subst hA_
  refine RunL.nilD' ?_
  refine RunD.pure (i := 5) hok55 rfl (by kernel_rfl) (Pure.fieldN (ys := (cK ((fewM d).k)).toArray) rfl und28 rfl agg24 sz24 rfl) (Wt.none rfl) rfl rfl ?_
  refine RunD.one (i := 6) (by kernel_rfl) rfl ?_
  refine RunL.lit (vals := [_, _]) (vs := ([(goodM d).k, (fewM d).k] : List K).flatMap cK) und33 sz24 zz24 rfl rfl rfl rfl rfl rfl (by simp [Value.cells, bv, cK, cM, cPos]) rfl (Wt.none rfl) rfl ?_; intro b33
  refine RunL.nilD' ?_
  refine RunD.pure (i := 7) hok55 rfl (by kernel_rfl) (Pure.assign rfl) (Wt.none rfl) rfl rfl ?_
  refine RunD.nilR (by kernel_rfl) ?_
  refine Run.lendAll (Q := Sl 24 4 (some ⟨b19, 0, none⟩) 2 2 (([(goodM a).k, (fewM a).k] : List K).flatMap cK)) (Lends.litRow (n := 2)) (by first | ((repeat (first | (with_reducible exact F0 _) | apply F1)); done) | (repeat (first | exact F0 _ | apply F1))) (fun Ghsa0 hleGhsa0 hsa0 => ?_)
  replace hr3 := hr3.mono hleGhsa0
  replace hr4 := hr4.mono hleGhsa0
  replace hr5 := hr5.mono hleGhsa0
  obtain ⟨posta, hsa⟩ := hsa0
  refine Run.lendAll (Q := Sl 24 4 (some ⟨b26, 0, none⟩) 2 2 (([(goodM b).k, (fewM b).k] : List K).flatMap cK)) (Lends.litRow (n := 2)) (by first | ((repeat (first | (with_reducible exact F0 _) | apply F1)); done) | (repeat (first | exact F0 _ | apply F1))) (fun Ghsb0 hleGhsb0 hsb0 => ?_)
  replace hr3 := hr3.mono hleGhsb0
  replace hr4 := hr4.mono hleGhsb0
  replace hr5 := hr5.mono hleGhsb0
  replace hsa := hsa.mono hleGhsb0
  obtain ⟨postb, hsb⟩ := hsb0
  refine Run.lendAll (Q := Sl 24 4 (some ⟨b33, 0, none⟩) 2 2 (([(goodM d).k, (fewM d).k] : List K).flatMap cK)) (Lends.litRow (n := 2)) (by first | ((repeat (first | (with_reducible exact F0 _) | apply F1)); done) | (repeat (first | exact F0 _ | apply F1))) (fun Ghsd0 hleGhsd0 hsd0 => ?_)
  replace hr3 := hr3.mono hleGhsd0
  replace hr4 := hr4.mono hleGhsd0
  replace hr5 := hr5.mono hleGhsd0
  replace hsa := hsa.mono hleGhsd0
  replace hsb := hsb.mono hleGhsd0
  obtain ⟨postd, hsd⟩ := hsd0
  refine Run.seq ?_
  refine Run.sr ?_
  refine RunL.as rfl rfl ?_
  refine RunL.nil ?_
  refine Run.block ?_
  refine Run.keep (.cons rfl (.cons rfl (.cons rfl (.cons rfl (.nil)))) : Keep _ [7, 8, 9, 10] _) ?_
  refine Run.fit (F := F) (A2 := F) (by repeat (first | (with_reducible exact Fin.done (by repeat (first | (with_reducible exact Rest.here) | apply Rest.there))) | (apply Fin.cons (by first | ((repeat (first | (with_reducible exact F0 _) | apply F1)); done) | (repeat (first | exact F0 _ | apply F1)))))) ?_
  refine Run.loopR (fun n e A => ∃ i : Int, 0 ≤ i ∧ n = (2 - i).toNat ∧ e = [(7, .slice (some ⟨b19, 0, none⟩) 2 2), (8, .slice (some ⟨b26, 0, none⟩) 2 2), (9, .slice (some ⟨b33, 0, none⟩) 2 2), (10, .int .i64 i)] ∧ A = F) (2) ⟨0, by omega, rfl, rfl, rfl⟩ ?_
  rintro n _ _ ⟨i, hi0, rfl, rfl, rfl⟩ ih
  refine Run.seq ?_
  refine Run.sr ?_
  refine RunL.mv rfl rfl ?_
  refine RunL.pure (Pure.lss rfl rfl) (Wt.none rfl) rfl rfl ?_
  refine RunL.nil ?_
  refine Run.cond rfl (fun hi2 => ?_) (fun hi2 => ?_)
  · try simp only [ZA, ZB, ZC, ZD, ZE, ZF, ZG, ZH, ZI, ZJ, ZK, ZL, ZM, ZN, ZO, ZP, ZQ, ZR] at hi2
    obtain ⟨ka, hxa⟩ := get_some (xs := ([(goodM a).k, (fewM a).k] : List K)) (i := i.toNat) (by simp; omega)
    obtain ⟨kb, hxb⟩ := get_some (xs := ([(goodM b).k, (fewM b).k] : List K)) (i := i.toNat) (by simp; omega)
    obtain ⟨kd, hxd⟩ := get_some (xs := ([(goodM d).k, (fewM d).k] : List K)) (i := i.toNat) (by simp; omega)
    refine Run.skip ?_
    refine Run.seq ?_
    refine Run.block ?_
    refine Run.seq ?_
    refine Run.regionD' (by kernel_rfl) (by kernel_rfl) (fun hok116 => ?_)
    refine RunD.pure (i := 0) hok116 rfl (by kernel_rfl) (Pure.move rfl) (Wt.none rfl) rfl rfl ?_
    refine RunD.pure (i := 1) hok116 rfl (by kernel_rfl) (Pure.move rfl) (Wt.none rfl) rfl rfl ?_
    refine RunD.pure (i := 2) hok116 rfl (by kernel_rfl) (Pure.indexAddr rfl rfl und33 sz24 (by omega) (by omega)) (Wt.none rfl) rfl rfl ?_
    refine RunD.loadNR (vs := (cK ka)) (i := 3) hok116 rfl (by kernel_rfl) rfl hsa agg24 sz24 (elemN_len (pre := []) (post := posta) (f := cK) (sz := 4) (j := 0) (n := 4) (fun _ _ => rfl) hxa (by decide)) ((elemN_at (pre := []) (post := posta) (f := cK) (sz := 4) (j := 0) (n := 4) (fun _ _ => rfl) hxa (by decide)).trans rfl) (Wt.none rfl) rfl ?_
    refine RunD.pure (i := 5) hok116 rfl (by kernel_rfl) (Pure.move rfl) (Wt.none rfl) rfl rfl ?_
    refine RunD.pure (i := 6) hok116 rfl (by kernel_rfl) (Pure.move rfl) (Wt.none rfl) rfl rfl ?_
    refine RunD.pure (i := 7) hok116 rfl (by kernel_rfl) (Pure.indexAddr rfl rfl und33 sz24 (by omega) (by omega)) (Wt.none rfl) rfl rfl ?_
    refine RunD.loadNR (vs := (cK kb)) (i := 8) hok116 rfl (by kernel_rfl) rfl hsb agg24 sz24 (elemN_len (pre := []) (post := postb) (f := cK) (sz := 4) (j := 0) (n := 4) (fun _ _ => rfl) hxb (by decide)) ((elemN_at (pre := []) (post := postb) (f := cK) (sz := 4) (j := 0) (n := 4) (fun _ _ => rfl) hxb (by decide)).trans rfl) (Wt.none rfl) rfl ?_
    refine RunD.one (i := 4) (by kernel_rfl) rfl ?_
    refine RunL.call rfl rfl (by rfl) (by repeat (first | (with_reducible exact Take.nil _) | (apply Take.cons (by first | ((repeat (first | (with_reducible exact F0 _) | apply F1)); done) | (repeat (first | exact F0 _ | apply F1)))))) (of_ctr) (Wt.none rfl) rfl ?_
    rintro _ _ ⟨rfl, hA_⟩
    replace hA_ := hA_.symm; subst hA_
    refine RunL.nilD' ?_
    refine RunD.one (i := 9) (by kernel_rfl) rfl ?_
    refine RunL.call rfl rfl (by rfl) (by repeat (first | (with_reducible exact Take.nil _) | (apply Take.cons (by first | ((repeat (first | (with_reducible exact F0 _) | apply F1)); done) | (repeat (first | exact F0 _ | apply F1)))))) (of_ctr) (Wt.none rfl) rfl ?_
    rintro _ _ ⟨rfl, hA_⟩
    replace hA_ := hA_.symm; subst hA_
    refine RunL.nilD' ?_
    refine RunD.one (i := 10) (by kernel_rfl) rfl ?_
    refine RunL.call rfl rfl (by rfl) (by repeat (first | (with_reducible exact Take.nil _) | (apply Take.cons (by first | ((repeat (first | (with_reducible exact F0 _) | apply F1)); done) | (repeat (first | exact F0 _ | apply F1)))))) (Compare_ctr (p := ka) (q := kb)) (Wt.none rfl) rfl ?_
    rintro _ _ ⟨rfl, hA_⟩
    replace hA_ := hA_.symm; subst hA_
    refine RunL.nilD' ?_
    refine RunD.pure (i := 11) hok116 rfl (by kernel_rfl) (Pure.assign rfl) (Wt.none rfl) rfl rfl ?_
    refine RunD.nilR (by kernel_rfl) ?_
    refine Run.seq ?_
    refine Run.regionD' (by kernel_rfl) (by kernel_rfl) (fun hok143 => ?_)
    refine RunD.pure (i := 0) hok143 rfl (by kernel_rfl) (Pure.move rfl) (Wt.none rfl) rfl rfl ?_
    refine RunD.pure (i := 1) hok143 rfl (by kernel_rfl) (Pure.move rfl) (Wt.none rfl) rfl rfl ?_
    refine RunD.pure (i := 2) hok143 rfl (by kernel_rfl) (Pure.indexAddr rfl rfl und33 sz24 (by omega) (by omega)) (Wt.none rfl) rfl rfl ?_
    refine RunD.loadNR (vs := (cK kb)) (i := 3) hok143 rfl (by kernel_rfl) rfl hsb agg24 sz24 (elemN_len (pre := []) (post := postb) (f := cK) (sz := 4) (j := 0) (n := 4) (fun _ _ => rfl) hxb (by decide)) ((elemN_at (pre := []) (post := postb) (f := cK) (sz := 4) (j := 0) (n := 4) (fun _ _ => rfl) hxb (by decide)).trans rfl) (Wt.none rfl) rfl ?_
    refine RunD.pure (i := 5) hok143 rfl (by kernel_rfl) (Pure.move rfl) (Wt.none rfl) rfl rfl ?_
    refine RunD.pure (i := 6) hok143 rfl (by kernel_rfl) (Pure.move rfl) (Wt.none rfl) rfl rfl ?_
    refine RunD.pure (i := 7) hok143 rfl (by kernel_rfl) (Pure.indexAddr rfl rfl und33 sz24 (by omega) (by omega)) (Wt.none rfl) rfl rfl ?_
    refine RunD.loadNR (vs := (cK kd)) (i := 8) hok143 rfl (by kernel_rfl) rfl hsd agg24 sz24 (elemN_len (pre := []) (post := postd) (f := cK) (sz := 4) (j := 0) (n := 4) (fun _ _ => rfl) hxd (by decide)) ((elemN_at (pre := []) (post := postd) (f := cK) (sz := 4) (j := 0) (n := 4) (fun _ _ => rfl) hxd (by decide)).trans rfl) (Wt.none rfl) rfl ?_
    refine RunD.one (i := 4) (by kernel_rfl) rfl ?_
    refine RunL.call rfl rfl (by rfl) (by repeat (first | (with_reducible exact Take.nil _) | (apply Take.cons (by first | ((repeat (first | (with_reducible exact F0 _) | apply F1)); done) | (repeat (first | exact F0 _ | apply F1)))))) (of_ctr) (Wt.none rfl) rfl ?_
    rintro _ _ ⟨rfl, hA_⟩
    replace hA_ := hA_.symm; subst hA_
    refine RunL.nilD' ?_
    refine RunD.one (i := 9) (by kernel_rfl) rfl ?_
    refine RunL.call rfl rfl (by rfl) (by repeat (first | (with_reducible exact Take.nil _) | (apply Take.cons (by first | ((repeat (first | (with_reducible exact F0 _) | apply F1)); done) | (repeat (first | exact F0 _ | apply F1)))))) (of_ctr) (Wt.none rfl) rfl ?_
    rintro _ _ ⟨rfl, hA_⟩
    replace hA_ := hA_.symm; subst hA_
    refine RunL.nilD' ?_
    refine RunD.one (i := 10) (by kernel_rfl) rfl ?_
    refine RunL.call rfl rfl (by rfl) (by repeat (first | (with_reducible exact Take.nil _) | (apply Take.cons (by first | ((repeat (first | (with_reducible exact F0 _) | apply F1)); done) | (repeat (first | exact F0 _ | apply F1)))))) (Compare_ctr (p := kb) (q := kd)) (Wt.none rfl) rfl ?_
    rintro _ _ ⟨rfl, hA_⟩
    replace hA_ := hA_.symm; subst hA_
    refine RunL.nilD' ?_
    refine RunD.pure (i := 11) hok143 rfl (by kernel_rfl) (Pure.assign rfl) (Wt.none rfl) rfl rfl ?_
    refine RunD.nilR (by kernel_rfl) ?_
    refine Run.seq ?_
    refine Run.regionD' (by kernel_rfl) (by kernel_rfl) (fun hok170 => ?_)
    refine RunD.pure (i := 0) hok170 rfl (by kernel_rfl) (Pure.move rfl) (Wt.none rfl) rfl rfl ?_
    refine RunD.pure (i := 1) hok170 rfl (by kernel_rfl) (Pure.lss rfl rfl) (Wt.none rfl) rfl rfl ?_
    refine RunD.pure (i := 2) hok170 rfl (by kernel_rfl) (Pure.move rfl) (Wt.none rfl) rfl rfl ?_
    refine RunD.pure (i := 3) hok170 rfl (by kernel_rfl) (Pure.move rfl) (Wt.none rfl) rfl rfl ?_
    refine RunD.pure (i := 4) hok170 rfl (by kernel_rfl) (Pure.indexAddr rfl rfl und33 sz24 (by omega) (by omega)) (Wt.none rfl) rfl rfl ?_
    refine RunD.loadNR (vs := (cK ka)) (i := 5) hok170 rfl (by kernel_rfl) rfl hsa agg24 sz24 (elemN_len (pre := []) (post := posta) (f := cK) (sz := 4) (j := 0) (n := 4) (fun _ _ => rfl) hxa (by decide)) ((elemN_at (pre := []) (post := posta) (f := cK) (sz := 4) (j := 0) (n := 4) (fun _ _ => rfl) hxa (by decide)).trans rfl) (Wt.none rfl) rfl ?_
    refine RunD.pure (i := 6) hok170 rfl (by kernel_rfl) (Pure.move rfl) (Wt.none rfl) rfl rfl ?_
    refine RunD.pure (i := 7) hok170 rfl (by kernel_rfl) (Pure.move rfl) (Wt.none rfl) rfl rfl ?_
    refine RunD.pure (i := 8) hok170 rfl (by kernel_rfl) (Pure.indexAddr rfl rfl und33 sz24 (by omega) (by omega)) (Wt.none rfl) rfl rfl ?_
    refine RunD.loadNR (vs := (cK kb)) (i := 9) hok170 rfl (by kernel_rfl) rfl hsb agg24 sz24 (elemN_len (pre := []) (post := postb) (f := cK) (sz := 4) (j := 0) (n := 4) (fun _ _ => rfl) hxb (by decide)) ((elemN_at (pre := []) (post := postb) (f := cK) (sz := 4) (j := 0) (n := 4) (fun _ _ => rfl) hxb (by decide)).trans rfl) (Wt.none rfl) rfl ?_
    refine RunD.one (i := 10) (by kernel_rfl) rfl ?_
    have hanti := cmpK_law.anti ka kb
    have hrange := cmpK_law.range ka kb
    have heq0 := cmpK_law.eq0 ka kb
    have htr := cmpK_law.trans ka kb kd
    have hb1 := beforeK_cmp (a := ka) (b := kb)
    have hb2 := beforeK_cmp (a := kb) (b := ka)
    refine RunL.call rfl rfl (by rfl) (by repeat (first | (with_reducible exact Take.nil _) | (apply Take.cons (by first | ((repeat (first | (with_reducible exact F0 _) | apply F1)); done) | (repeat (first | exact F0 _ | apply F1)))))) (beforeK_ctr (p := ka) (q := kb)) (Wt.none rfl) rfl ?_
    rintro _ _ ⟨rfl, hA_⟩
    replace hA_ := hA_.symm; subst hA_
    refine RunL.nilD' ?_
    refine RunD.pure (i := 11) hok170 rfl (by kernel_rfl) (Pure.bneq rfl rfl und4) (Wt.none rfl) rfl rfl ?_
    refine RunD.pure (i := 12) hok170 rfl (by kernel_rfl) (Pure.move rfl) (Wt.none rfl) rfl rfl ?_
    refine RunD.split (d := 72) rfl (fun hg => ?_) (fun hg => ?_)
    · try simp only [ZA, ZB, ZC, ZD, ZE, ZF, ZG, ZH, ZI, ZJ, ZK, ZL, ZM, ZN, ZO, ZP, ZQ, ZR] at hg
      exfalso; apply hg; rw [Bool.eq_iff_iff, hb1]; simp
    · try simp only [ZA, ZB, ZC, ZD, ZE, ZF, ZG, ZH, ZI, ZJ, ZK, ZL, ZM, ZN, ZO, ZP, ZQ, ZR] at hg
      refine RunD.pure (i := 13) hok170 rfl (by kernel_rfl) (Pure.move rfl) (Wt.yes rfl rfl rfl) rfl rfl ?_
      refine RunD.pure (i := 14) hok170 rfl (by kernel_rfl) (Pure.gtr rfl rfl) (Wt.yes rfl rfl rfl) rfl rfl ?_
      refine RunD.pure (i := 15) hok170 rfl (by kernel_rfl) (Pure.move rfl) (Wt.yes rfl rfl rfl) rfl rfl ?_
      refine RunD.pure (i := 16) hok170 rfl (by kernel_rfl) (Pure.move rfl) (Wt.yes rfl rfl rfl) rfl rfl ?_
      refine RunD.pure (i := 17) hok170 rfl (by kernel_rfl) (Pure.indexAddr rfl rfl und33 sz24 (by omega) (by omega)) (Wt.yes rfl rfl rfl) rfl rfl ?_
      refine RunD.loadNR (vs := (cK kb)) (i := 18) hok170 rfl (by kernel_rfl) rfl hsb agg24 sz24 (elemN_len (pre := []) (post := postb) (f := cK) (sz := 4) (j := 0) (n := 4) (fun _ _ => rfl) hxb (by decide)) ((elemN_at (pre := []) (post := postb) (f := cK) (sz := 4) (j := 0) (n := 4) (fun _ _ => rfl) hxb (by decide)).trans rfl) (Wt.yes rfl rfl rfl) rfl ?_
      refine RunD.pure (i := 19) hok170 rfl (by kernel_rfl) (Pure.move rfl) (Wt.yes rfl rfl rfl) rfl rfl ?_
      refine RunD.pure (i := 20) hok170 rfl (by kernel_rfl) (Pure.move rfl) (Wt.yes rfl rfl rfl) rfl rfl ?_
      refine RunD.pure (i := 21) hok170 rfl (by kernel_rfl) (Pure.indexAddr rfl rfl und33 sz24 (by omega) (by omega)) (Wt.yes rfl rfl rfl) rfl rfl ?_
      refine RunD.loadNR (vs := (cK ka)) (i := 22) hok170 rfl (by kernel_rfl) rfl hsa agg24 sz24 (elemN_len (pre := []) (post := posta) (f := cK) (sz := 4) (j := 0) (n := 4) (fun _ _ => rfl) hxa (by decide)) ((elemN_at (pre := []) (post := posta) (f := cK) (sz := 4) (j := 0) (n := 4) (fun _ _ => rfl) hxa (by decide)).trans rfl) (Wt.yes rfl rfl rfl) rfl ?_
      refine RunD.one (i := 23) (by kernel_rfl) rfl ?_
      refine RunL.call rfl rfl (by rfl) (by repeat (first | (with_reducible exact Take.nil _) | (apply Take.cons (by first | ((repeat (first | (with_reducible exact F0 _) | apply F1)); done) | (repeat (first | exact F0 _ | apply F1)))))) (beforeK_ctr (p := kb) (q := ka)) (Wt.yes rfl rfl rfl) rfl ?_
      rintro _ _ ⟨rfl, hA_⟩
      replace hA_ := hA_.symm; subst hA_
      refine RunL.nilD' ?_
      refine RunD.pure (i := 24) hok170 rfl (by kernel_rfl) (Pure.bneq rfl rfl und4) (Wt.yes rfl rfl rfl) rfl rfl ?_
      refine RunD.pure (i := 25) hok170 rfl (by kernel_rfl) (Pure.pickF rfl rfl) (Wt.none rfl) rfl rfl ?_
      refine RunD.pure (i := 26) hok170 rfl (by kernel_rfl) (Pure.move rfl) (Wt.none rfl) rfl rfl ?_
      refine RunD.split (d := 86) rfl (fun hg2 => ?_) (fun hg2 => ?_)
      · try simp only [ZA, ZB, ZC, ZD, ZE, ZF, ZG, ZH, ZI, ZJ, ZK, ZL, ZM, ZN, ZO, ZP, ZQ, ZR] at hg2
        exfalso; apply hg2; rw [Bool.eq_iff_iff, hb2]; simp; omega
      · try simp only [ZA, ZB, ZC, ZD, ZE, ZF, ZG, ZH, ZI, ZJ, ZK, ZL, ZM, ZN, ZO, ZP, ZQ, ZR] at hg2
        refine RunD.pure (i := 27) hok170 rfl (by kernel_rfl) (Pure.move rfl) (Wt.yes rfl rfl rfl) rfl rfl ?_
        refine RunD.pure (i := 28) hok170 rfl (by kernel_rfl) (Pure.eql rfl rfl) (Wt.yes rfl rfl rfl) rfl rfl ?_
        refine RunD.pure (i := 29) hok170 rfl (by kernel_rfl) (Pure.move rfl) (Wt.yes rfl rfl rfl) rfl rfl ?_
        refine RunD.pure (i := 30) hok170 rfl (by kernel_rfl) (Pure.move rfl) (Wt.yes rfl rfl rfl) rfl rfl ?_
        refine RunD.pure (i := 31) hok170 rfl (by kernel_rfl) (Pure.indexAddr rfl rfl und33 sz24 (by omega) (by omega)) (Wt.yes rfl rfl rfl) rfl rfl ?_
        refine RunD.loadNR (vs := (cK ka)) (i := 32) hok170 rfl (by kernel_rfl) rfl hsa agg24 sz24 (elemN_len (pre := []) (post := posta) (f := cK) (sz := 4) (j := 0) (n := 4) (fun _ _ => rfl) hxa (by decide)) ((elemN_at (pre := []) (post := posta) (f := cK) (sz := 4) (j := 0) (n := 4) (fun _ _ => rfl) hxa (by decide)).trans rfl) (Wt.yes rfl rfl rfl) rfl ?_
        refine RunD.pure (i := 33) hok170 rfl (by kernel_rfl) (Pure.move rfl) (Wt.yes rfl rfl rfl) rfl rfl ?_
        refine RunD.pure (i := 34) hok170 rfl (by kernel_rfl) (Pure.move rfl) (Wt.yes rfl rfl rfl) rfl rfl ?_
        refine RunD.pure (i := 35) hok170 rfl (by kernel_rfl) (Pure.indexAddr rfl rfl und33 sz24 (by omega) (by omega)) (Wt.yes rfl rfl rfl) rfl rfl ?_
        refine RunD.loadNR (vs := (cK kb)) (i := 36) hok170 rfl (by kernel_rfl) rfl hsb agg24 sz24 (elemN_len (pre := []) (post := postb) (f := cK) (sz := 4) (j := 0) (n := 4) (fun _ _ => rfl) hxb (by decide)) ((elemN_at (pre := []) (post := postb) (f := cK) (sz := 4) (j := 0) (n := 4) (fun _ _ => rfl) hxb (by decide)).trans rfl) (Wt.yes rfl rfl rfl) rfl ?_
        refine RunD.pure (i := 37) hok170 rfl (by kernel_rfl) (Pure.aeql rfl rfl eqg24 (eqv24 (ka) (kb)) (by decide)) (Wt.yes rfl rfl rfl) rfl rfl ?_
        refine RunD.pure (i := 38) hok170 rfl (by kernel_rfl) (Pure.bneq rfl rfl und4) (Wt.yes rfl rfl rfl) rfl rfl ?_
        refine RunD.pure (i := 39) hok170 rfl (by kernel_rfl) (Pure.pickF rfl rfl) (Wt.none rfl) rfl rfl ?_
        refine RunD.pure (i := 40) hok170 rfl (by kernel_rfl) (Pure.move rfl) (Wt.none rfl) rfl rfl ?_
        refine RunD.split (d := 100) rfl (fun hg3 => ?_) (fun hg3 => ?_)
        · try simp only [ZA, ZB, ZC, ZD, ZE, ZF, ZG, ZH, ZI, ZJ, ZK, ZL, ZM, ZN, ZO, ZP, ZQ, ZR] at hg3
          exfalso; apply hg3; rw [Bool.eq_iff_iff]; simp [heq0]
        · try simp only [ZA, ZB, ZC, ZD, ZE, ZF, ZG, ZH, ZI, ZJ, ZK, ZL, ZM, ZN, ZO, ZP, ZQ, ZR] at hg3
          refine RunD.pure (i := 41) hok170 rfl (by kernel_rfl) (Pure.move rfl) (Wt.yes rfl rfl rfl) rfl rfl ?_
          refine RunD.pure (i := 42) hok170 rfl (by kernel_rfl) (Pure.lss rfl rfl) (Wt.yes rfl rfl rfl) rfl rfl ?_
          refine RunD.pure (i := 43) hok170 rfl (by kernel_rfl) (Pure.pickF rfl rfl) (Wt.none rfl) rfl rfl ?_
          refine RunD.pure (i := 44) hok170 rfl (by kernel_rfl) (Pure.move rfl) (Wt.none rfl) rfl rfl ?_
          refine RunD.split (d := 104) rfl (fun hg4 => ?_) (fun hg4 => ?_)
          · try simp only [ZA, ZB, ZC, ZD, ZE, ZF, ZG, ZH, ZI, ZJ, ZK, ZL, ZM, ZN, ZO, ZP, ZQ, ZR] at hg4
            exfalso; omega
          · try simp only [ZA, ZB, ZC, ZD, ZE, ZF, ZG, ZH, ZI, ZJ, ZK, ZL, ZM, ZN, ZO, ZP, ZQ, ZR] at hg4
            refine RunD.pure (i := 45) hok170 rfl (by kernel_rfl) (Pure.move rfl) (Wt.yes rfl rfl rfl) rfl rfl ?_
            refine RunD.pure (i := 46) hok170 rfl (by kernel_rfl) (Pure.gtr rfl rfl) (Wt.yes rfl rfl rfl) rfl rfl ?_
            refine RunD.pure (i := 47) hok170 rfl (by kernel_rfl) (Pure.pickF rfl rfl) (Wt.none rfl) rfl rfl ?_
            refine RunD.pure (i := 48) hok170 rfl (by kernel_rfl) (Pure.move rfl) (Wt.none rfl) rfl rfl ?_
            refine RunD.split (d := 108) rfl (fun hg5 => ?_) (fun hg5 => ?_)
            · try simp only [ZA, ZB, ZC, ZD, ZE, ZF, ZG, ZH, ZI, ZJ, ZK, ZL, ZM, ZN, ZO, ZP, ZQ, ZR] at hg5
              exfalso; omega
            · try simp only [ZA, ZB, ZC, ZD, ZE, ZF, ZG, ZH, ZI, ZJ, ZK, ZL, ZM, ZN, ZO, ZP, ZQ, ZR] at hg5
              refine RunD.pure (i := 49) hok170 rfl (by kernel_rfl) (Pure.move rfl) (Wt.yes rfl rfl rfl) rfl rfl ?_
              refine RunD.pure (i := 50) hok170 rfl (by kernel_rfl) (Pure.leq rfl rfl) (Wt.yes rfl rfl rfl) rfl rfl ?_
              refine RunD.pure (i := 51) hok170 rfl (by kernel_rfl) (Pure.move rfl) (Wt.yes rfl rfl rfl) rfl rfl ?_
              refine RunD.split (d := 111) rfl (fun hg6 => ?_) (fun hg6 => ?_)
              · try simp only [ZA, ZB, ZC, ZD, ZE, ZF, ZG, ZH, ZI, ZJ, ZK, ZL, ZM, ZN, ZO, ZP, ZQ, ZR] at hg6
                refine RunD.pure (i := 52) hok170 rfl (by kernel_rfl) (Pure.move rfl) (Wt.yes rfl rfl rfl) rfl rfl ?_
                refine RunD.pure (i := 53) hok170 rfl (by kernel_rfl) (Pure.leq rfl rfl) (Wt.yes rfl rfl rfl) rfl rfl ?_
                refine RunD.pure (i := 54) hok170 rfl (by kernel_rfl) (Pure.pickT rfl rfl) (Wt.yes rfl rfl rfl) rfl rfl ?_
                refine RunD.pure (i := 55) hok170 rfl (by kernel_rfl) (Pure.move rfl) (Wt.yes rfl rfl rfl) rfl rfl ?_
                refine RunD.split (d := 115) rfl (fun hg7 => ?_) (fun hg7 => ?_)
                · try simp only [ZA, ZB, ZC, ZD, ZE, ZF, ZG, ZH, ZI, ZJ, ZK, ZL, ZM, ZN, ZO, ZP, ZQ, ZR] at hg7
                  refine RunD.pure (i := 56) hok170 rfl (by kernel_rfl) (Pure.move rfl) (Wt.yes rfl rfl rfl) rfl rfl ?_
                  refine RunD.pure (i := 57) hok170 rfl (by kernel_rfl) (Pure.move rfl) (Wt.yes rfl rfl rfl) rfl rfl ?_
                  refine RunD.pure (i := 58) hok170 rfl (by kernel_rfl) (Pure.indexAddr rfl rfl und33 sz24 (by omega) (by omega)) (Wt.yes rfl rfl rfl) rfl rfl ?_
                  refine RunD.loadNR (vs := (cK ka)) (i := 59) hok170 rfl (by kernel_rfl) rfl hsa agg24 sz24 (elemN_len (pre := []) (post := posta) (f := cK) (sz := 4) (j := 0) (n := 4) (fun _ _ => rfl) hxa (by decide)) ((elemN_at (pre := []) (post := posta) (f := cK) (sz := 4) (j := 0) (n := 4) (fun _ _ => rfl) hxa (by decide)).trans rfl) (Wt.yes rfl rfl rfl) rfl ?_
                  refine RunD.pure (i := 61) hok170 rfl (by kernel_rfl) (Pure.move rfl) (Wt.yes rfl rfl rfl) rfl rfl ?_
                  refine RunD.pure (i := 62) hok170 rfl (by kernel_rfl) (Pure.move rfl) (Wt.yes rfl rfl rfl) rfl rfl ?_
                  refine RunD.pure (i := 63) hok170 rfl (by kernel_rfl) (Pure.indexAddr rfl rfl und33 sz24 (by omega) (by omega)) (Wt.yes rfl rfl rfl) rfl rfl ?_
                  refine RunD.loadNR (vs := (cK kd)) (i := 64) hok170 rfl (by kernel_rfl) rfl hsd agg24 sz24 (elemN_len (pre := []) (post := postd) (f := cK) (sz := 4) (j := 0) (n := 4) (fun _ _ => rfl) hxd (by decide)) ((elemN_at (pre := []) (post := postd) (f := cK) (sz := 4) (j := 0) (n := 4) (fun _ _ => rfl) hxd (by decide)).trans rfl) (Wt.yes rfl rfl rfl) rfl ?_
                  refine RunD.one (i := 60) (by kernel_rfl) rfl ?_
                  refine RunL.call rfl rfl (by rfl) (by repeat (first | (with_reducible exact Take.nil _) | (apply Take.cons (by first | ((repeat (first | (with_reducible exact F0 _) | apply F1)); done) | (repeat (first | exact F0 _ | apply F1)))))) (of_ctr) (Wt.yes rfl rfl rfl) rfl ?_
                  rintro _ _ ⟨rfl, hA_⟩
                  replace hA_ := hA_.symm; subst hA_
                  refine RunL.nilD' ?_
                  refine RunD.one (i := 65) (by kernel_rfl) rfl ?_
                  refine RunL.call rfl rfl (by rfl) (by repeat (first | (with_reducible exact Take.nil _) | (apply Take.cons (by first | ((repeat (first | (with_reducible exact F0 _) | apply F1)); done) | (repeat (first | exact F0 _ | apply F1)))))) (of_ctr) (Wt.yes rfl rfl rfl) rfl ?_
                  rintro _ _ ⟨rfl, hA_⟩
                  replace hA_ := hA_.symm; subst hA_
                  refine RunL.nilD' ?_
                  refine RunD.one (i := 66) (by kernel_rfl) rfl ?_
                  refine RunL.call rfl rfl (by rfl) (by repeat (first | (with_reducible exact Take.nil _) | (apply Take.cons (by first | ((repeat (first | (with_reducible exact F0 _) | apply F1)); done) | (repeat (first | exact F0 _ | apply F1)))))) (Compare_ctr (p := ka) (q := kd)) (Wt.yes rfl rfl rfl) rfl ?_
                  rintro _ _ ⟨rfl, hA_⟩
                  replace hA_ := hA_.symm; subst hA_
                  refine RunL.nilD' ?_
                  refine RunD.pure (i := 67) hok170 rfl (by kernel_rfl) (Pure.gtr rfl rfl) (Wt.yes rfl rfl rfl) rfl rfl ?_
                  refine RunD.pure (i := 68) hok170 rfl (by kernel_rfl) (Pure.pickT rfl rfl) (Wt.yes rfl rfl rfl) rfl rfl ?_
                  refine RunD.pure (i := 69) hok170 rfl (by kernel_rfl) (Pure.pickF rfl rfl) (Wt.none rfl) rfl rfl ?_
                  refine RunD.nilR (by kernel_rfl) ?_
                  refine Run.cond rfl (fun hg8 => ?_) (fun hg8 => ?_)
                  · try simp only [ZA, ZB, ZC, ZD, ZE, ZF, ZG, ZH, ZI, ZJ, ZK, ZL, ZM, ZN, ZO, ZP, ZQ, ZR] at hg8
                    exfalso; omega
                  · try simp only [ZA, ZB, ZC, ZD, ZE, ZF, ZG, ZH, ZI, ZJ, ZK, ZL, ZM, ZN, ZO, ZP, ZQ, ZR] at hg8
                    refine Run.skip ?_
                    refine Run.inBlock ?_
                    refine Run.region ?_
                    refine RunL.mv rfl rfl ?_
                    first | refine RunL.pure (Pure.addI rfl rfl (by omega)) (Wt.none rfl) rfl rfl ?_ | refine RunL.pure (Pure.add rfl rfl) (Wt.none rfl) rfl rfl ?_
                    refine RunL.as rfl rfl ?_
                    refine RunL.nil ?_
                    refine Run.keep (.cons rfl (.cons rfl (.cons rfl (.cons rfl (.nil)))) : Keep _ [7, 8, 9, 10] _) ?_
                    refine ih _ _ _ ?_ ⟨i + 1, by omega, rfl, rfl, rfl⟩
                    omega
                · try simp only [ZA, ZB, ZC, ZD, ZE, ZF, ZG, ZH, ZI, ZJ, ZK, ZL, ZM, ZN, ZO, ZP, ZQ, ZR] at hg7
                  refine RunD.not (i := 56) hok170 rfl (by kernel_rfl) rfl rfl (Wt.no rfl rfl rfl) ?_
                  refine RunD.not (i := 57) hok170 rfl (by kernel_rfl) rfl rfl (Wt.no rfl rfl rfl) ?_
                  refine RunD.not (i := 58) hok170 rfl (by kernel_rfl) rfl rfl (Wt.no rfl rfl rfl) ?_
                  refine RunD.not (i := 59) hok170 rfl (by kernel_rfl) rfl rfl (Wt.no rfl rfl rfl) ?_
                  refine RunD.not (i := 60) hok170 rfl (by kernel_rfl) rfl rfl (Wt.no rfl rfl rfl) ?_
                  refine RunD.not (i := 61) hok170 rfl (by kernel_rfl) rfl rfl (Wt.no rfl rfl rfl) ?_
                  refine RunD.not (i := 62) hok170 rfl (by kernel_rfl) rfl rfl (Wt.no rfl rfl rfl) ?_
                  refine RunD.not (i := 63) hok170 rfl (by kernel_rfl) rfl rfl (Wt.no rfl rfl rfl) ?_
                  refine RunD.not (i := 64) hok170 rfl (by kernel_rfl) rfl rfl (Wt.no rfl rfl rfl) ?_
                  refine RunD.not (i := 65) hok170 rfl (by kernel_rfl) rfl rfl (Wt.no rfl rfl rfl) ?_
                  refine RunD.not (i := 66) hok170 rfl (by kernel_rfl) rfl rfl (Wt.no rfl rfl rfl) ?_
                  refine RunD.not (i := 67) hok170 rfl (by kernel_rfl) rfl rfl (Wt.no rfl rfl rfl) ?_
                  refine RunD.pure (i := 68) hok170 rfl (by kernel_rfl) (Pure.pickF rfl rfl) (Wt.yes rfl rfl rfl) rfl rfl ?_
                  refine RunD.pure (i := 69) hok170 rfl (by kernel_rfl) (Pure.pickF rfl rfl) (Wt.none rfl) rfl rfl ?_
                  refine RunD.nilR (by kernel_rfl) ?_
                  refine Run.condF rfl ?_
                  refine Run.skip ?_
                  refine Run.inBlock ?_
                  refine Run.region ?_
                  refine RunL.mv rfl rfl ?_
                  first | refine RunL.pure (Pure.addI rfl rfl (by omega)) (Wt.none rfl) rfl rfl ?_ | refine RunL.pure (Pure.add rfl rfl) (Wt.none rfl) rfl rfl ?_
                  refine RunL.as rfl rfl ?_
                  refine RunL.nil ?_
                  refine Run.keep (.cons rfl (.cons rfl (.cons rfl (.cons rfl (.nil)))) : Keep _ [7, 8, 9, 10] _) ?_
                  refine ih _ _ _ ?_ ⟨i + 1, by omega, rfl, rfl, rfl⟩
                  omega
              · try simp only [ZA, ZB, ZC, ZD, ZE, ZF, ZG, ZH, ZI, ZJ, ZK, ZL, ZM, ZN, ZO, ZP, ZQ, ZR] at hg6
                refine RunD.not (i := 52) hok170 rfl (by kernel_rfl) rfl rfl (Wt.no rfl rfl rfl) ?_
                refine RunD.not (i := 53) hok170 rfl (by kernel_rfl) rfl rfl (Wt.no rfl rfl rfl) ?_
                refine RunD.pure (i := 54) hok170 rfl (by kernel_rfl) (Pure.pickF rfl rfl) (Wt.yes rfl rfl rfl) rfl rfl ?_
                refine RunD.pure (i := 55) hok170 rfl (by kernel_rfl) (Pure.move rfl) (Wt.yes rfl rfl rfl) rfl rfl ?_
                refine RunD.not (i := 56) hok170 rfl (by kernel_rfl) rfl rfl (Wt.no rfl rfl rfl) ?_
                refine RunD.not (i := 57) hok170 rfl (by kernel_rfl) rfl rfl (Wt.no rfl rfl rfl) ?_
                refine RunD.not (i := 58) hok170 rfl (by kernel_rfl) rfl rfl (Wt.no rfl rfl rfl) ?_
                refine RunD.not (i := 59) hok170 rfl (by kernel_rfl) rfl rfl (Wt.no rfl rfl rfl) ?_
                refine RunD.not (i := 60) hok170 rfl (by kernel_rfl) rfl rfl (Wt.no rfl rfl rfl) ?_
                refine RunD.not (i := 61) hok170 rfl (by kernel_rfl) rfl rfl (Wt.no rfl rfl rfl) ?_
                refine RunD.not (i := 62) hok170 rfl (by kernel_rfl) rfl rfl (Wt.no rfl rfl rfl) ?_
                refine RunD.not (i := 63) hok170 rfl (by kernel_rfl) rfl rfl (Wt.no rfl rfl rfl) ?_
                refine RunD.not (i := 64) hok170 rfl (by kernel_rfl) rfl rfl (Wt.no rfl rfl rfl) ?_
                refine RunD.not (i := 65) hok170 rfl (by kernel_rfl) rfl rfl (Wt.no rfl rfl rfl) ?_
                refine RunD.not (i := 66) hok170 rfl (by kernel_rfl) rfl rfl (Wt.no rfl rfl rfl) ?_
                refine RunD.not (i := 67) hok170 rfl (by kernel_rfl) rfl rfl (Wt.no rfl rfl rfl) ?_
                refine RunD.pure (i := 68) hok170 rfl (by kernel_rfl) (Pure.pickF rfl rfl) (Wt.yes rfl rfl rfl) rfl rfl ?_
                refine RunD.pure (i := 69) hok170 rfl (by kernel_rfl) (Pure.pickF rfl rfl) (Wt.none rfl) rfl rfl ?_
                refine RunD.nilR (by kernel_rfl) ?_
                refine Run.condF rfl ?_
                refine Run.skip ?_
                refine Run.inBlock ?_
                refine Run.region ?_
                refine RunL.mv rfl rfl ?_
                first | refine RunL.pure (Pure.addI rfl rfl (by omega)) (Wt.none rfl) rfl rfl ?_ | refine RunL.pure (Pure.add rfl rfl) (Wt.none rfl) rfl rfl ?_
                refine RunL.as rfl rfl ?_
                refine RunL.nil ?_
                refine Run.keep (.cons rfl (.cons rfl (.cons rfl (.cons rfl (.nil)))) : Keep _ [7, 8, 9, 10] _) ?_
                refine ih _ _ _ ?_ ⟨i + 1, by omega, rfl, rfl, rfl⟩
                omega
  · try simp only [ZA, ZB, ZC, ZD, ZE, ZF, ZG, ZH, ZI, ZJ, ZK, ZL, ZM, ZN, ZO, ZP, ZQ, ZR] at hi2
    refine Run.exit rfl ?_
    refine Run.sr ?_
    refine RunL.call rfl rfl (by rfl) (by repeat (first | (with_reducible exact Take.nil _) | (apply Take.cons (by first | ((repeat (first | (with_reducible exact F0 _) | apply F1)); done) | (repeat (first | exact F0 _ | apply F1)))))) (lives_ctr) (Wt.none rfl) rfl ?_
    rintro _ _ ⟨rfl, hA_⟩
    replace hA_ := hA_.symm; subst hA_
    refine RunL.as rfl rfl ?_
    refine RunL.nil ?_
    exact Run.ret Try.func5 (res1 rfl rfl) (by exact ⟨rfl, rfl⟩) (by repeat (first | (with_reducible exact Fin.done (by repeat (first | (with_reducible exact Rest.here) | apply Rest.there))) | (apply Fin.cons (by first | ((repeat (first | (with_reducible exact F0 _) | apply F1)); done) | (repeat (first | exact F0 _ | apply F1))))))

end Go.Proofs.Ytaeacdhilekcbaa
