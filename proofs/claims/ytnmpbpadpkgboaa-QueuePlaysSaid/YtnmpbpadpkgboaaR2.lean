/- The reference's put. -/
import Derived.Test.YtnmpbpadpkgboaaR1
set_option linter.unusedVariables false
set_option linter.unusedSimpArgs false
set_option linter.unusedSectionVars false
namespace Go.Proofs.Ytnmpbpadpkgboaa
open Go Csl


set_option maxHeartbeats 4000000 in
set_option maxRecDepth 100000 in
theorem rPut_ctr {G : Gp} {qm ql : Int} {qa : Option Addr} {qc : Nat} {l : List Edu} (h : SlR G 31 11 qa l.length (l.flatMap cEdu)) (hc : l.length ≤ qc) (hb : l.length ≤ 900) {e : Edu} (hnd : (l.map eKey).Nodup) (hs : eduSmall e) (ho : okEdu e) (hz : ∀ x ∈ l, eduSmall x ∧ okEdu x) (hlo : 0 ≤ ql ∧ ql ≤ 1000000) :
    Ctr Try.prog G 29 [.agg (cQst (⟨qm, ⟨qa, l.length, qc⟩, ql⟩ : Qst)).toArray, .agg (cEdu e).toArray] [] (fun F v A => ∃ g : Sli, v = .tuple #[.agg (cQst ⟨qm, g, (putL qm ql l e).2.1⟩).toArray, .agg (cEdu (putL qm ql l e).2.2.1).toArray, .bool (putL qm ql l e).2.2.2.1, .int .i64 (putL qm ql l e).2.2.2.2] ∧ ((g = ⟨qa, l.length, qc⟩ ∧ (putL qm ql l e).1 = l ∧ (putL qm ql l e).2.1 = ql ∧ A = F) ∨ (g.n = (putL qm ql l e).1.length ∧ A = Sl 31 11 g.a g.n g.c (((putL qm ql l e).1).flatMap cEdu) :: F))) := by
  refine Ctr.intro Try.func29 rfl (by kernel_rfl) rfl (fun F => ?_)
  simp only [List.nil_append]
  have hqf1 : (⟨qm, ⟨qa, l.length, qc⟩, ql⟩ : Qst).l.n = l.length := rfl
  have hqf2 : (⟨qm, ⟨qa, l.length, qc⟩, ql⟩ : Qst).l.c = qc := rfl
  have hqf3 : (⟨qm, ⟨qa, l.length, qc⟩, ql⟩ : Qst).lost = ql := rfl
  have hqf4 : (⟨qm, ⟨qa, l.length, qc⟩, ql⟩ : Qst).most = qm := rfl
  refine Run.sr ?_
  refine RunL.boxA (xs := (cQst ((⟨qm, ⟨qa, l.length, qc⟩, ql⟩ : Qst)))) rfl (Wt.none rfl) rfl ?_; intro b2
  refine RunL.boxA (xs := (cEdu e)) rfl (Wt.none rfl) rfl ?_; intro b3
  refine RunL.alloc zz53 (Wt.none rfl) rfl ?_; intro b4
  refine RunL.alloc zz31 (Wt.none rfl) rfl ?_; intro b5
  refine RunL.as rfl rfl ?_
  refine RunL.as rfl rfl ?_
  refine RunL.nil ?_
  refine Run.lendAll (Q := row b2 53 _) Lends.row (by first | ((repeat (first | (with_reducible exact Find.here _) | apply Find.there)); done) | (repeat (first | exact Find.here _ | apply Find.there))) (fun G2 hleG2 hrb2 => ?_)
  replace h := h.mono hleG2
  refine Run.lendAll (Q := row b3 31 _) Lends.row (by first | ((repeat (first | (with_reducible exact Find.here _) | apply Find.there)); done) | (repeat (first | exact Find.here _ | apply Find.there))) (fun G3 hleG3 hrb3 => ?_)
  replace h := h.mono hleG3
  replace hrb2 := hrb2.mono hleG3
  refine Run.sr ?_
  first | refine RunL.loadA (vs := (cEdu e)) rfl (by first | ((repeat (first | (with_reducible exact Find.here _) | apply Find.there)); done) | (repeat (first | exact Find.here _ | apply Find.there))) agg31 sz31 (by first | exact Nat.le_of_ble_eq_true rfl | (simp; done) | (simp; omega)) rfl (Wt.none rfl) rfl ?_ | refine RunL.loadNR (vs := (cEdu e)) rfl (by assumption) agg31 sz31 (by first | exact Nat.le_of_ble_eq_true rfl | (simp; done) | (simp; omega)) rfl (Wt.none rfl) rfl ?_
  refine RunL.call rfl rfl (by rfl) (by repeat (first | (with_reducible exact Take.nil _) | (apply Take.cons (by first | ((repeat (first | (with_reducible exact Find.here _) | apply Find.there)); done) | (repeat (first | exact Find.here _ | apply Find.there)))))) (rMay3_ctr (by assumption)) (Wt.none rfl) rfl ?_
  rintro _ _ ⟨rfl, hA_⟩
  replace hA_ := hA_.symm; subst hA_
  refine RunL.as rfl rfl ?_
  refine RunL.nil ?_
  refine Run.seq ?_
  refine Run.sr ?_
  refine RunL.mv rfl rfl ?_
  refine RunL.pure (Pure.not rfl) (Wt.none rfl) rfl rfl ?_
  refine RunL.nil ?_
  refine Run.cond rfl (fun h1 => ?_) (fun h1 => ?_)
  · try simp only [decide_eq_true_eq, decide_eq_false_iff_not, beq_iff_eq, beq_eq_false_iff_ne, bne_iff_ne, ne_eq, Bool.not_eq_true', Bool.not_eq_false', Bool.not_eq_true, Bool.not_eq_false, Int.not_lt, Int.not_le, Decidable.not_not, bne_eq_false_iff_eq, gt_iff_lt, ge_iff_le, Bool.or_eq_true, Bool.and_eq_true] at h1
    refine Run.sr ?_
    first | refine RunL.loadA (vs := (cQst ((⟨qm, ⟨qa, l.length, qc⟩, ql⟩ : Qst)))) rfl (by first | ((repeat (first | (with_reducible exact Find.here _) | apply Find.there)); done) | (repeat (first | exact Find.here _ | apply Find.there))) agg53 sz53 (by first | exact Nat.le_of_ble_eq_true rfl | (simp; done) | (simp; omega)) rfl (Wt.none rfl) rfl ?_ | refine RunL.loadNR (vs := (cQst ((⟨qm, ⟨qa, l.length, qc⟩, ql⟩ : Qst)))) rfl (by assumption) agg53 sz53 (by first | exact Nat.le_of_ble_eq_true rfl | (simp; done) | (simp; omega)) rfl (Wt.none rfl) rfl ?_
    refine RunL.pure (Pure.buildL (ps := []) (zs := [(.int .i64 0), (.string .empty), (.string .empty), (.string .empty), (.string .empty), (.bool false), (.bool false), (.int .i64 0), (.int .i64 0), (.int .i64 0), (.int .i64 0)]) (xs := (cEdu zeroE)) pl31 rfl rfl rfl rfl) (Wt.none rfl) rfl rfl ?_
    have hP := putL_no (most := qm) (lost := ql) (l := l) (e := e) (by simpa using h1)
    refine RunL.storeW (xs := (cQst ((⟨qm, ⟨qa, l.length, qc⟩, ql⟩ : Qst)))) rfl rfl (by first | ((repeat (first | (with_reducible exact Find.here _) | apply Find.there)); done) | (repeat (first | exact Find.here _ | apply Find.there))) sz53 (by rfl) (by rfl) (by rfl) (Wt.none rfl) ?_
    refine RunL.storeW (xs := (cEdu zeroE)) rfl rfl (by first | ((repeat (first | (with_reducible exact Find.here _) | apply Find.there)); done) | (repeat (first | exact Find.here _ | apply Find.there))) sz31 (by rfl) (by rfl) (by rfl) (Wt.none rfl) ?_
    refine RunL.as rfl rfl ?_
    refine RunL.as rfl rfl ?_
    refine RunL.nil ?_
    exact Run.ret Try.func29 (resV4 rfl (Rv.cellN (us := (cQst ((⟨qm, ⟨qa, l.length, qc⟩, ql⟩ : Qst)))) rfl (by first | ((repeat (first | (with_reducible exact Find.here _) | apply Find.there)); done) | (repeat (first | exact Find.here _ | apply Find.there))) agg53 sz53 (by first | exact Nat.le_of_ble_eq_true rfl | (simp; done) | (simp; omega)) rfl) (Rv.cellN (us := (cEdu zeroE)) rfl (by first | ((repeat (first | (with_reducible exact Find.here _) | apply Find.there)); done) | (repeat (first | exact Find.here _ | apply Find.there))) agg31 sz31 (by first | exact Nat.le_of_ble_eq_true rfl | (simp; done) | (simp; omega)) rfl) (Rv.tmp rfl) (Rv.tmp rfl)) (by exact ⟨_, by rw [hP], .inl ⟨rfl, by rw [hP], by rw [hP], rfl⟩⟩) (by repeat (first | (with_reducible exact Fin.done (by repeat (first | (with_reducible exact Rest.here) | apply Rest.there))) | (apply Fin.cons (by first | ((repeat (first | (with_reducible exact Find.here _) | apply Find.there)); done) | (repeat (first | exact Find.here _ | apply Find.there))))))
  · try simp only [decide_eq_true_eq, decide_eq_false_iff_not, beq_iff_eq, beq_eq_false_iff_ne, bne_iff_ne, ne_eq, Bool.not_eq_true', Bool.not_eq_false', Bool.not_eq_true, Bool.not_eq_false, Int.not_lt, Int.not_le, Decidable.not_not, bne_eq_false_iff_eq, gt_iff_lt, ge_iff_le, Bool.or_eq_true, Bool.and_eq_true] at h1
    refine Run.skip ?_
    refine Run.sr ?_
    refine RunL.pure (Pure.fieldAddr rfl fo53_1) (Wt.none rfl) rfl rfl ?_
    first | refine RunL.load1 rfl (by first | ((repeat (first | (with_reducible exact Find.here _) | apply Find.there)); done) | (repeat (first | exact Find.here _ | apply Find.there))) (by rfl) agg37 (Wt.none rfl) rfl ?_ | refine RunL.load1R rfl (by assumption) (by rfl) agg37 (Wt.none rfl) rfl ?_
    first | refine RunL.loadA (vs := (cEdu e)) rfl (by first | ((repeat (first | (with_reducible exact Find.here _) | apply Find.there)); done) | (repeat (first | exact Find.here _ | apply Find.there))) agg31 sz31 (by first | exact Nat.le_of_ble_eq_true rfl | (simp; done) | (simp; omega)) rfl (Wt.none rfl) rfl ?_ | refine RunL.loadNR (vs := (cEdu e)) rfl (by assumption) agg31 sz31 (by first | exact Nat.le_of_ble_eq_true rfl | (simp; done) | (simp; omega)) rfl (Wt.none rfl) rfl ?_
    refine RunL.call rfl rfl (by rfl) (by repeat (first | (with_reducible exact Take.nil _) | (apply Take.cons (by first | ((repeat (first | (with_reducible exact Find.here _) | apply Find.there)); done) | (repeat (first | exact Find.here _ | apply Find.there)))))) (At_ctr rfl h (by omega)) (Wt.none rfl) rfl ?_
    rintro _ _ ⟨r, rfl, hr, hA_⟩
    replace hA_ := hA_.symm; subst hA_
    refine RunL.as rfl rfl ?_
    refine RunL.nil ?_
    refine Run.sr ?_
    refine RunL.as rfl rfl ?_
    refine RunL.nil ?_
    refine Run.seq ?_
    refine Run.sr ?_
    refine RunL.mv rfl rfl ?_
    refine RunL.pure (Pure.geq rfl rfl) (Wt.none rfl) rfl rfl ?_
    refine RunL.nil ?_
    refine Run.cut (fun e_ A => ∃ a c, (∀ old, l.find? (fun x => decide (eKey x = eKey e)) = some old → ¬ edCmp e old ≤ 0) ∧ e_ = [(2, .pointer (some ⟨b2, 0, none⟩)), (3, .pointer (some ⟨b3, 0, none⟩)), (4, .pointer (some ⟨b4, 0, none⟩)), (5, .pointer (some ⟨b5, 0, none⟩)), (10, .slice a (offK l (eKey e)).length c)] ∧ A = Sl 31 11 a (offK l (eKey e)).length c (((offK l (eKey e))).flatMap cEdu) :: row b4 53 [(.int .i64 0), (.slice none 0 0), (.int .i64 0)] :: row b5 31 [(.int .i64 0), (.string .empty), (.string .empty), (.string .empty), (.string .empty), (.bool false), (.bool false), (.int .i64 0), (.int .i64 0), (.int .i64 0), (.int .i64 0)] :: F) (fun e A hM => ?_) (fun hk => ?_)
    · obtain ⟨a, c, hnew, rfl, hA_⟩ := hM
      replace hA_ := hA_.symm; subst hA_
      have hll : (offK l (eKey e)).length ≤ 900 := Nat.le_trans (offK_len _ _) hb
      have hl1 : ((offK l (eKey e)) ++ [e]).length = (offK l (eKey e)).length + 1 := by rw [List.length_append]; rfl
      refine Run.sr ?_
      refine RunL.mv rfl rfl ?_
      first | refine RunL.loadA (vs := (cEdu e)) rfl (by first | ((repeat (first | (with_reducible exact Find.here _) | apply Find.there)); done) | (repeat (first | exact Find.here _ | apply Find.there))) agg31 sz31 (by first | exact Nat.le_of_ble_eq_true rfl | (simp; done) | (simp; omega)) rfl (Wt.none rfl) rfl ?_ | refine RunL.loadNR (vs := (cEdu e)) rfl (by assumption) agg31 sz31 (by first | exact Nat.le_of_ble_eq_true rfl | (simp; done) | (simp; omega)) rfl (Wt.none rfl) rfl ?_
      refine RunL.lit (vals := [_]) (vs := ([e] : List Edu).flatMap cEdu) und37 sz31 zz31 rfl rfl rfl rfl rfl rfl (by simp [Value.cells, bv, cEdu, cKey, cQst]) rfl (Wt.none rfl) rfl ?_; intro b52
      refine RunL.append (m := 1) (n' := ((offK l (eKey e)) ++ [e]).length) (cs' := ((offK l (eKey e)) ++ [e]).flatMap cEdu) rfl rfl (by first | ((repeat (first | (with_reducible exact Find.here _) | apply Find.there)); done) | (repeat (first | exact Find.here _ | apply Find.there))) rfl rfl und37 und37 rfl sz31 zz31 rfl by31 (by omega) (by omega) (fun w sw => sw.src) (isOne_flat (f := cEdu) (fun _ => rfl)) (by rw [hl1]) (by rw [flatMap_app]) (Wt.none rfl) rfl ?_; intro a3 c3
      refine RunL.as rfl rfl ?_
      refine RunL.nil ?_
      refine Run.seq ?_
      refine Run.sr ?_
      refine RunL.mv rfl rfl ?_
      refine RunL.pure (Pure.lenSl rfl rfl und37) (Wt.none rfl) rfl rfl ?_
      refine RunL.pure (Pure.fieldAddr rfl fo53_0) (Wt.none rfl) rfl rfl ?_
      first | refine RunL.load1 rfl (by first | ((repeat (first | (with_reducible exact Find.here _) | apply Find.there)); done) | (repeat (first | exact Find.here _ | apply Find.there))) (by rfl) agg3 (Wt.none rfl) rfl ?_ | refine RunL.load1R rfl (by assumption) (by rfl) agg3 (Wt.none rfl) rfl ?_
      refine RunL.pure (Pure.gtr rfl rfl) (Wt.none rfl) rfl rfl ?_
      refine RunL.nil ?_
      refine Run.cond rfl (fun h5 => ?_) (fun h5 => ?_)
      · try simp only [decide_eq_true_eq, decide_eq_false_iff_not, beq_iff_eq, beq_eq_false_iff_ne, bne_iff_ne, ne_eq, Bool.not_eq_true', Bool.not_eq_false', Bool.not_eq_true, Bool.not_eq_false, Int.not_lt, Int.not_le, Decidable.not_not, bne_eq_false_iff_eq, gt_iff_lt, ge_iff_le, Bool.or_eq_true, Bool.and_eq_true] at h5
        have hxl : 0 < ((offK l (eKey e)) ++ [e]).length := by omega
        obtain ⟨x, hx⟩ := get_some (xs := ((offK l (eKey e)) ++ [e])) (i := 0) hxl
        have hP : putL qm ql l e = (((offK l (eKey e)) ++ [e]).drop 1, ql + 1, x, true, 0) := by rw [putL_past (by simpa using h1) hnew (by omega), hx]; rfl
        refine Run.openSl (T := 31) (a := a3) (n := ((offK l (eKey e)) ++ [e]).length) (by first | ((repeat (first | (with_reducible exact Find.here _) | apply Find.there)); done) | (repeat (first | exact Find.here _ | apply Find.there))) (by omega) ?_; rintro b9 pre9 post9 rfl hsl1 hsl2 hsl3
        refine Run.seq ?_
        refine Run.regionD' (by kernel_rfl) (by kernel_rfl) (fun hok83 => ?_)
        refine RunD.lend (Q := row b9 _ _) Lends.row (by first | ((repeat (first | (with_reducible exact Find.here _) | apply Find.there)); done) | (repeat (first | exact Find.here _ | apply Find.there))) ?_; intro gb9 hlegb9 hb9 backgb9
        have h_gb9 := h.mono hlegb9
        have hrb2_gb9 := hrb2.mono hlegb9
        have hrb3_gb9 := hrb3.mono hlegb9
        refine RunD.pure (i := 0) hok83 rfl (by kernel_rfl) (Pure.fieldAddr rfl fo53_0) (Wt.none rfl) rfl rfl ?_
        refine RunD.load1R (i := 1) hok83 rfl (by kernel_rfl) rfl (by assumption) (by rfl) agg3 (Wt.none rfl) rfl ?_
        refine RunD.pure (i := 2) hok83 rfl (by kernel_rfl) (Pure.move rfl) (Wt.none rfl) rfl rfl ?_
        refine RunD.pure (i := 3) hok83 rfl (by kernel_rfl) (Pure.sliceFrom rfl rfl und37 sz31 (by first | omega | (simp; done) | (simp; omega)) (by first | omega | (simp; done) | (simp; omega))) (Wt.none rfl) rfl rfl ?_
        refine RunD.pure (i := 4) hok83 rfl (by kernel_rfl) (Pure.fieldAddr rfl fo53_2) (Wt.none rfl) rfl rfl ?_
        refine RunD.load1R (i := 5) hok83 rfl (by kernel_rfl) rfl (by assumption) (by rfl) agg3 (Wt.none rfl) rfl ?_
        first | refine RunD.pure (i := 6) hok83 rfl (by kernel_rfl) (Pure.addI rfl rfl (by omega)) (Wt.none rfl) rfl rfl ?_ | refine RunD.pure (i := 6) hok83 rfl (by kernel_rfl) (Pure.add rfl rfl) (Wt.none rfl) rfl rfl ?_
        refine RunD.pure (i := 7) hok83 rfl (by kernel_rfl) (Pure.buildL (ps := [(0, _), (1, _), (2, _)]) (zs := [(.int .i64 0), (.slice none 0 0), (.int .i64 0)]) (xs := (cQst ((⟨qm, ⟨cutAt (some ⟨b9, pre9.length, none⟩) 1 c3 11, ((offK l (eKey e)) ++ [e]).length - 1, c3 - 1⟩, ql + 1⟩ : Qst)))) pl53 rfl rfl rfl rfl) (Wt.none rfl) rfl rfl ?_
        refine RunD.pure (i := 8) hok83 rfl (by kernel_rfl) (Pure.move rfl) (Wt.none rfl) rfl rfl ?_
        refine RunD.pure (i := 9) hok83 rfl (by kernel_rfl) (Pure.indexAddr rfl rfl und37 sz31 (by omega) (by omega)) (Wt.none rfl) rfl rfl ?_
        refine RunD.loadNR (vs := (cEdu x)) (i := 10) hok83 rfl (by kernel_rfl) rfl hb9 agg31 sz31 (elemN_len (pre := pre9) (post := post9) (f := cEdu) (sz := 11) (j := 0) (n := 11) (fun _ _ => rfl) hx (by decide)) ((elemN_at (pre := pre9) (post := post9) (f := cEdu) (sz := 11) (j := 0) (n := 11) (fun _ _ => rfl) hx (by decide)).trans rfl) (Wt.none rfl) rfl ?_
        refine RunD.one (i := 11) (by kernel_rfl) rfl ?_
        refine RunL.storeW (xs := (cQst ((⟨qm, ⟨cutAt (some ⟨b9, pre9.length, none⟩) 1 c3 11, ((offK l (eKey e)) ++ [e]).length - 1, c3 - 1⟩, ql + 1⟩ : Qst)))) rfl rfl (by first | ((repeat (first | (with_reducible exact Find.here _) | apply Find.there)); done) | (repeat (first | exact Find.here _ | apply Find.there))) sz53 (by rfl) (by rfl) (by rfl) (Wt.none rfl) ?_
        refine RunL.nilD' ?_
        refine RunD.one (i := 12) (by kernel_rfl) rfl ?_
        refine RunL.storeW (xs := (cEdu x)) rfl rfl (by first | ((repeat (first | (with_reducible exact Find.here _) | apply Find.there)); done) | (repeat (first | exact Find.here _ | apply Find.there))) sz31 (by rfl) (by rfl) (by rfl) (Wt.none rfl) ?_
        refine RunL.nilD' ?_
        refine RunD.pure (i := 13) hok83 rfl (by kernel_rfl) (Pure.assign rfl) (Wt.none rfl) rfl rfl ?_
        refine RunD.pure (i := 14) hok83 rfl (by kernel_rfl) (Pure.assign rfl) (Wt.none rfl) rfl rfl ?_
        refine RunD.nilB (by kernel_rfl) (fun w sw => backgb9 _ _ (sw)) ?_
        refine Run.mkSl (b := b9) (pre := pre9) (post := post9) (sz := 11) (cs := ((offK l (eKey e)) ++ [e]).flatMap cEdu) (n := ((offK l (eKey e)) ++ [e]).length) (by first | ((repeat (first | (with_reducible exact Find.here _) | apply Find.there)); done) | (repeat (first | exact Find.here _ | apply Find.there))) hsl1 hsl2 hsl3 ?_
        refine Run.fromSlF (f := cEdu) (xs := ((offK l (eKey e)) ++ [e])) 1 (fun _ _ => rfl) (by first | ((repeat (first | (with_reducible exact Find.here _) | apply Find.there)); done) | (repeat (first | exact Find.here _ | apply Find.there))) (by omega) ?_
        refine Run.asSl ((((offK l (eKey e)) ++ [e]).drop 1).flatMap cEdu) (((offK l (eKey e)) ++ [e]).length - 1) (by first | ((repeat (first | (with_reducible exact Find.here _) | apply Find.there)); done) | (repeat (first | exact Find.here _ | apply Find.there))) rfl (by rw [List.length_drop]) ?_
        exact Run.ret Try.func29 (resV4 rfl (Rv.cellN (us := (cQst ((⟨qm, ⟨cutAt (some ⟨b9, pre9.length, none⟩) 1 c3 11, ((offK l (eKey e)) ++ [e]).length - 1, c3 - 1⟩, ql + 1⟩ : Qst)))) rfl (by first | ((repeat (first | (with_reducible exact Find.here _) | apply Find.there)); done) | (repeat (first | exact Find.here _ | apply Find.there))) agg53 sz53 (by first | exact Nat.le_of_ble_eq_true rfl | (simp; done) | (simp; omega)) rfl) (Rv.cellN (us := (cEdu x)) rfl (by first | ((repeat (first | (with_reducible exact Find.here _) | apply Find.there)); done) | (repeat (first | exact Find.here _ | apply Find.there))) agg31 sz31 (by first | exact Nat.le_of_ble_eq_true rfl | (simp; done) | (simp; omega)) rfl) (Rv.tmp rfl) (Rv.tmp rfl)) (by exact ⟨⟨_, _, _⟩, by rw [hP], .inr ⟨by rw [hP, List.length_drop], by rw [hP]⟩⟩) (by repeat (first | (with_reducible exact Fin.done (by repeat (first | (with_reducible exact Rest.here) | apply Rest.there))) | (apply Fin.cons (by first | ((repeat (first | (with_reducible exact Find.here _) | apply Find.there)); done) | (repeat (first | exact Find.here _ | apply Find.there))))))
      · try simp only [decide_eq_true_eq, decide_eq_false_iff_not, beq_iff_eq, beq_eq_false_iff_ne, bne_iff_ne, ne_eq, Bool.not_eq_true', Bool.not_eq_false', Bool.not_eq_true, Bool.not_eq_false, Int.not_lt, Int.not_le, Decidable.not_not, bne_eq_false_iff_eq, gt_iff_lt, ge_iff_le, Bool.or_eq_true, Bool.and_eq_true] at h5
        refine Run.skip ?_
        refine Run.sr ?_
        refine RunL.pure (Pure.fieldAddr rfl fo53_0) (Wt.none rfl) rfl rfl ?_
        first | refine RunL.load1 rfl (by first | ((repeat (first | (with_reducible exact Find.here _) | apply Find.there)); done) | (repeat (first | exact Find.here _ | apply Find.there))) (by rfl) agg3 (Wt.none rfl) rfl ?_ | refine RunL.load1R rfl (by assumption) (by rfl) agg3 (Wt.none rfl) rfl ?_
        refine RunL.mv rfl rfl ?_
        refine RunL.pure (Pure.fieldAddr rfl fo53_2) (Wt.none rfl) rfl rfl ?_
        first | refine RunL.load1 rfl (by first | ((repeat (first | (with_reducible exact Find.here _) | apply Find.there)); done) | (repeat (first | exact Find.here _ | apply Find.there))) (by rfl) agg3 (Wt.none rfl) rfl ?_ | refine RunL.load1R rfl (by assumption) (by rfl) agg3 (Wt.none rfl) rfl ?_
        refine RunL.pure (Pure.buildL (ps := [(0, _), (1, _), (2, _)]) (zs := [(.int .i64 0), (.slice none 0 0), (.int .i64 0)]) (xs := (cQst ((⟨qm, ⟨a3, ((offK l (eKey e)) ++ [e]).length, c3⟩, ql⟩ : Qst)))) pl53 rfl rfl rfl rfl) (Wt.none rfl) rfl rfl ?_
        refine RunL.pure (Pure.buildL (ps := []) (zs := [(.int .i64 0), (.string .empty), (.string .empty), (.string .empty), (.string .empty), (.bool false), (.bool false), (.int .i64 0), (.int .i64 0), (.int .i64 0), (.int .i64 0)]) (xs := (cEdu zeroE)) pl31 rfl rfl rfl rfl) (Wt.none rfl) rfl rfl ?_
        have hP := putL_in (most := qm) (lost := ql) (by simpa using h1) hnew (by omega)
        refine RunL.storeW (xs := (cQst ((⟨qm, ⟨a3, ((offK l (eKey e)) ++ [e]).length, c3⟩, ql⟩ : Qst)))) rfl rfl (by first | ((repeat (first | (with_reducible exact Find.here _) | apply Find.there)); done) | (repeat (first | exact Find.here _ | apply Find.there))) sz53 (by rfl) (by rfl) (by rfl) (Wt.none rfl) ?_
        refine RunL.storeW (xs := (cEdu zeroE)) rfl rfl (by first | ((repeat (first | (with_reducible exact Find.here _) | apply Find.there)); done) | (repeat (first | exact Find.here _ | apply Find.there))) sz31 (by rfl) (by rfl) (by rfl) (Wt.none rfl) ?_
        refine RunL.as rfl rfl ?_
        refine RunL.as rfl rfl ?_
        refine RunL.nil ?_
        exact Run.ret Try.func29 (resV4 rfl (Rv.cellN (us := (cQst ((⟨qm, ⟨a3, ((offK l (eKey e)) ++ [e]).length, c3⟩, ql⟩ : Qst)))) rfl (by first | ((repeat (first | (with_reducible exact Find.here _) | apply Find.there)); done) | (repeat (first | exact Find.here _ | apply Find.there))) agg53 sz53 (by first | exact Nat.le_of_ble_eq_true rfl | (simp; done) | (simp; omega)) rfl) (Rv.cellN (us := (cEdu zeroE)) rfl (by first | ((repeat (first | (with_reducible exact Find.here _) | apply Find.there)); done) | (repeat (first | exact Find.here _ | apply Find.there))) agg31 sz31 (by first | exact Nat.le_of_ble_eq_true rfl | (simp; done) | (simp; omega)) rfl) (Rv.tmp rfl) (Rv.tmp rfl)) (by exact ⟨⟨_, _, _⟩, by rw [hP], .inr ⟨by rw [hP], by rw [hP]⟩⟩) (by repeat (first | (with_reducible exact Fin.done (by repeat (first | (with_reducible exact Rest.here) | apply Rest.there))) | (apply Fin.cons (by first | ((repeat (first | (with_reducible exact Find.here _) | apply Find.there)); done) | (repeat (first | exact Find.here _ | apply Find.there))))))
    · skip
      refine Run.cond rfl (fun h2 => ?_) (fun h2 => ?_)
      · try simp only [decide_eq_true_eq, decide_eq_false_iff_not, beq_iff_eq, beq_eq_false_iff_ne, bne_iff_ne, ne_eq, Bool.not_eq_true', Bool.not_eq_false', Bool.not_eq_true, Bool.not_eq_false, Int.not_lt, Int.not_le, Decidable.not_not, bne_eq_false_iff_eq, gt_iff_lt, ge_iff_le, Bool.or_eq_true, Bool.and_eq_true] at h2
        obtain ⟨i, x, rfl, hx, hkk, hfst⟩ : ∃ (i : Nat) (x : Edu), r = i ∧ l[i]? = some x ∧ eKey x = eKey e ∧ ∀ j y, j < i → l[j]? = some y → eKey y ≠ eKey e := by
          rcases hr with ⟨q0, _⟩ | q0
          · omega
          · exact q0
        have hil := (List.getElem?_eq_some_iff.1 hx).1
        have hfd : l.find? (fun y => decide (eKey y = eKey e)) = some x := by rw [← hkk]; exact find_at hnd hx
        obtain ⟨hsx, hox⟩ := hz x (List.mem_of_getElem? hx)
        obtain ⟨bb, Tb, preb, postb, rfl, hro⟩ := h.open1 (show 0 < l.length by omega)
        refine Run.seq ?_
        refine Run.seq ?_
        refine Run.regionD' (by kernel_rfl) (by kernel_rfl) (fun hok142 => ?_)
        refine RunD.loadNR (vs := (cEdu e)) (i := 0) hok142 rfl (by kernel_rfl) rfl (by assumption) agg31 sz31 (by first | exact Nat.le_of_ble_eq_true rfl | (simp; done) | (simp; omega)) rfl (Wt.none rfl) rfl ?_
        refine RunD.pure (i := 1) hok142 rfl (by kernel_rfl) (Pure.fieldAddr rfl fo53_1) (Wt.none rfl) rfl rfl ?_
        refine RunD.load1R (i := 2) hok142 rfl (by kernel_rfl) rfl (by assumption) (by rfl) agg37 (Wt.none rfl) rfl ?_
        refine RunD.pure (i := 3) hok142 rfl (by kernel_rfl) (Pure.move rfl) (Wt.none rfl) rfl rfl ?_
        refine RunD.pure (i := 4) hok142 rfl (by kernel_rfl) (Pure.indexAddr rfl rfl und37 sz31 (by omega) (by omega)) (Wt.none rfl) rfl rfl ?_
        refine RunD.loadNR (vs := (cEdu x)) (i := 5) hok142 rfl (by kernel_rfl) rfl hro agg31 sz31 (elemN_len (pre := preb) (post := postb) (f := cEdu) (sz := 11) (j := 0) (n := 11) (fun _ _ => rfl) hx (by decide)) ((elemN_at (pre := preb) (post := postb) (f := cEdu) (sz := 11) (j := 0) (n := 11) (fun _ _ => rfl) hx (by decide)).trans rfl) (Wt.none rfl) rfl ?_
        refine RunD.one (i := 6) (by kernel_rfl) rfl ?_
        refine RunL.call rfl rfl (by rfl) (by repeat (first | (with_reducible exact Take.nil _) | (apply Take.cons (by first | ((repeat (first | (with_reducible exact Find.here _) | apply Find.there)); done) | (repeat (first | exact Find.here _ | apply Find.there)))))) (rCompare3_ctr (x := e) (y := x) (by assumption) (by assumption) (by assumption) (by assumption)) (Wt.none rfl) rfl ?_
        rintro _ _ ⟨rfl, hA_⟩
        replace hA_ := hA_.symm; subst hA_
        refine RunL.nilD' ?_
        refine RunD.pure (i := 7) hok142 rfl (by kernel_rfl) (Pure.leq rfl rfl) (Wt.none rfl) rfl rfl ?_
        refine RunD.nilR (by kernel_rfl) ?_
        refine Run.cond rfl (fun h3 => ?_) (fun h3 => ?_)
        · try simp only [decide_eq_true_eq, decide_eq_false_iff_not, beq_iff_eq, beq_eq_false_iff_ne, bne_iff_ne, ne_eq, Bool.not_eq_true', Bool.not_eq_false', Bool.not_eq_true, Bool.not_eq_false, Int.not_lt, Int.not_le, Decidable.not_not, bne_eq_false_iff_eq, gt_iff_lt, ge_iff_le, Bool.or_eq_true, Bool.and_eq_true] at h3
          refine Run.sr ?_
          first | refine RunL.loadA (vs := (cQst ((⟨qm, ⟨some ⟨bb, preb.length, none⟩, l.length, qc⟩, ql⟩ : Qst)))) rfl (by first | ((repeat (first | (with_reducible exact Find.here _) | apply Find.there)); done) | (repeat (first | exact Find.here _ | apply Find.there))) agg53 sz53 (by first | exact Nat.le_of_ble_eq_true rfl | (simp; done) | (simp; omega)) rfl (Wt.none rfl) rfl ?_ | refine RunL.loadNR (vs := (cQst ((⟨qm, ⟨some ⟨bb, preb.length, none⟩, l.length, qc⟩, ql⟩ : Qst)))) rfl (by assumption) agg53 sz53 (by first | exact Nat.le_of_ble_eq_true rfl | (simp; done) | (simp; omega)) rfl (Wt.none rfl) rfl ?_
          refine RunL.pure (Pure.buildL (ps := []) (zs := [(.int .i64 0), (.string .empty), (.string .empty), (.string .empty), (.string .empty), (.bool false), (.bool false), (.int .i64 0), (.int .i64 0), (.int .i64 0), (.int .i64 0)]) (xs := (cEdu zeroE)) pl31 rfl rfl rfl rfl) (Wt.none rfl) rfl rfl ?_
          have hP := putL_old (most := qm) (lost := ql) (by simpa using h1) hfd h3
          refine RunL.storeW (xs := (cQst ((⟨qm, ⟨some ⟨bb, preb.length, none⟩, l.length, qc⟩, ql⟩ : Qst)))) rfl rfl (by first | ((repeat (first | (with_reducible exact Find.here _) | apply Find.there)); done) | (repeat (first | exact Find.here _ | apply Find.there))) sz53 (by rfl) (by rfl) (by rfl) (Wt.none rfl) ?_
          refine RunL.storeW (xs := (cEdu zeroE)) rfl rfl (by first | ((repeat (first | (with_reducible exact Find.here _) | apply Find.there)); done) | (repeat (first | exact Find.here _ | apply Find.there))) sz31 (by rfl) (by rfl) (by rfl) (Wt.none rfl) ?_
          refine RunL.as rfl rfl ?_
          refine RunL.as rfl rfl ?_
          refine RunL.nil ?_
          exact Run.ret Try.func29 (resV4 rfl (Rv.cellN (us := (cQst ((⟨qm, ⟨some ⟨bb, preb.length, none⟩, l.length, qc⟩, ql⟩ : Qst)))) rfl (by first | ((repeat (first | (with_reducible exact Find.here _) | apply Find.there)); done) | (repeat (first | exact Find.here _ | apply Find.there))) agg53 sz53 (by first | exact Nat.le_of_ble_eq_true rfl | (simp; done) | (simp; omega)) rfl) (Rv.cellN (us := (cEdu zeroE)) rfl (by first | ((repeat (first | (with_reducible exact Find.here _) | apply Find.there)); done) | (repeat (first | exact Find.here _ | apply Find.there))) agg31 sz31 (by first | exact Nat.le_of_ble_eq_true rfl | (simp; done) | (simp; omega)) rfl) (Rv.tmp rfl) (Rv.tmp rfl)) (by exact ⟨_, by rw [hP], .inl ⟨rfl, by rw [hP], by rw [hP], rfl⟩⟩) (by repeat (first | (with_reducible exact Fin.done (by repeat (first | (with_reducible exact Rest.here) | apply Rest.there))) | (apply Fin.cons (by first | ((repeat (first | (with_reducible exact Find.here _) | apply Find.there)); done) | (repeat (first | exact Find.here _ | apply Find.there))))))
        · try simp only [decide_eq_true_eq, decide_eq_false_iff_not, beq_iff_eq, beq_eq_false_iff_ne, bne_iff_ne, ne_eq, Bool.not_eq_true', Bool.not_eq_false', Bool.not_eq_true, Bool.not_eq_false, Int.not_lt, Int.not_le, Decidable.not_not, bne_eq_false_iff_eq, gt_iff_lt, ge_iff_le, Bool.or_eq_true, Bool.and_eq_true] at h3
          refine Run.skip ?_
          refine Run.sr ?_
          refine RunL.mv rfl rfl ?_
          refine RunL.pure (Pure.fieldAddr rfl fo53_1) (Wt.none rfl) rfl rfl ?_
          first | refine RunL.load1 rfl (by first | ((repeat (first | (with_reducible exact Find.here _) | apply Find.there)); done) | (repeat (first | exact Find.here _ | apply Find.there))) (by rfl) agg37 (Wt.none rfl) rfl ?_ | refine RunL.load1R rfl (by assumption) (by rfl) agg37 (Wt.none rfl) rfl ?_
          refine RunL.mv rfl rfl ?_
          refine RunL.pure (Pure.sliceTo rfl rfl und37 sz31 (by first | omega | (simp; done) | (simp; omega)) (by first | omega | (simp; done) | (simp; omega))) (Wt.none rfl) rfl rfl ?_
          refine RunL.append0 (m := i) rfl rfl rfl rfl und37 und37 rfl sz31 zz31 rfl by31 (by omega) (by omega) (fun w sw => (h.takeF (m := i) (fun _ _ => rfl) (by omega)).src sw) (Wt.none rfl) rfl ?_; intro a1 c1
          refine RunL.as rfl rfl ?_
          refine RunL.nil ?_
          refine Run.region ?_
          refine RunL.mv rfl rfl ?_
          refine RunL.pure (Pure.fieldAddr rfl fo53_1) (Wt.none rfl) rfl rfl ?_
          first | refine RunL.load1 rfl (by first | ((repeat (first | (with_reducible exact Find.here _) | apply Find.there)); done) | (repeat (first | exact Find.here _ | apply Find.there))) (by rfl) agg37 (Wt.none rfl) rfl ?_ | refine RunL.load1R rfl (by assumption) (by rfl) agg37 (Wt.none rfl) rfl ?_
          refine RunL.mv rfl rfl ?_
          first | refine RunL.pure (Pure.addI rfl rfl (by omega)) (Wt.none rfl) rfl rfl ?_ | refine RunL.pure (Pure.add rfl rfl) (Wt.none rfl) rfl rfl ?_
          refine RunL.pure (Pure.sliceFrom rfl rfl und37 sz31 (by first | omega | (simp; done) | (simp; omega)) (by first | omega | (simp; done) | (simp; omega))) (Wt.none rfl) rfl rfl ?_
          refine RunL.append (m := (l.length - (i + 1))) (n' := (offK l (eKey e)).length) (cs' := (offK l (eKey e)).flatMap cEdu) rfl rfl (by first | ((repeat (first | (with_reducible exact Find.here _) | apply Find.there)); done) | (repeat (first | exact Find.here _ | apply Find.there))) rfl rfl und37 und37 rfl sz31 zz31 rfl by31 (by omega) (by omega) (fun w sw => (h.fromF (m := i + 1) (fun _ _ => rfl) (by omega) hc).src sw) (isOne_flat (f := cEdu) (fun _ => rfl)) (by rw [offK_at hnd hx hkk, List.length_append, List.length_take, List.length_drop]; omega) (by rw [offK_at hnd hx hkk, flatMap_app]) (Wt.none rfl) rfl ?_; intro a2 c2
          refine RunL.as rfl rfl ?_
          refine RunL.nil ?_
          refine Run.keep (.cons rfl (.cons rfl (.cons rfl (.cons rfl (.cons rfl (.nil))))) : Keep _ [2, 3, 4, 5, 10] _) ?_
          exact Run.meetF (F := F) hk (by exact ⟨_, _, fun old q => by rw [hfd] at q; cases q; omega, rfl, rfl⟩) (by repeat (first | (with_reducible exact Fin.done (by repeat (first | (with_reducible exact Rest.here) | apply Rest.there))) | (apply Fin.cons (by first | ((repeat (first | (with_reducible exact Find.here _) | apply Find.there)); done) | (repeat (first | exact Find.here _ | apply Find.there))))))
      · try simp only [decide_eq_true_eq, decide_eq_false_iff_not, beq_iff_eq, beq_eq_false_iff_ne, bne_iff_ne, ne_eq, Bool.not_eq_true', Bool.not_eq_false', Bool.not_eq_true, Bool.not_eq_false, Int.not_lt, Int.not_le, Decidable.not_not, bne_eq_false_iff_eq, gt_iff_lt, ge_iff_le, Bool.or_eq_true, Bool.and_eq_true] at h2
        have hno : ∀ x ∈ l, eKey x ≠ eKey e := by
          rcases hr with ⟨_, q0⟩ | ⟨i, x, rfl, _⟩
          · exact q0
          · omega
        refine Run.region ?_
        refine RunL.mv rfl rfl ?_
        refine RunL.pure (Pure.fieldAddr rfl fo53_1) (Wt.none rfl) rfl rfl ?_
        first | refine RunL.load1 rfl (by first | ((repeat (first | (with_reducible exact Find.here _) | apply Find.there)); done) | (repeat (first | exact Find.here _ | apply Find.there))) (by rfl) agg37 (Wt.none rfl) rfl ?_ | refine RunL.load1R rfl (by assumption) (by rfl) agg37 (Wt.none rfl) rfl ?_
        refine RunL.append0 (m := l.length) rfl rfl rfl rfl und37 und37 rfl sz31 zz31 rfl by31 (by omega) (by omega) (fun w sw => h.src sw) (Wt.none rfl) rfl ?_; intro a1 c1
        refine RunL.as rfl rfl ?_
        refine RunL.nil ?_
        rw [offK_none hno] at hk
        refine Run.keep (.cons rfl (.cons rfl (.cons rfl (.cons rfl (.cons rfl (.nil))))) : Keep _ [2, 3, 4, 5, 10] _) ?_
        exact Run.meetF (F := F) hk (by exact ⟨_, _, (fun old q => by rw [find_none hno] at q; cases q), rfl, rfl⟩) (by repeat (first | (with_reducible exact Fin.done (by repeat (first | (with_reducible exact Rest.here) | apply Rest.there))) | (apply Fin.cons (by first | ((repeat (first | (with_reducible exact Find.here _) | apply Find.there)); done) | (repeat (first | exact Find.here _ | apply Find.there))))))

end Go.Proofs.Ytnmpbpadpkgboaa
