/- The reference's take, keep. -/
import Derived.Test.YtnmpbpadpkgboaaR2
set_option linter.unusedVariables false
set_option linter.unusedSimpArgs false
set_option linter.unusedSectionVars false
namespace Go.Proofs.Ytnmpbpadpkgboaa
open Go Csl


set_option maxHeartbeats 4000000 in
set_option maxRecDepth 100000 in
theorem rTake_ctr {G : Gp} {qm ql z : Int} {qa : Option Addr} {qc : Nat} {l : List Edu} (hc : l.length ≤ qc) (hb : l.length ≤ 900) :
    Ctr Try.prog G 25 [.agg (cQst (⟨qm, ⟨qa, l.length, qc⟩, ql⟩ : Qst)).toArray, .int .i64 z] [] (fun F v A => v = .tuple #[.agg (cQst (⟨qm, ⟨cutAt qa (takeN z l) qc 11, l.length - takeN z l, qc - takeN z l⟩, ql⟩ : Qst)).toArray, .slice qa (takeN z l) qc] ∧ A = F) := by
  refine Ctr.intro Try.func25 rfl (by kernel_rfl) rfl (fun F => ?_)
  simp only [List.nil_append]
  have hqf1 : (⟨qm, ⟨qa, l.length, qc⟩, ql⟩ : Qst).l.n = l.length := rfl
  have hqf2 : (⟨qm, ⟨qa, l.length, qc⟩, ql⟩ : Qst).l.c = qc := rfl
  have hqf3 : (⟨qm, ⟨qa, l.length, qc⟩, ql⟩ : Qst).lost = ql := rfl
  have hqf4 : (⟨qm, ⟨qa, l.length, qc⟩, ql⟩ : Qst).most = qm := rfl
  have htk : (min (max z 0) (l.length : Int)).toNat = takeN z l := by unfold takeN; omega
  have htl : takeN z l ≤ l.length := Nat.min_le_right _ _
  have htz : min (max z 0) (l.length : Int) = (takeN z l : Nat) := by omega
  refine Run.sr ?_
  refine RunL.boxA (xs := (cQst ((⟨qm, ⟨qa, l.length, qc⟩, ql⟩ : Qst)))) rfl (Wt.none rfl) rfl ?_; intro b2
  refine RunL.alloc zz53 (Wt.none rfl) rfl ?_; intro b4
  refine RunL.as rfl rfl ?_
  refine RunL.nil ?_
  refine Run.lendAll (Q := row b2 53 _) Lends.row (by first | ((repeat (first | (with_reducible exact Find.here _) | apply Find.there)); done) | (repeat (first | exact Find.here _ | apply Find.there))) (fun G2 hleG2 hrb2 => ?_)
  refine Run.sr ?_
  refine RunL.mv rfl rfl ?_
  refine RunL.pure (Pure.max2 rfl rfl) (Wt.none rfl) rfl rfl ?_
  refine RunL.pure (Pure.fieldAddr rfl fo53_1) (Wt.none rfl) rfl rfl ?_
  first | refine RunL.load1 rfl (by first | ((repeat (first | (with_reducible exact Find.here _) | apply Find.there)); done) | (repeat (first | exact Find.here _ | apply Find.there))) (by rfl) agg37 (Wt.none rfl) rfl ?_ | refine RunL.load1R rfl (by assumption) (by rfl) agg37 (Wt.none rfl) rfl ?_
  refine RunL.pure (Pure.lenSl rfl rfl und37) (Wt.none rfl) rfl rfl ?_
  refine RunL.pure (Pure.min2 rfl rfl) (Wt.none rfl) rfl rfl ?_
  refine RunL.as rfl rfl ?_
  refine RunL.nil ?_
  rw [show min (max z 0) (((⟨qm, ⟨qa, l.length, qc⟩, ql⟩ : Qst).l.n : Nat) : Int) = ((takeN z l : Nat) : Int) from htz]
  refine Run.seq ?_
  refine Run.regionD' (by kernel_rfl) (by kernel_rfl) (fun hok17 => ?_)
  refine RunD.pure (i := 0) hok17 rfl (by kernel_rfl) (Pure.fieldAddr rfl fo53_0) (Wt.none rfl) rfl rfl ?_
  refine RunD.load1R (i := 1) hok17 rfl (by kernel_rfl) rfl (by assumption) (by rfl) agg3 (Wt.none rfl) rfl ?_
  refine RunD.pure (i := 2) hok17 rfl (by kernel_rfl) (Pure.fieldAddr rfl fo53_1) (Wt.none rfl) rfl rfl ?_
  refine RunD.load1R (i := 3) hok17 rfl (by kernel_rfl) rfl (by assumption) (by rfl) agg37 (Wt.none rfl) rfl ?_
  refine RunD.pure (i := 4) hok17 rfl (by kernel_rfl) (Pure.move rfl) (Wt.none rfl) rfl rfl ?_
  refine RunD.pure (i := 5) hok17 rfl (by kernel_rfl) (Pure.sliceFrom rfl rfl und37 sz31 (by first | omega | (simp; done) | (simp; omega)) (by first | omega | (simp; done) | (simp; omega))) (Wt.none rfl) rfl rfl ?_
  refine RunD.pure (i := 6) hok17 rfl (by kernel_rfl) (Pure.fieldAddr rfl fo53_2) (Wt.none rfl) rfl rfl ?_
  refine RunD.load1R (i := 7) hok17 rfl (by kernel_rfl) rfl (by assumption) (by rfl) agg3 (Wt.none rfl) rfl ?_
  refine RunD.pure (i := 8) hok17 rfl (by kernel_rfl) (Pure.buildL (ps := [(0, _), (1, _), (2, _)]) (zs := [(.int .i64 0), (.slice none 0 0), (.int .i64 0)]) (xs := (cQst ((⟨qm, ⟨cutAt qa (takeN z l) qc 11, l.length - takeN z l, qc - takeN z l⟩, ql⟩ : Qst)))) pl53 rfl rfl rfl rfl) (Wt.none rfl) rfl rfl ?_
  refine RunD.pure (i := 9) hok17 rfl (by kernel_rfl) (Pure.fieldAddr rfl fo53_1) (Wt.none rfl) rfl rfl ?_
  refine RunD.load1R (i := 10) hok17 rfl (by kernel_rfl) rfl (by assumption) (by rfl) agg37 (Wt.none rfl) rfl ?_
  refine RunD.pure (i := 11) hok17 rfl (by kernel_rfl) (Pure.move rfl) (Wt.none rfl) rfl rfl ?_
  refine RunD.pure (i := 12) hok17 rfl (by kernel_rfl) (Pure.sliceTo rfl rfl und37 sz31 (by first | omega | (simp; done) | (simp; omega)) (by first | omega | (simp; done) | (simp; omega))) (Wt.none rfl) rfl rfl ?_
  refine RunD.one (i := 13) (by kernel_rfl) rfl ?_
  refine RunL.storeW (xs := (cQst ((⟨qm, ⟨cutAt qa (takeN z l) qc 11, l.length - takeN z l, qc - takeN z l⟩, ql⟩ : Qst)))) rfl rfl (by first | ((repeat (first | (with_reducible exact Find.here _) | apply Find.there)); done) | (repeat (first | exact Find.here _ | apply Find.there))) sz53 (by rfl) (by rfl) (by rfl) (Wt.none rfl) ?_
  refine RunL.nilD' ?_
  refine RunD.pure (i := 14) hok17 rfl (by kernel_rfl) (Pure.assign rfl) (Wt.none rfl) rfl rfl ?_
  refine RunD.nilR (by kernel_rfl) ?_
  exact Run.ret Try.func25 (resV2 rfl (Rv.cellN (us := (cQst ((⟨qm, ⟨cutAt qa (takeN z l) qc 11, l.length - takeN z l, qc - takeN z l⟩, ql⟩ : Qst)))) rfl (by first | ((repeat (first | (with_reducible exact Find.here _) | apply Find.there)); done) | (repeat (first | exact Find.here _ | apply Find.there))) agg53 sz53 (by first | exact Nat.le_of_ble_eq_true rfl | (simp; done) | (simp; omega)) rfl) (Rv.tmp rfl)) (by exact ⟨rfl, rfl⟩) (by repeat (first | (with_reducible exact Fin.done (by repeat (first | (with_reducible exact Rest.here) | apply Rest.there))) | (apply Fin.cons (by first | ((repeat (first | (with_reducible exact Find.here _) | apply Find.there)); done) | (repeat (first | exact Find.here _ | apply Find.there))))))

set_option maxHeartbeats 4000000 in
set_option maxRecDepth 100000 in
theorem rKeep_ctr {G : Gp} {qm ql : Int} {qa : Option Addr} {qc : Nat} {l : List Edu} (h : SlR G 31 11 qa l.length (l.flatMap cEdu)) (hc : l.length ≤ qc) (hb : l.length ≤ 900) {xa : Option Addr} {xc : Nat} {xs : List Edu} (h' : SlR G 31 11 xa xs.length (xs.flatMap cEdu)) (hxb : xs.length ≤ 900) :
    Ctr Try.prog G 26 [.agg (cQst (⟨qm, ⟨qa, l.length, qc⟩, ql⟩ : Qst)).toArray, .slice xa xs.length xc] [] (fun F v A => ∃ a c, v = .agg (cQst ⟨qm, ⟨a, (l.filter (fun x => decide (x ∈ xs))).length, c⟩, ql⟩).toArray ∧ A = Sl 31 11 a (l.filter (fun x => decide (x ∈ xs))).length c (((l.filter (fun x => decide (x ∈ xs)))).flatMap cEdu) :: F) := by
  refine Ctr.intro Try.func26 rfl (by kernel_rfl) rfl (fun F => ?_)
  simp only [List.nil_append]
  have hqf1 : (⟨qm, ⟨qa, l.length, qc⟩, ql⟩ : Qst).l.n = l.length := rfl
  have hqf2 : (⟨qm, ⟨qa, l.length, qc⟩, ql⟩ : Qst).l.c = qc := rfl
  have hqf3 : (⟨qm, ⟨qa, l.length, qc⟩, ql⟩ : Qst).lost = ql := rfl
  have hqf4 : (⟨qm, ⟨qa, l.length, qc⟩, ql⟩ : Qst).most = qm := rfl
  refine Run.sr ?_
  refine RunL.boxA (xs := (cQst ((⟨qm, ⟨qa, l.length, qc⟩, ql⟩ : Qst)))) rfl (Wt.none rfl) rfl ?_; intro b2
  refine RunL.alloc zz53 (Wt.none rfl) rfl ?_; intro b4
  refine RunL.nil ?_
  refine Run.lendAll (Q := row b2 53 _) Lends.row (by first | ((repeat (first | (with_reducible exact Find.here _) | apply Find.there)); done) | (repeat (first | exact Find.here _ | apply Find.there))) (fun G2 hleG2 hrb2 => ?_)
  replace h := h.mono hleG2
  replace h' := h'.mono hleG2
  refine Run.sr ?_
  refine RunL.as rfl rfl ?_
  refine RunL.nil ?_
  refine Run.nilSl 31 11 ?_
  refine Run.seq ?_
  refine Run.sr ?_
  refine RunL.as rfl rfl ?_
  refine RunL.nil ?_
  refine Run.block ?_
  refine Run.keep (.cons rfl (.cons rfl (.cons rfl (.cons rfl (.cons rfl (.nil))))) : Keep _ [1, 2, 4, 5, 6] _) ?_
  refine Run.loopF (F := F) (fun n e_ A => ∃ (i : Nat) (a : Option Addr) (c : Nat), i ≤ l.length ∧ n = l.length - i ∧ e_ = [(1, .slice xa xs.length xc), (2, .pointer (some ⟨b2, 0, none⟩)), (4, .pointer (some ⟨b4, 0, none⟩)), (5, .slice a ((l.take i).filter (fun x => decide (x ∈ xs))).length c), (6, .int .i64 (i : Nat))] ∧ A = Sl 31 11 a ((l.take i).filter (fun x => decide (x ∈ xs))).length c ((((l.take i).filter (fun x => decide (x ∈ xs)))).flatMap cEdu) :: row b4 53 [(.int .i64 0), (.slice none 0 0), (.int .i64 0)] :: F) (l.length) (by exact ⟨0, none, 0, by omega, rfl, rfl, rfl⟩) (by repeat (first | (with_reducible exact Fin.done (by repeat (first | (with_reducible exact Rest.here) | apply Rest.there))) | (apply Fin.cons (by first | ((repeat (first | (with_reducible exact Find.here _) | apply Find.there)); done) | (repeat (first | exact Find.here _ | apply Find.there)))))) ?_
  rintro n _ _ ⟨i, a, c, hi, rfl, rfl, hA_⟩ ih
  replace hA_ := hA_.symm; subst hA_
  refine Run.seq ?_
  refine Run.sr ?_
  refine RunL.mv rfl rfl ?_
  refine RunL.pure (Pure.fieldAddr rfl fo53_1) (Wt.none rfl) rfl rfl ?_
  first | refine RunL.load1 rfl (by first | ((repeat (first | (with_reducible exact Find.here _) | apply Find.there)); done) | (repeat (first | exact Find.here _ | apply Find.there))) (by rfl) agg37 (Wt.none rfl) rfl ?_ | refine RunL.load1R rfl (by assumption) (by rfl) agg37 (Wt.none rfl) rfl ?_
  refine RunL.pure (Pure.lenSl rfl rfl und37) (Wt.none rfl) rfl rfl ?_
  refine RunL.pure (Pure.lss rfl rfl) (Wt.none rfl) rfl rfl ?_
  refine RunL.nil ?_
  refine Run.cond rfl (fun h1 => ?_) (fun h1 => ?_)
  · try simp only [decide_eq_true_eq, decide_eq_false_iff_not, beq_iff_eq, beq_eq_false_iff_ne, bne_iff_ne, ne_eq, Bool.not_eq_true', Bool.not_eq_false', Bool.not_eq_true, Bool.not_eq_false, Int.not_lt, Int.not_le, Decidable.not_not, bne_eq_false_iff_eq, gt_iff_lt, ge_iff_le, Bool.or_eq_true, Bool.and_eq_true] at h1
    obtain ⟨x, hx⟩ := get_some (xs := l) (i := i) (by omega)
    obtain ⟨bl, Tl, prel, postl, rfl, hrl⟩ := h.open1 (show 0 < l.length by omega)
    have hfl : ((l.take i).filter (fun x => decide (x ∈ xs))).length ≤ i := Nat.le_trans (List.length_filter_le _ _) (by rw [List.length_take]; omega)
    refine Run.skip ?_
    refine Run.seq ?_
    refine Run.block ?_
    refine Run.sr ?_
    refine RunL.as rfl rfl ?_
    refine RunL.nil ?_
    refine Run.seq ?_
    refine Run.sr ?_
    refine RunL.as rfl rfl ?_
    refine RunL.nil ?_
    refine Run.block ?_
    have ih1 := ih
    refine Run.keep (.cons rfl (.cons rfl (.cons rfl (.cons rfl (.cons rfl (.cons rfl (.cons rfl (.nil))))))) : Keep _ [1, 2, 4, 5, 6, 7, 8] _) ?_
    refine Run.loopF (F := F) (fun n e_ A => ∃ (k : Nat), k ≤ xs.length ∧ n = xs.length - k ∧ e_ = [(1, .slice xa xs.length xc), (2, .pointer (some ⟨b2, 0, none⟩)), (4, .pointer (some ⟨b4, 0, none⟩)), (5, .slice a ((l.take i).filter (fun x => decide (x ∈ xs))).length c), (6, .int .i64 (i : Nat)), (7, .bool (decide (x ∈ xs.take k))), (8, .int .i64 (k : Nat))] ∧ A = Sl 31 11 a ((l.take i).filter (fun x => decide (x ∈ xs))).length c ((((l.take i).filter (fun x => decide (x ∈ xs)))).flatMap cEdu) :: row b4 53 [(.int .i64 0), (.slice none 0 0), (.int .i64 0)] :: F) (xs.length) (by exact ⟨0, by omega, rfl, by simp, rfl⟩) (by repeat (first | (with_reducible exact Fin.done (by repeat (first | (with_reducible exact Rest.here) | apply Rest.there))) | (apply Fin.cons (by first | ((repeat (first | (with_reducible exact Find.here _) | apply Find.there)); done) | (repeat (first | exact Find.here _ | apply Find.there)))))) ?_
    rintro n _ _ ⟨k, hk, rfl, rfl, hA_⟩ ih
    replace hA_ := hA_.symm; subst hA_
    refine Run.seq ?_
    refine Run.sr ?_
    refine RunL.mv rfl rfl ?_
    refine RunL.mv rfl rfl ?_
    refine RunL.pure (Pure.lenSl rfl rfl und37) (Wt.none rfl) rfl rfl ?_
    refine RunL.pure (Pure.lss rfl rfl) (Wt.none rfl) rfl rfl ?_
    refine RunL.nil ?_
    refine Run.cond rfl (fun hk1 => ?_) (fun hk1 => ?_)
    · try simp only [decide_eq_true_eq, decide_eq_false_iff_not, beq_iff_eq, beq_eq_false_iff_ne, bne_iff_ne, ne_eq, Bool.not_eq_true', Bool.not_eq_false', Bool.not_eq_true, Bool.not_eq_false, Int.not_lt, Int.not_le, Decidable.not_not, bne_eq_false_iff_eq, gt_iff_lt, ge_iff_le, Bool.or_eq_true, Bool.and_eq_true] at hk1
      obtain ⟨y, hy⟩ := get_some (xs := xs) (i := k) (by omega)
      obtain ⟨bbhry, Thry, prehry, posthry, rfl, hry⟩ := h'.open1 (show 0 < xs.length by omega)
      refine Run.skip ?_
      refine Run.seq ?_
      refine Run.block ?_
      refine Run.regionD' (by kernel_rfl) (by kernel_rfl) (fun hok63 => ?_)
      refine RunD.pure (i := 0) hok63 rfl (by kernel_rfl) (Pure.move rfl) (Wt.none rfl) rfl rfl ?_
      refine RunD.pure (i := 1) hok63 rfl (by kernel_rfl) (Pure.move rfl) (Wt.none rfl) rfl rfl ?_
      refine RunD.split (d := 23) rfl (fun hh => ?_) (fun hh => ?_)
      · try simp only [decide_eq_true_eq, decide_eq_false_iff_not, beq_iff_eq, beq_eq_false_iff_ne, bne_iff_ne, ne_eq, Bool.not_eq_true', Bool.not_eq_false', Bool.not_eq_true, Bool.not_eq_false, Int.not_lt, Int.not_le, Decidable.not_not, bne_eq_false_iff_eq, gt_iff_lt, ge_iff_le, Bool.or_eq_true, Bool.and_eq_true] at hh
        refine RunD.not (i := 2) hok63 rfl (by kernel_rfl) rfl rfl (Wt.no rfl rfl rfl) ?_
        refine RunD.not (i := 3) hok63 rfl (by kernel_rfl) rfl rfl (Wt.no rfl rfl rfl) ?_
        refine RunD.not (i := 4) hok63 rfl (by kernel_rfl) rfl rfl (Wt.no rfl rfl rfl) ?_
        refine RunD.not (i := 5) hok63 rfl (by kernel_rfl) rfl rfl (Wt.no rfl rfl rfl) ?_
        refine RunD.not (i := 6) hok63 rfl (by kernel_rfl) rfl rfl (Wt.no rfl rfl rfl) ?_
        refine RunD.not (i := 7) hok63 rfl (by kernel_rfl) rfl rfl (Wt.no rfl rfl rfl) ?_
        refine RunD.not (i := 8) hok63 rfl (by kernel_rfl) rfl rfl (Wt.no rfl rfl rfl) ?_
        refine RunD.not (i := 9) hok63 rfl (by kernel_rfl) rfl rfl (Wt.no rfl rfl rfl) ?_
        refine RunD.not (i := 10) hok63 rfl (by kernel_rfl) rfl rfl (Wt.no rfl rfl rfl) ?_
        refine RunD.not (i := 11) hok63 rfl (by kernel_rfl) rfl rfl (Wt.no rfl rfl rfl) ?_
        refine RunD.pure (i := 12) hok63 rfl (by kernel_rfl) (Pure.pickT rfl rfl) (Wt.none rfl) rfl rfl ?_
        refine RunD.pure (i := 13) hok63 rfl (by kernel_rfl) (Pure.assign rfl) (Wt.none rfl) rfl rfl ?_
        refine RunD.nilR (by kernel_rfl) ?_
        refine Run.inBlock ?_
        refine Run.region ?_
        refine RunL.mv rfl rfl ?_
        first | refine RunL.pure (Pure.addI rfl rfl (by omega)) (Wt.none rfl) rfl rfl ?_ | refine RunL.pure (Pure.add rfl rfl) (Wt.none rfl) rfl rfl ?_
        refine RunL.as rfl rfl ?_
        refine RunL.nil ?_
        refine Run.keep (.cons rfl (.cons rfl (.cons rfl (.cons rfl (.cons rfl (.cons rfl (.cons rfl (.nil))))))) : Keep _ [1, 2, 4, 5, 6, 7, 8] _) ?_
        refine Run.againF (F := F) ih (by exact ⟨k + 1, by omega, rfl, (by rw [memT hh]; rfl), rfl⟩) (by repeat (first | (with_reducible exact Fin.done (by repeat (first | (with_reducible exact Rest.here) | apply Rest.there))) | (apply Fin.cons (by first | ((repeat (first | (with_reducible exact Find.here _) | apply Find.there)); done) | (repeat (first | exact Find.here _ | apply Find.there)))))) ?_
        omega
      · try simp only [decide_eq_true_eq, decide_eq_false_iff_not, beq_iff_eq, beq_eq_false_iff_ne, bne_iff_ne, ne_eq, Bool.not_eq_true', Bool.not_eq_false', Bool.not_eq_true, Bool.not_eq_false, Int.not_lt, Int.not_le, Decidable.not_not, bne_eq_false_iff_eq, gt_iff_lt, ge_iff_le, Bool.or_eq_true, Bool.and_eq_true] at hh
        refine RunD.pure (i := 2) hok63 rfl (by kernel_rfl) (Pure.move rfl) (Wt.yes rfl rfl rfl) rfl rfl ?_
        refine RunD.pure (i := 3) hok63 rfl (by kernel_rfl) (Pure.move rfl) (Wt.yes rfl rfl rfl) rfl rfl ?_
        refine RunD.pure (i := 4) hok63 rfl (by kernel_rfl) (Pure.indexAddr rfl rfl und37 sz31 (by omega) (by omega)) (Wt.yes rfl rfl rfl) rfl rfl ?_
        refine RunD.loadNR (vs := (cEdu y)) (i := 5) hok63 rfl (by kernel_rfl) rfl hry agg31 sz31 (elemN_len (pre := prehry) (post := posthry) (f := cEdu) (sz := 11) (j := 0) (n := 11) (fun _ _ => rfl) hy (by decide)) ((elemN_at (pre := prehry) (post := posthry) (f := cEdu) (sz := 11) (j := 0) (n := 11) (fun _ _ => rfl) hy (by decide)).trans rfl) (Wt.yes rfl rfl rfl) rfl ?_
        refine RunD.pure (i := 6) hok63 rfl (by kernel_rfl) (Pure.fieldAddr rfl fo53_1) (Wt.yes rfl rfl rfl) rfl rfl ?_
        refine RunD.load1R (i := 7) hok63 rfl (by kernel_rfl) rfl (by assumption) (by rfl) agg37 (Wt.yes rfl rfl rfl) rfl ?_
        refine RunD.pure (i := 8) hok63 rfl (by kernel_rfl) (Pure.move rfl) (Wt.yes rfl rfl rfl) rfl rfl ?_
        refine RunD.pure (i := 9) hok63 rfl (by kernel_rfl) (Pure.indexAddr rfl rfl und37 sz31 (by omega) (by omega)) (Wt.yes rfl rfl rfl) rfl rfl ?_
        refine RunD.loadNR (vs := (cEdu x)) (i := 10) hok63 rfl (by kernel_rfl) rfl hrl agg31 sz31 (elemN_len (pre := prel) (post := postl) (f := cEdu) (sz := 11) (j := 0) (n := 11) (fun _ _ => rfl) hx (by decide)) ((elemN_at (pre := prel) (post := postl) (f := cEdu) (sz := 11) (j := 0) (n := 11) (fun _ _ => rfl) hx (by decide)).trans rfl) (Wt.yes rfl rfl rfl) rfl ?_
        refine RunD.pure (i := 11) hok63 rfl (by kernel_rfl) (Pure.aeql rfl rfl eqg31 (eqv31 (y) (x)) (by decide)) (Wt.yes rfl rfl rfl) rfl rfl ?_
        refine RunD.pure (i := 12) hok63 rfl (by kernel_rfl) (Pure.pickF rfl rfl) (Wt.none rfl) rfl rfl ?_
        refine RunD.pure (i := 13) hok63 rfl (by kernel_rfl) (Pure.assign rfl) (Wt.none rfl) rfl rfl ?_
        refine RunD.nilR (by kernel_rfl) ?_
        refine Run.inBlock ?_
        refine Run.region ?_
        refine RunL.mv rfl rfl ?_
        first | refine RunL.pure (Pure.addI rfl rfl (by omega)) (Wt.none rfl) rfl rfl ?_ | refine RunL.pure (Pure.add rfl rfl) (Wt.none rfl) rfl rfl ?_
        refine RunL.as rfl rfl ?_
        refine RunL.nil ?_
        refine Run.keep (.cons rfl (.cons rfl (.cons rfl (.cons rfl (.cons rfl (.cons rfl (.cons rfl (.nil))))))) : Keep _ [1, 2, 4, 5, 6, 7, 8] _) ?_
        refine Run.againF (F := F) ih (by exact ⟨k + 1, by omega, rfl, (by rw [memF hy hh]; rfl), rfl⟩) (by repeat (first | (with_reducible exact Fin.done (by repeat (first | (with_reducible exact Rest.here) | apply Rest.there))) | (apply Fin.cons (by first | ((repeat (first | (with_reducible exact Find.here _) | apply Find.there)); done) | (repeat (first | exact Find.here _ | apply Find.there)))))) ?_
        omega
    · try simp only [decide_eq_true_eq, decide_eq_false_iff_not, beq_iff_eq, beq_eq_false_iff_ne, bne_iff_ne, ne_eq, Bool.not_eq_true', Bool.not_eq_false', Bool.not_eq_true, Bool.not_eq_false, Int.not_lt, Int.not_le, Decidable.not_not, bne_eq_false_iff_eq, gt_iff_lt, ge_iff_le, Bool.or_eq_true, Bool.and_eq_true] at hk1
      obtain rfl : k = xs.length := by omega
      rw [List.take_length]
      refine Run.exit rfl ?_
      refine Run.sr ?_
      refine RunL.mv rfl rfl ?_
      refine RunL.nil ?_
      refine Run.cond rfl (fun hxi => ?_) (fun hxi => ?_)
      · try simp only [decide_eq_true_eq, decide_eq_false_iff_not, beq_iff_eq, beq_eq_false_iff_ne, bne_iff_ne, ne_eq, Bool.not_eq_true', Bool.not_eq_false', Bool.not_eq_true, Bool.not_eq_false, Int.not_lt, Int.not_le, Decidable.not_not, bne_eq_false_iff_eq, gt_iff_lt, ge_iff_le, Bool.or_eq_true, Bool.and_eq_true] at hxi
        refine Run.region ?_
        refine RunL.mv rfl rfl ?_
        refine RunL.pure (Pure.fieldAddr rfl fo53_1) (Wt.none rfl) rfl rfl ?_
        first | refine RunL.load1 rfl (by first | ((repeat (first | (with_reducible exact Find.here _) | apply Find.there)); done) | (repeat (first | exact Find.here _ | apply Find.there))) (by rfl) agg37 (Wt.none rfl) rfl ?_ | refine RunL.load1R rfl (by assumption) (by rfl) agg37 (Wt.none rfl) rfl ?_
        refine RunL.mv rfl rfl ?_
        refine RunL.pure (Pure.indexAddr rfl rfl und37 sz31 (by omega) (by omega)) (Wt.none rfl) rfl rfl ?_
        refine RunL.loadNR (vs := (cEdu x)) rfl hrl agg31 sz31 (elemN_len (pre := prel) (post := postl) (f := cEdu) (sz := 11) (j := 0) (n := 11) (fun _ _ => rfl) hx (by decide)) ((elemN_at (pre := prel) (post := postl) (f := cEdu) (sz := 11) (j := 0) (n := 11) (fun _ _ => rfl) hx (by decide)).trans rfl) (Wt.none rfl) rfl ?_
        refine RunL.lit (vals := [_]) (vs := ([x] : List Edu).flatMap cEdu) und37 sz31 zz31 rfl rfl rfl rfl rfl rfl (by simp [Value.cells, bv, cEdu, cKey, cQst]) rfl (Wt.none rfl) rfl ?_; intro b42
        refine RunL.append (m := 1) (n' := ((l.take (i + 1)).filter (fun x => decide (x ∈ xs))).length) (cs' := ((l.take (i + 1)).filter (fun x => decide (x ∈ xs))).flatMap cEdu) rfl rfl (by first | ((repeat (first | (with_reducible exact Find.here _) | apply Find.there)); done) | (repeat (first | exact Find.here _ | apply Find.there))) rfl rfl und37 und37 rfl sz31 zz31 rfl by31 (by omega) (by omega) (fun w sw => sw.src) (isOne_flat (f := cEdu) (fun _ => rfl)) (by rw [flt_in hx hxi, List.length_append]; rfl) (by rw [flt_in hx hxi, flatMap_app]) (Wt.none rfl) rfl ?_; intro a2 c2
        refine RunL.as rfl rfl ?_
        refine RunL.nil ?_
        refine Run.inBlock ?_
        refine Run.region ?_
        refine RunL.mv rfl rfl ?_
        first | refine RunL.pure (Pure.addI rfl rfl (by omega)) (Wt.none rfl) rfl rfl ?_ | refine RunL.pure (Pure.add rfl rfl) (Wt.none rfl) rfl rfl ?_
        refine RunL.as rfl rfl ?_
        refine RunL.nil ?_
        have ih := ih1
        refine Run.keep (.cons rfl (.cons rfl (.cons rfl (.cons rfl (.cons rfl (.nil))))) : Keep _ [1, 2, 4, 5, 6] _) ?_
        refine Run.againF (F := F) ih (by exact ⟨i + 1, _, _, by omega, rfl, rfl, rfl⟩) (by repeat (first | (with_reducible exact Fin.done (by repeat (first | (with_reducible exact Rest.here) | apply Rest.there))) | (apply Fin.cons (by first | ((repeat (first | (with_reducible exact Find.here _) | apply Find.there)); done) | (repeat (first | exact Find.here _ | apply Find.there)))))) ?_
        omega
      · try simp only [decide_eq_true_eq, decide_eq_false_iff_not, beq_iff_eq, beq_eq_false_iff_ne, bne_iff_ne, ne_eq, Bool.not_eq_true', Bool.not_eq_false', Bool.not_eq_true, Bool.not_eq_false, Int.not_lt, Int.not_le, Decidable.not_not, bne_eq_false_iff_eq, gt_iff_lt, ge_iff_le, Bool.or_eq_true, Bool.and_eq_true] at hxi
        refine Run.skip ?_
        refine Run.inBlock ?_
        refine Run.region ?_
        refine RunL.mv rfl rfl ?_
        first | refine RunL.pure (Pure.addI rfl rfl (by omega)) (Wt.none rfl) rfl rfl ?_ | refine RunL.pure (Pure.add rfl rfl) (Wt.none rfl) rfl rfl ?_
        refine RunL.as rfl rfl ?_
        refine RunL.nil ?_
        have ih := ih1
        rw [← flt_out hx hxi]
        refine Run.keep (.cons rfl (.cons rfl (.cons rfl (.cons rfl (.cons rfl (.nil))))) : Keep _ [1, 2, 4, 5, 6] _) ?_
        refine Run.againF (F := F) ih (by exact ⟨i + 1, _, _, by omega, rfl, rfl, rfl⟩) (by repeat (first | (with_reducible exact Fin.done (by repeat (first | (with_reducible exact Rest.here) | apply Rest.there))) | (apply Fin.cons (by first | ((repeat (first | (with_reducible exact Find.here _) | apply Find.there)); done) | (repeat (first | exact Find.here _ | apply Find.there)))))) ?_
        omega
  · try simp only [decide_eq_true_eq, decide_eq_false_iff_not, beq_iff_eq, beq_eq_false_iff_ne, bne_iff_ne, ne_eq, Bool.not_eq_true', Bool.not_eq_false', Bool.not_eq_true, Bool.not_eq_false, Int.not_lt, Int.not_le, Decidable.not_not, bne_eq_false_iff_eq, gt_iff_lt, ge_iff_le, Bool.or_eq_true, Bool.and_eq_true] at h1
    obtain rfl : i = l.length := by omega
    rw [List.take_length]
    refine Run.exit rfl ?_
    refine Run.sr ?_
    refine RunL.pure (Pure.fieldAddr rfl fo53_0) (Wt.none rfl) rfl rfl ?_
    first | refine RunL.load1 rfl (by first | ((repeat (first | (with_reducible exact Find.here _) | apply Find.there)); done) | (repeat (first | exact Find.here _ | apply Find.there))) (by rfl) agg3 (Wt.none rfl) rfl ?_ | refine RunL.load1R rfl (by assumption) (by rfl) agg3 (Wt.none rfl) rfl ?_
    refine RunL.mv rfl rfl ?_
    refine RunL.pure (Pure.fieldAddr rfl fo53_2) (Wt.none rfl) rfl rfl ?_
    first | refine RunL.load1 rfl (by first | ((repeat (first | (with_reducible exact Find.here _) | apply Find.there)); done) | (repeat (first | exact Find.here _ | apply Find.there))) (by rfl) agg3 (Wt.none rfl) rfl ?_ | refine RunL.load1R rfl (by assumption) (by rfl) agg3 (Wt.none rfl) rfl ?_
    refine RunL.pure (Pure.buildL (ps := [(0, _), (1, _), (2, _)]) (zs := [(.int .i64 0), (.slice none 0 0), (.int .i64 0)]) (xs := (cQst ((⟨qm, ⟨a, (l.filter (fun x => decide (x ∈ xs))).length, c⟩, ql⟩ : Qst)))) pl53 rfl rfl rfl rfl) (Wt.none rfl) rfl rfl ?_
    refine RunL.storeW (xs := (cQst ((⟨qm, ⟨a, (l.filter (fun x => decide (x ∈ xs))).length, c⟩, ql⟩ : Qst)))) rfl rfl (by first | ((repeat (first | (with_reducible exact Find.here _) | apply Find.there)); done) | (repeat (first | exact Find.here _ | apply Find.there))) sz53 (by rfl) (by rfl) (by rfl) (Wt.none rfl) ?_
    refine RunL.nil ?_
    exact Run.ret Try.func26 (resV1 rfl (Rv.cellN (us := (cQst ((⟨qm, ⟨a, (l.filter (fun x => decide (x ∈ xs))).length, c⟩, ql⟩ : Qst)))) rfl (by first | ((repeat (first | (with_reducible exact Find.here _) | apply Find.there)); done) | (repeat (first | exact Find.here _ | apply Find.there))) agg53 sz53 (by first | exact Nat.le_of_ble_eq_true rfl | (simp; done) | (simp; omega)) rfl)) (by exact ⟨_, _, rfl, rfl⟩) (by repeat (first | (with_reducible exact Fin.done (by repeat (first | (with_reducible exact Rest.here) | apply Rest.there))) | (apply Fin.cons (by first | ((repeat (first | (with_reducible exact Find.here _) | apply Find.there)); done) | (repeat (first | exact Find.here _ | apply Find.there))))))

end Go.Proofs.Ytnmpbpadpkgboaa
