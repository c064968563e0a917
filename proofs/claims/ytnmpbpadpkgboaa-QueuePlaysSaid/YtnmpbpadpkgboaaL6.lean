/- What is done. -/
import Derived.Test.YtnmpbpadpkgboaaL0
set_option linter.unusedVariables false
set_option linter.unusedSimpArgs false
set_option linter.unusedSectionVars false
namespace Go.Proofs.Ytnmpbpadpkgboaa
open Go Csl
theorem cb22 : Callable Try.prog 22 := ⟨_, Try.func22, by kernel_rfl, by kernel_rfl⟩
theorem cb24 : Callable Try.prog 24 := ⟨_, Try.func24, by kernel_rfl, by kernel_rfl⟩
theorem cb26 : Callable Try.prog 26 := ⟨_, Try.func26, by kernel_rfl, by kernel_rfl⟩
theorem cb27 : Callable Try.prog 27 := ⟨_, Try.func27, by kernel_rfl, by kernel_rfl⟩
theorem cb29 : Callable Try.prog 29 := ⟨_, Try.func29, by kernel_rfl, by kernel_rfl⟩

set_option maxHeartbeats 4000000 in
set_option maxRecDepth 100000 in
theorem QueuePlays_ctr {G : Gp} {y0 : Int} (hy0 : -9223372036854775808 ≤ y0 ∧ y0 ≤ 9223372036854775807) {ax : Option Addr} {cap : Nat} {xs : List Edu} (h : SlR G 31 11 ax xs.length (xs.flatMap cEdu)) (hn : xs.length ≤ 9223372036854775807) (hxo : ∀ x ∈ xs, okEdu x) {b : Option Addr} {cb : Nat} {zs : List Int} (h' : SlR G 3 1 b zs.length (zs.map (Value.int .i64))) (hm : zs.length ≤ 9223372036854775807) (hzo : ∀ z ∈ zs, (Lit.int .i64 z).wf = true) :
    Ctr Try.prog G 8 [.int .i64 y0, .slice ax xs.length cap, .slice b zs.length cb] [] (fun F v A => v = .bool true ∧ A = F) := by
  refine Ctr.intro Try.func8 rfl (by kernel_rfl) rfl (fun F => ?_)
  simp only [List.nil_append]
  have hAz := around_lt (z := y0) (m := 6) (by decide)
  refine Run.sr ?_
  refine RunL.as rfl rfl ?_
  refine RunL.nil ?_
  refine Run.sr ?_
  refine RunL.mv rfl rfl ?_
  refine RunL.call rfl rfl (by rfl) (by repeat (first | (with_reducible exact Take.nil _) | (apply Take.cons (by first | ((repeat (first | (with_reducible exact Find.here _) | apply Find.there)); done) | (repeat (first | exact Find.here _ | apply Find.there)))))) (Around_ctr hy0 (by decide)) (Wt.none rfl) rfl ?_
  rintro _ _ ⟨rfl, hA_⟩
  replace hA_ := hA_.symm; subst hA_
  first | refine RunL.pure (Pure.addI rfl rfl (by omega)) (Wt.none rfl) rfl rfl ?_ | refine RunL.pure (Pure.add rfl rfl) (Wt.none rfl) rfl rfl ?_
  refine RunL.as rfl rfl ?_
  refine RunL.nil ?_
  obtain ⟨m, hm0, hm1, hm6⟩ : ∃ m, 1 + around y0 6 = m ∧ 1 ≤ m ∧ m ≤ 6 := ⟨_, rfl, by omega, by omega⟩
  rw [hm0]
  refine Run.sr ?_
  refine RunL.mv rfl rfl ?_
  refine RunL.call rfl rfl (by rfl) (by repeat (first | (with_reducible exact Take.nil _) | (apply Take.cons (by first | ((repeat (first | (with_reducible exact Find.here _) | apply Find.there)); done) | (repeat (first | exact Find.here _ | apply Find.there)))))) (qNewT_ctr (z := m) (by omega)) (Wt.none rfl) rfl ?_
  rintro _ _ ⟨p, rfl, hA_⟩
  replace hA_ := hA_.symm; subst hA_
  refine RunL.mv rfl rfl ?_
  refine RunL.pure (Pure.extract rfl rfl) (Wt.none rfl) rfl rfl ?_
  refine RunL.pure (Pure.extract rfl rfl) (Wt.none rfl) rfl rfl ?_
  refine RunL.as rfl rfl ?_
  refine RunL.as rfl rfl ?_
  refine RunL.nil ?_
  refine Run.seq ?_
  refine Run.sr ?_
  refine RunL.mv rfl rfl ?_
  refine RunL.pure (Pure.ptrEqNil rfl rfl und24) (Wt.none rfl) rfl rfl ?_
  refine RunL.mv rfl rfl ?_
  refine RunL.pure (Pure.move rfl) (Wt.yes rfl rfl rfl) rfl rfl ?_
  refine RunL.pure (Pure.neq rfl rfl) (Wt.yes rfl rfl rfl) rfl rfl ?_
  refine RunL.pure (Pure.pickF rfl rfl) (Wt.none rfl) rfl rfl ?_
  refine RunL.nil ?_
  refine Run.cond rfl (fun hc1 => ?_) (fun hc1 => ?_)
  · try simp only [decide_eq_true_eq, decide_eq_false_iff_not, beq_iff_eq, beq_eq_false_iff_ne, bne_iff_ne, ne_eq, Bool.not_eq_true', Bool.not_eq_false', Bool.not_eq_true, Bool.not_eq_false, Int.not_lt, Int.not_le, Decidable.not_not, bne_eq_false_iff_eq, gt_iff_lt, ge_iff_le, Bool.or_eq_true, Bool.and_eq_true] at hc1
    exfalso
    first | (simp_all; done) | (simp_all; omega) | omega | grind
  try simp only [decide_eq_true_eq, decide_eq_false_iff_not, beq_iff_eq, beq_eq_false_iff_ne, bne_iff_ne, ne_eq, Bool.not_eq_true', Bool.not_eq_false', Bool.not_eq_true, Bool.not_eq_false, Int.not_lt, Int.not_le, Decidable.not_not, bne_eq_false_iff_eq, gt_iff_lt, ge_iff_le, Bool.or_eq_true, Bool.and_eq_true] at hc1
  refine Run.skip ?_
  refine Run.sr ?_
  refine RunL.mv rfl rfl ?_
  refine RunL.pure (Pure.buildL (ps := [(0, _)]) (zs := [(.int .i64 0), (.slice none 0 0), (.int .i64 0)]) (xs := (cQst ((⟨m, ⟨none, 0, 0⟩, 0⟩ : Qst)))) pl53 rfl rfl rfl rfl) (Wt.none rfl) rfl rfl ?_
  refine RunL.alloc zz53 (Wt.none rfl) rfl ?_; intro b10
  refine RunL.storeW (xs := (cQst ((⟨m, ⟨none, 0, 0⟩, 0⟩ : Qst)))) rfl rfl (by first | ((repeat (first | (with_reducible exact Find.here _) | apply Find.there)); done) | (repeat (first | exact Find.here _ | apply Find.there))) sz53 (by rfl) (by rfl) (by rfl) (Wt.none rfl) ?_
  refine RunL.nil ?_
  refine Run.nilSl 31 11 ?_
  refine Run.seq ?_
  refine Run.sr ?_
  refine RunL.as rfl rfl ?_
  refine RunL.nil ?_
  refine Run.block ?_
  refine Run.keep (.cons rfl (.cons rfl (.cons rfl (.cons rfl (.cons rfl (.nil))))) : Keep _ [1, 2, 8, 10, 11] _) ?_
  refine Run.loopF (F := F) (fun n e_ A => ∃ (i : Nat) (l : List Edu) (lost : Int) (a : Option Addr) (c : Nat), i ≤ xs.length ∧ i ≤ 16 ∧ (∀ x ∈ l, eduSmall x ∧ okEdu x) ∧ l.length ≤ i ∧ (0 ≤ lost ∧ lost ≤ i) ∧ n = 16 - i ∧ e_ = [(1, .slice ax xs.length cap), (2, .slice b zs.length cb), (8, .pointer (some ⟨p, 0, none⟩)), (10, .pointer (some ⟨b10, 0, none⟩)), (11, .int .i64 (i : Nat))] ∧ A = Sl 31 11 a (l).length c ((l).flatMap cEdu) :: row b10 53 (cQst (⟨m, ⟨a, (l).length, c⟩, lost⟩ : Qst)) :: Qu p m (lost) (l) :: F) (16) (by exact ⟨0, [], 0, none, 0, by omega, by omega, (fun x hx => by cases hx), by simp, by omega, rfl, rfl, rfl⟩) (by repeat (first | (with_reducible exact Fin.done (by repeat (first | (with_reducible exact Rest.here) | apply Rest.there))) | (apply Fin.cons (by first | ((repeat (first | (with_reducible exact Find.here _) | apply Find.there)); done) | (repeat (first | exact Find.here _ | apply Find.there)))))) ?_
  rintro n _ _ ⟨i, l, lost, a, c, hi, hi2, hlf, hll, hlo, rfl, rfl, hA_⟩ ih
  replace hA_ := hA_.symm; subst hA_
  refine Run.seq ?_
  refine Run.sr ?_
  refine RunL.mv rfl rfl ?_
  refine RunL.mv rfl rfl ?_
  refine RunL.pure (Pure.lenSl rfl rfl und37) (Wt.none rfl) rfl rfl ?_
  refine RunL.pure (Pure.lss rfl rfl) (Wt.none rfl) rfl rfl ?_
  refine RunL.mv rfl rfl ?_
  refine RunL.split (d := 53) rfl (fun hi1 => ?_) (fun hi1 => ?_)
  · try simp only [decide_eq_true_eq, decide_eq_false_iff_not, beq_iff_eq, beq_eq_false_iff_ne, bne_iff_ne, ne_eq, Bool.not_eq_true', Bool.not_eq_false', Bool.not_eq_true, Bool.not_eq_false, Int.not_lt, Int.not_le, Decidable.not_not, bne_eq_false_iff_eq, gt_iff_lt, ge_iff_le, Bool.or_eq_true, Bool.and_eq_true] at hi1
    refine RunL.pure (Pure.move rfl) (Wt.yes rfl rfl rfl) rfl rfl ?_
    refine RunL.pure (Pure.lss rfl rfl) (Wt.yes rfl rfl rfl) rfl rfl ?_
    refine RunL.pure (Pure.pickT rfl rfl) (Wt.none rfl) rfl rfl ?_
    refine RunL.nil ?_
    refine Run.cond rfl (fun hi2 => ?_) (fun hi2 => ?_)
    · try simp only [decide_eq_true_eq, decide_eq_false_iff_not, beq_iff_eq, beq_eq_false_iff_ne, bne_iff_ne, ne_eq, Bool.not_eq_true', Bool.not_eq_false', Bool.not_eq_true, Bool.not_eq_false, Int.not_lt, Int.not_le, Decidable.not_not, bne_eq_false_iff_eq, gt_iff_lt, ge_iff_le, Bool.or_eq_true, Bool.and_eq_true] at hi2
      obtain ⟨x, hx⟩ := get_some (xs := xs) (i := i) (by omega)
      have hxk := hxo x (List.mem_of_getElem? hx)
      obtain ⟨bb, Tb, preb, postb, rfl, hro⟩ := h.open1 (show 0 < xs.length by omega)
      refine Run.know (fun w s => (s.find (p := Qu p m lost l) (by first | ((repeat (first | (with_reducible exact Find.here _) | apply Find.there)); done) | (repeat (first | exact Find.here _ | apply Find.there)))).qu_nodup) ?_; intro hnd
      refine Run.slLen (T := 31) (sz := 11) (a := a) (n := l.length) (by first | ((repeat (first | (with_reducible exact Find.here _) | apply Find.there)); done) | (repeat (first | exact Find.here _ | apply Find.there))) ?_; intro ⟨_, hcap⟩
      refine Run.skip ?_
      refine Run.seq ?_
      refine Run.block ?_
      refine Run.sr ?_
      refine RunL.mv rfl rfl ?_
      refine RunL.mv rfl rfl ?_
      refine RunL.pure (Pure.indexAddr rfl rfl und37 sz31 (by omega) (by omega)) (Wt.none rfl) rfl rfl ?_
      refine RunL.loadNR (vs := (cEdu x)) rfl hro agg31 sz31 (elemN_len (pre := preb) (post := postb) (f := cEdu) (sz := 11) (j := 0) (n := 11) (fun _ _ => rfl) hx (by decide)) ((elemN_at (pre := preb) (post := postb) (f := cEdu) (sz := 11) (j := 0) (n := 11) (fun _ _ => rfl) hx (by decide)).trans rfl) (Wt.none rfl) rfl ?_
      refine RunL.call rfl rfl (by rfl) (by repeat (first | (with_reducible exact Take.nil _) | (apply Take.cons (by first | ((repeat (first | (with_reducible exact Find.here _) | apply Find.there)); done) | (repeat (first | exact Find.here _ | apply Find.there)))))) (Public3_ctr (e := x) (by assumption)) (Wt.none rfl) rfl ?_
      rintro _ _ ⟨rfl, hA_⟩
      replace hA_ := hA_.symm; subst hA_
      refine RunL.alloc zz31 (Wt.none rfl) rfl ?_; intro b12
      refine RunL.storeW (xs := (cEdu (pubE x))) rfl rfl (by first | ((repeat (first | (with_reducible exact Find.here _) | apply Find.there)); done) | (repeat (first | exact Find.here _ | apply Find.there))) sz31 (by rfl) (by rfl) (by rfl) (Wt.none rfl) ?_
      refine RunL.nil ?_
      refine Run.sr ?_
      refine RunL.as rfl rfl ?_
      refine RunL.nil ?_
      refine Run.seq ?_
      refine Run.sr ?_
      refine RunL.mv rfl rfl ?_
      refine RunL.mv rfl rfl ?_
      refine RunL.pure (Pure.lenSl rfl rfl und23) (Wt.none rfl) rfl rfl ?_
      refine RunL.pure (Pure.lss rfl rfl) (Wt.none rfl) rfl rfl ?_
      refine RunL.nil ?_
      refine Run.cut (fun e_ A => ∃ d : Int, e_ = [(1, .slice (some ⟨bb, preb.length, none⟩) xs.length cap), (2, .slice b zs.length cb), (8, .pointer (some ⟨p, 0, none⟩)), (10, .pointer (some ⟨b10, 0, none⟩)), (11, .int .i64 (i : Nat)), (12, .pointer (some ⟨b12, 0, none⟩)), (13, .int .i64 d)] ∧ A = row b12 31 (cEdu (pubE x)) :: Sl 31 11 a (l).length c ((l).flatMap cEdu) :: row b10 53 (cQst (⟨m, ⟨a, (l).length, c⟩, lost⟩ : Qst)) :: Qu p m (lost) (l) :: F) (fun e A hM => ?_) (fun hk => ?_)
      · obtain ⟨d, rfl, hA_⟩ := hM
        replace hA_ := hA_.symm; subst hA_
        refine Run.seq ?_
        refine Run.sr ?_
        refine RunL.mv rfl rfl ?_
        refine RunL.nil ?_
        refine Run.cut (fun e_ A => ∃ (l2 : List Edu) (lost2 : Int) (a2 : Option Addr) (c2 : Nat), (∀ x ∈ l2, eduSmall x ∧ okEdu x) ∧ l2.length ≤ i + 1 ∧ (0 ≤ lost2 ∧ lost2 ≤ i + 1) ∧ e_ = [(1, .slice (some ⟨bb, preb.length, none⟩) xs.length cap), (2, .slice b zs.length cb), (8, .pointer (some ⟨p, 0, none⟩)), (10, .pointer (some ⟨b10, 0, none⟩)), (11, .int .i64 (i : Nat))] ∧ A = Sl 31 11 a2 (l2).length c2 ((l2).flatMap cEdu) :: row b10 53 (cQst (⟨m, ⟨a2, (l2).length, c2⟩, lost2⟩ : Qst)) :: Qu p m (lost2) (l2) :: F) (fun e A hM => ?_) (fun hk => ?_)
        · obtain ⟨l2, lost2, a2, c2, hlf2, hll2, hlo2, rfl, hA_⟩ := hM
          replace hA_ := hA_.symm; subst hA_
          refine Run.seq ?_
          refine Run.regionD' (by kernel_rfl) (by kernel_rfl) (fun hok110 => ?_)
          refine RunD.lend (Q := row b10 53 _) Lends.row (by first | ((repeat (first | (with_reducible exact Find.here _) | apply Find.there)); done) | (repeat (first | exact Find.here _ | apply Find.there))) ?_; intro gl1 hlegl1 hl1 backgl1
          have h_gl1 := h.mono hlegl1
          have h'_gl1 := h'.mono hlegl1
          have hro_gl1 := hro.mono hlegl1
          refine RunD.pure (i := 0) hok110 rfl (by kernel_rfl) (Pure.move rfl) (Wt.none rfl) rfl rfl ?_
          refine RunD.pure (i := 2) hok110 rfl (by kernel_rfl) (Pure.fieldAddr rfl fo53_1) (Wt.none rfl) rfl rfl ?_
          refine RunD.load1R (i := 3) hok110 rfl (by kernel_rfl) rfl (by assumption) (by rfl) agg37 (Wt.none rfl) rfl ?_
          refine RunD.one (i := 1) (by kernel_rfl) rfl ?_
          refine RunL.call rfl rfl (by rfl) (by repeat (first | (with_reducible exact Take.nil _) | (apply Take.cons (by first | ((repeat (first | (with_reducible exact Find.here _) | apply Find.there)); done) | (repeat (first | exact Find.here _ | apply Find.there)))))) (qAll_ctr (by omega)) (Wt.none rfl) rfl ?_
          rintro _ _ ⟨a14, c14, rfl, hA_⟩
          replace hA_ := hA_.symm; subst hA_
          refine RunL.nilD' ?_
          refine RunD.one (i := 4) (by kernel_rfl) rfl ?_
          refine RunL.call rfl rfl (by rfl) (by repeat (first | (with_reducible exact Take.nil _) | (apply Take.cons (by first | ((repeat (first | (with_reducible exact Find.here _) | apply Find.there)); done) | (repeat (first | exact Find.here _ | apply Find.there)))))) (Ctr.lend (R := fun G => SlR G 31 11 _ _ _ ∧ _ ≤ _) Lends.Sl cb24 (fun G' hle hr => Ctr.lend (R := fun G => SlR G 31 11 _ _ _ ∧ _ ≤ _) Lends.Sl cb24 (fun G2 hle2 hr2 => SameEdus_ctr (xs := l2) (ys := l2) rfl rfl (hr.1.mono hle2) hr2.1 (by omega)))) (Wt.none rfl) rfl ?_
          rintro _ _ ⟨_, rfl, _, rfl, rfl, hA_⟩
          replace hA_ := hA_.symm; subst hA_
          refine RunL.nilD' ?_
          refine RunD.pure (i := 5) hok110 rfl (by kernel_rfl) (Pure.not rfl) (Wt.none rfl) rfl rfl ?_
          refine RunD.pure (i := 6) hok110 rfl (by kernel_rfl) (Pure.move rfl) (Wt.none rfl) rfl rfl ?_
          refine RunD.split (d := 201) rfl (fun hg2 => ?_) (fun hg2 => ?_)
          · try simp only [decide_eq_true_eq, decide_eq_false_iff_not, beq_iff_eq, beq_eq_false_iff_ne, bne_iff_ne, ne_eq, Bool.not_eq_true', Bool.not_eq_false', Bool.not_eq_true, Bool.not_eq_false, Int.not_lt, Int.not_le, Decidable.not_not, bne_eq_false_iff_eq, gt_iff_lt, ge_iff_le, Bool.or_eq_true, Bool.and_eq_true] at hg2
            exfalso
            first | (simp_all; done) | (simp_all; omega) | omega | grind
          try simp only [decide_eq_true_eq, decide_eq_false_iff_not, beq_iff_eq, beq_eq_false_iff_ne, bne_iff_ne, ne_eq, Bool.not_eq_true', Bool.not_eq_false', Bool.not_eq_true, Bool.not_eq_false, Int.not_lt, Int.not_le, Decidable.not_not, bne_eq_false_iff_eq, gt_iff_lt, ge_iff_le, Bool.or_eq_true, Bool.and_eq_true] at hg2
          refine RunD.pure (i := 7) hok110 rfl (by kernel_rfl) (Pure.move rfl) (Wt.yes rfl rfl rfl) rfl rfl ?_
          refine RunD.pure (i := 9) hok110 rfl (by kernel_rfl) (Pure.fieldAddr rfl fo53_1) (Wt.yes rfl rfl rfl) rfl rfl ?_
          refine RunD.load1R (i := 10) hok110 rfl (by kernel_rfl) rfl (by assumption) (by rfl) agg37 (Wt.yes rfl rfl rfl) rfl ?_
          refine RunD.pure (i := 11) hok110 rfl (by kernel_rfl) (Pure.lenSl rfl rfl und37) (Wt.yes rfl rfl rfl) rfl rfl ?_
          refine RunD.one (i := 8) (by kernel_rfl) rfl ?_
          refine RunL.call rfl rfl (by rfl) (by repeat (first | (with_reducible exact Take.nil _) | (apply Take.cons (by first | ((repeat (first | (with_reducible exact Find.here _) | apply Find.there)); done) | (repeat (first | exact Find.here _ | apply Find.there)))))) (qLen_ctr) (Wt.yes rfl rfl rfl) rfl ?_
          rintro _ _ ⟨rfl, hA_⟩
          replace hA_ := hA_.symm; subst hA_
          refine RunL.nilD' ?_
          refine RunD.pure (i := 12) hok110 rfl (by kernel_rfl) (Pure.neq rfl rfl) (Wt.yes rfl rfl rfl) rfl rfl ?_
          refine RunD.pure (i := 13) hok110 rfl (by kernel_rfl) (Pure.pickF rfl rfl) (Wt.none rfl) rfl rfl ?_
          refine RunD.pure (i := 14) hok110 rfl (by kernel_rfl) (Pure.move rfl) (Wt.none rfl) rfl rfl ?_
          refine RunD.split (d := 209) rfl (fun hg3 => ?_) (fun hg3 => ?_)
          · try simp only [decide_eq_true_eq, decide_eq_false_iff_not, beq_iff_eq, beq_eq_false_iff_ne, bne_iff_ne, ne_eq, Bool.not_eq_true', Bool.not_eq_false', Bool.not_eq_true, Bool.not_eq_false, Int.not_lt, Int.not_le, Decidable.not_not, bne_eq_false_iff_eq, gt_iff_lt, ge_iff_le, Bool.or_eq_true, Bool.and_eq_true] at hg3
            exfalso
            first | (simp_all; done) | (simp_all; omega) | omega | grind
          try simp only [decide_eq_true_eq, decide_eq_false_iff_not, beq_iff_eq, beq_eq_false_iff_ne, bne_iff_ne, ne_eq, Bool.not_eq_true', Bool.not_eq_false', Bool.not_eq_true, Bool.not_eq_false, Int.not_lt, Int.not_le, Decidable.not_not, bne_eq_false_iff_eq, gt_iff_lt, ge_iff_le, Bool.or_eq_true, Bool.and_eq_true] at hg3
          refine RunD.pure (i := 15) hok110 rfl (by kernel_rfl) (Pure.move rfl) (Wt.yes rfl rfl rfl) rfl rfl ?_
          refine RunD.pure (i := 17) hok110 rfl (by kernel_rfl) (Pure.fieldAddr rfl fo53_2) (Wt.yes rfl rfl rfl) rfl rfl ?_
          refine RunD.load1R (i := 18) hok110 rfl (by kernel_rfl) rfl (by assumption) (by rfl) agg3 (Wt.yes rfl rfl rfl) rfl ?_
          refine RunD.one (i := 16) (by kernel_rfl) rfl ?_
          refine RunL.call rfl rfl (by rfl) (by repeat (first | (with_reducible exact Take.nil _) | (apply Take.cons (by first | ((repeat (first | (with_reducible exact Find.here _) | apply Find.there)); done) | (repeat (first | exact Find.here _ | apply Find.there)))))) (qLost_ctr) (Wt.yes rfl rfl rfl) rfl ?_
          rintro _ _ ⟨rfl, hA_⟩
          replace hA_ := hA_.symm; subst hA_
          refine RunL.nilD' ?_
          refine RunD.pure (i := 19) hok110 rfl (by kernel_rfl) (Pure.neq rfl rfl) (Wt.yes rfl rfl rfl) rfl rfl ?_
          refine RunD.pure (i := 20) hok110 rfl (by kernel_rfl) (Pure.pickF rfl rfl) (Wt.none rfl) rfl rfl ?_
          refine RunD.nilB (by kernel_rfl) (fun w sw => backgl1 _ _ (sw)) ?_
          refine Run.cond rfl (fun hc4 => ?_) (fun hc4 => ?_)
          · try simp only [decide_eq_true_eq, decide_eq_false_iff_not, beq_iff_eq, beq_eq_false_iff_ne, bne_iff_ne, ne_eq, Bool.not_eq_true', Bool.not_eq_false', Bool.not_eq_true, Bool.not_eq_false, Int.not_lt, Int.not_le, Decidable.not_not, bne_eq_false_iff_eq, gt_iff_lt, ge_iff_le, Bool.or_eq_true, Bool.and_eq_true] at hc4
            exfalso
            first | (simp_all; done) | (simp_all; omega) | omega | grind
          try simp only [decide_eq_true_eq, decide_eq_false_iff_not, beq_iff_eq, beq_eq_false_iff_ne, bne_iff_ne, ne_eq, Bool.not_eq_true', Bool.not_eq_false', Bool.not_eq_true, Bool.not_eq_false, Int.not_lt, Int.not_le, Decidable.not_not, bne_eq_false_iff_eq, gt_iff_lt, ge_iff_le, Bool.or_eq_true, Bool.and_eq_true] at hc4
          refine Run.skip ?_
          refine Run.inBlock ?_
          refine Run.region ?_
          refine RunL.mv rfl rfl ?_
          first | refine RunL.pure (Pure.addI rfl rfl (by omega)) (Wt.none rfl) rfl rfl ?_ | refine RunL.pure (Pure.add rfl rfl) (Wt.none rfl) rfl rfl ?_
          refine RunL.as rfl rfl ?_
          refine RunL.nil ?_
          refine Run.keep (.cons rfl (.cons rfl (.cons rfl (.cons rfl (.cons rfl (.nil))))) : Keep _ [1, 2, 8, 10, 11] _) ?_
          refine Run.againF (F := F) ih (by exact ⟨i + 1, l2, lost2, a2, c2, by omega, by omega, hlf2, by omega, by omega, rfl, rfl, rfl⟩) (by repeat (first | (with_reducible exact Fin.done (by repeat (first | (with_reducible exact Rest.here) | apply Rest.there))) | (apply Fin.cons (by first | ((repeat (first | (with_reducible exact Find.here _) | apply Find.there)); done) | (repeat (first | exact Find.here _ | apply Find.there)))))) ?_
          omega
        · skip
          refine Run.block ?_
          refine Run.sr ?_
          refine RunL.pure (Pure.eql rfl rfl) (Wt.none rfl) rfl rfl ?_
          refine RunL.as rfl rfl ?_
          refine RunL.nil ?_
          refine Run.cond rfl (fun hd7 => ?_) (fun hd7 => ?_)
          · try simp only [decide_eq_true_eq, decide_eq_false_iff_not, beq_iff_eq, beq_eq_false_iff_ne, bne_iff_ne, ne_eq, Bool.not_eq_true', Bool.not_eq_false', Bool.not_eq_true, Bool.not_eq_false, Int.not_lt, Int.not_le, Decidable.not_not, bne_eq_false_iff_eq, gt_iff_lt, ge_iff_le, Bool.or_eq_true, Bool.and_eq_true] at hd7
            refine Run.seq ?_
            refine Run.regionD' (by kernel_rfl) (by kernel_rfl) (fun hok187 => ?_)
            refine RunD.lend (Q := row b10 53 _) Lends.row (by first | ((repeat (first | (with_reducible exact Find.here _) | apply Find.there)); done) | (repeat (first | exact Find.here _ | apply Find.there))) ?_; intro gl2 hlegl2 hl2 backgl2
            have h_gl2 := h.mono hlegl2
            have h'_gl2 := h'.mono hlegl2
            have hro_gl2 := hro.mono hlegl2
            refine RunD.loadNR (vs := (cQst ((⟨m, ⟨a, l.length, c⟩, lost⟩ : Qst)))) (i := 0) hok187 rfl (by kernel_rfl) rfl (by assumption) agg53 sz53 (by first | exact Nat.le_of_ble_eq_true rfl | (simp; done) | (simp; omega)) rfl (Wt.none rfl) rfl ?_
            refine RunD.pure (i := 1) hok187 rfl (by kernel_rfl) (Pure.move rfl) (Wt.none rfl) rfl rfl ?_
            refine RunD.pure (i := 2) hok187 rfl (by kernel_rfl) (Pure.move rfl) (Wt.none rfl) rfl rfl ?_
            refine RunD.pure (i := 3) hok187 rfl (by kernel_rfl) (Pure.indexAddr rfl rfl und37 sz31 (by omega) (by omega)) (Wt.none rfl) rfl rfl ?_
            refine RunD.pure (i := 4) hok187 rfl (by kernel_rfl) (Pure.fieldAddr rfl fo31_10) (Wt.none rfl) rfl rfl ?_
            refine RunD.load1R (i := 5) hok187 rfl (by kernel_rfl) rfl hro_gl2 ((elem_at (pre := preb) (post := postb) (f := cEdu) (sz := 11) (j := 10) (fun _ _ => rfl) hx (by decide)).trans rfl) agg3 (Wt.none rfl) rfl ?_
            first | refine RunD.pure (i := 6) hok187 rfl (by kernel_rfl) (Pure.remI rfl rfl (by omega) (by omega)) (Wt.none rfl) rfl rfl ?_ | refine RunD.pure (i := 6) hok187 rfl (by kernel_rfl) (Pure.rem rfl rfl (by omega)) (Wt.none rfl) rfl rfl ?_
            refine RunD.two (i := 7) (j := 11) (by kernel_rfl) rfl rfl ?_ ?_
            · skip
              refine RunL.call rfl rfl (by rfl) (by repeat (first | (with_reducible exact Take.nil _) | (apply Take.cons (by first | ((repeat (first | (with_reducible exact Find.here _) | apply Find.there)); done) | (repeat (first | exact Find.here _ | apply Find.there)))))) (rTake_ctr (z := x.stamp.tmod 4) hcap (by omega)) (Wt.none rfl) rfl ?_
              rintro _ _ ⟨rfl, hA_⟩
              replace hA_ := hA_.symm; subst hA_
              refine RunL.nilD' ?_
              refine RunD.pure (i := 8) hok187 rfl (by kernel_rfl) (Pure.move rfl) (Wt.none rfl) rfl rfl ?_
              refine RunD.pure (i := 9) hok187 rfl (by kernel_rfl) (Pure.extract rfl rfl) (Wt.none rfl) rfl rfl ?_
              refine RunD.pure (i := 10) hok187 rfl (by kernel_rfl) (Pure.extract rfl rfl) (Wt.none rfl) rfl rfl ?_
              refine RunD.one (i := 11) (by kernel_rfl) rfl ?_
              · skip
                refine RunL.alloc zz53 (Wt.none rfl) rfl ?_; intro b14
                refine RunL.nilD' ?_
                refine RunD.one (i := 12) (by kernel_rfl) rfl ?_
                · skip
                  refine RunL.storeW (xs := (cQst ((⟨m, ⟨cutAt a (takeN (x.stamp.tmod 4) l) c 11, l.length - (takeN (x.stamp.tmod 4) l), c - (takeN (x.stamp.tmod 4) l)⟩, lost⟩ : Qst)))) rfl rfl (by first | ((repeat (first | (with_reducible exact Find.here _) | apply Find.there)); done) | (repeat (first | exact Find.here _ | apply Find.there))) sz53 (by rfl) (by rfl) (by rfl) (Wt.none rfl) ?_
                  refine RunL.nilD' ?_
                  refine RunD.pure (i := 13) hok187 rfl (by kernel_rfl) (Pure.assign rfl) (Wt.none rfl) rfl rfl ?_
                  refine RunD.nilB (by kernel_rfl) (fun w sw => backgl2 _ _ (sw)) ?_
                  refine Run.sr ?_
                  first | refine RunL.loadA (vs := (cQst ((⟨m, ⟨cutAt a (takeN (x.stamp.tmod 4) l) c 11, l.length - (takeN (x.stamp.tmod 4) l), c - (takeN (x.stamp.tmod 4) l)⟩, lost⟩ : Qst)))) rfl (by first | ((repeat (first | (with_reducible exact Find.here _) | apply Find.there)); done) | (repeat (first | exact Find.here _ | apply Find.there))) agg53 sz53 (by first | exact Nat.le_of_ble_eq_true rfl | (simp; done) | (simp; omega)) rfl (Wt.none rfl) rfl ?_ | refine RunL.loadNR (vs := (cQst ((⟨m, ⟨cutAt a (takeN (x.stamp.tmod 4) l) c 11, l.length - (takeN (x.stamp.tmod 4) l), c - (takeN (x.stamp.tmod 4) l)⟩, lost⟩ : Qst)))) rfl (by assumption) agg53 sz53 (by first | exact Nat.le_of_ble_eq_true rfl | (simp; done) | (simp; omega)) rfl (Wt.none rfl) rfl ?_
                  refine RunL.storeW (xs := (cQst ((⟨m, ⟨cutAt a (takeN (x.stamp.tmod 4) l) c 11, l.length - (takeN (x.stamp.tmod 4) l), c - (takeN (x.stamp.tmod 4) l)⟩, lost⟩ : Qst)))) rfl rfl (by first | ((repeat (first | (with_reducible exact Find.here _) | apply Find.there)); done) | (repeat (first | exact Find.here _ | apply Find.there))) sz53 (by rfl) (by rfl) (by rfl) (Wt.none rfl) ?_
                  refine RunL.nil ?_
                  refine Run.sr ?_
                  refine RunL.mv rfl rfl ?_
                  refine RunL.mv rfl rfl ?_
                  refine RunL.mv rfl rfl ?_
                  refine RunL.pure (Pure.indexAddr rfl rfl und37 sz31 (by omega) (by omega)) (Wt.none rfl) rfl rfl ?_
                  refine RunL.pure (Pure.fieldAddr rfl fo31_10) (Wt.none rfl) rfl rfl ?_
                  refine RunL.load1R rfl hro ((elem_at (pre := preb) (post := postb) (f := cEdu) (sz := 11) (j := 10) (fun _ _ => rfl) hx (by decide)).trans rfl) agg3 (Wt.none rfl) rfl ?_
                  first | refine RunL.pure (Pure.remI rfl rfl (by omega) (by omega)) (Wt.none rfl) rfl rfl ?_ | refine RunL.pure (Pure.rem rfl rfl (by omega)) (Wt.none rfl) rfl rfl ?_
                  refine RunL.call rfl rfl (by rfl) (by repeat (first | (with_reducible exact Take.nil _) | (apply Take.cons (by first | ((repeat (first | (with_reducible exact Find.here _) | apply Find.there)); done) | (repeat (first | exact Find.here _ | apply Find.there)))))) (Take_ctr (l := l) (z := x.stamp.tmod 4) (by omega)) (Wt.none rfl) rfl ?_
                  rintro _ _ ⟨a7, c7, rfl, hA_⟩
                  replace hA_ := hA_.symm; subst hA_
                  refine RunL.mv rfl rfl ?_
                  refine RunL.call rfl rfl (by rfl) (by repeat (first | (with_reducible exact Take.nil _) | (apply Take.cons (by first | ((repeat (first | (with_reducible exact Find.here _) | apply Find.there)); done) | (repeat (first | exact Find.here _ | apply Find.there)))))) (Ctr.lend (R := fun G => SlR G 31 11 _ _ _ ∧ _ ≤ _) Lends.Sl cb24 (fun G' hle hr => Ctr.lend (R := fun G => SlR G 31 11 _ _ _ ∧ _ ≤ _) Lends.Sl cb24 (fun G2 hle2 hr2 => SameEdus_ctr (xs := l.take (takeN (x.stamp.tmod 4) l)) (ys := l.take (takeN (x.stamp.tmod 4) l)) rfl (by rw [List.length_take]; exact (Nat.min_eq_left (Nat.min_le_right _ _)).symm) (hr.1.mono hle2) (hr2.1.takeF (m := (takeN (x.stamp.tmod 4) l)) (fun _ _ => rfl) (Nat.min_le_right _ _)) (by rw [List.length_take]; omega)))) (Wt.none rfl) rfl ?_
                  rintro _ _ ⟨_, rfl, _, rfl, rfl, hA_⟩
                  replace hA_ := hA_.symm; subst hA_
                  refine RunL.pure (Pure.not rfl) (Wt.none rfl) rfl rfl ?_
                  refine RunL.nil ?_
                  refine Run.cond rfl (fun hc5 => ?_) (fun hc5 => ?_)
                  · try simp only [decide_eq_true_eq, decide_eq_false_iff_not, beq_iff_eq, beq_eq_false_iff_ne, bne_iff_ne, ne_eq, Bool.not_eq_true', Bool.not_eq_false', Bool.not_eq_true, Bool.not_eq_false, Int.not_lt, Int.not_le, Decidable.not_not, bne_eq_false_iff_eq, gt_iff_lt, ge_iff_le, Bool.or_eq_true, Bool.and_eq_true] at hc5
                    exfalso
                    first | (simp_all; done) | (simp_all; omega) | omega | grind
                  try simp only [decide_eq_true_eq, decide_eq_false_iff_not, beq_iff_eq, beq_eq_false_iff_ne, bne_iff_ne, ne_eq, Bool.not_eq_true', Bool.not_eq_false', Bool.not_eq_true, Bool.not_eq_false, Int.not_lt, Int.not_le, Decidable.not_not, bne_eq_false_iff_eq, gt_iff_lt, ge_iff_le, Bool.or_eq_true, Bool.and_eq_true] at hc5
                  refine Run.skip ?_
                  refine Run.inBlock ?_
                  rw [show cQst (⟨m, ⟨cutAt a (takeN (x.stamp.tmod 4) l) c 11, l.length - (takeN (x.stamp.tmod 4) l), c - (takeN (x.stamp.tmod 4) l)⟩, lost⟩ : Qst) = cQst (⟨m, ⟨cutAt a (takeN (x.stamp.tmod 4) l) c 11, (l.drop (takeN (x.stamp.tmod 4) l)).length, c - (takeN (x.stamp.tmod 4) l)⟩, lost⟩ : Qst) from by rw [List.length_drop]]
                  refine Run.fromSlF (a := a) (f := cEdu) (xs := l) (takeN (x.stamp.tmod 4) l) (fun _ _ => rfl) (by first | ((repeat (first | (with_reducible exact Find.here _) | apply Find.there)); done) | (repeat (first | exact Find.here _ | apply Find.there))) (Nat.min_le_right _ _) ?_
                  refine Run.keep (.cons rfl (.cons rfl (.cons rfl (.cons rfl (.cons rfl (.nil))))) : Keep _ [1, 2, 8, 10, 11] _) ?_
                  exact Run.meetF (F := F) hk (by exact ⟨l.drop (takeN (x.stamp.tmod 4) l), lost, cutAt a (takeN (x.stamp.tmod 4) l) c 11, c - (takeN (x.stamp.tmod 4) l), fun y hy => hlf y (List.mem_of_mem_drop hy), by rw [List.length_drop]; omega, by omega, rfl, rfl⟩) (by repeat (first | (with_reducible exact Fin.done (by repeat (first | (with_reducible exact Rest.here) | apply Rest.there))) | (apply Fin.cons (by first | ((repeat (first | (with_reducible exact Find.here _) | apply Find.there)); done) | (repeat (first | exact Find.here _ | apply Find.there))))))
            · skip
              refine RunL.alloc zz53 (Wt.none rfl) rfl ?_; intro b14
              refine RunL.nilD' ?_
              refine RunD.one (i := 7) (by kernel_rfl) rfl ?_
              · skip
                refine RunL.call rfl rfl (by rfl) (by repeat (first | (with_reducible exact Take.nil _) | (apply Take.cons (by first | ((repeat (first | (with_reducible exact Find.here _) | apply Find.there)); done) | (repeat (first | exact Find.here _ | apply Find.there)))))) (rTake_ctr (z := x.stamp.tmod 4) hcap (by omega)) (Wt.none rfl) rfl ?_
                rintro _ _ ⟨rfl, hA_⟩
                replace hA_ := hA_.symm; subst hA_
                refine RunL.nilD' ?_
                refine RunD.pure (i := 8) hok187 rfl (by kernel_rfl) (Pure.move rfl) (Wt.none rfl) rfl rfl ?_
                refine RunD.pure (i := 9) hok187 rfl (by kernel_rfl) (Pure.extract rfl rfl) (Wt.none rfl) rfl rfl ?_
                refine RunD.pure (i := 10) hok187 rfl (by kernel_rfl) (Pure.extract rfl rfl) (Wt.none rfl) rfl rfl ?_
                refine RunD.one (i := 12) (by kernel_rfl) rfl ?_
                · skip
                  refine RunL.storeW (xs := (cQst ((⟨m, ⟨cutAt a (takeN (x.stamp.tmod 4) l) c 11, l.length - (takeN (x.stamp.tmod 4) l), c - (takeN (x.stamp.tmod 4) l)⟩, lost⟩ : Qst)))) rfl rfl (by first | ((repeat (first | (with_reducible exact Find.here _) | apply Find.there)); done) | (repeat (first | exact Find.here _ | apply Find.there))) sz53 (by rfl) (by rfl) (by rfl) (Wt.none rfl) ?_
                  refine RunL.nilD' ?_
                  refine RunD.pure (i := 13) hok187 rfl (by kernel_rfl) (Pure.assign rfl) (Wt.none rfl) rfl rfl ?_
                  refine RunD.nilB (by kernel_rfl) (fun w sw => backgl2 _ _ (sw)) ?_
                  refine Run.sr ?_
                  first | refine RunL.loadA (vs := (cQst ((⟨m, ⟨cutAt a (takeN (x.stamp.tmod 4) l) c 11, l.length - (takeN (x.stamp.tmod 4) l), c - (takeN (x.stamp.tmod 4) l)⟩, lost⟩ : Qst)))) rfl (by first | ((repeat (first | (with_reducible exact Find.here _) | apply Find.there)); done) | (repeat (first | exact Find.here _ | apply Find.there))) agg53 sz53 (by first | exact Nat.le_of_ble_eq_true rfl | (simp; done) | (simp; omega)) rfl (Wt.none rfl) rfl ?_ | refine RunL.loadNR (vs := (cQst ((⟨m, ⟨cutAt a (takeN (x.stamp.tmod 4) l) c 11, l.length - (takeN (x.stamp.tmod 4) l), c - (takeN (x.stamp.tmod 4) l)⟩, lost⟩ : Qst)))) rfl (by assumption) agg53 sz53 (by first | exact Nat.le_of_ble_eq_true rfl | (simp; done) | (simp; omega)) rfl (Wt.none rfl) rfl ?_
                  refine RunL.storeW (xs := (cQst ((⟨m, ⟨cutAt a (takeN (x.stamp.tmod 4) l) c 11, l.length - (takeN (x.stamp.tmod 4) l), c - (takeN (x.stamp.tmod 4) l)⟩, lost⟩ : Qst)))) rfl rfl (by first | ((repeat (first | (with_reducible exact Find.here _) | apply Find.there)); done) | (repeat (first | exact Find.here _ | apply Find.there))) sz53 (by rfl) (by rfl) (by rfl) (Wt.none rfl) ?_
                  refine RunL.nil ?_
                  refine Run.sr ?_
                  refine RunL.mv rfl rfl ?_
                  refine RunL.mv rfl rfl ?_
                  refine RunL.mv rfl rfl ?_
                  refine RunL.pure (Pure.indexAddr rfl rfl und37 sz31 (by omega) (by omega)) (Wt.none rfl) rfl rfl ?_
                  refine RunL.pure (Pure.fieldAddr rfl fo31_10) (Wt.none rfl) rfl rfl ?_
                  refine RunL.load1R rfl hro ((elem_at (pre := preb) (post := postb) (f := cEdu) (sz := 11) (j := 10) (fun _ _ => rfl) hx (by decide)).trans rfl) agg3 (Wt.none rfl) rfl ?_
                  first | refine RunL.pure (Pure.remI rfl rfl (by omega) (by omega)) (Wt.none rfl) rfl rfl ?_ | refine RunL.pure (Pure.rem rfl rfl (by omega)) (Wt.none rfl) rfl rfl ?_
                  refine RunL.call rfl rfl (by rfl) (by repeat (first | (with_reducible exact Take.nil _) | (apply Take.cons (by first | ((repeat (first | (with_reducible exact Find.here _) | apply Find.there)); done) | (repeat (first | exact Find.here _ | apply Find.there)))))) (Take_ctr (l := l) (z := x.stamp.tmod 4) (by omega)) (Wt.none rfl) rfl ?_
                  rintro _ _ ⟨a7, c7, rfl, hA_⟩
                  replace hA_ := hA_.symm; subst hA_
                  refine RunL.mv rfl rfl ?_
                  refine RunL.call rfl rfl (by rfl) (by repeat (first | (with_reducible exact Take.nil _) | (apply Take.cons (by first | ((repeat (first | (with_reducible exact Find.here _) | apply Find.there)); done) | (repeat (first | exact Find.here _ | apply Find.there)))))) (Ctr.lend (R := fun G => SlR G 31 11 _ _ _ ∧ _ ≤ _) Lends.Sl cb24 (fun G' hle hr => Ctr.lend (R := fun G => SlR G 31 11 _ _ _ ∧ _ ≤ _) Lends.Sl cb24 (fun G2 hle2 hr2 => SameEdus_ctr (xs := l.take (takeN (x.stamp.tmod 4) l)) (ys := l.take (takeN (x.stamp.tmod 4) l)) rfl (by rw [List.length_take]; exact (Nat.min_eq_left (Nat.min_le_right _ _)).symm) (hr.1.mono hle2) (hr2.1.takeF (m := (takeN (x.stamp.tmod 4) l)) (fun _ _ => rfl) (Nat.min_le_right _ _)) (by rw [List.length_take]; omega)))) (Wt.none rfl) rfl ?_
                  rintro _ _ ⟨_, rfl, _, rfl, rfl, hA_⟩
                  replace hA_ := hA_.symm; subst hA_
                  refine RunL.pure (Pure.not rfl) (Wt.none rfl) rfl rfl ?_
                  refine RunL.nil ?_
                  refine Run.cond rfl (fun hc6 => ?_) (fun hc6 => ?_)
                  · try simp only [decide_eq_true_eq, decide_eq_false_iff_not, beq_iff_eq, beq_eq_false_iff_ne, bne_iff_ne, ne_eq, Bool.not_eq_true', Bool.not_eq_false', Bool.not_eq_true, Bool.not_eq_false, Int.not_lt, Int.not_le, Decidable.not_not, bne_eq_false_iff_eq, gt_iff_lt, ge_iff_le, Bool.or_eq_true, Bool.and_eq_true] at hc6
                    exfalso
                    first | (simp_all; done) | (simp_all; omega) | omega | grind
                  try simp only [decide_eq_true_eq, decide_eq_false_iff_not, beq_iff_eq, beq_eq_false_iff_ne, bne_iff_ne, ne_eq, Bool.not_eq_true', Bool.not_eq_false', Bool.not_eq_true, Bool.not_eq_false, Int.not_lt, Int.not_le, Decidable.not_not, bne_eq_false_iff_eq, gt_iff_lt, ge_iff_le, Bool.or_eq_true, Bool.and_eq_true] at hc6
                  refine Run.skip ?_
                  refine Run.inBlock ?_
                  rw [show cQst (⟨m, ⟨cutAt a (takeN (x.stamp.tmod 4) l) c 11, l.length - (takeN (x.stamp.tmod 4) l), c - (takeN (x.stamp.tmod 4) l)⟩, lost⟩ : Qst) = cQst (⟨m, ⟨cutAt a (takeN (x.stamp.tmod 4) l) c 11, (l.drop (takeN (x.stamp.tmod 4) l)).length, c - (takeN (x.stamp.tmod 4) l)⟩, lost⟩ : Qst) from by rw [List.length_drop]]
                  refine Run.fromSlF (a := a) (f := cEdu) (xs := l) (takeN (x.stamp.tmod 4) l) (fun _ _ => rfl) (by first | ((repeat (first | (with_reducible exact Find.here _) | apply Find.there)); done) | (repeat (first | exact Find.here _ | apply Find.there))) (Nat.min_le_right _ _) ?_
                  refine Run.keep (.cons rfl (.cons rfl (.cons rfl (.cons rfl (.cons rfl (.nil))))) : Keep _ [1, 2, 8, 10, 11] _) ?_
                  exact Run.meetF (F := F) hk (by exact ⟨l.drop (takeN (x.stamp.tmod 4) l), lost, cutAt a (takeN (x.stamp.tmod 4) l) c 11, c - (takeN (x.stamp.tmod 4) l), fun y hy => hlf y (List.mem_of_mem_drop hy), by rw [List.length_drop]; omega, by omega, rfl, rfl⟩) (by repeat (first | (with_reducible exact Fin.done (by repeat (first | (with_reducible exact Rest.here) | apply Rest.there))) | (apply Fin.cons (by first | ((repeat (first | (with_reducible exact Find.here _) | apply Find.there)); done) | (repeat (first | exact Find.here _ | apply Find.there))))))
          · try simp only [decide_eq_true_eq, decide_eq_false_iff_not, beq_iff_eq, beq_eq_false_iff_ne, bne_iff_ne, ne_eq, Bool.not_eq_true', Bool.not_eq_false', Bool.not_eq_true, Bool.not_eq_false, Int.not_lt, Int.not_le, Decidable.not_not, bne_eq_false_iff_eq, gt_iff_lt, ge_iff_le, Bool.or_eq_true, Bool.and_eq_true] at hd7
            refine Run.sr ?_
            refine RunL.pure (Pure.eql rfl rfl) (Wt.none rfl) rfl rfl ?_
            refine RunL.as rfl rfl ?_
            refine RunL.nil ?_
            refine Run.cond rfl (fun hd8 => ?_) (fun hd8 => ?_)
            · try simp only [decide_eq_true_eq, decide_eq_false_iff_not, beq_iff_eq, beq_eq_false_iff_ne, bne_iff_ne, ne_eq, Bool.not_eq_true', Bool.not_eq_false', Bool.not_eq_true, Bool.not_eq_false, Int.not_lt, Int.not_le, Decidable.not_not, bne_eq_false_iff_eq, gt_iff_lt, ge_iff_le, Bool.or_eq_true, Bool.and_eq_true] at hd8
              refine Run.sr ?_
              refine RunL.as rfl rfl ?_
              refine RunL.nil ?_
              refine Run.nilSl 31 11 ?_
              refine Run.seq ?_
              refine Run.sr ?_
              refine RunL.as rfl rfl ?_
              refine RunL.nil ?_
              refine Run.block ?_
              refine Run.keep (.cons rfl (.cons rfl (.cons rfl (.cons rfl (.cons rfl (.cons rfl (.cons rfl (.cons rfl (.nil)))))))) : Keep _ [1, 2, 8, 10, 11, 12, 16, 17] _) ?_
              refine Run.loopF (F := F) (fun n e_ A => ∃ (k : Nat) (s : List Edu) (a9 : Option Addr) (c9 : Nat), k ≤ l.length + 1 ∧ s.length ≤ k ∧ n = l.length + 1 - k ∧ e_ = [(1, .slice (some ⟨bb, preb.length, none⟩) xs.length cap), (2, .slice b zs.length cb), (8, .pointer (some ⟨p, 0, none⟩)), (10, .pointer (some ⟨b10, 0, none⟩)), (11, .int .i64 (i : Nat)), (12, .pointer (some ⟨b12, 0, none⟩)), (16, .slice a9 s.length c9), (17, .int .i64 (k : Nat))] ∧ A = Sl 31 11 a9 s.length c9 ((s).flatMap cEdu) :: row b12 31 (cEdu (pubE x)) :: Sl 31 11 a (l).length c ((l).flatMap cEdu) :: row b10 53 (cQst (⟨m, ⟨a, (l).length, c⟩, lost⟩ : Qst)) :: Qu p m (lost) (l) :: F) (l.length + 1) (by exact ⟨0, [], none, 0, by omega, by simp, rfl, rfl, rfl⟩) (by repeat (first | (with_reducible exact Fin.done (by repeat (first | (with_reducible exact Rest.here) | apply Rest.there))) | (apply Fin.cons (by first | ((repeat (first | (with_reducible exact Find.here _) | apply Find.there)); done) | (repeat (first | exact Find.here _ | apply Find.there)))))) ?_
              rintro n _ _ ⟨k, s, a9, c9, hkk, hsk, rfl, rfl, hA_⟩ ih
              replace hA_ := hA_.symm; subst hA_
              refine Run.seq ?_
              refine Run.sr ?_
              refine RunL.mv rfl rfl ?_
              refine RunL.pure (Pure.fieldAddr rfl fo53_1) (Wt.none rfl) rfl rfl ?_
              first | refine RunL.load1 rfl (by first | ((repeat (first | (with_reducible exact Find.here _) | apply Find.there)); done) | (repeat (first | exact Find.here _ | apply Find.there))) (by rfl) agg37 (Wt.none rfl) rfl ?_ | refine RunL.load1R rfl (by assumption) (by rfl) agg37 (Wt.none rfl) rfl ?_
              refine RunL.pure (Pure.lenSl rfl rfl und37) (Wt.none rfl) rfl rfl ?_
              refine RunL.pure (Pure.lss rfl rfl) (Wt.none rfl) rfl rfl ?_
              refine RunL.nil ?_
              refine Run.cond rfl (fun hk8 => ?_) (fun hk8 => ?_)
              · try simp only [decide_eq_true_eq, decide_eq_false_iff_not, beq_iff_eq, beq_eq_false_iff_ne, bne_iff_ne, ne_eq, Bool.not_eq_true', Bool.not_eq_false', Bool.not_eq_true, Bool.not_eq_false, Int.not_lt, Int.not_le, Decidable.not_not, bne_eq_false_iff_eq, gt_iff_lt, ge_iff_le, Bool.or_eq_true, Bool.and_eq_true] at hk8
                obtain ⟨y, hy⟩ := get_some (xs := l) (i := k) (by omega)
                refine Run.skip ?_
                refine Run.openSl (T := 31) (a := a) (n := l.length) (by first | ((repeat (first | (with_reducible exact Find.here _) | apply Find.there)); done) | (repeat (first | exact Find.here _ | apply Find.there))) (by omega) ?_; rintro b9 pre9 post9 rfl hsl1 hsl2 hsl3
                refine Run.seq ?_
                refine Run.block ?_
                refine Run.region ?_
                refine RunL.mv rfl rfl ?_
                refine RunL.pure (Pure.fieldAddr rfl fo53_1) (Wt.none rfl) rfl rfl ?_
                first | refine RunL.load1 rfl (by first | ((repeat (first | (with_reducible exact Find.here _) | apply Find.there)); done) | (repeat (first | exact Find.here _ | apply Find.there))) (by rfl) agg37 (Wt.none rfl) rfl ?_ | refine RunL.load1R rfl (by assumption) (by rfl) agg37 (Wt.none rfl) rfl ?_
                refine RunL.mv rfl rfl ?_
                refine RunL.pure (Pure.indexAddr rfl rfl und37 sz31 (by omega) (by omega)) (Wt.none rfl) rfl rfl ?_
                refine RunL.loadA (vs := (cEdu y)) rfl (by first | ((repeat (first | (with_reducible exact Find.here _) | apply Find.there)); done) | (repeat (first | exact Find.here _ | apply Find.there))) agg31 sz31 (elemN_len (f := cEdu) (sz := 11) (j := 0) (n := 11) (fun _ _ => rfl) hy (by decide)) ((elemN_at (f := cEdu) (sz := 11) (j := 0) (n := 11) (fun _ _ => rfl) hy (by decide)).trans rfl) (Wt.none rfl) rfl ?_
                refine RunL.lit (vals := [_]) (vs := ([y] : List Edu).flatMap cEdu) und37 sz31 zz31 rfl rfl rfl rfl rfl rfl (by simp [Value.cells, bv, cEdu, cKey, cQst]) rfl (Wt.none rfl) rfl ?_; intro b147
                refine RunL.append (m := 1) (n' := (s ++ [y]).length) (cs' := (s ++ [y]).flatMap cEdu) rfl rfl (by first | ((repeat (first | (with_reducible exact Find.here _) | apply Find.there)); done) | (repeat (first | exact Find.here _ | apply Find.there))) rfl rfl und37 und37 rfl sz31 zz31 rfl by31 (by omega) (by omega) (fun w sw => sw.src) (isOne_flat (f := cEdu) (fun _ => rfl)) (by rw [List.length_append]; rfl) (by rw [flatMap_app]) (Wt.none rfl) rfl ?_; intro a10 c10
                refine RunL.as rfl rfl ?_
                refine RunL.nil ?_
                refine Run.inBlock ?_
                refine Run.region ?_
                refine RunL.mv rfl rfl ?_
                first | refine RunL.pure (Pure.addI rfl rfl (by omega)) (Wt.none rfl) rfl rfl ?_ | refine RunL.pure (Pure.add rfl rfl) (Wt.none rfl) rfl rfl ?_
                refine RunL.as rfl rfl ?_
                refine RunL.nil ?_
                refine Run.mkSl (b := b9) (pre := pre9) (post := post9) (sz := 11) (cs := l.flatMap cEdu) (n := l.length) (by first | ((repeat (first | (with_reducible exact Find.here _) | apply Find.there)); done) | (repeat (first | exact Find.here _ | apply Find.there))) hsl1 hsl2 hsl3 ?_
                refine Run.keep (.cons rfl (.cons rfl (.cons rfl (.cons rfl (.cons rfl (.cons rfl (.cons rfl (.cons rfl (.nil)))))))) : Keep _ [1, 2, 8, 10, 11, 12, 16, 17] _) ?_
                refine Run.againF (F := F) ih (by exact ⟨k + 2, s ++ [y], a10, c10, by omega, by rw [List.length_append]; simp only [List.length_cons, List.length_nil]; omega, rfl, rfl, rfl⟩) (by repeat (first | (with_reducible exact Fin.done (by repeat (first | (with_reducible exact Rest.here) | apply Rest.there))) | (apply Fin.cons (by first | ((repeat (first | (with_reducible exact Find.here _) | apply Find.there)); done) | (repeat (first | exact Find.here _ | apply Find.there)))))) ?_
                omega
              · try simp only [decide_eq_true_eq, decide_eq_false_iff_not, beq_iff_eq, beq_eq_false_iff_ne, bne_iff_ne, ne_eq, Bool.not_eq_true', Bool.not_eq_false', Bool.not_eq_true, Bool.not_eq_false, Int.not_lt, Int.not_le, Decidable.not_not, bne_eq_false_iff_eq, gt_iff_lt, ge_iff_le, Bool.or_eq_true, Bool.and_eq_true] at hk8
                refine Run.exit rfl ?_
                refine Run.sr ?_
                refine RunL.mv rfl rfl ?_
                first | refine RunL.loadA (vs := (cEdu (pubE x))) rfl (by first | ((repeat (first | (with_reducible exact Find.here _) | apply Find.there)); done) | (repeat (first | exact Find.here _ | apply Find.there))) agg31 sz31 (by first | exact Nat.le_of_ble_eq_true rfl | (simp; done) | (simp; omega)) rfl (Wt.none rfl) rfl ?_ | refine RunL.loadNR (vs := (cEdu (pubE x))) rfl (by assumption) agg31 sz31 (by first | exact Nat.le_of_ble_eq_true rfl | (simp; done) | (simp; omega)) rfl (Wt.none rfl) rfl ?_
                refine RunL.lit (vals := [_]) (vs := ([pubE x] : List Edu).flatMap cEdu) und37 sz31 zz31 rfl rfl rfl rfl rfl rfl (by simp [Value.cells, bv, cEdu, cKey, cQst]) rfl (Wt.none rfl) rfl ?_; intro b151
                refine RunL.append (m := 1) (n' := (s ++ [pubE x]).length) (cs' := (s ++ [pubE x]).flatMap cEdu) rfl rfl (by first | ((repeat (first | (with_reducible exact Find.here _) | apply Find.there)); done) | (repeat (first | exact Find.here _ | apply Find.there))) rfl rfl und37 und37 rfl sz31 zz31 rfl by31 (by omega) (by omega) (fun w sw => sw.src) (isOne_flat (f := cEdu) (fun _ => rfl)) (by rw [List.length_append]; rfl) (by rw [flatMap_app]) (Wt.none rfl) rfl ?_; intro a10 c10
                have hsx : (s ++ [pubE x]).length ≤ 30 := by rw [List.length_append]; simp only [List.length_cons, List.length_nil]; omega
                have hfl := List.length_filter_le (fun x_ => decide (x_ ∈ (s ++ [pubE x]))) l
                refine RunL.as rfl rfl ?_
                refine RunL.nil ?_
                refine Run.sr ?_
                first | refine RunL.loadA (vs := (cQst ((⟨m, ⟨a, l.length, c⟩, lost⟩ : Qst)))) rfl (by first | ((repeat (first | (with_reducible exact Find.here _) | apply Find.there)); done) | (repeat (first | exact Find.here _ | apply Find.there))) agg53 sz53 (by first | exact Nat.le_of_ble_eq_true rfl | (simp; done) | (simp; omega)) rfl (Wt.none rfl) rfl ?_ | refine RunL.loadNR (vs := (cQst ((⟨m, ⟨a, l.length, c⟩, lost⟩ : Qst)))) rfl (by assumption) agg53 sz53 (by first | exact Nat.le_of_ble_eq_true rfl | (simp; done) | (simp; omega)) rfl (Wt.none rfl) rfl ?_
                refine RunL.mv rfl rfl ?_
                refine RunL.call rfl rfl (by rfl) (by repeat (first | (with_reducible exact Take.nil _) | (apply Take.cons (by first | ((repeat (first | (with_reducible exact Find.here _) | apply Find.there)); done) | (repeat (first | exact Find.here _ | apply Find.there)))))) (Ctr.lend (R := fun G => SlR G 31 11 _ _ _ ∧ _ ≤ _) Lends.Sl cb26 (fun G' hle hr => Ctr.lend (R := fun G => SlR G 31 11 _ _ _ ∧ _ ≤ _) Lends.Sl cb26 (fun G2 hle2 hr2 => rKeep_ctr (xs := (s ++ [pubE x])) (hr.1.mono hle2) hcap (by omega) hr2.1 (by omega)))) (Wt.none rfl) rfl ?_
                rintro _ _ ⟨_, rfl, _, rfl, a13, c13, rfl, hA_⟩
                replace hA_ := hA_.symm; subst hA_
                refine RunL.storeW (xs := (cQst ((⟨m, ⟨a13, (l.filter (fun x_ => decide (x_ ∈ (s ++ [pubE x])))).length, c13⟩, lost⟩ : Qst)))) rfl rfl (by first | ((repeat (first | (with_reducible exact Find.here _) | apply Find.there)); done) | (repeat (first | exact Find.here _ | apply Find.there))) sz53 (by rfl) (by rfl) (by rfl) (Wt.none rfl) ?_
                refine RunL.nil ?_
                refine Run.region ?_
                refine RunL.mv rfl rfl ?_
                refine RunL.mv rfl rfl ?_
                refine RunL.call rfl rfl (by rfl) (by repeat (first | (with_reducible exact Take.nil _) | (apply Take.cons (by first | ((repeat (first | (with_reducible exact Find.here _) | apply Find.there)); done) | (repeat (first | exact Find.here _ | apply Find.there)))))) (Ctr.lend (R := fun G => SlR G 31 11 _ _ _ ∧ _ ≤ _) Lends.Sl cb27 (fun G' hle hr => Keep_ctr (xs := (s ++ [pubE x])) hr.1 (by omega) (by omega))) (Wt.none rfl) rfl ?_
                rintro _ _ ⟨_, rfl, rfl, hA_⟩
                replace hA_ := hA_.symm; subst hA_
                refine RunL.nil ?_
                refine Run.inBlock ?_
                refine Run.keep (.cons rfl (.cons rfl (.cons rfl (.cons rfl (.cons rfl (.nil))))) : Keep _ [1, 2, 8, 10, 11] _) ?_
                exact Run.meetF (F := F) hk (by exact ⟨(l.filter (fun x_ => decide (x_ ∈ (s ++ [pubE x])))), lost, a13, c13, fun y hy => hlf y (List.mem_filter.1 hy).1, by omega, by omega, rfl, rfl⟩) (by repeat (first | (with_reducible exact Fin.done (by repeat (first | (with_reducible exact Rest.here) | apply Rest.there))) | (apply Fin.cons (by first | ((repeat (first | (with_reducible exact Find.here _) | apply Find.there)); done) | (repeat (first | exact Find.here _ | apply Find.there))))))
            · try simp only [decide_eq_true_eq, decide_eq_false_iff_not, beq_iff_eq, beq_eq_false_iff_ne, bne_iff_ne, ne_eq, Bool.not_eq_true', Bool.not_eq_false', Bool.not_eq_true, Bool.not_eq_false, Int.not_lt, Int.not_le, Decidable.not_not, bne_eq_false_iff_eq, gt_iff_lt, ge_iff_le, Bool.or_eq_true, Bool.and_eq_true] at hd8
              refine Run.sr ?_
              refine RunL.pure (Pure.eql rfl rfl) (Wt.none rfl) rfl rfl ?_
              refine RunL.as rfl rfl ?_
              refine RunL.nil ?_
              refine Run.cond rfl (fun hd9 => ?_) (fun hd9 => ?_)
              · try simp only [decide_eq_true_eq, decide_eq_false_iff_not, beq_iff_eq, beq_eq_false_iff_ne, bne_iff_ne, ne_eq, Bool.not_eq_true', Bool.not_eq_false', Bool.not_eq_true, Bool.not_eq_false, Int.not_lt, Int.not_le, Decidable.not_not, bne_eq_false_iff_eq, gt_iff_lt, ge_iff_le, Bool.or_eq_true, Bool.and_eq_true] at hd9
                refine Run.sr ?_
                refine RunL.mv rfl rfl ?_
                refine RunL.mv rfl rfl ?_
                refine RunL.pure (Pure.indexAddr rfl rfl und37 sz31 (by omega) (by omega)) (Wt.none rfl) rfl rfl ?_
                refine RunL.loadNR (vs := (cEdu x)) rfl hro agg31 sz31 (elemN_len (pre := preb) (post := postb) (f := cEdu) (sz := 11) (j := 0) (n := 11) (fun _ _ => rfl) hx (by decide)) ((elemN_at (pre := preb) (post := postb) (f := cEdu) (sz := 11) (j := 0) (n := 11) (fun _ _ => rfl) hx (by decide)).trans rfl) (Wt.none rfl) rfl ?_
                refine RunL.call rfl rfl (by rfl) (by repeat (first | (with_reducible exact Take.nil _) | (apply Take.cons (by first | ((repeat (first | (with_reducible exact Find.here _) | apply Find.there)); done) | (repeat (first | exact Find.here _ | apply Find.there)))))) (Few3_ctr (e := x)) (Wt.none rfl) rfl ?_
                rintro _ _ ⟨rfl, hA_⟩
                replace hA_ := hA_.symm; subst hA_
                refine RunL.alloc zz31 (Wt.none rfl) rfl ?_; intro b18
                refine RunL.storeW (xs := (cEdu (fewE x))) rfl rfl (by first | ((repeat (first | (with_reducible exact Find.here _) | apply Find.there)); done) | (repeat (first | exact Find.here _ | apply Find.there))) sz31 (by rfl) (by rfl) (by rfl) (Wt.none rfl) ?_
                obtain ⟨hf1, hf2, hf3⟩ := putL_facts (most := m) (lost := lost) hlf (few_small x) (few_ok hxk)
                refine RunL.nil ?_
                refine Run.sr ?_
                first | refine RunL.loadA (vs := (cQst ((⟨m, ⟨a, l.length, c⟩, lost⟩ : Qst)))) rfl (by first | ((repeat (first | (with_reducible exact Find.here _) | apply Find.there)); done) | (repeat (first | exact Find.here _ | apply Find.there))) agg53 sz53 (by first | exact Nat.le_of_ble_eq_true rfl | (simp; done) | (simp; omega)) rfl (Wt.none rfl) rfl ?_ | refine RunL.loadNR (vs := (cQst ((⟨m, ⟨a, l.length, c⟩, lost⟩ : Qst)))) rfl (by assumption) agg53 sz53 (by first | exact Nat.le_of_ble_eq_true rfl | (simp; done) | (simp; omega)) rfl (Wt.none rfl) rfl ?_
                first | refine RunL.loadA (vs := (cEdu (fewE x))) rfl (by first | ((repeat (first | (with_reducible exact Find.here _) | apply Find.there)); done) | (repeat (first | exact Find.here _ | apply Find.there))) agg31 sz31 (by first | exact Nat.le_of_ble_eq_true rfl | (simp; done) | (simp; omega)) rfl (Wt.none rfl) rfl ?_ | refine RunL.loadNR (vs := (cEdu (fewE x))) rfl (by assumption) agg31 sz31 (by first | exact Nat.le_of_ble_eq_true rfl | (simp; done) | (simp; omega)) rfl (Wt.none rfl) rfl ?_
                refine RunL.call rfl rfl (by rfl) (by repeat (first | (with_reducible exact Take.nil _) | (apply Take.cons (by first | ((repeat (first | (with_reducible exact Find.here _) | apply Find.there)); done) | (repeat (first | exact Find.here _ | apply Find.there)))))) (Ctr.lend (R := fun G => SlR G 31 11 _ _ _ ∧ _ ≤ _) Lends.Sl cb29 (fun G' hle hr => rPut_ctr (e := (fewE x)) (qm := m) (ql := lost) hr.1 hcap (by omega) hnd (few_small x) (few_ok hxk) hlf (by omega))) (Wt.none rfl) rfl ?_
                rintro _ _ ⟨A1, rfl, g, rfl, hg⟩
                rcases hg with ⟨rfl, hl0, hl1, hA_⟩ | ⟨hgn, hA_⟩
                · skip
                  replace hA_ := hA_.symm; subst hA_
                  refine RunL.mv rfl rfl ?_
                  refine RunL.pure (Pure.extract rfl rfl) (Wt.none rfl) rfl rfl ?_
                  refine RunL.pure (Pure.extract rfl rfl) (Wt.none rfl) rfl rfl ?_
                  refine RunL.pure (Pure.extract rfl rfl) (Wt.none rfl) rfl rfl ?_
                  refine RunL.pure (Pure.extract rfl rfl) (Wt.none rfl) rfl rfl ?_
                  refine RunL.alloc zz53 (Wt.none rfl) rfl ?_; intro b19
                  refine RunL.alloc zz31 (Wt.none rfl) rfl ?_; intro b20
                  refine RunL.storeW (xs := (cQst ((⟨m, ⟨a, l.length, c⟩, (putL m lost l (fewE x)).2.1⟩ : Qst)))) rfl rfl (by first | ((repeat (first | (with_reducible exact Find.here _) | apply Find.there)); done) | (repeat (first | exact Find.here _ | apply Find.there))) sz53 (by rfl) (by rfl) (by rfl) (Wt.none rfl) ?_
                  refine RunL.storeW (xs := (cEdu ((putL m lost l (fewE x)).2.2.1))) rfl rfl (by first | ((repeat (first | (with_reducible exact Find.here _) | apply Find.there)); done) | (repeat (first | exact Find.here _ | apply Find.there))) sz31 (by rfl) (by rfl) (by rfl) (Wt.none rfl) ?_
                  refine RunL.as rfl rfl ?_
                  refine RunL.as rfl rfl ?_
                  refine RunL.nil ?_
                  refine Run.sr ?_
                  first | refine RunL.loadA (vs := (cQst ((⟨m, ⟨a, l.length, c⟩, (putL m lost l (fewE x)).2.1⟩ : Qst)))) rfl (by first | ((repeat (first | (with_reducible exact Find.here _) | apply Find.there)); done) | (repeat (first | exact Find.here _ | apply Find.there))) agg53 sz53 (by first | exact Nat.le_of_ble_eq_true rfl | (simp; done) | (simp; omega)) rfl (Wt.none rfl) rfl ?_ | refine RunL.loadNR (vs := (cQst ((⟨m, ⟨a, l.length, c⟩, (putL m lost l (fewE x)).2.1⟩ : Qst)))) rfl (by assumption) agg53 sz53 (by first | exact Nat.le_of_ble_eq_true rfl | (simp; done) | (simp; omega)) rfl (Wt.none rfl) rfl ?_
                  refine RunL.storeW (xs := (cQst ((⟨m, ⟨a, l.length, c⟩, (putL m lost l (fewE x)).2.1⟩ : Qst)))) rfl rfl (by first | ((repeat (first | (with_reducible exact Find.here _) | apply Find.there)); done) | (repeat (first | exact Find.here _ | apply Find.there))) sz53 (by rfl) (by rfl) (by rfl) (Wt.none rfl) ?_
                  refine RunL.nil ?_
                  refine Run.sr ?_
                  refine RunL.mv rfl rfl ?_
                  first | refine RunL.loadA (vs := (cEdu (fewE x))) rfl (by first | ((repeat (first | (with_reducible exact Find.here _) | apply Find.there)); done) | (repeat (first | exact Find.here _ | apply Find.there))) agg31 sz31 (by first | exact Nat.le_of_ble_eq_true rfl | (simp; done) | (simp; omega)) rfl (Wt.none rfl) rfl ?_ | refine RunL.loadNR (vs := (cEdu (fewE x))) rfl (by assumption) agg31 sz31 (by first | exact Nat.le_of_ble_eq_true rfl | (simp; done) | (simp; omega)) rfl (Wt.none rfl) rfl ?_
                  refine RunL.call rfl rfl (by rfl) (by repeat (first | (with_reducible exact Take.nil _) | (apply Take.cons (by first | ((repeat (first | (with_reducible exact Find.here _) | apply Find.there)); done) | (repeat (first | exact Find.here _ | apply Find.there)))))) (Put_ctr (p := p) (most := m) (lost := lost) (l := l) (e := (fewE x)) (few_small x) (few_ok hxk) hlf (by omega) (by omega)) (Wt.none rfl) rfl ?_
                  rintro _ _ ⟨rfl, hA_⟩
                  replace hA_ := hA_.symm; subst hA_
                  refine RunL.mv rfl rfl ?_
                  refine RunL.pure (Pure.extract rfl rfl) (Wt.none rfl) rfl rfl ?_
                  refine RunL.pure (Pure.extract rfl rfl) (Wt.none rfl) rfl rfl ?_
                  refine RunL.pure (Pure.extract rfl rfl) (Wt.none rfl) rfl rfl ?_
                  refine RunL.alloc zz31 (Wt.none rfl) rfl ?_; intro b23
                  refine RunL.storeW (xs := (cEdu ((putL m lost l (fewE x)).2.2.1))) rfl rfl (by first | ((repeat (first | (with_reducible exact Find.here _) | apply Find.there)); done) | (repeat (first | exact Find.here _ | apply Find.there))) sz31 (by rfl) (by rfl) (by rfl) (Wt.none rfl) ?_
                  refine RunL.as rfl rfl ?_
                  refine RunL.as rfl rfl ?_
                  refine RunL.nil ?_
                  refine Run.sr ?_
                  first | refine RunL.loadA (vs := (cEdu ((putL m lost l (fewE x)).2.2.1))) rfl (by first | ((repeat (first | (with_reducible exact Find.here _) | apply Find.there)); done) | (repeat (first | exact Find.here _ | apply Find.there))) agg31 sz31 (by first | exact Nat.le_of_ble_eq_true rfl | (simp; done) | (simp; omega)) rfl (Wt.none rfl) rfl ?_ | refine RunL.loadNR (vs := (cEdu ((putL m lost l (fewE x)).2.2.1))) rfl (by assumption) agg31 sz31 (by first | exact Nat.le_of_ble_eq_true rfl | (simp; done) | (simp; omega)) rfl (Wt.none rfl) rfl ?_
                  first | refine RunL.loadA (vs := (cEdu ((putL m lost l (fewE x)).2.2.1))) rfl (by first | ((repeat (first | (with_reducible exact Find.here _) | apply Find.there)); done) | (repeat (first | exact Find.here _ | apply Find.there))) agg31 sz31 (by first | exact Nat.le_of_ble_eq_true rfl | (simp; done) | (simp; omega)) rfl (Wt.none rfl) rfl ?_ | refine RunL.loadNR (vs := (cEdu ((putL m lost l (fewE x)).2.2.1))) rfl (by assumption) agg31 sz31 (by first | exact Nat.le_of_ble_eq_true rfl | (simp; done) | (simp; omega)) rfl (Wt.none rfl) rfl ?_
                  refine RunL.pure (Pure.aneq rfl rfl eqg31 (eqv31 ((putL m lost l (fewE x)).2.2.1) ((putL m lost l (fewE x)).2.2.1)) (by decide)) (Wt.none rfl) rfl rfl ?_
                  refine RunL.mv rfl rfl ?_
                  refine RunL.split (d := 185) rfl (fun hg7 => ?_) (fun hg7 => ?_)
                  · try simp only [decide_eq_true_eq, decide_eq_false_iff_not, beq_iff_eq, beq_eq_false_iff_ne, bne_iff_ne, ne_eq, Bool.not_eq_true', Bool.not_eq_false', Bool.not_eq_true, Bool.not_eq_false, Int.not_lt, Int.not_le, Decidable.not_not, bne_eq_false_iff_eq, gt_iff_lt, ge_iff_le, Bool.or_eq_true, Bool.and_eq_true] at hg7
                    exfalso
                    first | exact hg7 trivial | exact hg7 rfl | (simp at hg7; done)
                  try simp only [decide_eq_true_eq, decide_eq_false_iff_not, beq_iff_eq, beq_eq_false_iff_ne, bne_iff_ne, ne_eq, Bool.not_eq_true', Bool.not_eq_false', Bool.not_eq_true, Bool.not_eq_false, Int.not_lt, Int.not_le, Decidable.not_not, bne_eq_false_iff_eq, gt_iff_lt, ge_iff_le, Bool.or_eq_true, Bool.and_eq_true] at hg7
                  refine RunL.pure (Pure.move rfl) (Wt.yes rfl rfl rfl) rfl rfl ?_
                  refine RunL.pure (Pure.move rfl) (Wt.yes rfl rfl rfl) rfl rfl ?_
                  refine RunL.pure (Pure.bneq rfl rfl und4) (Wt.yes rfl rfl rfl) rfl rfl ?_
                  refine RunL.pure (Pure.pickF rfl rfl) (Wt.none rfl) rfl rfl ?_
                  refine RunL.mv rfl rfl ?_
                  refine RunL.split (d := 190) rfl (fun hg8 => ?_) (fun hg8 => ?_)
                  · try simp only [decide_eq_true_eq, decide_eq_false_iff_not, beq_iff_eq, beq_eq_false_iff_ne, bne_iff_ne, ne_eq, Bool.not_eq_true', Bool.not_eq_false', Bool.not_eq_true, Bool.not_eq_false, Int.not_lt, Int.not_le, Decidable.not_not, bne_eq_false_iff_eq, gt_iff_lt, ge_iff_le, Bool.or_eq_true, Bool.and_eq_true] at hg8
                    exfalso
                    first | (simp_all; done) | (simp_all; omega) | omega | grind
                  try simp only [decide_eq_true_eq, decide_eq_false_iff_not, beq_iff_eq, beq_eq_false_iff_ne, bne_iff_ne, ne_eq, Bool.not_eq_true', Bool.not_eq_false', Bool.not_eq_true, Bool.not_eq_false, Int.not_lt, Int.not_le, Decidable.not_not, bne_eq_false_iff_eq, gt_iff_lt, ge_iff_le, Bool.or_eq_true, Bool.and_eq_true] at hg8
                  refine RunL.pure (Pure.move rfl) (Wt.yes rfl rfl rfl) rfl rfl ?_
                  refine RunL.pure (Pure.move rfl) (Wt.yes rfl rfl rfl) rfl rfl ?_
                  refine RunL.pure (Pure.neq rfl rfl) (Wt.yes rfl rfl rfl) rfl rfl ?_
                  refine RunL.pure (Pure.pickF rfl rfl) (Wt.none rfl) rfl rfl ?_
                  refine RunL.nil ?_
                  refine Run.cond rfl (fun hc9 => ?_) (fun hc9 => ?_)
                  · try simp only [decide_eq_true_eq, decide_eq_false_iff_not, beq_iff_eq, beq_eq_false_iff_ne, bne_iff_ne, ne_eq, Bool.not_eq_true', Bool.not_eq_false', Bool.not_eq_true, Bool.not_eq_false, Int.not_lt, Int.not_le, Decidable.not_not, bne_eq_false_iff_eq, gt_iff_lt, ge_iff_le, Bool.or_eq_true, Bool.and_eq_true] at hc9
                    exfalso
                    first | (simp_all; done) | (simp_all; omega) | omega | grind
                  try simp only [decide_eq_true_eq, decide_eq_false_iff_not, beq_iff_eq, beq_eq_false_iff_ne, bne_iff_ne, ne_eq, Bool.not_eq_true', Bool.not_eq_false', Bool.not_eq_true, Bool.not_eq_false, Int.not_lt, Int.not_le, Decidable.not_not, bne_eq_false_iff_eq, gt_iff_lt, ge_iff_le, Bool.or_eq_true, Bool.and_eq_true] at hc9
                  refine Run.skip ?_
                  refine Run.inBlock ?_
                  rw [hl0, hl1]
                  refine Run.keep (.cons rfl (.cons rfl (.cons rfl (.cons rfl (.cons rfl (.nil))))) : Keep _ [1, 2, 8, 10, 11] _) ?_
                  exact Run.meetF (F := F) hk (by exact ⟨l, lost, a, c, hlf, by omega, by omega, rfl, rfl⟩) (by repeat (first | (with_reducible exact Fin.done (by repeat (first | (with_reducible exact Rest.here) | apply Rest.there))) | (apply Fin.cons (by first | ((repeat (first | (with_reducible exact Find.here _) | apply Find.there)); done) | (repeat (first | exact Find.here _ | apply Find.there))))))
                · skip
                  obtain ⟨ga, gn, gc⟩ := g; simp only at hgn hA_; subst hgn
                  replace hA_ := hA_.symm; subst hA_
                  refine RunL.mv rfl rfl ?_
                  refine RunL.pure (Pure.extract rfl rfl) (Wt.none rfl) rfl rfl ?_
                  refine RunL.pure (Pure.extract rfl rfl) (Wt.none rfl) rfl rfl ?_
                  refine RunL.pure (Pure.extract rfl rfl) (Wt.none rfl) rfl rfl ?_
                  refine RunL.pure (Pure.extract rfl rfl) (Wt.none rfl) rfl rfl ?_
                  refine RunL.alloc zz53 (Wt.none rfl) rfl ?_; intro b19
                  refine RunL.alloc zz31 (Wt.none rfl) rfl ?_; intro b20
                  refine RunL.storeW (xs := (cQst ((⟨m, ⟨ga, (putL m lost l (fewE x)).1.length, gc⟩, (putL m lost l (fewE x)).2.1⟩ : Qst)))) rfl rfl (by first | ((repeat (first | (with_reducible exact Find.here _) | apply Find.there)); done) | (repeat (first | exact Find.here _ | apply Find.there))) sz53 (by rfl) (by rfl) (by rfl) (Wt.none rfl) ?_
                  refine RunL.storeW (xs := (cEdu ((putL m lost l (fewE x)).2.2.1))) rfl rfl (by first | ((repeat (first | (with_reducible exact Find.here _) | apply Find.there)); done) | (repeat (first | exact Find.here _ | apply Find.there))) sz31 (by rfl) (by rfl) (by rfl) (Wt.none rfl) ?_
                  refine RunL.as rfl rfl ?_
                  refine RunL.as rfl rfl ?_
                  refine RunL.nil ?_
                  refine Run.sr ?_
                  first | refine RunL.loadA (vs := (cQst ((⟨m, ⟨ga, (putL m lost l (fewE x)).1.length, gc⟩, (putL m lost l (fewE x)).2.1⟩ : Qst)))) rfl (by first | ((repeat (first | (with_reducible exact Find.here _) | apply Find.there)); done) | (repeat (first | exact Find.here _ | apply Find.there))) agg53 sz53 (by first | exact Nat.le_of_ble_eq_true rfl | (simp; done) | (simp; omega)) rfl (Wt.none rfl) rfl ?_ | refine RunL.loadNR (vs := (cQst ((⟨m, ⟨ga, (putL m lost l (fewE x)).1.length, gc⟩, (putL m lost l (fewE x)).2.1⟩ : Qst)))) rfl (by assumption) agg53 sz53 (by first | exact Nat.le_of_ble_eq_true rfl | (simp; done) | (simp; omega)) rfl (Wt.none rfl) rfl ?_
                  refine RunL.storeW (xs := (cQst ((⟨m, ⟨ga, (putL m lost l (fewE x)).1.length, gc⟩, (putL m lost l (fewE x)).2.1⟩ : Qst)))) rfl rfl (by first | ((repeat (first | (with_reducible exact Find.here _) | apply Find.there)); done) | (repeat (first | exact Find.here _ | apply Find.there))) sz53 (by rfl) (by rfl) (by rfl) (Wt.none rfl) ?_
                  refine RunL.nil ?_
                  refine Run.sr ?_
                  refine RunL.mv rfl rfl ?_
                  first | refine RunL.loadA (vs := (cEdu (fewE x))) rfl (by first | ((repeat (first | (with_reducible exact Find.here _) | apply Find.there)); done) | (repeat (first | exact Find.here _ | apply Find.there))) agg31 sz31 (by first | exact Nat.le_of_ble_eq_true rfl | (simp; done) | (simp; omega)) rfl (Wt.none rfl) rfl ?_ | refine RunL.loadNR (vs := (cEdu (fewE x))) rfl (by assumption) agg31 sz31 (by first | exact Nat.le_of_ble_eq_true rfl | (simp; done) | (simp; omega)) rfl (Wt.none rfl) rfl ?_
                  refine RunL.call rfl rfl (by rfl) (by repeat (first | (with_reducible exact Take.nil _) | (apply Take.cons (by first | ((repeat (first | (with_reducible exact Find.here _) | apply Find.there)); done) | (repeat (first | exact Find.here _ | apply Find.there)))))) (Put_ctr (p := p) (most := m) (lost := lost) (l := l) (e := (fewE x)) (few_small x) (few_ok hxk) hlf (by omega) (by omega)) (Wt.none rfl) rfl ?_
                  rintro _ _ ⟨rfl, hA_⟩
                  replace hA_ := hA_.symm; subst hA_
                  refine RunL.mv rfl rfl ?_
                  refine RunL.pure (Pure.extract rfl rfl) (Wt.none rfl) rfl rfl ?_
                  refine RunL.pure (Pure.extract rfl rfl) (Wt.none rfl) rfl rfl ?_
                  refine RunL.pure (Pure.extract rfl rfl) (Wt.none rfl) rfl rfl ?_
                  refine RunL.alloc zz31 (Wt.none rfl) rfl ?_; intro b23
                  refine RunL.storeW (xs := (cEdu ((putL m lost l (fewE x)).2.2.1))) rfl rfl (by first | ((repeat (first | (with_reducible exact Find.here _) | apply Find.there)); done) | (repeat (first | exact Find.here _ | apply Find.there))) sz31 (by rfl) (by rfl) (by rfl) (Wt.none rfl) ?_
                  refine RunL.as rfl rfl ?_
                  refine RunL.as rfl rfl ?_
                  refine RunL.nil ?_
                  refine Run.sr ?_
                  first | refine RunL.loadA (vs := (cEdu ((putL m lost l (fewE x)).2.2.1))) rfl (by first | ((repeat (first | (with_reducible exact Find.here _) | apply Find.there)); done) | (repeat (first | exact Find.here _ | apply Find.there))) agg31 sz31 (by first | exact Nat.le_of_ble_eq_true rfl | (simp; done) | (simp; omega)) rfl (Wt.none rfl) rfl ?_ | refine RunL.loadNR (vs := (cEdu ((putL m lost l (fewE x)).2.2.1))) rfl (by assumption) agg31 sz31 (by first | exact Nat.le_of_ble_eq_true rfl | (simp; done) | (simp; omega)) rfl (Wt.none rfl) rfl ?_
                  first | refine RunL.loadA (vs := (cEdu ((putL m lost l (fewE x)).2.2.1))) rfl (by first | ((repeat (first | (with_reducible exact Find.here _) | apply Find.there)); done) | (repeat (first | exact Find.here _ | apply Find.there))) agg31 sz31 (by first | exact Nat.le_of_ble_eq_true rfl | (simp; done) | (simp; omega)) rfl (Wt.none rfl) rfl ?_ | refine RunL.loadNR (vs := (cEdu ((putL m lost l (fewE x)).2.2.1))) rfl (by assumption) agg31 sz31 (by first | exact Nat.le_of_ble_eq_true rfl | (simp; done) | (simp; omega)) rfl (Wt.none rfl) rfl ?_
                  refine RunL.pure (Pure.aneq rfl rfl eqg31 (eqv31 ((putL m lost l (fewE x)).2.2.1) ((putL m lost l (fewE x)).2.2.1)) (by decide)) (Wt.none rfl) rfl rfl ?_
                  refine RunL.mv rfl rfl ?_
                  refine RunL.split (d := 185) rfl (fun hg10 => ?_) (fun hg10 => ?_)
                  · try simp only [decide_eq_true_eq, decide_eq_false_iff_not, beq_iff_eq, beq_eq_false_iff_ne, bne_iff_ne, ne_eq, Bool.not_eq_true', Bool.not_eq_false', Bool.not_eq_true, Bool.not_eq_false, Int.not_lt, Int.not_le, Decidable.not_not, bne_eq_false_iff_eq, gt_iff_lt, ge_iff_le, Bool.or_eq_true, Bool.and_eq_true] at hg10
                    exfalso
                    first | exact hg10 trivial | exact hg10 rfl | (simp at hg10; done)
                  try simp only [decide_eq_true_eq, decide_eq_false_iff_not, beq_iff_eq, beq_eq_false_iff_ne, bne_iff_ne, ne_eq, Bool.not_eq_true', Bool.not_eq_false', Bool.not_eq_true, Bool.not_eq_false, Int.not_lt, Int.not_le, Decidable.not_not, bne_eq_false_iff_eq, gt_iff_lt, ge_iff_le, Bool.or_eq_true, Bool.and_eq_true] at hg10
                  refine RunL.pure (Pure.move rfl) (Wt.yes rfl rfl rfl) rfl rfl ?_
                  refine RunL.pure (Pure.move rfl) (Wt.yes rfl rfl rfl) rfl rfl ?_
                  refine RunL.pure (Pure.bneq rfl rfl und4) (Wt.yes rfl rfl rfl) rfl rfl ?_
                  refine RunL.pure (Pure.pickF rfl rfl) (Wt.none rfl) rfl rfl ?_
                  refine RunL.mv rfl rfl ?_
                  refine RunL.split (d := 190) rfl (fun hg11 => ?_) (fun hg11 => ?_)
                  · try simp only [decide_eq_true_eq, decide_eq_false_iff_not, beq_iff_eq, beq_eq_false_iff_ne, bne_iff_ne, ne_eq, Bool.not_eq_true', Bool.not_eq_false', Bool.not_eq_true, Bool.not_eq_false, Int.not_lt, Int.not_le, Decidable.not_not, bne_eq_false_iff_eq, gt_iff_lt, ge_iff_le, Bool.or_eq_true, Bool.and_eq_true] at hg11
                    exfalso
                    first | (simp_all; done) | (simp_all; omega) | omega | grind
                  try simp only [decide_eq_true_eq, decide_eq_false_iff_not, beq_iff_eq, beq_eq_false_iff_ne, bne_iff_ne, ne_eq, Bool.not_eq_true', Bool.not_eq_false', Bool.not_eq_true, Bool.not_eq_false, Int.not_lt, Int.not_le, Decidable.not_not, bne_eq_false_iff_eq, gt_iff_lt, ge_iff_le, Bool.or_eq_true, Bool.and_eq_true] at hg11
                  refine RunL.pure (Pure.move rfl) (Wt.yes rfl rfl rfl) rfl rfl ?_
                  refine RunL.pure (Pure.move rfl) (Wt.yes rfl rfl rfl) rfl rfl ?_
                  refine RunL.pure (Pure.neq rfl rfl) (Wt.yes rfl rfl rfl) rfl rfl ?_
                  refine RunL.pure (Pure.pickF rfl rfl) (Wt.none rfl) rfl rfl ?_
                  refine RunL.nil ?_
                  refine Run.cond rfl (fun hc12 => ?_) (fun hc12 => ?_)
                  · try simp only [decide_eq_true_eq, decide_eq_false_iff_not, beq_iff_eq, beq_eq_false_iff_ne, bne_iff_ne, ne_eq, Bool.not_eq_true', Bool.not_eq_false', Bool.not_eq_true, Bool.not_eq_false, Int.not_lt, Int.not_le, Decidable.not_not, bne_eq_false_iff_eq, gt_iff_lt, ge_iff_le, Bool.or_eq_true, Bool.and_eq_true] at hc12
                    exfalso
                    first | (simp_all; done) | (simp_all; omega) | omega | grind
                  try simp only [decide_eq_true_eq, decide_eq_false_iff_not, beq_iff_eq, beq_eq_false_iff_ne, bne_iff_ne, ne_eq, Bool.not_eq_true', Bool.not_eq_false', Bool.not_eq_true, Bool.not_eq_false, Int.not_lt, Int.not_le, Decidable.not_not, bne_eq_false_iff_eq, gt_iff_lt, ge_iff_le, Bool.or_eq_true, Bool.and_eq_true] at hc12
                  refine Run.skip ?_
                  refine Run.inBlock ?_
                  refine Run.keep (.cons rfl (.cons rfl (.cons rfl (.cons rfl (.cons rfl (.nil))))) : Keep _ [1, 2, 8, 10, 11] _) ?_
                  exact Run.meetF (F := F) hk (by exact ⟨(putL m lost l (fewE x)).1, (putL m lost l (fewE x)).2.1, ga, gc, hf1, by omega, by omega, rfl, rfl⟩) (by repeat (first | (with_reducible exact Fin.done (by repeat (first | (with_reducible exact Rest.here) | apply Rest.there))) | (apply Fin.cons (by first | ((repeat (first | (with_reducible exact Find.here _) | apply Find.there)); done) | (repeat (first | exact Find.here _ | apply Find.there))))))
              · try simp only [decide_eq_true_eq, decide_eq_false_iff_not, beq_iff_eq, beq_eq_false_iff_ne, bne_iff_ne, ne_eq, Bool.not_eq_true', Bool.not_eq_false', Bool.not_eq_true, Bool.not_eq_false, Int.not_lt, Int.not_le, Decidable.not_not, bne_eq_false_iff_eq, gt_iff_lt, ge_iff_le, Bool.or_eq_true, Bool.and_eq_true] at hd9
                obtain ⟨hf1, hf2, hf3⟩ := putL_facts (most := m) (lost := lost) hlf (pub_small x) (pub_ok x)
                refine Run.sr ?_
                first | refine RunL.loadA (vs := (cQst ((⟨m, ⟨a, l.length, c⟩, lost⟩ : Qst)))) rfl (by first | ((repeat (first | (with_reducible exact Find.here _) | apply Find.there)); done) | (repeat (first | exact Find.here _ | apply Find.there))) agg53 sz53 (by first | exact Nat.le_of_ble_eq_true rfl | (simp; done) | (simp; omega)) rfl (Wt.none rfl) rfl ?_ | refine RunL.loadNR (vs := (cQst ((⟨m, ⟨a, l.length, c⟩, lost⟩ : Qst)))) rfl (by assumption) agg53 sz53 (by first | exact Nat.le_of_ble_eq_true rfl | (simp; done) | (simp; omega)) rfl (Wt.none rfl) rfl ?_
                first | refine RunL.loadA (vs := (cEdu (pubE x))) rfl (by first | ((repeat (first | (with_reducible exact Find.here _) | apply Find.there)); done) | (repeat (first | exact Find.here _ | apply Find.there))) agg31 sz31 (by first | exact Nat.le_of_ble_eq_true rfl | (simp; done) | (simp; omega)) rfl (Wt.none rfl) rfl ?_ | refine RunL.loadNR (vs := (cEdu (pubE x))) rfl (by assumption) agg31 sz31 (by first | exact Nat.le_of_ble_eq_true rfl | (simp; done) | (simp; omega)) rfl (Wt.none rfl) rfl ?_
                refine RunL.call rfl rfl (by rfl) (by repeat (first | (with_reducible exact Take.nil _) | (apply Take.cons (by first | ((repeat (first | (with_reducible exact Find.here _) | apply Find.there)); done) | (repeat (first | exact Find.here _ | apply Find.there)))))) (Ctr.lend (R := fun G => SlR G 31 11 _ _ _ ∧ _ ≤ _) Lends.Sl cb29 (fun G' hle hr => rPut_ctr (e := (pubE x)) (qm := m) (ql := lost) hr.1 hcap (by omega) hnd (pub_small x) (pub_ok x) hlf (by omega))) (Wt.none rfl) rfl ?_
                rintro _ _ ⟨A1, rfl, g, rfl, hg⟩
                rcases hg with ⟨rfl, hl0, hl1, hA_⟩ | ⟨hgn, hA_⟩
                · skip
                  replace hA_ := hA_.symm; subst hA_
                  refine RunL.mv rfl rfl ?_
                  refine RunL.pure (Pure.extract rfl rfl) (Wt.none rfl) rfl rfl ?_
                  refine RunL.pure (Pure.extract rfl rfl) (Wt.none rfl) rfl rfl ?_
                  refine RunL.pure (Pure.extract rfl rfl) (Wt.none rfl) rfl rfl ?_
                  refine RunL.pure (Pure.extract rfl rfl) (Wt.none rfl) rfl rfl ?_
                  refine RunL.alloc zz53 (Wt.none rfl) rfl ?_; intro b26
                  refine RunL.alloc zz31 (Wt.none rfl) rfl ?_; intro b27
                  refine RunL.storeW (xs := (cQst ((⟨m, ⟨a, l.length, c⟩, (putL m lost l (pubE x)).2.1⟩ : Qst)))) rfl rfl (by first | ((repeat (first | (with_reducible exact Find.here _) | apply Find.there)); done) | (repeat (first | exact Find.here _ | apply Find.there))) sz53 (by rfl) (by rfl) (by rfl) (Wt.none rfl) ?_
                  refine RunL.storeW (xs := (cEdu ((putL m lost l (pubE x)).2.2.1))) rfl rfl (by first | ((repeat (first | (with_reducible exact Find.here _) | apply Find.there)); done) | (repeat (first | exact Find.here _ | apply Find.there))) sz31 (by rfl) (by rfl) (by rfl) (Wt.none rfl) ?_
                  refine RunL.as rfl rfl ?_
                  refine RunL.as rfl rfl ?_
                  refine RunL.nil ?_
                  refine Run.sr ?_
                  first | refine RunL.loadA (vs := (cQst ((⟨m, ⟨a, l.length, c⟩, (putL m lost l (pubE x)).2.1⟩ : Qst)))) rfl (by first | ((repeat (first | (with_reducible exact Find.here _) | apply Find.there)); done) | (repeat (first | exact Find.here _ | apply Find.there))) agg53 sz53 (by first | exact Nat.le_of_ble_eq_true rfl | (simp; done) | (simp; omega)) rfl (Wt.none rfl) rfl ?_ | refine RunL.loadNR (vs := (cQst ((⟨m, ⟨a, l.length, c⟩, (putL m lost l (pubE x)).2.1⟩ : Qst)))) rfl (by assumption) agg53 sz53 (by first | exact Nat.le_of_ble_eq_true rfl | (simp; done) | (simp; omega)) rfl (Wt.none rfl) rfl ?_
                  refine RunL.storeW (xs := (cQst ((⟨m, ⟨a, l.length, c⟩, (putL m lost l (pubE x)).2.1⟩ : Qst)))) rfl rfl (by first | ((repeat (first | (with_reducible exact Find.here _) | apply Find.there)); done) | (repeat (first | exact Find.here _ | apply Find.there))) sz53 (by rfl) (by rfl) (by rfl) (Wt.none rfl) ?_
                  refine RunL.nil ?_
                  refine Run.sr ?_
                  refine RunL.mv rfl rfl ?_
                  first | refine RunL.loadA (vs := (cEdu (pubE x))) rfl (by first | ((repeat (first | (with_reducible exact Find.here _) | apply Find.there)); done) | (repeat (first | exact Find.here _ | apply Find.there))) agg31 sz31 (by first | exact Nat.le_of_ble_eq_true rfl | (simp; done) | (simp; omega)) rfl (Wt.none rfl) rfl ?_ | refine RunL.loadNR (vs := (cEdu (pubE x))) rfl (by assumption) agg31 sz31 (by first | exact Nat.le_of_ble_eq_true rfl | (simp; done) | (simp; omega)) rfl (Wt.none rfl) rfl ?_
                  refine RunL.call rfl rfl (by rfl) (by repeat (first | (with_reducible exact Take.nil _) | (apply Take.cons (by first | ((repeat (first | (with_reducible exact Find.here _) | apply Find.there)); done) | (repeat (first | exact Find.here _ | apply Find.there)))))) (Put_ctr (p := p) (most := m) (lost := lost) (l := l) (e := (pubE x)) (pub_small x) (pub_ok x) hlf (by omega) (by omega)) (Wt.none rfl) rfl ?_
                  rintro _ _ ⟨rfl, hA_⟩
                  replace hA_ := hA_.symm; subst hA_
                  refine RunL.mv rfl rfl ?_
                  refine RunL.pure (Pure.extract rfl rfl) (Wt.none rfl) rfl rfl ?_
                  refine RunL.pure (Pure.extract rfl rfl) (Wt.none rfl) rfl rfl ?_
                  refine RunL.pure (Pure.extract rfl rfl) (Wt.none rfl) rfl rfl ?_
                  refine RunL.alloc zz31 (Wt.none rfl) rfl ?_; intro b30
                  refine RunL.storeW (xs := (cEdu ((putL m lost l (pubE x)).2.2.1))) rfl rfl (by first | ((repeat (first | (with_reducible exact Find.here _) | apply Find.there)); done) | (repeat (first | exact Find.here _ | apply Find.there))) sz31 (by rfl) (by rfl) (by rfl) (Wt.none rfl) ?_
                  refine RunL.as rfl rfl ?_
                  refine RunL.as rfl rfl ?_
                  refine RunL.nil ?_
                  refine Run.sr ?_
                  first | refine RunL.loadA (vs := (cEdu ((putL m lost l (pubE x)).2.2.1))) rfl (by first | ((repeat (first | (with_reducible exact Find.here _) | apply Find.there)); done) | (repeat (first | exact Find.here _ | apply Find.there))) agg31 sz31 (by first | exact Nat.le_of_ble_eq_true rfl | (simp; done) | (simp; omega)) rfl (Wt.none rfl) rfl ?_ | refine RunL.loadNR (vs := (cEdu ((putL m lost l (pubE x)).2.2.1))) rfl (by assumption) agg31 sz31 (by first | exact Nat.le_of_ble_eq_true rfl | (simp; done) | (simp; omega)) rfl (Wt.none rfl) rfl ?_
                  first | refine RunL.loadA (vs := (cEdu ((putL m lost l (pubE x)).2.2.1))) rfl (by first | ((repeat (first | (with_reducible exact Find.here _) | apply Find.there)); done) | (repeat (first | exact Find.here _ | apply Find.there))) agg31 sz31 (by first | exact Nat.le_of_ble_eq_true rfl | (simp; done) | (simp; omega)) rfl (Wt.none rfl) rfl ?_ | refine RunL.loadNR (vs := (cEdu ((putL m lost l (pubE x)).2.2.1))) rfl (by assumption) agg31 sz31 (by first | exact Nat.le_of_ble_eq_true rfl | (simp; done) | (simp; omega)) rfl (Wt.none rfl) rfl ?_
                  refine RunL.pure (Pure.aneq rfl rfl eqg31 (eqv31 ((putL m lost l (pubE x)).2.2.1) ((putL m lost l (pubE x)).2.2.1)) (by decide)) (Wt.none rfl) rfl rfl ?_
                  refine RunL.mv rfl rfl ?_
                  refine RunL.split (d := 97) rfl (fun hg13 => ?_) (fun hg13 => ?_)
                  · try simp only [decide_eq_true_eq, decide_eq_false_iff_not, beq_iff_eq, beq_eq_false_iff_ne, bne_iff_ne, ne_eq, Bool.not_eq_true', Bool.not_eq_false', Bool.not_eq_true, Bool.not_eq_false, Int.not_lt, Int.not_le, Decidable.not_not, bne_eq_false_iff_eq, gt_iff_lt, ge_iff_le, Bool.or_eq_true, Bool.and_eq_true] at hg13
                    exfalso
                    first | exact hg13 trivial | exact hg13 rfl | (simp at hg13; done)
                  try simp only [decide_eq_true_eq, decide_eq_false_iff_not, beq_iff_eq, beq_eq_false_iff_ne, bne_iff_ne, ne_eq, Bool.not_eq_true', Bool.not_eq_false', Bool.not_eq_true, Bool.not_eq_false, Int.not_lt, Int.not_le, Decidable.not_not, bne_eq_false_iff_eq, gt_iff_lt, ge_iff_le, Bool.or_eq_true, Bool.and_eq_true] at hg13
                  refine RunL.pure (Pure.move rfl) (Wt.yes rfl rfl rfl) rfl rfl ?_
                  refine RunL.pure (Pure.move rfl) (Wt.yes rfl rfl rfl) rfl rfl ?_
                  refine RunL.pure (Pure.bneq rfl rfl und4) (Wt.yes rfl rfl rfl) rfl rfl ?_
                  refine RunL.pure (Pure.pickF rfl rfl) (Wt.none rfl) rfl rfl ?_
                  refine RunL.mv rfl rfl ?_
                  refine RunL.split (d := 102) rfl (fun hg14 => ?_) (fun hg14 => ?_)
                  · try simp only [decide_eq_true_eq, decide_eq_false_iff_not, beq_iff_eq, beq_eq_false_iff_ne, bne_iff_ne, ne_eq, Bool.not_eq_true', Bool.not_eq_false', Bool.not_eq_true, Bool.not_eq_false, Int.not_lt, Int.not_le, Decidable.not_not, bne_eq_false_iff_eq, gt_iff_lt, ge_iff_le, Bool.or_eq_true, Bool.and_eq_true] at hg14
                    exfalso
                    first | (simp_all; done) | (simp_all; omega) | omega | grind
                  try simp only [decide_eq_true_eq, decide_eq_false_iff_not, beq_iff_eq, beq_eq_false_iff_ne, bne_iff_ne, ne_eq, Bool.not_eq_true', Bool.not_eq_false', Bool.not_eq_true, Bool.not_eq_false, Int.not_lt, Int.not_le, Decidable.not_not, bne_eq_false_iff_eq, gt_iff_lt, ge_iff_le, Bool.or_eq_true, Bool.and_eq_true] at hg14
                  refine RunL.pure (Pure.move rfl) (Wt.yes rfl rfl rfl) rfl rfl ?_
                  refine RunL.pure (Pure.move rfl) (Wt.yes rfl rfl rfl) rfl rfl ?_
                  refine RunL.pure (Pure.neq rfl rfl) (Wt.yes rfl rfl rfl) rfl rfl ?_
                  refine RunL.pure (Pure.pickF rfl rfl) (Wt.none rfl) rfl rfl ?_
                  refine RunL.nil ?_
                  refine Run.cond rfl (fun hc15 => ?_) (fun hc15 => ?_)
                  · try simp only [decide_eq_true_eq, decide_eq_false_iff_not, beq_iff_eq, beq_eq_false_iff_ne, bne_iff_ne, ne_eq, Bool.not_eq_true', Bool.not_eq_false', Bool.not_eq_true, Bool.not_eq_false, Int.not_lt, Int.not_le, Decidable.not_not, bne_eq_false_iff_eq, gt_iff_lt, ge_iff_le, Bool.or_eq_true, Bool.and_eq_true] at hc15
                    exfalso
                    first | (simp_all; done) | (simp_all; omega) | omega | grind
                  try simp only [decide_eq_true_eq, decide_eq_false_iff_not, beq_iff_eq, beq_eq_false_iff_ne, bne_iff_ne, ne_eq, Bool.not_eq_true', Bool.not_eq_false', Bool.not_eq_true, Bool.not_eq_false, Int.not_lt, Int.not_le, Decidable.not_not, bne_eq_false_iff_eq, gt_iff_lt, ge_iff_le, Bool.or_eq_true, Bool.and_eq_true] at hc15
                  refine Run.skip ?_
                  refine Run.inBlock ?_
                  rw [hl0, hl1]
                  refine Run.keep (.cons rfl (.cons rfl (.cons rfl (.cons rfl (.cons rfl (.nil))))) : Keep _ [1, 2, 8, 10, 11] _) ?_
                  exact Run.meetF (F := F) hk (by exact ⟨l, lost, a, c, hlf, by omega, by omega, rfl, rfl⟩) (by repeat (first | (with_reducible exact Fin.done (by repeat (first | (with_reducible exact Rest.here) | apply Rest.there))) | (apply Fin.cons (by first | ((repeat (first | (with_reducible exact Find.here _) | apply Find.there)); done) | (repeat (first | exact Find.here _ | apply Find.there))))))
                · skip
                  obtain ⟨ga, gn, gc⟩ := g; simp only at hgn hA_; subst hgn
                  replace hA_ := hA_.symm; subst hA_
                  refine RunL.mv rfl rfl ?_
                  refine RunL.pure (Pure.extract rfl rfl) (Wt.none rfl) rfl rfl ?_
                  refine RunL.pure (Pure.extract rfl rfl) (Wt.none rfl) rfl rfl ?_
                  refine RunL.pure (Pure.extract rfl rfl) (Wt.none rfl) rfl rfl ?_
                  refine RunL.pure (Pure.extract rfl rfl) (Wt.none rfl) rfl rfl ?_
                  refine RunL.alloc zz53 (Wt.none rfl) rfl ?_; intro b26
                  refine RunL.alloc zz31 (Wt.none rfl) rfl ?_; intro b27
                  refine RunL.storeW (xs := (cQst ((⟨m, ⟨ga, (putL m lost l (pubE x)).1.length, gc⟩, (putL m lost l (pubE x)).2.1⟩ : Qst)))) rfl rfl (by first | ((repeat (first | (with_reducible exact Find.here _) | apply Find.there)); done) | (repeat (first | exact Find.here _ | apply Find.there))) sz53 (by rfl) (by rfl) (by rfl) (Wt.none rfl) ?_
                  refine RunL.storeW (xs := (cEdu ((putL m lost l (pubE x)).2.2.1))) rfl rfl (by first | ((repeat (first | (with_reducible exact Find.here _) | apply Find.there)); done) | (repeat (first | exact Find.here _ | apply Find.there))) sz31 (by rfl) (by rfl) (by rfl) (Wt.none rfl) ?_
                  refine RunL.as rfl rfl ?_
                  refine RunL.as rfl rfl ?_
                  refine RunL.nil ?_
                  refine Run.sr ?_
                  first | refine RunL.loadA (vs := (cQst ((⟨m, ⟨ga, (putL m lost l (pubE x)).1.length, gc⟩, (putL m lost l (pubE x)).2.1⟩ : Qst)))) rfl (by first | ((repeat (first | (with_reducible exact Find.here _) | apply Find.there)); done) | (repeat (first | exact Find.here _ | apply Find.there))) agg53 sz53 (by first | exact Nat.le_of_ble_eq_true rfl | (simp; done) | (simp; omega)) rfl (Wt.none rfl) rfl ?_ | refine RunL.loadNR (vs := (cQst ((⟨m, ⟨ga, (putL m lost l (pubE x)).1.length, gc⟩, (putL m lost l (pubE x)).2.1⟩ : Qst)))) rfl (by assumption) agg53 sz53 (by first | exact Nat.le_of_ble_eq_true rfl | (simp; done) | (simp; omega)) rfl (Wt.none rfl) rfl ?_
                  refine RunL.storeW (xs := (cQst ((⟨m, ⟨ga, (putL m lost l (pubE x)).1.length, gc⟩, (putL m lost l (pubE x)).2.1⟩ : Qst)))) rfl rfl (by first | ((repeat (first | (with_reducible exact Find.here _) | apply Find.there)); done) | (repeat (first | exact Find.here _ | apply Find.there))) sz53 (by rfl) (by rfl) (by rfl) (Wt.none rfl) ?_
                  refine RunL.nil ?_
                  refine Run.sr ?_
                  refine RunL.mv rfl rfl ?_
                  first | refine RunL.loadA (vs := (cEdu (pubE x))) rfl (by first | ((repeat (first | (with_reducible exact Find.here _) | apply Find.there)); done) | (repeat (first | exact Find.here _ | apply Find.there))) agg31 sz31 (by first | exact Nat.le_of_ble_eq_true rfl | (simp; done) | (simp; omega)) rfl (Wt.none rfl) rfl ?_ | refine RunL.loadNR (vs := (cEdu (pubE x))) rfl (by assumption) agg31 sz31 (by first | exact Nat.le_of_ble_eq_true rfl | (simp; done) | (simp; omega)) rfl (Wt.none rfl) rfl ?_
                  refine RunL.call rfl rfl (by rfl) (by repeat (first | (with_reducible exact Take.nil _) | (apply Take.cons (by first | ((repeat (first | (with_reducible exact Find.here _) | apply Find.there)); done) | (repeat (first | exact Find.here _ | apply Find.there)))))) (Put_ctr (p := p) (most := m) (lost := lost) (l := l) (e := (pubE x)) (pub_small x) (pub_ok x) hlf (by omega) (by omega)) (Wt.none rfl) rfl ?_
                  rintro _ _ ⟨rfl, hA_⟩
                  replace hA_ := hA_.symm; subst hA_
                  refine RunL.mv rfl rfl ?_
                  refine RunL.pure (Pure.extract rfl rfl) (Wt.none rfl) rfl rfl ?_
                  refine RunL.pure (Pure.extract rfl rfl) (Wt.none rfl) rfl rfl ?_
                  refine RunL.pure (Pure.extract rfl rfl) (Wt.none rfl) rfl rfl ?_
                  refine RunL.alloc zz31 (Wt.none rfl) rfl ?_; intro b30
                  refine RunL.storeW (xs := (cEdu ((putL m lost l (pubE x)).2.2.1))) rfl rfl (by first | ((repeat (first | (with_reducible exact Find.here _) | apply Find.there)); done) | (repeat (first | exact Find.here _ | apply Find.there))) sz31 (by rfl) (by rfl) (by rfl) (Wt.none rfl) ?_
                  refine RunL.as rfl rfl ?_
                  refine RunL.as rfl rfl ?_
                  refine RunL.nil ?_
                  refine Run.sr ?_
                  first | refine RunL.loadA (vs := (cEdu ((putL m lost l (pubE x)).2.2.1))) rfl (by first | ((repeat (first | (with_reducible exact Find.here _) | apply Find.there)); done) | (repeat (first | exact Find.here _ | apply Find.there))) agg31 sz31 (by first | exact Nat.le_of_ble_eq_true rfl | (simp; done) | (simp; omega)) rfl (Wt.none rfl) rfl ?_ | refine RunL.loadNR (vs := (cEdu ((putL m lost l (pubE x)).2.2.1))) rfl (by assumption) agg31 sz31 (by first | exact Nat.le_of_ble_eq_true rfl | (simp; done) | (simp; omega)) rfl (Wt.none rfl) rfl ?_
                  first | refine RunL.loadA (vs := (cEdu ((putL m lost l (pubE x)).2.2.1))) rfl (by first | ((repeat (first | (with_reducible exact Find.here _) | apply Find.there)); done) | (repeat (first | exact Find.here _ | apply Find.there))) agg31 sz31 (by first | exact Nat.le_of_ble_eq_true rfl | (simp; done) | (simp; omega)) rfl (Wt.none rfl) rfl ?_ | refine RunL.loadNR (vs := (cEdu ((putL m lost l (pubE x)).2.2.1))) rfl (by assumption) agg31 sz31 (by first | exact Nat.le_of_ble_eq_true rfl | (simp; done) | (simp; omega)) rfl (Wt.none rfl) rfl ?_
                  refine RunL.pure (Pure.aneq rfl rfl eqg31 (eqv31 ((putL m lost l (pubE x)).2.2.1) ((putL m lost l (pubE x)).2.2.1)) (by decide)) (Wt.none rfl) rfl rfl ?_
                  refine RunL.mv rfl rfl ?_
                  refine RunL.split (d := 97) rfl (fun hg16 => ?_) (fun hg16 => ?_)
                  · try simp only [decide_eq_true_eq, decide_eq_false_iff_not, beq_iff_eq, beq_eq_false_iff_ne, bne_iff_ne, ne_eq, Bool.not_eq_true', Bool.not_eq_false', Bool.not_eq_true, Bool.not_eq_false, Int.not_lt, Int.not_le, Decidable.not_not, bne_eq_false_iff_eq, gt_iff_lt, ge_iff_le, Bool.or_eq_true, Bool.and_eq_true] at hg16
                    exfalso
                    first | exact hg16 trivial | exact hg16 rfl | (simp at hg16; done)
                  try simp only [decide_eq_true_eq, decide_eq_false_iff_not, beq_iff_eq, beq_eq_false_iff_ne, bne_iff_ne, ne_eq, Bool.not_eq_true', Bool.not_eq_false', Bool.not_eq_true, Bool.not_eq_false, Int.not_lt, Int.not_le, Decidable.not_not, bne_eq_false_iff_eq, gt_iff_lt, ge_iff_le, Bool.or_eq_true, Bool.and_eq_true] at hg16
                  refine RunL.pure (Pure.move rfl) (Wt.yes rfl rfl rfl) rfl rfl ?_
                  refine RunL.pure (Pure.move rfl) (Wt.yes rfl rfl rfl) rfl rfl ?_
                  refine RunL.pure (Pure.bneq rfl rfl und4) (Wt.yes rfl rfl rfl) rfl rfl ?_
                  refine RunL.pure (Pure.pickF rfl rfl) (Wt.none rfl) rfl rfl ?_
                  refine RunL.mv rfl rfl ?_
                  refine RunL.split (d := 102) rfl (fun hg17 => ?_) (fun hg17 => ?_)
                  · try simp only [decide_eq_true_eq, decide_eq_false_iff_not, beq_iff_eq, beq_eq_false_iff_ne, bne_iff_ne, ne_eq, Bool.not_eq_true', Bool.not_eq_false', Bool.not_eq_true, Bool.not_eq_false, Int.not_lt, Int.not_le, Decidable.not_not, bne_eq_false_iff_eq, gt_iff_lt, ge_iff_le, Bool.or_eq_true, Bool.and_eq_true] at hg17
                    exfalso
                    first | (simp_all; done) | (simp_all; omega) | omega | grind
                  try simp only [decide_eq_true_eq, decide_eq_false_iff_not, beq_iff_eq, beq_eq_false_iff_ne, bne_iff_ne, ne_eq, Bool.not_eq_true', Bool.not_eq_false', Bool.not_eq_true, Bool.not_eq_false, Int.not_lt, Int.not_le, Decidable.not_not, bne_eq_false_iff_eq, gt_iff_lt, ge_iff_le, Bool.or_eq_true, Bool.and_eq_true] at hg17
                  refine RunL.pure (Pure.move rfl) (Wt.yes rfl rfl rfl) rfl rfl ?_
                  refine RunL.pure (Pure.move rfl) (Wt.yes rfl rfl rfl) rfl rfl ?_
                  refine RunL.pure (Pure.neq rfl rfl) (Wt.yes rfl rfl rfl) rfl rfl ?_
                  refine RunL.pure (Pure.pickF rfl rfl) (Wt.none rfl) rfl rfl ?_
                  refine RunL.nil ?_
                  refine Run.cond rfl (fun hc18 => ?_) (fun hc18 => ?_)
                  · try simp only [decide_eq_true_eq, decide_eq_false_iff_not, beq_iff_eq, beq_eq_false_iff_ne, bne_iff_ne, ne_eq, Bool.not_eq_true', Bool.not_eq_false', Bool.not_eq_true, Bool.not_eq_false, Int.not_lt, Int.not_le, Decidable.not_not, bne_eq_false_iff_eq, gt_iff_lt, ge_iff_le, Bool.or_eq_true, Bool.and_eq_true] at hc18
                    exfalso
                    first | (simp_all; done) | (simp_all; omega) | omega | grind
                  try simp only [decide_eq_true_eq, decide_eq_false_iff_not, beq_iff_eq, beq_eq_false_iff_ne, bne_iff_ne, ne_eq, Bool.not_eq_true', Bool.not_eq_false', Bool.not_eq_true, Bool.not_eq_false, Int.not_lt, Int.not_le, Decidable.not_not, bne_eq_false_iff_eq, gt_iff_lt, ge_iff_le, Bool.or_eq_true, Bool.and_eq_true] at hc18
                  refine Run.skip ?_
                  refine Run.inBlock ?_
                  refine Run.keep (.cons rfl (.cons rfl (.cons rfl (.cons rfl (.cons rfl (.nil))))) : Keep _ [1, 2, 8, 10, 11] _) ?_
                  exact Run.meetF (F := F) hk (by exact ⟨(putL m lost l (pubE x)).1, (putL m lost l (pubE x)).2.1, ga, gc, hf1, by omega, by omega, rfl, rfl⟩) (by repeat (first | (with_reducible exact Fin.done (by repeat (first | (with_reducible exact Rest.here) | apply Rest.there))) | (apply Fin.cons (by first | ((repeat (first | (with_reducible exact Find.here _) | apply Find.there)); done) | (repeat (first | exact Find.here _ | apply Find.there))))))
      · skip
        refine Run.cond rfl (fun hzl => ?_) (fun hzl => ?_)
        · try simp only [decide_eq_true_eq, decide_eq_false_iff_not, beq_iff_eq, beq_eq_false_iff_ne, bne_iff_ne, ne_eq, Bool.not_eq_true', Bool.not_eq_false', Bool.not_eq_true, Bool.not_eq_false, Int.not_lt, Int.not_le, Decidable.not_not, bne_eq_false_iff_eq, gt_iff_lt, ge_iff_le, Bool.or_eq_true, Bool.and_eq_true] at hzl
          obtain ⟨z, hz⟩ := get_some (xs := zs) (i := i) (by omega)
          have hzw := wf_i64 (hzo z (List.mem_of_getElem? hz))
          obtain ⟨bz, Tz, prez, postz, hbz, hrz⟩ := h'.open1 (show 0 < zs.length by omega)
          rw [hbz]
          rw [hbz] at hk
          refine Run.region ?_
          refine RunL.mv rfl rfl ?_
          refine RunL.mv rfl rfl ?_
          refine RunL.mv rfl rfl ?_
          refine RunL.pure (Pure.lenSl rfl rfl und23) (Wt.none rfl) rfl rfl ?_
          first | refine RunL.pure (Pure.subI rfl rfl (by omega)) (Wt.none rfl) rfl rfl ?_ | refine RunL.pure (Pure.sub rfl rfl) (Wt.none rfl) rfl rfl ?_
          refine RunL.pure (Pure.min2 rfl rfl) (Wt.none rfl) rfl rfl ?_
          rw [show min ((i : Nat) : Int) (((zs.length : Nat) : Int) - 1) = (i : Int) from by omega]
          refine RunL.pure (Pure.indexAddr rfl rfl und23 sz3 (by omega) (by omega)) (Wt.none rfl) rfl rfl ?_
          refine RunL.load1R rfl hrz (elem1_at hz) agg3 (Wt.none rfl) rfl ?_
          refine RunL.call rfl rfl (by rfl) (by repeat (first | (with_reducible exact Take.nil _) | (apply Take.cons (by first | ((repeat (first | (with_reducible exact Find.here _) | apply Find.there)); done) | (repeat (first | exact Find.here _ | apply Find.there)))))) (Around_ctr (z := z) hzw (by decide)) (Wt.none rfl) rfl ?_
          rintro _ _ ⟨rfl, hA_⟩
          replace hA_ := hA_.symm; subst hA_
          refine RunL.as rfl rfl ?_
          refine RunL.nil ?_
          refine Run.keep (.cons rfl (.cons rfl (.cons rfl (.cons rfl (.cons rfl (.cons rfl (.cons rfl (.nil))))))) : Keep _ [1, 2, 8, 10, 11, 12, 13] _) ?_
          exact Run.meetF (F := F) hk (by exact ⟨_, rfl, rfl⟩) (by repeat (first | (with_reducible exact Fin.done (by repeat (first | (with_reducible exact Rest.here) | apply Rest.there))) | (apply Fin.cons (by first | ((repeat (first | (with_reducible exact Find.here _) | apply Find.there)); done) | (repeat (first | exact Find.here _ | apply Find.there))))))
        · try simp only [decide_eq_true_eq, decide_eq_false_iff_not, beq_iff_eq, beq_eq_false_iff_ne, bne_iff_ne, ne_eq, Bool.not_eq_true', Bool.not_eq_false', Bool.not_eq_true, Bool.not_eq_false, Int.not_lt, Int.not_le, Decidable.not_not, bne_eq_false_iff_eq, gt_iff_lt, ge_iff_le, Bool.or_eq_true, Bool.and_eq_true] at hzl
          refine Run.skip ?_
          refine Run.keep (.cons rfl (.cons rfl (.cons rfl (.cons rfl (.cons rfl (.cons rfl (.cons rfl (.nil))))))) : Keep _ [1, 2, 8, 10, 11, 12, 13] _) ?_
          exact Run.meetF (F := F) hk (by exact ⟨_, rfl, rfl⟩) (by repeat (first | (with_reducible exact Fin.done (by repeat (first | (with_reducible exact Rest.here) | apply Rest.there))) | (apply Fin.cons (by first | ((repeat (first | (with_reducible exact Find.here _) | apply Find.there)); done) | (repeat (first | exact Find.here _ | apply Find.there))))))
    · try simp only [decide_eq_true_eq, decide_eq_false_iff_not, beq_iff_eq, beq_eq_false_iff_ne, bne_iff_ne, ne_eq, Bool.not_eq_true', Bool.not_eq_false', Bool.not_eq_true, Bool.not_eq_false, Int.not_lt, Int.not_le, Decidable.not_not, bne_eq_false_iff_eq, gt_iff_lt, ge_iff_le, Bool.or_eq_true, Bool.and_eq_true] at hi2
      refine Run.exit rfl ?_
      refine Run.sr ?_
      refine RunL.call rfl rfl (by rfl) (by repeat (first | (with_reducible exact Take.nil _) | (apply Take.cons (by first | ((repeat (first | (with_reducible exact Find.here _) | apply Find.there)); done) | (repeat (first | exact Find.here _ | apply Find.there)))))) (lives_ctr) (Wt.none rfl) rfl ?_
      rintro _ _ ⟨rfl, hA_⟩
      replace hA_ := hA_.symm; subst hA_
      refine RunL.as rfl rfl ?_
      refine RunL.nil ?_
      exact Run.ret Try.func8 (res1 rfl rfl) (by exact ⟨rfl, rfl⟩) (by repeat (first | (with_reducible exact Fin.done (by repeat (first | (with_reducible exact Rest.here) | apply Rest.there))) | (apply Fin.cons (by first | ((repeat (first | (with_reducible exact Find.here _) | apply Find.there)); done) | (repeat (first | exact Find.here _ | apply Find.there))))))
  · try simp only [decide_eq_true_eq, decide_eq_false_iff_not, beq_iff_eq, beq_eq_false_iff_ne, bne_iff_ne, ne_eq, Bool.not_eq_true', Bool.not_eq_false', Bool.not_eq_true, Bool.not_eq_false, Int.not_lt, Int.not_le, Decidable.not_not, bne_eq_false_iff_eq, gt_iff_lt, ge_iff_le, Bool.or_eq_true, Bool.and_eq_true] at hi1
    refine RunL.not (Wt.no rfl rfl rfl) rfl rfl ?_
    refine RunL.not (Wt.no rfl rfl rfl) rfl rfl ?_
    refine RunL.pure (Pure.pickF rfl rfl) (Wt.none rfl) rfl rfl ?_
    refine RunL.nil ?_
    refine Run.condF rfl ?_
    refine Run.exit rfl ?_
    refine Run.sr ?_
    refine RunL.call rfl rfl (by rfl) (by repeat (first | (with_reducible exact Take.nil _) | (apply Take.cons (by first | ((repeat (first | (with_reducible exact Find.here _) | apply Find.there)); done) | (repeat (first | exact Find.here _ | apply Find.there)))))) (lives_ctr) (Wt.none rfl) rfl ?_
    rintro _ _ ⟨rfl, hA_⟩
    replace hA_ := hA_.symm; subst hA_
    refine RunL.as rfl rfl ?_
    refine RunL.nil ?_
    exact Run.ret Try.func8 (res1 rfl rfl) (by exact ⟨rfl, rfl⟩) (by repeat (first | (with_reducible exact Fin.done (by repeat (first | (with_reducible exact Rest.here) | apply Rest.there))) | (apply Fin.cons (by first | ((repeat (first | (with_reducible exact Find.here _) | apply Find.there)); done) | (repeat (first | exact Find.here _ | apply Find.there))))))

end Go.Proofs.Ytnmpbpadpkgboaa
