/- What is asked. -/
import Derived.Test.YtppamndllgojnaaH11
set_option linter.unusedVariables false
set_option linter.unusedSimpArgs false
set_option linter.unusedSectionVars false
namespace Go.Proofs.Ytppamndllgojnaa
open Go Csl
theorem und4 : Try.prog.underlying 4 = some Go.TypeDesc.bool := Try.underlying4

namespace Csl
theorem okFew {o : OO} (h : okOO o) : okOO (fewO o) := ⟨h.1, h.2.1, by have := cut_size o.key 4; simp only [fewO]; omega⟩
end Csl

set_option maxHeartbeats 8000000 in
set_option maxRecDepth 100000 in
theorem HeapAsks_ctr {G : Gp} {a : Option Addr} {l : List OO} {cap : Nat} (h : SlR G 31 3 a l.length (l.flatMap cOO)) (hok : ∀ o ∈ l, okOO o) (hb : l.length ≤ 9223372036854775807) {key : ByteArray} :
    Ctr Try.prog G 4 [.slice a l.length cap, .string key] [] (fun F v A => v = .bool true ∧ A = F) := by
  refine Ctr.intro Try.func4 rfl (by kernel_rfl) rfl (fun F => ?_)
  simp only [List.nil_append]
  refine Run.sr ?_
  refine RunL.as rfl rfl ?_
  refine RunL.nil ?_
  refine Run.sr ?_
  refine RunL.call rfl rfl (by rfl) (by repeat (first | (with_reducible exact Take.nil _) | (apply Take.cons (by first | ((repeat (first | (with_reducible exact Find.here _) | apply Find.there)); done) | (repeat (first | exact Find.here _ | apply Find.there)))))) (HNew_ctr) (Wt.none rfl) rfl ?_
  rintro _ _ ⟨p, rfl, hA_⟩
  replace hA_ := hA_.symm; subst hA_
  refine RunL.as rfl rfl ?_
  refine RunL.nil ?_
  refine Run.seq ?_
  refine Run.sr ?_
  refine RunL.mv rfl rfl ?_
  refine RunL.pure (Pure.ptrEqNil rfl rfl und24) (Wt.none rfl) rfl rfl ?_
  refine RunL.nil ?_
  refine Run.condF rfl ?_
  refine Run.skip ?_
  refine Run.sr ?_
  refine RunL.pure (Pure.buildL (ps := []) (zs := [(.slice none 0 0)]) (xs := [_]) pl29 rfl rfl rfl rfl) (Wt.none rfl) rfl rfl ?_
  refine RunL.box rfl (Wt.none rfl) rfl ?_; intro b20
  refine RunL.as rfl rfl ?_
  refine RunL.nil ?_
  refine Run.nilSl 36 2 ?_
  refine Run.mkR (q := b20) (a := none) (cap := 0) (n := 0) (cs := []) [] (by repeat (first | (with_reducible exact Take.nil _) | (apply Take.cons (by first | ((repeat (first | (with_reducible exact Find.here _) | apply Find.there)); done) | (repeat (first | exact Find.here _ | apply Find.there)))))) rfl rfl ?_
  refine Run.seq ?_
  refine Run.sr ?_
  refine RunL.as rfl rfl ?_
  refine RunL.nil ?_
  refine Run.block ?_
  refine Run.keep (.cons rfl (.cons rfl (.cons rfl (.cons rfl (.cons rfl (.nil))))) : Keep _ [0, 1, 5, 6, 7] _) ?_
  refine Run.loopF (F := F) (fun n e A => ∃ (i : Nat) (tl : List (ByteArray × Int)), i ≤ 16 ∧ KN tl ∧ tl.length ≤ i ∧ n = 16 - i ∧ e = [(0, .slice a l.length cap), (1, .string key), (5, .pointer (some ⟨p, 0, none⟩)), (6, .pointer (some ⟨b20, 0, none⟩)), (7, .int .i64 (i : Nat))] ∧ A = Hq p tl :: RH b20 tl :: F) (16) (by exact ⟨0, [], by omega, List.nodup_nil, by simp, rfl, rfl, rfl⟩) (by repeat (first | (with_reducible exact Fin.done (by repeat (first | (with_reducible exact Rest.here) | apply Rest.there))) | (apply Fin.cons (by first | ((repeat (first | (with_reducible exact Find.here _) | apply Find.there)); done) | (repeat (first | exact Find.here _ | apply Find.there)))))) ?_
  rintro n _ _ ⟨i, tl, hi, hkn, hln, rfl, rfl, hA_⟩ ih
  replace hA_ := hA_.symm; subst hA_
  refine Run.seq ?_
  refine Run.sr ?_
  refine RunL.mv rfl rfl ?_
  refine RunL.mv rfl rfl ?_
  refine RunL.pure (Pure.lenSl rfl rfl und22) (Wt.none rfl) rfl rfl ?_
  refine RunL.pure (Pure.lss rfl rfl) (Wt.none rfl) rfl rfl ?_
  refine RunL.mv rfl rfl ?_
  refine RunL.split (d := 25) rfl (fun h1 => ?_) (fun h1 => ?_)
  · try simp only [decide_eq_true_eq, decide_eq_false_iff_not, beq_iff_eq, beq_eq_false_iff_ne, bne_iff_ne, ne_eq, Bool.not_eq_true', Bool.not_eq_false', Bool.not_eq_true, Bool.not_eq_false, Int.not_lt, Int.not_le, Decidable.not_not, bne_eq_false_iff_eq, gt_iff_lt, ge_iff_le, Bool.or_eq_true, Bool.and_eq_true] at h1
    refine RunL.pure (Pure.move rfl) (Wt.yes rfl rfl rfl) rfl rfl ?_
    refine RunL.pure (Pure.lss rfl rfl) (Wt.yes rfl rfl rfl) rfl rfl ?_
    refine RunL.pure (Pure.pickT rfl rfl) (Wt.none rfl) rfl rfl ?_
    refine RunL.nil ?_
    refine Run.cond rfl (fun h2 => ?_) (fun h2 => ?_)
    · try simp only [decide_eq_true_eq, decide_eq_false_iff_not, beq_iff_eq, beq_eq_false_iff_ne, bne_iff_ne, ne_eq, Bool.not_eq_true', Bool.not_eq_false', Bool.not_eq_true, Bool.not_eq_false, Int.not_lt, Int.not_le, Decidable.not_not, bne_eq_false_iff_eq, gt_iff_lt, ge_iff_le, Bool.or_eq_true, Bool.and_eq_true] at h2
      obtain ⟨b, T', pre, post, rfl, hro⟩ := h.open1 (show 0 < l.length by omega)
      obtain ⟨o, ho⟩ := get_some (xs := l) (i := i) (by omega)
      have hoo := hok o (List.mem_of_getElem? ho)
      have hof := okFew hoo
      obtain ⟨hk2, hl2⟩ := doT_ok hkn (fewO o)
      refine Run.skip ?_
      refine Run.seq ?_
      refine Run.block ?_
      refine Run.sr ?_
      refine RunL.mv rfl rfl ?_
      refine RunL.mv rfl rfl ?_
      refine RunL.mv rfl rfl ?_
      refine RunL.pure (Pure.indexAddr rfl rfl und22 sz31 (by omega) (by omega)) (Wt.none rfl) rfl rfl ?_
      refine RunL.loadNR (vs := (cOO o)) rfl hro agg31 sz31 (elemN_len (f := cOO) (sz := 3) (j := 0) (n := 3) (fun _ _ => rfl) ho (by decide)) ((elemN_at (f := cOO) (sz := 3) (j := 0) (n := 3) (fun _ _ => rfl) ho (by decide)).trans rfl) (Wt.none rfl) rfl ?_
      refine RunL.call rfl rfl (by rfl) (by repeat (first | (with_reducible exact Take.nil _) | (apply Take.cons (by first | ((repeat (first | (with_reducible exact Find.here _) | apply Find.there)); done) | (repeat (first | exact Find.here _ | apply Find.there)))))) (few_ctr) (Wt.none rfl) rfl ?_
      rintro _ _ ⟨rfl, hA_⟩
      replace hA_ := hA_.symm; subst hA_
      refine RunL.call rfl rfl (by rfl) (by repeat (first | (with_reducible exact Take.nil _) | (apply Take.cons (by first | ((repeat (first | (with_reducible exact Find.here _) | apply Find.there)); done) | (repeat (first | exact Find.here _ | apply Find.there)))))) (do_ctr hof hkn (by omega)) (Wt.none rfl) rfl ?_
      rintro _ _ ⟨ad, cd, rfl, hA_⟩
      replace hA_ := hA_.symm; subst hA_
      refine RunL.nil ?_
      refine Run.region ?_
      refine RunL.mv rfl rfl ?_
      refine RunL.mv rfl rfl ?_
      refine RunL.mv rfl rfl ?_
      refine RunL.pure (Pure.indexAddr rfl rfl und22 sz31 (by omega) (by omega)) (Wt.none rfl) rfl rfl ?_
      refine RunL.loadNR (vs := (cOO o)) rfl hro agg31 sz31 (elemN_len (f := cOO) (sz := 3) (j := 0) (n := 3) (fun _ _ => rfl) ho (by decide)) ((elemN_at (f := cOO) (sz := 3) (j := 0) (n := 3) (fun _ _ => rfl) ho (by decide)).trans rfl) (Wt.none rfl) rfl ?_
      refine RunL.call rfl rfl (by rfl) (by repeat (first | (with_reducible exact Take.nil _) | (apply Take.cons (by first | ((repeat (first | (with_reducible exact Find.here _) | apply Find.there)); done) | (repeat (first | exact Find.here _ | apply Find.there)))))) (few_ctr) (Wt.none rfl) rfl ?_
      rintro _ _ ⟨rfl, hA_⟩
      replace hA_ := hA_.symm; subst hA_
      refine RunL.call rfl rfl (by rfl) (by repeat (first | (with_reducible exact Take.nil _) | (apply Take.cons (by first | ((repeat (first | (with_reducible exact Find.here _) | apply Find.there)); done) | (repeat (first | exact Find.here _ | apply Find.there)))))) (rDo_ctr hof hkn (by omega)) (Wt.none rfl) rfl ?_
      rintro _ _ ⟨ad2, cd2, rfl, hA_⟩
      replace hA_ := hA_.symm; subst hA_
      refine RunL.nil ?_
      refine Run.inBlock ?_
      refine Run.region ?_
      refine RunL.mv rfl rfl ?_
      first | refine RunL.pure (Pure.addI rfl rfl (by omega)) (Wt.none rfl) rfl rfl ?_ | refine RunL.pure (Pure.add rfl rfl) (Wt.none rfl) rfl rfl ?_
      refine RunL.as rfl rfl ?_
      refine RunL.nil ?_
      refine Run.keep (.cons rfl (.cons rfl (.cons rfl (.cons rfl (.cons rfl (.nil))))) : Keep _ [0, 1, 5, 6, 7] _) ?_
      refine Run.againF (F := F) ih (by exact ⟨i + 1, doT tl (fewO o), by omega, hk2, by omega, rfl, rfl, rfl⟩) (by repeat (first | (with_reducible exact Fin.done (by repeat (first | (with_reducible exact Rest.here) | apply Rest.there))) | (apply Fin.cons (by first | ((repeat (first | (with_reducible exact Find.here _) | apply Find.there)); done) | (repeat (first | exact Find.here _ | apply Find.there)))))) ?_
      omega
    · try simp only [decide_eq_true_eq, decide_eq_false_iff_not, beq_iff_eq, beq_eq_false_iff_ne, bne_iff_ne, ne_eq, Bool.not_eq_true', Bool.not_eq_false', Bool.not_eq_true, Bool.not_eq_false, Int.not_lt, Int.not_le, Decidable.not_not, bne_eq_false_iff_eq, gt_iff_lt, ge_iff_le, Bool.or_eq_true, Bool.and_eq_true] at h2
      refine Run.exit rfl ?_
      refine Run.sr ?_
      refine RunL.mv rfl rfl ?_
      refine RunL.call rfl rfl (by rfl) (by repeat (first | (with_reducible exact Take.nil _) | (apply Take.cons (by first | ((repeat (first | (with_reducible exact Find.here _) | apply Find.there)); done) | (repeat (first | exact Find.here _ | apply Find.there)))))) (FewC_ctr (m := 4) (by decide) (by decide)) (Wt.none rfl) rfl ?_
      rintro _ _ ⟨rfl, hA_⟩
      replace hA_ := hA_.symm; subst hA_
      refine RunL.lit (vals := [_]) (vs := ([cut key 4] : List ByteArray).map Value.string) und34 sz9 zz9 rfl rfl rfl rfl rfl rfl (by simp [Value.cells, cE, cOO]) rfl (Wt.none rfl) rfl ?_; intro b47
      have hEl := EL_len tl
      refine RunL.as rfl rfl ?_
      refine RunL.nil ?_
      refine Run.openR (q := b20) (by first | ((repeat (first | (with_reducible exact Find.here _) | apply Find.there)); done) | (repeat (first | exact Find.here _ | apply Find.there))) ?_; intro ar capr
      refine Run.seq ?_
      refine Run.sr ?_
      refine RunL.mv rfl rfl ?_
      refine RunL.pure (Pure.nilCheck rfl) (Wt.none rfl) rfl rfl ?_
      refine RunL.pure (Pure.fieldAddr rfl fo29_0) (Wt.none rfl) rfl rfl ?_
      first | refine RunL.load1 rfl (by first | ((repeat (first | (with_reducible exact Find.here _) | apply Find.there)); done) | (repeat (first | exact Find.here _ | apply Find.there))) (by rfl) agg27 (Wt.none rfl) rfl ?_ | refine RunL.load1R rfl (by assumption) (by rfl) agg27 (Wt.none rfl) rfl ?_
      refine RunL.pure (Pure.lenSl rfl rfl und27) (Wt.none rfl) rfl rfl ?_
      refine RunL.pure (Pure.gtr rfl rfl) (Wt.none rfl) rfl rfl ?_
      refine RunL.nil ?_
      refine Run.cut (fun e A => ∃ (xs : List ByteArray) (aK : Option Addr) (cK_ : Nat), xs.length ≤ 2 ∧ e = [(5, .pointer (some ⟨p, 0, none⟩)), (6, .pointer (some ⟨b20, 0, none⟩)), (8, .slice aK xs.length cK_)] ∧ A = Sl 9 1 aK xs.length cK_ (xs.map Value.string) :: Hq p tl :: RH b20 tl :: F) (fun e A hM => ?_) (fun hk => ?_)
      · obtain ⟨xs, aK, cK_, hx2, rfl, hA_⟩ := hM
        replace hA_ := hA_.symm; subst hA_
        rcases hz : (EL tl)[0]? with _ | x
        · skip
          refine Run.sr ?_
          refine RunL.mv rfl rfl ?_
          refine RunL.call rfl rfl (by rfl) (by repeat (first | (with_reducible exact Take.nil _) | (apply Take.cons (by first | ((repeat (first | (with_reducible exact Find.here _) | apply Find.there)); done) | (repeat (first | exact Find.here _ | apply Find.there)))))) (HFirst_ctr (tl := tl)) (Wt.none rfl) rfl ?_
          rintro _ _ ⟨rfl, hA_⟩
          replace hA_ := hA_.symm; subst hA_
          rw [hz]
          have hlz : (EL tl).length = 0 := by rcases Nat.eq_zero_or_pos (EL tl).length with q | q; exact q; obtain ⟨y, hy⟩ := get_some (xs := EL tl) (i := 0) q; rw [hz] at hy; cases hy
          refine RunL.mv rfl rfl ?_
          refine RunL.pure (Pure.extract rfl rfl) (Wt.none rfl) rfl rfl ?_
          refine RunL.pure (Pure.extract rfl rfl) (Wt.none rfl) rfl rfl ?_
          refine RunL.alloc zz45 (Wt.none rfl) rfl ?_; intro b9
          refine RunL.storeW (xs := (cE noE)) rfl rfl (by first | ((repeat (first | (with_reducible exact Find.here _) | apply Find.there)); done) | (repeat (first | exact Find.here _ | apply Find.there))) sz45 (by rfl) (by rfl) (by rfl) (Wt.none rfl) ?_
          refine RunL.as rfl rfl ?_
          refine RunL.nil ?_
          refine Run.openR (q := b20) (by first | ((repeat (first | (with_reducible exact Find.here _) | apply Find.there)); done) | (repeat (first | exact Find.here _ | apply Find.there))) ?_; intro ar capr
          refine Run.seq ?_
          refine Run.seq ?_
          refine Run.regionD' (by kernel_rfl) (by kernel_rfl) (fun hok133 => ?_)
          refine RunD.lend (Q := row b9 45 _) Lends.row (by first | ((repeat (first | (with_reducible exact Find.here _) | apply Find.there)); done) | (repeat (first | exact Find.here _ | apply Find.there))) ?_; intro gl1 hlegl1 hl1 backgl1
          have h_gl1 := h.mono hlegl1
          refine RunD.lend (Q := row b20 29 _) Lends.row (by first | ((repeat (first | (with_reducible exact Find.here _) | apply Find.there)); done) | (repeat (first | exact Find.here _ | apply Find.there))) ?_; intro g1 hleg1 hg1 backg1
          try (replace hl1 := hl1.mono hleg1)
          have h_g1 := h_gl1.mono hleg1
          refine RunD.pure (i := 0) hok133 rfl (by kernel_rfl) (Pure.move rfl) (Wt.none rfl) rfl rfl ?_
          refine RunD.pure (i := 1) hok133 rfl (by kernel_rfl) (Pure.move rfl) (Wt.none rfl) rfl rfl ?_
          refine RunD.pure (i := 2) hok133 rfl (by kernel_rfl) (Pure.nilCheck rfl) (Wt.none rfl) rfl rfl ?_
          refine RunD.pure (i := 3) hok133 rfl (by kernel_rfl) (Pure.fieldAddr rfl fo29_0) (Wt.none rfl) rfl rfl ?_
          refine RunD.load1R (i := 4) hok133 rfl (by kernel_rfl) rfl (by assumption) (by rfl) agg27 (Wt.none rfl) rfl ?_
          refine RunD.pure (i := 5) hok133 rfl (by kernel_rfl) (Pure.lenSl rfl rfl und27) (Wt.none rfl) rfl rfl ?_
          refine RunD.pure (i := 6) hok133 rfl (by kernel_rfl) (Pure.gtr rfl rfl) (Wt.none rfl) rfl rfl ?_
          refine RunD.pure (i := 7) hok133 rfl (by kernel_rfl) (Pure.bneq rfl rfl und4) (Wt.none rfl) rfl rfl ?_
          refine RunD.pure (i := 8) hok133 rfl (by kernel_rfl) (Pure.move rfl) (Wt.none rfl) rfl rfl ?_
          refine RunD.split (d := 83) rfl (fun hg1 => ?_) (fun hg1 => ?_)
          · try simp only [decide_eq_true_eq, decide_eq_false_iff_not, beq_iff_eq, beq_eq_false_iff_ne, bne_iff_ne, ne_eq, Bool.not_eq_true', Bool.not_eq_false', Bool.not_eq_true, Bool.not_eq_false, Int.not_lt, Int.not_le, Decidable.not_not, bne_eq_false_iff_eq, gt_iff_lt, ge_iff_le, Bool.or_eq_true, Bool.and_eq_true] at hg1
            exfalso; first | (simp at hg1; omega) | (simp at hg1; rw [hg1] at hlz; simp at hlz) | (apply hg1; simp; done) | (apply hg1; simp; omega) | (simp at hg1; apply hg1; apply List.length_eq_zero_iff.1; omega) | (simp at hg1; apply hg1; intro q; rw [q] at hlz; simp at hlz)
          try simp only [decide_eq_true_eq, decide_eq_false_iff_not, beq_iff_eq, beq_eq_false_iff_ne, bne_iff_ne, ne_eq, Bool.not_eq_true', Bool.not_eq_false', Bool.not_eq_true, Bool.not_eq_false, Int.not_lt, Int.not_le, Decidable.not_not, bne_eq_false_iff_eq, gt_iff_lt, ge_iff_le, Bool.or_eq_true, Bool.and_eq_true] at hg1
          refine RunD.pure (i := 9) hok133 rfl (by kernel_rfl) (Pure.move rfl) (Wt.yes rfl rfl rfl) rfl rfl ?_
          refine RunD.pure (i := 10) hok133 rfl (by kernel_rfl) (Pure.move rfl) (Wt.yes rfl rfl rfl) rfl rfl ?_
          refine RunD.split (d := 85) rfl (fun hg2 => ?_) (fun hg2 => ?_)
          · try simp only [decide_eq_true_eq, decide_eq_false_iff_not, beq_iff_eq, beq_eq_false_iff_ne, bne_iff_ne, ne_eq, Bool.not_eq_true', Bool.not_eq_false', Bool.not_eq_true, Bool.not_eq_false, Int.not_lt, Int.not_le, Decidable.not_not, bne_eq_false_iff_eq, gt_iff_lt, ge_iff_le, Bool.or_eq_true, Bool.and_eq_true] at hg2
            exfalso; simp at hg2
          try simp only [decide_eq_true_eq, decide_eq_false_iff_not, beq_iff_eq, beq_eq_false_iff_ne, bne_iff_ne, ne_eq, Bool.not_eq_true', Bool.not_eq_false', Bool.not_eq_true, Bool.not_eq_false, Int.not_lt, Int.not_le, Decidable.not_not, bne_eq_false_iff_eq, gt_iff_lt, ge_iff_le, Bool.or_eq_true, Bool.and_eq_true] at hg2
          refine RunD.not (i := 11) hok133 rfl (by kernel_rfl) rfl rfl (Wt.no rfl rfl rfl) ?_
          refine RunD.not (i := 12) hok133 rfl (by kernel_rfl) rfl rfl (Wt.no rfl rfl rfl) ?_
          refine RunD.not (i := 13) hok133 rfl (by kernel_rfl) rfl rfl (Wt.no rfl rfl rfl) ?_
          refine RunD.not (i := 14) hok133 rfl (by kernel_rfl) rfl rfl (Wt.no rfl rfl rfl) ?_
          refine RunD.not (i := 15) hok133 rfl (by kernel_rfl) rfl rfl (Wt.no rfl rfl rfl) ?_
          refine RunD.not (i := 16) hok133 rfl (by kernel_rfl) rfl rfl (Wt.no rfl rfl rfl) ?_
          refine RunD.not (i := 17) hok133 rfl (by kernel_rfl) rfl rfl (Wt.no rfl rfl rfl) ?_
          refine RunD.not (i := 18) hok133 rfl (by kernel_rfl) rfl rfl (Wt.no rfl rfl rfl) ?_
          refine RunD.pure (i := 19) hok133 rfl (by kernel_rfl) (Pure.pickF rfl rfl) (Wt.yes rfl rfl rfl) rfl rfl ?_
          refine RunD.pure (i := 20) hok133 rfl (by kernel_rfl) (Pure.pickF rfl rfl) (Wt.none rfl) rfl rfl ?_
          refine RunD.pure (i := 21) hok133 rfl (by kernel_rfl) (Pure.move rfl) (Wt.none rfl) rfl rfl ?_
          refine RunD.pure (i := 22) hok133 rfl (by kernel_rfl) (Pure.move rfl) (Wt.yes rfl rfl rfl) rfl rfl ?_
          refine RunD.pure (i := 23) hok133 rfl (by kernel_rfl) (Pure.not rfl) (Wt.yes rfl rfl rfl) rfl rfl ?_
          refine RunD.pure (i := 24) hok133 rfl (by kernel_rfl) (Pure.move rfl) (Wt.yes rfl rfl rfl) rfl rfl ?_
          refine RunD.split (d := 99) rfl (fun hg3 => ?_) (fun hg3 => ?_)
          rotate_left
          · try simp only [decide_eq_true_eq, decide_eq_false_iff_not, beq_iff_eq, beq_eq_false_iff_ne, bne_iff_ne, ne_eq, Bool.not_eq_true', Bool.not_eq_false', Bool.not_eq_true, Bool.not_eq_false, Int.not_lt, Int.not_le, Decidable.not_not, bne_eq_false_iff_eq, gt_iff_lt, ge_iff_le, Bool.or_eq_true, Bool.and_eq_true] at hg3
            exfalso; simp at hg3
          try simp only [decide_eq_true_eq, decide_eq_false_iff_not, beq_iff_eq, beq_eq_false_iff_ne, bne_iff_ne, ne_eq, Bool.not_eq_true', Bool.not_eq_false', Bool.not_eq_true, Bool.not_eq_false, Int.not_lt, Int.not_le, Decidable.not_not, bne_eq_false_iff_eq, gt_iff_lt, ge_iff_le, Bool.or_eq_true, Bool.and_eq_true] at hg3
          refine RunD.loadNR (vs := (cE noE)) (i := 25) hok133 rfl (by kernel_rfl) rfl (by assumption) agg45 sz45 (by first | exact Nat.le_of_ble_eq_true rfl | (simp; done) | (simp; omega)) rfl (Wt.yes rfl rfl rfl) rfl ?_
          refine RunD.pure (i := 26) hok133 rfl (by kernel_rfl) (Pure.buildL (ps := []) (zs := [(.int .i64 0), (.string .empty)]) (xs := (cE noE)) pl45 rfl rfl rfl rfl) (Wt.yes rfl rfl rfl) rfl rfl ?_
          refine RunD.pure (i := 27) hok133 rfl (by kernel_rfl) (Pure.aneq rfl rfl eqg45 (eqv45 (noE) (noE)) (by decide)) (Wt.yes rfl rfl rfl) rfl rfl ?_
          refine RunD.pure (i := 28) hok133 rfl (by kernel_rfl) (Pure.pickT rfl rfl) (Wt.yes rfl rfl rfl) rfl rfl ?_
          refine RunD.pure (i := 29) hok133 rfl (by kernel_rfl) (Pure.pickF rfl rfl) (Wt.none rfl) rfl rfl ?_
          refine RunD.nilB (by kernel_rfl) (fun w sw => backgl1 _ _ (backg1 _ _ (sw))) ?_
          refine Run.cond rfl (fun hc4 => ?_) (fun hc4 => ?_)
          · try simp only [decide_eq_true_eq, decide_eq_false_iff_not, beq_iff_eq, beq_eq_false_iff_ne, bne_iff_ne, ne_eq, Bool.not_eq_true', Bool.not_eq_false', Bool.not_eq_true, Bool.not_eq_false, Int.not_lt, Int.not_le, Decidable.not_not, bne_eq_false_iff_eq, gt_iff_lt, ge_iff_le, Bool.or_eq_true, Bool.and_eq_true] at hc4
            exfalso; simp at hc4
          try simp only [decide_eq_true_eq, decide_eq_false_iff_not, beq_iff_eq, beq_eq_false_iff_ne, bne_iff_ne, ne_eq, Bool.not_eq_true', Bool.not_eq_false', Bool.not_eq_true, Bool.not_eq_false, Int.not_lt, Int.not_le, Decidable.not_not, bne_eq_false_iff_eq, gt_iff_lt, ge_iff_le, Bool.or_eq_true, Bool.and_eq_true] at hc4
          refine Run.skip ?_
          refine Run.mkR (q := b20) (tl) (by repeat (first | (with_reducible exact Take.nil _) | (apply Take.cons (by first | ((repeat (first | (with_reducible exact Find.here _) | apply Find.there)); done) | (repeat (first | exact Find.here _ | apply Find.there)))))) (rfl) (rfl) ?_
          refine Run.lendAll (Q := Sl 9 1 aK xs.length cK_ (xs.map Value.string)) Lends.Sl (by first | ((repeat (first | (with_reducible exact Find.here _) | apply Find.there)); done) | (repeat (first | exact Find.here _ | apply Find.there))) (fun GhK hleGhK hK => ?_)
          replace h := h.mono hleGhK
          obtain ⟨hK, hKc⟩ := hK
          refine Run.seq ?_
          refine Run.sr ?_
          refine RunL.as rfl rfl ?_
          refine RunL.nil ?_
          refine Run.block ?_
          refine Run.keep (.cons rfl (.cons rfl (.cons rfl (.cons rfl (.nil)))) : Keep _ [5, 6, 8, 11] _) ?_
          refine Run.loopF (F := F) (fun n e A => ∃ (i : Nat) (tl : List (ByteArray × Int)), i ≤ xs.length ∧ KN tl ∧ tl.length ≤ 17 ∧ n = xs.length - i ∧ e = [(5, .pointer (some ⟨p, 0, none⟩)), (6, .pointer (some ⟨b20, 0, none⟩)), (8, .slice aK xs.length cK_), (11, .int .i64 (i : Nat))] ∧ A = Hq p tl :: RH b20 tl :: F) (xs.length) (by exact ⟨0, tl, by omega, hkn, by omega, rfl, rfl, rfl⟩) (by repeat (first | (with_reducible exact Fin.done (by repeat (first | (with_reducible exact Rest.here) | apply Rest.there))) | (apply Fin.cons (by first | ((repeat (first | (with_reducible exact Find.here _) | apply Find.there)); done) | (repeat (first | exact Find.here _ | apply Find.there)))))) ?_
          rintro n _ _ ⟨i, tl, hi, hkn, hln, rfl, rfl, hA_⟩ ih
          replace hA_ := hA_.symm; subst hA_
          refine Run.seq ?_
          refine Run.sr ?_
          refine RunL.mv rfl rfl ?_
          refine RunL.mv rfl rfl ?_
          refine RunL.pure (Pure.lenSl rfl rfl und34) (Wt.none rfl) rfl rfl ?_
          refine RunL.pure (Pure.lss rfl rfl) (Wt.none rfl) rfl rfl ?_
          refine RunL.nil ?_
          refine Run.cond rfl (fun h7 => ?_) (fun h7 => ?_)
          · try simp only [decide_eq_true_eq, decide_eq_false_iff_not, beq_iff_eq, beq_eq_false_iff_ne, bne_iff_ne, ne_eq, Bool.not_eq_true', Bool.not_eq_false', Bool.not_eq_true, Bool.not_eq_false, Int.not_lt, Int.not_le, Decidable.not_not, bne_eq_false_iff_eq, gt_iff_lt, ge_iff_le, Bool.or_eq_true, Bool.and_eq_true] at h7
            obtain ⟨b3, T3, pre3, post3, rfl, hro3⟩ := hK.open1 (show 0 < xs.length by omega)
            obtain ⟨k, hk⟩ := get_some (xs := xs) (i := i) (by omega)
            have hdl := mdel_len_le (tl := tl) (k := k)
            have hEl := EL_len (mdel k tl)
            refine Run.skip ?_
            refine Run.seq ?_
            refine Run.block ?_
            refine Run.sr ?_
            refine RunL.mv rfl rfl ?_
            refine RunL.mv rfl rfl ?_
            refine RunL.mv rfl rfl ?_
            refine RunL.pure (Pure.indexAddr rfl rfl und34 sz9 (by omega) (by omega)) (Wt.none rfl) rfl rfl ?_
            refine RunL.load1R rfl hro3 (elem1_at hk) agg9 (Wt.none rfl) rfl ?_
            refine RunL.call rfl rfl (by rfl) (by repeat (first | (with_reducible exact Take.nil _) | (apply Take.cons (by first | ((repeat (first | (with_reducible exact Find.here _) | apply Find.there)); done) | (repeat (first | exact Find.here _ | apply Find.there)))))) (HAt_ctr) (Wt.none rfl) rfl ?_
            rintro _ _ ⟨rfl, hA_⟩
            replace hA_ := hA_.symm; subst hA_
            refine RunL.mv rfl rfl ?_
            refine RunL.pure (Pure.extract rfl rfl) (Wt.none rfl) rfl rfl ?_
            refine RunL.pure (Pure.extract rfl rfl) (Wt.none rfl) rfl rfl ?_
            refine RunL.as rfl rfl ?_
            refine RunL.as rfl rfl ?_
            refine RunL.nil ?_
            refine Run.sr ?_
            refine RunL.mv rfl rfl ?_
            refine RunL.mv rfl rfl ?_
            refine RunL.mv rfl rfl ?_
            refine RunL.pure (Pure.indexAddr rfl rfl und34 sz9 (by omega) (by omega)) (Wt.none rfl) rfl rfl ?_
            refine RunL.load1R rfl hro3 (elem1_at hk) agg9 (Wt.none rfl) rfl ?_
            refine RunL.call rfl rfl (by rfl) (by repeat (first | (with_reducible exact Take.nil _) | (apply Take.cons (by first | ((repeat (first | (with_reducible exact Find.here _) | apply Find.there)); done) | (repeat (first | exact Find.here _ | apply Find.there)))))) (rAt_ctr (by assumption) (by omega)) (Wt.none rfl) rfl ?_
            rintro _ _ ⟨rfl, hA_⟩
            replace hA_ := hA_.symm; subst hA_
            refine RunL.mv rfl rfl ?_
            refine RunL.pure (Pure.extract rfl rfl) (Wt.none rfl) rfl rfl ?_
            refine RunL.pure (Pure.extract rfl rfl) (Wt.none rfl) rfl rfl ?_
            refine RunL.as rfl rfl ?_
            refine RunL.as rfl rfl ?_
            refine RunL.nil ?_
            refine Run.seq ?_
            refine Run.regionD' (by kernel_rfl) (by kernel_rfl) (fun hok248 => ?_)
            refine RunD.pure (i := 0) hok248 rfl (by kernel_rfl) (Pure.move rfl) (Wt.none rfl) rfl rfl ?_
            refine RunD.pure (i := 1) hok248 rfl (by kernel_rfl) (Pure.move rfl) (Wt.none rfl) rfl rfl ?_
            refine RunD.pure (i := 2) hok248 rfl (by kernel_rfl) (Pure.neq rfl rfl) (Wt.none rfl) rfl rfl ?_
            refine RunD.pure (i := 3) hok248 rfl (by kernel_rfl) (Pure.move rfl) (Wt.none rfl) rfl rfl ?_
            refine RunD.split (d := 132) rfl (fun hg5 => ?_) (fun hg5 => ?_)
            · try simp only [decide_eq_true_eq, decide_eq_false_iff_not, beq_iff_eq, beq_eq_false_iff_ne, bne_iff_ne, ne_eq, Bool.not_eq_true', Bool.not_eq_false', Bool.not_eq_true, Bool.not_eq_false, Int.not_lt, Int.not_le, Decidable.not_not, bne_eq_false_iff_eq, gt_iff_lt, ge_iff_le, Bool.or_eq_true, Bool.and_eq_true] at hg5
              exfalso; simp at hg5
            try simp only [decide_eq_true_eq, decide_eq_false_iff_not, beq_iff_eq, beq_eq_false_iff_ne, bne_iff_ne, ne_eq, Bool.not_eq_true', Bool.not_eq_false', Bool.not_eq_true, Bool.not_eq_false, Int.not_lt, Int.not_le, Decidable.not_not, bne_eq_false_iff_eq, gt_iff_lt, ge_iff_le, Bool.or_eq_true, Bool.and_eq_true] at hg5
            refine RunD.pure (i := 4) hok248 rfl (by kernel_rfl) (Pure.move rfl) (Wt.yes rfl rfl rfl) rfl rfl ?_
            refine RunD.pure (i := 5) hok248 rfl (by kernel_rfl) (Pure.move rfl) (Wt.yes rfl rfl rfl) rfl rfl ?_
            refine RunD.pure (i := 6) hok248 rfl (by kernel_rfl) (Pure.bneq rfl rfl und4) (Wt.yes rfl rfl rfl) rfl rfl ?_
            refine RunD.pure (i := 7) hok248 rfl (by kernel_rfl) (Pure.pickF rfl rfl) (Wt.none rfl) rfl rfl ?_
            refine RunD.pure (i := 8) hok248 rfl (by kernel_rfl) (Pure.move rfl) (Wt.none rfl) rfl rfl ?_
            refine RunD.split (d := 137) rfl (fun hg6 => ?_) (fun hg6 => ?_)
            · try simp only [decide_eq_true_eq, decide_eq_false_iff_not, beq_iff_eq, beq_eq_false_iff_ne, bne_iff_ne, ne_eq, Bool.not_eq_true', Bool.not_eq_false', Bool.not_eq_true, Bool.not_eq_false, Int.not_lt, Int.not_le, Decidable.not_not, bne_eq_false_iff_eq, gt_iff_lt, ge_iff_le, Bool.or_eq_true, Bool.and_eq_true] at hg6
              exfalso; simp at hg6
            try simp only [decide_eq_true_eq, decide_eq_false_iff_not, beq_iff_eq, beq_eq_false_iff_ne, bne_iff_ne, ne_eq, Bool.not_eq_true', Bool.not_eq_false', Bool.not_eq_true, Bool.not_eq_false, Int.not_lt, Int.not_le, Decidable.not_not, bne_eq_false_iff_eq, gt_iff_lt, ge_iff_le, Bool.or_eq_true, Bool.and_eq_true] at hg6
            refine RunD.pure (i := 9) hok248 rfl (by kernel_rfl) (Pure.move rfl) (Wt.yes rfl rfl rfl) rfl rfl ?_
            refine RunD.pure (i := 10) hok248 rfl (by kernel_rfl) (Pure.move rfl) (Wt.yes rfl rfl rfl) rfl rfl ?_
            refine RunD.pure (i := 11) hok248 rfl (by kernel_rfl) (Pure.move rfl) (Wt.yes rfl rfl rfl) rfl rfl ?_
            refine RunD.pure (i := 12) hok248 rfl (by kernel_rfl) (Pure.indexAddr rfl rfl und34 sz9 (by omega) (by omega)) (Wt.yes rfl rfl rfl) rfl rfl ?_
            refine RunD.load1R (i := 13) hok248 rfl (by kernel_rfl) rfl hro3 (elem1_at hk) agg9 (Wt.yes rfl rfl rfl) rfl ?_
            refine RunD.pure (i := 15) hok248 rfl (by kernel_rfl) (Pure.move rfl) (Wt.yes rfl rfl rfl) rfl rfl ?_
            refine RunD.pure (i := 16) hok248 rfl (by kernel_rfl) (Pure.move rfl) (Wt.yes rfl rfl rfl) rfl rfl ?_
            refine RunD.pure (i := 17) hok248 rfl (by kernel_rfl) (Pure.move rfl) (Wt.yes rfl rfl rfl) rfl rfl ?_
            refine RunD.pure (i := 18) hok248 rfl (by kernel_rfl) (Pure.indexAddr rfl rfl und34 sz9 (by omega) (by omega)) (Wt.yes rfl rfl rfl) rfl rfl ?_
            refine RunD.load1R (i := 19) hok248 rfl (by kernel_rfl) rfl hro3 (elem1_at hk) agg9 (Wt.yes rfl rfl rfl) rfl ?_
            refine RunD.one (i := 14) (by kernel_rfl) rfl ?_
            refine RunL.call rfl rfl (by rfl) (by repeat (first | (with_reducible exact Take.nil _) | (apply Take.cons (by first | ((repeat (first | (with_reducible exact Find.here _) | apply Find.there)); done) | (repeat (first | exact Find.here _ | apply Find.there)))))) (Drop_ctr (by omega)) (Wt.yes rfl rfl rfl) rfl ?_
            rintro _ _ ⟨rfl, hA_⟩
            replace hA_ := hA_.symm; subst hA_
            refine RunL.nilD' ?_
            refine RunD.one (i := 20) (by kernel_rfl) rfl ?_
            refine RunL.call rfl rfl (by rfl) (by repeat (first | (with_reducible exact Take.nil _) | (apply Take.cons (by first | ((repeat (first | (with_reducible exact Find.here _) | apply Find.there)); done) | (repeat (first | exact Find.here _ | apply Find.there)))))) (rDrop_ctr (by assumption) (by omega)) (Wt.yes rfl rfl rfl) rfl ?_
            rintro _ _ ⟨rfl, hA_⟩
            replace hA_ := hA_.symm; subst hA_
            refine RunL.nilD' ?_
            refine RunD.pure (i := 21) hok248 rfl (by kernel_rfl) (Pure.bneq rfl rfl und4) (Wt.yes rfl rfl rfl) rfl rfl ?_
            refine RunD.pure (i := 22) hok248 rfl (by kernel_rfl) (Pure.pickF rfl rfl) (Wt.none rfl) rfl rfl ?_
            refine RunD.pure (i := 23) hok248 rfl (by kernel_rfl) (Pure.move rfl) (Wt.none rfl) rfl rfl ?_
            refine RunD.split (d := 152) rfl (fun hg7 => ?_) (fun hg7 => ?_)
            · try simp only [decide_eq_true_eq, decide_eq_false_iff_not, beq_iff_eq, beq_eq_false_iff_ne, bne_iff_ne, ne_eq, Bool.not_eq_true', Bool.not_eq_false', Bool.not_eq_true, Bool.not_eq_false, Int.not_lt, Int.not_le, Decidable.not_not, bne_eq_false_iff_eq, gt_iff_lt, ge_iff_le, Bool.or_eq_true, Bool.and_eq_true] at hg7
              exfalso; simp at hg7
            try simp only [decide_eq_true_eq, decide_eq_false_iff_not, beq_iff_eq, beq_eq_false_iff_ne, bne_iff_ne, ne_eq, Bool.not_eq_true', Bool.not_eq_false', Bool.not_eq_true, Bool.not_eq_false, Int.not_lt, Int.not_le, Decidable.not_not, bne_eq_false_iff_eq, gt_iff_lt, ge_iff_le, Bool.or_eq_true, Bool.and_eq_true] at hg7
            refine RunD.pure (i := 24) hok248 rfl (by kernel_rfl) (Pure.move rfl) (Wt.yes rfl rfl rfl) rfl rfl ?_
            refine RunD.openEx (φ := fun _ : Option Addr × Nat => True) (L := fun x => [row b20 29 [.slice x.1 (EL (mdel k tl)).length x.2], Sl 36 2 x.1 (EL (mdel k tl)).length x.2 ((EL (mdel k tl)).flatMap cE)]) (by first | ((repeat (first | (with_reducible exact Find.here _) | apply Find.there)); done) | (repeat (first | exact Find.here _ | apply Find.there))) ?_; intro xr _
            refine RunD.lend (Q := row b20 29 _) Lends.row (by first | ((repeat (first | (with_reducible exact Find.here _) | apply Find.there)); done) | (repeat (first | exact Find.here _ | apply Find.there))) ?_; intro g1 hleg1 hg1 backg1
            have h_g1 := h.mono hleg1
            have hK_g1 := hK.mono hleg1
            have hro3_g1 := hro3.mono hleg1
            refine RunD.pure (i := 26) hok248 rfl (by kernel_rfl) (Pure.move rfl) (Wt.yes rfl rfl rfl) rfl rfl ?_
            refine RunD.pure (i := 27) hok248 rfl (by kernel_rfl) (Pure.nilCheck rfl) (Wt.yes rfl rfl rfl) rfl rfl ?_
            refine RunD.pure (i := 28) hok248 rfl (by kernel_rfl) (Pure.fieldAddr rfl fo29_0) (Wt.yes rfl rfl rfl) rfl rfl ?_
            refine RunD.load1R (i := 29) hok248 rfl (by kernel_rfl) rfl (by assumption) (by rfl) agg27 (Wt.yes rfl rfl rfl) rfl ?_
            refine RunD.pure (i := 30) hok248 rfl (by kernel_rfl) (Pure.lenSl rfl rfl und27) (Wt.yes rfl rfl rfl) rfl rfl ?_
            refine RunD.one (i := 25) (by kernel_rfl) rfl ?_
            refine RunL.call rfl rfl (by rfl) (by repeat (first | (with_reducible exact Take.nil _) | (apply Take.cons (by first | ((repeat (first | (with_reducible exact Find.here _) | apply Find.there)); done) | (repeat (first | exact Find.here _ | apply Find.there)))))) (HLen_ctr) (Wt.yes rfl rfl rfl) rfl ?_
            rintro _ _ ⟨rfl, hA_⟩
            replace hA_ := hA_.symm; subst hA_
            refine RunL.nilD' ?_
            refine RunD.pure (i := 31) hok248 rfl (by kernel_rfl) (Pure.neq rfl rfl) (Wt.yes rfl rfl rfl) rfl rfl ?_
            refine RunD.pure (i := 32) hok248 rfl (by kernel_rfl) (Pure.pickF rfl rfl) (Wt.none rfl) rfl rfl ?_
            refine RunD.nilB (by kernel_rfl) (fun w sw => backg1 _ _ (sw)) ?_
            refine Run.cond rfl (fun hc8 => ?_) (fun hc8 => ?_)
            · try simp only [decide_eq_true_eq, decide_eq_false_iff_not, beq_iff_eq, beq_eq_false_iff_ne, bne_iff_ne, ne_eq, Bool.not_eq_true', Bool.not_eq_false', Bool.not_eq_true, Bool.not_eq_false, Int.not_lt, Int.not_le, Decidable.not_not, bne_eq_false_iff_eq, gt_iff_lt, ge_iff_le, Bool.or_eq_true, Bool.and_eq_true] at hc8
              exfalso; apply hc8; rw [hEl]
            try simp only [decide_eq_true_eq, decide_eq_false_iff_not, beq_iff_eq, beq_eq_false_iff_ne, bne_iff_ne, ne_eq, Bool.not_eq_true', Bool.not_eq_false', Bool.not_eq_true, Bool.not_eq_false, Int.not_lt, Int.not_le, Decidable.not_not, bne_eq_false_iff_eq, gt_iff_lt, ge_iff_le, Bool.or_eq_true, Bool.and_eq_true] at hc8
            refine Run.skip ?_
            refine Run.inBlock ?_
            refine Run.region ?_
            refine RunL.mv rfl rfl ?_
            first | refine RunL.pure (Pure.addI rfl rfl (by omega)) (Wt.none rfl) rfl rfl ?_ | refine RunL.pure (Pure.add rfl rfl) (Wt.none rfl) rfl rfl ?_
            refine RunL.as rfl rfl ?_
            refine RunL.nil ?_
            refine Run.mkR (q := b20) (mdel k tl) (by repeat (first | (with_reducible exact Take.nil _) | (apply Take.cons (by first | ((repeat (first | (with_reducible exact Find.here _) | apply Find.there)); done) | (repeat (first | exact Find.here _ | apply Find.there)))))) rfl rfl ?_
            refine Run.keep (.cons rfl (.cons rfl (.cons rfl (.cons rfl (.nil)))) : Keep _ [5, 6, 8, 11] _) ?_
            refine Run.againF (F := F) ih (by exact ⟨i + 1, mdel k tl, by omega, hkn.mdel, by omega, rfl, rfl, rfl⟩) (by repeat (first | (with_reducible exact Fin.done (by repeat (first | (with_reducible exact Rest.here) | apply Rest.there))) | (apply Fin.cons (by first | ((repeat (first | (with_reducible exact Find.here _) | apply Find.there)); done) | (repeat (first | exact Find.here _ | apply Find.there)))))) ?_
            omega
          · try simp only [decide_eq_true_eq, decide_eq_false_iff_not, beq_iff_eq, beq_eq_false_iff_ne, bne_iff_ne, ne_eq, Bool.not_eq_true', Bool.not_eq_false', Bool.not_eq_true, Bool.not_eq_false, Int.not_lt, Int.not_le, Decidable.not_not, bne_eq_false_iff_eq, gt_iff_lt, ge_iff_le, Bool.or_eq_true, Bool.and_eq_true] at h7
            refine Run.exit rfl ?_
            refine Run.sr ?_
            refine RunL.call rfl rfl (by rfl) (by repeat (first | (with_reducible exact Take.nil _) | (apply Take.cons (by first | ((repeat (first | (with_reducible exact Find.here _) | apply Find.there)); done) | (repeat (first | exact Find.here _ | apply Find.there)))))) (lives_ctr) (Wt.none rfl) rfl ?_
            rintro _ _ ⟨rfl, hA_⟩
            replace hA_ := hA_.symm; subst hA_
            refine RunL.as rfl rfl ?_
            refine RunL.nil ?_
            exact Run.ret Try.func4 (res1 rfl rfl) (by exact ⟨rfl, rfl⟩) (by repeat (first | (with_reducible exact Fin.done (by repeat (first | (with_reducible exact Rest.here) | apply Rest.there))) | (apply Fin.cons (by first | ((repeat (first | (with_reducible exact Find.here _) | apply Find.there)); done) | (repeat (first | exact Find.here _ | apply Find.there))))))
        · skip
          refine Run.sr ?_
          refine RunL.mv rfl rfl ?_
          refine RunL.call rfl rfl (by rfl) (by repeat (first | (with_reducible exact Take.nil _) | (apply Take.cons (by first | ((repeat (first | (with_reducible exact Find.here _) | apply Find.there)); done) | (repeat (first | exact Find.here _ | apply Find.there)))))) (HFirst_ctr (tl := tl)) (Wt.none rfl) rfl ?_
          rintro _ _ ⟨rfl, hA_⟩
          replace hA_ := hA_.symm; subst hA_
          rw [hz]
          have hlz := (List.getElem?_eq_some_iff.1 hz).1
          refine RunL.mv rfl rfl ?_
          refine RunL.pure (Pure.extract rfl rfl) (Wt.none rfl) rfl rfl ?_
          refine RunL.pure (Pure.extract rfl rfl) (Wt.none rfl) rfl rfl ?_
          refine RunL.alloc zz45 (Wt.none rfl) rfl ?_; intro b9
          refine RunL.storeW (xs := (cE x)) rfl rfl (by first | ((repeat (first | (with_reducible exact Find.here _) | apply Find.there)); done) | (repeat (first | exact Find.here _ | apply Find.there))) sz45 (by rfl) (by rfl) (by rfl) (Wt.none rfl) ?_
          refine RunL.as rfl rfl ?_
          refine RunL.nil ?_
          refine Run.openR (q := b20) (by first | ((repeat (first | (with_reducible exact Find.here _) | apply Find.there)); done) | (repeat (first | exact Find.here _ | apply Find.there))) ?_; intro ar capr
          refine Run.openSl (a := ar) (n := (EL tl).length) (by first | ((repeat (first | (with_reducible exact Find.here _) | apply Find.there)); done) | (repeat (first | exact Find.here _ | apply Find.there))) (by omega) ?_; rintro b2 pre2 post2 rfl hsl1 hsl2 hsl3
          refine Run.seq ?_
          refine Run.seq ?_
          refine Run.regionD' (by kernel_rfl) (by kernel_rfl) (fun hok355 => ?_)
          refine RunD.lend (Q := row b9 45 _) Lends.row (by first | ((repeat (first | (with_reducible exact Find.here _) | apply Find.there)); done) | (repeat (first | exact Find.here _ | apply Find.there))) ?_; intro gl2 hlegl2 hl2 backgl2
          have h_gl2 := h.mono hlegl2
          refine RunD.lend (Q := row b20 29 _) Lends.row (by first | ((repeat (first | (with_reducible exact Find.here _) | apply Find.there)); done) | (repeat (first | exact Find.here _ | apply Find.there))) ?_; intro g1 hleg1 hg1 backg1
          try (replace hl2 := hl2.mono hleg1)
          have h_g1 := h_gl2.mono hleg1
          refine RunD.lend (Q := row b2 36 _) Lends.row (by first | ((repeat (first | (with_reducible exact Find.here _) | apply Find.there)); done) | (repeat (first | exact Find.here _ | apply Find.there))) ?_; intro g2 hleg2 hg2 backg2
          try (replace hl2 := hl2.mono hleg2)
          try (replace hg1 := hg1.mono hleg2)
          have h_g2 := h_g1.mono hleg2
          refine RunD.pure (i := 0) hok355 rfl (by kernel_rfl) (Pure.move rfl) (Wt.none rfl) rfl rfl ?_
          refine RunD.pure (i := 1) hok355 rfl (by kernel_rfl) (Pure.move rfl) (Wt.none rfl) rfl rfl ?_
          refine RunD.pure (i := 2) hok355 rfl (by kernel_rfl) (Pure.nilCheck rfl) (Wt.none rfl) rfl rfl ?_
          refine RunD.pure (i := 3) hok355 rfl (by kernel_rfl) (Pure.fieldAddr rfl fo29_0) (Wt.none rfl) rfl rfl ?_
          refine RunD.load1R (i := 4) hok355 rfl (by kernel_rfl) rfl (by assumption) (by rfl) agg27 (Wt.none rfl) rfl ?_
          refine RunD.pure (i := 5) hok355 rfl (by kernel_rfl) (Pure.lenSl rfl rfl und27) (Wt.none rfl) rfl rfl ?_
          refine RunD.pure (i := 6) hok355 rfl (by kernel_rfl) (Pure.gtr rfl rfl) (Wt.none rfl) rfl rfl ?_
          refine RunD.pure (i := 7) hok355 rfl (by kernel_rfl) (Pure.bneq rfl rfl und4) (Wt.none rfl) rfl rfl ?_
          refine RunD.pure (i := 8) hok355 rfl (by kernel_rfl) (Pure.move rfl) (Wt.none rfl) rfl rfl ?_
          refine RunD.split (d := 83) rfl (fun hg9 => ?_) (fun hg9 => ?_)
          · try simp only [decide_eq_true_eq, decide_eq_false_iff_not, beq_iff_eq, beq_eq_false_iff_ne, bne_iff_ne, ne_eq, Bool.not_eq_true', Bool.not_eq_false', Bool.not_eq_true, Bool.not_eq_false, Int.not_lt, Int.not_le, Decidable.not_not, bne_eq_false_iff_eq, gt_iff_lt, ge_iff_le, Bool.or_eq_true, Bool.and_eq_true] at hg9
            exfalso; first | (simp at hg9; omega) | (simp at hg9; rw [hg9] at hlz; simp at hlz) | (apply hg9; simp; done) | (apply hg9; simp; omega) | (simp at hg9; apply hg9; apply List.length_eq_zero_iff.1; omega) | (simp at hg9; apply hg9; intro q; rw [q] at hlz; simp at hlz)
          try simp only [decide_eq_true_eq, decide_eq_false_iff_not, beq_iff_eq, beq_eq_false_iff_ne, bne_iff_ne, ne_eq, Bool.not_eq_true', Bool.not_eq_false', Bool.not_eq_true, Bool.not_eq_false, Int.not_lt, Int.not_le, Decidable.not_not, bne_eq_false_iff_eq, gt_iff_lt, ge_iff_le, Bool.or_eq_true, Bool.and_eq_true] at hg9
          refine RunD.pure (i := 9) hok355 rfl (by kernel_rfl) (Pure.move rfl) (Wt.yes rfl rfl rfl) rfl rfl ?_
          refine RunD.pure (i := 10) hok355 rfl (by kernel_rfl) (Pure.move rfl) (Wt.yes rfl rfl rfl) rfl rfl ?_
          refine RunD.split (d := 85) rfl (fun hg10 => ?_) (fun hg10 => ?_)
          rotate_left
          · try simp only [decide_eq_true_eq, decide_eq_false_iff_not, beq_iff_eq, beq_eq_false_iff_ne, bne_iff_ne, ne_eq, Bool.not_eq_true', Bool.not_eq_false', Bool.not_eq_true, Bool.not_eq_false, Int.not_lt, Int.not_le, Decidable.not_not, bne_eq_false_iff_eq, gt_iff_lt, ge_iff_le, Bool.or_eq_true, Bool.and_eq_true] at hg10
            exfalso; simp at hg10
          try simp only [decide_eq_true_eq, decide_eq_false_iff_not, beq_iff_eq, beq_eq_false_iff_ne, bne_iff_ne, ne_eq, Bool.not_eq_true', Bool.not_eq_false', Bool.not_eq_true, Bool.not_eq_false, Int.not_lt, Int.not_le, Decidable.not_not, bne_eq_false_iff_eq, gt_iff_lt, ge_iff_le, Bool.or_eq_true, Bool.and_eq_true] at hg10
          refine RunD.loadNR (vs := (cE x)) (i := 11) hok355 rfl (by kernel_rfl) rfl (by assumption) agg45 sz45 (by first | exact Nat.le_of_ble_eq_true rfl | (simp; done) | (simp; omega)) rfl (Wt.yes rfl rfl rfl) rfl ?_
          refine RunD.pure (i := 12) hok355 rfl (by kernel_rfl) (Pure.move rfl) (Wt.yes rfl rfl rfl) rfl rfl ?_
          refine RunD.pure (i := 13) hok355 rfl (by kernel_rfl) (Pure.nilCheck rfl) (Wt.yes rfl rfl rfl) rfl rfl ?_
          refine RunD.pure (i := 14) hok355 rfl (by kernel_rfl) (Pure.fieldAddr rfl fo29_0) (Wt.yes rfl rfl rfl) rfl rfl ?_
          refine RunD.load1R (i := 15) hok355 rfl (by kernel_rfl) rfl (by assumption) (by rfl) agg27 (Wt.yes rfl rfl rfl) rfl ?_
          refine RunD.pure (i := 16) hok355 rfl (by kernel_rfl) (Pure.indexAddr rfl rfl und27 sz36 (by omega) (by omega)) (Wt.yes rfl rfl rfl) rfl rfl ?_
          refine RunD.loadNR (vs := (cE x)) (i := 17) hok355 rfl (by kernel_rfl) rfl hg2 agg36 sz36 (elemN_len (pre := pre2) (post := post2) (f := cE) (sz := 2) (j := 0) (n := 2) (fun _ _ => rfl) (show (EL tl)[(0 : Int).toNat]? = some x from hz) (by decide)) ((elemN_at (pre := pre2) (post := post2) (f := cE) (sz := 2) (j := 0) (n := 2) (fun _ _ => rfl) (show (EL tl)[(0 : Int).toNat]? = some x from hz) (by decide)).trans rfl) (Wt.yes rfl rfl rfl) rfl ?_
          refine RunD.pure (i := 18) hok355 rfl (by kernel_rfl) (Pure.aneq rfl rfl eqg36 (eqv36 (x) (x)) (by decide)) (Wt.yes rfl rfl rfl) rfl rfl ?_
          refine RunD.pure (i := 19) hok355 rfl (by kernel_rfl) (Pure.pickT rfl rfl) (Wt.yes rfl rfl rfl) rfl rfl ?_
          refine RunD.pure (i := 20) hok355 rfl (by kernel_rfl) (Pure.pickF rfl rfl) (Wt.none rfl) rfl rfl ?_
          refine RunD.pure (i := 21) hok355 rfl (by kernel_rfl) (Pure.move rfl) (Wt.none rfl) rfl rfl ?_
          refine RunD.split (d := 96) rfl (fun hg11 => ?_) (fun hg11 => ?_)
          · try simp only [decide_eq_true_eq, decide_eq_false_iff_not, beq_iff_eq, beq_eq_false_iff_ne, bne_iff_ne, ne_eq, Bool.not_eq_true', Bool.not_eq_false', Bool.not_eq_true, Bool.not_eq_false, Int.not_lt, Int.not_le, Decidable.not_not, bne_eq_false_iff_eq, gt_iff_lt, ge_iff_le, Bool.or_eq_true, Bool.and_eq_true] at hg11
            exfalso; simp at hg11
          try simp only [decide_eq_true_eq, decide_eq_false_iff_not, beq_iff_eq, beq_eq_false_iff_ne, bne_iff_ne, ne_eq, Bool.not_eq_true', Bool.not_eq_false', Bool.not_eq_true, Bool.not_eq_false, Int.not_lt, Int.not_le, Decidable.not_not, bne_eq_false_iff_eq, gt_iff_lt, ge_iff_le, Bool.or_eq_true, Bool.and_eq_true] at hg11
          refine RunD.pure (i := 22) hok355 rfl (by kernel_rfl) (Pure.move rfl) (Wt.yes rfl rfl rfl) rfl rfl ?_
          refine RunD.pure (i := 23) hok355 rfl (by kernel_rfl) (Pure.not rfl) (Wt.yes rfl rfl rfl) rfl rfl ?_
          refine RunD.pure (i := 24) hok355 rfl (by kernel_rfl) (Pure.move rfl) (Wt.yes rfl rfl rfl) rfl rfl ?_
          refine RunD.split (d := 99) rfl (fun hg12 => ?_) (fun hg12 => ?_)
          · try simp only [decide_eq_true_eq, decide_eq_false_iff_not, beq_iff_eq, beq_eq_false_iff_ne, bne_iff_ne, ne_eq, Bool.not_eq_true', Bool.not_eq_false', Bool.not_eq_true, Bool.not_eq_false, Int.not_lt, Int.not_le, Decidable.not_not, bne_eq_false_iff_eq, gt_iff_lt, ge_iff_le, Bool.or_eq_true, Bool.and_eq_true] at hg12
            exfalso; simp at hg12
          try simp only [decide_eq_true_eq, decide_eq_false_iff_not, beq_iff_eq, beq_eq_false_iff_ne, bne_iff_ne, ne_eq, Bool.not_eq_true', Bool.not_eq_false', Bool.not_eq_true, Bool.not_eq_false, Int.not_lt, Int.not_le, Decidable.not_not, bne_eq_false_iff_eq, gt_iff_lt, ge_iff_le, Bool.or_eq_true, Bool.and_eq_true] at hg12
          refine RunD.not (i := 25) hok355 rfl (by kernel_rfl) rfl rfl (Wt.no rfl rfl rfl) ?_
          refine RunD.not (i := 26) hok355 rfl (by kernel_rfl) rfl rfl (Wt.no rfl rfl rfl) ?_
          refine RunD.not (i := 27) hok355 rfl (by kernel_rfl) rfl rfl (Wt.no rfl rfl rfl) ?_
          refine RunD.pure (i := 28) hok355 rfl (by kernel_rfl) (Pure.pickF rfl rfl) (Wt.yes rfl rfl rfl) rfl rfl ?_
          refine RunD.pure (i := 29) hok355 rfl (by kernel_rfl) (Pure.pickF rfl rfl) (Wt.none rfl) rfl rfl ?_
          refine RunD.nilB (by kernel_rfl) (fun w sw => backgl2 _ _ (backg1 _ _ (backg2 _ _ (sw)))) ?_
          refine Run.condF rfl ?_
          refine Run.skip ?_
          refine Run.mkSl (b := b2) (pre := pre2) (post := post2) (sz := 2) (cs := (EL tl).flatMap cE) (n := (EL tl).length) (by first | ((repeat (first | (with_reducible exact Find.here _) | apply Find.there)); done) | (repeat (first | exact Find.here _ | apply Find.there))) hsl1 hsl2 hsl3 ?_
          refine Run.mkR (q := b20) (tl) (by repeat (first | (with_reducible exact Take.nil _) | (apply Take.cons (by first | ((repeat (first | (with_reducible exact Find.here _) | apply Find.there)); done) | (repeat (first | exact Find.here _ | apply Find.there)))))) (rfl) (rfl) ?_
          refine Run.lendAll (Q := Sl 9 1 aK xs.length cK_ (xs.map Value.string)) Lends.Sl (by first | ((repeat (first | (with_reducible exact Find.here _) | apply Find.there)); done) | (repeat (first | exact Find.here _ | apply Find.there))) (fun GhK hleGhK hK => ?_)
          replace h := h.mono hleGhK
          obtain ⟨hK, hKc⟩ := hK
          refine Run.seq ?_
          refine Run.sr ?_
          refine RunL.as rfl rfl ?_
          refine RunL.nil ?_
          refine Run.block ?_
          refine Run.keep (.cons rfl (.cons rfl (.cons rfl (.cons rfl (.nil)))) : Keep _ [5, 6, 8, 11] _) ?_
          refine Run.loopF (F := F) (fun n e A => ∃ (i : Nat) (tl : List (ByteArray × Int)), i ≤ xs.length ∧ KN tl ∧ tl.length ≤ 17 ∧ n = xs.length - i ∧ e = [(5, .pointer (some ⟨p, 0, none⟩)), (6, .pointer (some ⟨b20, 0, none⟩)), (8, .slice aK xs.length cK_), (11, .int .i64 (i : Nat))] ∧ A = Hq p tl :: RH b20 tl :: F) (xs.length) (by exact ⟨0, tl, by omega, hkn, by omega, rfl, rfl, rfl⟩) (by repeat (first | (with_reducible exact Fin.done (by repeat (first | (with_reducible exact Rest.here) | apply Rest.there))) | (apply Fin.cons (by first | ((repeat (first | (with_reducible exact Find.here _) | apply Find.there)); done) | (repeat (first | exact Find.here _ | apply Find.there)))))) ?_
          rintro n _ _ ⟨i, tl, hi, hkn, hln, rfl, rfl, hA_⟩ ih
          replace hA_ := hA_.symm; subst hA_
          refine Run.seq ?_
          refine Run.sr ?_
          refine RunL.mv rfl rfl ?_
          refine RunL.mv rfl rfl ?_
          refine RunL.pure (Pure.lenSl rfl rfl und34) (Wt.none rfl) rfl rfl ?_
          refine RunL.pure (Pure.lss rfl rfl) (Wt.none rfl) rfl rfl ?_
          refine RunL.nil ?_
          refine Run.cond rfl (fun h7 => ?_) (fun h7 => ?_)
          · try simp only [decide_eq_true_eq, decide_eq_false_iff_not, beq_iff_eq, beq_eq_false_iff_ne, bne_iff_ne, ne_eq, Bool.not_eq_true', Bool.not_eq_false', Bool.not_eq_true, Bool.not_eq_false, Int.not_lt, Int.not_le, Decidable.not_not, bne_eq_false_iff_eq, gt_iff_lt, ge_iff_le, Bool.or_eq_true, Bool.and_eq_true] at h7
            obtain ⟨b3, T3, pre3, post3, rfl, hro3⟩ := hK.open1 (show 0 < xs.length by omega)
            obtain ⟨k, hk⟩ := get_some (xs := xs) (i := i) (by omega)
            have hdl := mdel_len_le (tl := tl) (k := k)
            have hEl := EL_len (mdel k tl)
            refine Run.skip ?_
            refine Run.seq ?_
            refine Run.block ?_
            refine Run.sr ?_
            refine RunL.mv rfl rfl ?_
            refine RunL.mv rfl rfl ?_
            refine RunL.mv rfl rfl ?_
            refine RunL.pure (Pure.indexAddr rfl rfl und34 sz9 (by omega) (by omega)) (Wt.none rfl) rfl rfl ?_
            refine RunL.load1R rfl hro3 (elem1_at hk) agg9 (Wt.none rfl) rfl ?_
            refine RunL.call rfl rfl (by rfl) (by repeat (first | (with_reducible exact Take.nil _) | (apply Take.cons (by first | ((repeat (first | (with_reducible exact Find.here _) | apply Find.there)); done) | (repeat (first | exact Find.here _ | apply Find.there)))))) (HAt_ctr) (Wt.none rfl) rfl ?_
            rintro _ _ ⟨rfl, hA_⟩
            replace hA_ := hA_.symm; subst hA_
            refine RunL.mv rfl rfl ?_
            refine RunL.pure (Pure.extract rfl rfl) (Wt.none rfl) rfl rfl ?_
            refine RunL.pure (Pure.extract rfl rfl) (Wt.none rfl) rfl rfl ?_
            refine RunL.as rfl rfl ?_
            refine RunL.as rfl rfl ?_
            refine RunL.nil ?_
            refine Run.sr ?_
            refine RunL.mv rfl rfl ?_
            refine RunL.mv rfl rfl ?_
            refine RunL.mv rfl rfl ?_
            refine RunL.pure (Pure.indexAddr rfl rfl und34 sz9 (by omega) (by omega)) (Wt.none rfl) rfl rfl ?_
            refine RunL.load1R rfl hro3 (elem1_at hk) agg9 (Wt.none rfl) rfl ?_
            refine RunL.call rfl rfl (by rfl) (by repeat (first | (with_reducible exact Take.nil _) | (apply Take.cons (by first | ((repeat (first | (with_reducible exact Find.here _) | apply Find.there)); done) | (repeat (first | exact Find.here _ | apply Find.there)))))) (rAt_ctr (by assumption) (by omega)) (Wt.none rfl) rfl ?_
            rintro _ _ ⟨rfl, hA_⟩
            replace hA_ := hA_.symm; subst hA_
            refine RunL.mv rfl rfl ?_
            refine RunL.pure (Pure.extract rfl rfl) (Wt.none rfl) rfl rfl ?_
            refine RunL.pure (Pure.extract rfl rfl) (Wt.none rfl) rfl rfl ?_
            refine RunL.as rfl rfl ?_
            refine RunL.as rfl rfl ?_
            refine RunL.nil ?_
            refine Run.seq ?_
            refine Run.regionD' (by kernel_rfl) (by kernel_rfl) (fun hok476 => ?_)
            refine RunD.pure (i := 0) hok476 rfl (by kernel_rfl) (Pure.move rfl) (Wt.none rfl) rfl rfl ?_
            refine RunD.pure (i := 1) hok476 rfl (by kernel_rfl) (Pure.move rfl) (Wt.none rfl) rfl rfl ?_
            refine RunD.pure (i := 2) hok476 rfl (by kernel_rfl) (Pure.neq rfl rfl) (Wt.none rfl) rfl rfl ?_
            refine RunD.pure (i := 3) hok476 rfl (by kernel_rfl) (Pure.move rfl) (Wt.none rfl) rfl rfl ?_
            refine RunD.split (d := 132) rfl (fun hg13 => ?_) (fun hg13 => ?_)
            · try simp only [decide_eq_true_eq, decide_eq_false_iff_not, beq_iff_eq, beq_eq_false_iff_ne, bne_iff_ne, ne_eq, Bool.not_eq_true', Bool.not_eq_false', Bool.not_eq_true, Bool.not_eq_false, Int.not_lt, Int.not_le, Decidable.not_not, bne_eq_false_iff_eq, gt_iff_lt, ge_iff_le, Bool.or_eq_true, Bool.and_eq_true] at hg13
              exfalso; simp at hg13
            try simp only [decide_eq_true_eq, decide_eq_false_iff_not, beq_iff_eq, beq_eq_false_iff_ne, bne_iff_ne, ne_eq, Bool.not_eq_true', Bool.not_eq_false', Bool.not_eq_true, Bool.not_eq_false, Int.not_lt, Int.not_le, Decidable.not_not, bne_eq_false_iff_eq, gt_iff_lt, ge_iff_le, Bool.or_eq_true, Bool.and_eq_true] at hg13
            refine RunD.pure (i := 4) hok476 rfl (by kernel_rfl) (Pure.move rfl) (Wt.yes rfl rfl rfl) rfl rfl ?_
            refine RunD.pure (i := 5) hok476 rfl (by kernel_rfl) (Pure.move rfl) (Wt.yes rfl rfl rfl) rfl rfl ?_
            refine RunD.pure (i := 6) hok476 rfl (by kernel_rfl) (Pure.bneq rfl rfl und4) (Wt.yes rfl rfl rfl) rfl rfl ?_
            refine RunD.pure (i := 7) hok476 rfl (by kernel_rfl) (Pure.pickF rfl rfl) (Wt.none rfl) rfl rfl ?_
            refine RunD.pure (i := 8) hok476 rfl (by kernel_rfl) (Pure.move rfl) (Wt.none rfl) rfl rfl ?_
            refine RunD.split (d := 137) rfl (fun hg14 => ?_) (fun hg14 => ?_)
            · try simp only [decide_eq_true_eq, decide_eq_false_iff_not, beq_iff_eq, beq_eq_false_iff_ne, bne_iff_ne, ne_eq, Bool.not_eq_true', Bool.not_eq_false', Bool.not_eq_true, Bool.not_eq_false, Int.not_lt, Int.not_le, Decidable.not_not, bne_eq_false_iff_eq, gt_iff_lt, ge_iff_le, Bool.or_eq_true, Bool.and_eq_true] at hg14
              exfalso; simp at hg14
            try simp only [decide_eq_true_eq, decide_eq_false_iff_not, beq_iff_eq, beq_eq_false_iff_ne, bne_iff_ne, ne_eq, Bool.not_eq_true', Bool.not_eq_false', Bool.not_eq_true, Bool.not_eq_false, Int.not_lt, Int.not_le, Decidable.not_not, bne_eq_false_iff_eq, gt_iff_lt, ge_iff_le, Bool.or_eq_true, Bool.and_eq_true] at hg14
            refine RunD.pure (i := 9) hok476 rfl (by kernel_rfl) (Pure.move rfl) (Wt.yes rfl rfl rfl) rfl rfl ?_
            refine RunD.pure (i := 10) hok476 rfl (by kernel_rfl) (Pure.move rfl) (Wt.yes rfl rfl rfl) rfl rfl ?_
            refine RunD.pure (i := 11) hok476 rfl (by kernel_rfl) (Pure.move rfl) (Wt.yes rfl rfl rfl) rfl rfl ?_
            refine RunD.pure (i := 12) hok476 rfl (by kernel_rfl) (Pure.indexAddr rfl rfl und34 sz9 (by omega) (by omega)) (Wt.yes rfl rfl rfl) rfl rfl ?_
            refine RunD.load1R (i := 13) hok476 rfl (by kernel_rfl) rfl hro3 (elem1_at hk) agg9 (Wt.yes rfl rfl rfl) rfl ?_
            refine RunD.pure (i := 15) hok476 rfl (by kernel_rfl) (Pure.move rfl) (Wt.yes rfl rfl rfl) rfl rfl ?_
            refine RunD.pure (i := 16) hok476 rfl (by kernel_rfl) (Pure.move rfl) (Wt.yes rfl rfl rfl) rfl rfl ?_
            refine RunD.pure (i := 17) hok476 rfl (by kernel_rfl) (Pure.move rfl) (Wt.yes rfl rfl rfl) rfl rfl ?_
            refine RunD.pure (i := 18) hok476 rfl (by kernel_rfl) (Pure.indexAddr rfl rfl und34 sz9 (by omega) (by omega)) (Wt.yes rfl rfl rfl) rfl rfl ?_
            refine RunD.load1R (i := 19) hok476 rfl (by kernel_rfl) rfl hro3 (elem1_at hk) agg9 (Wt.yes rfl rfl rfl) rfl ?_
            refine RunD.one (i := 14) (by kernel_rfl) rfl ?_
            refine RunL.call rfl rfl (by rfl) (by repeat (first | (with_reducible exact Take.nil _) | (apply Take.cons (by first | ((repeat (first | (with_reducible exact Find.here _) | apply Find.there)); done) | (repeat (first | exact Find.here _ | apply Find.there)))))) (Drop_ctr (by omega)) (Wt.yes rfl rfl rfl) rfl ?_
            rintro _ _ ⟨rfl, hA_⟩
            replace hA_ := hA_.symm; subst hA_
            refine RunL.nilD' ?_
            refine RunD.one (i := 20) (by kernel_rfl) rfl ?_
            refine RunL.call rfl rfl (by rfl) (by repeat (first | (with_reducible exact Take.nil _) | (apply Take.cons (by first | ((repeat (first | (with_reducible exact Find.here _) | apply Find.there)); done) | (repeat (first | exact Find.here _ | apply Find.there)))))) (rDrop_ctr (by assumption) (by omega)) (Wt.yes rfl rfl rfl) rfl ?_
            rintro _ _ ⟨rfl, hA_⟩
            replace hA_ := hA_.symm; subst hA_
            refine RunL.nilD' ?_
            refine RunD.pure (i := 21) hok476 rfl (by kernel_rfl) (Pure.bneq rfl rfl und4) (Wt.yes rfl rfl rfl) rfl rfl ?_
            refine RunD.pure (i := 22) hok476 rfl (by kernel_rfl) (Pure.pickF rfl rfl) (Wt.none rfl) rfl rfl ?_
            refine RunD.pure (i := 23) hok476 rfl (by kernel_rfl) (Pure.move rfl) (Wt.none rfl) rfl rfl ?_
            refine RunD.split (d := 152) rfl (fun hg15 => ?_) (fun hg15 => ?_)
            · try simp only [decide_eq_true_eq, decide_eq_false_iff_not, beq_iff_eq, beq_eq_false_iff_ne, bne_iff_ne, ne_eq, Bool.not_eq_true', Bool.not_eq_false', Bool.not_eq_true, Bool.not_eq_false, Int.not_lt, Int.not_le, Decidable.not_not, bne_eq_false_iff_eq, gt_iff_lt, ge_iff_le, Bool.or_eq_true, Bool.and_eq_true] at hg15
              exfalso; simp at hg15
            try simp only [decide_eq_true_eq, decide_eq_false_iff_not, beq_iff_eq, beq_eq_false_iff_ne, bne_iff_ne, ne_eq, Bool.not_eq_true', Bool.not_eq_false', Bool.not_eq_true, Bool.not_eq_false, Int.not_lt, Int.not_le, Decidable.not_not, bne_eq_false_iff_eq, gt_iff_lt, ge_iff_le, Bool.or_eq_true, Bool.and_eq_true] at hg15
            refine RunD.pure (i := 24) hok476 rfl (by kernel_rfl) (Pure.move rfl) (Wt.yes rfl rfl rfl) rfl rfl ?_
            refine RunD.openEx (φ := fun _ : Option Addr × Nat => True) (L := fun x => [row b20 29 [.slice x.1 (EL (mdel k tl)).length x.2], Sl 36 2 x.1 (EL (mdel k tl)).length x.2 ((EL (mdel k tl)).flatMap cE)]) (by first | ((repeat (first | (with_reducible exact Find.here _) | apply Find.there)); done) | (repeat (first | exact Find.here _ | apply Find.there))) ?_; intro xr _
            refine RunD.lend (Q := row b20 29 _) Lends.row (by first | ((repeat (first | (with_reducible exact Find.here _) | apply Find.there)); done) | (repeat (first | exact Find.here _ | apply Find.there))) ?_; intro g1 hleg1 hg1 backg1
            have h_g1 := h.mono hleg1
            have hK_g1 := hK.mono hleg1
            have hro3_g1 := hro3.mono hleg1
            refine RunD.pure (i := 26) hok476 rfl (by kernel_rfl) (Pure.move rfl) (Wt.yes rfl rfl rfl) rfl rfl ?_
            refine RunD.pure (i := 27) hok476 rfl (by kernel_rfl) (Pure.nilCheck rfl) (Wt.yes rfl rfl rfl) rfl rfl ?_
            refine RunD.pure (i := 28) hok476 rfl (by kernel_rfl) (Pure.fieldAddr rfl fo29_0) (Wt.yes rfl rfl rfl) rfl rfl ?_
            refine RunD.load1R (i := 29) hok476 rfl (by kernel_rfl) rfl (by assumption) (by rfl) agg27 (Wt.yes rfl rfl rfl) rfl ?_
            refine RunD.pure (i := 30) hok476 rfl (by kernel_rfl) (Pure.lenSl rfl rfl und27) (Wt.yes rfl rfl rfl) rfl rfl ?_
            refine RunD.one (i := 25) (by kernel_rfl) rfl ?_
            refine RunL.call rfl rfl (by rfl) (by repeat (first | (with_reducible exact Take.nil _) | (apply Take.cons (by first | ((repeat (first | (with_reducible exact Find.here _) | apply Find.there)); done) | (repeat (first | exact Find.here _ | apply Find.there)))))) (HLen_ctr) (Wt.yes rfl rfl rfl) rfl ?_
            rintro _ _ ⟨rfl, hA_⟩
            replace hA_ := hA_.symm; subst hA_
            refine RunL.nilD' ?_
            refine RunD.pure (i := 31) hok476 rfl (by kernel_rfl) (Pure.neq rfl rfl) (Wt.yes rfl rfl rfl) rfl rfl ?_
            refine RunD.pure (i := 32) hok476 rfl (by kernel_rfl) (Pure.pickF rfl rfl) (Wt.none rfl) rfl rfl ?_
            refine RunD.nilB (by kernel_rfl) (fun w sw => backg1 _ _ (sw)) ?_
            refine Run.cond rfl (fun hc16 => ?_) (fun hc16 => ?_)
            · try simp only [decide_eq_true_eq, decide_eq_false_iff_not, beq_iff_eq, beq_eq_false_iff_ne, bne_iff_ne, ne_eq, Bool.not_eq_true', Bool.not_eq_false', Bool.not_eq_true, Bool.not_eq_false, Int.not_lt, Int.not_le, Decidable.not_not, bne_eq_false_iff_eq, gt_iff_lt, ge_iff_le, Bool.or_eq_true, Bool.and_eq_true] at hc16
              exfalso; apply hc16; rw [hEl]
            try simp only [decide_eq_true_eq, decide_eq_false_iff_not, beq_iff_eq, beq_eq_false_iff_ne, bne_iff_ne, ne_eq, Bool.not_eq_true', Bool.not_eq_false', Bool.not_eq_true, Bool.not_eq_false, Int.not_lt, Int.not_le, Decidable.not_not, bne_eq_false_iff_eq, gt_iff_lt, ge_iff_le, Bool.or_eq_true, Bool.and_eq_true] at hc16
            refine Run.skip ?_
            refine Run.inBlock ?_
            refine Run.region ?_
            refine RunL.mv rfl rfl ?_
            first | refine RunL.pure (Pure.addI rfl rfl (by omega)) (Wt.none rfl) rfl rfl ?_ | refine RunL.pure (Pure.add rfl rfl) (Wt.none rfl) rfl rfl ?_
            refine RunL.as rfl rfl ?_
            refine RunL.nil ?_
            refine Run.mkR (q := b20) (mdel k tl) (by repeat (first | (with_reducible exact Take.nil _) | (apply Take.cons (by first | ((repeat (first | (with_reducible exact Find.here _) | apply Find.there)); done) | (repeat (first | exact Find.here _ | apply Find.there)))))) rfl rfl ?_
            refine Run.keep (.cons rfl (.cons rfl (.cons rfl (.cons rfl (.nil)))) : Keep _ [5, 6, 8, 11] _) ?_
            refine Run.againF (F := F) ih (by exact ⟨i + 1, mdel k tl, by omega, hkn.mdel, by omega, rfl, rfl, rfl⟩) (by repeat (first | (with_reducible exact Fin.done (by repeat (first | (with_reducible exact Rest.here) | apply Rest.there))) | (apply Fin.cons (by first | ((repeat (first | (with_reducible exact Find.here _) | apply Find.there)); done) | (repeat (first | exact Find.here _ | apply Find.there)))))) ?_
            omega
          · try simp only [decide_eq_true_eq, decide_eq_false_iff_not, beq_iff_eq, beq_eq_false_iff_ne, bne_iff_ne, ne_eq, Bool.not_eq_true', Bool.not_eq_false', Bool.not_eq_true, Bool.not_eq_false, Int.not_lt, Int.not_le, Decidable.not_not, bne_eq_false_iff_eq, gt_iff_lt, ge_iff_le, Bool.or_eq_true, Bool.and_eq_true] at h7
            refine Run.exit rfl ?_
            refine Run.sr ?_
            refine RunL.call rfl rfl (by rfl) (by repeat (first | (with_reducible exact Take.nil _) | (apply Take.cons (by first | ((repeat (first | (with_reducible exact Find.here _) | apply Find.there)); done) | (repeat (first | exact Find.here _ | apply Find.there)))))) (lives_ctr) (Wt.none rfl) rfl ?_
            rintro _ _ ⟨rfl, hA_⟩
            replace hA_ := hA_.symm; subst hA_
            refine RunL.as rfl rfl ?_
            refine RunL.nil ?_
            exact Run.ret Try.func4 (res1 rfl rfl) (by exact ⟨rfl, rfl⟩) (by repeat (first | (with_reducible exact Fin.done (by repeat (first | (with_reducible exact Rest.here) | apply Rest.there))) | (apply Fin.cons (by first | ((repeat (first | (with_reducible exact Find.here _) | apply Find.there)); done) | (repeat (first | exact Find.here _ | apply Find.there))))))
      · skip
        refine Run.cond rfl (fun h3 => ?_) (fun h3 => ?_)
        · try simp only [decide_eq_true_eq, decide_eq_false_iff_not, beq_iff_eq, beq_eq_false_iff_ne, bne_iff_ne, ne_eq, Bool.not_eq_true', Bool.not_eq_false', Bool.not_eq_true, Bool.not_eq_false, Int.not_lt, Int.not_le, Decidable.not_not, bne_eq_false_iff_eq, gt_iff_lt, ge_iff_le, Bool.or_eq_true, Bool.and_eq_true] at h3
          refine Run.openSl (a := ar) (n := (EL tl).length) (by first | ((repeat (first | (with_reducible exact Find.here _) | apply Find.there)); done) | (repeat (first | exact Find.here _ | apply Find.there))) (by omega) ?_; rintro b2 pre2 post2 rfl hsl1 hsl2 hsl3
          refine Run.regionD' (by kernel_rfl) (by kernel_rfl) (fun hok568 => ?_)
          refine RunD.lend (Q := row b20 29 _) Lends.row (by first | ((repeat (first | (with_reducible exact Find.here _) | apply Find.there)); done) | (repeat (first | exact Find.here _ | apply Find.there))) ?_; intro g1 hleg1 hg1 backg1
          have h_g1 := h.mono hleg1
          refine RunD.lend (Q := row b2 36 _) Lends.row (by first | ((repeat (first | (with_reducible exact Find.here _) | apply Find.there)); done) | (repeat (first | exact Find.here _ | apply Find.there))) ?_; intro g2 hleg2 hg2 backg2
          try (replace hg1 := hg1.mono hleg2)
          have h_g2 := h_g1.mono hleg2
          obtain ⟨xl, hxl⟩ := get_some (xs := EL tl) (i := ((((EL tl).length : Nat) : Int) - 1).toNat) (by omega)
          refine RunD.pure (i := 0) hok568 rfl (by kernel_rfl) (Pure.move rfl) (Wt.none rfl) rfl rfl ?_
          refine RunD.pure (i := 1) hok568 rfl (by kernel_rfl) (Pure.move rfl) (Wt.none rfl) rfl rfl ?_
          refine RunD.pure (i := 2) hok568 rfl (by kernel_rfl) (Pure.nilCheck rfl) (Wt.none rfl) rfl rfl ?_
          refine RunD.pure (i := 3) hok568 rfl (by kernel_rfl) (Pure.fieldAddr rfl fo29_0) (Wt.none rfl) rfl rfl ?_
          refine RunD.load1R (i := 4) hok568 rfl (by kernel_rfl) rfl (by assumption) (by rfl) agg27 (Wt.none rfl) rfl ?_
          refine RunD.pure (i := 5) hok568 rfl (by kernel_rfl) (Pure.move rfl) (Wt.none rfl) rfl rfl ?_
          refine RunD.pure (i := 6) hok568 rfl (by kernel_rfl) (Pure.nilCheck rfl) (Wt.none rfl) rfl rfl ?_
          refine RunD.pure (i := 7) hok568 rfl (by kernel_rfl) (Pure.fieldAddr rfl fo29_0) (Wt.none rfl) rfl rfl ?_
          refine RunD.load1R (i := 8) hok568 rfl (by kernel_rfl) rfl (by assumption) (by rfl) agg27 (Wt.none rfl) rfl ?_
          refine RunD.pure (i := 9) hok568 rfl (by kernel_rfl) (Pure.lenSl rfl rfl und27) (Wt.none rfl) rfl rfl ?_
          first | refine RunD.pure (i := 10) hok568 rfl (by kernel_rfl) (Pure.subI rfl rfl (by omega)) (Wt.none rfl) rfl rfl ?_ | refine RunD.pure (i := 10) hok568 rfl (by kernel_rfl) (Pure.sub rfl rfl) (Wt.none rfl) rfl rfl ?_
          refine RunD.pure (i := 11) hok568 rfl (by kernel_rfl) (Pure.indexAddr rfl rfl und27 sz36 (by omega) (by omega)) (Wt.none rfl) rfl rfl ?_
          refine RunD.pure (i := 12) hok568 rfl (by kernel_rfl) (Pure.fieldAddr rfl fo36_1) (Wt.none rfl) rfl rfl ?_
          refine RunD.load1R (i := 13) hok568 rfl (by kernel_rfl) rfl hg2 ((elem_at (pre := pre2) (post := post2) (f := cE) (sz := 2) (j := 1) (fun _ _ => rfl) hxl (by decide)).trans rfl) agg9 (Wt.none rfl) rfl ?_
          refine RunD.one (i := 14) (by kernel_rfl) rfl ?_
          refine RunL.lit (vals := [_]) (vs := ([xl.key] : List ByteArray).map Value.string) und34 sz9 zz9 rfl rfl rfl rfl rfl rfl (by simp [Value.cells, cE, cOO]) rfl (Wt.none rfl) rfl ?_; intro b68
          refine RunL.nilD' ?_
          refine RunD.one (i := 15) (by kernel_rfl) rfl ?_
          refine RunL.append (m := 1) (n' := ([cut key 4, xl.key] : List ByteArray).length) (cs' := ([cut key 4, xl.key] : List ByteArray).map Value.string) rfl rfl (by first | ((repeat (first | (with_reducible exact Find.here _) | apply Find.there)); done) | (repeat (first | exact Find.here _ | apply Find.there))) rfl rfl und34 und34 rfl sz9 zz9 rfl by9 (by omega) (by omega) (fun w sw => sw.src) (by simp [Value.isOne]) rfl rfl (Wt.none rfl) rfl ?_; intro a1 c1
          refine RunL.nilD' ?_
          refine RunD.pure (i := 16) hok568 rfl (by kernel_rfl) (Pure.assign rfl) (Wt.none rfl) rfl rfl ?_
          refine RunD.nilB (by kernel_rfl) (fun w sw => backg1 _ _ (backg2 _ _ (sw))) ?_
          refine Run.mkSl (b := b2) (pre := pre2) (post := post2) (sz := 2) (cs := (EL tl).flatMap cE) (n := (EL tl).length) (by first | ((repeat (first | (with_reducible exact Find.here _) | apply Find.there)); done) | (repeat (first | exact Find.here _ | apply Find.there))) hsl1 hsl2 hsl3 ?_
          refine Run.mkR (q := b20) (tl) (by repeat (first | (with_reducible exact Take.nil _) | (apply Take.cons (by first | ((repeat (first | (with_reducible exact Find.here _) | apply Find.there)); done) | (repeat (first | exact Find.here _ | apply Find.there)))))) (rfl) (rfl) ?_
          refine Run.keep (.cons rfl (.cons rfl (.cons rfl (.nil))) : Keep _ [5, 6, 8] _) ?_
          exact Run.meetF (F := F) hk (by exact ⟨[cut key 4, xl.key], _, _, by simp, rfl, rfl⟩) (by repeat (first | (with_reducible exact Fin.done (by repeat (first | (with_reducible exact Rest.here) | apply Rest.there))) | (apply Fin.cons (by first | ((repeat (first | (with_reducible exact Find.here _) | apply Find.there)); done) | (repeat (first | exact Find.here _ | apply Find.there))))))
        · try simp only [decide_eq_true_eq, decide_eq_false_iff_not, beq_iff_eq, beq_eq_false_iff_ne, bne_iff_ne, ne_eq, Bool.not_eq_true', Bool.not_eq_false', Bool.not_eq_true, Bool.not_eq_false, Int.not_lt, Int.not_le, Decidable.not_not, bne_eq_false_iff_eq, gt_iff_lt, ge_iff_le, Bool.or_eq_true, Bool.and_eq_true] at h3
          refine Run.skip ?_
          refine Run.mkR (q := b20) (tl) (by repeat (first | (with_reducible exact Take.nil _) | (apply Take.cons (by first | ((repeat (first | (with_reducible exact Find.here _) | apply Find.there)); done) | (repeat (first | exact Find.here _ | apply Find.there)))))) (rfl) (rfl) ?_
          refine Run.keep (.cons rfl (.cons rfl (.cons rfl (.nil))) : Keep _ [5, 6, 8] _) ?_
          exact Run.meetF (F := F) hk (by exact ⟨[cut key 4], _, _, by simp, rfl, rfl⟩) (by repeat (first | (with_reducible exact Fin.done (by repeat (first | (with_reducible exact Rest.here) | apply Rest.there))) | (apply Fin.cons (by first | ((repeat (first | (with_reducible exact Find.here _) | apply Find.there)); done) | (repeat (first | exact Find.here _ | apply Find.there))))))
  · try simp only [decide_eq_true_eq, decide_eq_false_iff_not, beq_iff_eq, beq_eq_false_iff_ne, bne_iff_ne, ne_eq, Bool.not_eq_true', Bool.not_eq_false', Bool.not_eq_true, Bool.not_eq_false, Int.not_lt, Int.not_le, Decidable.not_not, bne_eq_false_iff_eq, gt_iff_lt, ge_iff_le, Bool.or_eq_true, Bool.and_eq_true] at h1
    refine RunL.not (Wt.no rfl rfl rfl) rfl rfl ?_
    refine RunL.not (Wt.no rfl rfl rfl) rfl rfl ?_
    refine RunL.pure (Pure.pickF rfl rfl) (Wt.none rfl) rfl rfl ?_
    refine RunL.nil ?_
    refine Run.condF rfl ?_
    refine Run.exit rfl ?_
    refine Run.sr ?_
    refine RunL.mv rfl rfl ?_
    refine RunL.call rfl rfl (by rfl) (by repeat (first | (with_reducible exact Take.nil _) | (apply Take.cons (by first | ((repeat (first | (with_reducible exact Find.here _) | apply Find.there)); done) | (repeat (first | exact Find.here _ | apply Find.there)))))) (FewC_ctr (m := 4) (by decide) (by decide)) (Wt.none rfl) rfl ?_
    rintro _ _ ⟨rfl, hA_⟩
    replace hA_ := hA_.symm; subst hA_
    refine RunL.lit (vals := [_]) (vs := ([cut key 4] : List ByteArray).map Value.string) und34 sz9 zz9 rfl rfl rfl rfl rfl rfl (by simp [Value.cells, cE, cOO]) rfl (Wt.none rfl) rfl ?_; intro b47
    have hEl := EL_len tl
    refine RunL.as rfl rfl ?_
    refine RunL.nil ?_
    refine Run.openR (q := b20) (by first | ((repeat (first | (with_reducible exact Find.here _) | apply Find.there)); done) | (repeat (first | exact Find.here _ | apply Find.there))) ?_; intro ar capr
    refine Run.seq ?_
    refine Run.sr ?_
    refine RunL.mv rfl rfl ?_
    refine RunL.pure (Pure.nilCheck rfl) (Wt.none rfl) rfl rfl ?_
    refine RunL.pure (Pure.fieldAddr rfl fo29_0) (Wt.none rfl) rfl rfl ?_
    first | refine RunL.load1 rfl (by first | ((repeat (first | (with_reducible exact Find.here _) | apply Find.there)); done) | (repeat (first | exact Find.here _ | apply Find.there))) (by rfl) agg27 (Wt.none rfl) rfl ?_ | refine RunL.load1R rfl (by assumption) (by rfl) agg27 (Wt.none rfl) rfl ?_
    refine RunL.pure (Pure.lenSl rfl rfl und27) (Wt.none rfl) rfl rfl ?_
    refine RunL.pure (Pure.gtr rfl rfl) (Wt.none rfl) rfl rfl ?_
    refine RunL.nil ?_
    refine Run.cut (fun e A => ∃ (xs : List ByteArray) (aK : Option Addr) (cK_ : Nat), xs.length ≤ 2 ∧ e = [(5, .pointer (some ⟨p, 0, none⟩)), (6, .pointer (some ⟨b20, 0, none⟩)), (8, .slice aK xs.length cK_)] ∧ A = Sl 9 1 aK xs.length cK_ (xs.map Value.string) :: Hq p tl :: RH b20 tl :: F) (fun e A hM => ?_) (fun hk => ?_)
    · obtain ⟨xs, aK, cK_, hx2, rfl, hA_⟩ := hM
      replace hA_ := hA_.symm; subst hA_
      rcases hz : (EL tl)[0]? with _ | x
      · skip
        refine Run.sr ?_
        refine RunL.mv rfl rfl ?_
        refine RunL.call rfl rfl (by rfl) (by repeat (first | (with_reducible exact Take.nil _) | (apply Take.cons (by first | ((repeat (first | (with_reducible exact Find.here _) | apply Find.there)); done) | (repeat (first | exact Find.here _ | apply Find.there)))))) (HFirst_ctr (tl := tl)) (Wt.none rfl) rfl ?_
        rintro _ _ ⟨rfl, hA_⟩
        replace hA_ := hA_.symm; subst hA_
        rw [hz]
        have hlz : (EL tl).length = 0 := by rcases Nat.eq_zero_or_pos (EL tl).length with q | q; exact q; obtain ⟨y, hy⟩ := get_some (xs := EL tl) (i := 0) q; rw [hz] at hy; cases hy
        refine RunL.mv rfl rfl ?_
        refine RunL.pure (Pure.extract rfl rfl) (Wt.none rfl) rfl rfl ?_
        refine RunL.pure (Pure.extract rfl rfl) (Wt.none rfl) rfl rfl ?_
        refine RunL.alloc zz45 (Wt.none rfl) rfl ?_; intro b9
        refine RunL.storeW (xs := (cE noE)) rfl rfl (by first | ((repeat (first | (with_reducible exact Find.here _) | apply Find.there)); done) | (repeat (first | exact Find.here _ | apply Find.there))) sz45 (by rfl) (by rfl) (by rfl) (Wt.none rfl) ?_
        refine RunL.as rfl rfl ?_
        refine RunL.nil ?_
        refine Run.openR (q := b20) (by first | ((repeat (first | (with_reducible exact Find.here _) | apply Find.there)); done) | (repeat (first | exact Find.here _ | apply Find.there))) ?_; intro ar capr
        refine Run.seq ?_
        refine Run.seq ?_
        refine Run.regionD' (by kernel_rfl) (by kernel_rfl) (fun hok654 => ?_)
        refine RunD.lend (Q := row b9 45 _) Lends.row (by first | ((repeat (first | (with_reducible exact Find.here _) | apply Find.there)); done) | (repeat (first | exact Find.here _ | apply Find.there))) ?_; intro gl3 hlegl3 hl3 backgl3
        have h_gl3 := h.mono hlegl3
        refine RunD.lend (Q := row b20 29 _) Lends.row (by first | ((repeat (first | (with_reducible exact Find.here _) | apply Find.there)); done) | (repeat (first | exact Find.here _ | apply Find.there))) ?_; intro g1 hleg1 hg1 backg1
        try (replace hl3 := hl3.mono hleg1)
        have h_g1 := h_gl3.mono hleg1
        refine RunD.pure (i := 0) hok654 rfl (by kernel_rfl) (Pure.move rfl) (Wt.none rfl) rfl rfl ?_
        refine RunD.pure (i := 1) hok654 rfl (by kernel_rfl) (Pure.move rfl) (Wt.none rfl) rfl rfl ?_
        refine RunD.pure (i := 2) hok654 rfl (by kernel_rfl) (Pure.nilCheck rfl) (Wt.none rfl) rfl rfl ?_
        refine RunD.pure (i := 3) hok654 rfl (by kernel_rfl) (Pure.fieldAddr rfl fo29_0) (Wt.none rfl) rfl rfl ?_
        refine RunD.load1R (i := 4) hok654 rfl (by kernel_rfl) rfl (by assumption) (by rfl) agg27 (Wt.none rfl) rfl ?_
        refine RunD.pure (i := 5) hok654 rfl (by kernel_rfl) (Pure.lenSl rfl rfl und27) (Wt.none rfl) rfl rfl ?_
        refine RunD.pure (i := 6) hok654 rfl (by kernel_rfl) (Pure.gtr rfl rfl) (Wt.none rfl) rfl rfl ?_
        refine RunD.pure (i := 7) hok654 rfl (by kernel_rfl) (Pure.bneq rfl rfl und4) (Wt.none rfl) rfl rfl ?_
        refine RunD.pure (i := 8) hok654 rfl (by kernel_rfl) (Pure.move rfl) (Wt.none rfl) rfl rfl ?_
        refine RunD.split (d := 83) rfl (fun hg17 => ?_) (fun hg17 => ?_)
        · try simp only [decide_eq_true_eq, decide_eq_false_iff_not, beq_iff_eq, beq_eq_false_iff_ne, bne_iff_ne, ne_eq, Bool.not_eq_true', Bool.not_eq_false', Bool.not_eq_true, Bool.not_eq_false, Int.not_lt, Int.not_le, Decidable.not_not, bne_eq_false_iff_eq, gt_iff_lt, ge_iff_le, Bool.or_eq_true, Bool.and_eq_true] at hg17
          exfalso; first | (simp at hg17; omega) | (simp at hg17; rw [hg17] at hlz; simp at hlz) | (apply hg17; simp; done) | (apply hg17; simp; omega) | (simp at hg17; apply hg17; apply List.length_eq_zero_iff.1; omega) | (simp at hg17; apply hg17; intro q; rw [q] at hlz; simp at hlz)
        try simp only [decide_eq_true_eq, decide_eq_false_iff_not, beq_iff_eq, beq_eq_false_iff_ne, bne_iff_ne, ne_eq, Bool.not_eq_true', Bool.not_eq_false', Bool.not_eq_true, Bool.not_eq_false, Int.not_lt, Int.not_le, Decidable.not_not, bne_eq_false_iff_eq, gt_iff_lt, ge_iff_le, Bool.or_eq_true, Bool.and_eq_true] at hg17
        refine RunD.pure (i := 9) hok654 rfl (by kernel_rfl) (Pure.move rfl) (Wt.yes rfl rfl rfl) rfl rfl ?_
        refine RunD.pure (i := 10) hok654 rfl (by kernel_rfl) (Pure.move rfl) (Wt.yes rfl rfl rfl) rfl rfl ?_
        refine RunD.split (d := 85) rfl (fun hg18 => ?_) (fun hg18 => ?_)
        · try simp only [decide_eq_true_eq, decide_eq_false_iff_not, beq_iff_eq, beq_eq_false_iff_ne, bne_iff_ne, ne_eq, Bool.not_eq_true', Bool.not_eq_false', Bool.not_eq_true, Bool.not_eq_false, Int.not_lt, Int.not_le, Decidable.not_not, bne_eq_false_iff_eq, gt_iff_lt, ge_iff_le, Bool.or_eq_true, Bool.and_eq_true] at hg18
          exfalso; simp at hg18
        try simp only [decide_eq_true_eq, decide_eq_false_iff_not, beq_iff_eq, beq_eq_false_iff_ne, bne_iff_ne, ne_eq, Bool.not_eq_true', Bool.not_eq_false', Bool.not_eq_true, Bool.not_eq_false, Int.not_lt, Int.not_le, Decidable.not_not, bne_eq_false_iff_eq, gt_iff_lt, ge_iff_le, Bool.or_eq_true, Bool.and_eq_true] at hg18
        refine RunD.not (i := 11) hok654 rfl (by kernel_rfl) rfl rfl (Wt.no rfl rfl rfl) ?_
        refine RunD.not (i := 12) hok654 rfl (by kernel_rfl) rfl rfl (Wt.no rfl rfl rfl) ?_
        refine RunD.not (i := 13) hok654 rfl (by kernel_rfl) rfl rfl (Wt.no rfl rfl rfl) ?_
        refine RunD.not (i := 14) hok654 rfl (by kernel_rfl) rfl rfl (Wt.no rfl rfl rfl) ?_
        refine RunD.not (i := 15) hok654 rfl (by kernel_rfl) rfl rfl (Wt.no rfl rfl rfl) ?_
        refine RunD.not (i := 16) hok654 rfl (by kernel_rfl) rfl rfl (Wt.no rfl rfl rfl) ?_
        refine RunD.not (i := 17) hok654 rfl (by kernel_rfl) rfl rfl (Wt.no rfl rfl rfl) ?_
        refine RunD.not (i := 18) hok654 rfl (by kernel_rfl) rfl rfl (Wt.no rfl rfl rfl) ?_
        refine RunD.pure (i := 19) hok654 rfl (by kernel_rfl) (Pure.pickF rfl rfl) (Wt.yes rfl rfl rfl) rfl rfl ?_
        refine RunD.pure (i := 20) hok654 rfl (by kernel_rfl) (Pure.pickF rfl rfl) (Wt.none rfl) rfl rfl ?_
        refine RunD.pure (i := 21) hok654 rfl (by kernel_rfl) (Pure.move rfl) (Wt.none rfl) rfl rfl ?_
        refine RunD.pure (i := 22) hok654 rfl (by kernel_rfl) (Pure.move rfl) (Wt.yes rfl rfl rfl) rfl rfl ?_
        refine RunD.pure (i := 23) hok654 rfl (by kernel_rfl) (Pure.not rfl) (Wt.yes rfl rfl rfl) rfl rfl ?_
        refine RunD.pure (i := 24) hok654 rfl (by kernel_rfl) (Pure.move rfl) (Wt.yes rfl rfl rfl) rfl rfl ?_
        refine RunD.split (d := 99) rfl (fun hg19 => ?_) (fun hg19 => ?_)
        rotate_left
        · try simp only [decide_eq_true_eq, decide_eq_false_iff_not, beq_iff_eq, beq_eq_false_iff_ne, bne_iff_ne, ne_eq, Bool.not_eq_true', Bool.not_eq_false', Bool.not_eq_true, Bool.not_eq_false, Int.not_lt, Int.not_le, Decidable.not_not, bne_eq_false_iff_eq, gt_iff_lt, ge_iff_le, Bool.or_eq_true, Bool.and_eq_true] at hg19
          exfalso; simp at hg19
        try simp only [decide_eq_true_eq, decide_eq_false_iff_not, beq_iff_eq, beq_eq_false_iff_ne, bne_iff_ne, ne_eq, Bool.not_eq_true', Bool.not_eq_false', Bool.not_eq_true, Bool.not_eq_false, Int.not_lt, Int.not_le, Decidable.not_not, bne_eq_false_iff_eq, gt_iff_lt, ge_iff_le, Bool.or_eq_true, Bool.and_eq_true] at hg19
        refine RunD.loadNR (vs := (cE noE)) (i := 25) hok654 rfl (by kernel_rfl) rfl (by assumption) agg45 sz45 (by first | exact Nat.le_of_ble_eq_true rfl | (simp; done) | (simp; omega)) rfl (Wt.yes rfl rfl rfl) rfl ?_
        refine RunD.pure (i := 26) hok654 rfl (by kernel_rfl) (Pure.buildL (ps := []) (zs := [(.int .i64 0), (.string .empty)]) (xs := (cE noE)) pl45 rfl rfl rfl rfl) (Wt.yes rfl rfl rfl) rfl rfl ?_
        refine RunD.pure (i := 27) hok654 rfl (by kernel_rfl) (Pure.aneq rfl rfl eqg45 (eqv45 (noE) (noE)) (by decide)) (Wt.yes rfl rfl rfl) rfl rfl ?_
        refine RunD.pure (i := 28) hok654 rfl (by kernel_rfl) (Pure.pickT rfl rfl) (Wt.yes rfl rfl rfl) rfl rfl ?_
        refine RunD.pure (i := 29) hok654 rfl (by kernel_rfl) (Pure.pickF rfl rfl) (Wt.none rfl) rfl rfl ?_
        refine RunD.nilB (by kernel_rfl) (fun w sw => backgl3 _ _ (backg1 _ _ (sw))) ?_
        refine Run.cond rfl (fun hc20 => ?_) (fun hc20 => ?_)
        · try simp only [decide_eq_true_eq, decide_eq_false_iff_not, beq_iff_eq, beq_eq_false_iff_ne, bne_iff_ne, ne_eq, Bool.not_eq_true', Bool.not_eq_false', Bool.not_eq_true, Bool.not_eq_false, Int.not_lt, Int.not_le, Decidable.not_not, bne_eq_false_iff_eq, gt_iff_lt, ge_iff_le, Bool.or_eq_true, Bool.and_eq_true] at hc20
          exfalso; simp at hc20
        try simp only [decide_eq_true_eq, decide_eq_false_iff_not, beq_iff_eq, beq_eq_false_iff_ne, bne_iff_ne, ne_eq, Bool.not_eq_true', Bool.not_eq_false', Bool.not_eq_true, Bool.not_eq_false, Int.not_lt, Int.not_le, Decidable.not_not, bne_eq_false_iff_eq, gt_iff_lt, ge_iff_le, Bool.or_eq_true, Bool.and_eq_true] at hc20
        refine Run.skip ?_
        refine Run.mkR (q := b20) (tl) (by repeat (first | (with_reducible exact Take.nil _) | (apply Take.cons (by first | ((repeat (first | (with_reducible exact Find.here _) | apply Find.there)); done) | (repeat (first | exact Find.here _ | apply Find.there)))))) (rfl) (rfl) ?_
        refine Run.lendAll (Q := Sl 9 1 aK xs.length cK_ (xs.map Value.string)) Lends.Sl (by first | ((repeat (first | (with_reducible exact Find.here _) | apply Find.there)); done) | (repeat (first | exact Find.here _ | apply Find.there))) (fun GhK hleGhK hK => ?_)
        replace h := h.mono hleGhK
        obtain ⟨hK, hKc⟩ := hK
        refine Run.seq ?_
        refine Run.sr ?_
        refine RunL.as rfl rfl ?_
        refine RunL.nil ?_
        refine Run.block ?_
        refine Run.keep (.cons rfl (.cons rfl (.cons rfl (.cons rfl (.nil)))) : Keep _ [5, 6, 8, 11] _) ?_
        refine Run.loopF (F := F) (fun n e A => ∃ (i : Nat) (tl : List (ByteArray × Int)), i ≤ xs.length ∧ KN tl ∧ tl.length ≤ 17 ∧ n = xs.length - i ∧ e = [(5, .pointer (some ⟨p, 0, none⟩)), (6, .pointer (some ⟨b20, 0, none⟩)), (8, .slice aK xs.length cK_), (11, .int .i64 (i : Nat))] ∧ A = Hq p tl :: RH b20 tl :: F) (xs.length) (by exact ⟨0, tl, by omega, hkn, by omega, rfl, rfl, rfl⟩) (by repeat (first | (with_reducible exact Fin.done (by repeat (first | (with_reducible exact Rest.here) | apply Rest.there))) | (apply Fin.cons (by first | ((repeat (first | (with_reducible exact Find.here _) | apply Find.there)); done) | (repeat (first | exact Find.here _ | apply Find.there)))))) ?_
        rintro n _ _ ⟨i, tl, hi, hkn, hln, rfl, rfl, hA_⟩ ih
        replace hA_ := hA_.symm; subst hA_
        refine Run.seq ?_
        refine Run.sr ?_
        refine RunL.mv rfl rfl ?_
        refine RunL.mv rfl rfl ?_
        refine RunL.pure (Pure.lenSl rfl rfl und34) (Wt.none rfl) rfl rfl ?_
        refine RunL.pure (Pure.lss rfl rfl) (Wt.none rfl) rfl rfl ?_
        refine RunL.nil ?_
        refine Run.cond rfl (fun h7 => ?_) (fun h7 => ?_)
        · try simp only [decide_eq_true_eq, decide_eq_false_iff_not, beq_iff_eq, beq_eq_false_iff_ne, bne_iff_ne, ne_eq, Bool.not_eq_true', Bool.not_eq_false', Bool.not_eq_true, Bool.not_eq_false, Int.not_lt, Int.not_le, Decidable.not_not, bne_eq_false_iff_eq, gt_iff_lt, ge_iff_le, Bool.or_eq_true, Bool.and_eq_true] at h7
          obtain ⟨b3, T3, pre3, post3, rfl, hro3⟩ := hK.open1 (show 0 < xs.length by omega)
          obtain ⟨k, hk⟩ := get_some (xs := xs) (i := i) (by omega)
          have hdl := mdel_len_le (tl := tl) (k := k)
          have hEl := EL_len (mdel k tl)
          refine Run.skip ?_
          refine Run.seq ?_
          refine Run.block ?_
          refine Run.sr ?_
          refine RunL.mv rfl rfl ?_
          refine RunL.mv rfl rfl ?_
          refine RunL.mv rfl rfl ?_
          refine RunL.pure (Pure.indexAddr rfl rfl und34 sz9 (by omega) (by omega)) (Wt.none rfl) rfl rfl ?_
          refine RunL.load1R rfl hro3 (elem1_at hk) agg9 (Wt.none rfl) rfl ?_
          refine RunL.call rfl rfl (by rfl) (by repeat (first | (with_reducible exact Take.nil _) | (apply Take.cons (by first | ((repeat (first | (with_reducible exact Find.here _) | apply Find.there)); done) | (repeat (first | exact Find.here _ | apply Find.there)))))) (HAt_ctr) (Wt.none rfl) rfl ?_
          rintro _ _ ⟨rfl, hA_⟩
          replace hA_ := hA_.symm; subst hA_
          refine RunL.mv rfl rfl ?_
          refine RunL.pure (Pure.extract rfl rfl) (Wt.none rfl) rfl rfl ?_
          refine RunL.pure (Pure.extract rfl rfl) (Wt.none rfl) rfl rfl ?_
          refine RunL.as rfl rfl ?_
          refine RunL.as rfl rfl ?_
          refine RunL.nil ?_
          refine Run.sr ?_
          refine RunL.mv rfl rfl ?_
          refine RunL.mv rfl rfl ?_
          refine RunL.mv rfl rfl ?_
          refine RunL.pure (Pure.indexAddr rfl rfl und34 sz9 (by omega) (by omega)) (Wt.none rfl) rfl rfl ?_
          refine RunL.load1R rfl hro3 (elem1_at hk) agg9 (Wt.none rfl) rfl ?_
          refine RunL.call rfl rfl (by rfl) (by repeat (first | (with_reducible exact Take.nil _) | (apply Take.cons (by first | ((repeat (first | (with_reducible exact Find.here _) | apply Find.there)); done) | (repeat (first | exact Find.here _ | apply Find.there)))))) (rAt_ctr (by assumption) (by omega)) (Wt.none rfl) rfl ?_
          rintro _ _ ⟨rfl, hA_⟩
          replace hA_ := hA_.symm; subst hA_
          refine RunL.mv rfl rfl ?_
          refine RunL.pure (Pure.extract rfl rfl) (Wt.none rfl) rfl rfl ?_
          refine RunL.pure (Pure.extract rfl rfl) (Wt.none rfl) rfl rfl ?_
          refine RunL.as rfl rfl ?_
          refine RunL.as rfl rfl ?_
          refine RunL.nil ?_
          refine Run.seq ?_
          refine Run.regionD' (by kernel_rfl) (by kernel_rfl) (fun hok769 => ?_)
          refine RunD.pure (i := 0) hok769 rfl (by kernel_rfl) (Pure.move rfl) (Wt.none rfl) rfl rfl ?_
          refine RunD.pure (i := 1) hok769 rfl (by kernel_rfl) (Pure.move rfl) (Wt.none rfl) rfl rfl ?_
          refine RunD.pure (i := 2) hok769 rfl (by kernel_rfl) (Pure.neq rfl rfl) (Wt.none rfl) rfl rfl ?_
          refine RunD.pure (i := 3) hok769 rfl (by kernel_rfl) (Pure.move rfl) (Wt.none rfl) rfl rfl ?_
          refine RunD.split (d := 132) rfl (fun hg21 => ?_) (fun hg21 => ?_)
          · try simp only [decide_eq_true_eq, decide_eq_false_iff_not, beq_iff_eq, beq_eq_false_iff_ne, bne_iff_ne, ne_eq, Bool.not_eq_true', Bool.not_eq_false', Bool.not_eq_true, Bool.not_eq_false, Int.not_lt, Int.not_le, Decidable.not_not, bne_eq_false_iff_eq, gt_iff_lt, ge_iff_le, Bool.or_eq_true, Bool.and_eq_true] at hg21
            exfalso; simp at hg21
          try simp only [decide_eq_true_eq, decide_eq_false_iff_not, beq_iff_eq, beq_eq_false_iff_ne, bne_iff_ne, ne_eq, Bool.not_eq_true', Bool.not_eq_false', Bool.not_eq_true, Bool.not_eq_false, Int.not_lt, Int.not_le, Decidable.not_not, bne_eq_false_iff_eq, gt_iff_lt, ge_iff_le, Bool.or_eq_true, Bool.and_eq_true] at hg21
          refine RunD.pure (i := 4) hok769 rfl (by kernel_rfl) (Pure.move rfl) (Wt.yes rfl rfl rfl) rfl rfl ?_
          refine RunD.pure (i := 5) hok769 rfl (by kernel_rfl) (Pure.move rfl) (Wt.yes rfl rfl rfl) rfl rfl ?_
          refine RunD.pure (i := 6) hok769 rfl (by kernel_rfl) (Pure.bneq rfl rfl und4) (Wt.yes rfl rfl rfl) rfl rfl ?_
          refine RunD.pure (i := 7) hok769 rfl (by kernel_rfl) (Pure.pickF rfl rfl) (Wt.none rfl) rfl rfl ?_
          refine RunD.pure (i := 8) hok769 rfl (by kernel_rfl) (Pure.move rfl) (Wt.none rfl) rfl rfl ?_
          refine RunD.split (d := 137) rfl (fun hg22 => ?_) (fun hg22 => ?_)
          · try simp only [decide_eq_true_eq, decide_eq_false_iff_not, beq_iff_eq, beq_eq_false_iff_ne, bne_iff_ne, ne_eq, Bool.not_eq_true', Bool.not_eq_false', Bool.not_eq_true, Bool.not_eq_false, Int.not_lt, Int.not_le, Decidable.not_not, bne_eq_false_iff_eq, gt_iff_lt, ge_iff_le, Bool.or_eq_true, Bool.and_eq_true] at hg22
            exfalso; simp at hg22
          try simp only [decide_eq_true_eq, decide_eq_false_iff_not, beq_iff_eq, beq_eq_false_iff_ne, bne_iff_ne, ne_eq, Bool.not_eq_true', Bool.not_eq_false', Bool.not_eq_true, Bool.not_eq_false, Int.not_lt, Int.not_le, Decidable.not_not, bne_eq_false_iff_eq, gt_iff_lt, ge_iff_le, Bool.or_eq_true, Bool.and_eq_true] at hg22
          refine RunD.pure (i := 9) hok769 rfl (by kernel_rfl) (Pure.move rfl) (Wt.yes rfl rfl rfl) rfl rfl ?_
          refine RunD.pure (i := 10) hok769 rfl (by kernel_rfl) (Pure.move rfl) (Wt.yes rfl rfl rfl) rfl rfl ?_
          refine RunD.pure (i := 11) hok769 rfl (by kernel_rfl) (Pure.move rfl) (Wt.yes rfl rfl rfl) rfl rfl ?_
          refine RunD.pure (i := 12) hok769 rfl (by kernel_rfl) (Pure.indexAddr rfl rfl und34 sz9 (by omega) (by omega)) (Wt.yes rfl rfl rfl) rfl rfl ?_
          refine RunD.load1R (i := 13) hok769 rfl (by kernel_rfl) rfl hro3 (elem1_at hk) agg9 (Wt.yes rfl rfl rfl) rfl ?_
          refine RunD.pure (i := 15) hok769 rfl (by kernel_rfl) (Pure.move rfl) (Wt.yes rfl rfl rfl) rfl rfl ?_
          refine RunD.pure (i := 16) hok769 rfl (by kernel_rfl) (Pure.move rfl) (Wt.yes rfl rfl rfl) rfl rfl ?_
          refine RunD.pure (i := 17) hok769 rfl (by kernel_rfl) (Pure.move rfl) (Wt.yes rfl rfl rfl) rfl rfl ?_
          refine RunD.pure (i := 18) hok769 rfl (by kernel_rfl) (Pure.indexAddr rfl rfl und34 sz9 (by omega) (by omega)) (Wt.yes rfl rfl rfl) rfl rfl ?_
          refine RunD.load1R (i := 19) hok769 rfl (by kernel_rfl) rfl hro3 (elem1_at hk) agg9 (Wt.yes rfl rfl rfl) rfl ?_
          refine RunD.one (i := 14) (by kernel_rfl) rfl ?_
          refine RunL.call rfl rfl (by rfl) (by repeat (first | (with_reducible exact Take.nil _) | (apply Take.cons (by first | ((repeat (first | (with_reducible exact Find.here _) | apply Find.there)); done) | (repeat (first | exact Find.here _ | apply Find.there)))))) (Drop_ctr (by omega)) (Wt.yes rfl rfl rfl) rfl ?_
          rintro _ _ ⟨rfl, hA_⟩
          replace hA_ := hA_.symm; subst hA_
          refine RunL.nilD' ?_
          refine RunD.one (i := 20) (by kernel_rfl) rfl ?_
          refine RunL.call rfl rfl (by rfl) (by repeat (first | (with_reducible exact Take.nil _) | (apply Take.cons (by first | ((repeat (first | (with_reducible exact Find.here _) | apply Find.there)); done) | (repeat (first | exact Find.here _ | apply Find.there)))))) (rDrop_ctr (by assumption) (by omega)) (Wt.yes rfl rfl rfl) rfl ?_
          rintro _ _ ⟨rfl, hA_⟩
          replace hA_ := hA_.symm; subst hA_
          refine RunL.nilD' ?_
          refine RunD.pure (i := 21) hok769 rfl (by kernel_rfl) (Pure.bneq rfl rfl und4) (Wt.yes rfl rfl rfl) rfl rfl ?_
          refine RunD.pure (i := 22) hok769 rfl (by kernel_rfl) (Pure.pickF rfl rfl) (Wt.none rfl) rfl rfl ?_
          refine RunD.pure (i := 23) hok769 rfl (by kernel_rfl) (Pure.move rfl) (Wt.none rfl) rfl rfl ?_
          refine RunD.split (d := 152) rfl (fun hg23 => ?_) (fun hg23 => ?_)
          · try simp only [decide_eq_true_eq, decide_eq_false_iff_not, beq_iff_eq, beq_eq_false_iff_ne, bne_iff_ne, ne_eq, Bool.not_eq_true', Bool.not_eq_false', Bool.not_eq_true, Bool.not_eq_false, Int.not_lt, Int.not_le, Decidable.not_not, bne_eq_false_iff_eq, gt_iff_lt, ge_iff_le, Bool.or_eq_true, Bool.and_eq_true] at hg23
            exfalso; simp at hg23
          try simp only [decide_eq_true_eq, decide_eq_false_iff_not, beq_iff_eq, beq_eq_false_iff_ne, bne_iff_ne, ne_eq, Bool.not_eq_true', Bool.not_eq_false', Bool.not_eq_true, Bool.not_eq_false, Int.not_lt, Int.not_le, Decidable.not_not, bne_eq_false_iff_eq, gt_iff_lt, ge_iff_le, Bool.or_eq_true, Bool.and_eq_true] at hg23
          refine RunD.pure (i := 24) hok769 rfl (by kernel_rfl) (Pure.move rfl) (Wt.yes rfl rfl rfl) rfl rfl ?_
          refine RunD.openEx (φ := fun _ : Option Addr × Nat => True) (L := fun x => [row b20 29 [.slice x.1 (EL (mdel k tl)).length x.2], Sl 36 2 x.1 (EL (mdel k tl)).length x.2 ((EL (mdel k tl)).flatMap cE)]) (by first | ((repeat (first | (with_reducible exact Find.here _) | apply Find.there)); done) | (repeat (first | exact Find.here _ | apply Find.there))) ?_; intro xr _
          refine RunD.lend (Q := row b20 29 _) Lends.row (by first | ((repeat (first | (with_reducible exact Find.here _) | apply Find.there)); done) | (repeat (first | exact Find.here _ | apply Find.there))) ?_; intro g1 hleg1 hg1 backg1
          have h_g1 := h.mono hleg1
          have hK_g1 := hK.mono hleg1
          have hro3_g1 := hro3.mono hleg1
          refine RunD.pure (i := 26) hok769 rfl (by kernel_rfl) (Pure.move rfl) (Wt.yes rfl rfl rfl) rfl rfl ?_
          refine RunD.pure (i := 27) hok769 rfl (by kernel_rfl) (Pure.nilCheck rfl) (Wt.yes rfl rfl rfl) rfl rfl ?_
          refine RunD.pure (i := 28) hok769 rfl (by kernel_rfl) (Pure.fieldAddr rfl fo29_0) (Wt.yes rfl rfl rfl) rfl rfl ?_
          refine RunD.load1R (i := 29) hok769 rfl (by kernel_rfl) rfl (by assumption) (by rfl) agg27 (Wt.yes rfl rfl rfl) rfl ?_
          refine RunD.pure (i := 30) hok769 rfl (by kernel_rfl) (Pure.lenSl rfl rfl und27) (Wt.yes rfl rfl rfl) rfl rfl ?_
          refine RunD.one (i := 25) (by kernel_rfl) rfl ?_
          refine RunL.call rfl rfl (by rfl) (by repeat (first | (with_reducible exact Take.nil _) | (apply Take.cons (by first | ((repeat (first | (with_reducible exact Find.here _) | apply Find.there)); done) | (repeat (first | exact Find.here _ | apply Find.there)))))) (HLen_ctr) (Wt.yes rfl rfl rfl) rfl ?_
          rintro _ _ ⟨rfl, hA_⟩
          replace hA_ := hA_.symm; subst hA_
          refine RunL.nilD' ?_
          refine RunD.pure (i := 31) hok769 rfl (by kernel_rfl) (Pure.neq rfl rfl) (Wt.yes rfl rfl rfl) rfl rfl ?_
          refine RunD.pure (i := 32) hok769 rfl (by kernel_rfl) (Pure.pickF rfl rfl) (Wt.none rfl) rfl rfl ?_
          refine RunD.nilB (by kernel_rfl) (fun w sw => backg1 _ _ (sw)) ?_
          refine Run.cond rfl (fun hc24 => ?_) (fun hc24 => ?_)
          · try simp only [decide_eq_true_eq, decide_eq_false_iff_not, beq_iff_eq, beq_eq_false_iff_ne, bne_iff_ne, ne_eq, Bool.not_eq_true', Bool.not_eq_false', Bool.not_eq_true, Bool.not_eq_false, Int.not_lt, Int.not_le, Decidable.not_not, bne_eq_false_iff_eq, gt_iff_lt, ge_iff_le, Bool.or_eq_true, Bool.and_eq_true] at hc24
            exfalso; apply hc24; rw [hEl]
          try simp only [decide_eq_true_eq, decide_eq_false_iff_not, beq_iff_eq, beq_eq_false_iff_ne, bne_iff_ne, ne_eq, Bool.not_eq_true', Bool.not_eq_false', Bool.not_eq_true, Bool.not_eq_false, Int.not_lt, Int.not_le, Decidable.not_not, bne_eq_false_iff_eq, gt_iff_lt, ge_iff_le, Bool.or_eq_true, Bool.and_eq_true] at hc24
          refine Run.skip ?_
          refine Run.inBlock ?_
          refine Run.region ?_
          refine RunL.mv rfl rfl ?_
          first | refine RunL.pure (Pure.addI rfl rfl (by omega)) (Wt.none rfl) rfl rfl ?_ | refine RunL.pure (Pure.add rfl rfl) (Wt.none rfl) rfl rfl ?_
          refine RunL.as rfl rfl ?_
          refine RunL.nil ?_
          refine Run.mkR (q := b20) (mdel k tl) (by repeat (first | (with_reducible exact Take.nil _) | (apply Take.cons (by first | ((repeat (first | (with_reducible exact Find.here _) | apply Find.there)); done) | (repeat (first | exact Find.here _ | apply Find.there)))))) rfl rfl ?_
          refine Run.keep (.cons rfl (.cons rfl (.cons rfl (.cons rfl (.nil)))) : Keep _ [5, 6, 8, 11] _) ?_
          refine Run.againF (F := F) ih (by exact ⟨i + 1, mdel k tl, by omega, hkn.mdel, by omega, rfl, rfl, rfl⟩) (by repeat (first | (with_reducible exact Fin.done (by repeat (first | (with_reducible exact Rest.here) | apply Rest.there))) | (apply Fin.cons (by first | ((repeat (first | (with_reducible exact Find.here _) | apply Find.there)); done) | (repeat (first | exact Find.here _ | apply Find.there)))))) ?_
          omega
        · try simp only [decide_eq_true_eq, decide_eq_false_iff_not, beq_iff_eq, beq_eq_false_iff_ne, bne_iff_ne, ne_eq, Bool.not_eq_true', Bool.not_eq_false', Bool.not_eq_true, Bool.not_eq_false, Int.not_lt, Int.not_le, Decidable.not_not, bne_eq_false_iff_eq, gt_iff_lt, ge_iff_le, Bool.or_eq_true, Bool.and_eq_true] at h7
          refine Run.exit rfl ?_
          refine Run.sr ?_
          refine RunL.call rfl rfl (by rfl) (by repeat (first | (with_reducible exact Take.nil _) | (apply Take.cons (by first | ((repeat (first | (with_reducible exact Find.here _) | apply Find.there)); done) | (repeat (first | exact Find.here _ | apply Find.there)))))) (lives_ctr) (Wt.none rfl) rfl ?_
          rintro _ _ ⟨rfl, hA_⟩
          replace hA_ := hA_.symm; subst hA_
          refine RunL.as rfl rfl ?_
          refine RunL.nil ?_
          exact Run.ret Try.func4 (res1 rfl rfl) (by exact ⟨rfl, rfl⟩) (by repeat (first | (with_reducible exact Fin.done (by repeat (first | (with_reducible exact Rest.here) | apply Rest.there))) | (apply Fin.cons (by first | ((repeat (first | (with_reducible exact Find.here _) | apply Find.there)); done) | (repeat (first | exact Find.here _ | apply Find.there))))))
      · skip
        refine Run.sr ?_
        refine RunL.mv rfl rfl ?_
        refine RunL.call rfl rfl (by rfl) (by repeat (first | (with_reducible exact Take.nil _) | (apply Take.cons (by first | ((repeat (first | (with_reducible exact Find.here _) | apply Find.there)); done) | (repeat (first | exact Find.here _ | apply Find.there)))))) (HFirst_ctr (tl := tl)) (Wt.none rfl) rfl ?_
        rintro _ _ ⟨rfl, hA_⟩
        replace hA_ := hA_.symm; subst hA_
        rw [hz]
        have hlz := (List.getElem?_eq_some_iff.1 hz).1
        refine RunL.mv rfl rfl ?_
        refine RunL.pure (Pure.extract rfl rfl) (Wt.none rfl) rfl rfl ?_
        refine RunL.pure (Pure.extract rfl rfl) (Wt.none rfl) rfl rfl ?_
        refine RunL.alloc zz45 (Wt.none rfl) rfl ?_; intro b9
        refine RunL.storeW (xs := (cE x)) rfl rfl (by first | ((repeat (first | (with_reducible exact Find.here _) | apply Find.there)); done) | (repeat (first | exact Find.here _ | apply Find.there))) sz45 (by rfl) (by rfl) (by rfl) (Wt.none rfl) ?_
        refine RunL.as rfl rfl ?_
        refine RunL.nil ?_
        refine Run.openR (q := b20) (by first | ((repeat (first | (with_reducible exact Find.here _) | apply Find.there)); done) | (repeat (first | exact Find.here _ | apply Find.there))) ?_; intro ar capr
        refine Run.openSl (a := ar) (n := (EL tl).length) (by first | ((repeat (first | (with_reducible exact Find.here _) | apply Find.there)); done) | (repeat (first | exact Find.here _ | apply Find.there))) (by omega) ?_; rintro b2 pre2 post2 rfl hsl1 hsl2 hsl3
        refine Run.seq ?_
        refine Run.seq ?_
        refine Run.regionD' (by kernel_rfl) (by kernel_rfl) (fun hok876 => ?_)
        refine RunD.lend (Q := row b9 45 _) Lends.row (by first | ((repeat (first | (with_reducible exact Find.here _) | apply Find.there)); done) | (repeat (first | exact Find.here _ | apply Find.there))) ?_; intro gl4 hlegl4 hl4 backgl4
        have h_gl4 := h.mono hlegl4
        refine RunD.lend (Q := row b20 29 _) Lends.row (by first | ((repeat (first | (with_reducible exact Find.here _) | apply Find.there)); done) | (repeat (first | exact Find.here _ | apply Find.there))) ?_; intro g1 hleg1 hg1 backg1
        try (replace hl4 := hl4.mono hleg1)
        have h_g1 := h_gl4.mono hleg1
        refine RunD.lend (Q := row b2 36 _) Lends.row (by first | ((repeat (first | (with_reducible exact Find.here _) | apply Find.there)); done) | (repeat (first | exact Find.here _ | apply Find.there))) ?_; intro g2 hleg2 hg2 backg2
        try (replace hl4 := hl4.mono hleg2)
        try (replace hg1 := hg1.mono hleg2)
        have h_g2 := h_g1.mono hleg2
        refine RunD.pure (i := 0) hok876 rfl (by kernel_rfl) (Pure.move rfl) (Wt.none rfl) rfl rfl ?_
        refine RunD.pure (i := 1) hok876 rfl (by kernel_rfl) (Pure.move rfl) (Wt.none rfl) rfl rfl ?_
        refine RunD.pure (i := 2) hok876 rfl (by kernel_rfl) (Pure.nilCheck rfl) (Wt.none rfl) rfl rfl ?_
        refine RunD.pure (i := 3) hok876 rfl (by kernel_rfl) (Pure.fieldAddr rfl fo29_0) (Wt.none rfl) rfl rfl ?_
        refine RunD.load1R (i := 4) hok876 rfl (by kernel_rfl) rfl (by assumption) (by rfl) agg27 (Wt.none rfl) rfl ?_
        refine RunD.pure (i := 5) hok876 rfl (by kernel_rfl) (Pure.lenSl rfl rfl und27) (Wt.none rfl) rfl rfl ?_
        refine RunD.pure (i := 6) hok876 rfl (by kernel_rfl) (Pure.gtr rfl rfl) (Wt.none rfl) rfl rfl ?_
        refine RunD.pure (i := 7) hok876 rfl (by kernel_rfl) (Pure.bneq rfl rfl und4) (Wt.none rfl) rfl rfl ?_
        refine RunD.pure (i := 8) hok876 rfl (by kernel_rfl) (Pure.move rfl) (Wt.none rfl) rfl rfl ?_
        refine RunD.split (d := 83) rfl (fun hg25 => ?_) (fun hg25 => ?_)
        · try simp only [decide_eq_true_eq, decide_eq_false_iff_not, beq_iff_eq, beq_eq_false_iff_ne, bne_iff_ne, ne_eq, Bool.not_eq_true', Bool.not_eq_false', Bool.not_eq_true, Bool.not_eq_false, Int.not_lt, Int.not_le, Decidable.not_not, bne_eq_false_iff_eq, gt_iff_lt, ge_iff_le, Bool.or_eq_true, Bool.and_eq_true] at hg25
          exfalso; first | (simp at hg25; omega) | (simp at hg25; rw [hg25] at hlz; simp at hlz) | (apply hg25; simp; done) | (apply hg25; simp; omega) | (simp at hg25; apply hg25; apply List.length_eq_zero_iff.1; omega) | (simp at hg25; apply hg25; intro q; rw [q] at hlz; simp at hlz)
        try simp only [decide_eq_true_eq, decide_eq_false_iff_not, beq_iff_eq, beq_eq_false_iff_ne, bne_iff_ne, ne_eq, Bool.not_eq_true', Bool.not_eq_false', Bool.not_eq_true, Bool.not_eq_false, Int.not_lt, Int.not_le, Decidable.not_not, bne_eq_false_iff_eq, gt_iff_lt, ge_iff_le, Bool.or_eq_true, Bool.and_eq_true] at hg25
        refine RunD.pure (i := 9) hok876 rfl (by kernel_rfl) (Pure.move rfl) (Wt.yes rfl rfl rfl) rfl rfl ?_
        refine RunD.pure (i := 10) hok876 rfl (by kernel_rfl) (Pure.move rfl) (Wt.yes rfl rfl rfl) rfl rfl ?_
        refine RunD.split (d := 85) rfl (fun hg26 => ?_) (fun hg26 => ?_)
        rotate_left
        · try simp only [decide_eq_true_eq, decide_eq_false_iff_not, beq_iff_eq, beq_eq_false_iff_ne, bne_iff_ne, ne_eq, Bool.not_eq_true', Bool.not_eq_false', Bool.not_eq_true, Bool.not_eq_false, Int.not_lt, Int.not_le, Decidable.not_not, bne_eq_false_iff_eq, gt_iff_lt, ge_iff_le, Bool.or_eq_true, Bool.and_eq_true] at hg26
          exfalso; simp at hg26
        try simp only [decide_eq_true_eq, decide_eq_false_iff_not, beq_iff_eq, beq_eq_false_iff_ne, bne_iff_ne, ne_eq, Bool.not_eq_true', Bool.not_eq_false', Bool.not_eq_true, Bool.not_eq_false, Int.not_lt, Int.not_le, Decidable.not_not, bne_eq_false_iff_eq, gt_iff_lt, ge_iff_le, Bool.or_eq_true, Bool.and_eq_true] at hg26
        refine RunD.loadNR (vs := (cE x)) (i := 11) hok876 rfl (by kernel_rfl) rfl (by assumption) agg45 sz45 (by first | exact Nat.le_of_ble_eq_true rfl | (simp; done) | (simp; omega)) rfl (Wt.yes rfl rfl rfl) rfl ?_
        refine RunD.pure (i := 12) hok876 rfl (by kernel_rfl) (Pure.move rfl) (Wt.yes rfl rfl rfl) rfl rfl ?_
        refine RunD.pure (i := 13) hok876 rfl (by kernel_rfl) (Pure.nilCheck rfl) (Wt.yes rfl rfl rfl) rfl rfl ?_
        refine RunD.pure (i := 14) hok876 rfl (by kernel_rfl) (Pure.fieldAddr rfl fo29_0) (Wt.yes rfl rfl rfl) rfl rfl ?_
        refine RunD.load1R (i := 15) hok876 rfl (by kernel_rfl) rfl (by assumption) (by rfl) agg27 (Wt.yes rfl rfl rfl) rfl ?_
        refine RunD.pure (i := 16) hok876 rfl (by kernel_rfl) (Pure.indexAddr rfl rfl und27 sz36 (by omega) (by omega)) (Wt.yes rfl rfl rfl) rfl rfl ?_
        refine RunD.loadNR (vs := (cE x)) (i := 17) hok876 rfl (by kernel_rfl) rfl hg2 agg36 sz36 (elemN_len (pre := pre2) (post := post2) (f := cE) (sz := 2) (j := 0) (n := 2) (fun _ _ => rfl) (show (EL tl)[(0 : Int).toNat]? = some x from hz) (by decide)) ((elemN_at (pre := pre2) (post := post2) (f := cE) (sz := 2) (j := 0) (n := 2) (fun _ _ => rfl) (show (EL tl)[(0 : Int).toNat]? = some x from hz) (by decide)).trans rfl) (Wt.yes rfl rfl rfl) rfl ?_
        refine RunD.pure (i := 18) hok876 rfl (by kernel_rfl) (Pure.aneq rfl rfl eqg36 (eqv36 (x) (x)) (by decide)) (Wt.yes rfl rfl rfl) rfl rfl ?_
        refine RunD.pure (i := 19) hok876 rfl (by kernel_rfl) (Pure.pickT rfl rfl) (Wt.yes rfl rfl rfl) rfl rfl ?_
        refine RunD.pure (i := 20) hok876 rfl (by kernel_rfl) (Pure.pickF rfl rfl) (Wt.none rfl) rfl rfl ?_
        refine RunD.pure (i := 21) hok876 rfl (by kernel_rfl) (Pure.move rfl) (Wt.none rfl) rfl rfl ?_
        refine RunD.split (d := 96) rfl (fun hg27 => ?_) (fun hg27 => ?_)
        · try simp only [decide_eq_true_eq, decide_eq_false_iff_not, beq_iff_eq, beq_eq_false_iff_ne, bne_iff_ne, ne_eq, Bool.not_eq_true', Bool.not_eq_false', Bool.not_eq_true, Bool.not_eq_false, Int.not_lt, Int.not_le, Decidable.not_not, bne_eq_false_iff_eq, gt_iff_lt, ge_iff_le, Bool.or_eq_true, Bool.and_eq_true] at hg27
          exfalso; simp at hg27
        try simp only [decide_eq_true_eq, decide_eq_false_iff_not, beq_iff_eq, beq_eq_false_iff_ne, bne_iff_ne, ne_eq, Bool.not_eq_true', Bool.not_eq_false', Bool.not_eq_true, Bool.not_eq_false, Int.not_lt, Int.not_le, Decidable.not_not, bne_eq_false_iff_eq, gt_iff_lt, ge_iff_le, Bool.or_eq_true, Bool.and_eq_true] at hg27
        refine RunD.pure (i := 22) hok876 rfl (by kernel_rfl) (Pure.move rfl) (Wt.yes rfl rfl rfl) rfl rfl ?_
        refine RunD.pure (i := 23) hok876 rfl (by kernel_rfl) (Pure.not rfl) (Wt.yes rfl rfl rfl) rfl rfl ?_
        refine RunD.pure (i := 24) hok876 rfl (by kernel_rfl) (Pure.move rfl) (Wt.yes rfl rfl rfl) rfl rfl ?_
        refine RunD.split (d := 99) rfl (fun hg28 => ?_) (fun hg28 => ?_)
        · try simp only [decide_eq_true_eq, decide_eq_false_iff_not, beq_iff_eq, beq_eq_false_iff_ne, bne_iff_ne, ne_eq, Bool.not_eq_true', Bool.not_eq_false', Bool.not_eq_true, Bool.not_eq_false, Int.not_lt, Int.not_le, Decidable.not_not, bne_eq_false_iff_eq, gt_iff_lt, ge_iff_le, Bool.or_eq_true, Bool.and_eq_true] at hg28
          exfalso; simp at hg28
        try simp only [decide_eq_true_eq, decide_eq_false_iff_not, beq_iff_eq, beq_eq_false_iff_ne, bne_iff_ne, ne_eq, Bool.not_eq_true', Bool.not_eq_false', Bool.not_eq_true, Bool.not_eq_false, Int.not_lt, Int.not_le, Decidable.not_not, bne_eq_false_iff_eq, gt_iff_lt, ge_iff_le, Bool.or_eq_true, Bool.and_eq_true] at hg28
        refine RunD.not (i := 25) hok876 rfl (by kernel_rfl) rfl rfl (Wt.no rfl rfl rfl) ?_
        refine RunD.not (i := 26) hok876 rfl (by kernel_rfl) rfl rfl (Wt.no rfl rfl rfl) ?_
        refine RunD.not (i := 27) hok876 rfl (by kernel_rfl) rfl rfl (Wt.no rfl rfl rfl) ?_
        refine RunD.pure (i := 28) hok876 rfl (by kernel_rfl) (Pure.pickF rfl rfl) (Wt.yes rfl rfl rfl) rfl rfl ?_
        refine RunD.pure (i := 29) hok876 rfl (by kernel_rfl) (Pure.pickF rfl rfl) (Wt.none rfl) rfl rfl ?_
        refine RunD.nilB (by kernel_rfl) (fun w sw => backgl4 _ _ (backg1 _ _ (backg2 _ _ (sw)))) ?_
        refine Run.condF rfl ?_
        refine Run.skip ?_
        refine Run.mkSl (b := b2) (pre := pre2) (post := post2) (sz := 2) (cs := (EL tl).flatMap cE) (n := (EL tl).length) (by first | ((repeat (first | (with_reducible exact Find.here _) | apply Find.there)); done) | (repeat (first | exact Find.here _ | apply Find.there))) hsl1 hsl2 hsl3 ?_
        refine Run.mkR (q := b20) (tl) (by repeat (first | (with_reducible exact Take.nil _) | (apply Take.cons (by first | ((repeat (first | (with_reducible exact Find.here _) | apply Find.there)); done) | (repeat (first | exact Find.here _ | apply Find.there)))))) (rfl) (rfl) ?_
        refine Run.lendAll (Q := Sl 9 1 aK xs.length cK_ (xs.map Value.string)) Lends.Sl (by first | ((repeat (first | (with_reducible exact Find.here _) | apply Find.there)); done) | (repeat (first | exact Find.here _ | apply Find.there))) (fun GhK hleGhK hK => ?_)
        replace h := h.mono hleGhK
        obtain ⟨hK, hKc⟩ := hK
        refine Run.seq ?_
        refine Run.sr ?_
        refine RunL.as rfl rfl ?_
        refine RunL.nil ?_
        refine Run.block ?_
        refine Run.keep (.cons rfl (.cons rfl (.cons rfl (.cons rfl (.nil)))) : Keep _ [5, 6, 8, 11] _) ?_
        refine Run.loopF (F := F) (fun n e A => ∃ (i : Nat) (tl : List (ByteArray × Int)), i ≤ xs.length ∧ KN tl ∧ tl.length ≤ 17 ∧ n = xs.length - i ∧ e = [(5, .pointer (some ⟨p, 0, none⟩)), (6, .pointer (some ⟨b20, 0, none⟩)), (8, .slice aK xs.length cK_), (11, .int .i64 (i : Nat))] ∧ A = Hq p tl :: RH b20 tl :: F) (xs.length) (by exact ⟨0, tl, by omega, hkn, by omega, rfl, rfl, rfl⟩) (by repeat (first | (with_reducible exact Fin.done (by repeat (first | (with_reducible exact Rest.here) | apply Rest.there))) | (apply Fin.cons (by first | ((repeat (first | (with_reducible exact Find.here _) | apply Find.there)); done) | (repeat (first | exact Find.here _ | apply Find.there)))))) ?_
        rintro n _ _ ⟨i, tl, hi, hkn, hln, rfl, rfl, hA_⟩ ih
        replace hA_ := hA_.symm; subst hA_
        refine Run.seq ?_
        refine Run.sr ?_
        refine RunL.mv rfl rfl ?_
        refine RunL.mv rfl rfl ?_
        refine RunL.pure (Pure.lenSl rfl rfl und34) (Wt.none rfl) rfl rfl ?_
        refine RunL.pure (Pure.lss rfl rfl) (Wt.none rfl) rfl rfl ?_
        refine RunL.nil ?_
        refine Run.cond rfl (fun h7 => ?_) (fun h7 => ?_)
        · try simp only [decide_eq_true_eq, decide_eq_false_iff_not, beq_iff_eq, beq_eq_false_iff_ne, bne_iff_ne, ne_eq, Bool.not_eq_true', Bool.not_eq_false', Bool.not_eq_true, Bool.not_eq_false, Int.not_lt, Int.not_le, Decidable.not_not, bne_eq_false_iff_eq, gt_iff_lt, ge_iff_le, Bool.or_eq_true, Bool.and_eq_true] at h7
          obtain ⟨b3, T3, pre3, post3, rfl, hro3⟩ := hK.open1 (show 0 < xs.length by omega)
          obtain ⟨k, hk⟩ := get_some (xs := xs) (i := i) (by omega)
          have hdl := mdel_len_le (tl := tl) (k := k)
          have hEl := EL_len (mdel k tl)
          refine Run.skip ?_
          refine Run.seq ?_
          refine Run.block ?_
          refine Run.sr ?_
          refine RunL.mv rfl rfl ?_
          refine RunL.mv rfl rfl ?_
          refine RunL.mv rfl rfl ?_
          refine RunL.pure (Pure.indexAddr rfl rfl und34 sz9 (by omega) (by omega)) (Wt.none rfl) rfl rfl ?_
          refine RunL.load1R rfl hro3 (elem1_at hk) agg9 (Wt.none rfl) rfl ?_
          refine RunL.call rfl rfl (by rfl) (by repeat (first | (with_reducible exact Take.nil _) | (apply Take.cons (by first | ((repeat (first | (with_reducible exact Find.here _) | apply Find.there)); done) | (repeat (first | exact Find.here _ | apply Find.there)))))) (HAt_ctr) (Wt.none rfl) rfl ?_
          rintro _ _ ⟨rfl, hA_⟩
          replace hA_ := hA_.symm; subst hA_
          refine RunL.mv rfl rfl ?_
          refine RunL.pure (Pure.extract rfl rfl) (Wt.none rfl) rfl rfl ?_
          refine RunL.pure (Pure.extract rfl rfl) (Wt.none rfl) rfl rfl ?_
          refine RunL.as rfl rfl ?_
          refine RunL.as rfl rfl ?_
          refine RunL.nil ?_
          refine Run.sr ?_
          refine RunL.mv rfl rfl ?_
          refine RunL.mv rfl rfl ?_
          refine RunL.mv rfl rfl ?_
          refine RunL.pure (Pure.indexAddr rfl rfl und34 sz9 (by omega) (by omega)) (Wt.none rfl) rfl rfl ?_
          refine RunL.load1R rfl hro3 (elem1_at hk) agg9 (Wt.none rfl) rfl ?_
          refine RunL.call rfl rfl (by rfl) (by repeat (first | (with_reducible exact Take.nil _) | (apply Take.cons (by first | ((repeat (first | (with_reducible exact Find.here _) | apply Find.there)); done) | (repeat (first | exact Find.here _ | apply Find.there)))))) (rAt_ctr (by assumption) (by omega)) (Wt.none rfl) rfl ?_
          rintro _ _ ⟨rfl, hA_⟩
          replace hA_ := hA_.symm; subst hA_
          refine RunL.mv rfl rfl ?_
          refine RunL.pure (Pure.extract rfl rfl) (Wt.none rfl) rfl rfl ?_
          refine RunL.pure (Pure.extract rfl rfl) (Wt.none rfl) rfl rfl ?_
          refine RunL.as rfl rfl ?_
          refine RunL.as rfl rfl ?_
          refine RunL.nil ?_
          refine Run.seq ?_
          refine Run.regionD' (by kernel_rfl) (by kernel_rfl) (fun hok997 => ?_)
          refine RunD.pure (i := 0) hok997 rfl (by kernel_rfl) (Pure.move rfl) (Wt.none rfl) rfl rfl ?_
          refine RunD.pure (i := 1) hok997 rfl (by kernel_rfl) (Pure.move rfl) (Wt.none rfl) rfl rfl ?_
          refine RunD.pure (i := 2) hok997 rfl (by kernel_rfl) (Pure.neq rfl rfl) (Wt.none rfl) rfl rfl ?_
          refine RunD.pure (i := 3) hok997 rfl (by kernel_rfl) (Pure.move rfl) (Wt.none rfl) rfl rfl ?_
          refine RunD.split (d := 132) rfl (fun hg29 => ?_) (fun hg29 => ?_)
          · try simp only [decide_eq_true_eq, decide_eq_false_iff_not, beq_iff_eq, beq_eq_false_iff_ne, bne_iff_ne, ne_eq, Bool.not_eq_true', Bool.not_eq_false', Bool.not_eq_true, Bool.not_eq_false, Int.not_lt, Int.not_le, Decidable.not_not, bne_eq_false_iff_eq, gt_iff_lt, ge_iff_le, Bool.or_eq_true, Bool.and_eq_true] at hg29
            exfalso; simp at hg29
          try simp only [decide_eq_true_eq, decide_eq_false_iff_not, beq_iff_eq, beq_eq_false_iff_ne, bne_iff_ne, ne_eq, Bool.not_eq_true', Bool.not_eq_false', Bool.not_eq_true, Bool.not_eq_false, Int.not_lt, Int.not_le, Decidable.not_not, bne_eq_false_iff_eq, gt_iff_lt, ge_iff_le, Bool.or_eq_true, Bool.and_eq_true] at hg29
          refine RunD.pure (i := 4) hok997 rfl (by kernel_rfl) (Pure.move rfl) (Wt.yes rfl rfl rfl) rfl rfl ?_
          refine RunD.pure (i := 5) hok997 rfl (by kernel_rfl) (Pure.move rfl) (Wt.yes rfl rfl rfl) rfl rfl ?_
          refine RunD.pure (i := 6) hok997 rfl (by kernel_rfl) (Pure.bneq rfl rfl und4) (Wt.yes rfl rfl rfl) rfl rfl ?_
          refine RunD.pure (i := 7) hok997 rfl (by kernel_rfl) (Pure.pickF rfl rfl) (Wt.none rfl) rfl rfl ?_
          refine RunD.pure (i := 8) hok997 rfl (by kernel_rfl) (Pure.move rfl) (Wt.none rfl) rfl rfl ?_
          refine RunD.split (d := 137) rfl (fun hg30 => ?_) (fun hg30 => ?_)
          · try simp only [decide_eq_true_eq, decide_eq_false_iff_not, beq_iff_eq, beq_eq_false_iff_ne, bne_iff_ne, ne_eq, Bool.not_eq_true', Bool.not_eq_false', Bool.not_eq_true, Bool.not_eq_false, Int.not_lt, Int.not_le, Decidable.not_not, bne_eq_false_iff_eq, gt_iff_lt, ge_iff_le, Bool.or_eq_true, Bool.and_eq_true] at hg30
            exfalso; simp at hg30
          try simp only [decide_eq_true_eq, decide_eq_false_iff_not, beq_iff_eq, beq_eq_false_iff_ne, bne_iff_ne, ne_eq, Bool.not_eq_true', Bool.not_eq_false', Bool.not_eq_true, Bool.not_eq_false, Int.not_lt, Int.not_le, Decidable.not_not, bne_eq_false_iff_eq, gt_iff_lt, ge_iff_le, Bool.or_eq_true, Bool.and_eq_true] at hg30
          refine RunD.pure (i := 9) hok997 rfl (by kernel_rfl) (Pure.move rfl) (Wt.yes rfl rfl rfl) rfl rfl ?_
          refine RunD.pure (i := 10) hok997 rfl (by kernel_rfl) (Pure.move rfl) (Wt.yes rfl rfl rfl) rfl rfl ?_
          refine RunD.pure (i := 11) hok997 rfl (by kernel_rfl) (Pure.move rfl) (Wt.yes rfl rfl rfl) rfl rfl ?_
          refine RunD.pure (i := 12) hok997 rfl (by kernel_rfl) (Pure.indexAddr rfl rfl und34 sz9 (by omega) (by omega)) (Wt.yes rfl rfl rfl) rfl rfl ?_
          refine RunD.load1R (i := 13) hok997 rfl (by kernel_rfl) rfl hro3 (elem1_at hk) agg9 (Wt.yes rfl rfl rfl) rfl ?_
          refine RunD.pure (i := 15) hok997 rfl (by kernel_rfl) (Pure.move rfl) (Wt.yes rfl rfl rfl) rfl rfl ?_
          refine RunD.pure (i := 16) hok997 rfl (by kernel_rfl) (Pure.move rfl) (Wt.yes rfl rfl rfl) rfl rfl ?_
          refine RunD.pure (i := 17) hok997 rfl (by kernel_rfl) (Pure.move rfl) (Wt.yes rfl rfl rfl) rfl rfl ?_
          refine RunD.pure (i := 18) hok997 rfl (by kernel_rfl) (Pure.indexAddr rfl rfl und34 sz9 (by omega) (by omega)) (Wt.yes rfl rfl rfl) rfl rfl ?_
          refine RunD.load1R (i := 19) hok997 rfl (by kernel_rfl) rfl hro3 (elem1_at hk) agg9 (Wt.yes rfl rfl rfl) rfl ?_
          refine RunD.one (i := 14) (by kernel_rfl) rfl ?_
          refine RunL.call rfl rfl (by rfl) (by repeat (first | (with_reducible exact Take.nil _) | (apply Take.cons (by first | ((repeat (first | (with_reducible exact Find.here _) | apply Find.there)); done) | (repeat (first | exact Find.here _ | apply Find.there)))))) (Drop_ctr (by omega)) (Wt.yes rfl rfl rfl) rfl ?_
          rintro _ _ ⟨rfl, hA_⟩
          replace hA_ := hA_.symm; subst hA_
          refine RunL.nilD' ?_
          refine RunD.one (i := 20) (by kernel_rfl) rfl ?_
          refine RunL.call rfl rfl (by rfl) (by repeat (first | (with_reducible exact Take.nil _) | (apply Take.cons (by first | ((repeat (first | (with_reducible exact Find.here _) | apply Find.there)); done) | (repeat (first | exact Find.here _ | apply Find.there)))))) (rDrop_ctr (by assumption) (by omega)) (Wt.yes rfl rfl rfl) rfl ?_
          rintro _ _ ⟨rfl, hA_⟩
          replace hA_ := hA_.symm; subst hA_
          refine RunL.nilD' ?_
          refine RunD.pure (i := 21) hok997 rfl (by kernel_rfl) (Pure.bneq rfl rfl und4) (Wt.yes rfl rfl rfl) rfl rfl ?_
          refine RunD.pure (i := 22) hok997 rfl (by kernel_rfl) (Pure.pickF rfl rfl) (Wt.none rfl) rfl rfl ?_
          refine RunD.pure (i := 23) hok997 rfl (by kernel_rfl) (Pure.move rfl) (Wt.none rfl) rfl rfl ?_
          refine RunD.split (d := 152) rfl (fun hg31 => ?_) (fun hg31 => ?_)
          · try simp only [decide_eq_true_eq, decide_eq_false_iff_not, beq_iff_eq, beq_eq_false_iff_ne, bne_iff_ne, ne_eq, Bool.not_eq_true', Bool.not_eq_false', Bool.not_eq_true, Bool.not_eq_false, Int.not_lt, Int.not_le, Decidable.not_not, bne_eq_false_iff_eq, gt_iff_lt, ge_iff_le, Bool.or_eq_true, Bool.and_eq_true] at hg31
            exfalso; simp at hg31
          try simp only [decide_eq_true_eq, decide_eq_false_iff_not, beq_iff_eq, beq_eq_false_iff_ne, bne_iff_ne, ne_eq, Bool.not_eq_true', Bool.not_eq_false', Bool.not_eq_true, Bool.not_eq_false, Int.not_lt, Int.not_le, Decidable.not_not, bne_eq_false_iff_eq, gt_iff_lt, ge_iff_le, Bool.or_eq_true, Bool.and_eq_true] at hg31
          refine RunD.pure (i := 24) hok997 rfl (by kernel_rfl) (Pure.move rfl) (Wt.yes rfl rfl rfl) rfl rfl ?_
          refine RunD.openEx (φ := fun _ : Option Addr × Nat => True) (L := fun x => [row b20 29 [.slice x.1 (EL (mdel k tl)).length x.2], Sl 36 2 x.1 (EL (mdel k tl)).length x.2 ((EL (mdel k tl)).flatMap cE)]) (by first | ((repeat (first | (with_reducible exact Find.here _) | apply Find.there)); done) | (repeat (first | exact Find.here _ | apply Find.there))) ?_; intro xr _
          refine RunD.lend (Q := row b20 29 _) Lends.row (by first | ((repeat (first | (with_reducible exact Find.here _) | apply Find.there)); done) | (repeat (first | exact Find.here _ | apply Find.there))) ?_; intro g1 hleg1 hg1 backg1
          have h_g1 := h.mono hleg1
          have hK_g1 := hK.mono hleg1
          have hro3_g1 := hro3.mono hleg1
          refine RunD.pure (i := 26) hok997 rfl (by kernel_rfl) (Pure.move rfl) (Wt.yes rfl rfl rfl) rfl rfl ?_
          refine RunD.pure (i := 27) hok997 rfl (by kernel_rfl) (Pure.nilCheck rfl) (Wt.yes rfl rfl rfl) rfl rfl ?_
          refine RunD.pure (i := 28) hok997 rfl (by kernel_rfl) (Pure.fieldAddr rfl fo29_0) (Wt.yes rfl rfl rfl) rfl rfl ?_
          refine RunD.load1R (i := 29) hok997 rfl (by kernel_rfl) rfl (by assumption) (by rfl) agg27 (Wt.yes rfl rfl rfl) rfl ?_
          refine RunD.pure (i := 30) hok997 rfl (by kernel_rfl) (Pure.lenSl rfl rfl und27) (Wt.yes rfl rfl rfl) rfl rfl ?_
          refine RunD.one (i := 25) (by kernel_rfl) rfl ?_
          refine RunL.call rfl rfl (by rfl) (by repeat (first | (with_reducible exact Take.nil _) | (apply Take.cons (by first | ((repeat (first | (with_reducible exact Find.here _) | apply Find.there)); done) | (repeat (first | exact Find.here _ | apply Find.there)))))) (HLen_ctr) (Wt.yes rfl rfl rfl) rfl ?_
          rintro _ _ ⟨rfl, hA_⟩
          replace hA_ := hA_.symm; subst hA_
          refine RunL.nilD' ?_
          refine RunD.pure (i := 31) hok997 rfl (by kernel_rfl) (Pure.neq rfl rfl) (Wt.yes rfl rfl rfl) rfl rfl ?_
          refine RunD.pure (i := 32) hok997 rfl (by kernel_rfl) (Pure.pickF rfl rfl) (Wt.none rfl) rfl rfl ?_
          refine RunD.nilB (by kernel_rfl) (fun w sw => backg1 _ _ (sw)) ?_
          refine Run.cond rfl (fun hc32 => ?_) (fun hc32 => ?_)
          · try simp only [decide_eq_true_eq, decide_eq_false_iff_not, beq_iff_eq, beq_eq_false_iff_ne, bne_iff_ne, ne_eq, Bool.not_eq_true', Bool.not_eq_false', Bool.not_eq_true, Bool.not_eq_false, Int.not_lt, Int.not_le, Decidable.not_not, bne_eq_false_iff_eq, gt_iff_lt, ge_iff_le, Bool.or_eq_true, Bool.and_eq_true] at hc32
            exfalso; apply hc32; rw [hEl]
          try simp only [decide_eq_true_eq, decide_eq_false_iff_not, beq_iff_eq, beq_eq_false_iff_ne, bne_iff_ne, ne_eq, Bool.not_eq_true', Bool.not_eq_false', Bool.not_eq_true, Bool.not_eq_false, Int.not_lt, Int.not_le, Decidable.not_not, bne_eq_false_iff_eq, gt_iff_lt, ge_iff_le, Bool.or_eq_true, Bool.and_eq_true] at hc32
          refine Run.skip ?_
          refine Run.inBlock ?_
          refine Run.region ?_
          refine RunL.mv rfl rfl ?_
          first | refine RunL.pure (Pure.addI rfl rfl (by omega)) (Wt.none rfl) rfl rfl ?_ | refine RunL.pure (Pure.add rfl rfl) (Wt.none rfl) rfl rfl ?_
          refine RunL.as rfl rfl ?_
          refine RunL.nil ?_
          refine Run.mkR (q := b20) (mdel k tl) (by repeat (first | (with_reducible exact Take.nil _) | (apply Take.cons (by first | ((repeat (first | (with_reducible exact Find.here _) | apply Find.there)); done) | (repeat (first | exact Find.here _ | apply Find.there)))))) rfl rfl ?_
          refine Run.keep (.cons rfl (.cons rfl (.cons rfl (.cons rfl (.nil)))) : Keep _ [5, 6, 8, 11] _) ?_
          refine Run.againF (F := F) ih (by exact ⟨i + 1, mdel k tl, by omega, hkn.mdel, by omega, rfl, rfl, rfl⟩) (by repeat (first | (with_reducible exact Fin.done (by repeat (first | (with_reducible exact Rest.here) | apply Rest.there))) | (apply Fin.cons (by first | ((repeat (first | (with_reducible exact Find.here _) | apply Find.there)); done) | (repeat (first | exact Find.here _ | apply Find.there)))))) ?_
          omega
        · try simp only [decide_eq_true_eq, decide_eq_false_iff_not, beq_iff_eq, beq_eq_false_iff_ne, bne_iff_ne, ne_eq, Bool.not_eq_true', Bool.not_eq_false', Bool.not_eq_true, Bool.not_eq_false, Int.not_lt, Int.not_le, Decidable.not_not, bne_eq_false_iff_eq, gt_iff_lt, ge_iff_le, Bool.or_eq_true, Bool.and_eq_true] at h7
          refine Run.exit rfl ?_
          refine Run.sr ?_
          refine RunL.call rfl rfl (by rfl) (by repeat (first | (with_reducible exact Take.nil _) | (apply Take.cons (by first | ((repeat (first | (with_reducible exact Find.here _) | apply Find.there)); done) | (repeat (first | exact Find.here _ | apply Find.there)))))) (lives_ctr) (Wt.none rfl) rfl ?_
          rintro _ _ ⟨rfl, hA_⟩
          replace hA_ := hA_.symm; subst hA_
          refine RunL.as rfl rfl ?_
          refine RunL.nil ?_
          exact Run.ret Try.func4 (res1 rfl rfl) (by exact ⟨rfl, rfl⟩) (by repeat (first | (with_reducible exact Fin.done (by repeat (first | (with_reducible exact Rest.here) | apply Rest.there))) | (apply Fin.cons (by first | ((repeat (first | (with_reducible exact Find.here _) | apply Find.there)); done) | (repeat (first | exact Find.here _ | apply Find.there))))))
    · skip
      refine Run.cond rfl (fun h3 => ?_) (fun h3 => ?_)
      · try simp only [decide_eq_true_eq, decide_eq_false_iff_not, beq_iff_eq, beq_eq_false_iff_ne, bne_iff_ne, ne_eq, Bool.not_eq_true', Bool.not_eq_false', Bool.not_eq_true, Bool.not_eq_false, Int.not_lt, Int.not_le, Decidable.not_not, bne_eq_false_iff_eq, gt_iff_lt, ge_iff_le, Bool.or_eq_true, Bool.and_eq_true] at h3
        refine Run.openSl (a := ar) (n := (EL tl).length) (by first | ((repeat (first | (with_reducible exact Find.here _) | apply Find.there)); done) | (repeat (first | exact Find.here _ | apply Find.there))) (by omega) ?_; rintro b2 pre2 post2 rfl hsl1 hsl2 hsl3
        refine Run.regionD' (by kernel_rfl) (by kernel_rfl) (fun hok1089 => ?_)
        refine RunD.lend (Q := row b20 29 _) Lends.row (by first | ((repeat (first | (with_reducible exact Find.here _) | apply Find.there)); done) | (repeat (first | exact Find.here _ | apply Find.there))) ?_; intro g1 hleg1 hg1 backg1
        have h_g1 := h.mono hleg1
        refine RunD.lend (Q := row b2 36 _) Lends.row (by first | ((repeat (first | (with_reducible exact Find.here _) | apply Find.there)); done) | (repeat (first | exact Find.here _ | apply Find.there))) ?_; intro g2 hleg2 hg2 backg2
        try (replace hg1 := hg1.mono hleg2)
        have h_g2 := h_g1.mono hleg2
        obtain ⟨xl, hxl⟩ := get_some (xs := EL tl) (i := ((((EL tl).length : Nat) : Int) - 1).toNat) (by omega)
        refine RunD.pure (i := 0) hok1089 rfl (by kernel_rfl) (Pure.move rfl) (Wt.none rfl) rfl rfl ?_
        refine RunD.pure (i := 1) hok1089 rfl (by kernel_rfl) (Pure.move rfl) (Wt.none rfl) rfl rfl ?_
        refine RunD.pure (i := 2) hok1089 rfl (by kernel_rfl) (Pure.nilCheck rfl) (Wt.none rfl) rfl rfl ?_
        refine RunD.pure (i := 3) hok1089 rfl (by kernel_rfl) (Pure.fieldAddr rfl fo29_0) (Wt.none rfl) rfl rfl ?_
        refine RunD.load1R (i := 4) hok1089 rfl (by kernel_rfl) rfl (by assumption) (by rfl) agg27 (Wt.none rfl) rfl ?_
        refine RunD.pure (i := 5) hok1089 rfl (by kernel_rfl) (Pure.move rfl) (Wt.none rfl) rfl rfl ?_
        refine RunD.pure (i := 6) hok1089 rfl (by kernel_rfl) (Pure.nilCheck rfl) (Wt.none rfl) rfl rfl ?_
        refine RunD.pure (i := 7) hok1089 rfl (by kernel_rfl) (Pure.fieldAddr rfl fo29_0) (Wt.none rfl) rfl rfl ?_
        refine RunD.load1R (i := 8) hok1089 rfl (by kernel_rfl) rfl (by assumption) (by rfl) agg27 (Wt.none rfl) rfl ?_
        refine RunD.pure (i := 9) hok1089 rfl (by kernel_rfl) (Pure.lenSl rfl rfl und27) (Wt.none rfl) rfl rfl ?_
        first | refine RunD.pure (i := 10) hok1089 rfl (by kernel_rfl) (Pure.subI rfl rfl (by omega)) (Wt.none rfl) rfl rfl ?_ | refine RunD.pure (i := 10) hok1089 rfl (by kernel_rfl) (Pure.sub rfl rfl) (Wt.none rfl) rfl rfl ?_
        refine RunD.pure (i := 11) hok1089 rfl (by kernel_rfl) (Pure.indexAddr rfl rfl und27 sz36 (by omega) (by omega)) (Wt.none rfl) rfl rfl ?_
        refine RunD.pure (i := 12) hok1089 rfl (by kernel_rfl) (Pure.fieldAddr rfl fo36_1) (Wt.none rfl) rfl rfl ?_
        refine RunD.load1R (i := 13) hok1089 rfl (by kernel_rfl) rfl hg2 ((elem_at (pre := pre2) (post := post2) (f := cE) (sz := 2) (j := 1) (fun _ _ => rfl) hxl (by decide)).trans rfl) agg9 (Wt.none rfl) rfl ?_
        refine RunD.one (i := 14) (by kernel_rfl) rfl ?_
        refine RunL.lit (vals := [_]) (vs := ([xl.key] : List ByteArray).map Value.string) und34 sz9 zz9 rfl rfl rfl rfl rfl rfl (by simp [Value.cells, cE, cOO]) rfl (Wt.none rfl) rfl ?_; intro b68
        refine RunL.nilD' ?_
        refine RunD.one (i := 15) (by kernel_rfl) rfl ?_
        refine RunL.append (m := 1) (n' := ([cut key 4, xl.key] : List ByteArray).length) (cs' := ([cut key 4, xl.key] : List ByteArray).map Value.string) rfl rfl (by first | ((repeat (first | (with_reducible exact Find.here _) | apply Find.there)); done) | (repeat (first | exact Find.here _ | apply Find.there))) rfl rfl und34 und34 rfl sz9 zz9 rfl by9 (by omega) (by omega) (fun w sw => sw.src) (by simp [Value.isOne]) rfl rfl (Wt.none rfl) rfl ?_; intro a1 c1
        refine RunL.nilD' ?_
        refine RunD.pure (i := 16) hok1089 rfl (by kernel_rfl) (Pure.assign rfl) (Wt.none rfl) rfl rfl ?_
        refine RunD.nilB (by kernel_rfl) (fun w sw => backg1 _ _ (backg2 _ _ (sw))) ?_
        refine Run.mkSl (b := b2) (pre := pre2) (post := post2) (sz := 2) (cs := (EL tl).flatMap cE) (n := (EL tl).length) (by first | ((repeat (first | (with_reducible exact Find.here _) | apply Find.there)); done) | (repeat (first | exact Find.here _ | apply Find.there))) hsl1 hsl2 hsl3 ?_
        refine Run.mkR (q := b20) (tl) (by repeat (first | (with_reducible exact Take.nil _) | (apply Take.cons (by first | ((repeat (first | (with_reducible exact Find.here _) | apply Find.there)); done) | (repeat (first | exact Find.here _ | apply Find.there)))))) (rfl) (rfl) ?_
        refine Run.keep (.cons rfl (.cons rfl (.cons rfl (.nil))) : Keep _ [5, 6, 8] _) ?_
        exact Run.meetF (F := F) hk (by exact ⟨[cut key 4, xl.key], _, _, by simp, rfl, rfl⟩) (by repeat (first | (with_reducible exact Fin.done (by repeat (first | (with_reducible exact Rest.here) | apply Rest.there))) | (apply Fin.cons (by first | ((repeat (first | (with_reducible exact Find.here _) | apply Find.there)); done) | (repeat (first | exact Find.here _ | apply Find.there))))))
      · try simp only [decide_eq_true_eq, decide_eq_false_iff_not, beq_iff_eq, beq_eq_false_iff_ne, bne_iff_ne, ne_eq, Bool.not_eq_true', Bool.not_eq_false', Bool.not_eq_true, Bool.not_eq_false, Int.not_lt, Int.not_le, Decidable.not_not, bne_eq_false_iff_eq, gt_iff_lt, ge_iff_le, Bool.or_eq_true, Bool.and_eq_true] at h3
        refine Run.skip ?_
        refine Run.mkR (q := b20) (tl) (by repeat (first | (with_reducible exact Take.nil _) | (apply Take.cons (by first | ((repeat (first | (with_reducible exact Find.here _) | apply Find.there)); done) | (repeat (first | exact Find.here _ | apply Find.there)))))) (rfl) (rfl) ?_
        refine Run.keep (.cons rfl (.cons rfl (.cons rfl (.nil))) : Keep _ [5, 6, 8] _) ?_
        exact Run.meetF (F := F) hk (by exact ⟨[cut key 4], _, _, by simp, rfl, rfl⟩) (by repeat (first | (with_reducible exact Fin.done (by repeat (first | (with_reducible exact Rest.here) | apply Rest.there))) | (apply Fin.cons (by first | ((repeat (first | (with_reducible exact Find.here _) | apply Find.there)); done) | (repeat (first | exact Find.here _ | apply Find.there))))))

end Go.Proofs.Ytppamndllgojnaa
