/- Names made again. -/
import Derived.Test.YtlfldbkpndmdhaaM5
set_option linter.unusedVariables false
set_option linter.unusedSimpArgs false
set_option linter.unusedSectionVars false
namespace Go.Proofs.Ytlfldbkpndmdhaa
open Go Csl


set_option maxHeartbeats 8000000 in
set_option maxRecDepth 100000 in
theorem NameAgain_ctr {G : Gp} {s : ByteArray} {z : Int} (hz : (Lit.int .u8 z).wf = true) {a1 : Option Addr} {l1 : List Int} {c1 : Nat} (g1 : SlR G 3 1 a1 l1.length (l1.map (Value.int .i64))) (g1w : ∀ z ∈ l1, (Lit.int .i64 z).wf = true) (g1b : l1.length ≤ 9223372036854775807) {a2 : Option Addr} {l2 : List Int} {c2 : Nat} (g2 : SlR G 3 1 a2 l2.length (l2.map (Value.int .i64))) (g2w : ∀ z ∈ l2, (Lit.int .i64 z).wf = true) (g2b : l2.length ≤ 9223372036854775807) :
    Ctr Try.prog G 8 [.string s, .int .u8 z, .slice a1 l1.length c1, .slice a2 l2.length c2] [] (fun F v A => v = .bool true ∧ A = F) := by
  refine Ctr.intro Try.func8 rfl (by kernel_rfl) rfl (fun F => ?_)
  simp only [List.nil_append]
  obtain ⟨sg, rfl⟩ : ∃ sg : UInt8, z = ((sg.toNat : Nat) : Int) := ⟨UInt8.ofNat z.toNat, by have := wf_u8 hz; rw [UInt8.toNat_ofNat_of_lt' (by simp [UInt8.size]; omega)]; omega⟩
  refine Run.sr ?_
  refine RunL.as rfl rfl ?_
  refine RunL.nil ?_
  refine Run.seq ?_
  refine Run.cut (fun e A => ∃ (b : Nat) (xs : List ByteArray), xs.length = 3 ∧ (∀ x ∈ xs, x.size ≤ 100) ∧ e = [(9, .slice (some ⟨b, 0, none⟩) 3 3)] ∧ A = Sl 9 1 (some ⟨b, 0, none⟩) 3 3 (xs.map Value.string) :: F) (fun e A hM => ?_) (fun hk => ?_)
  · obtain ⟨bx, xs, hxn, hxz, rfl, hA_⟩ := hM
    replace hA_ := hA_.symm; subst hA_
    refine Run.lendAll (Q := Sl 9 1 (some ⟨bx, 0, none⟩) 3 3 (xs.map Value.string)) (Lends.litRow (n := 3)) (by first | ((repeat (first | (with_reducible exact Find.here _) | apply Find.there)); done) | (repeat (first | exact Find.here _ | apply Find.there))) (fun Ghs0 hleGhs0 hs0 => ?_)
    replace g1 := g1.mono hleGhs0
    replace g2 := g2.mono hleGhs0
    obtain ⟨postx, hs⟩ := hs0
    refine Run.seq ?_
    refine Run.sr ?_
    refine RunL.as rfl rfl ?_
    refine RunL.nil ?_
    refine Run.block ?_
    refine Run.keep (.cons rfl (.cons rfl (.nil)) : Keep _ [9, 10] _) ?_
    refine Run.loopF (F := F) (fun n e A => ∃ (i : Nat), i ≤ 3 ∧ n = 3 - i ∧ e = [(9, .slice (some ⟨bx, 0, none⟩) 3 3), (10, .int .i64 (i : Nat))] ∧ A = F) (3) (by exact ⟨0, by omega, rfl, rfl, rfl⟩) (by repeat (first | (with_reducible exact Fin.done (by repeat (first | (with_reducible exact Rest.here) | apply Rest.there))) | (apply Fin.cons (by first | ((repeat (first | (with_reducible exact Find.here _) | apply Find.there)); done) | (repeat (first | exact Find.here _ | apply Find.there)))))) ?_
    rintro n _ _ ⟨i, hi, rfl, rfl, hA_⟩ ih
    replace hA_ := hA_.symm; subst hA_
    refine Run.seq ?_
    refine Run.sr ?_
    refine RunL.mv rfl rfl ?_
    refine RunL.pure (Pure.lss rfl rfl) (Wt.none rfl) rfl rfl ?_
    refine RunL.nil ?_
    refine Run.cond rfl (fun hi5 => ?_) (fun hi5 => ?_)
    · try simp only [decide_eq_true_eq, decide_eq_false_iff_not, beq_iff_eq, beq_eq_false_iff_ne, bne_iff_ne, ne_eq, Bool.not_eq_true', Bool.not_eq_false', Bool.not_eq_true, Bool.not_eq_false, Int.not_lt, Int.not_le, Decidable.not_not, bne_eq_false_iff_eq, gt_iff_lt, ge_iff_le, Bool.or_eq_true, Bool.and_eq_true] at hi5
      obtain ⟨t, ht⟩ := get_some (xs := xs) (i := i) (by omega)
      have htz := hxz t (List.mem_of_getElem? ht)
      have hsz1 : (localB (bl t)).length ≤ t.size := by unfold localB; split; (simp only [List.length_take, List.length_drop, bl_length]; omega); simp
      have hsz2 : (homeB (bl t)).length ≤ t.size := by unfold homeB; split; (simp only [List.length_drop, bl_length]; omega); simp
      refine Run.skip ?_
      refine Run.seq ?_
      refine Run.block ?_
      refine Run.sr ?_
      refine RunL.mv rfl rfl ?_
      refine RunL.mv rfl rfl ?_
      refine RunL.pure (Pure.indexAddr rfl rfl und25 sz9 (by omega) (by omega)) (Wt.none rfl) rfl rfl ?_
      refine RunL.load1R rfl hs (elem1_at ht) agg9 (Wt.none rfl) rfl ?_
      refine RunL.as rfl rfl ?_
      refine RunL.nil ?_
      refine Run.sr ?_
      refine RunL.as rfl rfl ?_
      refine RunL.nil ?_
      refine Run.seq ?_
      refine Run.sr ?_
      refine RunL.mv rfl rfl ?_
      refine RunL.pure (Pure.lenStr rfl rfl und9) (Wt.none rfl) rfl rfl ?_
      refine RunL.pure (Pure.gtr rfl rfl) (Wt.none rfl) rfl rfl ?_
      refine RunL.nil ?_
      refine Run.cond rfl (fun hlen => ?_) (fun hlen => ?_)
      · try simp only [decide_eq_true_eq, decide_eq_false_iff_not, beq_iff_eq, beq_eq_false_iff_ne, bne_iff_ne, ne_eq, Bool.not_eq_true', Bool.not_eq_false', Bool.not_eq_true, Bool.not_eq_false, Int.not_lt, Int.not_le, Decidable.not_not, bne_eq_false_iff_eq, gt_iff_lt, ge_iff_le, Bool.or_eq_true, Bool.and_eq_true] at hlen
        obtain ⟨c, ht0⟩ := get_some (xs := bl t) (i := 0) (by rw [bl_length]; omega)
        rcases Bool.eq_false_or_eq_true (namedB 64 (bl t)) with hu | hu
        · skip
          obtain ⟨c', r, hcr, hc0, hp, hq, hall⟩ := make_again (.inl hu)
          obtain rfl : c = c' := by rw [hcr] at ht0; exact (Option.some.inj ht0).symm
          refine Run.region ?_
          refine RunL.mv rfl rfl ?_
          refine RunL.pure (Pure.indexStrC rfl rfl und9 ht0 (by omega)) (Wt.none rfl) rfl rfl ?_
          refine RunL.as rfl rfl ?_
          refine RunL.nil ?_
          refine Run.sr ?_
          refine RunL.mv rfl rfl ?_
          refine RunL.mv rfl rfl ?_
          refine RunL.call rfl rfl (by rfl) (by repeat (first | (with_reducible exact Take.nil _) | (apply Take.cons (by first | ((repeat (first | (with_reducible exact Find.here _) | apply Find.there)); done) | (repeat (first | exact Find.here _ | apply Find.there)))))) (nPart_ctr (by first | assumption | omega | (simp only [mkS_size, List.length_take, List.length_drop, bl_length]; omega) | (simp only [mkS_size, size_app, List.length_take, List.length_drop, List.length_append, bl_length, List.length_cons, List.length_nil, size_mk]; omega))) (Wt.none rfl) rfl ?_
          rintro _ _ ⟨rfl, hA_⟩
          replace hA_ := hA_.symm; subst hA_
          refine RunL.mv rfl rfl ?_
          refine RunL.call rfl rfl (by rfl) (by repeat (first | (with_reducible exact Take.nil _) | (apply Take.cons (by first | ((repeat (first | (with_reducible exact Find.here _) | apply Find.there)); done) | (repeat (first | exact Find.here _ | apply Find.there)))))) (nHome_ctr (by first | assumption | omega | (simp only [mkS_size, List.length_take, List.length_drop, bl_length]; omega) | (simp only [mkS_size, size_app, List.length_take, List.length_drop, List.length_append, bl_length, List.length_cons, List.length_nil, size_mk]; omega))) (Wt.none rfl) rfl ?_
          rintro _ _ ⟨rfl, hA_⟩
          replace hA_ := hA_.symm; subst hA_
          refine RunL.call rfl rfl (by rfl) (by repeat (first | (with_reducible exact Take.nil _) | (apply Take.cons (by first | ((repeat (first | (with_reducible exact Find.here _) | apply Find.there)); done) | (repeat (first | exact Find.here _ | apply Find.there)))))) (nMake_ctr (by rw [mkS_size]; omega) (by rw [mkS_size]; omega)) (Wt.none rfl) rfl ?_
          rintro _ _ ⟨rfl, hA_⟩
          replace hA_ := hA_.symm; subst hA_
          rw [if_neg (by rcases hc0 with rfl | rfl <;> decide), if_pos (by rw [bl_mkS, bl_mkS, hp, hq]; rfl), bl_mkS, bl_mkS, hall, mkS_bl]
          refine RunL.mv rfl rfl ?_
          refine RunL.pure (Pure.extract rfl rfl) (Wt.none rfl) rfl rfl ?_
          refine RunL.pure (Pure.extract rfl rfl) (Wt.none rfl) rfl rfl ?_
          refine RunL.as rfl rfl ?_
          refine RunL.as rfl rfl ?_
          refine RunL.nil ?_
          refine Run.sr ?_
          refine RunL.mv rfl rfl ?_
          refine RunL.call rfl rfl (by rfl) (by repeat (first | (with_reducible exact Take.nil _) | (apply Take.cons (by first | ((repeat (first | (with_reducible exact Find.here _) | apply Find.there)); done) | (repeat (first | exact Find.here _ | apply Find.there)))))) (rNamed_ctr (sg := 64) (by decide) (by first | assumption | omega | (simp only [mkS_size, List.length_take, List.length_drop, bl_length]; omega) | (simp only [mkS_size, size_app, List.length_take, List.length_drop, List.length_append, bl_length, List.length_cons, List.length_nil, size_mk]; omega))) (Wt.none rfl) rfl ?_
          rintro _ _ ⟨rfl, hA_⟩
          replace hA_ := hA_.symm; subst hA_
          refine RunL.mv rfl rfl ?_
          refine RunL.split (d := 60) rfl (fun hg1 => ?_) (fun hg1 => ?_)
          rotate_left
          · try simp only [decide_eq_true_eq, decide_eq_false_iff_not, beq_iff_eq, beq_eq_false_iff_ne, bne_iff_ne, ne_eq, Bool.not_eq_true', Bool.not_eq_false', Bool.not_eq_true, Bool.not_eq_false, Int.not_lt, Int.not_le, Decidable.not_not, bne_eq_false_iff_eq, gt_iff_lt, ge_iff_le, Bool.or_eq_true, Bool.and_eq_true] at hg1
            exfalso
            rw [hu] at hg1; cases hg1
          try simp only [decide_eq_true_eq, decide_eq_false_iff_not, beq_iff_eq, beq_eq_false_iff_ne, bne_iff_ne, ne_eq, Bool.not_eq_true', Bool.not_eq_false', Bool.not_eq_true, Bool.not_eq_false, Int.not_lt, Int.not_le, Decidable.not_not, bne_eq_false_iff_eq, gt_iff_lt, ge_iff_le, Bool.or_eq_true, Bool.and_eq_true] at hg1
          refine RunL.not (Wt.no rfl rfl rfl) rfl rfl ?_
          refine RunL.not (Wt.no rfl rfl rfl) rfl rfl ?_
          refine RunL.pure (Pure.pickT rfl rfl) (Wt.none rfl) rfl rfl ?_
          refine RunL.as rfl rfl ?_
          refine RunL.nil ?_
          refine Run.sr ?_
          refine RunL.mv rfl rfl ?_
          refine RunL.mv rfl rfl ?_
          refine RunL.pure (Pure.eql rfl rfl) (Wt.none rfl) rfl rfl ?_
          refine RunL.pure (Pure.bneq rfl rfl und4) (Wt.none rfl) rfl rfl ?_
          refine RunL.mv rfl rfl ?_
          refine RunL.split (d := 68) rfl (fun hg2 => ?_) (fun hg2 => ?_)
          · try simp only [decide_eq_true_eq, decide_eq_false_iff_not, beq_iff_eq, beq_eq_false_iff_ne, bne_iff_ne, ne_eq, Bool.not_eq_true', Bool.not_eq_false', Bool.not_eq_true, Bool.not_eq_false, Int.not_lt, Int.not_le, Decidable.not_not, bne_eq_false_iff_eq, gt_iff_lt, ge_iff_le, Bool.or_eq_true, Bool.and_eq_true] at hg2
            exfalso
            simp at hg2
          try simp only [decide_eq_true_eq, decide_eq_false_iff_not, beq_iff_eq, beq_eq_false_iff_ne, bne_iff_ne, ne_eq, Bool.not_eq_true', Bool.not_eq_false', Bool.not_eq_true, Bool.not_eq_false, Int.not_lt, Int.not_le, Decidable.not_not, bne_eq_false_iff_eq, gt_iff_lt, ge_iff_le, Bool.or_eq_true, Bool.and_eq_true] at hg2
          refine RunL.pure (Pure.move rfl) (Wt.yes rfl rfl rfl) rfl rfl ?_
          refine RunL.pure (Pure.move rfl) (Wt.yes rfl rfl rfl) rfl rfl ?_
          refine RunL.pure (Pure.move rfl) (Wt.yes rfl rfl rfl) rfl rfl ?_
          refine RunL.pure (Pure.move rfl) (Wt.yes rfl rfl rfl) rfl rfl ?_
          refine RunL.pure (Pure.sneq rfl rfl) (Wt.yes rfl rfl rfl) rfl rfl ?_
          refine RunL.pure (Pure.pickT rfl rfl) (Wt.yes rfl rfl rfl) rfl rfl ?_
          refine RunL.pure (Pure.pickF rfl rfl) (Wt.none rfl) rfl rfl ?_
          refine RunL.nil ?_
          refine Run.cond rfl (fun hc3 => ?_) (fun hc3 => ?_)
          · try simp only [decide_eq_true_eq, decide_eq_false_iff_not, beq_iff_eq, beq_eq_false_iff_ne, bne_iff_ne, ne_eq, Bool.not_eq_true', Bool.not_eq_false', Bool.not_eq_true, Bool.not_eq_false, Int.not_lt, Int.not_le, Decidable.not_not, bne_eq_false_iff_eq, gt_iff_lt, ge_iff_le, Bool.or_eq_true, Bool.and_eq_true] at hc3
            exfalso
            simp at hc3
          try simp only [decide_eq_true_eq, decide_eq_false_iff_not, beq_iff_eq, beq_eq_false_iff_ne, bne_iff_ne, ne_eq, Bool.not_eq_true', Bool.not_eq_false', Bool.not_eq_true, Bool.not_eq_false, Int.not_lt, Int.not_le, Decidable.not_not, bne_eq_false_iff_eq, gt_iff_lt, ge_iff_le, Bool.or_eq_true, Bool.and_eq_true] at hc3
          refine Run.skip ?_
          refine Run.inBlock ?_
          refine Run.region ?_
          refine RunL.mv rfl rfl ?_
          first | refine RunL.pure (Pure.addI rfl rfl (by omega)) (Wt.none rfl) rfl rfl ?_ | refine RunL.pure (Pure.add rfl rfl) (Wt.none rfl) rfl rfl ?_
          refine RunL.as rfl rfl ?_
          refine RunL.nil ?_
          refine Run.keep (.cons rfl (.cons rfl (.nil)) : Keep _ [9, 10] _) ?_
          refine Run.againF (F := F) ih (by exact ⟨i + 1, by omega, rfl, rfl, rfl⟩) (by repeat (first | (with_reducible exact Fin.done (by repeat (first | (with_reducible exact Rest.here) | apply Rest.there))) | (apply Fin.cons (by first | ((repeat (first | (with_reducible exact Find.here _) | apply Find.there)); done) | (repeat (first | exact Find.here _ | apply Find.there)))))) ?_
          omega
        · skip
          rcases Bool.eq_false_or_eq_true (namedB 33 (bl t)) with hr | hr
          · skip
            obtain ⟨c', r, hcr, hc0, hp, hq, hall⟩ := make_again (.inr hr)
            obtain rfl : c = c' := by rw [hcr] at ht0; exact (Option.some.inj ht0).symm
            refine Run.region ?_
            refine RunL.mv rfl rfl ?_
            refine RunL.pure (Pure.indexStrC rfl rfl und9 ht0 (by omega)) (Wt.none rfl) rfl rfl ?_
            refine RunL.as rfl rfl ?_
            refine RunL.nil ?_
            refine Run.sr ?_
            refine RunL.mv rfl rfl ?_
            refine RunL.mv rfl rfl ?_
            refine RunL.call rfl rfl (by rfl) (by repeat (first | (with_reducible exact Take.nil _) | (apply Take.cons (by first | ((repeat (first | (with_reducible exact Find.here _) | apply Find.there)); done) | (repeat (first | exact Find.here _ | apply Find.there)))))) (nPart_ctr (by first | assumption | omega | (simp only [mkS_size, List.length_take, List.length_drop, bl_length]; omega) | (simp only [mkS_size, size_app, List.length_take, List.length_drop, List.length_append, bl_length, List.length_cons, List.length_nil, size_mk]; omega))) (Wt.none rfl) rfl ?_
            rintro _ _ ⟨rfl, hA_⟩
            replace hA_ := hA_.symm; subst hA_
            refine RunL.mv rfl rfl ?_
            refine RunL.call rfl rfl (by rfl) (by repeat (first | (with_reducible exact Take.nil _) | (apply Take.cons (by first | ((repeat (first | (with_reducible exact Find.here _) | apply Find.there)); done) | (repeat (first | exact Find.here _ | apply Find.there)))))) (nHome_ctr (by first | assumption | omega | (simp only [mkS_size, List.length_take, List.length_drop, bl_length]; omega) | (simp only [mkS_size, size_app, List.length_take, List.length_drop, List.length_append, bl_length, List.length_cons, List.length_nil, size_mk]; omega))) (Wt.none rfl) rfl ?_
            rintro _ _ ⟨rfl, hA_⟩
            replace hA_ := hA_.symm; subst hA_
            refine RunL.call rfl rfl (by rfl) (by repeat (first | (with_reducible exact Take.nil _) | (apply Take.cons (by first | ((repeat (first | (with_reducible exact Find.here _) | apply Find.there)); done) | (repeat (first | exact Find.here _ | apply Find.there)))))) (nMake_ctr (by rw [mkS_size]; omega) (by rw [mkS_size]; omega)) (Wt.none rfl) rfl ?_
            rintro _ _ ⟨rfl, hA_⟩
            replace hA_ := hA_.symm; subst hA_
            rw [if_neg (by rcases hc0 with rfl | rfl <;> decide), if_pos (by rw [bl_mkS, bl_mkS, hp, hq]; rfl), bl_mkS, bl_mkS, hall, mkS_bl]
            refine RunL.mv rfl rfl ?_
            refine RunL.pure (Pure.extract rfl rfl) (Wt.none rfl) rfl rfl ?_
            refine RunL.pure (Pure.extract rfl rfl) (Wt.none rfl) rfl rfl ?_
            refine RunL.as rfl rfl ?_
            refine RunL.as rfl rfl ?_
            refine RunL.nil ?_
            refine Run.sr ?_
            refine RunL.mv rfl rfl ?_
            refine RunL.call rfl rfl (by rfl) (by repeat (first | (with_reducible exact Take.nil _) | (apply Take.cons (by first | ((repeat (first | (with_reducible exact Find.here _) | apply Find.there)); done) | (repeat (first | exact Find.here _ | apply Find.there)))))) (rNamed_ctr (sg := 64) (by decide) (by first | assumption | omega | (simp only [mkS_size, List.length_take, List.length_drop, bl_length]; omega) | (simp only [mkS_size, size_app, List.length_take, List.length_drop, List.length_append, bl_length, List.length_cons, List.length_nil, size_mk]; omega))) (Wt.none rfl) rfl ?_
            rintro _ _ ⟨rfl, hA_⟩
            replace hA_ := hA_.symm; subst hA_
            refine RunL.mv rfl rfl ?_
            refine RunL.split (d := 60) rfl (fun hg4 => ?_) (fun hg4 => ?_)
            · try simp only [decide_eq_true_eq, decide_eq_false_iff_not, beq_iff_eq, beq_eq_false_iff_ne, bne_iff_ne, ne_eq, Bool.not_eq_true', Bool.not_eq_false', Bool.not_eq_true, Bool.not_eq_false, Int.not_lt, Int.not_le, Decidable.not_not, bne_eq_false_iff_eq, gt_iff_lt, ge_iff_le, Bool.or_eq_true, Bool.and_eq_true] at hg4
              exfalso
              rw [hu] at hg4; cases hg4
            try simp only [decide_eq_true_eq, decide_eq_false_iff_not, beq_iff_eq, beq_eq_false_iff_ne, bne_iff_ne, ne_eq, Bool.not_eq_true', Bool.not_eq_false', Bool.not_eq_true, Bool.not_eq_false, Int.not_lt, Int.not_le, Decidable.not_not, bne_eq_false_iff_eq, gt_iff_lt, ge_iff_le, Bool.or_eq_true, Bool.and_eq_true] at hg4
            refine RunL.pure (Pure.move rfl) (Wt.yes rfl rfl rfl) rfl rfl ?_
            refine RunL.call rfl rfl (by rfl) (by repeat (first | (with_reducible exact Take.nil _) | (apply Take.cons (by first | ((repeat (first | (with_reducible exact Find.here _) | apply Find.there)); done) | (repeat (first | exact Find.here _ | apply Find.there)))))) (rNamed_ctr (sg := 33) (by decide) (by first | assumption | omega | (simp only [mkS_size, List.length_take, List.length_drop, bl_length]; omega) | (simp only [mkS_size, size_app, List.length_take, List.length_drop, List.length_append, bl_length, List.length_cons, List.length_nil, size_mk]; omega))) (Wt.yes rfl rfl rfl) rfl ?_
            rintro _ _ ⟨rfl, hA_⟩
            replace hA_ := hA_.symm; subst hA_
            refine RunL.pure (Pure.pickF rfl rfl) (Wt.none rfl) rfl rfl ?_
            refine RunL.as rfl rfl ?_
            refine RunL.nil ?_
            refine Run.sr ?_
            refine RunL.mv rfl rfl ?_
            refine RunL.mv rfl rfl ?_
            refine RunL.pure (Pure.eql rfl rfl) (Wt.none rfl) rfl rfl ?_
            refine RunL.pure (Pure.bneq rfl rfl und4) (Wt.none rfl) rfl rfl ?_
            refine RunL.mv rfl rfl ?_
            refine RunL.split (d := 68) rfl (fun hg5 => ?_) (fun hg5 => ?_)
            · try simp only [decide_eq_true_eq, decide_eq_false_iff_not, beq_iff_eq, beq_eq_false_iff_ne, bne_iff_ne, ne_eq, Bool.not_eq_true', Bool.not_eq_false', Bool.not_eq_true, Bool.not_eq_false, Int.not_lt, Int.not_le, Decidable.not_not, bne_eq_false_iff_eq, gt_iff_lt, ge_iff_le, Bool.or_eq_true, Bool.and_eq_true] at hg5
              exfalso
              rw [hr] at hg5; simp at hg5
            try simp only [decide_eq_true_eq, decide_eq_false_iff_not, beq_iff_eq, beq_eq_false_iff_ne, bne_iff_ne, ne_eq, Bool.not_eq_true', Bool.not_eq_false', Bool.not_eq_true, Bool.not_eq_false, Int.not_lt, Int.not_le, Decidable.not_not, bne_eq_false_iff_eq, gt_iff_lt, ge_iff_le, Bool.or_eq_true, Bool.and_eq_true] at hg5
            refine RunL.pure (Pure.move rfl) (Wt.yes rfl rfl rfl) rfl rfl ?_
            refine RunL.pure (Pure.move rfl) (Wt.yes rfl rfl rfl) rfl rfl ?_
            refine RunL.split (d := 70) rfl (fun hg6 => ?_) (fun hg6 => ?_)
            rotate_left
            · try simp only [decide_eq_true_eq, decide_eq_false_iff_not, beq_iff_eq, beq_eq_false_iff_ne, bne_iff_ne, ne_eq, Bool.not_eq_true', Bool.not_eq_false', Bool.not_eq_true, Bool.not_eq_false, Int.not_lt, Int.not_le, Decidable.not_not, bne_eq_false_iff_eq, gt_iff_lt, ge_iff_le, Bool.or_eq_true, Bool.and_eq_true] at hg6
              exfalso
              rw [hr] at hg6; cases hg6
            try simp only [decide_eq_true_eq, decide_eq_false_iff_not, beq_iff_eq, beq_eq_false_iff_ne, bne_iff_ne, ne_eq, Bool.not_eq_true', Bool.not_eq_false', Bool.not_eq_true, Bool.not_eq_false, Int.not_lt, Int.not_le, Decidable.not_not, bne_eq_false_iff_eq, gt_iff_lt, ge_iff_le, Bool.or_eq_true, Bool.and_eq_true] at hg6
            refine RunL.pure (Pure.move rfl) (Wt.yes rfl rfl rfl) rfl rfl ?_
            refine RunL.pure (Pure.move rfl) (Wt.yes rfl rfl rfl) rfl rfl ?_
            refine RunL.pure (Pure.sneq rfl rfl) (Wt.yes rfl rfl rfl) rfl rfl ?_
            refine RunL.pure (Pure.pickT rfl rfl) (Wt.yes rfl rfl rfl) rfl rfl ?_
            refine RunL.pure (Pure.pickF rfl rfl) (Wt.none rfl) rfl rfl ?_
            refine RunL.nil ?_
            refine Run.cond rfl (fun hc7 => ?_) (fun hc7 => ?_)
            · try simp only [decide_eq_true_eq, decide_eq_false_iff_not, beq_iff_eq, beq_eq_false_iff_ne, bne_iff_ne, ne_eq, Bool.not_eq_true', Bool.not_eq_false', Bool.not_eq_true, Bool.not_eq_false, Int.not_lt, Int.not_le, Decidable.not_not, bne_eq_false_iff_eq, gt_iff_lt, ge_iff_le, Bool.or_eq_true, Bool.and_eq_true] at hc7
              exfalso
              simp at hc7
            try simp only [decide_eq_true_eq, decide_eq_false_iff_not, beq_iff_eq, beq_eq_false_iff_ne, bne_iff_ne, ne_eq, Bool.not_eq_true', Bool.not_eq_false', Bool.not_eq_true, Bool.not_eq_false, Int.not_lt, Int.not_le, Decidable.not_not, bne_eq_false_iff_eq, gt_iff_lt, ge_iff_le, Bool.or_eq_true, Bool.and_eq_true] at hc7
            refine Run.skip ?_
            refine Run.inBlock ?_
            refine Run.region ?_
            refine RunL.mv rfl rfl ?_
            first | refine RunL.pure (Pure.addI rfl rfl (by omega)) (Wt.none rfl) rfl rfl ?_ | refine RunL.pure (Pure.add rfl rfl) (Wt.none rfl) rfl rfl ?_
            refine RunL.as rfl rfl ?_
            refine RunL.nil ?_
            refine Run.keep (.cons rfl (.cons rfl (.nil)) : Keep _ [9, 10] _) ?_
            refine Run.againF (F := F) ih (by exact ⟨i + 1, by omega, rfl, rfl, rfl⟩) (by repeat (first | (with_reducible exact Fin.done (by repeat (first | (with_reducible exact Rest.here) | apply Rest.there))) | (apply Fin.cons (by first | ((repeat (first | (with_reducible exact Find.here _) | apply Find.there)); done) | (repeat (first | exact Find.here _ | apply Find.there)))))) ?_
            omega
          · skip
            obtain ⟨hh1, hh2⟩ := home_no hu hr
            by_cases hcc : c ≠ 64 ∧ c ≠ 33
            · skip
              refine Run.region ?_
              refine RunL.mv rfl rfl ?_
              refine RunL.pure (Pure.indexStrC rfl rfl und9 ht0 (by omega)) (Wt.none rfl) rfl rfl ?_
              refine RunL.as rfl rfl ?_
              refine RunL.nil ?_
              refine Run.sr ?_
              refine RunL.mv rfl rfl ?_
              refine RunL.mv rfl rfl ?_
              refine RunL.call rfl rfl (by rfl) (by repeat (first | (with_reducible exact Take.nil _) | (apply Take.cons (by first | ((repeat (first | (with_reducible exact Find.here _) | apply Find.there)); done) | (repeat (first | exact Find.here _ | apply Find.there)))))) (nPart_ctr (by first | assumption | omega | (simp only [mkS_size, List.length_take, List.length_drop, bl_length]; omega) | (simp only [mkS_size, size_app, List.length_take, List.length_drop, List.length_append, bl_length, List.length_cons, List.length_nil, size_mk]; omega))) (Wt.none rfl) rfl ?_
              rintro _ _ ⟨rfl, hA_⟩
              replace hA_ := hA_.symm; subst hA_
              refine RunL.mv rfl rfl ?_
              refine RunL.call rfl rfl (by rfl) (by repeat (first | (with_reducible exact Take.nil _) | (apply Take.cons (by first | ((repeat (first | (with_reducible exact Find.here _) | apply Find.there)); done) | (repeat (first | exact Find.here _ | apply Find.there)))))) (nHome_ctr (by first | assumption | omega | (simp only [mkS_size, List.length_take, List.length_drop, bl_length]; omega) | (simp only [mkS_size, size_app, List.length_take, List.length_drop, List.length_append, bl_length, List.length_cons, List.length_nil, size_mk]; omega))) (Wt.none rfl) rfl ?_
              rintro _ _ ⟨rfl, hA_⟩
              replace hA_ := hA_.symm; subst hA_
              refine RunL.call rfl rfl (by rfl) (by repeat (first | (with_reducible exact Take.nil _) | (apply Take.cons (by first | ((repeat (first | (with_reducible exact Find.here _) | apply Find.there)); done) | (repeat (first | exact Find.here _ | apply Find.there)))))) (nMake_ctr (by rw [mkS_size]; omega) (by rw [mkS_size]; omega)) (Wt.none rfl) rfl ?_
              rintro _ _ ⟨rfl, hA_⟩
              replace hA_ := hA_.symm; subst hA_
              rw [if_pos hcc]
              refine RunL.mv rfl rfl ?_
              refine RunL.pure (Pure.extract rfl rfl) (Wt.none rfl) rfl rfl ?_
              refine RunL.pure (Pure.extract rfl rfl) (Wt.none rfl) rfl rfl ?_
              refine RunL.as rfl rfl ?_
              refine RunL.as rfl rfl ?_
              refine RunL.nil ?_
              refine Run.sr ?_
              refine RunL.mv rfl rfl ?_
              refine RunL.call rfl rfl (by rfl) (by repeat (first | (with_reducible exact Take.nil _) | (apply Take.cons (by first | ((repeat (first | (with_reducible exact Find.here _) | apply Find.there)); done) | (repeat (first | exact Find.here _ | apply Find.there)))))) (rNamed_ctr (sg := 64) (by decide) (by first | assumption | omega | (simp only [mkS_size, List.length_take, List.length_drop, bl_length]; omega) | (simp only [mkS_size, size_app, List.length_take, List.length_drop, List.length_append, bl_length, List.length_cons, List.length_nil, size_mk]; omega))) (Wt.none rfl) rfl ?_
              rintro _ _ ⟨rfl, hA_⟩
              replace hA_ := hA_.symm; subst hA_
              refine RunL.mv rfl rfl ?_
              refine RunL.split (d := 60) rfl (fun hg8 => ?_) (fun hg8 => ?_)
              · try simp only [decide_eq_true_eq, decide_eq_false_iff_not, beq_iff_eq, beq_eq_false_iff_ne, bne_iff_ne, ne_eq, Bool.not_eq_true', Bool.not_eq_false', Bool.not_eq_true, Bool.not_eq_false, Int.not_lt, Int.not_le, Decidable.not_not, bne_eq_false_iff_eq, gt_iff_lt, ge_iff_le, Bool.or_eq_true, Bool.and_eq_true] at hg8
                exfalso
                rw [hu] at hg8; cases hg8
              try simp only [decide_eq_true_eq, decide_eq_false_iff_not, beq_iff_eq, beq_eq_false_iff_ne, bne_iff_ne, ne_eq, Bool.not_eq_true', Bool.not_eq_false', Bool.not_eq_true, Bool.not_eq_false, Int.not_lt, Int.not_le, Decidable.not_not, bne_eq_false_iff_eq, gt_iff_lt, ge_iff_le, Bool.or_eq_true, Bool.and_eq_true] at hg8
              refine RunL.pure (Pure.move rfl) (Wt.yes rfl rfl rfl) rfl rfl ?_
              refine RunL.call rfl rfl (by rfl) (by repeat (first | (with_reducible exact Take.nil _) | (apply Take.cons (by first | ((repeat (first | (with_reducible exact Find.here _) | apply Find.there)); done) | (repeat (first | exact Find.here _ | apply Find.there)))))) (rNamed_ctr (sg := 33) (by decide) (by first | assumption | omega | (simp only [mkS_size, List.length_take, List.length_drop, bl_length]; omega) | (simp only [mkS_size, size_app, List.length_take, List.length_drop, List.length_append, bl_length, List.length_cons, List.length_nil, size_mk]; omega))) (Wt.yes rfl rfl rfl) rfl ?_
              rintro _ _ ⟨rfl, hA_⟩
              replace hA_ := hA_.symm; subst hA_
              refine RunL.pure (Pure.pickF rfl rfl) (Wt.none rfl) rfl rfl ?_
              refine RunL.as rfl rfl ?_
              refine RunL.nil ?_
              refine Run.sr ?_
              refine RunL.mv rfl rfl ?_
              refine RunL.mv rfl rfl ?_
              refine RunL.pure (Pure.eql rfl rfl) (Wt.none rfl) rfl rfl ?_
              refine RunL.pure (Pure.bneq rfl rfl und4) (Wt.none rfl) rfl rfl ?_
              refine RunL.mv rfl rfl ?_
              refine RunL.split (d := 68) rfl (fun hg9 => ?_) (fun hg9 => ?_)
              · try simp only [decide_eq_true_eq, decide_eq_false_iff_not, beq_iff_eq, beq_eq_false_iff_ne, bne_iff_ne, ne_eq, Bool.not_eq_true', Bool.not_eq_false', Bool.not_eq_true, Bool.not_eq_false, Int.not_lt, Int.not_le, Decidable.not_not, bne_eq_false_iff_eq, gt_iff_lt, ge_iff_le, Bool.or_eq_true, Bool.and_eq_true] at hg9
                exfalso
                rw [hr] at hg9; simp at hg9
              try simp only [decide_eq_true_eq, decide_eq_false_iff_not, beq_iff_eq, beq_eq_false_iff_ne, bne_iff_ne, ne_eq, Bool.not_eq_true', Bool.not_eq_false', Bool.not_eq_true, Bool.not_eq_false, Int.not_lt, Int.not_le, Decidable.not_not, bne_eq_false_iff_eq, gt_iff_lt, ge_iff_le, Bool.or_eq_true, Bool.and_eq_true] at hg9
              refine RunL.pure (Pure.move rfl) (Wt.yes rfl rfl rfl) rfl rfl ?_
              refine RunL.pure (Pure.move rfl) (Wt.yes rfl rfl rfl) rfl rfl ?_
              refine RunL.split (d := 70) rfl (fun hg10 => ?_) (fun hg10 => ?_)
              · try simp only [decide_eq_true_eq, decide_eq_false_iff_not, beq_iff_eq, beq_eq_false_iff_ne, bne_iff_ne, ne_eq, Bool.not_eq_true', Bool.not_eq_false', Bool.not_eq_true, Bool.not_eq_false, Int.not_lt, Int.not_le, Decidable.not_not, bne_eq_false_iff_eq, gt_iff_lt, ge_iff_le, Bool.or_eq_true, Bool.and_eq_true] at hg10
                exfalso
                rw [hr] at hg10; cases hg10
              try simp only [decide_eq_true_eq, decide_eq_false_iff_not, beq_iff_eq, beq_eq_false_iff_ne, bne_iff_ne, ne_eq, Bool.not_eq_true', Bool.not_eq_false', Bool.not_eq_true, Bool.not_eq_false, Int.not_lt, Int.not_le, Decidable.not_not, bne_eq_false_iff_eq, gt_iff_lt, ge_iff_le, Bool.or_eq_true, Bool.and_eq_true] at hg10
              refine RunL.not (Wt.no rfl rfl rfl) rfl rfl ?_
              refine RunL.not (Wt.no rfl rfl rfl) rfl rfl ?_
              refine RunL.not (Wt.no rfl rfl rfl) rfl rfl ?_
              refine RunL.pure (Pure.pickF rfl rfl) (Wt.yes rfl rfl rfl) rfl rfl ?_
              refine RunL.pure (Pure.pickF rfl rfl) (Wt.none rfl) rfl rfl ?_
              refine RunL.nil ?_
              refine Run.condF rfl ?_
              refine Run.skip ?_
              refine Run.inBlock ?_
              refine Run.region ?_
              refine RunL.mv rfl rfl ?_
              first | refine RunL.pure (Pure.addI rfl rfl (by omega)) (Wt.none rfl) rfl rfl ?_ | refine RunL.pure (Pure.add rfl rfl) (Wt.none rfl) rfl rfl ?_
              refine RunL.as rfl rfl ?_
              refine RunL.nil ?_
              refine Run.keep (.cons rfl (.cons rfl (.nil)) : Keep _ [9, 10] _) ?_
              refine Run.againF (F := F) ih (by exact ⟨i + 1, by omega, rfl, rfl, rfl⟩) (by repeat (first | (with_reducible exact Fin.done (by repeat (first | (with_reducible exact Rest.here) | apply Rest.there))) | (apply Fin.cons (by first | ((repeat (first | (with_reducible exact Find.here _) | apply Find.there)); done) | (repeat (first | exact Find.here _ | apply Find.there)))))) ?_
              omega
            · skip
              refine Run.region ?_
              refine RunL.mv rfl rfl ?_
              refine RunL.pure (Pure.indexStrC rfl rfl und9 ht0 (by omega)) (Wt.none rfl) rfl rfl ?_
              refine RunL.as rfl rfl ?_
              refine RunL.nil ?_
              refine Run.sr ?_
              refine RunL.mv rfl rfl ?_
              refine RunL.mv rfl rfl ?_
              refine RunL.call rfl rfl (by rfl) (by repeat (first | (with_reducible exact Take.nil _) | (apply Take.cons (by first | ((repeat (first | (with_reducible exact Find.here _) | apply Find.there)); done) | (repeat (first | exact Find.here _ | apply Find.there)))))) (nPart_ctr (by first | assumption | omega | (simp only [mkS_size, List.length_take, List.length_drop, bl_length]; omega) | (simp only [mkS_size, size_app, List.length_take, List.length_drop, List.length_append, bl_length, List.length_cons, List.length_nil, size_mk]; omega))) (Wt.none rfl) rfl ?_
              rintro _ _ ⟨rfl, hA_⟩
              replace hA_ := hA_.symm; subst hA_
              refine RunL.mv rfl rfl ?_
              refine RunL.call rfl rfl (by rfl) (by repeat (first | (with_reducible exact Take.nil _) | (apply Take.cons (by first | ((repeat (first | (with_reducible exact Find.here _) | apply Find.there)); done) | (repeat (first | exact Find.here _ | apply Find.there)))))) (nHome_ctr (by first | assumption | omega | (simp only [mkS_size, List.length_take, List.length_drop, bl_length]; omega) | (simp only [mkS_size, size_app, List.length_take, List.length_drop, List.length_append, bl_length, List.length_cons, List.length_nil, size_mk]; omega))) (Wt.none rfl) rfl ?_
              rintro _ _ ⟨rfl, hA_⟩
              replace hA_ := hA_.symm; subst hA_
              refine RunL.call rfl rfl (by rfl) (by repeat (first | (with_reducible exact Take.nil _) | (apply Take.cons (by first | ((repeat (first | (with_reducible exact Find.here _) | apply Find.there)); done) | (repeat (first | exact Find.here _ | apply Find.there)))))) (nMake_ctr (by rw [mkS_size]; omega) (by rw [mkS_size]; omega)) (Wt.none rfl) rfl ?_
              rintro _ _ ⟨rfl, hA_⟩
              replace hA_ := hA_.symm; subst hA_
              rw [if_neg hcc, if_neg (by rw [bl_mkS, hh2]; simp [mayB])]
              refine RunL.mv rfl rfl ?_
              refine RunL.pure (Pure.extract rfl rfl) (Wt.none rfl) rfl rfl ?_
              refine RunL.pure (Pure.extract rfl rfl) (Wt.none rfl) rfl rfl ?_
              refine RunL.as rfl rfl ?_
              refine RunL.as rfl rfl ?_
              refine RunL.nil ?_
              refine Run.sr ?_
              refine RunL.mv rfl rfl ?_
              refine RunL.call rfl rfl (by rfl) (by repeat (first | (with_reducible exact Take.nil _) | (apply Take.cons (by first | ((repeat (first | (with_reducible exact Find.here _) | apply Find.there)); done) | (repeat (first | exact Find.here _ | apply Find.there)))))) (rNamed_ctr (sg := 64) (by decide) (by first | assumption | omega | (simp only [mkS_size, List.length_take, List.length_drop, bl_length]; omega) | (simp only [mkS_size, size_app, List.length_take, List.length_drop, List.length_append, bl_length, List.length_cons, List.length_nil, size_mk]; omega))) (Wt.none rfl) rfl ?_
              rintro _ _ ⟨rfl, hA_⟩
              replace hA_ := hA_.symm; subst hA_
              refine RunL.mv rfl rfl ?_
              refine RunL.split (d := 60) rfl (fun hg11 => ?_) (fun hg11 => ?_)
              · try simp only [decide_eq_true_eq, decide_eq_false_iff_not, beq_iff_eq, beq_eq_false_iff_ne, bne_iff_ne, ne_eq, Bool.not_eq_true', Bool.not_eq_false', Bool.not_eq_true, Bool.not_eq_false, Int.not_lt, Int.not_le, Decidable.not_not, bne_eq_false_iff_eq, gt_iff_lt, ge_iff_le, Bool.or_eq_true, Bool.and_eq_true] at hg11
                exfalso
                rw [hu] at hg11; cases hg11
              try simp only [decide_eq_true_eq, decide_eq_false_iff_not, beq_iff_eq, beq_eq_false_iff_ne, bne_iff_ne, ne_eq, Bool.not_eq_true', Bool.not_eq_false', Bool.not_eq_true, Bool.not_eq_false, Int.not_lt, Int.not_le, Decidable.not_not, bne_eq_false_iff_eq, gt_iff_lt, ge_iff_le, Bool.or_eq_true, Bool.and_eq_true] at hg11
              refine RunL.pure (Pure.move rfl) (Wt.yes rfl rfl rfl) rfl rfl ?_
              refine RunL.call rfl rfl (by rfl) (by repeat (first | (with_reducible exact Take.nil _) | (apply Take.cons (by first | ((repeat (first | (with_reducible exact Find.here _) | apply Find.there)); done) | (repeat (first | exact Find.here _ | apply Find.there)))))) (rNamed_ctr (sg := 33) (by decide) (by first | assumption | omega | (simp only [mkS_size, List.length_take, List.length_drop, bl_length]; omega) | (simp only [mkS_size, size_app, List.length_take, List.length_drop, List.length_append, bl_length, List.length_cons, List.length_nil, size_mk]; omega))) (Wt.yes rfl rfl rfl) rfl ?_
              rintro _ _ ⟨rfl, hA_⟩
              replace hA_ := hA_.symm; subst hA_
              refine RunL.pure (Pure.pickF rfl rfl) (Wt.none rfl) rfl rfl ?_
              refine RunL.as rfl rfl ?_
              refine RunL.nil ?_
              refine Run.sr ?_
              refine RunL.mv rfl rfl ?_
              refine RunL.mv rfl rfl ?_
              refine RunL.pure (Pure.eql rfl rfl) (Wt.none rfl) rfl rfl ?_
              refine RunL.pure (Pure.bneq rfl rfl und4) (Wt.none rfl) rfl rfl ?_
              refine RunL.mv rfl rfl ?_
              refine RunL.split (d := 68) rfl (fun hg12 => ?_) (fun hg12 => ?_)
              · try simp only [decide_eq_true_eq, decide_eq_false_iff_not, beq_iff_eq, beq_eq_false_iff_ne, bne_iff_ne, ne_eq, Bool.not_eq_true', Bool.not_eq_false', Bool.not_eq_true, Bool.not_eq_false, Int.not_lt, Int.not_le, Decidable.not_not, bne_eq_false_iff_eq, gt_iff_lt, ge_iff_le, Bool.or_eq_true, Bool.and_eq_true] at hg12
                exfalso
                rw [hr] at hg12; simp at hg12
              try simp only [decide_eq_true_eq, decide_eq_false_iff_not, beq_iff_eq, beq_eq_false_iff_ne, bne_iff_ne, ne_eq, Bool.not_eq_true', Bool.not_eq_false', Bool.not_eq_true, Bool.not_eq_false, Int.not_lt, Int.not_le, Decidable.not_not, bne_eq_false_iff_eq, gt_iff_lt, ge_iff_le, Bool.or_eq_true, Bool.and_eq_true] at hg12
              refine RunL.pure (Pure.move rfl) (Wt.yes rfl rfl rfl) rfl rfl ?_
              refine RunL.pure (Pure.move rfl) (Wt.yes rfl rfl rfl) rfl rfl ?_
              refine RunL.split (d := 70) rfl (fun hg13 => ?_) (fun hg13 => ?_)
              · try simp only [decide_eq_true_eq, decide_eq_false_iff_not, beq_iff_eq, beq_eq_false_iff_ne, bne_iff_ne, ne_eq, Bool.not_eq_true', Bool.not_eq_false', Bool.not_eq_true, Bool.not_eq_false, Int.not_lt, Int.not_le, Decidable.not_not, bne_eq_false_iff_eq, gt_iff_lt, ge_iff_le, Bool.or_eq_true, Bool.and_eq_true] at hg13
                exfalso
                rw [hr] at hg13; cases hg13
              try simp only [decide_eq_true_eq, decide_eq_false_iff_not, beq_iff_eq, beq_eq_false_iff_ne, bne_iff_ne, ne_eq, Bool.not_eq_true', Bool.not_eq_false', Bool.not_eq_true, Bool.not_eq_false, Int.not_lt, Int.not_le, Decidable.not_not, bne_eq_false_iff_eq, gt_iff_lt, ge_iff_le, Bool.or_eq_true, Bool.and_eq_true] at hg13
              refine RunL.not (Wt.no rfl rfl rfl) rfl rfl ?_
              refine RunL.not (Wt.no rfl rfl rfl) rfl rfl ?_
              refine RunL.not (Wt.no rfl rfl rfl) rfl rfl ?_
              refine RunL.pure (Pure.pickF rfl rfl) (Wt.yes rfl rfl rfl) rfl rfl ?_
              refine RunL.pure (Pure.pickF rfl rfl) (Wt.none rfl) rfl rfl ?_
              refine RunL.nil ?_
              refine Run.condF rfl ?_
              refine Run.skip ?_
              refine Run.inBlock ?_
              refine Run.region ?_
              refine RunL.mv rfl rfl ?_
              first | refine RunL.pure (Pure.addI rfl rfl (by omega)) (Wt.none rfl) rfl rfl ?_ | refine RunL.pure (Pure.add rfl rfl) (Wt.none rfl) rfl rfl ?_
              refine RunL.as rfl rfl ?_
              refine RunL.nil ?_
              refine Run.keep (.cons rfl (.cons rfl (.nil)) : Keep _ [9, 10] _) ?_
              refine Run.againF (F := F) ih (by exact ⟨i + 1, by omega, rfl, rfl, rfl⟩) (by repeat (first | (with_reducible exact Fin.done (by repeat (first | (with_reducible exact Rest.here) | apply Rest.there))) | (apply Fin.cons (by first | ((repeat (first | (with_reducible exact Find.here _) | apply Find.there)); done) | (repeat (first | exact Find.here _ | apply Find.there)))))) ?_
              omega
      · try simp only [decide_eq_true_eq, decide_eq_false_iff_not, beq_iff_eq, beq_eq_false_iff_ne, bne_iff_ne, ne_eq, Bool.not_eq_true', Bool.not_eq_false', Bool.not_eq_true, Bool.not_eq_false, Int.not_lt, Int.not_le, Decidable.not_not, bne_eq_false_iff_eq, gt_iff_lt, ge_iff_le, Bool.or_eq_true, Bool.and_eq_true] at hlen
        have hnil : bl t = [] := List.length_eq_zero_iff.1 (by rw [bl_length]; omega)
        have hu : namedB 64 (bl t) = false := by rw [hnil]; rfl
        have hr : namedB 33 (bl t) = false := by rw [hnil]; rfl
        refine Run.skip ?_
        refine Run.sr ?_
        refine RunL.mv rfl rfl ?_
        refine RunL.mv rfl rfl ?_
        refine RunL.call rfl rfl (by rfl) (by repeat (first | (with_reducible exact Take.nil _) | (apply Take.cons (by first | ((repeat (first | (with_reducible exact Find.here _) | apply Find.there)); done) | (repeat (first | exact Find.here _ | apply Find.there)))))) (nPart_ctr (by first | assumption | omega | (simp only [mkS_size, List.length_take, List.length_drop, bl_length]; omega) | (simp only [mkS_size, size_app, List.length_take, List.length_drop, List.length_append, bl_length, List.length_cons, List.length_nil, size_mk]; omega))) (Wt.none rfl) rfl ?_
        rintro _ _ ⟨rfl, hA_⟩
        replace hA_ := hA_.symm; subst hA_
        refine RunL.mv rfl rfl ?_
        refine RunL.call rfl rfl (by rfl) (by repeat (first | (with_reducible exact Take.nil _) | (apply Take.cons (by first | ((repeat (first | (with_reducible exact Find.here _) | apply Find.there)); done) | (repeat (first | exact Find.here _ | apply Find.there)))))) (nHome_ctr (by first | assumption | omega | (simp only [mkS_size, List.length_take, List.length_drop, bl_length]; omega) | (simp only [mkS_size, size_app, List.length_take, List.length_drop, List.length_append, bl_length, List.length_cons, List.length_nil, size_mk]; omega))) (Wt.none rfl) rfl ?_
        rintro _ _ ⟨rfl, hA_⟩
        replace hA_ := hA_.symm; subst hA_
        refine RunL.call rfl rfl (by rfl) (by repeat (first | (with_reducible exact Take.nil _) | (apply Take.cons (by first | ((repeat (first | (with_reducible exact Find.here _) | apply Find.there)); done) | (repeat (first | exact Find.here _ | apply Find.there)))))) (nMake_ctr (c := 0) (by rw [mkS_size]; omega) (by rw [mkS_size]; omega)) (Wt.none rfl) rfl ?_
        rintro _ _ ⟨rfl, hA_⟩
        replace hA_ := hA_.symm; subst hA_
        rw [if_pos ⟨by decide, by decide⟩]
        refine RunL.mv rfl rfl ?_
        refine RunL.pure (Pure.extract rfl rfl) (Wt.none rfl) rfl rfl ?_
        refine RunL.pure (Pure.extract rfl rfl) (Wt.none rfl) rfl rfl ?_
        refine RunL.as rfl rfl ?_
        refine RunL.as rfl rfl ?_
        refine RunL.nil ?_
        refine Run.sr ?_
        refine RunL.mv rfl rfl ?_
        refine RunL.call rfl rfl (by rfl) (by repeat (first | (with_reducible exact Take.nil _) | (apply Take.cons (by first | ((repeat (first | (with_reducible exact Find.here _) | apply Find.there)); done) | (repeat (first | exact Find.here _ | apply Find.there)))))) (rNamed_ctr (sg := 64) (by decide) (by first | assumption | omega | (simp only [mkS_size, List.length_take, List.length_drop, bl_length]; omega) | (simp only [mkS_size, size_app, List.length_take, List.length_drop, List.length_append, bl_length, List.length_cons, List.length_nil, size_mk]; omega))) (Wt.none rfl) rfl ?_
        rintro _ _ ⟨rfl, hA_⟩
        replace hA_ := hA_.symm; subst hA_
        refine RunL.mv rfl rfl ?_
        refine RunL.split (d := 60) rfl (fun hg14 => ?_) (fun hg14 => ?_)
        · try simp only [decide_eq_true_eq, decide_eq_false_iff_not, beq_iff_eq, beq_eq_false_iff_ne, bne_iff_ne, ne_eq, Bool.not_eq_true', Bool.not_eq_false', Bool.not_eq_true, Bool.not_eq_false, Int.not_lt, Int.not_le, Decidable.not_not, bne_eq_false_iff_eq, gt_iff_lt, ge_iff_le, Bool.or_eq_true, Bool.and_eq_true] at hg14
          exfalso
          rw [hu] at hg14; cases hg14
        try simp only [decide_eq_true_eq, decide_eq_false_iff_not, beq_iff_eq, beq_eq_false_iff_ne, bne_iff_ne, ne_eq, Bool.not_eq_true', Bool.not_eq_false', Bool.not_eq_true, Bool.not_eq_false, Int.not_lt, Int.not_le, Decidable.not_not, bne_eq_false_iff_eq, gt_iff_lt, ge_iff_le, Bool.or_eq_true, Bool.and_eq_true] at hg14
        refine RunL.pure (Pure.move rfl) (Wt.yes rfl rfl rfl) rfl rfl ?_
        refine RunL.call rfl rfl (by rfl) (by repeat (first | (with_reducible exact Take.nil _) | (apply Take.cons (by first | ((repeat (first | (with_reducible exact Find.here _) | apply Find.there)); done) | (repeat (first | exact Find.here _ | apply Find.there)))))) (rNamed_ctr (sg := 33) (by decide) (by first | assumption | omega | (simp only [mkS_size, List.length_take, List.length_drop, bl_length]; omega) | (simp only [mkS_size, size_app, List.length_take, List.length_drop, List.length_append, bl_length, List.length_cons, List.length_nil, size_mk]; omega))) (Wt.yes rfl rfl rfl) rfl ?_
        rintro _ _ ⟨rfl, hA_⟩
        replace hA_ := hA_.symm; subst hA_
        refine RunL.pure (Pure.pickF rfl rfl) (Wt.none rfl) rfl rfl ?_
        refine RunL.as rfl rfl ?_
        refine RunL.nil ?_
        refine Run.sr ?_
        refine RunL.mv rfl rfl ?_
        refine RunL.mv rfl rfl ?_
        refine RunL.pure (Pure.eql rfl rfl) (Wt.none rfl) rfl rfl ?_
        refine RunL.pure (Pure.bneq rfl rfl und4) (Wt.none rfl) rfl rfl ?_
        refine RunL.mv rfl rfl ?_
        refine RunL.split (d := 68) rfl (fun hg15 => ?_) (fun hg15 => ?_)
        · try simp only [decide_eq_true_eq, decide_eq_false_iff_not, beq_iff_eq, beq_eq_false_iff_ne, bne_iff_ne, ne_eq, Bool.not_eq_true', Bool.not_eq_false', Bool.not_eq_true, Bool.not_eq_false, Int.not_lt, Int.not_le, Decidable.not_not, bne_eq_false_iff_eq, gt_iff_lt, ge_iff_le, Bool.or_eq_true, Bool.and_eq_true] at hg15
          exfalso
          rw [hr] at hg15; simp at hg15
        try simp only [decide_eq_true_eq, decide_eq_false_iff_not, beq_iff_eq, beq_eq_false_iff_ne, bne_iff_ne, ne_eq, Bool.not_eq_true', Bool.not_eq_false', Bool.not_eq_true, Bool.not_eq_false, Int.not_lt, Int.not_le, Decidable.not_not, bne_eq_false_iff_eq, gt_iff_lt, ge_iff_le, Bool.or_eq_true, Bool.and_eq_true] at hg15
        refine RunL.pure (Pure.move rfl) (Wt.yes rfl rfl rfl) rfl rfl ?_
        refine RunL.pure (Pure.move rfl) (Wt.yes rfl rfl rfl) rfl rfl ?_
        refine RunL.split (d := 70) rfl (fun hg16 => ?_) (fun hg16 => ?_)
        · try simp only [decide_eq_true_eq, decide_eq_false_iff_not, beq_iff_eq, beq_eq_false_iff_ne, bne_iff_ne, ne_eq, Bool.not_eq_true', Bool.not_eq_false', Bool.not_eq_true, Bool.not_eq_false, Int.not_lt, Int.not_le, Decidable.not_not, bne_eq_false_iff_eq, gt_iff_lt, ge_iff_le, Bool.or_eq_true, Bool.and_eq_true] at hg16
          exfalso
          rw [hr] at hg16; cases hg16
        try simp only [decide_eq_true_eq, decide_eq_false_iff_not, beq_iff_eq, beq_eq_false_iff_ne, bne_iff_ne, ne_eq, Bool.not_eq_true', Bool.not_eq_false', Bool.not_eq_true, Bool.not_eq_false, Int.not_lt, Int.not_le, Decidable.not_not, bne_eq_false_iff_eq, gt_iff_lt, ge_iff_le, Bool.or_eq_true, Bool.and_eq_true] at hg16
        refine RunL.not (Wt.no rfl rfl rfl) rfl rfl ?_
        refine RunL.not (Wt.no rfl rfl rfl) rfl rfl ?_
        refine RunL.not (Wt.no rfl rfl rfl) rfl rfl ?_
        refine RunL.pure (Pure.pickF rfl rfl) (Wt.yes rfl rfl rfl) rfl rfl ?_
        refine RunL.pure (Pure.pickF rfl rfl) (Wt.none rfl) rfl rfl ?_
        refine RunL.nil ?_
        refine Run.condF rfl ?_
        refine Run.skip ?_
        refine Run.inBlock ?_
        refine Run.region ?_
        refine RunL.mv rfl rfl ?_
        first | refine RunL.pure (Pure.addI rfl rfl (by omega)) (Wt.none rfl) rfl rfl ?_ | refine RunL.pure (Pure.add rfl rfl) (Wt.none rfl) rfl rfl ?_
        refine RunL.as rfl rfl ?_
        refine RunL.nil ?_
        refine Run.keep (.cons rfl (.cons rfl (.nil)) : Keep _ [9, 10] _) ?_
        refine Run.againF (F := F) ih (by exact ⟨i + 1, by omega, rfl, rfl, rfl⟩) (by repeat (first | (with_reducible exact Fin.done (by repeat (first | (with_reducible exact Rest.here) | apply Rest.there))) | (apply Fin.cons (by first | ((repeat (first | (with_reducible exact Find.here _) | apply Find.there)); done) | (repeat (first | exact Find.here _ | apply Find.there)))))) ?_
        omega
    · try simp only [decide_eq_true_eq, decide_eq_false_iff_not, beq_iff_eq, beq_eq_false_iff_ne, bne_iff_ne, ne_eq, Bool.not_eq_true', Bool.not_eq_false', Bool.not_eq_true, Bool.not_eq_false, Int.not_lt, Int.not_le, Decidable.not_not, bne_eq_false_iff_eq, gt_iff_lt, ge_iff_le, Bool.or_eq_true, Bool.and_eq_true] at hi5
      refine Run.exit rfl ?_
      refine Run.sr ?_
      refine RunL.call rfl rfl (by rfl) (by repeat (first | (with_reducible exact Take.nil _) | (apply Take.cons (by first | ((repeat (first | (with_reducible exact Find.here _) | apply Find.there)); done) | (repeat (first | exact Find.here _ | apply Find.there)))))) (lives_ctr) (Wt.none rfl) rfl ?_
      rintro _ _ ⟨rfl, hA_⟩
      replace hA_ := hA_.symm; subst hA_
      refine RunL.as rfl rfl ?_
      refine RunL.nil ?_
      exact Run.ret Try.func8 (res1 rfl rfl) (by exact ⟨rfl, rfl⟩) (by repeat (first | (with_reducible exact Fin.done (by repeat (first | (with_reducible exact Rest.here) | apply Rest.there))) | (apply Fin.cons (by first | ((repeat (first | (with_reducible exact Find.here _) | apply Find.there)); done) | (repeat (first | exact Find.here _ | apply Find.there))))))
  · skip
    refine Run.regionD' (by kernel_rfl) (by kernel_rfl) (fun hok470 => ?_)
    refine RunD.pure (i := 0) hok470 rfl (by kernel_rfl) (Pure.move rfl) (Wt.none rfl) rfl rfl ?_
    refine RunD.pure (i := 2) hok470 rfl (by kernel_rfl) (Pure.move rfl) (Wt.none rfl) rfl rfl ?_
    refine RunD.pure (i := 6) hok470 rfl (by kernel_rfl) (Pure.move rfl) (Wt.none rfl) rfl rfl ?_
    refine RunD.pure (i := 9) hok470 rfl (by kernel_rfl) (Pure.move rfl) (Wt.none rfl) rfl rfl ?_
    refine RunD.pure (i := 12) hok470 rfl (by kernel_rfl) (Pure.move rfl) (Wt.none rfl) rfl rfl ?_
    refine RunD.pure (i := 16) hok470 rfl (by kernel_rfl) (Pure.move rfl) (Wt.none rfl) rfl rfl ?_
    refine RunD.two (i := 1) (j := 10) (by kernel_rfl) rfl rfl ?_ ?_
    · skip
      refine RunL.call rfl rfl (by rfl) (by repeat (first | (with_reducible exact Take.nil _) | (apply Take.cons (by first | ((repeat (first | (with_reducible exact Find.here _) | apply Find.there)); done) | (repeat (first | exact Find.here _ | apply Find.there)))))) (FewC_ctr (m := 40) (by decide) (by decide)) (Wt.none rfl) rfl ?_
      rintro _ _ ⟨rfl, hA_⟩
      replace hA_ := hA_.symm; subst hA_
      refine RunL.nilD' ?_
      refine RunD.two (i := 3) (j := 10) (by kernel_rfl) rfl rfl ?_ ?_
      · skip
        refine RunL.call rfl rfl (by rfl) (by repeat (first | (with_reducible exact Take.nil _) | (apply Take.cons (by first | ((repeat (first | (with_reducible exact Find.here _) | apply Find.there)); done) | (repeat (first | exact Find.here _ | apply Find.there)))))) (made_ctr (odd := ⟨#[]⟩) g1 g1w g1b (by decide) (by decide) (by decide)) (Wt.none rfl) rfl ?_
        rintro _ _ ⟨x, rfl, hx, hA_⟩
        replace hA_ := hA_.symm; subst hA_
        refine RunL.nilD' ?_
        refine RunD.pure (i := 4) hok470 rfl (by kernel_rfl) (Pure.sadd rfl rfl (by first | omega | (simp only [size_mk, size_app, List.length_append, bl_length, List.length_cons, List.length_nil]; omega) | (simp; omega))) (Wt.none rfl) rfl rfl ?_
        refine RunD.pure (i := 5) hok470 rfl (by kernel_rfl) (Pure.sadd rfl rfl (by first | omega | (simp only [size_mk, size_app, List.length_append, bl_length, List.length_cons, List.length_nil]; omega) | (simp; omega))) (Wt.none rfl) rfl rfl ?_
        refine RunD.two (i := 7) (j := 10) (by kernel_rfl) rfl rfl ?_ ?_
        · skip
          refine RunL.call rfl rfl (by rfl) (by repeat (first | (with_reducible exact Take.nil _) | (apply Take.cons (by first | ((repeat (first | (with_reducible exact Find.here _) | apply Find.there)); done) | (repeat (first | exact Find.here _ | apply Find.there)))))) (made_ctr (odd := ⟨#[]⟩) g2 g2w g2b (by decide) (by decide) (by decide)) (Wt.none rfl) rfl ?_
          rintro _ _ ⟨y, rfl, hy, hA_⟩
          replace hA_ := hA_.symm; subst hA_
          refine RunL.nilD' ?_
          refine RunD.pure (i := 8) hok470 rfl (by kernel_rfl) (Pure.sadd rfl rfl (by first | omega | (simp only [size_mk, size_app, List.length_append, bl_length, List.length_cons, List.length_nil]; omega) | (simp; omega))) (Wt.none rfl) rfl rfl ?_
          refine RunD.two (i := 10) (j := 13) (by kernel_rfl) rfl rfl ?_ ?_
          · skip
            refine RunL.lit (vals := [_]) (vs := ([sg] : List UInt8).map bv) und29 sz5 zz5 rfl rfl rfl rfl rfl rfl (by simp [Value.cells, bv]) rfl (Wt.none rfl) rfl ?_; intro b26
            refine RunL.nilD' ?_
            refine RunD.lend (Q := Sl 5 1 (some ⟨b26, 0, none⟩) 1 1 (([sg] : List UInt8).map bv)) Lends.Sl (by first | ((repeat (first | (with_reducible exact Find.here _) | apply Find.there)); done) | (repeat (first | exact Find.here _ | apply Find.there))) ?_; intro gb26 hlegb26 hb26 backgb26
            have g1_gb26 := g1.mono hlegb26
            have g2_gb26 := g2.mono hlegb26
            refine RunD.bytesStr (i := 11) hok470 rfl (by kernel_rfl) rfl und29 und5 und9 (hb26.1) (Wt.none rfl) rfl ?_
            refine RunD.one (i := 13) (by kernel_rfl) rfl ?_
            · skip
              refine RunL.call rfl rfl (by rfl) (by repeat (first | (with_reducible exact Take.nil _) | (apply Take.cons (by first | ((repeat (first | (with_reducible exact Find.here _) | apply Find.there)); done) | (repeat (first | exact Find.here _ | apply Find.there)))))) (made_ctr (odd := ⟨#[]⟩) g1_gb26 g1w g1b (by decide) (by decide) (by decide)) (Wt.none rfl) rfl ?_
              rintro _ _ ⟨x2, rfl, hx2, hA_⟩
              replace hA_ := hA_.symm; subst hA_
              refine RunL.nilD' ?_
              refine RunD.pure (i := 14) hok470 rfl (by kernel_rfl) (Pure.sadd rfl rfl (by first | omega | (simp only [size_mk, size_app, List.length_append, bl_length, List.length_cons, List.length_nil]; omega) | (simp; omega))) (Wt.none rfl) rfl rfl ?_
              refine RunD.pure (i := 15) hok470 rfl (by kernel_rfl) (Pure.sadd rfl rfl (by first | omega | (simp only [size_mk, size_app, List.length_append, bl_length, List.length_cons, List.length_nil]; omega) | (simp; omega))) (Wt.none rfl) rfl rfl ?_
              refine RunD.one (i := 17) (by kernel_rfl) rfl ?_
              · skip
                refine RunL.call rfl rfl (by rfl) (by repeat (first | (with_reducible exact Take.nil _) | (apply Take.cons (by first | ((repeat (first | (with_reducible exact Find.here _) | apply Find.there)); done) | (repeat (first | exact Find.here _ | apply Find.there)))))) (made_ctr (odd := ⟨#[]⟩) g2_gb26 g2w g2b (by decide) (by decide) (by decide)) (Wt.none rfl) rfl ?_
                rintro _ _ ⟨y2, rfl, hy2, hA_⟩
                replace hA_ := hA_.symm; subst hA_
                refine RunL.nilD' ?_
                refine RunD.pure (i := 18) hok470 rfl (by kernel_rfl) (Pure.sadd rfl rfl (by first | omega | (simp only [size_mk, size_app, List.length_append, bl_length, List.length_cons, List.length_nil]; omega) | (simp; omega))) (Wt.none rfl) rfl rfl ?_
                refine RunD.one (i := 19) (by kernel_rfl) rfl ?_
                · skip
                  refine RunL.lit (vals := [_, _, _]) (vs := ([(cut s 40), ((⟨#[64]⟩ : ByteArray) ++ x ++ (⟨#[58]⟩ : ByteArray) ++ y), ((⟨[sg].toArray⟩ : ByteArray) ++ x2 ++ (⟨#[58]⟩ : ByteArray) ++ y2)] : List ByteArray).map Value.string) und25 sz9 zz9 rfl rfl rfl rfl rfl rfl (by simp [Value.cells, bv]) rfl (Wt.none rfl) rfl ?_; intro b35
                  refine RunL.nilD' ?_
                  refine RunD.pure (i := 20) hok470 rfl (by kernel_rfl) (Pure.assign rfl) (Wt.none rfl) rfl rfl ?_
                  refine RunD.nilB (by kernel_rfl) (fun w sw => backgb26 _ _ (sw)) ?_
                  refine Run.keep (.cons rfl (.nil) : Keep _ [9] _) ?_
                  exact Run.meetF (F := F) hk (by exact ⟨b35, [(cut s 40), ((⟨#[64]⟩ : ByteArray) ++ x ++ (⟨#[58]⟩ : ByteArray) ++ y), ((⟨[sg].toArray⟩ : ByteArray) ++ x2 ++ (⟨#[58]⟩ : ByteArray) ++ y2)], rfl, by intro q hq; simp only [List.mem_cons, List.not_mem_nil, or_false] at hq; rcases hq with rfl | rfl | rfl <;> (first | omega | (simp only [size_app, size_mk, List.length_cons, List.length_nil]; omega) | (have := cut_size s 40; omega)), rfl, rfl⟩) (by repeat (first | (with_reducible exact Fin.done (by repeat (first | (with_reducible exact Rest.here) | apply Rest.there))) | (apply Fin.cons (by first | ((repeat (first | (with_reducible exact Find.here _) | apply Find.there)); done) | (repeat (first | exact Find.here _ | apply Find.there))))))
          · skip
            refine RunL.call rfl rfl (by rfl) (by repeat (first | (with_reducible exact Take.nil _) | (apply Take.cons (by first | ((repeat (first | (with_reducible exact Find.here _) | apply Find.there)); done) | (repeat (first | exact Find.here _ | apply Find.there)))))) (made_ctr (odd := ⟨#[]⟩) g1 g1w g1b (by decide) (by decide) (by decide)) (Wt.none rfl) rfl ?_
            rintro _ _ ⟨x2, rfl, hx2, hA_⟩
            replace hA_ := hA_.symm; subst hA_
            refine RunL.nilD' ?_
            refine RunD.two (i := 10) (j := 17) (by kernel_rfl) rfl rfl ?_ ?_
            · skip
              refine RunL.lit (vals := [_]) (vs := ([sg] : List UInt8).map bv) und29 sz5 zz5 rfl rfl rfl rfl rfl rfl (by simp [Value.cells, bv]) rfl (Wt.none rfl) rfl ?_; intro b26
              refine RunL.nilD' ?_
              refine RunD.lend (Q := Sl 5 1 (some ⟨b26, 0, none⟩) 1 1 (([sg] : List UInt8).map bv)) Lends.Sl (by first | ((repeat (first | (with_reducible exact Find.here _) | apply Find.there)); done) | (repeat (first | exact Find.here _ | apply Find.there))) ?_; intro gb26 hlegb26 hb26 backgb26
              have g1_gb26 := g1.mono hlegb26
              have g2_gb26 := g2.mono hlegb26
              refine RunD.bytesStr (i := 11) hok470 rfl (by kernel_rfl) rfl und29 und5 und9 (hb26.1) (Wt.none rfl) rfl ?_
              refine RunD.pure (i := 14) hok470 rfl (by kernel_rfl) (Pure.sadd rfl rfl (by first | omega | (simp only [size_mk, size_app, List.length_append, bl_length, List.length_cons, List.length_nil]; omega) | (simp; omega))) (Wt.none rfl) rfl rfl ?_
              refine RunD.pure (i := 15) hok470 rfl (by kernel_rfl) (Pure.sadd rfl rfl (by first | omega | (simp only [size_mk, size_app, List.length_append, bl_length, List.length_cons, List.length_nil]; omega) | (simp; omega))) (Wt.none rfl) rfl rfl ?_
              refine RunD.one (i := 17) (by kernel_rfl) rfl ?_
              · skip
                refine RunL.call rfl rfl (by rfl) (by repeat (first | (with_reducible exact Take.nil _) | (apply Take.cons (by first | ((repeat (first | (with_reducible exact Find.here _) | apply Find.there)); done) | (repeat (first | exact Find.here _ | apply Find.there)))))) (made_ctr (odd := ⟨#[]⟩) g2_gb26 g2w g2b (by decide) (by decide) (by decide)) (Wt.none rfl) rfl ?_
                rintro _ _ ⟨y2, rfl, hy2, hA_⟩
                replace hA_ := hA_.symm; subst hA_
                refine RunL.nilD' ?_
                refine RunD.pure (i := 18) hok470 rfl (by kernel_rfl) (Pure.sadd rfl rfl (by first | omega | (simp only [size_mk, size_app, List.length_append, bl_length, List.length_cons, List.length_nil]; omega) | (simp; omega))) (Wt.none rfl) rfl rfl ?_
                refine RunD.one (i := 19) (by kernel_rfl) rfl ?_
                · skip
                  refine RunL.lit (vals := [_, _, _]) (vs := ([(cut s 40), ((⟨#[64]⟩ : ByteArray) ++ x ++ (⟨#[58]⟩ : ByteArray) ++ y), ((⟨[sg].toArray⟩ : ByteArray) ++ x2 ++ (⟨#[58]⟩ : ByteArray) ++ y2)] : List ByteArray).map Value.string) und25 sz9 zz9 rfl rfl rfl rfl rfl rfl (by simp [Value.cells, bv]) rfl (Wt.none rfl) rfl ?_; intro b35
                  refine RunL.nilD' ?_
                  refine RunD.pure (i := 20) hok470 rfl (by kernel_rfl) (Pure.assign rfl) (Wt.none rfl) rfl rfl ?_
                  refine RunD.nilB (by kernel_rfl) (fun w sw => backgb26 _ _ (sw)) ?_
                  refine Run.keep (.cons rfl (.nil) : Keep _ [9] _) ?_
                  exact Run.meetF (F := F) hk (by exact ⟨b35, [(cut s 40), ((⟨#[64]⟩ : ByteArray) ++ x ++ (⟨#[58]⟩ : ByteArray) ++ y), ((⟨[sg].toArray⟩ : ByteArray) ++ x2 ++ (⟨#[58]⟩ : ByteArray) ++ y2)], rfl, by intro q hq; simp only [List.mem_cons, List.not_mem_nil, or_false] at hq; rcases hq with rfl | rfl | rfl <;> (first | omega | (simp only [size_app, size_mk, List.length_cons, List.length_nil]; omega) | (have := cut_size s 40; omega)), rfl, rfl⟩) (by repeat (first | (with_reducible exact Fin.done (by repeat (first | (with_reducible exact Rest.here) | apply Rest.there))) | (apply Fin.cons (by first | ((repeat (first | (with_reducible exact Find.here _) | apply Find.there)); done) | (repeat (first | exact Find.here _ | apply Find.there))))))
            · skip
              refine RunL.call rfl rfl (by rfl) (by repeat (first | (with_reducible exact Take.nil _) | (apply Take.cons (by first | ((repeat (first | (with_reducible exact Find.here _) | apply Find.there)); done) | (repeat (first | exact Find.here _ | apply Find.there)))))) (made_ctr (odd := ⟨#[]⟩) g2 g2w g2b (by decide) (by decide) (by decide)) (Wt.none rfl) rfl ?_
              rintro _ _ ⟨y2, rfl, hy2, hA_⟩
              replace hA_ := hA_.symm; subst hA_
              refine RunL.nilD' ?_
              refine RunD.one (i := 10) (by kernel_rfl) rfl ?_
              · skip
                refine RunL.lit (vals := [_]) (vs := ([sg] : List UInt8).map bv) und29 sz5 zz5 rfl rfl rfl rfl rfl rfl (by simp [Value.cells, bv]) rfl (Wt.none rfl) rfl ?_; intro b26
                refine RunL.nilD' ?_
                refine RunD.lend (Q := Sl 5 1 (some ⟨b26, 0, none⟩) 1 1 (([sg] : List UInt8).map bv)) Lends.Sl (by first | ((repeat (first | (with_reducible exact Find.here _) | apply Find.there)); done) | (repeat (first | exact Find.here _ | apply Find.there))) ?_; intro gb26 hlegb26 hb26 backgb26
                have g1_gb26 := g1.mono hlegb26
                have g2_gb26 := g2.mono hlegb26
                refine RunD.bytesStr (i := 11) hok470 rfl (by kernel_rfl) rfl und29 und5 und9 (hb26.1) (Wt.none rfl) rfl ?_
                refine RunD.pure (i := 14) hok470 rfl (by kernel_rfl) (Pure.sadd rfl rfl (by first | omega | (simp only [size_mk, size_app, List.length_append, bl_length, List.length_cons, List.length_nil]; omega) | (simp; omega))) (Wt.none rfl) rfl rfl ?_
                refine RunD.pure (i := 15) hok470 rfl (by kernel_rfl) (Pure.sadd rfl rfl (by first | omega | (simp only [size_mk, size_app, List.length_append, bl_length, List.length_cons, List.length_nil]; omega) | (simp; omega))) (Wt.none rfl) rfl rfl ?_
                refine RunD.pure (i := 18) hok470 rfl (by kernel_rfl) (Pure.sadd rfl rfl (by first | omega | (simp only [size_mk, size_app, List.length_append, bl_length, List.length_cons, List.length_nil]; omega) | (simp; omega))) (Wt.none rfl) rfl rfl ?_
                refine RunD.one (i := 19) (by kernel_rfl) rfl ?_
                · skip
                  refine RunL.lit (vals := [_, _, _]) (vs := ([(cut s 40), ((⟨#[64]⟩ : ByteArray) ++ x ++ (⟨#[58]⟩ : ByteArray) ++ y), ((⟨[sg].toArray⟩ : ByteArray) ++ x2 ++ (⟨#[58]⟩ : ByteArray) ++ y2)] : List ByteArray).map Value.string) und25 sz9 zz9 rfl rfl rfl rfl rfl rfl (by simp [Value.cells, bv]) rfl (Wt.none rfl) rfl ?_; intro b35
                  refine RunL.nilD' ?_
                  refine RunD.pure (i := 20) hok470 rfl (by kernel_rfl) (Pure.assign rfl) (Wt.none rfl) rfl rfl ?_
                  refine RunD.nilB (by kernel_rfl) (fun w sw => backgb26 _ _ (sw)) ?_
                  refine Run.keep (.cons rfl (.nil) : Keep _ [9] _) ?_
                  exact Run.meetF (F := F) hk (by exact ⟨b35, [(cut s 40), ((⟨#[64]⟩ : ByteArray) ++ x ++ (⟨#[58]⟩ : ByteArray) ++ y), ((⟨[sg].toArray⟩ : ByteArray) ++ x2 ++ (⟨#[58]⟩ : ByteArray) ++ y2)], rfl, by intro q hq; simp only [List.mem_cons, List.not_mem_nil, or_false] at hq; rcases hq with rfl | rfl | rfl <;> (first | omega | (simp only [size_app, size_mk, List.length_cons, List.length_nil]; omega) | (have := cut_size s 40; omega)), rfl, rfl⟩) (by repeat (first | (with_reducible exact Fin.done (by repeat (first | (with_reducible exact Rest.here) | apply Rest.there))) | (apply Fin.cons (by first | ((repeat (first | (with_reducible exact Find.here _) | apply Find.there)); done) | (repeat (first | exact Find.here _ | apply Find.there))))))
        · skip
          refine RunL.lit (vals := [_]) (vs := ([sg] : List UInt8).map bv) und29 sz5 zz5 rfl rfl rfl rfl rfl rfl (by simp [Value.cells, bv]) rfl (Wt.none rfl) rfl ?_; intro b26
          refine RunL.nilD' ?_
          refine RunD.lend (Q := Sl 5 1 (some ⟨b26, 0, none⟩) 1 1 (([sg] : List UInt8).map bv)) Lends.Sl (by first | ((repeat (first | (with_reducible exact Find.here _) | apply Find.there)); done) | (repeat (first | exact Find.here _ | apply Find.there))) ?_; intro gb26 hlegb26 hb26 backgb26
          have g1_gb26 := g1.mono hlegb26
          have g2_gb26 := g2.mono hlegb26
          refine RunD.bytesStr (i := 11) hok470 rfl (by kernel_rfl) rfl und29 und5 und9 (hb26.1) (Wt.none rfl) rfl ?_
          refine RunD.one (i := 7) (by kernel_rfl) rfl ?_
          · skip
            refine RunL.call rfl rfl (by rfl) (by repeat (first | (with_reducible exact Take.nil _) | (apply Take.cons (by first | ((repeat (first | (with_reducible exact Find.here _) | apply Find.there)); done) | (repeat (first | exact Find.here _ | apply Find.there)))))) (made_ctr (odd := ⟨#[]⟩) g2_gb26 g2w g2b (by decide) (by decide) (by decide)) (Wt.none rfl) rfl ?_
            rintro _ _ ⟨y, rfl, hy, hA_⟩
            replace hA_ := hA_.symm; subst hA_
            refine RunL.nilD' ?_
            refine RunD.pure (i := 8) hok470 rfl (by kernel_rfl) (Pure.sadd rfl rfl (by first | omega | (simp only [size_mk, size_app, List.length_append, bl_length, List.length_cons, List.length_nil]; omega) | (simp; omega))) (Wt.none rfl) rfl rfl ?_
            refine RunD.one (i := 13) (by kernel_rfl) rfl ?_
            · skip
              refine RunL.call rfl rfl (by rfl) (by repeat (first | (with_reducible exact Take.nil _) | (apply Take.cons (by first | ((repeat (first | (with_reducible exact Find.here _) | apply Find.there)); done) | (repeat (first | exact Find.here _ | apply Find.there)))))) (made_ctr (odd := ⟨#[]⟩) g1_gb26 g1w g1b (by decide) (by decide) (by decide)) (Wt.none rfl) rfl ?_
              rintro _ _ ⟨x2, rfl, hx2, hA_⟩
              replace hA_ := hA_.symm; subst hA_
              refine RunL.nilD' ?_
              refine RunD.pure (i := 14) hok470 rfl (by kernel_rfl) (Pure.sadd rfl rfl (by first | omega | (simp only [size_mk, size_app, List.length_append, bl_length, List.length_cons, List.length_nil]; omega) | (simp; omega))) (Wt.none rfl) rfl rfl ?_
              refine RunD.pure (i := 15) hok470 rfl (by kernel_rfl) (Pure.sadd rfl rfl (by first | omega | (simp only [size_mk, size_app, List.length_append, bl_length, List.length_cons, List.length_nil]; omega) | (simp; omega))) (Wt.none rfl) rfl rfl ?_
              refine RunD.one (i := 17) (by kernel_rfl) rfl ?_
              · skip
                refine RunL.call rfl rfl (by rfl) (by repeat (first | (with_reducible exact Take.nil _) | (apply Take.cons (by first | ((repeat (first | (with_reducible exact Find.here _) | apply Find.there)); done) | (repeat (first | exact Find.here _ | apply Find.there)))))) (made_ctr (odd := ⟨#[]⟩) g2_gb26 g2w g2b (by decide) (by decide) (by decide)) (Wt.none rfl) rfl ?_
                rintro _ _ ⟨y2, rfl, hy2, hA_⟩
                replace hA_ := hA_.symm; subst hA_
                refine RunL.nilD' ?_
                refine RunD.pure (i := 18) hok470 rfl (by kernel_rfl) (Pure.sadd rfl rfl (by first | omega | (simp only [size_mk, size_app, List.length_append, bl_length, List.length_cons, List.length_nil]; omega) | (simp; omega))) (Wt.none rfl) rfl rfl ?_
                refine RunD.one (i := 19) (by kernel_rfl) rfl ?_
                · skip
                  refine RunL.lit (vals := [_, _, _]) (vs := ([(cut s 40), ((⟨#[64]⟩ : ByteArray) ++ x ++ (⟨#[58]⟩ : ByteArray) ++ y), ((⟨[sg].toArray⟩ : ByteArray) ++ x2 ++ (⟨#[58]⟩ : ByteArray) ++ y2)] : List ByteArray).map Value.string) und25 sz9 zz9 rfl rfl rfl rfl rfl rfl (by simp [Value.cells, bv]) rfl (Wt.none rfl) rfl ?_; intro b35
                  refine RunL.nilD' ?_
                  refine RunD.pure (i := 20) hok470 rfl (by kernel_rfl) (Pure.assign rfl) (Wt.none rfl) rfl rfl ?_
                  refine RunD.nilB (by kernel_rfl) (fun w sw => backgb26 _ _ (sw)) ?_
                  refine Run.keep (.cons rfl (.nil) : Keep _ [9] _) ?_
                  exact Run.meetF (F := F) hk (by exact ⟨b35, [(cut s 40), ((⟨#[64]⟩ : ByteArray) ++ x ++ (⟨#[58]⟩ : ByteArray) ++ y), ((⟨[sg].toArray⟩ : ByteArray) ++ x2 ++ (⟨#[58]⟩ : ByteArray) ++ y2)], rfl, by intro q hq; simp only [List.mem_cons, List.not_mem_nil, or_false] at hq; rcases hq with rfl | rfl | rfl <;> (first | omega | (simp only [size_app, size_mk, List.length_cons, List.length_nil]; omega) | (have := cut_size s 40; omega)), rfl, rfl⟩) (by repeat (first | (with_reducible exact Fin.done (by repeat (first | (with_reducible exact Rest.here) | apply Rest.there))) | (apply Fin.cons (by first | ((repeat (first | (with_reducible exact Find.here _) | apply Find.there)); done) | (repeat (first | exact Find.here _ | apply Find.there))))))
      · skip
        refine RunL.lit (vals := [_]) (vs := ([sg] : List UInt8).map bv) und29 sz5 zz5 rfl rfl rfl rfl rfl rfl (by simp [Value.cells, bv]) rfl (Wt.none rfl) rfl ?_; intro b26
        refine RunL.nilD' ?_
        refine RunD.lend (Q := Sl 5 1 (some ⟨b26, 0, none⟩) 1 1 (([sg] : List UInt8).map bv)) Lends.Sl (by first | ((repeat (first | (with_reducible exact Find.here _) | apply Find.there)); done) | (repeat (first | exact Find.here _ | apply Find.there))) ?_; intro gb26 hlegb26 hb26 backgb26
        have g1_gb26 := g1.mono hlegb26
        have g2_gb26 := g2.mono hlegb26
        refine RunD.bytesStr (i := 11) hok470 rfl (by kernel_rfl) rfl und29 und5 und9 (hb26.1) (Wt.none rfl) rfl ?_
        refine RunD.one (i := 3) (by kernel_rfl) rfl ?_
        · skip
          refine RunL.call rfl rfl (by rfl) (by repeat (first | (with_reducible exact Take.nil _) | (apply Take.cons (by first | ((repeat (first | (with_reducible exact Find.here _) | apply Find.there)); done) | (repeat (first | exact Find.here _ | apply Find.there)))))) (made_ctr (odd := ⟨#[]⟩) g1_gb26 g1w g1b (by decide) (by decide) (by decide)) (Wt.none rfl) rfl ?_
          rintro _ _ ⟨x, rfl, hx, hA_⟩
          replace hA_ := hA_.symm; subst hA_
          refine RunL.nilD' ?_
          refine RunD.pure (i := 4) hok470 rfl (by kernel_rfl) (Pure.sadd rfl rfl (by first | omega | (simp only [size_mk, size_app, List.length_append, bl_length, List.length_cons, List.length_nil]; omega) | (simp; omega))) (Wt.none rfl) rfl rfl ?_
          refine RunD.pure (i := 5) hok470 rfl (by kernel_rfl) (Pure.sadd rfl rfl (by first | omega | (simp only [size_mk, size_app, List.length_append, bl_length, List.length_cons, List.length_nil]; omega) | (simp; omega))) (Wt.none rfl) rfl rfl ?_
          refine RunD.one (i := 7) (by kernel_rfl) rfl ?_
          · skip
            refine RunL.call rfl rfl (by rfl) (by repeat (first | (with_reducible exact Take.nil _) | (apply Take.cons (by first | ((repeat (first | (with_reducible exact Find.here _) | apply Find.there)); done) | (repeat (first | exact Find.here _ | apply Find.there)))))) (made_ctr (odd := ⟨#[]⟩) g2_gb26 g2w g2b (by decide) (by decide) (by decide)) (Wt.none rfl) rfl ?_
            rintro _ _ ⟨y, rfl, hy, hA_⟩
            replace hA_ := hA_.symm; subst hA_
            refine RunL.nilD' ?_
            refine RunD.pure (i := 8) hok470 rfl (by kernel_rfl) (Pure.sadd rfl rfl (by first | omega | (simp only [size_mk, size_app, List.length_append, bl_length, List.length_cons, List.length_nil]; omega) | (simp; omega))) (Wt.none rfl) rfl rfl ?_
            refine RunD.one (i := 13) (by kernel_rfl) rfl ?_
            · skip
              refine RunL.call rfl rfl (by rfl) (by repeat (first | (with_reducible exact Take.nil _) | (apply Take.cons (by first | ((repeat (first | (with_reducible exact Find.here _) | apply Find.there)); done) | (repeat (first | exact Find.here _ | apply Find.there)))))) (made_ctr (odd := ⟨#[]⟩) g1_gb26 g1w g1b (by decide) (by decide) (by decide)) (Wt.none rfl) rfl ?_
              rintro _ _ ⟨x2, rfl, hx2, hA_⟩
              replace hA_ := hA_.symm; subst hA_
              refine RunL.nilD' ?_
              refine RunD.pure (i := 14) hok470 rfl (by kernel_rfl) (Pure.sadd rfl rfl (by first | omega | (simp only [size_mk, size_app, List.length_append, bl_length, List.length_cons, List.length_nil]; omega) | (simp; omega))) (Wt.none rfl) rfl rfl ?_
              refine RunD.pure (i := 15) hok470 rfl (by kernel_rfl) (Pure.sadd rfl rfl (by first | omega | (simp only [size_mk, size_app, List.length_append, bl_length, List.length_cons, List.length_nil]; omega) | (simp; omega))) (Wt.none rfl) rfl rfl ?_
              refine RunD.one (i := 17) (by kernel_rfl) rfl ?_
              · skip
                refine RunL.call rfl rfl (by rfl) (by repeat (first | (with_reducible exact Take.nil _) | (apply Take.cons (by first | ((repeat (first | (with_reducible exact Find.here _) | apply Find.there)); done) | (repeat (first | exact Find.here _ | apply Find.there)))))) (made_ctr (odd := ⟨#[]⟩) g2_gb26 g2w g2b (by decide) (by decide) (by decide)) (Wt.none rfl) rfl ?_
                rintro _ _ ⟨y2, rfl, hy2, hA_⟩
                replace hA_ := hA_.symm; subst hA_
                refine RunL.nilD' ?_
                refine RunD.pure (i := 18) hok470 rfl (by kernel_rfl) (Pure.sadd rfl rfl (by first | omega | (simp only [size_mk, size_app, List.length_append, bl_length, List.length_cons, List.length_nil]; omega) | (simp; omega))) (Wt.none rfl) rfl rfl ?_
                refine RunD.one (i := 19) (by kernel_rfl) rfl ?_
                · skip
                  refine RunL.lit (vals := [_, _, _]) (vs := ([(cut s 40), ((⟨#[64]⟩ : ByteArray) ++ x ++ (⟨#[58]⟩ : ByteArray) ++ y), ((⟨[sg].toArray⟩ : ByteArray) ++ x2 ++ (⟨#[58]⟩ : ByteArray) ++ y2)] : List ByteArray).map Value.string) und25 sz9 zz9 rfl rfl rfl rfl rfl rfl (by simp [Value.cells, bv]) rfl (Wt.none rfl) rfl ?_; intro b35
                  refine RunL.nilD' ?_
                  refine RunD.pure (i := 20) hok470 rfl (by kernel_rfl) (Pure.assign rfl) (Wt.none rfl) rfl rfl ?_
                  refine RunD.nilB (by kernel_rfl) (fun w sw => backgb26 _ _ (sw)) ?_
                  refine Run.keep (.cons rfl (.nil) : Keep _ [9] _) ?_
                  exact Run.meetF (F := F) hk (by exact ⟨b35, [(cut s 40), ((⟨#[64]⟩ : ByteArray) ++ x ++ (⟨#[58]⟩ : ByteArray) ++ y), ((⟨[sg].toArray⟩ : ByteArray) ++ x2 ++ (⟨#[58]⟩ : ByteArray) ++ y2)], rfl, by intro q hq; simp only [List.mem_cons, List.not_mem_nil, or_false] at hq; rcases hq with rfl | rfl | rfl <;> (first | omega | (simp only [size_app, size_mk, List.length_cons, List.length_nil]; omega) | (have := cut_size s 40; omega)), rfl, rfl⟩) (by repeat (first | (with_reducible exact Fin.done (by repeat (first | (with_reducible exact Rest.here) | apply Rest.there))) | (apply Fin.cons (by first | ((repeat (first | (with_reducible exact Find.here _) | apply Find.there)); done) | (repeat (first | exact Find.here _ | apply Find.there))))))
    · skip
      refine RunL.lit (vals := [_]) (vs := ([sg] : List UInt8).map bv) und29 sz5 zz5 rfl rfl rfl rfl rfl rfl (by simp [Value.cells, bv]) rfl (Wt.none rfl) rfl ?_; intro b26
      refine RunL.nilD' ?_
      refine RunD.lend (Q := Sl 5 1 (some ⟨b26, 0, none⟩) 1 1 (([sg] : List UInt8).map bv)) Lends.Sl (by first | ((repeat (first | (with_reducible exact Find.here _) | apply Find.there)); done) | (repeat (first | exact Find.here _ | apply Find.there))) ?_; intro gb26 hlegb26 hb26 backgb26
      have g1_gb26 := g1.mono hlegb26
      have g2_gb26 := g2.mono hlegb26
      refine RunD.bytesStr (i := 11) hok470 rfl (by kernel_rfl) rfl und29 und5 und9 (hb26.1) (Wt.none rfl) rfl ?_
      refine RunD.one (i := 1) (by kernel_rfl) rfl ?_
      · skip
        refine RunL.call rfl rfl (by rfl) (by repeat (first | (with_reducible exact Take.nil _) | (apply Take.cons (by first | ((repeat (first | (with_reducible exact Find.here _) | apply Find.there)); done) | (repeat (first | exact Find.here _ | apply Find.there)))))) (FewC_ctr (m := 40) (by decide) (by decide)) (Wt.none rfl) rfl ?_
        rintro _ _ ⟨rfl, hA_⟩
        replace hA_ := hA_.symm; subst hA_
        refine RunL.nilD' ?_
        refine RunD.one (i := 3) (by kernel_rfl) rfl ?_
        · skip
          refine RunL.call rfl rfl (by rfl) (by repeat (first | (with_reducible exact Take.nil _) | (apply Take.cons (by first | ((repeat (first | (with_reducible exact Find.here _) | apply Find.there)); done) | (repeat (first | exact Find.here _ | apply Find.there)))))) (made_ctr (odd := ⟨#[]⟩) g1_gb26 g1w g1b (by decide) (by decide) (by decide)) (Wt.none rfl) rfl ?_
          rintro _ _ ⟨x, rfl, hx, hA_⟩
          replace hA_ := hA_.symm; subst hA_
          refine RunL.nilD' ?_
          refine RunD.pure (i := 4) hok470 rfl (by kernel_rfl) (Pure.sadd rfl rfl (by first | omega | (simp only [size_mk, size_app, List.length_append, bl_length, List.length_cons, List.length_nil]; omega) | (simp; omega))) (Wt.none rfl) rfl rfl ?_
          refine RunD.pure (i := 5) hok470 rfl (by kernel_rfl) (Pure.sadd rfl rfl (by first | omega | (simp only [size_mk, size_app, List.length_append, bl_length, List.length_cons, List.length_nil]; omega) | (simp; omega))) (Wt.none rfl) rfl rfl ?_
          refine RunD.one (i := 7) (by kernel_rfl) rfl ?_
          · skip
            refine RunL.call rfl rfl (by rfl) (by repeat (first | (with_reducible exact Take.nil _) | (apply Take.cons (by first | ((repeat (first | (with_reducible exact Find.here _) | apply Find.there)); done) | (repeat (first | exact Find.here _ | apply Find.there)))))) (made_ctr (odd := ⟨#[]⟩) g2_gb26 g2w g2b (by decide) (by decide) (by decide)) (Wt.none rfl) rfl ?_
            rintro _ _ ⟨y, rfl, hy, hA_⟩
            replace hA_ := hA_.symm; subst hA_
            refine RunL.nilD' ?_
            refine RunD.pure (i := 8) hok470 rfl (by kernel_rfl) (Pure.sadd rfl rfl (by first | omega | (simp only [size_mk, size_app, List.length_append, bl_length, List.length_cons, List.length_nil]; omega) | (simp; omega))) (Wt.none rfl) rfl rfl ?_
            refine RunD.one (i := 13) (by kernel_rfl) rfl ?_
            · skip
              refine RunL.call rfl rfl (by rfl) (by repeat (first | (with_reducible exact Take.nil _) | (apply Take.cons (by first | ((repeat (first | (with_reducible exact Find.here _) | apply Find.there)); done) | (repeat (first | exact Find.here _ | apply Find.there)))))) (made_ctr (odd := ⟨#[]⟩) g1_gb26 g1w g1b (by decide) (by decide) (by decide)) (Wt.none rfl) rfl ?_
              rintro _ _ ⟨x2, rfl, hx2, hA_⟩
              replace hA_ := hA_.symm; subst hA_
              refine RunL.nilD' ?_
              refine RunD.pure (i := 14) hok470 rfl (by kernel_rfl) (Pure.sadd rfl rfl (by first | omega | (simp only [size_mk, size_app, List.length_append, bl_length, List.length_cons, List.length_nil]; omega) | (simp; omega))) (Wt.none rfl) rfl rfl ?_
              refine RunD.pure (i := 15) hok470 rfl (by kernel_rfl) (Pure.sadd rfl rfl (by first | omega | (simp only [size_mk, size_app, List.length_append, bl_length, List.length_cons, List.length_nil]; omega) | (simp; omega))) (Wt.none rfl) rfl rfl ?_
              refine RunD.one (i := 17) (by kernel_rfl) rfl ?_
              · skip
                refine RunL.call rfl rfl (by rfl) (by repeat (first | (with_reducible exact Take.nil _) | (apply Take.cons (by first | ((repeat (first | (with_reducible exact Find.here _) | apply Find.there)); done) | (repeat (first | exact Find.here _ | apply Find.there)))))) (made_ctr (odd := ⟨#[]⟩) g2_gb26 g2w g2b (by decide) (by decide) (by decide)) (Wt.none rfl) rfl ?_
                rintro _ _ ⟨y2, rfl, hy2, hA_⟩
                replace hA_ := hA_.symm; subst hA_
                refine RunL.nilD' ?_
                refine RunD.pure (i := 18) hok470 rfl (by kernel_rfl) (Pure.sadd rfl rfl (by first | omega | (simp only [size_mk, size_app, List.length_append, bl_length, List.length_cons, List.length_nil]; omega) | (simp; omega))) (Wt.none rfl) rfl rfl ?_
                refine RunD.one (i := 19) (by kernel_rfl) rfl ?_
                · skip
                  refine RunL.lit (vals := [_, _, _]) (vs := ([(cut s 40), ((⟨#[64]⟩ : ByteArray) ++ x ++ (⟨#[58]⟩ : ByteArray) ++ y), ((⟨[sg].toArray⟩ : ByteArray) ++ x2 ++ (⟨#[58]⟩ : ByteArray) ++ y2)] : List ByteArray).map Value.string) und25 sz9 zz9 rfl rfl rfl rfl rfl rfl (by simp [Value.cells, bv]) rfl (Wt.none rfl) rfl ?_; intro b35
                  refine RunL.nilD' ?_
                  refine RunD.pure (i := 20) hok470 rfl (by kernel_rfl) (Pure.assign rfl) (Wt.none rfl) rfl rfl ?_
                  refine RunD.nilB (by kernel_rfl) (fun w sw => backgb26 _ _ (sw)) ?_
                  refine Run.keep (.cons rfl (.nil) : Keep _ [9] _) ?_
                  exact Run.meetF (F := F) hk (by exact ⟨b35, [(cut s 40), ((⟨#[64]⟩ : ByteArray) ++ x ++ (⟨#[58]⟩ : ByteArray) ++ y), ((⟨[sg].toArray⟩ : ByteArray) ++ x2 ++ (⟨#[58]⟩ : ByteArray) ++ y2)], rfl, by intro q hq; simp only [List.mem_cons, List.not_mem_nil, or_false] at hq; rcases hq with rfl | rfl | rfl <;> (first | omega | (simp only [size_app, size_mk, List.length_cons, List.length_nil]; omega) | (have := cut_size s 40; omega)), rfl, rfl⟩) (by repeat (first | (with_reducible exact Fin.done (by repeat (first | (with_reducible exact Rest.here) | apply Rest.there))) | (apply Fin.cons (by first | ((repeat (first | (with_reducible exact Find.here _) | apply Find.there)); done) | (repeat (first | exact Find.here _ | apply Find.there))))))

end Go.Proofs.Ytlfldbkpndmdhaa
