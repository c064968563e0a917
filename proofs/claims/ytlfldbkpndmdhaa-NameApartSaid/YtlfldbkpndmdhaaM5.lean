/- Kinds of names are apart. -/
import Derived.Test.YtlfldbkpndmdhaaM4
set_option linter.unusedVariables false
set_option linter.unusedSimpArgs false
set_option linter.unusedSectionVars false
namespace Go.Proofs.Ytlfldbkpndmdhaa
open Go Csl


set_option maxHeartbeats 8000000 in
set_option maxRecDepth 100000 in
theorem NameApart_ctr {G : Gp} {s : ByteArray} {z : Int} (hz : (Lit.int .u8 z).wf = true) {a1 : Option Addr} {l1 : List Int} {c1 : Nat} (g1 : SlR G 3 1 a1 l1.length (l1.map (Value.int .i64))) (g1w : ∀ z ∈ l1, (Lit.int .i64 z).wf = true) (g1b : l1.length ≤ 9223372036854775807) {a2 : Option Addr} {l2 : List Int} {c2 : Nat} (g2 : SlR G 3 1 a2 l2.length (l2.map (Value.int .i64))) (g2w : ∀ z ∈ l2, (Lit.int .i64 z).wf = true) (g2b : l2.length ≤ 9223372036854775807) :
    Ctr Try.prog G 4 [.string s, .int .u8 z, .slice a1 l1.length c1, .slice a2 l2.length c2] [] (fun F v A => v = .bool true ∧ A = F) := by
  refine Ctr.intro Try.func4 rfl (by kernel_rfl) rfl (fun F => ?_)
  simp only [List.nil_append]
  obtain ⟨sg, rfl⟩ : ∃ sg : UInt8, z = ((sg.toNat : Nat) : Int) := ⟨UInt8.ofNat z.toNat, by have := wf_u8 hz; rw [UInt8.toNat_ofNat_of_lt' (by simp [UInt8.size]; omega)]; omega⟩
  refine Run.sr ?_
  refine RunL.as rfl rfl ?_
  refine RunL.nil ?_
  refine Run.seq ?_
  refine Run.cut (fun e A => ∃ (b : Nat) (xs : List ByteArray), xs.length = 3 ∧ (∀ x ∈ xs, x.size ≤ 100) ∧ e = [(9, .slice (some ⟨b, 0, none⟩) 3 3)] ∧ A = Sl 9 1 (some ⟨b, 0, none⟩) 3 3 (xs.map Value.string) :: F) (fun e A hM => ?_) (fun hk => ?_)
  · obtain ⟨bx, xs, hxn, hxz, rfl, hA_⟩ := hM
    replace hA_ := hA_.symm; subst hA_
    refine Run.lendAll (Q := Sl 9 1 (some ⟨bx, 0, none⟩) 3 3 (xs.map Value.string)) (Lends.litRow (n := 3)) (by first | ((repeat (first | (with_reducible exact Find.here _) | apply Find.there)); done) | (repeat (first | exact Find.here _ | apply Find.there))) (fun Ghs0 hleGhs0 hs0 => ?_)
    replace g1 := g1.mono hleGhs0
    replace g2 := g2.mono hleGhs0
    obtain ⟨postx, hs⟩ := hs0
    refine Run.seq ?_
    refine Run.sr ?_
    refine RunL.as rfl rfl ?_
    refine RunL.nil ?_
    refine Run.block ?_
    refine Run.keep (.cons rfl (.cons rfl (.nil)) : Keep _ [9, 10] _) ?_
    refine Run.loopF (F := F) (fun n e A => ∃ (i : Nat), i ≤ 3 ∧ n = 3 - i ∧ e = [(9, .slice (some ⟨bx, 0, none⟩) 3 3), (10, .int .i64 (i : Nat))] ∧ A = F) (3) (by exact ⟨0, by omega, rfl, rfl, rfl⟩) (by repeat (first | (with_reducible exact Fin.done (by repeat (first | (with_reducible exact Rest.here) | apply Rest.there))) | (apply Fin.cons (by first | ((repeat (first | (with_reducible exact Find.here _) | apply Find.there)); done) | (repeat (first | exact Find.here _ | apply Find.there)))))) ?_
    rintro n _ _ ⟨i, hi, rfl, rfl, hA_⟩ ih
    replace hA_ := hA_.symm; subst hA_
    refine Run.seq ?_
    refine Run.sr ?_
    refine RunL.mv rfl rfl ?_
    refine RunL.pure (Pure.lss rfl rfl) (Wt.none rfl) rfl rfl ?_
    refine RunL.nil ?_
    refine Run.cond rfl (fun hi5 => ?_) (fun hi5 => ?_)
    · try simp only [decide_eq_true_eq, decide_eq_false_iff_not, beq_iff_eq, beq_eq_false_iff_ne, bne_iff_ne, ne_eq, Bool.not_eq_true', Bool.not_eq_false', Bool.not_eq_true, Bool.not_eq_false, Int.not_lt, Int.not_le, Decidable.not_not, bne_eq_false_iff_eq, gt_iff_lt, ge_iff_le, Bool.or_eq_true, Bool.and_eq_true] at hi5
      obtain ⟨t, ht⟩ := get_some (xs := xs) (i := i) (by omega)
      have htz := hxz t (List.mem_of_getElem? ht)
      refine Run.skip ?_
      refine Run.seq ?_
      refine Run.block ?_
      refine Run.sr ?_
      refine RunL.as rfl rfl ?_
      refine RunL.nil ?_
      refine Run.seq ?_
      refine Run.sr ?_
      refine RunL.mv rfl rfl ?_
      refine RunL.mv rfl rfl ?_
      refine RunL.pure (Pure.indexAddr rfl rfl und25 sz9 (by omega) (by omega)) (Wt.none rfl) rfl rfl ?_
      refine RunL.load1R rfl hs (elem1_at ht) agg9 (Wt.none rfl) rfl ?_
      refine RunL.call rfl rfl (by rfl) (by repeat (first | (with_reducible exact Take.nil _) | (apply Take.cons (by first | ((repeat (first | (with_reducible exact Find.here _) | apply Find.there)); done) | (repeat (first | exact Find.here _ | apply Find.there)))))) (User_ctr (by first | assumption | omega | (simp only [mkS_size, List.length_take, List.length_drop, bl_length]; omega) | (simp only [mkS_size, size_app, List.length_take, List.length_drop, List.length_append, bl_length, List.length_cons, List.length_nil, size_mk]; omega))) (Wt.none rfl) rfl ?_
      rintro _ _ ⟨rfl, hA_⟩
      replace hA_ := hA_.symm; subst hA_
      refine RunL.nil ?_
      refine Run.cond rfl (fun hu => ?_) (fun hu => ?_)
      · try simp only [decide_eq_true_eq, decide_eq_false_iff_not, beq_iff_eq, beq_eq_false_iff_ne, bne_iff_ne, ne_eq, Bool.not_eq_true', Bool.not_eq_false', Bool.not_eq_true, Bool.not_eq_false, Int.not_lt, Int.not_le, Decidable.not_not, bne_eq_false_iff_eq, gt_iff_lt, ge_iff_le, Bool.or_eq_true, Bool.and_eq_true] at hu
        have h0 := named_at hu
        have hr : namedB 33 (bl t) = false := named_other h0 (by decide)
        have he : eventB (bl t) = false := event_head h0 (by decide)
        have hv : serverB (bl t) = false := server_head h0 (by decide)
        refine Run.region ?_
        refine RunL.mv rfl rfl ?_
        first | refine RunL.pure (Pure.addI rfl rfl (by omega)) (Wt.none rfl) rfl rfl ?_ | refine RunL.pure (Pure.add rfl rfl) (Wt.none rfl) rfl rfl ?_
        refine RunL.as rfl rfl ?_
        refine RunL.nil ?_
        refine Run.seq ?_
        refine Run.sr ?_
        refine RunL.mv rfl rfl ?_
        refine RunL.mv rfl rfl ?_
        refine RunL.pure (Pure.indexAddr rfl rfl und25 sz9 (by omega) (by omega)) (Wt.none rfl) rfl rfl ?_
        refine RunL.load1R rfl hs (elem1_at ht) agg9 (Wt.none rfl) rfl ?_
        refine RunL.call rfl rfl (by rfl) (by repeat (first | (with_reducible exact Take.nil _) | (apply Take.cons (by first | ((repeat (first | (with_reducible exact Find.here _) | apply Find.there)); done) | (repeat (first | exact Find.here _ | apply Find.there)))))) (Room_ctr (by first | assumption | omega | (simp only [mkS_size, List.length_take, List.length_drop, bl_length]; omega) | (simp only [mkS_size, size_app, List.length_take, List.length_drop, List.length_append, bl_length, List.length_cons, List.length_nil, size_mk]; omega))) (Wt.none rfl) rfl ?_
        rintro _ _ ⟨rfl, hA_⟩
        replace hA_ := hA_.symm; subst hA_
        refine RunL.nil ?_
        refine Run.cond rfl (fun hc1 => ?_) (fun hc1 => ?_)
        · try simp only [decide_eq_true_eq, decide_eq_false_iff_not, beq_iff_eq, beq_eq_false_iff_ne, bne_iff_ne, ne_eq, Bool.not_eq_true', Bool.not_eq_false', Bool.not_eq_true, Bool.not_eq_false, Int.not_lt, Int.not_le, Decidable.not_not, bne_eq_false_iff_eq, gt_iff_lt, ge_iff_le, Bool.or_eq_true, Bool.and_eq_true] at hc1
          exfalso
          rw [hr] at hc1; cases hc1
        try simp only [decide_eq_true_eq, decide_eq_false_iff_not, beq_iff_eq, beq_eq_false_iff_ne, bne_iff_ne, ne_eq, Bool.not_eq_true', Bool.not_eq_false', Bool.not_eq_true, Bool.not_eq_false, Int.not_lt, Int.not_le, Decidable.not_not, bne_eq_false_iff_eq, gt_iff_lt, ge_iff_le, Bool.or_eq_true, Bool.and_eq_true] at hc1
        refine Run.skip ?_
        refine Run.seq ?_
        refine Run.sr ?_
        refine RunL.mv rfl rfl ?_
        refine RunL.mv rfl rfl ?_
        refine RunL.pure (Pure.indexAddr rfl rfl und25 sz9 (by omega) (by omega)) (Wt.none rfl) rfl rfl ?_
        refine RunL.load1R rfl hs (elem1_at ht) agg9 (Wt.none rfl) rfl ?_
        refine RunL.call rfl rfl (by rfl) (by repeat (first | (with_reducible exact Take.nil _) | (apply Take.cons (by first | ((repeat (first | (with_reducible exact Find.here _) | apply Find.there)); done) | (repeat (first | exact Find.here _ | apply Find.there)))))) (nEvent_ctr (by first | assumption | omega | (simp only [mkS_size, List.length_take, List.length_drop, bl_length]; omega) | (simp only [mkS_size, size_app, List.length_take, List.length_drop, List.length_append, bl_length, List.length_cons, List.length_nil, size_mk]; omega))) (Wt.none rfl) rfl ?_
        rintro _ _ ⟨rfl, hA_⟩
        replace hA_ := hA_.symm; subst hA_
        refine RunL.nil ?_
        refine Run.cond rfl (fun hc2 => ?_) (fun hc2 => ?_)
        · try simp only [decide_eq_true_eq, decide_eq_false_iff_not, beq_iff_eq, beq_eq_false_iff_ne, bne_iff_ne, ne_eq, Bool.not_eq_true', Bool.not_eq_false', Bool.not_eq_true, Bool.not_eq_false, Int.not_lt, Int.not_le, Decidable.not_not, bne_eq_false_iff_eq, gt_iff_lt, ge_iff_le, Bool.or_eq_true, Bool.and_eq_true] at hc2
          exfalso
          rw [he] at hc2; cases hc2
        try simp only [decide_eq_true_eq, decide_eq_false_iff_not, beq_iff_eq, beq_eq_false_iff_ne, bne_iff_ne, ne_eq, Bool.not_eq_true', Bool.not_eq_false', Bool.not_eq_true, Bool.not_eq_false, Int.not_lt, Int.not_le, Decidable.not_not, bne_eq_false_iff_eq, gt_iff_lt, ge_iff_le, Bool.or_eq_true, Bool.and_eq_true] at hc2
        refine Run.skip ?_
        refine Run.seq ?_
        refine Run.sr ?_
        refine RunL.mv rfl rfl ?_
        refine RunL.mv rfl rfl ?_
        refine RunL.pure (Pure.indexAddr rfl rfl und25 sz9 (by omega) (by omega)) (Wt.none rfl) rfl rfl ?_
        refine RunL.load1R rfl hs (elem1_at ht) agg9 (Wt.none rfl) rfl ?_
        refine RunL.call rfl rfl (by rfl) (by repeat (first | (with_reducible exact Take.nil _) | (apply Take.cons (by first | ((repeat (first | (with_reducible exact Find.here _) | apply Find.there)); done) | (repeat (first | exact Find.here _ | apply Find.there)))))) (nServer_ctr (by first | assumption | omega | (simp only [mkS_size, List.length_take, List.length_drop, bl_length]; omega) | (simp only [mkS_size, size_app, List.length_take, List.length_drop, List.length_append, bl_length, List.length_cons, List.length_nil, size_mk]; omega))) (Wt.none rfl) rfl ?_
        rintro _ _ ⟨rfl, hA_⟩
        replace hA_ := hA_.symm; subst hA_
        refine RunL.nil ?_
        refine Run.cond rfl (fun hc3 => ?_) (fun hc3 => ?_)
        · try simp only [decide_eq_true_eq, decide_eq_false_iff_not, beq_iff_eq, beq_eq_false_iff_ne, bne_iff_ne, ne_eq, Bool.not_eq_true', Bool.not_eq_false', Bool.not_eq_true, Bool.not_eq_false, Int.not_lt, Int.not_le, Decidable.not_not, bne_eq_false_iff_eq, gt_iff_lt, ge_iff_le, Bool.or_eq_true, Bool.and_eq_true] at hc3
          exfalso
          rw [hv] at hc3; cases hc3
        try simp only [decide_eq_true_eq, decide_eq_false_iff_not, beq_iff_eq, beq_eq_false_iff_ne, bne_iff_ne, ne_eq, Bool.not_eq_true', Bool.not_eq_false', Bool.not_eq_true, Bool.not_eq_false, Int.not_lt, Int.not_le, Decidable.not_not, bne_eq_false_iff_eq, gt_iff_lt, ge_iff_le, Bool.or_eq_true, Bool.and_eq_true] at hc3
        refine Run.skip ?_
        have hh := home_ne (.inl hu)
        refine Run.seq ?_
        refine Run.regionD' (by kernel_rfl) (by kernel_rfl) (fun hok106 => ?_)
        refine RunD.pure (i := 0) hok106 rfl (by kernel_rfl) (Pure.move rfl) (Wt.none rfl) rfl rfl ?_
        refine RunD.pure (i := 1) hok106 rfl (by kernel_rfl) (Pure.gtr rfl rfl) (Wt.none rfl) rfl rfl ?_
        refine RunD.pure (i := 2) hok106 rfl (by kernel_rfl) (Pure.move rfl) (Wt.none rfl) rfl rfl ?_
        refine RunD.split (d := 65) rfl (fun hg4 => ?_) (fun hg4 => ?_)
        · try simp only [decide_eq_true_eq, decide_eq_false_iff_not, beq_iff_eq, beq_eq_false_iff_ne, bne_iff_ne, ne_eq, Bool.not_eq_true', Bool.not_eq_false', Bool.not_eq_true, Bool.not_eq_false, Int.not_lt, Int.not_le, Decidable.not_not, bne_eq_false_iff_eq, gt_iff_lt, ge_iff_le, Bool.or_eq_true, Bool.and_eq_true] at hg4
          exfalso
          omega
        try simp only [decide_eq_true_eq, decide_eq_false_iff_not, beq_iff_eq, beq_eq_false_iff_ne, bne_iff_ne, ne_eq, Bool.not_eq_true', Bool.not_eq_false', Bool.not_eq_true, Bool.not_eq_false, Int.not_lt, Int.not_le, Decidable.not_not, bne_eq_false_iff_eq, gt_iff_lt, ge_iff_le, Bool.or_eq_true, Bool.and_eq_true] at hg4
        refine RunD.pure (i := 3) hok106 rfl (by kernel_rfl) (Pure.move rfl) (Wt.yes rfl rfl rfl) rfl rfl ?_
        refine RunD.pure (i := 4) hok106 rfl (by kernel_rfl) (Pure.move rfl) (Wt.yes rfl rfl rfl) rfl rfl ?_
        refine RunD.pure (i := 5) hok106 rfl (by kernel_rfl) (Pure.indexAddr rfl rfl und25 sz9 (by omega) (by omega)) (Wt.yes rfl rfl rfl) rfl rfl ?_
        refine RunD.load1R (i := 6) hok106 rfl (by kernel_rfl) rfl hs (elem1_at ht) agg9 (Wt.yes rfl rfl rfl) rfl ?_
        refine RunD.pure (i := 9) hok106 rfl (by kernel_rfl) (Pure.move rfl) (Wt.yes rfl rfl rfl) rfl rfl ?_
        refine RunD.pure (i := 10) hok106 rfl (by kernel_rfl) (Pure.move rfl) (Wt.yes rfl rfl rfl) rfl rfl ?_
        refine RunD.pure (i := 11) hok106 rfl (by kernel_rfl) (Pure.indexAddr rfl rfl und25 sz9 (by omega) (by omega)) (Wt.yes rfl rfl rfl) rfl rfl ?_
        refine RunD.load1R (i := 12) hok106 rfl (by kernel_rfl) rfl hs (elem1_at ht) agg9 (Wt.yes rfl rfl rfl) rfl ?_
        refine RunD.one (i := 7) (by kernel_rfl) rfl ?_
        refine RunL.call rfl rfl (by rfl) (by repeat (first | (with_reducible exact Take.nil _) | (apply Take.cons (by first | ((repeat (first | (with_reducible exact Find.here _) | apply Find.there)); done) | (repeat (first | exact Find.here _ | apply Find.there)))))) (nHome_ctr (by first | assumption | omega | (simp only [mkS_size, List.length_take, List.length_drop, bl_length]; omega) | (simp only [mkS_size, size_app, List.length_take, List.length_drop, List.length_append, bl_length, List.length_cons, List.length_nil, size_mk]; omega))) (Wt.yes rfl rfl rfl) rfl ?_
        rintro _ _ ⟨rfl, hA_⟩
        replace hA_ := hA_.symm; subst hA_
        refine RunL.nilD' ?_
        refine RunD.pure (i := 8) hok106 rfl (by kernel_rfl) (Pure.sneq rfl rfl) (Wt.yes rfl rfl rfl) rfl rfl ?_
        refine RunD.one (i := 13) (by kernel_rfl) rfl ?_
        refine RunL.call rfl rfl (by rfl) (by repeat (first | (with_reducible exact Take.nil _) | (apply Take.cons (by first | ((repeat (first | (with_reducible exact Find.here _) | apply Find.there)); done) | (repeat (first | exact Find.here _ | apply Find.there)))))) (User_ctr (by first | assumption | omega | (simp only [mkS_size, List.length_take, List.length_drop, bl_length]; omega) | (simp only [mkS_size, size_app, List.length_take, List.length_drop, List.length_append, bl_length, List.length_cons, List.length_nil, size_mk]; omega))) (Wt.yes rfl rfl rfl) rfl ?_
        rintro _ _ ⟨rfl, hA_⟩
        replace hA_ := hA_.symm; subst hA_
        refine RunL.nilD' ?_
        refine RunD.pure (i := 14) hok106 rfl (by kernel_rfl) (Pure.move rfl) (Wt.yes rfl rfl rfl) rfl rfl ?_
        refine RunD.split (d := 77) rfl (fun hg5 => ?_) (fun hg5 => ?_)
        rotate_left
        · try simp only [decide_eq_true_eq, decide_eq_false_iff_not, beq_iff_eq, beq_eq_false_iff_ne, bne_iff_ne, ne_eq, Bool.not_eq_true', Bool.not_eq_false', Bool.not_eq_true, Bool.not_eq_false, Int.not_lt, Int.not_le, Decidable.not_not, bne_eq_false_iff_eq, gt_iff_lt, ge_iff_le, Bool.or_eq_true, Bool.and_eq_true] at hg5
          exfalso
          rw [hu] at hg5; cases hg5
        try simp only [decide_eq_true_eq, decide_eq_false_iff_not, beq_iff_eq, beq_eq_false_iff_ne, bne_iff_ne, ne_eq, Bool.not_eq_true', Bool.not_eq_false', Bool.not_eq_true, Bool.not_eq_false, Int.not_lt, Int.not_le, Decidable.not_not, bne_eq_false_iff_eq, gt_iff_lt, ge_iff_le, Bool.or_eq_true, Bool.and_eq_true] at hg5
        refine RunD.not (i := 15) hok106 rfl (by kernel_rfl) rfl rfl (Wt.no rfl rfl rfl) ?_
        refine RunD.not (i := 16) hok106 rfl (by kernel_rfl) rfl rfl (Wt.no rfl rfl rfl) ?_
        refine RunD.not (i := 17) hok106 rfl (by kernel_rfl) rfl rfl (Wt.no rfl rfl rfl) ?_
        refine RunD.not (i := 18) hok106 rfl (by kernel_rfl) rfl rfl (Wt.no rfl rfl rfl) ?_
        refine RunD.not (i := 19) hok106 rfl (by kernel_rfl) rfl rfl (Wt.no rfl rfl rfl) ?_
        refine RunD.pure (i := 20) hok106 rfl (by kernel_rfl) (Pure.pickT rfl rfl) (Wt.yes rfl rfl rfl) rfl rfl ?_
        refine RunD.pure (i := 21) hok106 rfl (by kernel_rfl) (Pure.bneq rfl rfl und4) (Wt.yes rfl rfl rfl) rfl rfl ?_
        refine RunD.pure (i := 22) hok106 rfl (by kernel_rfl) (Pure.pickF rfl rfl) (Wt.none rfl) rfl rfl ?_
        refine RunD.nilR (by kernel_rfl) ?_
        refine Run.cond rfl (fun hc6 => ?_) (fun hc6 => ?_)
        · try simp only [decide_eq_true_eq, decide_eq_false_iff_not, beq_iff_eq, beq_eq_false_iff_ne, bne_iff_ne, ne_eq, Bool.not_eq_true', Bool.not_eq_false', Bool.not_eq_true, Bool.not_eq_false, Int.not_lt, Int.not_le, Decidable.not_not, bne_eq_false_iff_eq, gt_iff_lt, ge_iff_le, Bool.or_eq_true, Bool.and_eq_true] at hc6
          exfalso
          have hz : bl (⟨#[]⟩ : ByteArray) = [] := rfl
          first | (simp [bl_mkS, hh, hr, hz] at hc6; done) | (rw [bl_mkS] at hc6; simp_all; done) | (simp [bl_mkS, hh, hr, hu, hz] at hc6; done)
        try simp only [decide_eq_true_eq, decide_eq_false_iff_not, beq_iff_eq, beq_eq_false_iff_ne, bne_iff_ne, ne_eq, Bool.not_eq_true', Bool.not_eq_false', Bool.not_eq_true, Bool.not_eq_false, Int.not_lt, Int.not_le, Decidable.not_not, bne_eq_false_iff_eq, gt_iff_lt, ge_iff_le, Bool.or_eq_true, Bool.and_eq_true] at hc6
        refine Run.skip ?_
        refine Run.inBlock ?_
        refine Run.region ?_
        refine RunL.mv rfl rfl ?_
        first | refine RunL.pure (Pure.addI rfl rfl (by omega)) (Wt.none rfl) rfl rfl ?_ | refine RunL.pure (Pure.add rfl rfl) (Wt.none rfl) rfl rfl ?_
        refine RunL.as rfl rfl ?_
        refine RunL.nil ?_
        refine Run.keep (.cons rfl (.cons rfl (.nil)) : Keep _ [9, 10] _) ?_
        refine Run.againF (F := F) ih (by exact ⟨i + 1, by omega, rfl, rfl, rfl⟩) (by repeat (first | (with_reducible exact Fin.done (by repeat (first | (with_reducible exact Rest.here) | apply Rest.there))) | (apply Fin.cons (by first | ((repeat (first | (with_reducible exact Find.here _) | apply Find.there)); done) | (repeat (first | exact Find.here _ | apply Find.there)))))) ?_
        omega
      · try simp only [decide_eq_true_eq, decide_eq_false_iff_not, beq_iff_eq, beq_eq_false_iff_ne, bne_iff_ne, ne_eq, Bool.not_eq_true', Bool.not_eq_false', Bool.not_eq_true, Bool.not_eq_false, Int.not_lt, Int.not_le, Decidable.not_not, bne_eq_false_iff_eq, gt_iff_lt, ge_iff_le, Bool.or_eq_true, Bool.and_eq_true] at hu
        refine Run.skip ?_
        refine Run.seq ?_
        refine Run.sr ?_
        refine RunL.mv rfl rfl ?_
        refine RunL.mv rfl rfl ?_
        refine RunL.pure (Pure.indexAddr rfl rfl und25 sz9 (by omega) (by omega)) (Wt.none rfl) rfl rfl ?_
        refine RunL.load1R rfl hs (elem1_at ht) agg9 (Wt.none rfl) rfl ?_
        refine RunL.call rfl rfl (by rfl) (by repeat (first | (with_reducible exact Take.nil _) | (apply Take.cons (by first | ((repeat (first | (with_reducible exact Find.here _) | apply Find.there)); done) | (repeat (first | exact Find.here _ | apply Find.there)))))) (Room_ctr (by first | assumption | omega | (simp only [mkS_size, List.length_take, List.length_drop, bl_length]; omega) | (simp only [mkS_size, size_app, List.length_take, List.length_drop, List.length_append, bl_length, List.length_cons, List.length_nil, size_mk]; omega))) (Wt.none rfl) rfl ?_
        rintro _ _ ⟨rfl, hA_⟩
        replace hA_ := hA_.symm; subst hA_
        refine RunL.nil ?_
        refine Run.cond rfl (fun hr => ?_) (fun hr => ?_)
        · try simp only [decide_eq_true_eq, decide_eq_false_iff_not, beq_iff_eq, beq_eq_false_iff_ne, bne_iff_ne, ne_eq, Bool.not_eq_true', Bool.not_eq_false', Bool.not_eq_true, Bool.not_eq_false, Int.not_lt, Int.not_le, Decidable.not_not, bne_eq_false_iff_eq, gt_iff_lt, ge_iff_le, Bool.or_eq_true, Bool.and_eq_true] at hr
          have h0 := named_at hr
          have he : eventB (bl t) = false := event_head h0 (by decide)
          have hv : serverB (bl t) = false := server_head h0 (by decide)
          refine Run.region ?_
          refine RunL.mv rfl rfl ?_
          first | refine RunL.pure (Pure.addI rfl rfl (by omega)) (Wt.none rfl) rfl rfl ?_ | refine RunL.pure (Pure.add rfl rfl) (Wt.none rfl) rfl rfl ?_
          refine RunL.as rfl rfl ?_
          refine RunL.nil ?_
          refine Run.seq ?_
          refine Run.sr ?_
          refine RunL.mv rfl rfl ?_
          refine RunL.mv rfl rfl ?_
          refine RunL.pure (Pure.indexAddr rfl rfl und25 sz9 (by omega) (by omega)) (Wt.none rfl) rfl rfl ?_
          refine RunL.load1R rfl hs (elem1_at ht) agg9 (Wt.none rfl) rfl ?_
          refine RunL.call rfl rfl (by rfl) (by repeat (first | (with_reducible exact Take.nil _) | (apply Take.cons (by first | ((repeat (first | (with_reducible exact Find.here _) | apply Find.there)); done) | (repeat (first | exact Find.here _ | apply Find.there)))))) (nEvent_ctr (by first | assumption | omega | (simp only [mkS_size, List.length_take, List.length_drop, bl_length]; omega) | (simp only [mkS_size, size_app, List.length_take, List.length_drop, List.length_append, bl_length, List.length_cons, List.length_nil, size_mk]; omega))) (Wt.none rfl) rfl ?_
          rintro _ _ ⟨rfl, hA_⟩
          replace hA_ := hA_.symm; subst hA_
          refine RunL.nil ?_
          refine Run.cond rfl (fun hc7 => ?_) (fun hc7 => ?_)
          · try simp only [decide_eq_true_eq, decide_eq_false_iff_not, beq_iff_eq, beq_eq_false_iff_ne, bne_iff_ne, ne_eq, Bool.not_eq_true', Bool.not_eq_false', Bool.not_eq_true, Bool.not_eq_false, Int.not_lt, Int.not_le, Decidable.not_not, bne_eq_false_iff_eq, gt_iff_lt, ge_iff_le, Bool.or_eq_true, Bool.and_eq_true] at hc7
            exfalso
            rw [he] at hc7; cases hc7
          try simp only [decide_eq_true_eq, decide_eq_false_iff_not, beq_iff_eq, beq_eq_false_iff_ne, bne_iff_ne, ne_eq, Bool.not_eq_true', Bool.not_eq_false', Bool.not_eq_true, Bool.not_eq_false, Int.not_lt, Int.not_le, Decidable.not_not, bne_eq_false_iff_eq, gt_iff_lt, ge_iff_le, Bool.or_eq_true, Bool.and_eq_true] at hc7
          refine Run.skip ?_
          refine Run.seq ?_
          refine Run.sr ?_
          refine RunL.mv rfl rfl ?_
          refine RunL.mv rfl rfl ?_
          refine RunL.pure (Pure.indexAddr rfl rfl und25 sz9 (by omega) (by omega)) (Wt.none rfl) rfl rfl ?_
          refine RunL.load1R rfl hs (elem1_at ht) agg9 (Wt.none rfl) rfl ?_
          refine RunL.call rfl rfl (by rfl) (by repeat (first | (with_reducible exact Take.nil _) | (apply Take.cons (by first | ((repeat (first | (with_reducible exact Find.here _) | apply Find.there)); done) | (repeat (first | exact Find.here _ | apply Find.there)))))) (nServer_ctr (by first | assumption | omega | (simp only [mkS_size, List.length_take, List.length_drop, bl_length]; omega) | (simp only [mkS_size, size_app, List.length_take, List.length_drop, List.length_append, bl_length, List.length_cons, List.length_nil, size_mk]; omega))) (Wt.none rfl) rfl ?_
          rintro _ _ ⟨rfl, hA_⟩
          replace hA_ := hA_.symm; subst hA_
          refine RunL.nil ?_
          refine Run.cond rfl (fun hc8 => ?_) (fun hc8 => ?_)
          · try simp only [decide_eq_true_eq, decide_eq_false_iff_not, beq_iff_eq, beq_eq_false_iff_ne, bne_iff_ne, ne_eq, Bool.not_eq_true', Bool.not_eq_false', Bool.not_eq_true, Bool.not_eq_false, Int.not_lt, Int.not_le, Decidable.not_not, bne_eq_false_iff_eq, gt_iff_lt, ge_iff_le, Bool.or_eq_true, Bool.and_eq_true] at hc8
            exfalso
            rw [hv] at hc8; cases hc8
          try simp only [decide_eq_true_eq, decide_eq_false_iff_not, beq_iff_eq, beq_eq_false_iff_ne, bne_iff_ne, ne_eq, Bool.not_eq_true', Bool.not_eq_false', Bool.not_eq_true, Bool.not_eq_false, Int.not_lt, Int.not_le, Decidable.not_not, bne_eq_false_iff_eq, gt_iff_lt, ge_iff_le, Bool.or_eq_true, Bool.and_eq_true] at hc8
          refine Run.skip ?_
          have hh := home_ne (.inr hr)
          refine Run.seq ?_
          refine Run.regionD' (by kernel_rfl) (by kernel_rfl) (fun hok222 => ?_)
          refine RunD.pure (i := 0) hok222 rfl (by kernel_rfl) (Pure.move rfl) (Wt.none rfl) rfl rfl ?_
          refine RunD.pure (i := 1) hok222 rfl (by kernel_rfl) (Pure.gtr rfl rfl) (Wt.none rfl) rfl rfl ?_
          refine RunD.pure (i := 2) hok222 rfl (by kernel_rfl) (Pure.move rfl) (Wt.none rfl) rfl rfl ?_
          refine RunD.split (d := 65) rfl (fun hg9 => ?_) (fun hg9 => ?_)
          · try simp only [decide_eq_true_eq, decide_eq_false_iff_not, beq_iff_eq, beq_eq_false_iff_ne, bne_iff_ne, ne_eq, Bool.not_eq_true', Bool.not_eq_false', Bool.not_eq_true, Bool.not_eq_false, Int.not_lt, Int.not_le, Decidable.not_not, bne_eq_false_iff_eq, gt_iff_lt, ge_iff_le, Bool.or_eq_true, Bool.and_eq_true] at hg9
            exfalso
            omega
          try simp only [decide_eq_true_eq, decide_eq_false_iff_not, beq_iff_eq, beq_eq_false_iff_ne, bne_iff_ne, ne_eq, Bool.not_eq_true', Bool.not_eq_false', Bool.not_eq_true, Bool.not_eq_false, Int.not_lt, Int.not_le, Decidable.not_not, bne_eq_false_iff_eq, gt_iff_lt, ge_iff_le, Bool.or_eq_true, Bool.and_eq_true] at hg9
          refine RunD.pure (i := 3) hok222 rfl (by kernel_rfl) (Pure.move rfl) (Wt.yes rfl rfl rfl) rfl rfl ?_
          refine RunD.pure (i := 4) hok222 rfl (by kernel_rfl) (Pure.move rfl) (Wt.yes rfl rfl rfl) rfl rfl ?_
          refine RunD.pure (i := 5) hok222 rfl (by kernel_rfl) (Pure.indexAddr rfl rfl und25 sz9 (by omega) (by omega)) (Wt.yes rfl rfl rfl) rfl rfl ?_
          refine RunD.load1R (i := 6) hok222 rfl (by kernel_rfl) rfl hs (elem1_at ht) agg9 (Wt.yes rfl rfl rfl) rfl ?_
          refine RunD.pure (i := 9) hok222 rfl (by kernel_rfl) (Pure.move rfl) (Wt.yes rfl rfl rfl) rfl rfl ?_
          refine RunD.pure (i := 10) hok222 rfl (by kernel_rfl) (Pure.move rfl) (Wt.yes rfl rfl rfl) rfl rfl ?_
          refine RunD.pure (i := 11) hok222 rfl (by kernel_rfl) (Pure.indexAddr rfl rfl und25 sz9 (by omega) (by omega)) (Wt.yes rfl rfl rfl) rfl rfl ?_
          refine RunD.load1R (i := 12) hok222 rfl (by kernel_rfl) rfl hs (elem1_at ht) agg9 (Wt.yes rfl rfl rfl) rfl ?_
          refine RunD.one (i := 7) (by kernel_rfl) rfl ?_
          refine RunL.call rfl rfl (by rfl) (by repeat (first | (with_reducible exact Take.nil _) | (apply Take.cons (by first | ((repeat (first | (with_reducible exact Find.here _) | apply Find.there)); done) | (repeat (first | exact Find.here _ | apply Find.there)))))) (nHome_ctr (by first | assumption | omega | (simp only [mkS_size, List.length_take, List.length_drop, bl_length]; omega) | (simp only [mkS_size, size_app, List.length_take, List.length_drop, List.length_append, bl_length, List.length_cons, List.length_nil, size_mk]; omega))) (Wt.yes rfl rfl rfl) rfl ?_
          rintro _ _ ⟨rfl, hA_⟩
          replace hA_ := hA_.symm; subst hA_
          refine RunL.nilD' ?_
          refine RunD.pure (i := 8) hok222 rfl (by kernel_rfl) (Pure.sneq rfl rfl) (Wt.yes rfl rfl rfl) rfl rfl ?_
          refine RunD.one (i := 13) (by kernel_rfl) rfl ?_
          refine RunL.call rfl rfl (by rfl) (by repeat (first | (with_reducible exact Take.nil _) | (apply Take.cons (by first | ((repeat (first | (with_reducible exact Find.here _) | apply Find.there)); done) | (repeat (first | exact Find.here _ | apply Find.there)))))) (User_ctr (by first | assumption | omega | (simp only [mkS_size, List.length_take, List.length_drop, bl_length]; omega) | (simp only [mkS_size, size_app, List.length_take, List.length_drop, List.length_append, bl_length, List.length_cons, List.length_nil, size_mk]; omega))) (Wt.yes rfl rfl rfl) rfl ?_
          rintro _ _ ⟨rfl, hA_⟩
          replace hA_ := hA_.symm; subst hA_
          refine RunL.nilD' ?_
          refine RunD.pure (i := 14) hok222 rfl (by kernel_rfl) (Pure.move rfl) (Wt.yes rfl rfl rfl) rfl rfl ?_
          refine RunD.split (d := 77) rfl (fun hg10 => ?_) (fun hg10 => ?_)
          · try simp only [decide_eq_true_eq, decide_eq_false_iff_not, beq_iff_eq, beq_eq_false_iff_ne, bne_iff_ne, ne_eq, Bool.not_eq_true', Bool.not_eq_false', Bool.not_eq_true, Bool.not_eq_false, Int.not_lt, Int.not_le, Decidable.not_not, bne_eq_false_iff_eq, gt_iff_lt, ge_iff_le, Bool.or_eq_true, Bool.and_eq_true] at hg10
            exfalso
            rw [hu] at hg10; cases hg10
          try simp only [decide_eq_true_eq, decide_eq_false_iff_not, beq_iff_eq, beq_eq_false_iff_ne, bne_iff_ne, ne_eq, Bool.not_eq_true', Bool.not_eq_false', Bool.not_eq_true, Bool.not_eq_false, Int.not_lt, Int.not_le, Decidable.not_not, bne_eq_false_iff_eq, gt_iff_lt, ge_iff_le, Bool.or_eq_true, Bool.and_eq_true] at hg10
          refine RunD.pure (i := 15) hok222 rfl (by kernel_rfl) (Pure.move rfl) (Wt.yes rfl rfl rfl) rfl rfl ?_
          refine RunD.pure (i := 16) hok222 rfl (by kernel_rfl) (Pure.move rfl) (Wt.yes rfl rfl rfl) rfl rfl ?_
          refine RunD.pure (i := 17) hok222 rfl (by kernel_rfl) (Pure.indexAddr rfl rfl und25 sz9 (by omega) (by omega)) (Wt.yes rfl rfl rfl) rfl rfl ?_
          refine RunD.load1R (i := 18) hok222 rfl (by kernel_rfl) rfl hs (elem1_at ht) agg9 (Wt.yes rfl rfl rfl) rfl ?_
          refine RunD.one (i := 19) (by kernel_rfl) rfl ?_
          refine RunL.call rfl rfl (by rfl) (by repeat (first | (with_reducible exact Take.nil _) | (apply Take.cons (by first | ((repeat (first | (with_reducible exact Find.here _) | apply Find.there)); done) | (repeat (first | exact Find.here _ | apply Find.there)))))) (Room_ctr (by first | assumption | omega | (simp only [mkS_size, List.length_take, List.length_drop, bl_length]; omega) | (simp only [mkS_size, size_app, List.length_take, List.length_drop, List.length_append, bl_length, List.length_cons, List.length_nil, size_mk]; omega))) (Wt.yes rfl rfl rfl) rfl ?_
          rintro _ _ ⟨rfl, hA_⟩
          replace hA_ := hA_.symm; subst hA_
          refine RunL.nilD' ?_
          refine RunD.pure (i := 20) hok222 rfl (by kernel_rfl) (Pure.pickF rfl rfl) (Wt.yes rfl rfl rfl) rfl rfl ?_
          refine RunD.pure (i := 21) hok222 rfl (by kernel_rfl) (Pure.bneq rfl rfl und4) (Wt.yes rfl rfl rfl) rfl rfl ?_
          refine RunD.pure (i := 22) hok222 rfl (by kernel_rfl) (Pure.pickF rfl rfl) (Wt.none rfl) rfl rfl ?_
          refine RunD.nilR (by kernel_rfl) ?_
          refine Run.cond rfl (fun hc11 => ?_) (fun hc11 => ?_)
          · try simp only [decide_eq_true_eq, decide_eq_false_iff_not, beq_iff_eq, beq_eq_false_iff_ne, bne_iff_ne, ne_eq, Bool.not_eq_true', Bool.not_eq_false', Bool.not_eq_true, Bool.not_eq_false, Int.not_lt, Int.not_le, Decidable.not_not, bne_eq_false_iff_eq, gt_iff_lt, ge_iff_le, Bool.or_eq_true, Bool.and_eq_true] at hc11
            exfalso
            have hz : bl (⟨#[]⟩ : ByteArray) = [] := rfl
            first | (simp [bl_mkS, hh, hr, hz] at hc11; done) | (rw [bl_mkS] at hc11; simp_all; done) | (simp [bl_mkS, hh, hr, hu, hz] at hc11; done)
          try simp only [decide_eq_true_eq, decide_eq_false_iff_not, beq_iff_eq, beq_eq_false_iff_ne, bne_iff_ne, ne_eq, Bool.not_eq_true', Bool.not_eq_false', Bool.not_eq_true, Bool.not_eq_false, Int.not_lt, Int.not_le, Decidable.not_not, bne_eq_false_iff_eq, gt_iff_lt, ge_iff_le, Bool.or_eq_true, Bool.and_eq_true] at hc11
          refine Run.skip ?_
          refine Run.inBlock ?_
          refine Run.region ?_
          refine RunL.mv rfl rfl ?_
          first | refine RunL.pure (Pure.addI rfl rfl (by omega)) (Wt.none rfl) rfl rfl ?_ | refine RunL.pure (Pure.add rfl rfl) (Wt.none rfl) rfl rfl ?_
          refine RunL.as rfl rfl ?_
          refine RunL.nil ?_
          refine Run.keep (.cons rfl (.cons rfl (.nil)) : Keep _ [9, 10] _) ?_
          refine Run.againF (F := F) ih (by exact ⟨i + 1, by omega, rfl, rfl, rfl⟩) (by repeat (first | (with_reducible exact Fin.done (by repeat (first | (with_reducible exact Rest.here) | apply Rest.there))) | (apply Fin.cons (by first | ((repeat (first | (with_reducible exact Find.here _) | apply Find.there)); done) | (repeat (first | exact Find.here _ | apply Find.there)))))) ?_
          omega
        · try simp only [decide_eq_true_eq, decide_eq_false_iff_not, beq_iff_eq, beq_eq_false_iff_ne, bne_iff_ne, ne_eq, Bool.not_eq_true', Bool.not_eq_false', Bool.not_eq_true, Bool.not_eq_false, Int.not_lt, Int.not_le, Decidable.not_not, bne_eq_false_iff_eq, gt_iff_lt, ge_iff_le, Bool.or_eq_true, Bool.and_eq_true] at hr
          refine Run.skip ?_
          refine Run.seq ?_
          refine Run.sr ?_
          refine RunL.mv rfl rfl ?_
          refine RunL.mv rfl rfl ?_
          refine RunL.pure (Pure.indexAddr rfl rfl und25 sz9 (by omega) (by omega)) (Wt.none rfl) rfl rfl ?_
          refine RunL.load1R rfl hs (elem1_at ht) agg9 (Wt.none rfl) rfl ?_
          refine RunL.call rfl rfl (by rfl) (by repeat (first | (with_reducible exact Take.nil _) | (apply Take.cons (by first | ((repeat (first | (with_reducible exact Find.here _) | apply Find.there)); done) | (repeat (first | exact Find.here _ | apply Find.there)))))) (nEvent_ctr (by first | assumption | omega | (simp only [mkS_size, List.length_take, List.length_drop, bl_length]; omega) | (simp only [mkS_size, size_app, List.length_take, List.length_drop, List.length_append, bl_length, List.length_cons, List.length_nil, size_mk]; omega))) (Wt.none rfl) rfl ?_
          rintro _ _ ⟨rfl, hA_⟩
          replace hA_ := hA_.symm; subst hA_
          refine RunL.nil ?_
          refine Run.cond rfl (fun he => ?_) (fun he => ?_)
          · try simp only [decide_eq_true_eq, decide_eq_false_iff_not, beq_iff_eq, beq_eq_false_iff_ne, bne_iff_ne, ne_eq, Bool.not_eq_true', Bool.not_eq_false', Bool.not_eq_true, Bool.not_eq_false, Int.not_lt, Int.not_le, Decidable.not_not, bne_eq_false_iff_eq, gt_iff_lt, ge_iff_le, Bool.or_eq_true, Bool.and_eq_true] at he
            have h0 := event_is he
            have hv : serverB (bl t) = false := server_head h0 (by decide)
            refine Run.region ?_
            refine RunL.mv rfl rfl ?_
            first | refine RunL.pure (Pure.addI rfl rfl (by omega)) (Wt.none rfl) rfl rfl ?_ | refine RunL.pure (Pure.add rfl rfl) (Wt.none rfl) rfl rfl ?_
            refine RunL.as rfl rfl ?_
            refine RunL.nil ?_
            refine Run.seq ?_
            refine Run.sr ?_
            refine RunL.mv rfl rfl ?_
            refine RunL.mv rfl rfl ?_
            refine RunL.pure (Pure.indexAddr rfl rfl und25 sz9 (by omega) (by omega)) (Wt.none rfl) rfl rfl ?_
            refine RunL.load1R rfl hs (elem1_at ht) agg9 (Wt.none rfl) rfl ?_
            refine RunL.call rfl rfl (by rfl) (by repeat (first | (with_reducible exact Take.nil _) | (apply Take.cons (by first | ((repeat (first | (with_reducible exact Find.here _) | apply Find.there)); done) | (repeat (first | exact Find.here _ | apply Find.there)))))) (nServer_ctr (by first | assumption | omega | (simp only [mkS_size, List.length_take, List.length_drop, bl_length]; omega) | (simp only [mkS_size, size_app, List.length_take, List.length_drop, List.length_append, bl_length, List.length_cons, List.length_nil, size_mk]; omega))) (Wt.none rfl) rfl ?_
            rintro _ _ ⟨rfl, hA_⟩
            replace hA_ := hA_.symm; subst hA_
            refine RunL.nil ?_
            refine Run.cond rfl (fun hc12 => ?_) (fun hc12 => ?_)
            · try simp only [decide_eq_true_eq, decide_eq_false_iff_not, beq_iff_eq, beq_eq_false_iff_ne, bne_iff_ne, ne_eq, Bool.not_eq_true', Bool.not_eq_false', Bool.not_eq_true, Bool.not_eq_false, Int.not_lt, Int.not_le, Decidable.not_not, bne_eq_false_iff_eq, gt_iff_lt, ge_iff_le, Bool.or_eq_true, Bool.and_eq_true] at hc12
              exfalso
              rw [hv] at hc12; cases hc12
            try simp only [decide_eq_true_eq, decide_eq_false_iff_not, beq_iff_eq, beq_eq_false_iff_ne, bne_iff_ne, ne_eq, Bool.not_eq_true', Bool.not_eq_false', Bool.not_eq_true, Bool.not_eq_false, Int.not_lt, Int.not_le, Decidable.not_not, bne_eq_false_iff_eq, gt_iff_lt, ge_iff_le, Bool.or_eq_true, Bool.and_eq_true] at hc12
            refine Run.skip ?_
            have hh := (home_no hu hr).1
            refine Run.seq ?_
            refine Run.regionD' (by kernel_rfl) (by kernel_rfl) (fun hok324 => ?_)
            refine RunD.pure (i := 0) hok324 rfl (by kernel_rfl) (Pure.move rfl) (Wt.none rfl) rfl rfl ?_
            refine RunD.pure (i := 1) hok324 rfl (by kernel_rfl) (Pure.gtr rfl rfl) (Wt.none rfl) rfl rfl ?_
            refine RunD.pure (i := 2) hok324 rfl (by kernel_rfl) (Pure.move rfl) (Wt.none rfl) rfl rfl ?_
            refine RunD.split (d := 65) rfl (fun hg13 => ?_) (fun hg13 => ?_)
            · try simp only [decide_eq_true_eq, decide_eq_false_iff_not, beq_iff_eq, beq_eq_false_iff_ne, bne_iff_ne, ne_eq, Bool.not_eq_true', Bool.not_eq_false', Bool.not_eq_true, Bool.not_eq_false, Int.not_lt, Int.not_le, Decidable.not_not, bne_eq_false_iff_eq, gt_iff_lt, ge_iff_le, Bool.or_eq_true, Bool.and_eq_true] at hg13
              exfalso
              omega
            try simp only [decide_eq_true_eq, decide_eq_false_iff_not, beq_iff_eq, beq_eq_false_iff_ne, bne_iff_ne, ne_eq, Bool.not_eq_true', Bool.not_eq_false', Bool.not_eq_true, Bool.not_eq_false, Int.not_lt, Int.not_le, Decidable.not_not, bne_eq_false_iff_eq, gt_iff_lt, ge_iff_le, Bool.or_eq_true, Bool.and_eq_true] at hg13
            refine RunD.pure (i := 3) hok324 rfl (by kernel_rfl) (Pure.move rfl) (Wt.yes rfl rfl rfl) rfl rfl ?_
            refine RunD.pure (i := 4) hok324 rfl (by kernel_rfl) (Pure.move rfl) (Wt.yes rfl rfl rfl) rfl rfl ?_
            refine RunD.pure (i := 5) hok324 rfl (by kernel_rfl) (Pure.indexAddr rfl rfl und25 sz9 (by omega) (by omega)) (Wt.yes rfl rfl rfl) rfl rfl ?_
            refine RunD.load1R (i := 6) hok324 rfl (by kernel_rfl) rfl hs (elem1_at ht) agg9 (Wt.yes rfl rfl rfl) rfl ?_
            refine RunD.pure (i := 9) hok324 rfl (by kernel_rfl) (Pure.move rfl) (Wt.yes rfl rfl rfl) rfl rfl ?_
            refine RunD.pure (i := 10) hok324 rfl (by kernel_rfl) (Pure.move rfl) (Wt.yes rfl rfl rfl) rfl rfl ?_
            refine RunD.pure (i := 11) hok324 rfl (by kernel_rfl) (Pure.indexAddr rfl rfl und25 sz9 (by omega) (by omega)) (Wt.yes rfl rfl rfl) rfl rfl ?_
            refine RunD.load1R (i := 12) hok324 rfl (by kernel_rfl) rfl hs (elem1_at ht) agg9 (Wt.yes rfl rfl rfl) rfl ?_
            refine RunD.one (i := 7) (by kernel_rfl) rfl ?_
            refine RunL.call rfl rfl (by rfl) (by repeat (first | (with_reducible exact Take.nil _) | (apply Take.cons (by first | ((repeat (first | (with_reducible exact Find.here _) | apply Find.there)); done) | (repeat (first | exact Find.here _ | apply Find.there)))))) (nHome_ctr (by first | assumption | omega | (simp only [mkS_size, List.length_take, List.length_drop, bl_length]; omega) | (simp only [mkS_size, size_app, List.length_take, List.length_drop, List.length_append, bl_length, List.length_cons, List.length_nil, size_mk]; omega))) (Wt.yes rfl rfl rfl) rfl ?_
            rintro _ _ ⟨rfl, hA_⟩
            replace hA_ := hA_.symm; subst hA_
            refine RunL.nilD' ?_
            refine RunD.pure (i := 8) hok324 rfl (by kernel_rfl) (Pure.sneq rfl rfl) (Wt.yes rfl rfl rfl) rfl rfl ?_
            refine RunD.one (i := 13) (by kernel_rfl) rfl ?_
            refine RunL.call rfl rfl (by rfl) (by repeat (first | (with_reducible exact Take.nil _) | (apply Take.cons (by first | ((repeat (first | (with_reducible exact Find.here _) | apply Find.there)); done) | (repeat (first | exact Find.here _ | apply Find.there)))))) (User_ctr (by first | assumption | omega | (simp only [mkS_size, List.length_take, List.length_drop, bl_length]; omega) | (simp only [mkS_size, size_app, List.length_take, List.length_drop, List.length_append, bl_length, List.length_cons, List.length_nil, size_mk]; omega))) (Wt.yes rfl rfl rfl) rfl ?_
            rintro _ _ ⟨rfl, hA_⟩
            replace hA_ := hA_.symm; subst hA_
            refine RunL.nilD' ?_
            refine RunD.pure (i := 14) hok324 rfl (by kernel_rfl) (Pure.move rfl) (Wt.yes rfl rfl rfl) rfl rfl ?_
            refine RunD.split (d := 77) rfl (fun hg14 => ?_) (fun hg14 => ?_)
            · try simp only [decide_eq_true_eq, decide_eq_false_iff_not, beq_iff_eq, beq_eq_false_iff_ne, bne_iff_ne, ne_eq, Bool.not_eq_true', Bool.not_eq_false', Bool.not_eq_true, Bool.not_eq_false, Int.not_lt, Int.not_le, Decidable.not_not, bne_eq_false_iff_eq, gt_iff_lt, ge_iff_le, Bool.or_eq_true, Bool.and_eq_true] at hg14
              exfalso
              rw [hu] at hg14; cases hg14
            try simp only [decide_eq_true_eq, decide_eq_false_iff_not, beq_iff_eq, beq_eq_false_iff_ne, bne_iff_ne, ne_eq, Bool.not_eq_true', Bool.not_eq_false', Bool.not_eq_true, Bool.not_eq_false, Int.not_lt, Int.not_le, Decidable.not_not, bne_eq_false_iff_eq, gt_iff_lt, ge_iff_le, Bool.or_eq_true, Bool.and_eq_true] at hg14
            refine RunD.pure (i := 15) hok324 rfl (by kernel_rfl) (Pure.move rfl) (Wt.yes rfl rfl rfl) rfl rfl ?_
            refine RunD.pure (i := 16) hok324 rfl (by kernel_rfl) (Pure.move rfl) (Wt.yes rfl rfl rfl) rfl rfl ?_
            refine RunD.pure (i := 17) hok324 rfl (by kernel_rfl) (Pure.indexAddr rfl rfl und25 sz9 (by omega) (by omega)) (Wt.yes rfl rfl rfl) rfl rfl ?_
            refine RunD.load1R (i := 18) hok324 rfl (by kernel_rfl) rfl hs (elem1_at ht) agg9 (Wt.yes rfl rfl rfl) rfl ?_
            refine RunD.one (i := 19) (by kernel_rfl) rfl ?_
            refine RunL.call rfl rfl (by rfl) (by repeat (first | (with_reducible exact Take.nil _) | (apply Take.cons (by first | ((repeat (first | (with_reducible exact Find.here _) | apply Find.there)); done) | (repeat (first | exact Find.here _ | apply Find.there)))))) (Room_ctr (by first | assumption | omega | (simp only [mkS_size, List.length_take, List.length_drop, bl_length]; omega) | (simp only [mkS_size, size_app, List.length_take, List.length_drop, List.length_append, bl_length, List.length_cons, List.length_nil, size_mk]; omega))) (Wt.yes rfl rfl rfl) rfl ?_
            rintro _ _ ⟨rfl, hA_⟩
            replace hA_ := hA_.symm; subst hA_
            refine RunL.nilD' ?_
            refine RunD.pure (i := 20) hok324 rfl (by kernel_rfl) (Pure.pickF rfl rfl) (Wt.yes rfl rfl rfl) rfl rfl ?_
            refine RunD.pure (i := 21) hok324 rfl (by kernel_rfl) (Pure.bneq rfl rfl und4) (Wt.yes rfl rfl rfl) rfl rfl ?_
            refine RunD.pure (i := 22) hok324 rfl (by kernel_rfl) (Pure.pickF rfl rfl) (Wt.none rfl) rfl rfl ?_
            refine RunD.nilR (by kernel_rfl) ?_
            refine Run.cond rfl (fun hc15 => ?_) (fun hc15 => ?_)
            · try simp only [decide_eq_true_eq, decide_eq_false_iff_not, beq_iff_eq, beq_eq_false_iff_ne, bne_iff_ne, ne_eq, Bool.not_eq_true', Bool.not_eq_false', Bool.not_eq_true, Bool.not_eq_false, Int.not_lt, Int.not_le, Decidable.not_not, bne_eq_false_iff_eq, gt_iff_lt, ge_iff_le, Bool.or_eq_true, Bool.and_eq_true] at hc15
              exfalso
              have hz : bl (⟨#[]⟩ : ByteArray) = [] := rfl
              first | (simp [bl_mkS, hh, hr, hz] at hc15; done) | (rw [bl_mkS] at hc15; simp_all; done) | (simp [bl_mkS, hh, hr, hu, hz] at hc15; done)
            try simp only [decide_eq_true_eq, decide_eq_false_iff_not, beq_iff_eq, beq_eq_false_iff_ne, bne_iff_ne, ne_eq, Bool.not_eq_true', Bool.not_eq_false', Bool.not_eq_true, Bool.not_eq_false, Int.not_lt, Int.not_le, Decidable.not_not, bne_eq_false_iff_eq, gt_iff_lt, ge_iff_le, Bool.or_eq_true, Bool.and_eq_true] at hc15
            refine Run.skip ?_
            refine Run.inBlock ?_
            refine Run.region ?_
            refine RunL.mv rfl rfl ?_
            first | refine RunL.pure (Pure.addI rfl rfl (by omega)) (Wt.none rfl) rfl rfl ?_ | refine RunL.pure (Pure.add rfl rfl) (Wt.none rfl) rfl rfl ?_
            refine RunL.as rfl rfl ?_
            refine RunL.nil ?_
            refine Run.keep (.cons rfl (.cons rfl (.nil)) : Keep _ [9, 10] _) ?_
            refine Run.againF (F := F) ih (by exact ⟨i + 1, by omega, rfl, rfl, rfl⟩) (by repeat (first | (with_reducible exact Fin.done (by repeat (first | (with_reducible exact Rest.here) | apply Rest.there))) | (apply Fin.cons (by first | ((repeat (first | (with_reducible exact Find.here _) | apply Find.there)); done) | (repeat (first | exact Find.here _ | apply Find.there)))))) ?_
            omega
          · try simp only [decide_eq_true_eq, decide_eq_false_iff_not, beq_iff_eq, beq_eq_false_iff_ne, bne_iff_ne, ne_eq, Bool.not_eq_true', Bool.not_eq_false', Bool.not_eq_true, Bool.not_eq_false, Int.not_lt, Int.not_le, Decidable.not_not, bne_eq_false_iff_eq, gt_iff_lt, ge_iff_le, Bool.or_eq_true, Bool.and_eq_true] at he
            refine Run.skip ?_
            refine Run.seq ?_
            refine Run.sr ?_
            refine RunL.mv rfl rfl ?_
            refine RunL.mv rfl rfl ?_
            refine RunL.pure (Pure.indexAddr rfl rfl und25 sz9 (by omega) (by omega)) (Wt.none rfl) rfl rfl ?_
            refine RunL.load1R rfl hs (elem1_at ht) agg9 (Wt.none rfl) rfl ?_
            refine RunL.call rfl rfl (by rfl) (by repeat (first | (with_reducible exact Take.nil _) | (apply Take.cons (by first | ((repeat (first | (with_reducible exact Find.here _) | apply Find.there)); done) | (repeat (first | exact Find.here _ | apply Find.there)))))) (nServer_ctr (by first | assumption | omega | (simp only [mkS_size, List.length_take, List.length_drop, bl_length]; omega) | (simp only [mkS_size, size_app, List.length_take, List.length_drop, List.length_append, bl_length, List.length_cons, List.length_nil, size_mk]; omega))) (Wt.none rfl) rfl ?_
            rintro _ _ ⟨rfl, hA_⟩
            replace hA_ := hA_.symm; subst hA_
            refine RunL.nil ?_
            refine Run.cond rfl (fun hv => ?_) (fun hv => ?_)
            · try simp only [decide_eq_true_eq, decide_eq_false_iff_not, beq_iff_eq, beq_eq_false_iff_ne, bne_iff_ne, ne_eq, Bool.not_eq_true', Bool.not_eq_false', Bool.not_eq_true, Bool.not_eq_false, Int.not_lt, Int.not_le, Decidable.not_not, bne_eq_false_iff_eq, gt_iff_lt, ge_iff_le, Bool.or_eq_true, Bool.and_eq_true] at hv
              refine Run.region ?_
              refine RunL.mv rfl rfl ?_
              first | refine RunL.pure (Pure.addI rfl rfl (by omega)) (Wt.none rfl) rfl rfl ?_ | refine RunL.pure (Pure.add rfl rfl) (Wt.none rfl) rfl rfl ?_
              refine RunL.as rfl rfl ?_
              refine RunL.nil ?_
              have hh := (home_no hu hr).1
              refine Run.seq ?_
              refine Run.regionD' (by kernel_rfl) (by kernel_rfl) (fun hok408 => ?_)
              refine RunD.pure (i := 0) hok408 rfl (by kernel_rfl) (Pure.move rfl) (Wt.none rfl) rfl rfl ?_
              refine RunD.pure (i := 1) hok408 rfl (by kernel_rfl) (Pure.gtr rfl rfl) (Wt.none rfl) rfl rfl ?_
              refine RunD.pure (i := 2) hok408 rfl (by kernel_rfl) (Pure.move rfl) (Wt.none rfl) rfl rfl ?_
              refine RunD.split (d := 65) rfl (fun hg16 => ?_) (fun hg16 => ?_)
              · try simp only [decide_eq_true_eq, decide_eq_false_iff_not, beq_iff_eq, beq_eq_false_iff_ne, bne_iff_ne, ne_eq, Bool.not_eq_true', Bool.not_eq_false', Bool.not_eq_true, Bool.not_eq_false, Int.not_lt, Int.not_le, Decidable.not_not, bne_eq_false_iff_eq, gt_iff_lt, ge_iff_le, Bool.or_eq_true, Bool.and_eq_true] at hg16
                exfalso
                omega
              try simp only [decide_eq_true_eq, decide_eq_false_iff_not, beq_iff_eq, beq_eq_false_iff_ne, bne_iff_ne, ne_eq, Bool.not_eq_true', Bool.not_eq_false', Bool.not_eq_true, Bool.not_eq_false, Int.not_lt, Int.not_le, Decidable.not_not, bne_eq_false_iff_eq, gt_iff_lt, ge_iff_le, Bool.or_eq_true, Bool.and_eq_true] at hg16
              refine RunD.pure (i := 3) hok408 rfl (by kernel_rfl) (Pure.move rfl) (Wt.yes rfl rfl rfl) rfl rfl ?_
              refine RunD.pure (i := 4) hok408 rfl (by kernel_rfl) (Pure.move rfl) (Wt.yes rfl rfl rfl) rfl rfl ?_
              refine RunD.pure (i := 5) hok408 rfl (by kernel_rfl) (Pure.indexAddr rfl rfl und25 sz9 (by omega) (by omega)) (Wt.yes rfl rfl rfl) rfl rfl ?_
              refine RunD.load1R (i := 6) hok408 rfl (by kernel_rfl) rfl hs (elem1_at ht) agg9 (Wt.yes rfl rfl rfl) rfl ?_
              refine RunD.pure (i := 9) hok408 rfl (by kernel_rfl) (Pure.move rfl) (Wt.yes rfl rfl rfl) rfl rfl ?_
              refine RunD.pure (i := 10) hok408 rfl (by kernel_rfl) (Pure.move rfl) (Wt.yes rfl rfl rfl) rfl rfl ?_
              refine RunD.pure (i := 11) hok408 rfl (by kernel_rfl) (Pure.indexAddr rfl rfl und25 sz9 (by omega) (by omega)) (Wt.yes rfl rfl rfl) rfl rfl ?_
              refine RunD.load1R (i := 12) hok408 rfl (by kernel_rfl) rfl hs (elem1_at ht) agg9 (Wt.yes rfl rfl rfl) rfl ?_
              refine RunD.one (i := 7) (by kernel_rfl) rfl ?_
              refine RunL.call rfl rfl (by rfl) (by repeat (first | (with_reducible exact Take.nil _) | (apply Take.cons (by first | ((repeat (first | (with_reducible exact Find.here _) | apply Find.there)); done) | (repeat (first | exact Find.here _ | apply Find.there)))))) (nHome_ctr (by first | assumption | omega | (simp only [mkS_size, List.length_take, List.length_drop, bl_length]; omega) | (simp only [mkS_size, size_app, List.length_take, List.length_drop, List.length_append, bl_length, List.length_cons, List.length_nil, size_mk]; omega))) (Wt.yes rfl rfl rfl) rfl ?_
              rintro _ _ ⟨rfl, hA_⟩
              replace hA_ := hA_.symm; subst hA_
              refine RunL.nilD' ?_
              refine RunD.pure (i := 8) hok408 rfl (by kernel_rfl) (Pure.sneq rfl rfl) (Wt.yes rfl rfl rfl) rfl rfl ?_
              refine RunD.one (i := 13) (by kernel_rfl) rfl ?_
              refine RunL.call rfl rfl (by rfl) (by repeat (first | (with_reducible exact Take.nil _) | (apply Take.cons (by first | ((repeat (first | (with_reducible exact Find.here _) | apply Find.there)); done) | (repeat (first | exact Find.here _ | apply Find.there)))))) (User_ctr (by first | assumption | omega | (simp only [mkS_size, List.length_take, List.length_drop, bl_length]; omega) | (simp only [mkS_size, size_app, List.length_take, List.length_drop, List.length_append, bl_length, List.length_cons, List.length_nil, size_mk]; omega))) (Wt.yes rfl rfl rfl) rfl ?_
              rintro _ _ ⟨rfl, hA_⟩
              replace hA_ := hA_.symm; subst hA_
              refine RunL.nilD' ?_
              refine RunD.pure (i := 14) hok408 rfl (by kernel_rfl) (Pure.move rfl) (Wt.yes rfl rfl rfl) rfl rfl ?_
              refine RunD.split (d := 77) rfl (fun hg17 => ?_) (fun hg17 => ?_)
              · try simp only [decide_eq_true_eq, decide_eq_false_iff_not, beq_iff_eq, beq_eq_false_iff_ne, bne_iff_ne, ne_eq, Bool.not_eq_true', Bool.not_eq_false', Bool.not_eq_true, Bool.not_eq_false, Int.not_lt, Int.not_le, Decidable.not_not, bne_eq_false_iff_eq, gt_iff_lt, ge_iff_le, Bool.or_eq_true, Bool.and_eq_true] at hg17
                exfalso
                rw [hu] at hg17; cases hg17
              try simp only [decide_eq_true_eq, decide_eq_false_iff_not, beq_iff_eq, beq_eq_false_iff_ne, bne_iff_ne, ne_eq, Bool.not_eq_true', Bool.not_eq_false', Bool.not_eq_true, Bool.not_eq_false, Int.not_lt, Int.not_le, Decidable.not_not, bne_eq_false_iff_eq, gt_iff_lt, ge_iff_le, Bool.or_eq_true, Bool.and_eq_true] at hg17
              refine RunD.pure (i := 15) hok408 rfl (by kernel_rfl) (Pure.move rfl) (Wt.yes rfl rfl rfl) rfl rfl ?_
              refine RunD.pure (i := 16) hok408 rfl (by kernel_rfl) (Pure.move rfl) (Wt.yes rfl rfl rfl) rfl rfl ?_
              refine RunD.pure (i := 17) hok408 rfl (by kernel_rfl) (Pure.indexAddr rfl rfl und25 sz9 (by omega) (by omega)) (Wt.yes rfl rfl rfl) rfl rfl ?_
              refine RunD.load1R (i := 18) hok408 rfl (by kernel_rfl) rfl hs (elem1_at ht) agg9 (Wt.yes rfl rfl rfl) rfl ?_
              refine RunD.one (i := 19) (by kernel_rfl) rfl ?_
              refine RunL.call rfl rfl (by rfl) (by repeat (first | (with_reducible exact Take.nil _) | (apply Take.cons (by first | ((repeat (first | (with_reducible exact Find.here _) | apply Find.there)); done) | (repeat (first | exact Find.here _ | apply Find.there)))))) (Room_ctr (by first | assumption | omega | (simp only [mkS_size, List.length_take, List.length_drop, bl_length]; omega) | (simp only [mkS_size, size_app, List.length_take, List.length_drop, List.length_append, bl_length, List.length_cons, List.length_nil, size_mk]; omega))) (Wt.yes rfl rfl rfl) rfl ?_
              rintro _ _ ⟨rfl, hA_⟩
              replace hA_ := hA_.symm; subst hA_
              refine RunL.nilD' ?_
              refine RunD.pure (i := 20) hok408 rfl (by kernel_rfl) (Pure.pickF rfl rfl) (Wt.yes rfl rfl rfl) rfl rfl ?_
              refine RunD.pure (i := 21) hok408 rfl (by kernel_rfl) (Pure.bneq rfl rfl und4) (Wt.yes rfl rfl rfl) rfl rfl ?_
              refine RunD.pure (i := 22) hok408 rfl (by kernel_rfl) (Pure.pickF rfl rfl) (Wt.none rfl) rfl rfl ?_
              refine RunD.nilR (by kernel_rfl) ?_
              refine Run.cond rfl (fun hc18 => ?_) (fun hc18 => ?_)
              · try simp only [decide_eq_true_eq, decide_eq_false_iff_not, beq_iff_eq, beq_eq_false_iff_ne, bne_iff_ne, ne_eq, Bool.not_eq_true', Bool.not_eq_false', Bool.not_eq_true, Bool.not_eq_false, Int.not_lt, Int.not_le, Decidable.not_not, bne_eq_false_iff_eq, gt_iff_lt, ge_iff_le, Bool.or_eq_true, Bool.and_eq_true] at hc18
                exfalso
                have hz : bl (⟨#[]⟩ : ByteArray) = [] := rfl
                first | (simp [bl_mkS, hh, hr, hz] at hc18; done) | (rw [bl_mkS] at hc18; simp_all; done) | (simp [bl_mkS, hh, hr, hu, hz] at hc18; done)
              try simp only [decide_eq_true_eq, decide_eq_false_iff_not, beq_iff_eq, beq_eq_false_iff_ne, bne_iff_ne, ne_eq, Bool.not_eq_true', Bool.not_eq_false', Bool.not_eq_true, Bool.not_eq_false, Int.not_lt, Int.not_le, Decidable.not_not, bne_eq_false_iff_eq, gt_iff_lt, ge_iff_le, Bool.or_eq_true, Bool.and_eq_true] at hc18
              refine Run.skip ?_
              refine Run.inBlock ?_
              refine Run.region ?_
              refine RunL.mv rfl rfl ?_
              first | refine RunL.pure (Pure.addI rfl rfl (by omega)) (Wt.none rfl) rfl rfl ?_ | refine RunL.pure (Pure.add rfl rfl) (Wt.none rfl) rfl rfl ?_
              refine RunL.as rfl rfl ?_
              refine RunL.nil ?_
              refine Run.keep (.cons rfl (.cons rfl (.nil)) : Keep _ [9, 10] _) ?_
              refine Run.againF (F := F) ih (by exact ⟨i + 1, by omega, rfl, rfl, rfl⟩) (by repeat (first | (with_reducible exact Fin.done (by repeat (first | (with_reducible exact Rest.here) | apply Rest.there))) | (apply Fin.cons (by first | ((repeat (first | (with_reducible exact Find.here _) | apply Find.there)); done) | (repeat (first | exact Find.here _ | apply Find.there)))))) ?_
              omega
            · try simp only [decide_eq_true_eq, decide_eq_false_iff_not, beq_iff_eq, beq_eq_false_iff_ne, bne_iff_ne, ne_eq, Bool.not_eq_true', Bool.not_eq_false', Bool.not_eq_true, Bool.not_eq_false, Int.not_lt, Int.not_le, Decidable.not_not, bne_eq_false_iff_eq, gt_iff_lt, ge_iff_le, Bool.or_eq_true, Bool.and_eq_true] at hv
              refine Run.skip ?_
              have hh := (home_no hu hr).1
              refine Run.seq ?_
              refine Run.regionD' (by kernel_rfl) (by kernel_rfl) (fun hok475 => ?_)
              refine RunD.pure (i := 0) hok475 rfl (by kernel_rfl) (Pure.move rfl) (Wt.none rfl) rfl rfl ?_
              refine RunD.pure (i := 1) hok475 rfl (by kernel_rfl) (Pure.gtr rfl rfl) (Wt.none rfl) rfl rfl ?_
              refine RunD.pure (i := 2) hok475 rfl (by kernel_rfl) (Pure.move rfl) (Wt.none rfl) rfl rfl ?_
              refine RunD.split (d := 65) rfl (fun hg19 => ?_) (fun hg19 => ?_)
              · try simp only [decide_eq_true_eq, decide_eq_false_iff_not, beq_iff_eq, beq_eq_false_iff_ne, bne_iff_ne, ne_eq, Bool.not_eq_true', Bool.not_eq_false', Bool.not_eq_true, Bool.not_eq_false, Int.not_lt, Int.not_le, Decidable.not_not, bne_eq_false_iff_eq, gt_iff_lt, ge_iff_le, Bool.or_eq_true, Bool.and_eq_true] at hg19
                exfalso
                omega
              try simp only [decide_eq_true_eq, decide_eq_false_iff_not, beq_iff_eq, beq_eq_false_iff_ne, bne_iff_ne, ne_eq, Bool.not_eq_true', Bool.not_eq_false', Bool.not_eq_true, Bool.not_eq_false, Int.not_lt, Int.not_le, Decidable.not_not, bne_eq_false_iff_eq, gt_iff_lt, ge_iff_le, Bool.or_eq_true, Bool.and_eq_true] at hg19
              refine RunD.pure (i := 3) hok475 rfl (by kernel_rfl) (Pure.move rfl) (Wt.yes rfl rfl rfl) rfl rfl ?_
              refine RunD.pure (i := 4) hok475 rfl (by kernel_rfl) (Pure.move rfl) (Wt.yes rfl rfl rfl) rfl rfl ?_
              refine RunD.pure (i := 5) hok475 rfl (by kernel_rfl) (Pure.indexAddr rfl rfl und25 sz9 (by omega) (by omega)) (Wt.yes rfl rfl rfl) rfl rfl ?_
              refine RunD.load1R (i := 6) hok475 rfl (by kernel_rfl) rfl hs (elem1_at ht) agg9 (Wt.yes rfl rfl rfl) rfl ?_
              refine RunD.pure (i := 9) hok475 rfl (by kernel_rfl) (Pure.move rfl) (Wt.yes rfl rfl rfl) rfl rfl ?_
              refine RunD.pure (i := 10) hok475 rfl (by kernel_rfl) (Pure.move rfl) (Wt.yes rfl rfl rfl) rfl rfl ?_
              refine RunD.pure (i := 11) hok475 rfl (by kernel_rfl) (Pure.indexAddr rfl rfl und25 sz9 (by omega) (by omega)) (Wt.yes rfl rfl rfl) rfl rfl ?_
              refine RunD.load1R (i := 12) hok475 rfl (by kernel_rfl) rfl hs (elem1_at ht) agg9 (Wt.yes rfl rfl rfl) rfl ?_
              refine RunD.one (i := 7) (by kernel_rfl) rfl ?_
              refine RunL.call rfl rfl (by rfl) (by repeat (first | (with_reducible exact Take.nil _) | (apply Take.cons (by first | ((repeat (first | (with_reducible exact Find.here _) | apply Find.there)); done) | (repeat (first | exact Find.here _ | apply Find.there)))))) (nHome_ctr (by first | assumption | omega | (simp only [mkS_size, List.length_take, List.length_drop, bl_length]; omega) | (simp only [mkS_size, size_app, List.length_take, List.length_drop, List.length_append, bl_length, List.length_cons, List.length_nil, size_mk]; omega))) (Wt.yes rfl rfl rfl) rfl ?_
              rintro _ _ ⟨rfl, hA_⟩
              replace hA_ := hA_.symm; subst hA_
              refine RunL.nilD' ?_
              refine RunD.pure (i := 8) hok475 rfl (by kernel_rfl) (Pure.sneq rfl rfl) (Wt.yes rfl rfl rfl) rfl rfl ?_
              refine RunD.one (i := 13) (by kernel_rfl) rfl ?_
              refine RunL.call rfl rfl (by rfl) (by repeat (first | (with_reducible exact Take.nil _) | (apply Take.cons (by first | ((repeat (first | (with_reducible exact Find.here _) | apply Find.there)); done) | (repeat (first | exact Find.here _ | apply Find.there)))))) (User_ctr (by first | assumption | omega | (simp only [mkS_size, List.length_take, List.length_drop, bl_length]; omega) | (simp only [mkS_size, size_app, List.length_take, List.length_drop, List.length_append, bl_length, List.length_cons, List.length_nil, size_mk]; omega))) (Wt.yes rfl rfl rfl) rfl ?_
              rintro _ _ ⟨rfl, hA_⟩
              replace hA_ := hA_.symm; subst hA_
              refine RunL.nilD' ?_
              refine RunD.pure (i := 14) hok475 rfl (by kernel_rfl) (Pure.move rfl) (Wt.yes rfl rfl rfl) rfl rfl ?_
              refine RunD.split (d := 77) rfl (fun hg20 => ?_) (fun hg20 => ?_)
              · try simp only [decide_eq_true_eq, decide_eq_false_iff_not, beq_iff_eq, beq_eq_false_iff_ne, bne_iff_ne, ne_eq, Bool.not_eq_true', Bool.not_eq_false', Bool.not_eq_true, Bool.not_eq_false, Int.not_lt, Int.not_le, Decidable.not_not, bne_eq_false_iff_eq, gt_iff_lt, ge_iff_le, Bool.or_eq_true, Bool.and_eq_true] at hg20
                exfalso
                rw [hu] at hg20; cases hg20
              try simp only [decide_eq_true_eq, decide_eq_false_iff_not, beq_iff_eq, beq_eq_false_iff_ne, bne_iff_ne, ne_eq, Bool.not_eq_true', Bool.not_eq_false', Bool.not_eq_true, Bool.not_eq_false, Int.not_lt, Int.not_le, Decidable.not_not, bne_eq_false_iff_eq, gt_iff_lt, ge_iff_le, Bool.or_eq_true, Bool.and_eq_true] at hg20
              refine RunD.pure (i := 15) hok475 rfl (by kernel_rfl) (Pure.move rfl) (Wt.yes rfl rfl rfl) rfl rfl ?_
              refine RunD.pure (i := 16) hok475 rfl (by kernel_rfl) (Pure.move rfl) (Wt.yes rfl rfl rfl) rfl rfl ?_
              refine RunD.pure (i := 17) hok475 rfl (by kernel_rfl) (Pure.indexAddr rfl rfl und25 sz9 (by omega) (by omega)) (Wt.yes rfl rfl rfl) rfl rfl ?_
              refine RunD.load1R (i := 18) hok475 rfl (by kernel_rfl) rfl hs (elem1_at ht) agg9 (Wt.yes rfl rfl rfl) rfl ?_
              refine RunD.one (i := 19) (by kernel_rfl) rfl ?_
              refine RunL.call rfl rfl (by rfl) (by repeat (first | (with_reducible exact Take.nil _) | (apply Take.cons (by first | ((repeat (first | (with_reducible exact Find.here _) | apply Find.there)); done) | (repeat (first | exact Find.here _ | apply Find.there)))))) (Room_ctr (by first | assumption | omega | (simp only [mkS_size, List.length_take, List.length_drop, bl_length]; omega) | (simp only [mkS_size, size_app, List.length_take, List.length_drop, List.length_append, bl_length, List.length_cons, List.length_nil, size_mk]; omega))) (Wt.yes rfl rfl rfl) rfl ?_
              rintro _ _ ⟨rfl, hA_⟩
              replace hA_ := hA_.symm; subst hA_
              refine RunL.nilD' ?_
              refine RunD.pure (i := 20) hok475 rfl (by kernel_rfl) (Pure.pickF rfl rfl) (Wt.yes rfl rfl rfl) rfl rfl ?_
              refine RunD.pure (i := 21) hok475 rfl (by kernel_rfl) (Pure.bneq rfl rfl und4) (Wt.yes rfl rfl rfl) rfl rfl ?_
              refine RunD.pure (i := 22) hok475 rfl (by kernel_rfl) (Pure.pickF rfl rfl) (Wt.none rfl) rfl rfl ?_
              refine RunD.nilR (by kernel_rfl) ?_
              refine Run.cond rfl (fun hc21 => ?_) (fun hc21 => ?_)
              · try simp only [decide_eq_true_eq, decide_eq_false_iff_not, beq_iff_eq, beq_eq_false_iff_ne, bne_iff_ne, ne_eq, Bool.not_eq_true', Bool.not_eq_false', Bool.not_eq_true, Bool.not_eq_false, Int.not_lt, Int.not_le, Decidable.not_not, bne_eq_false_iff_eq, gt_iff_lt, ge_iff_le, Bool.or_eq_true, Bool.and_eq_true] at hc21
                exfalso
                have hz : bl (⟨#[]⟩ : ByteArray) = [] := rfl
                first | (simp [bl_mkS, hh, hr, hz] at hc21; done) | (rw [bl_mkS] at hc21; simp_all; done) | (simp [bl_mkS, hh, hr, hu, hz] at hc21; done)
              try simp only [decide_eq_true_eq, decide_eq_false_iff_not, beq_iff_eq, beq_eq_false_iff_ne, bne_iff_ne, ne_eq, Bool.not_eq_true', Bool.not_eq_false', Bool.not_eq_true, Bool.not_eq_false, Int.not_lt, Int.not_le, Decidable.not_not, bne_eq_false_iff_eq, gt_iff_lt, ge_iff_le, Bool.or_eq_true, Bool.and_eq_true] at hc21
              refine Run.skip ?_
              refine Run.inBlock ?_
              refine Run.region ?_
              refine RunL.mv rfl rfl ?_
              first | refine RunL.pure (Pure.addI rfl rfl (by omega)) (Wt.none rfl) rfl rfl ?_ | refine RunL.pure (Pure.add rfl rfl) (Wt.none rfl) rfl rfl ?_
              refine RunL.as rfl rfl ?_
              refine RunL.nil ?_
              refine Run.keep (.cons rfl (.cons rfl (.nil)) : Keep _ [9, 10] _) ?_
              refine Run.againF (F := F) ih (by exact ⟨i + 1, by omega, rfl, rfl, rfl⟩) (by repeat (first | (with_reducible exact Fin.done (by repeat (first | (with_reducible exact Rest.here) | apply Rest.there))) | (apply Fin.cons (by first | ((repeat (first | (with_reducible exact Find.here _) | apply Find.there)); done) | (repeat (first | exact Find.here _ | apply Find.there)))))) ?_
              omega
    · try simp only [decide_eq_true_eq, decide_eq_false_iff_not, beq_iff_eq, beq_eq_false_iff_ne, bne_iff_ne, ne_eq, Bool.not_eq_true', Bool.not_eq_false', Bool.not_eq_true, Bool.not_eq_false, Int.not_lt, Int.not_le, Decidable.not_not, bne_eq_false_iff_eq, gt_iff_lt, ge_iff_le, Bool.or_eq_true, Bool.and_eq_true] at hi5
      refine Run.exit rfl ?_
      refine Run.sr ?_
      refine RunL.call rfl rfl (by rfl) (by repeat (first | (with_reducible exact Take.nil _) | (apply Take.cons (by first | ((repeat (first | (with_reducible exact Find.here _) | apply Find.there)); done) | (repeat (first | exact Find.here _ | apply Find.there)))))) (lives_ctr) (Wt.none rfl) rfl ?_
      rintro _ _ ⟨rfl, hA_⟩
      replace hA_ := hA_.symm; subst hA_
      refine RunL.as rfl rfl ?_
      refine RunL.nil ?_
      exact Run.ret Try.func4 (res1 rfl rfl) (by exact ⟨rfl, rfl⟩) (by repeat (first | (with_reducible exact Fin.done (by repeat (first | (with_reducible exact Rest.here) | apply Rest.there))) | (apply Fin.cons (by first | ((repeat (first | (with_reducible exact Find.here _) | apply Find.there)); done) | (repeat (first | exact Find.here _ | apply Find.there))))))
  · skip
    refine Run.regionD' (by kernel_rfl) (by kernel_rfl) (fun hok548 => ?_)
    refine RunD.pure (i := 0) hok548 rfl (by kernel_rfl) (Pure.move rfl) (Wt.none rfl) rfl rfl ?_
    refine RunD.pure (i := 2) hok548 rfl (by kernel_rfl) (Pure.move rfl) (Wt.none rfl) rfl rfl ?_
    refine RunD.pure (i := 5) hok548 rfl (by kernel_rfl) (Pure.move rfl) (Wt.none rfl) rfl rfl ?_
    refine RunD.pure (i := 9) hok548 rfl (by kernel_rfl) (Pure.move rfl) (Wt.none rfl) rfl rfl ?_
    refine RunD.pure (i := 12) hok548 rfl (by kernel_rfl) (Pure.move rfl) (Wt.none rfl) rfl rfl ?_
    refine RunD.pure (i := 15) hok548 rfl (by kernel_rfl) (Pure.move rfl) (Wt.none rfl) rfl rfl ?_
    refine RunD.three (i := 1) (j := 3) (l := 13) (by kernel_rfl) rfl rfl rfl ?_ ?_ ?_
    · skip
      refine RunL.call rfl rfl (by rfl) (by repeat (first | (with_reducible exact Take.nil _) | (apply Take.cons (by first | ((repeat (first | (with_reducible exact Find.here _) | apply Find.there)); done) | (repeat (first | exact Find.here _ | apply Find.there)))))) (FewC_ctr (m := 40) (by decide) (by decide)) (Wt.none rfl) rfl ?_
      rintro _ _ ⟨rfl, hA_⟩
      replace hA_ := hA_.symm; subst hA_
      refine RunL.nilD' ?_
      refine RunD.three (i := 3) (j := 6) (l := 13) (by kernel_rfl) rfl rfl rfl ?_ ?_ ?_
      · skip
        refine RunL.lit (vals := [_]) (vs := ([sg] : List UInt8).map bv) und29 sz5 zz5 rfl rfl rfl rfl rfl rfl (by simp [Value.cells, bv]) rfl (Wt.none rfl) rfl ?_; intro b15
        refine RunL.nilD' ?_
        refine RunD.lend (Q := Sl 5 1 (some ⟨b15, 0, none⟩) 1 1 (([sg] : List UInt8).map bv)) Lends.Sl (by first | ((repeat (first | (with_reducible exact Find.here _) | apply Find.there)); done) | (repeat (first | exact Find.here _ | apply Find.there))) ?_; intro gb15 hlegb15 hb15 backgb15
        have g1_gb15 := g1.mono hlegb15
        have g2_gb15 := g2.mono hlegb15
        refine RunD.bytesStr (i := 4) hok548 rfl (by kernel_rfl) rfl und29 und5 und9 (hb15.1) (Wt.none rfl) rfl ?_
        refine RunD.two (i := 6) (j := 13) (by kernel_rfl) rfl rfl ?_ ?_
        · skip
          refine RunL.call rfl rfl (by rfl) (by repeat (first | (with_reducible exact Take.nil _) | (apply Take.cons (by first | ((repeat (first | (with_reducible exact Find.here _) | apply Find.there)); done) | (repeat (first | exact Find.here _ | apply Find.there)))))) (made_ctr (odd := ⟨#[]⟩) g1_gb15 g1w g1b (by decide) (by decide) (by decide)) (Wt.none rfl) rfl ?_
          rintro _ _ ⟨x, rfl, hx, hA_⟩
          replace hA_ := hA_.symm; subst hA_
          refine RunL.nilD' ?_
          refine RunD.pure (i := 7) hok548 rfl (by kernel_rfl) (Pure.sadd rfl rfl (by first | omega | (simp only [size_mk, size_app, List.length_append, bl_length, List.length_cons, List.length_nil]; omega) | (simp; omega))) (Wt.none rfl) rfl rfl ?_
          refine RunD.pure (i := 8) hok548 rfl (by kernel_rfl) (Pure.sadd rfl rfl (by first | omega | (simp only [size_mk, size_app, List.length_append, bl_length, List.length_cons, List.length_nil]; omega) | (simp; omega))) (Wt.none rfl) rfl rfl ?_
          refine RunD.two (i := 10) (j := 13) (by kernel_rfl) rfl rfl ?_ ?_
          · skip
            refine RunL.call rfl rfl (by rfl) (by repeat (first | (with_reducible exact Take.nil _) | (apply Take.cons (by first | ((repeat (first | (with_reducible exact Find.here _) | apply Find.there)); done) | (repeat (first | exact Find.here _ | apply Find.there)))))) (made_ctr (odd := ⟨#[]⟩) g2_gb15 g2w g2b (by decide) (by decide) (by decide)) (Wt.none rfl) rfl ?_
            rintro _ _ ⟨y, rfl, hy, hA_⟩
            replace hA_ := hA_.symm; subst hA_
            refine RunL.nilD' ?_
            refine RunD.pure (i := 11) hok548 rfl (by kernel_rfl) (Pure.sadd rfl rfl (by first | omega | (simp only [size_mk, size_app, List.length_append, bl_length, List.length_cons, List.length_nil]; omega) | (simp; omega))) (Wt.none rfl) rfl rfl ?_
            refine RunD.two (i := 13) (j := 16) (by kernel_rfl) rfl rfl ?_ ?_
            · skip
              refine RunL.lit (vals := [_]) (vs := ([sg] : List UInt8).map bv) und29 sz5 zz5 rfl rfl rfl rfl rfl rfl (by simp [Value.cells, bv]) rfl (Wt.none rfl) rfl ?_; intro b25
              refine RunL.nilD' ?_
              refine RunD.lend (Q := Sl 5 1 (some ⟨b25, 0, none⟩) 1 1 (([sg] : List UInt8).map bv)) Lends.Sl (by first | ((repeat (first | (with_reducible exact Find.here _) | apply Find.there)); done) | (repeat (first | exact Find.here _ | apply Find.there))) ?_; intro gb25 hlegb25 hb25 backgb25
              try (replace hb15 := hb15.mono hlegb25)
              have g1_gb25 := g1_gb15.mono hlegb25
              have g2_gb25 := g2_gb15.mono hlegb25
              refine RunD.bytesStr (i := 14) hok548 rfl (by kernel_rfl) rfl und29 und5 und9 (hb25.1) (Wt.none rfl) rfl ?_
              refine RunD.one (i := 16) (by kernel_rfl) rfl ?_
              · skip
                refine RunL.call rfl rfl (by rfl) (by repeat (first | (with_reducible exact Take.nil _) | (apply Take.cons (by first | ((repeat (first | (with_reducible exact Find.here _) | apply Find.there)); done) | (repeat (first | exact Find.here _ | apply Find.there)))))) (made_ctr (odd := ⟨#[]⟩) g1_gb25 g1w g1b (by decide) (by decide) (by decide)) (Wt.none rfl) rfl ?_
                rintro _ _ ⟨x2, rfl, hx2, hA_⟩
                replace hA_ := hA_.symm; subst hA_
                refine RunL.nilD' ?_
                refine RunD.pure (i := 17) hok548 rfl (by kernel_rfl) (Pure.sadd rfl rfl (by first | omega | (simp only [size_mk, size_app, List.length_append, bl_length, List.length_cons, List.length_nil]; omega) | (simp; omega))) (Wt.none rfl) rfl rfl ?_
                refine RunD.one (i := 18) (by kernel_rfl) rfl ?_
                · skip
                  refine RunL.lit (vals := [_, _, _]) (vs := ([(cut s 40), ((⟨[sg].toArray⟩ : ByteArray) ++ x ++ (⟨#[58]⟩ : ByteArray) ++ y), ((⟨[sg].toArray⟩ : ByteArray) ++ x2)] : List ByteArray).map Value.string) und25 sz9 zz9 rfl rfl rfl rfl rfl rfl (by simp [Value.cells, bv]) rfl (Wt.none rfl) rfl ?_; intro b30
                  refine RunL.nilD' ?_
                  refine RunD.pure (i := 19) hok548 rfl (by kernel_rfl) (Pure.assign rfl) (Wt.none rfl) rfl rfl ?_
                  refine RunD.nilB (by kernel_rfl) (fun w sw => backgb15 _ _ (backgb25 _ _ (sw))) ?_
                  refine Run.keep (.cons rfl (.nil) : Keep _ [9] _) ?_
                  exact Run.meetF (F := F) hk (by exact ⟨b30, [(cut s 40), ((⟨[sg].toArray⟩ : ByteArray) ++ x ++ (⟨#[58]⟩ : ByteArray) ++ y), ((⟨[sg].toArray⟩ : ByteArray) ++ x2)], rfl, by intro q hq; simp only [List.mem_cons, List.not_mem_nil, or_false] at hq; rcases hq with rfl | rfl | rfl <;> (first | omega | (simp only [size_app, size_mk, List.length_cons, List.length_nil]; omega) | (have := cut_size s 40; omega)), rfl, rfl⟩) (by repeat (first | (with_reducible exact Fin.done (by repeat (first | (with_reducible exact Rest.here) | apply Rest.there))) | (apply Fin.cons (by first | ((repeat (first | (with_reducible exact Find.here _) | apply Find.there)); done) | (repeat (first | exact Find.here _ | apply Find.there))))))
            · skip
              refine RunL.call rfl rfl (by rfl) (by repeat (first | (with_reducible exact Take.nil _) | (apply Take.cons (by first | ((repeat (first | (with_reducible exact Find.here _) | apply Find.there)); done) | (repeat (first | exact Find.here _ | apply Find.there)))))) (made_ctr (odd := ⟨#[]⟩) g1_gb15 g1w g1b (by decide) (by decide) (by decide)) (Wt.none rfl) rfl ?_
              rintro _ _ ⟨x2, rfl, hx2, hA_⟩
              replace hA_ := hA_.symm; subst hA_
              refine RunL.nilD' ?_
              refine RunD.one (i := 13) (by kernel_rfl) rfl ?_
              · skip
                refine RunL.lit (vals := [_]) (vs := ([sg] : List UInt8).map bv) und29 sz5 zz5 rfl rfl rfl rfl rfl rfl (by simp [Value.cells, bv]) rfl (Wt.none rfl) rfl ?_; intro b25
                refine RunL.nilD' ?_
                refine RunD.lend (Q := Sl 5 1 (some ⟨b25, 0, none⟩) 1 1 (([sg] : List UInt8).map bv)) Lends.Sl (by first | ((repeat (first | (with_reducible exact Find.here _) | apply Find.there)); done) | (repeat (first | exact Find.here _ | apply Find.there))) ?_; intro gb25 hlegb25 hb25 backgb25
                try (replace hb15 := hb15.mono hlegb25)
                have g1_gb25 := g1_gb15.mono hlegb25
                have g2_gb25 := g2_gb15.mono hlegb25
                refine RunD.bytesStr (i := 14) hok548 rfl (by kernel_rfl) rfl und29 und5 und9 (hb25.1) (Wt.none rfl) rfl ?_
                refine RunD.pure (i := 17) hok548 rfl (by kernel_rfl) (Pure.sadd rfl rfl (by first | omega | (simp only [size_mk, size_app, List.length_append, bl_length, List.length_cons, List.length_nil]; omega) | (simp; omega))) (Wt.none rfl) rfl rfl ?_
                refine RunD.one (i := 18) (by kernel_rfl) rfl ?_
                · skip
                  refine RunL.lit (vals := [_, _, _]) (vs := ([(cut s 40), ((⟨[sg].toArray⟩ : ByteArray) ++ x ++ (⟨#[58]⟩ : ByteArray) ++ y), ((⟨[sg].toArray⟩ : ByteArray) ++ x2)] : List ByteArray).map Value.string) und25 sz9 zz9 rfl rfl rfl rfl rfl rfl (by simp [Value.cells, bv]) rfl (Wt.none rfl) rfl ?_; intro b30
                  refine RunL.nilD' ?_
                  refine RunD.pure (i := 19) hok548 rfl (by kernel_rfl) (Pure.assign rfl) (Wt.none rfl) rfl rfl ?_
                  refine RunD.nilB (by kernel_rfl) (fun w sw => backgb15 _ _ (backgb25 _ _ (sw))) ?_
                  refine Run.keep (.cons rfl (.nil) : Keep _ [9] _) ?_
                  exact Run.meetF (F := F) hk (by exact ⟨b30, [(cut s 40), ((⟨[sg].toArray⟩ : ByteArray) ++ x ++ (⟨#[58]⟩ : ByteArray) ++ y), ((⟨[sg].toArray⟩ : ByteArray) ++ x2)], rfl, by intro q hq; simp only [List.mem_cons, List.not_mem_nil, or_false] at hq; rcases hq with rfl | rfl | rfl <;> (first | omega | (simp only [size_app, size_mk, List.length_cons, List.length_nil]; omega) | (have := cut_size s 40; omega)), rfl, rfl⟩) (by repeat (first | (with_reducible exact Fin.done (by repeat (first | (with_reducible exact Rest.here) | apply Rest.there))) | (apply Fin.cons (by first | ((repeat (first | (with_reducible exact Find.here _) | apply Find.there)); done) | (repeat (first | exact Find.here _ | apply Find.there))))))
          · skip
            refine RunL.lit (vals := [_]) (vs := ([sg] : List UInt8).map bv) und29 sz5 zz5 rfl rfl rfl rfl rfl rfl (by simp [Value.cells, bv]) rfl (Wt.none rfl) rfl ?_; intro b25
            refine RunL.nilD' ?_
            refine RunD.lend (Q := Sl 5 1 (some ⟨b25, 0, none⟩) 1 1 (([sg] : List UInt8).map bv)) Lends.Sl (by first | ((repeat (first | (with_reducible exact Find.here _) | apply Find.there)); done) | (repeat (first | exact Find.here _ | apply Find.there))) ?_; intro gb25 hlegb25 hb25 backgb25
            try (replace hb15 := hb15.mono hlegb25)
            have g1_gb25 := g1_gb15.mono hlegb25
            have g2_gb25 := g2_gb15.mono hlegb25
            refine RunD.bytesStr (i := 14) hok548 rfl (by kernel_rfl) rfl und29 und5 und9 (hb25.1) (Wt.none rfl) rfl ?_
            refine RunD.one (i := 10) (by kernel_rfl) rfl ?_
            · skip
              refine RunL.call rfl rfl (by rfl) (by repeat (first | (with_reducible exact Take.nil _) | (apply Take.cons (by first | ((repeat (first | (with_reducible exact Find.here _) | apply Find.there)); done) | (repeat (first | exact Find.here _ | apply Find.there)))))) (made_ctr (odd := ⟨#[]⟩) g2_gb25 g2w g2b (by decide) (by decide) (by decide)) (Wt.none rfl) rfl ?_
              rintro _ _ ⟨y, rfl, hy, hA_⟩
              replace hA_ := hA_.symm; subst hA_
              refine RunL.nilD' ?_
              refine RunD.pure (i := 11) hok548 rfl (by kernel_rfl) (Pure.sadd rfl rfl (by first | omega | (simp only [size_mk, size_app, List.length_append, bl_length, List.length_cons, List.length_nil]; omega) | (simp; omega))) (Wt.none rfl) rfl rfl ?_
              refine RunD.one (i := 16) (by kernel_rfl) rfl ?_
              · skip
                refine RunL.call rfl rfl (by rfl) (by repeat (first | (with_reducible exact Take.nil _) | (apply Take.cons (by first | ((repeat (first | (with_reducible exact Find.here _) | apply Find.there)); done) | (repeat (first | exact Find.here _ | apply Find.there)))))) (made_ctr (odd := ⟨#[]⟩) g1_gb25 g1w g1b (by decide) (by decide) (by decide)) (Wt.none rfl) rfl ?_
                rintro _ _ ⟨x2, rfl, hx2, hA_⟩
                replace hA_ := hA_.symm; subst hA_
                refine RunL.nilD' ?_
                refine RunD.pure (i := 17) hok548 rfl (by kernel_rfl) (Pure.sadd rfl rfl (by first | omega | (simp only [size_mk, size_app, List.length_append, bl_length, List.length_cons, List.length_nil]; omega) | (simp; omega))) (Wt.none rfl) rfl rfl ?_
                refine RunD.one (i := 18) (by kernel_rfl) rfl ?_
                · skip
                  refine RunL.lit (vals := [_, _, _]) (vs := ([(cut s 40), ((⟨[sg].toArray⟩ : ByteArray) ++ x ++ (⟨#[58]⟩ : ByteArray) ++ y), ((⟨[sg].toArray⟩ : ByteArray) ++ x2)] : List ByteArray).map Value.string) und25 sz9 zz9 rfl rfl rfl rfl rfl rfl (by simp [Value.cells, bv]) rfl (Wt.none rfl) rfl ?_; intro b30
                  refine RunL.nilD' ?_
                  refine RunD.pure (i := 19) hok548 rfl (by kernel_rfl) (Pure.assign rfl) (Wt.none rfl) rfl rfl ?_
                  refine RunD.nilB (by kernel_rfl) (fun w sw => backgb15 _ _ (backgb25 _ _ (sw))) ?_
                  refine Run.keep (.cons rfl (.nil) : Keep _ [9] _) ?_
                  exact Run.meetF (F := F) hk (by exact ⟨b30, [(cut s 40), ((⟨[sg].toArray⟩ : ByteArray) ++ x ++ (⟨#[58]⟩ : ByteArray) ++ y), ((⟨[sg].toArray⟩ : ByteArray) ++ x2)], rfl, by intro q hq; simp only [List.mem_cons, List.not_mem_nil, or_false] at hq; rcases hq with rfl | rfl | rfl <;> (first | omega | (simp only [size_app, size_mk, List.length_cons, List.length_nil]; omega) | (have := cut_size s 40; omega)), rfl, rfl⟩) (by repeat (first | (with_reducible exact Fin.done (by repeat (first | (with_reducible exact Rest.here) | apply Rest.there))) | (apply Fin.cons (by first | ((repeat (first | (with_reducible exact Find.here _) | apply Find.there)); done) | (repeat (first | exact Find.here _ | apply Find.there))))))
        · skip
          refine RunL.lit (vals := [_]) (vs := ([sg] : List UInt8).map bv) und29 sz5 zz5 rfl rfl rfl rfl rfl rfl (by simp [Value.cells, bv]) rfl (Wt.none rfl) rfl ?_; intro b25
          refine RunL.nilD' ?_
          refine RunD.lend (Q := Sl 5 1 (some ⟨b25, 0, none⟩) 1 1 (([sg] : List UInt8).map bv)) Lends.Sl (by first | ((repeat (first | (with_reducible exact Find.here _) | apply Find.there)); done) | (repeat (first | exact Find.here _ | apply Find.there))) ?_; intro gb25 hlegb25 hb25 backgb25
          try (replace hb15 := hb15.mono hlegb25)
          have g1_gb25 := g1_gb15.mono hlegb25
          have g2_gb25 := g2_gb15.mono hlegb25
          refine RunD.bytesStr (i := 14) hok548 rfl (by kernel_rfl) rfl und29 und5 und9 (hb25.1) (Wt.none rfl) rfl ?_
          refine RunD.one (i := 6) (by kernel_rfl) rfl ?_
          · skip
            refine RunL.call rfl rfl (by rfl) (by repeat (first | (with_reducible exact Take.nil _) | (apply Take.cons (by first | ((repeat (first | (with_reducible exact Find.here _) | apply Find.there)); done) | (repeat (first | exact Find.here _ | apply Find.there)))))) (made_ctr (odd := ⟨#[]⟩) g1_gb25 g1w g1b (by decide) (by decide) (by decide)) (Wt.none rfl) rfl ?_
            rintro _ _ ⟨x, rfl, hx, hA_⟩
            replace hA_ := hA_.symm; subst hA_
            refine RunL.nilD' ?_
            refine RunD.pure (i := 7) hok548 rfl (by kernel_rfl) (Pure.sadd rfl rfl (by first | omega | (simp only [size_mk, size_app, List.length_append, bl_length, List.length_cons, List.length_nil]; omega) | (simp; omega))) (Wt.none rfl) rfl rfl ?_
            refine RunD.pure (i := 8) hok548 rfl (by kernel_rfl) (Pure.sadd rfl rfl (by first | omega | (simp only [size_mk, size_app, List.length_append, bl_length, List.length_cons, List.length_nil]; omega) | (simp; omega))) (Wt.none rfl) rfl rfl ?_
            refine RunD.one (i := 10) (by kernel_rfl) rfl ?_
            · skip
              refine RunL.call rfl rfl (by rfl) (by repeat (first | (with_reducible exact Take.nil _) | (apply Take.cons (by first | ((repeat (first | (with_reducible exact Find.here _) | apply Find.there)); done) | (repeat (first | exact Find.here _ | apply Find.there)))))) (made_ctr (odd := ⟨#[]⟩) g2_gb25 g2w g2b (by decide) (by decide) (by decide)) (Wt.none rfl) rfl ?_
              rintro _ _ ⟨y, rfl, hy, hA_⟩
              replace hA_ := hA_.symm; subst hA_
              refine RunL.nilD' ?_
              refine RunD.pure (i := 11) hok548 rfl (by kernel_rfl) (Pure.sadd rfl rfl (by first | omega | (simp only [size_mk, size_app, List.length_append, bl_length, List.length_cons, List.length_nil]; omega) | (simp; omega))) (Wt.none rfl) rfl rfl ?_
              refine RunD.one (i := 16) (by kernel_rfl) rfl ?_
              · skip
                refine RunL.call rfl rfl (by rfl) (by repeat (first | (with_reducible exact Take.nil _) | (apply Take.cons (by first | ((repeat (first | (with_reducible exact Find.here _) | apply Find.there)); done) | (repeat (first | exact Find.here _ | apply Find.there)))))) (made_ctr (odd := ⟨#[]⟩) g1_gb25 g1w g1b (by decide) (by decide) (by decide)) (Wt.none rfl) rfl ?_
                rintro _ _ ⟨x2, rfl, hx2, hA_⟩
                replace hA_ := hA_.symm; subst hA_
                refine RunL.nilD' ?_
                refine RunD.pure (i := 17) hok548 rfl (by kernel_rfl) (Pure.sadd rfl rfl (by first | omega | (simp only [size_mk, size_app, List.length_append, bl_length, List.length_cons, List.length_nil]; omega) | (simp; omega))) (Wt.none rfl) rfl rfl ?_
                refine RunD.one (i := 18) (by kernel_rfl) rfl ?_
                · skip
                  refine RunL.lit (vals := [_, _, _]) (vs := ([(cut s 40), ((⟨[sg].toArray⟩ : ByteArray) ++ x ++ (⟨#[58]⟩ : ByteArray) ++ y), ((⟨[sg].toArray⟩ : ByteArray) ++ x2)] : List ByteArray).map Value.string) und25 sz9 zz9 rfl rfl rfl rfl rfl rfl (by simp [Value.cells, bv]) rfl (Wt.none rfl) rfl ?_; intro b30
                  refine RunL.nilD' ?_
                  refine RunD.pure (i := 19) hok548 rfl (by kernel_rfl) (Pure.assign rfl) (Wt.none rfl) rfl rfl ?_
                  refine RunD.nilB (by kernel_rfl) (fun w sw => backgb15 _ _ (backgb25 _ _ (sw))) ?_
                  refine Run.keep (.cons rfl (.nil) : Keep _ [9] _) ?_
                  exact Run.meetF (F := F) hk (by exact ⟨b30, [(cut s 40), ((⟨[sg].toArray⟩ : ByteArray) ++ x ++ (⟨#[58]⟩ : ByteArray) ++ y), ((⟨[sg].toArray⟩ : ByteArray) ++ x2)], rfl, by intro q hq; simp only [List.mem_cons, List.not_mem_nil, or_false] at hq; rcases hq with rfl | rfl | rfl <;> (first | omega | (simp only [size_app, size_mk, List.length_cons, List.length_nil]; omega) | (have := cut_size s 40; omega)), rfl, rfl⟩) (by repeat (first | (with_reducible exact Fin.done (by repeat (first | (with_reducible exact Rest.here) | apply Rest.there))) | (apply Fin.cons (by first | ((repeat (first | (with_reducible exact Find.here _) | apply Find.there)); done) | (repeat (first | exact Find.here _ | apply Find.there))))))
      · skip
        refine RunL.call rfl rfl (by rfl) (by repeat (first | (with_reducible exact Take.nil _) | (apply Take.cons (by first | ((repeat (first | (with_reducible exact Find.here _) | apply Find.there)); done) | (repeat (first | exact Find.here _ | apply Find.there)))))) (made_ctr (odd := ⟨#[]⟩) g1 g1w g1b (by decide) (by decide) (by decide)) (Wt.none rfl) rfl ?_
        rintro _ _ ⟨x, rfl, hx, hA_⟩
        replace hA_ := hA_.symm; subst hA_
        refine RunL.nilD' ?_
        refine RunD.three (i := 3) (j := 10) (l := 13) (by kernel_rfl) rfl rfl rfl ?_ ?_ ?_
        · skip
          refine RunL.lit (vals := [_]) (vs := ([sg] : List UInt8).map bv) und29 sz5 zz5 rfl rfl rfl rfl rfl rfl (by simp [Value.cells, bv]) rfl (Wt.none rfl) rfl ?_; intro b15
          refine RunL.nilD' ?_
          refine RunD.lend (Q := Sl 5 1 (some ⟨b15, 0, none⟩) 1 1 (([sg] : List UInt8).map bv)) Lends.Sl (by first | ((repeat (first | (with_reducible exact Find.here _) | apply Find.there)); done) | (repeat (first | exact Find.here _ | apply Find.there))) ?_; intro gb15 hlegb15 hb15 backgb15
          have g1_gb15 := g1.mono hlegb15
          have g2_gb15 := g2.mono hlegb15
          refine RunD.bytesStr (i := 4) hok548 rfl (by kernel_rfl) rfl und29 und5 und9 (hb15.1) (Wt.none rfl) rfl ?_
          refine RunD.pure (i := 7) hok548 rfl (by kernel_rfl) (Pure.sadd rfl rfl (by first | omega | (simp only [size_mk, size_app, List.length_append, bl_length, List.length_cons, List.length_nil]; omega) | (simp; omega))) (Wt.none rfl) rfl rfl ?_
          refine RunD.pure (i := 8) hok548 rfl (by kernel_rfl) (Pure.sadd rfl rfl (by first | omega | (simp only [size_mk, size_app, List.length_append, bl_length, List.length_cons, List.length_nil]; omega) | (simp; omega))) (Wt.none rfl) rfl rfl ?_
          refine RunD.two (i := 10) (j := 13) (by kernel_rfl) rfl rfl ?_ ?_
          · skip
            refine RunL.call rfl rfl (by rfl) (by repeat (first | (with_reducible exact Take.nil _) | (apply Take.cons (by first | ((repeat (first | (with_reducible exact Find.here _) | apply Find.there)); done) | (repeat (first | exact Find.here _ | apply Find.there)))))) (made_ctr (odd := ⟨#[]⟩) g2_gb15 g2w g2b (by decide) (by decide) (by decide)) (Wt.none rfl) rfl ?_
            rintro _ _ ⟨y, rfl, hy, hA_⟩
            replace hA_ := hA_.symm; subst hA_
            refine RunL.nilD' ?_
            refine RunD.pure (i := 11) hok548 rfl (by kernel_rfl) (Pure.sadd rfl rfl (by first | omega | (simp only [size_mk, size_app, List.length_append, bl_length, List.length_cons, List.length_nil]; omega) | (simp; omega))) (Wt.none rfl) rfl rfl ?_
            refine RunD.two (i := 13) (j := 16) (by kernel_rfl) rfl rfl ?_ ?_
            · skip
              refine RunL.lit (vals := [_]) (vs := ([sg] : List UInt8).map bv) und29 sz5 zz5 rfl rfl rfl rfl rfl rfl (by simp [Value.cells, bv]) rfl (Wt.none rfl) rfl ?_; intro b25
              refine RunL.nilD' ?_
              refine RunD.lend (Q := Sl 5 1 (some ⟨b25, 0, none⟩) 1 1 (([sg] : List UInt8).map bv)) Lends.Sl (by first | ((repeat (first | (with_reducible exact Find.here _) | apply Find.there)); done) | (repeat (first | exact Find.here _ | apply Find.there))) ?_; intro gb25 hlegb25 hb25 backgb25
              try (replace hb15 := hb15.mono hlegb25)
              have g1_gb25 := g1_gb15.mono hlegb25
              have g2_gb25 := g2_gb15.mono hlegb25
              refine RunD.bytesStr (i := 14) hok548 rfl (by kernel_rfl) rfl und29 und5 und9 (hb25.1) (Wt.none rfl) rfl ?_
              refine RunD.one (i := 16) (by kernel_rfl) rfl ?_
              · skip
                refine RunL.call rfl rfl (by rfl) (by repeat (first | (with_reducible exact Take.nil _) | (apply Take.cons (by first | ((repeat (first | (with_reducible exact Find.here _) | apply Find.there)); done) | (repeat (first | exact Find.here _ | apply Find.there)))))) (made_ctr (odd := ⟨#[]⟩) g1_gb25 g1w g1b (by decide) (by decide) (by decide)) (Wt.none rfl) rfl ?_
                rintro _ _ ⟨x2, rfl, hx2, hA_⟩
                replace hA_ := hA_.symm; subst hA_
                refine RunL.nilD' ?_
                refine RunD.pure (i := 17) hok548 rfl (by kernel_rfl) (Pure.sadd rfl rfl (by first | omega | (simp only [size_mk, size_app, List.length_append, bl_length, List.length_cons, List.length_nil]; omega) | (simp; omega))) (Wt.none rfl) rfl rfl ?_
                refine RunD.one (i := 18) (by kernel_rfl) rfl ?_
                · skip
                  refine RunL.lit (vals := [_, _, _]) (vs := ([(cut s 40), ((⟨[sg].toArray⟩ : ByteArray) ++ x ++ (⟨#[58]⟩ : ByteArray) ++ y), ((⟨[sg].toArray⟩ : ByteArray) ++ x2)] : List ByteArray).map Value.string) und25 sz9 zz9 rfl rfl rfl rfl rfl rfl (by simp [Value.cells, bv]) rfl (Wt.none rfl) rfl ?_; intro b30
                  refine RunL.nilD' ?_
                  refine RunD.pure (i := 19) hok548 rfl (by kernel_rfl) (Pure.assign rfl) (Wt.none rfl) rfl rfl ?_
                  refine RunD.nilB (by kernel_rfl) (fun w sw => backgb15 _ _ (backgb25 _ _ (sw))) ?_
                  refine Run.keep (.cons rfl (.nil) : Keep _ [9] _) ?_
                  exact Run.meetF (F := F) hk (by exact ⟨b30, [(cut s 40), ((⟨[sg].toArray⟩ : ByteArray) ++ x ++ (⟨#[58]⟩ : ByteArray) ++ y), ((⟨[sg].toArray⟩ : ByteArray) ++ x2)], rfl, by intro q hq; simp only [List.mem_cons, List.not_mem_nil, or_false] at hq; rcases hq with rfl | rfl | rfl <;> (first | omega | (simp only [size_app, size_mk, List.length_cons, List.length_nil]; omega) | (have := cut_size s 40; omega)), rfl, rfl⟩) (by repeat (first | (with_reducible exact Fin.done (by repeat (first | (with_reducible exact Rest.here) | apply Rest.there))) | (apply Fin.cons (by first | ((repeat (first | (with_reducible exact Find.here _) | apply Find.there)); done) | (repeat (first | exact Find.here _ | apply Find.there))))))
            · skip
              refine RunL.call rfl rfl (by rfl) (by repeat (first | (with_reducible exact Take.nil _) | (apply Take.cons (by first | ((repeat (first | (with_reducible exact Find.here _) | apply Find.there)); done) | (repeat (first | exact Find.here _ | apply Find.there)))))) (made_ctr (odd := ⟨#[]⟩) g1_gb15 g1w g1b (by decide) (by decide) (by decide)) (Wt.none rfl) rfl ?_
              rintro _ _ ⟨x2, rfl, hx2, hA_⟩
              replace hA_ := hA_.symm; subst hA_
              refine RunL.nilD' ?_
              refine RunD.one (i := 13) (by kernel_rfl) rfl ?_
              · skip
                refine RunL.lit (vals := [_]) (vs := ([sg] : List UInt8).map bv) und29 sz5 zz5 rfl rfl rfl rfl rfl rfl (by simp [Value.cells, bv]) rfl (Wt.none rfl) rfl ?_; intro b25
                refine RunL.nilD' ?_
                refine RunD.lend (Q := Sl 5 1 (some ⟨b25, 0, none⟩) 1 1 (([sg] : List UInt8).map bv)) Lends.Sl (by first | ((repeat (first | (with_reducible exact Find.here _) | apply Find.there)); done) | (repeat (first | exact Find.here _ | apply Find.there))) ?_; intro gb25 hlegb25 hb25 backgb25
                try (replace hb15 := hb15.mono hlegb25)
                have g1_gb25 := g1_gb15.mono hlegb25
                have g2_gb25 := g2_gb15.mono hlegb25
                refine RunD.bytesStr (i := 14) hok548 rfl (by kernel_rfl) rfl und29 und5 und9 (hb25.1) (Wt.none rfl) rfl ?_
                refine RunD.pure (i := 17) hok548 rfl (by kernel_rfl) (Pure.sadd rfl rfl (by first | omega | (simp only [size_mk, size_app, List.length_append, bl_length, List.length_cons, List.length_nil]; omega) | (simp; omega))) (Wt.none rfl) rfl rfl ?_
                refine RunD.one (i := 18) (by kernel_rfl) rfl ?_
                · skip
                  refine RunL.lit (vals := [_, _, _]) (vs := ([(cut s 40), ((⟨[sg].toArray⟩ : ByteArray) ++ x ++ (⟨#[58]⟩ : ByteArray) ++ y), ((⟨[sg].toArray⟩ : ByteArray) ++ x2)] : List ByteArray).map Value.string) und25 sz9 zz9 rfl rfl rfl rfl rfl rfl (by simp [Value.cells, bv]) rfl (Wt.none rfl) rfl ?_; intro b30
                  refine RunL.nilD' ?_
                  refine RunD.pure (i := 19) hok548 rfl (by kernel_rfl) (Pure.assign rfl) (Wt.none rfl) rfl rfl ?_
                  refine RunD.nilB (by kernel_rfl) (fun w sw => backgb15 _ _ (backgb25 _ _ (sw))) ?_
                  refine Run.keep (.cons rfl (.nil) : Keep _ [9] _) ?_
                  exact Run.meetF (F := F) hk (by exact ⟨b30, [(cut s 40), ((⟨[sg].toArray⟩ : ByteArray) ++ x ++ (⟨#[58]⟩ : ByteArray) ++ y), ((⟨[sg].toArray⟩ : ByteArray) ++ x2)], rfl, by intro q hq; simp only [List.mem_cons, List.not_mem_nil, or_false] at hq; rcases hq with rfl | rfl | rfl <;> (first | omega | (simp only [size_app, size_mk, List.length_cons, List.length_nil]; omega) | (have := cut_size s 40; omega)), rfl, rfl⟩) (by repeat (first | (with_reducible exact Fin.done (by repeat (first | (with_reducible exact Rest.here) | apply Rest.there))) | (apply Fin.cons (by first | ((repeat (first | (with_reducible exact Find.here _) | apply Find.there)); done) | (repeat (first | exact Find.here _ | apply Find.there))))))
          · skip
            refine RunL.lit (vals := [_]) (vs := ([sg] : List UInt8).map bv) und29 sz5 zz5 rfl rfl rfl rfl rfl rfl (by simp [Value.cells, bv]) rfl (Wt.none rfl) rfl ?_; intro b25
            refine RunL.nilD' ?_
            refine RunD.lend (Q := Sl 5 1 (some ⟨b25, 0, none⟩) 1 1 (([sg] : List UInt8).map bv)) Lends.Sl (by first | ((repeat (first | (with_reducible exact Find.here _) | apply Find.there)); done) | (repeat (first | exact Find.here _ | apply Find.there))) ?_; intro gb25 hlegb25 hb25 backgb25
            try (replace hb15 := hb15.mono hlegb25)
            have g1_gb25 := g1_gb15.mono hlegb25
            have g2_gb25 := g2_gb15.mono hlegb25
            refine RunD.bytesStr (i := 14) hok548 rfl (by kernel_rfl) rfl und29 und5 und9 (hb25.1) (Wt.none rfl) rfl ?_
            refine RunD.one (i := 10) (by kernel_rfl) rfl ?_
            · skip
              refine RunL.call rfl rfl (by rfl) (by repeat (first | (with_reducible exact Take.nil _) | (apply Take.cons (by first | ((repeat (first | (with_reducible exact Find.here _) | apply Find.there)); done) | (repeat (first | exact Find.here _ | apply Find.there)))))) (made_ctr (odd := ⟨#[]⟩) g2_gb25 g2w g2b (by decide) (by decide) (by decide)) (Wt.none rfl) rfl ?_
              rintro _ _ ⟨y, rfl, hy, hA_⟩
              replace hA_ := hA_.symm; subst hA_
              refine RunL.nilD' ?_
              refine RunD.pure (i := 11) hok548 rfl (by kernel_rfl) (Pure.sadd rfl rfl (by first | omega | (simp only [size_mk, size_app, List.length_append, bl_length, List.length_cons, List.length_nil]; omega) | (simp; omega))) (Wt.none rfl) rfl rfl ?_
              refine RunD.one (i := 16) (by kernel_rfl) rfl ?_
              · skip
                refine RunL.call rfl rfl (by rfl) (by repeat (first | (with_reducible exact Take.nil _) | (apply Take.cons (by first | ((repeat (first | (with_reducible exact Find.here _) | apply Find.there)); done) | (repeat (first | exact Find.here _ | apply Find.there)))))) (made_ctr (odd := ⟨#[]⟩) g1_gb25 g1w g1b (by decide) (by decide) (by decide)) (Wt.none rfl) rfl ?_
                rintro _ _ ⟨x2, rfl, hx2, hA_⟩
                replace hA_ := hA_.symm; subst hA_
                refine RunL.nilD' ?_
                refine RunD.pure (i := 17) hok548 rfl (by kernel_rfl) (Pure.sadd rfl rfl (by first | omega | (simp only [size_mk, size_app, List.length_append, bl_length, List.length_cons, List.length_nil]; omega) | (simp; omega))) (Wt.none rfl) rfl rfl ?_
                refine RunD.one (i := 18) (by kernel_rfl) rfl ?_
                · skip
                  refine RunL.lit (vals := [_, _, _]) (vs := ([(cut s 40), ((⟨[sg].toArray⟩ : ByteArray) ++ x ++ (⟨#[58]⟩ : ByteArray) ++ y), ((⟨[sg].toArray⟩ : ByteArray) ++ x2)] : List ByteArray).map Value.string) und25 sz9 zz9 rfl rfl rfl rfl rfl rfl (by simp [Value.cells, bv]) rfl (Wt.none rfl) rfl ?_; intro b30
                  refine RunL.nilD' ?_
                  refine RunD.pure (i := 19) hok548 rfl (by kernel_rfl) (Pure.assign rfl) (Wt.none rfl) rfl rfl ?_
                  refine RunD.nilB (by kernel_rfl) (fun w sw => backgb15 _ _ (backgb25 _ _ (sw))) ?_
                  refine Run.keep (.cons rfl (.nil) : Keep _ [9] _) ?_
                  exact Run.meetF (F := F) hk (by exact ⟨b30, [(cut s 40), ((⟨[sg].toArray⟩ : ByteArray) ++ x ++ (⟨#[58]⟩ : ByteArray) ++ y), ((⟨[sg].toArray⟩ : ByteArray) ++ x2)], rfl, by intro q hq; simp only [List.mem_cons, List.not_mem_nil, or_false] at hq; rcases hq with rfl | rfl | rfl <;> (first | omega | (simp only [size_app, size_mk, List.length_cons, List.length_nil]; omega) | (have := cut_size s 40; omega)), rfl, rfl⟩) (by repeat (first | (with_reducible exact Fin.done (by repeat (first | (with_reducible exact Rest.here) | apply Rest.there))) | (apply Fin.cons (by first | ((repeat (first | (with_reducible exact Find.here _) | apply Find.there)); done) | (repeat (first | exact Find.here _ | apply Find.there))))))
        · skip
          refine RunL.call rfl rfl (by rfl) (by repeat (first | (with_reducible exact Take.nil _) | (apply Take.cons (by first | ((repeat (first | (with_reducible exact Find.here _) | apply Find.there)); done) | (repeat (first | exact Find.here _ | apply Find.there)))))) (made_ctr (odd := ⟨#[]⟩) g2 g2w g2b (by decide) (by decide) (by decide)) (Wt.none rfl) rfl ?_
          rintro _ _ ⟨y, rfl, hy, hA_⟩
          replace hA_ := hA_.symm; subst hA_
          refine RunL.nilD' ?_
          refine RunD.three (i := 3) (j := 13) (l := 16) (by kernel_rfl) rfl rfl rfl ?_ ?_ ?_
          · skip
            refine RunL.lit (vals := [_]) (vs := ([sg] : List UInt8).map bv) und29 sz5 zz5 rfl rfl rfl rfl rfl rfl (by simp [Value.cells, bv]) rfl (Wt.none rfl) rfl ?_; intro b15
            refine RunL.nilD' ?_
            refine RunD.lend (Q := Sl 5 1 (some ⟨b15, 0, none⟩) 1 1 (([sg] : List UInt8).map bv)) Lends.Sl (by first | ((repeat (first | (with_reducible exact Find.here _) | apply Find.there)); done) | (repeat (first | exact Find.here _ | apply Find.there))) ?_; intro gb15 hlegb15 hb15 backgb15
            have g1_gb15 := g1.mono hlegb15
            have g2_gb15 := g2.mono hlegb15
            refine RunD.bytesStr (i := 4) hok548 rfl (by kernel_rfl) rfl und29 und5 und9 (hb15.1) (Wt.none rfl) rfl ?_
            refine RunD.pure (i := 7) hok548 rfl (by kernel_rfl) (Pure.sadd rfl rfl (by first | omega | (simp only [size_mk, size_app, List.length_append, bl_length, List.length_cons, List.length_nil]; omega) | (simp; omega))) (Wt.none rfl) rfl rfl ?_
            refine RunD.pure (i := 8) hok548 rfl (by kernel_rfl) (Pure.sadd rfl rfl (by first | omega | (simp only [size_mk, size_app, List.length_append, bl_length, List.length_cons, List.length_nil]; omega) | (simp; omega))) (Wt.none rfl) rfl rfl ?_
            refine RunD.pure (i := 11) hok548 rfl (by kernel_rfl) (Pure.sadd rfl rfl (by first | omega | (simp only [size_mk, size_app, List.length_append, bl_length, List.length_cons, List.length_nil]; omega) | (simp; omega))) (Wt.none rfl) rfl rfl ?_
            refine RunD.two (i := 13) (j := 16) (by kernel_rfl) rfl rfl ?_ ?_
            · skip
              refine RunL.lit (vals := [_]) (vs := ([sg] : List UInt8).map bv) und29 sz5 zz5 rfl rfl rfl rfl rfl rfl (by simp [Value.cells, bv]) rfl (Wt.none rfl) rfl ?_; intro b25
              refine RunL.nilD' ?_
              refine RunD.lend (Q := Sl 5 1 (some ⟨b25, 0, none⟩) 1 1 (([sg] : List UInt8).map bv)) Lends.Sl (by first | ((repeat (first | (with_reducible exact Find.here _) | apply Find.there)); done) | (repeat (first | exact Find.here _ | apply Find.there))) ?_; intro gb25 hlegb25 hb25 backgb25
              try (replace hb15 := hb15.mono hlegb25)
              have g1_gb25 := g1_gb15.mono hlegb25
              have g2_gb25 := g2_gb15.mono hlegb25
              refine RunD.bytesStr (i := 14) hok548 rfl (by kernel_rfl) rfl und29 und5 und9 (hb25.1) (Wt.none rfl) rfl ?_
              refine RunD.one (i := 16) (by kernel_rfl) rfl ?_
              · skip
                refine RunL.call rfl rfl (by rfl) (by repeat (first | (with_reducible exact Take.nil _) | (apply Take.cons (by first | ((repeat (first | (with_reducible exact Find.here _) | apply Find.there)); done) | (repeat (first | exact Find.here _ | apply Find.there)))))) (made_ctr (odd := ⟨#[]⟩) g1_gb25 g1w g1b (by decide) (by decide) (by decide)) (Wt.none rfl) rfl ?_
                rintro _ _ ⟨x2, rfl, hx2, hA_⟩
                replace hA_ := hA_.symm; subst hA_
                refine RunL.nilD' ?_
                refine RunD.pure (i := 17) hok548 rfl (by kernel_rfl) (Pure.sadd rfl rfl (by first | omega | (simp only [size_mk, size_app, List.length_append, bl_length, List.length_cons, List.length_nil]; omega) | (simp; omega))) (Wt.none rfl) rfl rfl ?_
                refine RunD.one (i := 18) (by kernel_rfl) rfl ?_
                · skip
                  refine RunL.lit (vals := [_, _, _]) (vs := ([(cut s 40), ((⟨[sg].toArray⟩ : ByteArray) ++ x ++ (⟨#[58]⟩ : ByteArray) ++ y), ((⟨[sg].toArray⟩ : ByteArray) ++ x2)] : List ByteArray).map Value.string) und25 sz9 zz9 rfl rfl rfl rfl rfl rfl (by simp [Value.cells, bv]) rfl (Wt.none rfl) rfl ?_; intro b30
                  refine RunL.nilD' ?_
                  refine RunD.pure (i := 19) hok548 rfl (by kernel_rfl) (Pure.assign rfl) (Wt.none rfl) rfl rfl ?_
                  refine RunD.nilB (by kernel_rfl) (fun w sw => backgb15 _ _ (backgb25 _ _ (sw))) ?_
                  refine Run.keep (.cons rfl (.nil) : Keep _ [9] _) ?_
                  exact Run.meetF (F := F) hk (by exact ⟨b30, [(cut s 40), ((⟨[sg].toArray⟩ : ByteArray) ++ x ++ (⟨#[58]⟩ : ByteArray) ++ y), ((⟨[sg].toArray⟩ : ByteArray) ++ x2)], rfl, by intro q hq; simp only [List.mem_cons, List.not_mem_nil, or_false] at hq; rcases hq with rfl | rfl | rfl <;> (first | omega | (simp only [size_app, size_mk, List.length_cons, List.length_nil]; omega) | (have := cut_size s 40; omega)), rfl, rfl⟩) (by repeat (first | (with_reducible exact Fin.done (by repeat (first | (with_reducible exact Rest.here) | apply Rest.there))) | (apply Fin.cons (by first | ((repeat (first | (with_reducible exact Find.here _) | apply Find.there)); done) | (repeat (first | exact Find.here _ | apply Find.there))))))
            · skip
              refine RunL.call rfl rfl (by rfl) (by repeat (first | (with_reducible exact Take.nil _) | (apply Take.cons (by first | ((repeat (first | (with_reducible exact Find.here _) | apply Find.there)); done) | (repeat (first | exact Find.here _ | apply Find.there)))))) (made_ctr (odd := ⟨#[]⟩) g1_gb15 g1w g1b (by decide) (by decide) (by decide)) (Wt.none rfl) rfl ?_
              rintro _ _ ⟨x2, rfl, hx2, hA_⟩
              replace hA_ := hA_.symm; subst hA_
              refine RunL.nilD' ?_
              refine RunD.one (i := 13) (by kernel_rfl) rfl ?_
              · skip
                refine RunL.lit (vals := [_]) (vs := ([sg] : List UInt8).map bv) und29 sz5 zz5 rfl rfl rfl rfl rfl rfl (by simp [Value.cells, bv]) rfl (Wt.none rfl) rfl ?_; intro b25
                refine RunL.nilD' ?_
                refine RunD.lend (Q := Sl 5 1 (some ⟨b25, 0, none⟩) 1 1 (([sg] : List UInt8).map bv)) Lends.Sl (by first | ((repeat (first | (with_reducible exact Find.here _) | apply Find.there)); done) | (repeat (first | exact Find.here _ | apply Find.there))) ?_; intro gb25 hlegb25 hb25 backgb25
                try (replace hb15 := hb15.mono hlegb25)
                have g1_gb25 := g1_gb15.mono hlegb25
                have g2_gb25 := g2_gb15.mono hlegb25
                refine RunD.bytesStr (i := 14) hok548 rfl (by kernel_rfl) rfl und29 und5 und9 (hb25.1) (Wt.none rfl) rfl ?_
                refine RunD.pure (i := 17) hok548 rfl (by kernel_rfl) (Pure.sadd rfl rfl (by first | omega | (simp only [size_mk, size_app, List.length_append, bl_length, List.length_cons, List.length_nil]; omega) | (simp; omega))) (Wt.none rfl) rfl rfl ?_
                refine RunD.one (i := 18) (by kernel_rfl) rfl ?_
                · skip
                  refine RunL.lit (vals := [_, _, _]) (vs := ([(cut s 40), ((⟨[sg].toArray⟩ : ByteArray) ++ x ++ (⟨#[58]⟩ : ByteArray) ++ y), ((⟨[sg].toArray⟩ : ByteArray) ++ x2)] : List ByteArray).map Value.string) und25 sz9 zz9 rfl rfl rfl rfl rfl rfl (by simp [Value.cells, bv]) rfl (Wt.none rfl) rfl ?_; intro b30
                  refine RunL.nilD' ?_
                  refine RunD.pure (i := 19) hok548 rfl (by kernel_rfl) (Pure.assign rfl) (Wt.none rfl) rfl rfl ?_
                  refine RunD.nilB (by kernel_rfl) (fun w sw => backgb15 _ _ (backgb25 _ _ (sw))) ?_
                  refine Run.keep (.cons rfl (.nil) : Keep _ [9] _) ?_
                  exact Run.meetF (F := F) hk (by exact ⟨b30, [(cut s 40), ((⟨[sg].toArray⟩ : ByteArray) ++ x ++ (⟨#[58]⟩ : ByteArray) ++ y), ((⟨[sg].toArray⟩ : ByteArray) ++ x2)], rfl, by intro q hq; simp only [List.mem_cons, List.not_mem_nil, or_false] at hq; rcases hq with rfl | rfl | rfl <;> (first | omega | (simp only [size_app, size_mk, List.length_cons, List.length_nil]; omega) | (have := cut_size s 40; omega)), rfl, rfl⟩) (by repeat (first | (with_reducible exact Fin.done (by repeat (first | (with_reducible exact Rest.here) | apply Rest.there))) | (apply Fin.cons (by first | ((repeat (first | (with_reducible exact Find.here _) | apply Find.there)); done) | (repeat (first | exact Find.here _ | apply Find.there))))))
          · skip
            refine RunL.lit (vals := [_]) (vs := ([sg] : List UInt8).map bv) und29 sz5 zz5 rfl rfl rfl rfl rfl rfl (by simp [Value.cells, bv]) rfl (Wt.none rfl) rfl ?_; intro b25
            refine RunL.nilD' ?_
            refine RunD.lend (Q := Sl 5 1 (some ⟨b25, 0, none⟩) 1 1 (([sg] : List UInt8).map bv)) Lends.Sl (by first | ((repeat (first | (with_reducible exact Find.here _) | apply Find.there)); done) | (repeat (first | exact Find.here _ | apply Find.there))) ?_; intro gb25 hlegb25 hb25 backgb25
            have g1_gb25 := g1.mono hlegb25
            have g2_gb25 := g2.mono hlegb25
            refine RunD.bytesStr (i := 14) hok548 rfl (by kernel_rfl) rfl und29 und5 und9 (hb25.1) (Wt.none rfl) rfl ?_
            refine RunD.two (i := 3) (j := 16) (by kernel_rfl) rfl rfl ?_ ?_
            · skip
              refine RunL.lit (vals := [_]) (vs := ([sg] : List UInt8).map bv) und29 sz5 zz5 rfl rfl rfl rfl rfl rfl (by simp [Value.cells, bv]) rfl (Wt.none rfl) rfl ?_; intro b15
              refine RunL.nilD' ?_
              refine RunD.lend (Q := Sl 5 1 (some ⟨b15, 0, none⟩) 1 1 (([sg] : List UInt8).map bv)) Lends.Sl (by first | ((repeat (first | (with_reducible exact Find.here _) | apply Find.there)); done) | (repeat (first | exact Find.here _ | apply Find.there))) ?_; intro gb15 hlegb15 hb15 backgb15
              try (replace hb25 := hb25.mono hlegb15)
              have g1_gb15 := g1_gb25.mono hlegb15
              have g2_gb15 := g2_gb25.mono hlegb15
              refine RunD.bytesStr (i := 4) hok548 rfl (by kernel_rfl) rfl und29 und5 und9 (hb15.1) (Wt.none rfl) rfl ?_
              refine RunD.pure (i := 7) hok548 rfl (by kernel_rfl) (Pure.sadd rfl rfl (by first | omega | (simp only [size_mk, size_app, List.length_append, bl_length, List.length_cons, List.length_nil]; omega) | (simp; omega))) (Wt.none rfl) rfl rfl ?_
              refine RunD.pure (i := 8) hok548 rfl (by kernel_rfl) (Pure.sadd rfl rfl (by first | omega | (simp only [size_mk, size_app, List.length_append, bl_length, List.length_cons, List.length_nil]; omega) | (simp; omega))) (Wt.none rfl) rfl rfl ?_
              refine RunD.pure (i := 11) hok548 rfl (by kernel_rfl) (Pure.sadd rfl rfl (by first | omega | (simp only [size_mk, size_app, List.length_append, bl_length, List.length_cons, List.length_nil]; omega) | (simp; omega))) (Wt.none rfl) rfl rfl ?_
              refine RunD.one (i := 16) (by kernel_rfl) rfl ?_
              · skip
                refine RunL.call rfl rfl (by rfl) (by repeat (first | (with_reducible exact Take.nil _) | (apply Take.cons (by first | ((repeat (first | (with_reducible exact Find.here _) | apply Find.there)); done) | (repeat (first | exact Find.here _ | apply Find.there)))))) (made_ctr (odd := ⟨#[]⟩) g1_gb15 g1w g1b (by decide) (by decide) (by decide)) (Wt.none rfl) rfl ?_
                rintro _ _ ⟨x2, rfl, hx2, hA_⟩
                replace hA_ := hA_.symm; subst hA_
                refine RunL.nilD' ?_
                refine RunD.pure (i := 17) hok548 rfl (by kernel_rfl) (Pure.sadd rfl rfl (by first | omega | (simp only [size_mk, size_app, List.length_append, bl_length, List.length_cons, List.length_nil]; omega) | (simp; omega))) (Wt.none rfl) rfl rfl ?_
                refine RunD.one (i := 18) (by kernel_rfl) rfl ?_
                · skip
                  refine RunL.lit (vals := [_, _, _]) (vs := ([(cut s 40), ((⟨[sg].toArray⟩ : ByteArray) ++ x ++ (⟨#[58]⟩ : ByteArray) ++ y), ((⟨[sg].toArray⟩ : ByteArray) ++ x2)] : List ByteArray).map Value.string) und25 sz9 zz9 rfl rfl rfl rfl rfl rfl (by simp [Value.cells, bv]) rfl (Wt.none rfl) rfl ?_; intro b30
                  refine RunL.nilD' ?_
                  refine RunD.pure (i := 19) hok548 rfl (by kernel_rfl) (Pure.assign rfl) (Wt.none rfl) rfl rfl ?_
                  refine RunD.nilB (by kernel_rfl) (fun w sw => backgb25 _ _ (backgb15 _ _ (sw))) ?_
                  refine Run.keep (.cons rfl (.nil) : Keep _ [9] _) ?_
                  exact Run.meetF (F := F) hk (by exact ⟨b30, [(cut s 40), ((⟨[sg].toArray⟩ : ByteArray) ++ x ++ (⟨#[58]⟩ : ByteArray) ++ y), ((⟨[sg].toArray⟩ : ByteArray) ++ x2)], rfl, by intro q hq; simp only [List.mem_cons, List.not_mem_nil, or_false] at hq; rcases hq with rfl | rfl | rfl <;> (first | omega | (simp only [size_app, size_mk, List.length_cons, List.length_nil]; omega) | (have := cut_size s 40; omega)), rfl, rfl⟩) (by repeat (first | (with_reducible exact Fin.done (by repeat (first | (with_reducible exact Rest.here) | apply Rest.there))) | (apply Fin.cons (by first | ((repeat (first | (with_reducible exact Find.here _) | apply Find.there)); done) | (repeat (first | exact Find.here _ | apply Find.there))))))
            · skip
              refine RunL.call rfl rfl (by rfl) (by repeat (first | (with_reducible exact Take.nil _) | (apply Take.cons (by first | ((repeat (first | (with_reducible exact Find.here _) | apply Find.there)); done) | (repeat (first | exact Find.here _ | apply Find.there)))))) (made_ctr (odd := ⟨#[]⟩) g1_gb25 g1w g1b (by decide) (by decide) (by decide)) (Wt.none rfl) rfl ?_
              rintro _ _ ⟨x2, rfl, hx2, hA_⟩
              replace hA_ := hA_.symm; subst hA_
              refine RunL.nilD' ?_
              refine RunD.pure (i := 17) hok548 rfl (by kernel_rfl) (Pure.sadd rfl rfl (by first | omega | (simp only [size_mk, size_app, List.length_append, bl_length, List.length_cons, List.length_nil]; omega) | (simp; omega))) (Wt.none rfl) rfl rfl ?_
              refine RunD.one (i := 3) (by kernel_rfl) rfl ?_
              · skip
                refine RunL.lit (vals := [_]) (vs := ([sg] : List UInt8).map bv) und29 sz5 zz5 rfl rfl rfl rfl rfl rfl (by simp [Value.cells, bv]) rfl (Wt.none rfl) rfl ?_; intro b15
                refine RunL.nilD' ?_
                refine RunD.lend (Q := Sl 5 1 (some ⟨b15, 0, none⟩) 1 1 (([sg] : List UInt8).map bv)) Lends.Sl (by first | ((repeat (first | (with_reducible exact Find.here _) | apply Find.there)); done) | (repeat (first | exact Find.here _ | apply Find.there))) ?_; intro gb15 hlegb15 hb15 backgb15
                try (replace hb25 := hb25.mono hlegb15)
                have g1_gb15 := g1_gb25.mono hlegb15
                have g2_gb15 := g2_gb25.mono hlegb15
                refine RunD.bytesStr (i := 4) hok548 rfl (by kernel_rfl) rfl und29 und5 und9 (hb15.1) (Wt.none rfl) rfl ?_
                refine RunD.pure (i := 7) hok548 rfl (by kernel_rfl) (Pure.sadd rfl rfl (by first | omega | (simp only [size_mk, size_app, List.length_append, bl_length, List.length_cons, List.length_nil]; omega) | (simp; omega))) (Wt.none rfl) rfl rfl ?_
                refine RunD.pure (i := 8) hok548 rfl (by kernel_rfl) (Pure.sadd rfl rfl (by first | omega | (simp only [size_mk, size_app, List.length_append, bl_length, List.length_cons, List.length_nil]; omega) | (simp; omega))) (Wt.none rfl) rfl rfl ?_
                refine RunD.pure (i := 11) hok548 rfl (by kernel_rfl) (Pure.sadd rfl rfl (by first | omega | (simp only [size_mk, size_app, List.length_append, bl_length, List.length_cons, List.length_nil]; omega) | (simp; omega))) (Wt.none rfl) rfl rfl ?_
                refine RunD.one (i := 18) (by kernel_rfl) rfl ?_
                · skip
                  refine RunL.lit (vals := [_, _, _]) (vs := ([(cut s 40), ((⟨[sg].toArray⟩ : ByteArray) ++ x ++ (⟨#[58]⟩ : ByteArray) ++ y), ((⟨[sg].toArray⟩ : ByteArray) ++ x2)] : List ByteArray).map Value.string) und25 sz9 zz9 rfl rfl rfl rfl rfl rfl (by simp [Value.cells, bv]) rfl (Wt.none rfl) rfl ?_; intro b30
                  refine RunL.nilD' ?_
                  refine RunD.pure (i := 19) hok548 rfl (by kernel_rfl) (Pure.assign rfl) (Wt.none rfl) rfl rfl ?_
                  refine RunD.nilB (by kernel_rfl) (fun w sw => backgb25 _ _ (backgb15 _ _ (sw))) ?_
                  refine Run.keep (.cons rfl (.nil) : Keep _ [9] _) ?_
                  exact Run.meetF (F := F) hk (by exact ⟨b30, [(cut s 40), ((⟨[sg].toArray⟩ : ByteArray) ++ x ++ (⟨#[58]⟩ : ByteArray) ++ y), ((⟨[sg].toArray⟩ : ByteArray) ++ x2)], rfl, by intro q hq; simp only [List.mem_cons, List.not_mem_nil, or_false] at hq; rcases hq with rfl | rfl | rfl <;> (first | omega | (simp only [size_app, size_mk, List.length_cons, List.length_nil]; omega) | (have := cut_size s 40; omega)), rfl, rfl⟩) (by repeat (first | (with_reducible exact Fin.done (by repeat (first | (with_reducible exact Rest.here) | apply Rest.there))) | (apply Fin.cons (by first | ((repeat (first | (with_reducible exact Find.here _) | apply Find.there)); done) | (repeat (first | exact Find.here _ | apply Find.there))))))
          · skip
            refine RunL.call rfl rfl (by rfl) (by repeat (first | (with_reducible exact Take.nil _) | (apply Take.cons (by first | ((repeat (first | (with_reducible exact Find.here _) | apply Find.there)); done) | (repeat (first | exact Find.here _ | apply Find.there)))))) (made_ctr (odd := ⟨#[]⟩) g1 g1w g1b (by decide) (by decide) (by decide)) (Wt.none rfl) rfl ?_
            rintro _ _ ⟨x2, rfl, hx2, hA_⟩
            replace hA_ := hA_.symm; subst hA_
            refine RunL.nilD' ?_
            refine RunD.two (i := 3) (j := 13) (by kernel_rfl) rfl rfl ?_ ?_
            · skip
              refine RunL.lit (vals := [_]) (vs := ([sg] : List UInt8).map bv) und29 sz5 zz5 rfl rfl rfl rfl rfl rfl (by simp [Value.cells, bv]) rfl (Wt.none rfl) rfl ?_; intro b15
              refine RunL.nilD' ?_
              refine RunD.lend (Q := Sl 5 1 (some ⟨b15, 0, none⟩) 1 1 (([sg] : List UInt8).map bv)) Lends.Sl (by first | ((repeat (first | (with_reducible exact Find.here _) | apply Find.there)); done) | (repeat (first | exact Find.here _ | apply Find.there))) ?_; intro gb15 hlegb15 hb15 backgb15
              have g1_gb15 := g1.mono hlegb15
              have g2_gb15 := g2.mono hlegb15
              refine RunD.bytesStr (i := 4) hok548 rfl (by kernel_rfl) rfl und29 und5 und9 (hb15.1) (Wt.none rfl) rfl ?_
              refine RunD.pure (i := 7) hok548 rfl (by kernel_rfl) (Pure.sadd rfl rfl (by first | omega | (simp only [size_mk, size_app, List.length_append, bl_length, List.length_cons, List.length_nil]; omega) | (simp; omega))) (Wt.none rfl) rfl rfl ?_
              refine RunD.pure (i := 8) hok548 rfl (by kernel_rfl) (Pure.sadd rfl rfl (by first | omega | (simp only [size_mk, size_app, List.length_append, bl_length, List.length_cons, List.length_nil]; omega) | (simp; omega))) (Wt.none rfl) rfl rfl ?_
              refine RunD.pure (i := 11) hok548 rfl (by kernel_rfl) (Pure.sadd rfl rfl (by first | omega | (simp only [size_mk, size_app, List.length_append, bl_length, List.length_cons, List.length_nil]; omega) | (simp; omega))) (Wt.none rfl) rfl rfl ?_
              refine RunD.one (i := 13) (by kernel_rfl) rfl ?_
              · skip
                refine RunL.lit (vals := [_]) (vs := ([sg] : List UInt8).map bv) und29 sz5 zz5 rfl rfl rfl rfl rfl rfl (by simp [Value.cells, bv]) rfl (Wt.none rfl) rfl ?_; intro b25
                refine RunL.nilD' ?_
                refine RunD.lend (Q := Sl 5 1 (some ⟨b25, 0, none⟩) 1 1 (([sg] : List UInt8).map bv)) Lends.Sl (by first | ((repeat (first | (with_reducible exact Find.here _) | apply Find.there)); done) | (repeat (first | exact Find.here _ | apply Find.there))) ?_; intro gb25 hlegb25 hb25 backgb25
                try (replace hb15 := hb15.mono hlegb25)
                have g1_gb25 := g1_gb15.mono hlegb25
                have g2_gb25 := g2_gb15.mono hlegb25
                refine RunD.bytesStr (i := 14) hok548 rfl (by kernel_rfl) rfl und29 und5 und9 (hb25.1) (Wt.none rfl) rfl ?_
                refine RunD.pure (i := 17) hok548 rfl (by kernel_rfl) (Pure.sadd rfl rfl (by first | omega | (simp only [size_mk, size_app, List.length_append, bl_length, List.length_cons, List.length_nil]; omega) | (simp; omega))) (Wt.none rfl) rfl rfl ?_
                refine RunD.one (i := 18) (by kernel_rfl) rfl ?_
                · skip
                  refine RunL.lit (vals := [_, _, _]) (vs := ([(cut s 40), ((⟨[sg].toArray⟩ : ByteArray) ++ x ++ (⟨#[58]⟩ : ByteArray) ++ y), ((⟨[sg].toArray⟩ : ByteArray) ++ x2)] : List ByteArray).map Value.string) und25 sz9 zz9 rfl rfl rfl rfl rfl rfl (by simp [Value.cells, bv]) rfl (Wt.none rfl) rfl ?_; intro b30
                  refine RunL.nilD' ?_
                  refine RunD.pure (i := 19) hok548 rfl (by kernel_rfl) (Pure.assign rfl) (Wt.none rfl) rfl rfl ?_
                  refine RunD.nilB (by kernel_rfl) (fun w sw => backgb15 _ _ (backgb25 _ _ (sw))) ?_
                  refine Run.keep (.cons rfl (.nil) : Keep _ [9] _) ?_
                  exact Run.meetF (F := F) hk (by exact ⟨b30, [(cut s 40), ((⟨[sg].toArray⟩ : ByteArray) ++ x ++ (⟨#[58]⟩ : ByteArray) ++ y), ((⟨[sg].toArray⟩ : ByteArray) ++ x2)], rfl, by intro q hq; simp only [List.mem_cons, List.not_mem_nil, or_false] at hq; rcases hq with rfl | rfl | rfl <;> (first | omega | (simp only [size_app, size_mk, List.length_cons, List.length_nil]; omega) | (have := cut_size s 40; omega)), rfl, rfl⟩) (by repeat (first | (with_reducible exact Fin.done (by repeat (first | (with_reducible exact Rest.here) | apply Rest.there))) | (apply Fin.cons (by first | ((repeat (first | (with_reducible exact Find.here _) | apply Find.there)); done) | (repeat (first | exact Find.here _ | apply Find.there))))))
            · skip
              refine RunL.lit (vals := [_]) (vs := ([sg] : List UInt8).map bv) und29 sz5 zz5 rfl rfl rfl rfl rfl rfl (by simp [Value.cells, bv]) rfl (Wt.none rfl) rfl ?_; intro b25
              refine RunL.nilD' ?_
              refine RunD.lend (Q := Sl 5 1 (some ⟨b25, 0, none⟩) 1 1 (([sg] : List UInt8).map bv)) Lends.Sl (by first | ((repeat (first | (with_reducible exact Find.here _) | apply Find.there)); done) | (repeat (first | exact Find.here _ | apply Find.there))) ?_; intro gb25 hlegb25 hb25 backgb25
              have g1_gb25 := g1.mono hlegb25
              have g2_gb25 := g2.mono hlegb25
              refine RunD.bytesStr (i := 14) hok548 rfl (by kernel_rfl) rfl und29 und5 und9 (hb25.1) (Wt.none rfl) rfl ?_
              refine RunD.pure (i := 17) hok548 rfl (by kernel_rfl) (Pure.sadd rfl rfl (by first | omega | (simp only [size_mk, size_app, List.length_append, bl_length, List.length_cons, List.length_nil]; omega) | (simp; omega))) (Wt.none rfl) rfl rfl ?_
              refine RunD.one (i := 3) (by kernel_rfl) rfl ?_
              · skip
                refine RunL.lit (vals := [_]) (vs := ([sg] : List UInt8).map bv) und29 sz5 zz5 rfl rfl rfl rfl rfl rfl (by simp [Value.cells, bv]) rfl (Wt.none rfl) rfl ?_; intro b15
                refine RunL.nilD' ?_
                refine RunD.lend (Q := Sl 5 1 (some ⟨b15, 0, none⟩) 1 1 (([sg] : List UInt8).map bv)) Lends.Sl (by first | ((repeat (first | (with_reducible exact Find.here _) | apply Find.there)); done) | (repeat (first | exact Find.here _ | apply Find.there))) ?_; intro gb15 hlegb15 hb15 backgb15
                try (replace hb25 := hb25.mono hlegb15)
                have g1_gb15 := g1_gb25.mono hlegb15
                have g2_gb15 := g2_gb25.mono hlegb15
                refine RunD.bytesStr (i := 4) hok548 rfl (by kernel_rfl) rfl und29 und5 und9 (hb15.1) (Wt.none rfl) rfl ?_
                refine RunD.pure (i := 7) hok548 rfl (by kernel_rfl) (Pure.sadd rfl rfl (by first | omega | (simp only [size_mk, size_app, List.length_append, bl_length, List.length_cons, List.length_nil]; omega) | (simp; omega))) (Wt.none rfl) rfl rfl ?_
                refine RunD.pure (i := 8) hok548 rfl (by kernel_rfl) (Pure.sadd rfl rfl (by first | omega | (simp only [size_mk, size_app, List.length_append, bl_length, List.length_cons, List.length_nil]; omega) | (simp; omega))) (Wt.none rfl) rfl rfl ?_
                refine RunD.pure (i := 11) hok548 rfl (by kernel_rfl) (Pure.sadd rfl rfl (by first | omega | (simp only [size_mk, size_app, List.length_append, bl_length, List.length_cons, List.length_nil]; omega) | (simp; omega))) (Wt.none rfl) rfl rfl ?_
                refine RunD.one (i := 18) (by kernel_rfl) rfl ?_
                · skip
                  refine RunL.lit (vals := [_, _, _]) (vs := ([(cut s 40), ((⟨[sg].toArray⟩ : ByteArray) ++ x ++ (⟨#[58]⟩ : ByteArray) ++ y), ((⟨[sg].toArray⟩ : ByteArray) ++ x2)] : List ByteArray).map Value.string) und25 sz9 zz9 rfl rfl rfl rfl rfl rfl (by simp [Value.cells, bv]) rfl (Wt.none rfl) rfl ?_; intro b30
                  refine RunL.nilD' ?_
                  refine RunD.pure (i := 19) hok548 rfl (by kernel_rfl) (Pure.assign rfl) (Wt.none rfl) rfl rfl ?_
                  refine RunD.nilB (by kernel_rfl) (fun w sw => backgb25 _ _ (backgb15 _ _ (sw))) ?_
                  refine Run.keep (.cons rfl (.nil) : Keep _ [9] _) ?_
                  exact Run.meetF (F := F) hk (by exact ⟨b30, [(cut s 40), ((⟨[sg].toArray⟩ : ByteArray) ++ x ++ (⟨#[58]⟩ : ByteArray) ++ y), ((⟨[sg].toArray⟩ : ByteArray) ++ x2)], rfl, by intro q hq; simp only [List.mem_cons, List.not_mem_nil, or_false] at hq; rcases hq with rfl | rfl | rfl <;> (first | omega | (simp only [size_app, size_mk, List.length_cons, List.length_nil]; omega) | (have := cut_size s 40; omega)), rfl, rfl⟩) (by repeat (first | (with_reducible exact Fin.done (by repeat (first | (with_reducible exact Rest.here) | apply Rest.there))) | (apply Fin.cons (by first | ((repeat (first | (with_reducible exact Find.here _) | apply Find.there)); done) | (repeat (first | exact Find.here _ | apply Find.there))))))
        · skip
          refine RunL.lit (vals := [_]) (vs := ([sg] : List UInt8).map bv) und29 sz5 zz5 rfl rfl rfl rfl rfl rfl (by simp [Value.cells, bv]) rfl (Wt.none rfl) rfl ?_; intro b25
          refine RunL.nilD' ?_
          refine RunD.lend (Q := Sl 5 1 (some ⟨b25, 0, none⟩) 1 1 (([sg] : List UInt8).map bv)) Lends.Sl (by first | ((repeat (first | (with_reducible exact Find.here _) | apply Find.there)); done) | (repeat (first | exact Find.here _ | apply Find.there))) ?_; intro gb25 hlegb25 hb25 backgb25
          have g1_gb25 := g1.mono hlegb25
          have g2_gb25 := g2.mono hlegb25
          refine RunD.bytesStr (i := 14) hok548 rfl (by kernel_rfl) rfl und29 und5 und9 (hb25.1) (Wt.none rfl) rfl ?_
          refine RunD.two (i := 3) (j := 10) (by kernel_rfl) rfl rfl ?_ ?_
          · skip
            refine RunL.lit (vals := [_]) (vs := ([sg] : List UInt8).map bv) und29 sz5 zz5 rfl rfl rfl rfl rfl rfl (by simp [Value.cells, bv]) rfl (Wt.none rfl) rfl ?_; intro b15
            refine RunL.nilD' ?_
            refine RunD.lend (Q := Sl 5 1 (some ⟨b15, 0, none⟩) 1 1 (([sg] : List UInt8).map bv)) Lends.Sl (by first | ((repeat (first | (with_reducible exact Find.here _) | apply Find.there)); done) | (repeat (first | exact Find.here _ | apply Find.there))) ?_; intro gb15 hlegb15 hb15 backgb15
            try (replace hb25 := hb25.mono hlegb15)
            have g1_gb15 := g1_gb25.mono hlegb15
            have g2_gb15 := g2_gb25.mono hlegb15
            refine RunD.bytesStr (i := 4) hok548 rfl (by kernel_rfl) rfl und29 und5 und9 (hb15.1) (Wt.none rfl) rfl ?_
            refine RunD.pure (i := 7) hok548 rfl (by kernel_rfl) (Pure.sadd rfl rfl (by first | omega | (simp only [size_mk, size_app, List.length_append, bl_length, List.length_cons, List.length_nil]; omega) | (simp; omega))) (Wt.none rfl) rfl rfl ?_
            refine RunD.pure (i := 8) hok548 rfl (by kernel_rfl) (Pure.sadd rfl rfl (by first | omega | (simp only [size_mk, size_app, List.length_append, bl_length, List.length_cons, List.length_nil]; omega) | (simp; omega))) (Wt.none rfl) rfl rfl ?_
            refine RunD.one (i := 10) (by kernel_rfl) rfl ?_
            · skip
              refine RunL.call rfl rfl (by rfl) (by repeat (first | (with_reducible exact Take.nil _) | (apply Take.cons (by first | ((repeat (first | (with_reducible exact Find.here _) | apply Find.there)); done) | (repeat (first | exact Find.here _ | apply Find.there)))))) (made_ctr (odd := ⟨#[]⟩) g2_gb15 g2w g2b (by decide) (by decide) (by decide)) (Wt.none rfl) rfl ?_
              rintro _ _ ⟨y, rfl, hy, hA_⟩
              replace hA_ := hA_.symm; subst hA_
              refine RunL.nilD' ?_
              refine RunD.pure (i := 11) hok548 rfl (by kernel_rfl) (Pure.sadd rfl rfl (by first | omega | (simp only [size_mk, size_app, List.length_append, bl_length, List.length_cons, List.length_nil]; omega) | (simp; omega))) (Wt.none rfl) rfl rfl ?_
              refine RunD.one (i := 16) (by kernel_rfl) rfl ?_
              · skip
                refine RunL.call rfl rfl (by rfl) (by repeat (first | (with_reducible exact Take.nil _) | (apply Take.cons (by first | ((repeat (first | (with_reducible exact Find.here _) | apply Find.there)); done) | (repeat (first | exact Find.here _ | apply Find.there)))))) (made_ctr (odd := ⟨#[]⟩) g1_gb15 g1w g1b (by decide) (by decide) (by decide)) (Wt.none rfl) rfl ?_
                rintro _ _ ⟨x2, rfl, hx2, hA_⟩
                replace hA_ := hA_.symm; subst hA_
                refine RunL.nilD' ?_
                refine RunD.pure (i := 17) hok548 rfl (by kernel_rfl) (Pure.sadd rfl rfl (by first | omega | (simp only [size_mk, size_app, List.length_append, bl_length, List.length_cons, List.length_nil]; omega) | (simp; omega))) (Wt.none rfl) rfl rfl ?_
                refine RunD.one (i := 18) (by kernel_rfl) rfl ?_
                · skip
                  refine RunL.lit (vals := [_, _, _]) (vs := ([(cut s 40), ((⟨[sg].toArray⟩ : ByteArray) ++ x ++ (⟨#[58]⟩ : ByteArray) ++ y), ((⟨[sg].toArray⟩ : ByteArray) ++ x2)] : List ByteArray).map Value.string) und25 sz9 zz9 rfl rfl rfl rfl rfl rfl (by simp [Value.cells, bv]) rfl (Wt.none rfl) rfl ?_; intro b30
                  refine RunL.nilD' ?_
                  refine RunD.pure (i := 19) hok548 rfl (by kernel_rfl) (Pure.assign rfl) (Wt.none rfl) rfl rfl ?_
                  refine RunD.nilB (by kernel_rfl) (fun w sw => backgb25 _ _ (backgb15 _ _ (sw))) ?_
                  refine Run.keep (.cons rfl (.nil) : Keep _ [9] _) ?_
                  exact Run.meetF (F := F) hk (by exact ⟨b30, [(cut s 40), ((⟨[sg].toArray⟩ : ByteArray) ++ x ++ (⟨#[58]⟩ : ByteArray) ++ y), ((⟨[sg].toArray⟩ : ByteArray) ++ x2)], rfl, by intro q hq; simp only [List.mem_cons, List.not_mem_nil, or_false] at hq; rcases hq with rfl | rfl | rfl <;> (first | omega | (simp only [size_app, size_mk, List.length_cons, List.length_nil]; omega) | (have := cut_size s 40; omega)), rfl, rfl⟩) (by repeat (first | (with_reducible exact Fin.done (by repeat (first | (with_reducible exact Rest.here) | apply Rest.there))) | (apply Fin.cons (by first | ((repeat (first | (with_reducible exact Find.here _) | apply Find.there)); done) | (repeat (first | exact Find.here _ | apply Find.there))))))
          · skip
            refine RunL.call rfl rfl (by rfl) (by repeat (first | (with_reducible exact Take.nil _) | (apply Take.cons (by first | ((repeat (first | (with_reducible exact Find.here _) | apply Find.there)); done) | (repeat (first | exact Find.here _ | apply Find.there)))))) (made_ctr (odd := ⟨#[]⟩) g2_gb25 g2w g2b (by decide) (by decide) (by decide)) (Wt.none rfl) rfl ?_
            rintro _ _ ⟨y, rfl, hy, hA_⟩
            replace hA_ := hA_.symm; subst hA_
            refine RunL.nilD' ?_
            refine RunD.two (i := 3) (j := 16) (by kernel_rfl) rfl rfl ?_ ?_
            · skip
              refine RunL.lit (vals := [_]) (vs := ([sg] : List UInt8).map bv) und29 sz5 zz5 rfl rfl rfl rfl rfl rfl (by simp [Value.cells, bv]) rfl (Wt.none rfl) rfl ?_; intro b15
              refine RunL.nilD' ?_
              refine RunD.lend (Q := Sl 5 1 (some ⟨b15, 0, none⟩) 1 1 (([sg] : List UInt8).map bv)) Lends.Sl (by first | ((repeat (first | (with_reducible exact Find.here _) | apply Find.there)); done) | (repeat (first | exact Find.here _ | apply Find.there))) ?_; intro gb15 hlegb15 hb15 backgb15
              try (replace hb25 := hb25.mono hlegb15)
              have g1_gb15 := g1_gb25.mono hlegb15
              have g2_gb15 := g2_gb25.mono hlegb15
              refine RunD.bytesStr (i := 4) hok548 rfl (by kernel_rfl) rfl und29 und5 und9 (hb15.1) (Wt.none rfl) rfl ?_
              refine RunD.pure (i := 7) hok548 rfl (by kernel_rfl) (Pure.sadd rfl rfl (by first | omega | (simp only [size_mk, size_app, List.length_append, bl_length, List.length_cons, List.length_nil]; omega) | (simp; omega))) (Wt.none rfl) rfl rfl ?_
              refine RunD.pure (i := 8) hok548 rfl (by kernel_rfl) (Pure.sadd rfl rfl (by first | omega | (simp only [size_mk, size_app, List.length_append, bl_length, List.length_cons, List.length_nil]; omega) | (simp; omega))) (Wt.none rfl) rfl rfl ?_
              refine RunD.pure (i := 11) hok548 rfl (by kernel_rfl) (Pure.sadd rfl rfl (by first | omega | (simp only [size_mk, size_app, List.length_append, bl_length, List.length_cons, List.length_nil]; omega) | (simp; omega))) (Wt.none rfl) rfl rfl ?_
              refine RunD.one (i := 16) (by kernel_rfl) rfl ?_
              · skip
                refine RunL.call rfl rfl (by rfl) (by repeat (first | (with_reducible exact Take.nil _) | (apply Take.cons (by first | ((repeat (first | (with_reducible exact Find.here _) | apply Find.there)); done) | (repeat (first | exact Find.here _ | apply Find.there)))))) (made_ctr (odd := ⟨#[]⟩) g1_gb15 g1w g1b (by decide) (by decide) (by decide)) (Wt.none rfl) rfl ?_
                rintro _ _ ⟨x2, rfl, hx2, hA_⟩
                replace hA_ := hA_.symm; subst hA_
                refine RunL.nilD' ?_
                refine RunD.pure (i := 17) hok548 rfl (by kernel_rfl) (Pure.sadd rfl rfl (by first | omega | (simp only [size_mk, size_app, List.length_append, bl_length, List.length_cons, List.length_nil]; omega) | (simp; omega))) (Wt.none rfl) rfl rfl ?_
                refine RunD.one (i := 18) (by kernel_rfl) rfl ?_
                · skip
                  refine RunL.lit (vals := [_, _, _]) (vs := ([(cut s 40), ((⟨[sg].toArray⟩ : ByteArray) ++ x ++ (⟨#[58]⟩ : ByteArray) ++ y), ((⟨[sg].toArray⟩ : ByteArray) ++ x2)] : List ByteArray).map Value.string) und25 sz9 zz9 rfl rfl rfl rfl rfl rfl (by simp [Value.cells, bv]) rfl (Wt.none rfl) rfl ?_; intro b30
                  refine RunL.nilD' ?_
                  refine RunD.pure (i := 19) hok548 rfl (by kernel_rfl) (Pure.assign rfl) (Wt.none rfl) rfl rfl ?_
                  refine RunD.nilB (by kernel_rfl) (fun w sw => backgb25 _ _ (backgb15 _ _ (sw))) ?_
                  refine Run.keep (.cons rfl (.nil) : Keep _ [9] _) ?_
                  exact Run.meetF (F := F) hk (by exact ⟨b30, [(cut s 40), ((⟨[sg].toArray⟩ : ByteArray) ++ x ++ (⟨#[58]⟩ : ByteArray) ++ y), ((⟨[sg].toArray⟩ : ByteArray) ++ x2)], rfl, by intro q hq; simp only [List.mem_cons, List.not_mem_nil, or_false] at hq; rcases hq with rfl | rfl | rfl <;> (first | omega | (simp only [size_app, size_mk, List.length_cons, List.length_nil]; omega) | (have := cut_size s 40; omega)), rfl, rfl⟩) (by repeat (first | (with_reducible exact Fin.done (by repeat (first | (with_reducible exact Rest.here) | apply Rest.there))) | (apply Fin.cons (by first | ((repeat (first | (with_reducible exact Find.here _) | apply Find.there)); done) | (repeat (first | exact Find.here _ | apply Find.there))))))
            · skip
              refine RunL.call rfl rfl (by rfl) (by repeat (first | (with_reducible exact Take.nil _) | (apply Take.cons (by first | ((repeat (first | (with_reducible exact Find.here _) | apply Find.there)); done) | (repeat (first | exact Find.here _ | apply Find.there)))))) (made_ctr (odd := ⟨#[]⟩) g1_gb25 g1w g1b (by decide) (by decide) (by decide)) (Wt.none rfl) rfl ?_
              rintro _ _ ⟨x2, rfl, hx2, hA_⟩
              replace hA_ := hA_.symm; subst hA_
              refine RunL.nilD' ?_
              refine RunD.pure (i := 17) hok548 rfl (by kernel_rfl) (Pure.sadd rfl rfl (by first | omega | (simp only [size_mk, size_app, List.length_append, bl_length, List.length_cons, List.length_nil]; omega) | (simp; omega))) (Wt.none rfl) rfl rfl ?_
              refine RunD.one (i := 3) (by kernel_rfl) rfl ?_
              · skip
                refine RunL.lit (vals := [_]) (vs := ([sg] : List UInt8).map bv) und29 sz5 zz5 rfl rfl rfl rfl rfl rfl (by simp [Value.cells, bv]) rfl (Wt.none rfl) rfl ?_; intro b15
                refine RunL.nilD' ?_
                refine RunD.lend (Q := Sl 5 1 (some ⟨b15, 0, none⟩) 1 1 (([sg] : List UInt8).map bv)) Lends.Sl (by first | ((repeat (first | (with_reducible exact Find.here _) | apply Find.there)); done) | (repeat (first | exact Find.here _ | apply Find.there))) ?_; intro gb15 hlegb15 hb15 backgb15
                try (replace hb25 := hb25.mono hlegb15)
                have g1_gb15 := g1_gb25.mono hlegb15
                have g2_gb15 := g2_gb25.mono hlegb15
                refine RunD.bytesStr (i := 4) hok548 rfl (by kernel_rfl) rfl und29 und5 und9 (hb15.1) (Wt.none rfl) rfl ?_
                refine RunD.pure (i := 7) hok548 rfl (by kernel_rfl) (Pure.sadd rfl rfl (by first | omega | (simp only [size_mk, size_app, List.length_append, bl_length, List.length_cons, List.length_nil]; omega) | (simp; omega))) (Wt.none rfl) rfl rfl ?_
                refine RunD.pure (i := 8) hok548 rfl (by kernel_rfl) (Pure.sadd rfl rfl (by first | omega | (simp only [size_mk, size_app, List.length_append, bl_length, List.length_cons, List.length_nil]; omega) | (simp; omega))) (Wt.none rfl) rfl rfl ?_
                refine RunD.pure (i := 11) hok548 rfl (by kernel_rfl) (Pure.sadd rfl rfl (by first | omega | (simp only [size_mk, size_app, List.length_append, bl_length, List.length_cons, List.length_nil]; omega) | (simp; omega))) (Wt.none rfl) rfl rfl ?_
                refine RunD.one (i := 18) (by kernel_rfl) rfl ?_
                · skip
                  refine RunL.lit (vals := [_, _, _]) (vs := ([(cut s 40), ((⟨[sg].toArray⟩ : ByteArray) ++ x ++ (⟨#[58]⟩ : ByteArray) ++ y), ((⟨[sg].toArray⟩ : ByteArray) ++ x2)] : List ByteArray).map Value.string) und25 sz9 zz9 rfl rfl rfl rfl rfl rfl (by simp [Value.cells, bv]) rfl (Wt.none rfl) rfl ?_; intro b30
                  refine RunL.nilD' ?_
                  refine RunD.pure (i := 19) hok548 rfl (by kernel_rfl) (Pure.assign rfl) (Wt.none rfl) rfl rfl ?_
                  refine RunD.nilB (by kernel_rfl) (fun w sw => backgb25 _ _ (backgb15 _ _ (sw))) ?_
                  refine Run.keep (.cons rfl (.nil) : Keep _ [9] _) ?_
                  exact Run.meetF (F := F) hk (by exact ⟨b30, [(cut s 40), ((⟨[sg].toArray⟩ : ByteArray) ++ x ++ (⟨#[58]⟩ : ByteArray) ++ y), ((⟨[sg].toArray⟩ : ByteArray) ++ x2)], rfl, by intro q hq; simp only [List.mem_cons, List.not_mem_nil, or_false] at hq; rcases hq with rfl | rfl | rfl <;> (first | omega | (simp only [size_app, size_mk, List.length_cons, List.length_nil]; omega) | (have := cut_size s 40; omega)), rfl, rfl⟩) (by repeat (first | (with_reducible exact Fin.done (by repeat (first | (with_reducible exact Rest.here) | apply Rest.there))) | (apply Fin.cons (by first | ((repeat (first | (with_reducible exact Find.here _) | apply Find.there)); done) | (repeat (first | exact Find.here _ | apply Find.there))))))
      · skip
        refine RunL.lit (vals := [_]) (vs := ([sg] : List UInt8).map bv) und29 sz5 zz5 rfl rfl rfl rfl rfl rfl (by simp [Value.cells, bv]) rfl (Wt.none rfl) rfl ?_; intro b25
        refine RunL.nilD' ?_
        refine RunD.lend (Q := Sl 5 1 (some ⟨b25, 0, none⟩) 1 1 (([sg] : List UInt8).map bv)) Lends.Sl (by first | ((repeat (first | (with_reducible exact Find.here _) | apply Find.there)); done) | (repeat (first | exact Find.here _ | apply Find.there))) ?_; intro gb25 hlegb25 hb25 backgb25
        have g1_gb25 := g1.mono hlegb25
        have g2_gb25 := g2.mono hlegb25
        refine RunD.bytesStr (i := 14) hok548 rfl (by kernel_rfl) rfl und29 und5 und9 (hb25.1) (Wt.none rfl) rfl ?_
        refine RunD.two (i := 3) (j := 6) (by kernel_rfl) rfl rfl ?_ ?_
        · skip
          refine RunL.lit (vals := [_]) (vs := ([sg] : List UInt8).map bv) und29 sz5 zz5 rfl rfl rfl rfl rfl rfl (by simp [Value.cells, bv]) rfl (Wt.none rfl) rfl ?_; intro b15
          refine RunL.nilD' ?_
          refine RunD.lend (Q := Sl 5 1 (some ⟨b15, 0, none⟩) 1 1 (([sg] : List UInt8).map bv)) Lends.Sl (by first | ((repeat (first | (with_reducible exact Find.here _) | apply Find.there)); done) | (repeat (first | exact Find.here _ | apply Find.there))) ?_; intro gb15 hlegb15 hb15 backgb15
          try (replace hb25 := hb25.mono hlegb15)
          have g1_gb15 := g1_gb25.mono hlegb15
          have g2_gb15 := g2_gb25.mono hlegb15
          refine RunD.bytesStr (i := 4) hok548 rfl (by kernel_rfl) rfl und29 und5 und9 (hb15.1) (Wt.none rfl) rfl ?_
          refine RunD.one (i := 6) (by kernel_rfl) rfl ?_
          · skip
            refine RunL.call rfl rfl (by rfl) (by repeat (first | (with_reducible exact Take.nil _) | (apply Take.cons (by first | ((repeat (first | (with_reducible exact Find.here _) | apply Find.there)); done) | (repeat (first | exact Find.here _ | apply Find.there)))))) (made_ctr (odd := ⟨#[]⟩) g1_gb15 g1w g1b (by decide) (by decide) (by decide)) (Wt.none rfl) rfl ?_
            rintro _ _ ⟨x, rfl, hx, hA_⟩
            replace hA_ := hA_.symm; subst hA_
            refine RunL.nilD' ?_
            refine RunD.pure (i := 7) hok548 rfl (by kernel_rfl) (Pure.sadd rfl rfl (by first | omega | (simp only [size_mk, size_app, List.length_append, bl_length, List.length_cons, List.length_nil]; omega) | (simp; omega))) (Wt.none rfl) rfl rfl ?_
            refine RunD.pure (i := 8) hok548 rfl (by kernel_rfl) (Pure.sadd rfl rfl (by first | omega | (simp only [size_mk, size_app, List.length_append, bl_length, List.length_cons, List.length_nil]; omega) | (simp; omega))) (Wt.none rfl) rfl rfl ?_
            refine RunD.one (i := 10) (by kernel_rfl) rfl ?_
            · skip
              refine RunL.call rfl rfl (by rfl) (by repeat (first | (with_reducible exact Take.nil _) | (apply Take.cons (by first | ((repeat (first | (with_reducible exact Find.here _) | apply Find.there)); done) | (repeat (first | exact Find.here _ | apply Find.there)))))) (made_ctr (odd := ⟨#[]⟩) g2_gb15 g2w g2b (by decide) (by decide) (by decide)) (Wt.none rfl) rfl ?_
              rintro _ _ ⟨y, rfl, hy, hA_⟩
              replace hA_ := hA_.symm; subst hA_
              refine RunL.nilD' ?_
              refine RunD.pure (i := 11) hok548 rfl (by kernel_rfl) (Pure.sadd rfl rfl (by first | omega | (simp only [size_mk, size_app, List.length_append, bl_length, List.length_cons, List.length_nil]; omega) | (simp; omega))) (Wt.none rfl) rfl rfl ?_
              refine RunD.one (i := 16) (by kernel_rfl) rfl ?_
              · skip
                refine RunL.call rfl rfl (by rfl) (by repeat (first | (with_reducible exact Take.nil _) | (apply Take.cons (by first | ((repeat (first | (with_reducible exact Find.here _) | apply Find.there)); done) | (repeat (first | exact Find.here _ | apply Find.there)))))) (made_ctr (odd := ⟨#[]⟩) g1_gb15 g1w g1b (by decide) (by decide) (by decide)) (Wt.none rfl) rfl ?_
                rintro _ _ ⟨x2, rfl, hx2, hA_⟩
                replace hA_ := hA_.symm; subst hA_
                refine RunL.nilD' ?_
                refine RunD.pure (i := 17) hok548 rfl (by kernel_rfl) (Pure.sadd rfl rfl (by first | omega | (simp only [size_mk, size_app, List.length_append, bl_length, List.length_cons, List.length_nil]; omega) | (simp; omega))) (Wt.none rfl) rfl rfl ?_
                refine RunD.one (i := 18) (by kernel_rfl) rfl ?_
                · skip
                  refine RunL.lit (vals := [_, _, _]) (vs := ([(cut s 40), ((⟨[sg].toArray⟩ : ByteArray) ++ x ++ (⟨#[58]⟩ : ByteArray) ++ y), ((⟨[sg].toArray⟩ : ByteArray) ++ x2)] : List ByteArray).map Value.string) und25 sz9 zz9 rfl rfl rfl rfl rfl rfl (by simp [Value.cells, bv]) rfl (Wt.none rfl) rfl ?_; intro b30
                  refine RunL.nilD' ?_
                  refine RunD.pure (i := 19) hok548 rfl (by kernel_rfl) (Pure.assign rfl) (Wt.none rfl) rfl rfl ?_
                  refine RunD.nilB (by kernel_rfl) (fun w sw => backgb25 _ _ (backgb15 _ _ (sw))) ?_
                  refine Run.keep (.cons rfl (.nil) : Keep _ [9] _) ?_
                  exact Run.meetF (F := F) hk (by exact ⟨b30, [(cut s 40), ((⟨[sg].toArray⟩ : ByteArray) ++ x ++ (⟨#[58]⟩ : ByteArray) ++ y), ((⟨[sg].toArray⟩ : ByteArray) ++ x2)], rfl, by intro q hq; simp only [List.mem_cons, List.not_mem_nil, or_false] at hq; rcases hq with rfl | rfl | rfl <;> (first | omega | (simp only [size_app, size_mk, List.length_cons, List.length_nil]; omega) | (have := cut_size s 40; omega)), rfl, rfl⟩) (by repeat (first | (with_reducible exact Fin.done (by repeat (first | (with_reducible exact Rest.here) | apply Rest.there))) | (apply Fin.cons (by first | ((repeat (first | (with_reducible exact Find.here _) | apply Find.there)); done) | (repeat (first | exact Find.here _ | apply Find.there))))))
        · skip
          refine RunL.call rfl rfl (by rfl) (by repeat (first | (with_reducible exact Take.nil _) | (apply Take.cons (by first | ((repeat (first | (with_reducible exact Find.here _) | apply Find.there)); done) | (repeat (first | exact Find.here _ | apply Find.there)))))) (made_ctr (odd := ⟨#[]⟩) g1_gb25 g1w g1b (by decide) (by decide) (by decide)) (Wt.none rfl) rfl ?_
          rintro _ _ ⟨x, rfl, hx, hA_⟩
          replace hA_ := hA_.symm; subst hA_
          refine RunL.nilD' ?_
          refine RunD.two (i := 3) (j := 10) (by kernel_rfl) rfl rfl ?_ ?_
          · skip
            refine RunL.lit (vals := [_]) (vs := ([sg] : List UInt8).map bv) und29 sz5 zz5 rfl rfl rfl rfl rfl rfl (by simp [Value.cells, bv]) rfl (Wt.none rfl) rfl ?_; intro b15
            refine RunL.nilD' ?_
            refine RunD.lend (Q := Sl 5 1 (some ⟨b15, 0, none⟩) 1 1 (([sg] : List UInt8).map bv)) Lends.Sl (by first | ((repeat (first | (with_reducible exact Find.here _) | apply Find.there)); done) | (repeat (first | exact Find.here _ | apply Find.there))) ?_; intro gb15 hlegb15 hb15 backgb15
            try (replace hb25 := hb25.mono hlegb15)
            have g1_gb15 := g1_gb25.mono hlegb15
            have g2_gb15 := g2_gb25.mono hlegb15
            refine RunD.bytesStr (i := 4) hok548 rfl (by kernel_rfl) rfl und29 und5 und9 (hb15.1) (Wt.none rfl) rfl ?_
            refine RunD.pure (i := 7) hok548 rfl (by kernel_rfl) (Pure.sadd rfl rfl (by first | omega | (simp only [size_mk, size_app, List.length_append, bl_length, List.length_cons, List.length_nil]; omega) | (simp; omega))) (Wt.none rfl) rfl rfl ?_
            refine RunD.pure (i := 8) hok548 rfl (by kernel_rfl) (Pure.sadd rfl rfl (by first | omega | (simp only [size_mk, size_app, List.length_append, bl_length, List.length_cons, List.length_nil]; omega) | (simp; omega))) (Wt.none rfl) rfl rfl ?_
            refine RunD.one (i := 10) (by kernel_rfl) rfl ?_
            · skip
              refine RunL.call rfl rfl (by rfl) (by repeat (first | (with_reducible exact Take.nil _) | (apply Take.cons (by first | ((repeat (first | (with_reducible exact Find.here _) | apply Find.there)); done) | (repeat (first | exact Find.here _ | apply Find.there)))))) (made_ctr (odd := ⟨#[]⟩) g2_gb15 g2w g2b (by decide) (by decide) (by decide)) (Wt.none rfl) rfl ?_
              rintro _ _ ⟨y, rfl, hy, hA_⟩
              replace hA_ := hA_.symm; subst hA_
              refine RunL.nilD' ?_
              refine RunD.pure (i := 11) hok548 rfl (by kernel_rfl) (Pure.sadd rfl rfl (by first | omega | (simp only [size_mk, size_app, List.length_append, bl_length, List.length_cons, List.length_nil]; omega) | (simp; omega))) (Wt.none rfl) rfl rfl ?_
              refine RunD.one (i := 16) (by kernel_rfl) rfl ?_
              · skip
                refine RunL.call rfl rfl (by rfl) (by repeat (first | (with_reducible exact Take.nil _) | (apply Take.cons (by first | ((repeat (first | (with_reducible exact Find.here _) | apply Find.there)); done) | (repeat (first | exact Find.here _ | apply Find.there)))))) (made_ctr (odd := ⟨#[]⟩) g1_gb15 g1w g1b (by decide) (by decide) (by decide)) (Wt.none rfl) rfl ?_
                rintro _ _ ⟨x2, rfl, hx2, hA_⟩
                replace hA_ := hA_.symm; subst hA_
                refine RunL.nilD' ?_
                refine RunD.pure (i := 17) hok548 rfl (by kernel_rfl) (Pure.sadd rfl rfl (by first | omega | (simp only [size_mk, size_app, List.length_append, bl_length, List.length_cons, List.length_nil]; omega) | (simp; omega))) (Wt.none rfl) rfl rfl ?_
                refine RunD.one (i := 18) (by kernel_rfl) rfl ?_
                · skip
                  refine RunL.lit (vals := [_, _, _]) (vs := ([(cut s 40), ((⟨[sg].toArray⟩ : ByteArray) ++ x ++ (⟨#[58]⟩ : ByteArray) ++ y), ((⟨[sg].toArray⟩ : ByteArray) ++ x2)] : List ByteArray).map Value.string) und25 sz9 zz9 rfl rfl rfl rfl rfl rfl (by simp [Value.cells, bv]) rfl (Wt.none rfl) rfl ?_; intro b30
                  refine RunL.nilD' ?_
                  refine RunD.pure (i := 19) hok548 rfl (by kernel_rfl) (Pure.assign rfl) (Wt.none rfl) rfl rfl ?_
                  refine RunD.nilB (by kernel_rfl) (fun w sw => backgb25 _ _ (backgb15 _ _ (sw))) ?_
                  refine Run.keep (.cons rfl (.nil) : Keep _ [9] _) ?_
                  exact Run.meetF (F := F) hk (by exact ⟨b30, [(cut s 40), ((⟨[sg].toArray⟩ : ByteArray) ++ x ++ (⟨#[58]⟩ : ByteArray) ++ y), ((⟨[sg].toArray⟩ : ByteArray) ++ x2)], rfl, by intro q hq; simp only [List.mem_cons, List.not_mem_nil, or_false] at hq; rcases hq with rfl | rfl | rfl <;> (first | omega | (simp only [size_app, size_mk, List.length_cons, List.length_nil]; omega) | (have := cut_size s 40; omega)), rfl, rfl⟩) (by repeat (first | (with_reducible exact Fin.done (by repeat (first | (with_reducible exact Rest.here) | apply Rest.there))) | (apply Fin.cons (by first | ((repeat (first | (with_reducible exact Find.here _) | apply Find.there)); done) | (repeat (first | exact Find.here _ | apply Find.there))))))
          · skip
            refine RunL.call rfl rfl (by rfl) (by repeat (first | (with_reducible exact Take.nil _) | (apply Take.cons (by first | ((repeat (first | (with_reducible exact Find.here _) | apply Find.there)); done) | (repeat (first | exact Find.here _ | apply Find.there)))))) (made_ctr (odd := ⟨#[]⟩) g2_gb25 g2w g2b (by decide) (by decide) (by decide)) (Wt.none rfl) rfl ?_
            rintro _ _ ⟨y, rfl, hy, hA_⟩
            replace hA_ := hA_.symm; subst hA_
            refine RunL.nilD' ?_
            refine RunD.two (i := 3) (j := 16) (by kernel_rfl) rfl rfl ?_ ?_
            · skip
              refine RunL.lit (vals := [_]) (vs := ([sg] : List UInt8).map bv) und29 sz5 zz5 rfl rfl rfl rfl rfl rfl (by simp [Value.cells, bv]) rfl (Wt.none rfl) rfl ?_; intro b15
              refine RunL.nilD' ?_
              refine RunD.lend (Q := Sl 5 1 (some ⟨b15, 0, none⟩) 1 1 (([sg] : List UInt8).map bv)) Lends.Sl (by first | ((repeat (first | (with_reducible exact Find.here _) | apply Find.there)); done) | (repeat (first | exact Find.here _ | apply Find.there))) ?_; intro gb15 hlegb15 hb15 backgb15
              try (replace hb25 := hb25.mono hlegb15)
              have g1_gb15 := g1_gb25.mono hlegb15
              have g2_gb15 := g2_gb25.mono hlegb15
              refine RunD.bytesStr (i := 4) hok548 rfl (by kernel_rfl) rfl und29 und5 und9 (hb15.1) (Wt.none rfl) rfl ?_
              refine RunD.pure (i := 7) hok548 rfl (by kernel_rfl) (Pure.sadd rfl rfl (by first | omega | (simp only [size_mk, size_app, List.length_append, bl_length, List.length_cons, List.length_nil]; omega) | (simp; omega))) (Wt.none rfl) rfl rfl ?_
              refine RunD.pure (i := 8) hok548 rfl (by kernel_rfl) (Pure.sadd rfl rfl (by first | omega | (simp only [size_mk, size_app, List.length_append, bl_length, List.length_cons, List.length_nil]; omega) | (simp; omega))) (Wt.none rfl) rfl rfl ?_
              refine RunD.pure (i := 11) hok548 rfl (by kernel_rfl) (Pure.sadd rfl rfl (by first | omega | (simp only [size_mk, size_app, List.length_append, bl_length, List.length_cons, List.length_nil]; omega) | (simp; omega))) (Wt.none rfl) rfl rfl ?_
              refine RunD.one (i := 16) (by kernel_rfl) rfl ?_
              · skip
                refine RunL.call rfl rfl (by rfl) (by repeat (first | (with_reducible exact Take.nil _) | (apply Take.cons (by first | ((repeat (first | (with_reducible exact Find.here _) | apply Find.there)); done) | (repeat (first | exact Find.here _ | apply Find.there)))))) (made_ctr (odd := ⟨#[]⟩) g1_gb15 g1w g1b (by decide) (by decide) (by decide)) (Wt.none rfl) rfl ?_
                rintro _ _ ⟨x2, rfl, hx2, hA_⟩
                replace hA_ := hA_.symm; subst hA_
                refine RunL.nilD' ?_
                refine RunD.pure (i := 17) hok548 rfl (by kernel_rfl) (Pure.sadd rfl rfl (by first | omega | (simp only [size_mk, size_app, List.length_append, bl_length, List.length_cons, List.length_nil]; omega) | (simp; omega))) (Wt.none rfl) rfl rfl ?_
                refine RunD.one (i := 18) (by kernel_rfl) rfl ?_
                · skip
                  refine RunL.lit (vals := [_, _, _]) (vs := ([(cut s 40), ((⟨[sg].toArray⟩ : ByteArray) ++ x ++ (⟨#[58]⟩ : ByteArray) ++ y), ((⟨[sg].toArray⟩ : ByteArray) ++ x2)] : List ByteArray).map Value.string) und25 sz9 zz9 rfl rfl rfl rfl rfl rfl (by simp [Value.cells, bv]) rfl (Wt.none rfl) rfl ?_; intro b30
                  refine RunL.nilD' ?_
                  refine RunD.pure (i := 19) hok548 rfl (by kernel_rfl) (Pure.assign rfl) (Wt.none rfl) rfl rfl ?_
                  refine RunD.nilB (by kernel_rfl) (fun w sw => backgb25 _ _ (backgb15 _ _ (sw))) ?_
                  refine Run.keep (.cons rfl (.nil) : Keep _ [9] _) ?_
                  exact Run.meetF (F := F) hk (by exact ⟨b30, [(cut s 40), ((⟨[sg].toArray⟩ : ByteArray) ++ x ++ (⟨#[58]⟩ : ByteArray) ++ y), ((⟨[sg].toArray⟩ : ByteArray) ++ x2)], rfl, by intro q hq; simp only [List.mem_cons, List.not_mem_nil, or_false] at hq; rcases hq with rfl | rfl | rfl <;> (first | omega | (simp only [size_app, size_mk, List.length_cons, List.length_nil]; omega) | (have := cut_size s 40; omega)), rfl, rfl⟩) (by repeat (first | (with_reducible exact Fin.done (by repeat (first | (with_reducible exact Rest.here) | apply Rest.there))) | (apply Fin.cons (by first | ((repeat (first | (with_reducible exact Find.here _) | apply Find.there)); done) | (repeat (first | exact Find.here _ | apply Find.there))))))
            · skip
              refine RunL.call rfl rfl (by rfl) (by repeat (first | (with_reducible exact Take.nil _) | (apply Take.cons (by first | ((repeat (first | (with_reducible exact Find.here _) | apply Find.there)); done) | (repeat (first | exact Find.here _ | apply Find.there)))))) (made_ctr (odd := ⟨#[]⟩) g1_gb25 g1w g1b (by decide) (by decide) (by decide)) (Wt.none rfl) rfl ?_
              rintro _ _ ⟨x2, rfl, hx2, hA_⟩
              replace hA_ := hA_.symm; subst hA_
              refine RunL.nilD' ?_
              refine RunD.pure (i := 17) hok548 rfl (by kernel_rfl) (Pure.sadd rfl rfl (by first | omega | (simp only [size_mk, size_app, List.length_append, bl_length, List.length_cons, List.length_nil]; omega) | (simp; omega))) (Wt.none rfl) rfl rfl ?_
              refine RunD.one (i := 3) (by kernel_rfl) rfl ?_
              · skip
                refine RunL.lit (vals := [_]) (vs := ([sg] : List UInt8).map bv) und29 sz5 zz5 rfl rfl rfl rfl rfl rfl (by simp [Value.cells, bv]) rfl (Wt.none rfl) rfl ?_; intro b15
                refine RunL.nilD' ?_
                refine RunD.lend (Q := Sl 5 1 (some ⟨b15, 0, none⟩) 1 1 (([sg] : List UInt8).map bv)) Lends.Sl (by first | ((repeat (first | (with_reducible exact Find.here _) | apply Find.there)); done) | (repeat (first | exact Find.here _ | apply Find.there))) ?_; intro gb15 hlegb15 hb15 backgb15
                try (replace hb25 := hb25.mono hlegb15)
                have g1_gb15 := g1_gb25.mono hlegb15
                have g2_gb15 := g2_gb25.mono hlegb15
                refine RunD.bytesStr (i := 4) hok548 rfl (by kernel_rfl) rfl und29 und5 und9 (hb15.1) (Wt.none rfl) rfl ?_
                refine RunD.pure (i := 7) hok548 rfl (by kernel_rfl) (Pure.sadd rfl rfl (by first | omega | (simp only [size_mk, size_app, List.length_append, bl_length, List.length_cons, List.length_nil]; omega) | (simp; omega))) (Wt.none rfl) rfl rfl ?_
                refine RunD.pure (i := 8) hok548 rfl (by kernel_rfl) (Pure.sadd rfl rfl (by first | omega | (simp only [size_mk, size_app, List.length_append, bl_length, List.length_cons, List.length_nil]; omega) | (simp; omega))) (Wt.none rfl) rfl rfl ?_
                refine RunD.pure (i := 11) hok548 rfl (by kernel_rfl) (Pure.sadd rfl rfl (by first | omega | (simp only [size_mk, size_app, List.length_append, bl_length, List.length_cons, List.length_nil]; omega) | (simp; omega))) (Wt.none rfl) rfl rfl ?_
                refine RunD.one (i := 18) (by kernel_rfl) rfl ?_
                · skip
                  refine RunL.lit (vals := [_, _, _]) (vs := ([(cut s 40), ((⟨[sg].toArray⟩ : ByteArray) ++ x ++ (⟨#[58]⟩ : ByteArray) ++ y), ((⟨[sg].toArray⟩ : ByteArray) ++ x2)] : List ByteArray).map Value.string) und25 sz9 zz9 rfl rfl rfl rfl rfl rfl (by simp [Value.cells, bv]) rfl (Wt.none rfl) rfl ?_; intro b30
                  refine RunL.nilD' ?_
                  refine RunD.pure (i := 19) hok548 rfl (by kernel_rfl) (Pure.assign rfl) (Wt.none rfl) rfl rfl ?_
                  refine RunD.nilB (by kernel_rfl) (fun w sw => backgb25 _ _ (backgb15 _ _ (sw))) ?_
                  refine Run.keep (.cons rfl (.nil) : Keep _ [9] _) ?_
                  exact Run.meetF (F := F) hk (by exact ⟨b30, [(cut s 40), ((⟨[sg].toArray⟩ : ByteArray) ++ x ++ (⟨#[58]⟩ : ByteArray) ++ y), ((⟨[sg].toArray⟩ : ByteArray) ++ x2)], rfl, by intro q hq; simp only [List.mem_cons, List.not_mem_nil, or_false] at hq; rcases hq with rfl | rfl | rfl <;> (first | omega | (simp only [size_app, size_mk, List.length_cons, List.length_nil]; omega) | (have := cut_size s 40; omega)), rfl, rfl⟩) (by repeat (first | (with_reducible exact Fin.done (by repeat (first | (with_reducible exact Rest.here) | apply Rest.there))) | (apply Fin.cons (by first | ((repeat (first | (with_reducible exact Find.here _) | apply Find.there)); done) | (repeat (first | exact Find.here _ | apply Find.there))))))
    · skip
      refine RunL.lit (vals := [_]) (vs := ([sg] : List UInt8).map bv) und29 sz5 zz5 rfl rfl rfl rfl rfl rfl (by simp [Value.cells, bv]) rfl (Wt.none rfl) rfl ?_; intro b15
      refine RunL.nilD' ?_
      refine RunD.lend (Q := Sl 5 1 (some ⟨b15, 0, none⟩) 1 1 (([sg] : List UInt8).map bv)) Lends.Sl (by first | ((repeat (first | (with_reducible exact Find.here _) | apply Find.there)); done) | (repeat (first | exact Find.here _ | apply Find.there))) ?_; intro gb15 hlegb15 hb15 backgb15
      have g1_gb15 := g1.mono hlegb15
      have g2_gb15 := g2.mono hlegb15
      refine RunD.bytesStr (i := 4) hok548 rfl (by kernel_rfl) rfl und29 und5 und9 (hb15.1) (Wt.none rfl) rfl ?_
      refine RunD.two (i := 1) (j := 13) (by kernel_rfl) rfl rfl ?_ ?_
      · skip
        refine RunL.call rfl rfl (by rfl) (by repeat (first | (with_reducible exact Take.nil _) | (apply Take.cons (by first | ((repeat (first | (with_reducible exact Find.here _) | apply Find.there)); done) | (repeat (first | exact Find.here _ | apply Find.there)))))) (FewC_ctr (m := 40) (by decide) (by decide)) (Wt.none rfl) rfl ?_
        rintro _ _ ⟨rfl, hA_⟩
        replace hA_ := hA_.symm; subst hA_
        refine RunL.nilD' ?_
        refine RunD.two (i := 6) (j := 13) (by kernel_rfl) rfl rfl ?_ ?_
        · skip
          refine RunL.call rfl rfl (by rfl) (by repeat (first | (with_reducible exact Take.nil _) | (apply Take.cons (by first | ((repeat (first | (with_reducible exact Find.here _) | apply Find.there)); done) | (repeat (first | exact Find.here _ | apply Find.there)))))) (made_ctr (odd := ⟨#[]⟩) g1_gb15 g1w g1b (by decide) (by decide) (by decide)) (Wt.none rfl) rfl ?_
          rintro _ _ ⟨x, rfl, hx, hA_⟩
          replace hA_ := hA_.symm; subst hA_
          refine RunL.nilD' ?_
          refine RunD.pure (i := 7) hok548 rfl (by kernel_rfl) (Pure.sadd rfl rfl (by first | omega | (simp only [size_mk, size_app, List.length_append, bl_length, List.length_cons, List.length_nil]; omega) | (simp; omega))) (Wt.none rfl) rfl rfl ?_
          refine RunD.pure (i := 8) hok548 rfl (by kernel_rfl) (Pure.sadd rfl rfl (by first | omega | (simp only [size_mk, size_app, List.length_append, bl_length, List.length_cons, List.length_nil]; omega) | (simp; omega))) (Wt.none rfl) rfl rfl ?_
          refine RunD.two (i := 10) (j := 13) (by kernel_rfl) rfl rfl ?_ ?_
          · skip
            refine RunL.call rfl rfl (by rfl) (by repeat (first | (with_reducible exact Take.nil _) | (apply Take.cons (by first | ((repeat (first | (with_reducible exact Find.here _) | apply Find.there)); done) | (repeat (first | exact Find.here _ | apply Find.there)))))) (made_ctr (odd := ⟨#[]⟩) g2_gb15 g2w g2b (by decide) (by decide) (by decide)) (Wt.none rfl) rfl ?_
            rintro _ _ ⟨y, rfl, hy, hA_⟩
            replace hA_ := hA_.symm; subst hA_
            refine RunL.nilD' ?_
            refine RunD.pure (i := 11) hok548 rfl (by kernel_rfl) (Pure.sadd rfl rfl (by first | omega | (simp only [size_mk, size_app, List.length_append, bl_length, List.length_cons, List.length_nil]; omega) | (simp; omega))) (Wt.none rfl) rfl rfl ?_
            refine RunD.two (i := 13) (j := 16) (by kernel_rfl) rfl rfl ?_ ?_
            · skip
              refine RunL.lit (vals := [_]) (vs := ([sg] : List UInt8).map bv) und29 sz5 zz5 rfl rfl rfl rfl rfl rfl (by simp [Value.cells, bv]) rfl (Wt.none rfl) rfl ?_; intro b25
              refine RunL.nilD' ?_
              refine RunD.lend (Q := Sl 5 1 (some ⟨b25, 0, none⟩) 1 1 (([sg] : List UInt8).map bv)) Lends.Sl (by first | ((repeat (first | (with_reducible exact Find.here _) | apply Find.there)); done) | (repeat (first | exact Find.here _ | apply Find.there))) ?_; intro gb25 hlegb25 hb25 backgb25
              try (replace hb15 := hb15.mono hlegb25)
              have g1_gb25 := g1_gb15.mono hlegb25
              have g2_gb25 := g2_gb15.mono hlegb25
              refine RunD.bytesStr (i := 14) hok548 rfl (by kernel_rfl) rfl und29 und5 und9 (hb25.1) (Wt.none rfl) rfl ?_
              refine RunD.one (i := 16) (by kernel_rfl) rfl ?_
              · skip
                refine RunL.call rfl rfl (by rfl) (by repeat (first | (with_reducible exact Take.nil _) | (apply Take.cons (by first | ((repeat (first | (with_reducible exact Find.here _) | apply Find.there)); done) | (repeat (first | exact Find.here _ | apply Find.there)))))) (made_ctr (odd := ⟨#[]⟩) g1_gb25 g1w g1b (by decide) (by decide) (by decide)) (Wt.none rfl) rfl ?_
                rintro _ _ ⟨x2, rfl, hx2, hA_⟩
                replace hA_ := hA_.symm; subst hA_
                refine RunL.nilD' ?_
                refine RunD.pure (i := 17) hok548 rfl (by kernel_rfl) (Pure.sadd rfl rfl (by first | omega | (simp only [size_mk, size_app, List.length_append, bl_length, List.length_cons, List.length_nil]; omega) | (simp; omega))) (Wt.none rfl) rfl rfl ?_
                refine RunD.one (i := 18) (by kernel_rfl) rfl ?_
                · skip
                  refine RunL.lit (vals := [_, _, _]) (vs := ([(cut s 40), ((⟨[sg].toArray⟩ : ByteArray) ++ x ++ (⟨#[58]⟩ : ByteArray) ++ y), ((⟨[sg].toArray⟩ : ByteArray) ++ x2)] : List ByteArray).map Value.string) und25 sz9 zz9 rfl rfl rfl rfl rfl rfl (by simp [Value.cells, bv]) rfl (Wt.none rfl) rfl ?_; intro b30
                  refine RunL.nilD' ?_
                  refine RunD.pure (i := 19) hok548 rfl (by kernel_rfl) (Pure.assign rfl) (Wt.none rfl) rfl rfl ?_
                  refine RunD.nilB (by kernel_rfl) (fun w sw => backgb15 _ _ (backgb25 _ _ (sw))) ?_
                  refine Run.keep (.cons rfl (.nil) : Keep _ [9] _) ?_
                  exact Run.meetF (F := F) hk (by exact ⟨b30, [(cut s 40), ((⟨[sg].toArray⟩ : ByteArray) ++ x ++ (⟨#[58]⟩ : ByteArray) ++ y), ((⟨[sg].toArray⟩ : ByteArray) ++ x2)], rfl, by intro q hq; simp only [List.mem_cons, List.not_mem_nil, or_false] at hq; rcases hq with rfl | rfl | rfl <;> (first | omega | (simp only [size_app, size_mk, List.length_cons, List.length_nil]; omega) | (have := cut_size s 40; omega)), rfl, rfl⟩) (by repeat (first | (with_reducible exact Fin.done (by repeat (first | (with_reducible exact Rest.here) | apply Rest.there))) | (apply Fin.cons (by first | ((repeat (first | (with_reducible exact Find.here _) | apply Find.there)); done) | (repeat (first | exact Find.here _ | apply Find.there))))))
            · skip
              refine RunL.call rfl rfl (by rfl) (by repeat (first | (with_reducible exact Take.nil _) | (apply Take.cons (by first | ((repeat (first | (with_reducible exact Find.here _) | apply Find.there)); done) | (repeat (first | exact Find.here _ | apply Find.there)))))) (made_ctr (odd := ⟨#[]⟩) g1_gb15 g1w g1b (by decide) (by decide) (by decide)) (Wt.none rfl) rfl ?_
              rintro _ _ ⟨x2, rfl, hx2, hA_⟩
              replace hA_ := hA_.symm; subst hA_
              refine RunL.nilD' ?_
              refine RunD.one (i := 13) (by kernel_rfl) rfl ?_
              · skip
                refine RunL.lit (vals := [_]) (vs := ([sg] : List UInt8).map bv) und29 sz5 zz5 rfl rfl rfl rfl rfl rfl (by simp [Value.cells, bv]) rfl (Wt.none rfl) rfl ?_; intro b25
                refine RunL.nilD' ?_
                refine RunD.lend (Q := Sl 5 1 (some ⟨b25, 0, none⟩) 1 1 (([sg] : List UInt8).map bv)) Lends.Sl (by first | ((repeat (first | (with_reducible exact Find.here _) | apply Find.there)); done) | (repeat (first | exact Find.here _ | apply Find.there))) ?_; intro gb25 hlegb25 hb25 backgb25
                try (replace hb15 := hb15.mono hlegb25)
                have g1_gb25 := g1_gb15.mono hlegb25
                have g2_gb25 := g2_gb15.mono hlegb25
                refine RunD.bytesStr (i := 14) hok548 rfl (by kernel_rfl) rfl und29 und5 und9 (hb25.1) (Wt.none rfl) rfl ?_
                refine RunD.pure (i := 17) hok548 rfl (by kernel_rfl) (Pure.sadd rfl rfl (by first | omega | (simp only [size_mk, size_app, List.length_append, bl_length, List.length_cons, List.length_nil]; omega) | (simp; omega))) (Wt.none rfl) rfl rfl ?_
                refine RunD.one (i := 18) (by kernel_rfl) rfl ?_
                · skip
                  refine RunL.lit (vals := [_, _, _]) (vs := ([(cut s 40), ((⟨[sg].toArray⟩ : ByteArray) ++ x ++ (⟨#[58]⟩ : ByteArray) ++ y), ((⟨[sg].toArray⟩ : ByteArray) ++ x2)] : List ByteArray).map Value.string) und25 sz9 zz9 rfl rfl rfl rfl rfl rfl (by simp [Value.cells, bv]) rfl (Wt.none rfl) rfl ?_; intro b30
                  refine RunL.nilD' ?_
                  refine RunD.pure (i := 19) hok548 rfl (by kernel_rfl) (Pure.assign rfl) (Wt.none rfl) rfl rfl ?_
                  refine RunD.nilB (by kernel_rfl) (fun w sw => backgb15 _ _ (backgb25 _ _ (sw))) ?_
                  refine Run.keep (.cons rfl (.nil) : Keep _ [9] _) ?_
                  exact Run.meetF (F := F) hk (by exact ⟨b30, [(cut s 40), ((⟨[sg].toArray⟩ : ByteArray) ++ x ++ (⟨#[58]⟩ : ByteArray) ++ y), ((⟨[sg].toArray⟩ : ByteArray) ++ x2)], rfl, by intro q hq; simp only [List.mem_cons, List.not_mem_nil, or_false] at hq; rcases hq with rfl | rfl | rfl <;> (first | omega | (simp only [size_app, size_mk, List.length_cons, List.length_nil]; omega) | (have := cut_size s 40; omega)), rfl, rfl⟩) (by repeat (first | (with_reducible exact Fin.done (by repeat (first | (with_reducible exact Rest.here) | apply Rest.there))) | (apply Fin.cons (by first | ((repeat (first | (with_reducible exact Find.here _) | apply Find.there)); done) | (repeat (first | exact Find.here _ | apply Find.there))))))
          · skip
            refine RunL.lit (vals := [_]) (vs := ([sg] : List UInt8).map bv) und29 sz5 zz5 rfl rfl rfl rfl rfl rfl (by simp [Value.cells, bv]) rfl (Wt.none rfl) rfl ?_; intro b25
            refine RunL.nilD' ?_
            refine RunD.lend (Q := Sl 5 1 (some ⟨b25, 0, none⟩) 1 1 (([sg] : List UInt8).map bv)) Lends.Sl (by first | ((repeat (first | (with_reducible exact Find.here _) | apply Find.there)); done) | (repeat (first | exact Find.here _ | apply Find.there))) ?_; intro gb25 hlegb25 hb25 backgb25
            try (replace hb15 := hb15.mono hlegb25)
            have g1_gb25 := g1_gb15.mono hlegb25
            have g2_gb25 := g2_gb15.mono hlegb25
            refine RunD.bytesStr (i := 14) hok548 rfl (by kernel_rfl) rfl und29 und5 und9 (hb25.1) (Wt.none rfl) rfl ?_
            refine RunD.one (i := 10) (by kernel_rfl) rfl ?_
            · skip
              refine RunL.call rfl rfl (by rfl) (by repeat (first | (with_reducible exact Take.nil _) | (apply Take.cons (by first | ((repeat (first | (with_reducible exact Find.here _) | apply Find.there)); done) | (repeat (first | exact Find.here _ | apply Find.there)))))) (made_ctr (odd := ⟨#[]⟩) g2_gb25 g2w g2b (by decide) (by decide) (by decide)) (Wt.none rfl) rfl ?_
              rintro _ _ ⟨y, rfl, hy, hA_⟩
              replace hA_ := hA_.symm; subst hA_
              refine RunL.nilD' ?_
              refine RunD.pure (i := 11) hok548 rfl (by kernel_rfl) (Pure.sadd rfl rfl (by first | omega | (simp only [size_mk, size_app, List.length_append, bl_length, List.length_cons, List.length_nil]; omega) | (simp; omega))) (Wt.none rfl) rfl rfl ?_
              refine RunD.one (i := 16) (by kernel_rfl) rfl ?_
              · skip
                refine RunL.call rfl rfl (by rfl) (by repeat (first | (with_reducible exact Take.nil _) | (apply Take.cons (by first | ((repeat (first | (with_reducible exact Find.here _) | apply Find.there)); done) | (repeat (first | exact Find.here _ | apply Find.there)))))) (made_ctr (odd := ⟨#[]⟩) g1_gb25 g1w g1b (by decide) (by decide) (by decide)) (Wt.none rfl) rfl ?_
                rintro _ _ ⟨x2, rfl, hx2, hA_⟩
                replace hA_ := hA_.symm; subst hA_
                refine RunL.nilD' ?_
                refine RunD.pure (i := 17) hok548 rfl (by kernel_rfl) (Pure.sadd rfl rfl (by first | omega | (simp only [size_mk, size_app, List.length_append, bl_length, List.length_cons, List.length_nil]; omega) | (simp; omega))) (Wt.none rfl) rfl rfl ?_
                refine RunD.one (i := 18) (by kernel_rfl) rfl ?_
                · skip
                  refine RunL.lit (vals := [_, _, _]) (vs := ([(cut s 40), ((⟨[sg].toArray⟩ : ByteArray) ++ x ++ (⟨#[58]⟩ : ByteArray) ++ y), ((⟨[sg].toArray⟩ : ByteArray) ++ x2)] : List ByteArray).map Value.string) und25 sz9 zz9 rfl rfl rfl rfl rfl rfl (by simp [Value.cells, bv]) rfl (Wt.none rfl) rfl ?_; intro b30
                  refine RunL.nilD' ?_
                  refine RunD.pure (i := 19) hok548 rfl (by kernel_rfl) (Pure.assign rfl) (Wt.none rfl) rfl rfl ?_
                  refine RunD.nilB (by kernel_rfl) (fun w sw => backgb15 _ _ (backgb25 _ _ (sw))) ?_
                  refine Run.keep (.cons rfl (.nil) : Keep _ [9] _) ?_
                  exact Run.meetF (F := F) hk (by exact ⟨b30, [(cut s 40), ((⟨[sg].toArray⟩ : ByteArray) ++ x ++ (⟨#[58]⟩ : ByteArray) ++ y), ((⟨[sg].toArray⟩ : ByteArray) ++ x2)], rfl, by intro q hq; simp only [List.mem_cons, List.not_mem_nil, or_false] at hq; rcases hq with rfl | rfl | rfl <;> (first | omega | (simp only [size_app, size_mk, List.length_cons, List.length_nil]; omega) | (have := cut_size s 40; omega)), rfl, rfl⟩) (by repeat (first | (with_reducible exact Fin.done (by repeat (first | (with_reducible exact Rest.here) | apply Rest.there))) | (apply Fin.cons (by first | ((repeat (first | (with_reducible exact Find.here _) | apply Find.there)); done) | (repeat (first | exact Find.here _ | apply Find.there))))))
        · skip
          refine RunL.lit (vals := [_]) (vs := ([sg] : List UInt8).map bv) und29 sz5 zz5 rfl rfl rfl rfl rfl rfl (by simp [Value.cells, bv]) rfl (Wt.none rfl) rfl ?_; intro b25
          refine RunL.nilD' ?_
          refine RunD.lend (Q := Sl 5 1 (some ⟨b25, 0, none⟩) 1 1 (([sg] : List UInt8).map bv)) Lends.Sl (by first | ((repeat (first | (with_reducible exact Find.here _) | apply Find.there)); done) | (repeat (first | exact Find.here _ | apply Find.there))) ?_; intro gb25 hlegb25 hb25 backgb25
          try (replace hb15 := hb15.mono hlegb25)
          have g1_gb25 := g1_gb15.mono hlegb25
          have g2_gb25 := g2_gb15.mono hlegb25
          refine RunD.bytesStr (i := 14) hok548 rfl (by kernel_rfl) rfl und29 und5 und9 (hb25.1) (Wt.none rfl) rfl ?_
          refine RunD.one (i := 6) (by kernel_rfl) rfl ?_
          · skip
            refine RunL.call rfl rfl (by rfl) (by repeat (first | (with_reducible exact Take.nil _) | (apply Take.cons (by first | ((repeat (first | (with_reducible exact Find.here _) | apply Find.there)); done) | (repeat (first | exact Find.here _ | apply Find.there)))))) (made_ctr (odd := ⟨#[]⟩) g1_gb25 g1w g1b (by decide) (by decide) (by decide)) (Wt.none rfl) rfl ?_
            rintro _ _ ⟨x, rfl, hx, hA_⟩
            replace hA_ := hA_.symm; subst hA_
            refine RunL.nilD' ?_
            refine RunD.pure (i := 7) hok548 rfl (by kernel_rfl) (Pure.sadd rfl rfl (by first | omega | (simp only [size_mk, size_app, List.length_append, bl_length, List.length_cons, List.length_nil]; omega) | (simp; omega))) (Wt.none rfl) rfl rfl ?_
            refine RunD.pure (i := 8) hok548 rfl (by kernel_rfl) (Pure.sadd rfl rfl (by first | omega | (simp only [size_mk, size_app, List.length_append, bl_length, List.length_cons, List.length_nil]; omega) | (simp; omega))) (Wt.none rfl) rfl rfl ?_
            refine RunD.one (i := 10) (by kernel_rfl) rfl ?_
            · skip
              refine RunL.call rfl rfl (by rfl) (by repeat (first | (with_reducible exact Take.nil _) | (apply Take.cons (by first | ((repeat (first | (with_reducible exact Find.here _) | apply Find.there)); done) | (repeat (first | exact Find.here _ | apply Find.there)))))) (made_ctr (odd := ⟨#[]⟩) g2_gb25 g2w g2b (by decide) (by decide) (by decide)) (Wt.none rfl) rfl ?_
              rintro _ _ ⟨y, rfl, hy, hA_⟩
              replace hA_ := hA_.symm; subst hA_
              refine RunL.nilD' ?_
              refine RunD.pure (i := 11) hok548 rfl (by kernel_rfl) (Pure.sadd rfl rfl (by first | omega | (simp only [size_mk, size_app, List.length_append, bl_length, List.length_cons, List.length_nil]; omega) | (simp; omega))) (Wt.none rfl) rfl rfl ?_
              refine RunD.one (i := 16) (by kernel_rfl) rfl ?_
              · skip
                refine RunL.call rfl rfl (by rfl) (by repeat (first | (with_reducible exact Take.nil _) | (apply Take.cons (by first | ((repeat (first | (with_reducible exact Find.here _) | apply Find.there)); done) | (repeat (first | exact Find.here _ | apply Find.there)))))) (made_ctr (odd := ⟨#[]⟩) g1_gb25 g1w g1b (by decide) (by decide) (by decide)) (Wt.none rfl) rfl ?_
                rintro _ _ ⟨x2, rfl, hx2, hA_⟩
                replace hA_ := hA_.symm; subst hA_
                refine RunL.nilD' ?_
                refine RunD.pure (i := 17) hok548 rfl (by kernel_rfl) (Pure.sadd rfl rfl (by first | omega | (simp only [size_mk, size_app, List.length_append, bl_length, List.length_cons, List.length_nil]; omega) | (simp; omega))) (Wt.none rfl) rfl rfl ?_
                refine RunD.one (i := 18) (by kernel_rfl) rfl ?_
                · skip
                  refine RunL.lit (vals := [_, _, _]) (vs := ([(cut s 40), ((⟨[sg].toArray⟩ : ByteArray) ++ x ++ (⟨#[58]⟩ : ByteArray) ++ y), ((⟨[sg].toArray⟩ : ByteArray) ++ x2)] : List ByteArray).map Value.string) und25 sz9 zz9 rfl rfl rfl rfl rfl rfl (by simp [Value.cells, bv]) rfl (Wt.none rfl) rfl ?_; intro b30
                  refine RunL.nilD' ?_
                  refine RunD.pure (i := 19) hok548 rfl (by kernel_rfl) (Pure.assign rfl) (Wt.none rfl) rfl rfl ?_
                  refine RunD.nilB (by kernel_rfl) (fun w sw => backgb15 _ _ (backgb25 _ _ (sw))) ?_
                  refine Run.keep (.cons rfl (.nil) : Keep _ [9] _) ?_
                  exact Run.meetF (F := F) hk (by exact ⟨b30, [(cut s 40), ((⟨[sg].toArray⟩ : ByteArray) ++ x ++ (⟨#[58]⟩ : ByteArray) ++ y), ((⟨[sg].toArray⟩ : ByteArray) ++ x2)], rfl, by intro q hq; simp only [List.mem_cons, List.not_mem_nil, or_false] at hq; rcases hq with rfl | rfl | rfl <;> (first | omega | (simp only [size_app, size_mk, List.length_cons, List.length_nil]; omega) | (have := cut_size s 40; omega)), rfl, rfl⟩) (by repeat (first | (with_reducible exact Fin.done (by repeat (first | (with_reducible exact Rest.here) | apply Rest.there))) | (apply Fin.cons (by first | ((repeat (first | (with_reducible exact Find.here _) | apply Find.there)); done) | (repeat (first | exact Find.here _ | apply Find.there))))))
      · skip
        refine RunL.lit (vals := [_]) (vs := ([sg] : List UInt8).map bv) und29 sz5 zz5 rfl rfl rfl rfl rfl rfl (by simp [Value.cells, bv]) rfl (Wt.none rfl) rfl ?_; intro b25
        refine RunL.nilD' ?_
        refine RunD.lend (Q := Sl 5 1 (some ⟨b25, 0, none⟩) 1 1 (([sg] : List UInt8).map bv)) Lends.Sl (by first | ((repeat (first | (with_reducible exact Find.here _) | apply Find.there)); done) | (repeat (first | exact Find.here _ | apply Find.there))) ?_; intro gb25 hlegb25 hb25 backgb25
        try (replace hb15 := hb15.mono hlegb25)
        have g1_gb25 := g1_gb15.mono hlegb25
        have g2_gb25 := g2_gb15.mono hlegb25
        refine RunD.bytesStr (i := 14) hok548 rfl (by kernel_rfl) rfl und29 und5 und9 (hb25.1) (Wt.none rfl) rfl ?_
        refine RunD.one (i := 1) (by kernel_rfl) rfl ?_
        · skip
          refine RunL.call rfl rfl (by rfl) (by repeat (first | (with_reducible exact Take.nil _) | (apply Take.cons (by first | ((repeat (first | (with_reducible exact Find.here _) | apply Find.there)); done) | (repeat (first | exact Find.here _ | apply Find.there)))))) (FewC_ctr (m := 40) (by decide) (by decide)) (Wt.none rfl) rfl ?_
          rintro _ _ ⟨rfl, hA_⟩
          replace hA_ := hA_.symm; subst hA_
          refine RunL.nilD' ?_
          refine RunD.one (i := 6) (by kernel_rfl) rfl ?_
          · skip
            refine RunL.call rfl rfl (by rfl) (by repeat (first | (with_reducible exact Take.nil _) | (apply Take.cons (by first | ((repeat (first | (with_reducible exact Find.here _) | apply Find.there)); done) | (repeat (first | exact Find.here _ | apply Find.there)))))) (made_ctr (odd := ⟨#[]⟩) g1_gb25 g1w g1b (by decide) (by decide) (by decide)) (Wt.none rfl) rfl ?_
            rintro _ _ ⟨x, rfl, hx, hA_⟩
            replace hA_ := hA_.symm; subst hA_
            refine RunL.nilD' ?_
            refine RunD.pure (i := 7) hok548 rfl (by kernel_rfl) (Pure.sadd rfl rfl (by first | omega | (simp only [size_mk, size_app, List.length_append, bl_length, List.length_cons, List.length_nil]; omega) | (simp; omega))) (Wt.none rfl) rfl rfl ?_
            refine RunD.pure (i := 8) hok548 rfl (by kernel_rfl) (Pure.sadd rfl rfl (by first | omega | (simp only [size_mk, size_app, List.length_append, bl_length, List.length_cons, List.length_nil]; omega) | (simp; omega))) (Wt.none rfl) rfl rfl ?_
            refine RunD.one (i := 10) (by kernel_rfl) rfl ?_
            · skip
              refine RunL.call rfl rfl (by rfl) (by repeat (first | (with_reducible exact Take.nil _) | (apply Take.cons (by first | ((repeat (first | (with_reducible exact Find.here _) | apply Find.there)); done) | (repeat (first | exact Find.here _ | apply Find.there)))))) (made_ctr (odd := ⟨#[]⟩) g2_gb25 g2w g2b (by decide) (by decide) (by decide)) (Wt.none rfl) rfl ?_
              rintro _ _ ⟨y, rfl, hy, hA_⟩
              replace hA_ := hA_.symm; subst hA_
              refine RunL.nilD' ?_
              refine RunD.pure (i := 11) hok548 rfl (by kernel_rfl) (Pure.sadd rfl rfl (by first | omega | (simp only [size_mk, size_app, List.length_append, bl_length, List.length_cons, List.length_nil]; omega) | (simp; omega))) (Wt.none rfl) rfl rfl ?_
              refine RunD.one (i := 16) (by kernel_rfl) rfl ?_
              · skip
                refine RunL.call rfl rfl (by rfl) (by repeat (first | (with_reducible exact Take.nil _) | (apply Take.cons (by first | ((repeat (first | (with_reducible exact Find.here _) | apply Find.there)); done) | (repeat (first | exact Find.here _ | apply Find.there)))))) (made_ctr (odd := ⟨#[]⟩) g1_gb25 g1w g1b (by decide) (by decide) (by decide)) (Wt.none rfl) rfl ?_
                rintro _ _ ⟨x2, rfl, hx2, hA_⟩
                replace hA_ := hA_.symm; subst hA_
                refine RunL.nilD' ?_
                refine RunD.pure (i := 17) hok548 rfl (by kernel_rfl) (Pure.sadd rfl rfl (by first | omega | (simp only [size_mk, size_app, List.length_append, bl_length, List.length_cons, List.length_nil]; omega) | (simp; omega))) (Wt.none rfl) rfl rfl ?_
                refine RunD.one (i := 18) (by kernel_rfl) rfl ?_
                · skip
                  refine RunL.lit (vals := [_, _, _]) (vs := ([(cut s 40), ((⟨[sg].toArray⟩ : ByteArray) ++ x ++ (⟨#[58]⟩ : ByteArray) ++ y), ((⟨[sg].toArray⟩ : ByteArray) ++ x2)] : List ByteArray).map Value.string) und25 sz9 zz9 rfl rfl rfl rfl rfl rfl (by simp [Value.cells, bv]) rfl (Wt.none rfl) rfl ?_; intro b30
                  refine RunL.nilD' ?_
                  refine RunD.pure (i := 19) hok548 rfl (by kernel_rfl) (Pure.assign rfl) (Wt.none rfl) rfl rfl ?_
                  refine RunD.nilB (by kernel_rfl) (fun w sw => backgb15 _ _ (backgb25 _ _ (sw))) ?_
                  refine Run.keep (.cons rfl (.nil) : Keep _ [9] _) ?_
                  exact Run.meetF (F := F) hk (by exact ⟨b30, [(cut s 40), ((⟨[sg].toArray⟩ : ByteArray) ++ x ++ (⟨#[58]⟩ : ByteArray) ++ y), ((⟨[sg].toArray⟩ : ByteArray) ++ x2)], rfl, by intro q hq; simp only [List.mem_cons, List.not_mem_nil, or_false] at hq; rcases hq with rfl | rfl | rfl <;> (first | omega | (simp only [size_app, size_mk, List.length_cons, List.length_nil]; omega) | (have := cut_size s 40; omega)), rfl, rfl⟩) (by repeat (first | (with_reducible exact Fin.done (by repeat (first | (with_reducible exact Rest.here) | apply Rest.there))) | (apply Fin.cons (by first | ((repeat (first | (with_reducible exact Find.here _) | apply Find.there)); done) | (repeat (first | exact Find.here _ | apply Find.there))))))
    · skip
      refine RunL.lit (vals := [_]) (vs := ([sg] : List UInt8).map bv) und29 sz5 zz5 rfl rfl rfl rfl rfl rfl (by simp [Value.cells, bv]) rfl (Wt.none rfl) rfl ?_; intro b25
      refine RunL.nilD' ?_
      refine RunD.lend (Q := Sl 5 1 (some ⟨b25, 0, none⟩) 1 1 (([sg] : List UInt8).map bv)) Lends.Sl (by first | ((repeat (first | (with_reducible exact Find.here _) | apply Find.there)); done) | (repeat (first | exact Find.here _ | apply Find.there))) ?_; intro gb25 hlegb25 hb25 backgb25
      have g1_gb25 := g1.mono hlegb25
      have g2_gb25 := g2.mono hlegb25
      refine RunD.bytesStr (i := 14) hok548 rfl (by kernel_rfl) rfl und29 und5 und9 (hb25.1) (Wt.none rfl) rfl ?_
      refine RunD.two (i := 1) (j := 3) (by kernel_rfl) rfl rfl ?_ ?_
      · skip
        refine RunL.call rfl rfl (by rfl) (by repeat (first | (with_reducible exact Take.nil _) | (apply Take.cons (by first | ((repeat (first | (with_reducible exact Find.here _) | apply Find.there)); done) | (repeat (first | exact Find.here _ | apply Find.there)))))) (FewC_ctr (m := 40) (by decide) (by decide)) (Wt.none rfl) rfl ?_
        rintro _ _ ⟨rfl, hA_⟩
        replace hA_ := hA_.symm; subst hA_
        refine RunL.nilD' ?_
        refine RunD.two (i := 3) (j := 6) (by kernel_rfl) rfl rfl ?_ ?_
        · skip
          refine RunL.lit (vals := [_]) (vs := ([sg] : List UInt8).map bv) und29 sz5 zz5 rfl rfl rfl rfl rfl rfl (by simp [Value.cells, bv]) rfl (Wt.none rfl) rfl ?_; intro b15
          refine RunL.nilD' ?_
          refine RunD.lend (Q := Sl 5 1 (some ⟨b15, 0, none⟩) 1 1 (([sg] : List UInt8).map bv)) Lends.Sl (by first | ((repeat (first | (with_reducible exact Find.here _) | apply Find.there)); done) | (repeat (first | exact Find.here _ | apply Find.there))) ?_; intro gb15 hlegb15 hb15 backgb15
          try (replace hb25 := hb25.mono hlegb15)
          have g1_gb15 := g1_gb25.mono hlegb15
          have g2_gb15 := g2_gb25.mono hlegb15
          refine RunD.bytesStr (i := 4) hok548 rfl (by kernel_rfl) rfl und29 und5 und9 (hb15.1) (Wt.none rfl) rfl ?_
          refine RunD.one (i := 6) (by kernel_rfl) rfl ?_
          · skip
            refine RunL.call rfl rfl (by rfl) (by repeat (first | (with_reducible exact Take.nil _) | (apply Take.cons (by first | ((repeat (first | (with_reducible exact Find.here _) | apply Find.there)); done) | (repeat (first | exact Find.here _ | apply Find.there)))))) (made_ctr (odd := ⟨#[]⟩) g1_gb15 g1w g1b (by decide) (by decide) (by decide)) (Wt.none rfl) rfl ?_
            rintro _ _ ⟨x, rfl, hx, hA_⟩
            replace hA_ := hA_.symm; subst hA_
            refine RunL.nilD' ?_
            refine RunD.pure (i := 7) hok548 rfl (by kernel_rfl) (Pure.sadd rfl rfl (by first | omega | (simp only [size_mk, size_app, List.length_append, bl_length, List.length_cons, List.length_nil]; omega) | (simp; omega))) (Wt.none rfl) rfl rfl ?_
            refine RunD.pure (i := 8) hok548 rfl (by kernel_rfl) (Pure.sadd rfl rfl (by first | omega | (simp only [size_mk, size_app, List.length_append, bl_length, List.length_cons, List.length_nil]; omega) | (simp; omega))) (Wt.none rfl) rfl rfl ?_
            refine RunD.one (i := 10) (by kernel_rfl) rfl ?_
            · skip
              refine RunL.call rfl rfl (by rfl) (by repeat (first | (with_reducible exact Take.nil _) | (apply Take.cons (by first | ((repeat (first | (with_reducible exact Find.here _) | apply Find.there)); done) | (repeat (first | exact Find.here _ | apply Find.there)))))) (made_ctr (odd := ⟨#[]⟩) g2_gb15 g2w g2b (by decide) (by decide) (by decide)) (Wt.none rfl) rfl ?_
              rintro _ _ ⟨y, rfl, hy, hA_⟩
              replace hA_ := hA_.symm; subst hA_
              refine RunL.nilD' ?_
              refine RunD.pure (i := 11) hok548 rfl (by kernel_rfl) (Pure.sadd rfl rfl (by first | omega | (simp only [size_mk, size_app, List.length_append, bl_length, List.length_cons, List.length_nil]; omega) | (simp; omega))) (Wt.none rfl) rfl rfl ?_
              refine RunD.one (i := 16) (by kernel_rfl) rfl ?_
              · skip
                refine RunL.call rfl rfl (by rfl) (by repeat (first | (with_reducible exact Take.nil _) | (apply Take.cons (by first | ((repeat (first | (with_reducible exact Find.here _) | apply Find.there)); done) | (repeat (first | exact Find.here _ | apply Find.there)))))) (made_ctr (odd := ⟨#[]⟩) g1_gb15 g1w g1b (by decide) (by decide) (by decide)) (Wt.none rfl) rfl ?_
                rintro _ _ ⟨x2, rfl, hx2, hA_⟩
                replace hA_ := hA_.symm; subst hA_
                refine RunL.nilD' ?_
                refine RunD.pure (i := 17) hok548 rfl (by kernel_rfl) (Pure.sadd rfl rfl (by first | omega | (simp only [size_mk, size_app, List.length_append, bl_length, List.length_cons, List.length_nil]; omega) | (simp; omega))) (Wt.none rfl) rfl rfl ?_
                refine RunD.one (i := 18) (by kernel_rfl) rfl ?_
                · skip
                  refine RunL.lit (vals := [_, _, _]) (vs := ([(cut s 40), ((⟨[sg].toArray⟩ : ByteArray) ++ x ++ (⟨#[58]⟩ : ByteArray) ++ y), ((⟨[sg].toArray⟩ : ByteArray) ++ x2)] : List ByteArray).map Value.string) und25 sz9 zz9 rfl rfl rfl rfl rfl rfl (by simp [Value.cells, bv]) rfl (Wt.none rfl) rfl ?_; intro b30
                  refine RunL.nilD' ?_
                  refine RunD.pure (i := 19) hok548 rfl (by kernel_rfl) (Pure.assign rfl) (Wt.none rfl) rfl rfl ?_
                  refine RunD.nilB (by kernel_rfl) (fun w sw => backgb25 _ _ (backgb15 _ _ (sw))) ?_
                  refine Run.keep (.cons rfl (.nil) : Keep _ [9] _) ?_
                  exact Run.meetF (F := F) hk (by exact ⟨b30, [(cut s 40), ((⟨[sg].toArray⟩ : ByteArray) ++ x ++ (⟨#[58]⟩ : ByteArray) ++ y), ((⟨[sg].toArray⟩ : ByteArray) ++ x2)], rfl, by intro q hq; simp only [List.mem_cons, List.not_mem_nil, or_false] at hq; rcases hq with rfl | rfl | rfl <;> (first | omega | (simp only [size_app, size_mk, List.length_cons, List.length_nil]; omega) | (have := cut_size s 40; omega)), rfl, rfl⟩) (by repeat (first | (with_reducible exact Fin.done (by repeat (first | (with_reducible exact Rest.here) | apply Rest.there))) | (apply Fin.cons (by first | ((repeat (first | (with_reducible exact Find.here _) | apply Find.there)); done) | (repeat (first | exact Find.here _ | apply Find.there))))))
        · skip
          refine RunL.call rfl rfl (by rfl) (by repeat (first | (with_reducible exact Take.nil _) | (apply Take.cons (by first | ((repeat (first | (with_reducible exact Find.here _) | apply Find.there)); done) | (repeat (first | exact Find.here _ | apply Find.there)))))) (made_ctr (odd := ⟨#[]⟩) g1_gb25 g1w g1b (by decide) (by decide) (by decide)) (Wt.none rfl) rfl ?_
          rintro _ _ ⟨x, rfl, hx, hA_⟩
          replace hA_ := hA_.symm; subst hA_
          refine RunL.nilD' ?_
          refine RunD.two (i := 3) (j := 10) (by kernel_rfl) rfl rfl ?_ ?_
          · skip
            refine RunL.lit (vals := [_]) (vs := ([sg] : List UInt8).map bv) und29 sz5 zz5 rfl rfl rfl rfl rfl rfl (by simp [Value.cells, bv]) rfl (Wt.none rfl) rfl ?_; intro b15
            refine RunL.nilD' ?_
            refine RunD.lend (Q := Sl 5 1 (some ⟨b15, 0, none⟩) 1 1 (([sg] : List UInt8).map bv)) Lends.Sl (by first | ((repeat (first | (with_reducible exact Find.here _) | apply Find.there)); done) | (repeat (first | exact Find.here _ | apply Find.there))) ?_; intro gb15 hlegb15 hb15 backgb15
            try (replace hb25 := hb25.mono hlegb15)
            have g1_gb15 := g1_gb25.mono hlegb15
            have g2_gb15 := g2_gb25.mono hlegb15
            refine RunD.bytesStr (i := 4) hok548 rfl (by kernel_rfl) rfl und29 und5 und9 (hb15.1) (Wt.none rfl) rfl ?_
            refine RunD.pure (i := 7) hok548 rfl (by kernel_rfl) (Pure.sadd rfl rfl (by first | omega | (simp only [size_mk, size_app, List.length_append, bl_length, List.length_cons, List.length_nil]; omega) | (simp; omega))) (Wt.none rfl) rfl rfl ?_
            refine RunD.pure (i := 8) hok548 rfl (by kernel_rfl) (Pure.sadd rfl rfl (by first | omega | (simp only [size_mk, size_app, List.length_append, bl_length, List.length_cons, List.length_nil]; omega) | (simp; omega))) (Wt.none rfl) rfl rfl ?_
            refine RunD.one (i := 10) (by kernel_rfl) rfl ?_
            · skip
              refine RunL.call rfl rfl (by rfl) (by repeat (first | (with_reducible exact Take.nil _) | (apply Take.cons (by first | ((repeat (first | (with_reducible exact Find.here _) | apply Find.there)); done) | (repeat (first | exact Find.here _ | apply Find.there)))))) (made_ctr (odd := ⟨#[]⟩) g2_gb15 g2w g2b (by decide) (by decide) (by decide)) (Wt.none rfl) rfl ?_
              rintro _ _ ⟨y, rfl, hy, hA_⟩
              replace hA_ := hA_.symm; subst hA_
              refine RunL.nilD' ?_
              refine RunD.pure (i := 11) hok548 rfl (by kernel_rfl) (Pure.sadd rfl rfl (by first | omega | (simp only [size_mk, size_app, List.length_append, bl_length, List.length_cons, List.length_nil]; omega) | (simp; omega))) (Wt.none rfl) rfl rfl ?_
              refine RunD.one (i := 16) (by kernel_rfl) rfl ?_
              · skip
                refine RunL.call rfl rfl (by rfl) (by repeat (first | (with_reducible exact Take.nil _) | (apply Take.cons (by first | ((repeat (first | (with_reducible exact Find.here _) | apply Find.there)); done) | (repeat (first | exact Find.here _ | apply Find.there)))))) (made_ctr (odd := ⟨#[]⟩) g1_gb15 g1w g1b (by decide) (by decide) (by decide)) (Wt.none rfl) rfl ?_
                rintro _ _ ⟨x2, rfl, hx2, hA_⟩
                replace hA_ := hA_.symm; subst hA_
                refine RunL.nilD' ?_
                refine RunD.pure (i := 17) hok548 rfl (by kernel_rfl) (Pure.sadd rfl rfl (by first | omega | (simp only [size_mk, size_app, List.length_append, bl_length, List.length_cons, List.length_nil]; omega) | (simp; omega))) (Wt.none rfl) rfl rfl ?_
                refine RunD.one (i := 18) (by kernel_rfl) rfl ?_
                · skip
                  refine RunL.lit (vals := [_, _, _]) (vs := ([(cut s 40), ((⟨[sg].toArray⟩ : ByteArray) ++ x ++ (⟨#[58]⟩ : ByteArray) ++ y), ((⟨[sg].toArray⟩ : ByteArray) ++ x2)] : List ByteArray).map Value.string) und25 sz9 zz9 rfl rfl rfl rfl rfl rfl (by simp [Value.cells, bv]) rfl (Wt.none rfl) rfl ?_; intro b30
                  refine RunL.nilD' ?_
                  refine RunD.pure (i := 19) hok548 rfl (by kernel_rfl) (Pure.assign rfl) (Wt.none rfl) rfl rfl ?_
                  refine RunD.nilB (by kernel_rfl) (fun w sw => backgb25 _ _ (backgb15 _ _ (sw))) ?_
                  refine Run.keep (.cons rfl (.nil) : Keep _ [9] _) ?_
                  exact Run.meetF (F := F) hk (by exact ⟨b30, [(cut s 40), ((⟨[sg].toArray⟩ : ByteArray) ++ x ++ (⟨#[58]⟩ : ByteArray) ++ y), ((⟨[sg].toArray⟩ : ByteArray) ++ x2)], rfl, by intro q hq; simp only [List.mem_cons, List.not_mem_nil, or_false] at hq; rcases hq with rfl | rfl | rfl <;> (first | omega | (simp only [size_app, size_mk, List.length_cons, List.length_nil]; omega) | (have := cut_size s 40; omega)), rfl, rfl⟩) (by repeat (first | (with_reducible exact Fin.done (by repeat (first | (with_reducible exact Rest.here) | apply Rest.there))) | (apply Fin.cons (by first | ((repeat (first | (with_reducible exact Find.here _) | apply Find.there)); done) | (repeat (first | exact Find.here _ | apply Find.there))))))
          · skip
            refine RunL.call rfl rfl (by rfl) (by repeat (first | (with_reducible exact Take.nil _) | (apply Take.cons (by first | ((repeat (first | (with_reducible exact Find.here _) | apply Find.there)); done) | (repeat (first | exact Find.here _ | apply Find.there)))))) (made_ctr (odd := ⟨#[]⟩) g2_gb25 g2w g2b (by decide) (by decide) (by decide)) (Wt.none rfl) rfl ?_
            rintro _ _ ⟨y, rfl, hy, hA_⟩
            replace hA_ := hA_.symm; subst hA_
            refine RunL.nilD' ?_
            refine RunD.two (i := 3) (j := 16) (by kernel_rfl) rfl rfl ?_ ?_
            · skip
              refine RunL.lit (vals := [_]) (vs := ([sg] : List UInt8).map bv) und29 sz5 zz5 rfl rfl rfl rfl rfl rfl (by simp [Value.cells, bv]) rfl (Wt.none rfl) rfl ?_; intro b15
              refine RunL.nilD' ?_
              refine RunD.lend (Q := Sl 5 1 (some ⟨b15, 0, none⟩) 1 1 (([sg] : List UInt8).map bv)) Lends.Sl (by first | ((repeat (first | (with_reducible exact Find.here _) | apply Find.there)); done) | (repeat (first | exact Find.here _ | apply Find.there))) ?_; intro gb15 hlegb15 hb15 backgb15
              try (replace hb25 := hb25.mono hlegb15)
              have g1_gb15 := g1_gb25.mono hlegb15
              have g2_gb15 := g2_gb25.mono hlegb15
              refine RunD.bytesStr (i := 4) hok548 rfl (by kernel_rfl) rfl und29 und5 und9 (hb15.1) (Wt.none rfl) rfl ?_
              refine RunD.pure (i := 7) hok548 rfl (by kernel_rfl) (Pure.sadd rfl rfl (by first | omega | (simp only [size_mk, size_app, List.length_append, bl_length, List.length_cons, List.length_nil]; omega) | (simp; omega))) (Wt.none rfl) rfl rfl ?_
              refine RunD.pure (i := 8) hok548 rfl (by kernel_rfl) (Pure.sadd rfl rfl (by first | omega | (simp only [size_mk, size_app, List.length_append, bl_length, List.length_cons, List.length_nil]; omega) | (simp; omega))) (Wt.none rfl) rfl rfl ?_
              refine RunD.pure (i := 11) hok548 rfl (by kernel_rfl) (Pure.sadd rfl rfl (by first | omega | (simp only [size_mk, size_app, List.length_append, bl_length, List.length_cons, List.length_nil]; omega) | (simp; omega))) (Wt.none rfl) rfl rfl ?_
              refine RunD.one (i := 16) (by kernel_rfl) rfl ?_
              · skip
                refine RunL.call rfl rfl (by rfl) (by repeat (first | (with_reducible exact Take.nil _) | (apply Take.cons (by first | ((repeat (first | (with_reducible exact Find.here _) | apply Find.there)); done) | (repeat (first | exact Find.here _ | apply Find.there)))))) (made_ctr (odd := ⟨#[]⟩) g1_gb15 g1w g1b (by decide) (by decide) (by decide)) (Wt.none rfl) rfl ?_
                rintro _ _ ⟨x2, rfl, hx2, hA_⟩
                replace hA_ := hA_.symm; subst hA_
                refine RunL.nilD' ?_
                refine RunD.pure (i := 17) hok548 rfl (by kernel_rfl) (Pure.sadd rfl rfl (by first | omega | (simp only [size_mk, size_app, List.length_append, bl_length, List.length_cons, List.length_nil]; omega) | (simp; omega))) (Wt.none rfl) rfl rfl ?_
                refine RunD.one (i := 18) (by kernel_rfl) rfl ?_
                · skip
                  refine RunL.lit (vals := [_, _, _]) (vs := ([(cut s 40), ((⟨[sg].toArray⟩ : ByteArray) ++ x ++ (⟨#[58]⟩ : ByteArray) ++ y), ((⟨[sg].toArray⟩ : ByteArray) ++ x2)] : List ByteArray).map Value.string) und25 sz9 zz9 rfl rfl rfl rfl rfl rfl (by simp [Value.cells, bv]) rfl (Wt.none rfl) rfl ?_; intro b30
                  refine RunL.nilD' ?_
                  refine RunD.pure (i := 19) hok548 rfl (by kernel_rfl) (Pure.assign rfl) (Wt.none rfl) rfl rfl ?_
                  refine RunD.nilB (by kernel_rfl) (fun w sw => backgb25 _ _ (backgb15 _ _ (sw))) ?_
                  refine Run.keep (.cons rfl (.nil) : Keep _ [9] _) ?_
                  exact Run.meetF (F := F) hk (by exact ⟨b30, [(cut s 40), ((⟨[sg].toArray⟩ : ByteArray) ++ x ++ (⟨#[58]⟩ : ByteArray) ++ y), ((⟨[sg].toArray⟩ : ByteArray) ++ x2)], rfl, by intro q hq; simp only [List.mem_cons, List.not_mem_nil, or_false] at hq; rcases hq with rfl | rfl | rfl <;> (first | omega | (simp only [size_app, size_mk, List.length_cons, List.length_nil]; omega) | (have := cut_size s 40; omega)), rfl, rfl⟩) (by repeat (first | (with_reducible exact Fin.done (by repeat (first | (with_reducible exact Rest.here) | apply Rest.there))) | (apply Fin.cons (by first | ((repeat (first | (with_reducible exact Find.here _) | apply Find.there)); done) | (repeat (first | exact Find.here _ | apply Find.there))))))
            · skip
              refine RunL.call rfl rfl (by rfl) (by repeat (first | (with_reducible exact Take.nil _) | (apply Take.cons (by first | ((repeat (first | (with_reducible exact Find.here _) | apply Find.there)); done) | (repeat (first | exact Find.here _ | apply Find.there)))))) (made_ctr (odd := ⟨#[]⟩) g1_gb25 g1w g1b (by decide) (by decide) (by decide)) (Wt.none rfl) rfl ?_
              rintro _ _ ⟨x2, rfl, hx2, hA_⟩
              replace hA_ := hA_.symm; subst hA_
              refine RunL.nilD' ?_
              refine RunD.pure (i := 17) hok548 rfl (by kernel_rfl) (Pure.sadd rfl rfl (by first | omega | (simp only [size_mk, size_app, List.length_append, bl_length, List.length_cons, List.length_nil]; omega) | (simp; omega))) (Wt.none rfl) rfl rfl ?_
              refine RunD.one (i := 3) (by kernel_rfl) rfl ?_
              · skip
                refine RunL.lit (vals := [_]) (vs := ([sg] : List UInt8).map bv) und29 sz5 zz5 rfl rfl rfl rfl rfl rfl (by simp [Value.cells, bv]) rfl (Wt.none rfl) rfl ?_; intro b15
                refine RunL.nilD' ?_
                refine RunD.lend (Q := Sl 5 1 (some ⟨b15, 0, none⟩) 1 1 (([sg] : List UInt8).map bv)) Lends.Sl (by first | ((repeat (first | (with_reducible exact Find.here _) | apply Find.there)); done) | (repeat (first | exact Find.here _ | apply Find.there))) ?_; intro gb15 hlegb15 hb15 backgb15
                try (replace hb25 := hb25.mono hlegb15)
                have g1_gb15 := g1_gb25.mono hlegb15
                have g2_gb15 := g2_gb25.mono hlegb15
                refine RunD.bytesStr (i := 4) hok548 rfl (by kernel_rfl) rfl und29 und5 und9 (hb15.1) (Wt.none rfl) rfl ?_
                refine RunD.pure (i := 7) hok548 rfl (by kernel_rfl) (Pure.sadd rfl rfl (by first | omega | (simp only [size_mk, size_app, List.length_append, bl_length, List.length_cons, List.length_nil]; omega) | (simp; omega))) (Wt.none rfl) rfl rfl ?_
                refine RunD.pure (i := 8) hok548 rfl (by kernel_rfl) (Pure.sadd rfl rfl (by first | omega | (simp only [size_mk, size_app, List.length_append, bl_length, List.length_cons, List.length_nil]; omega) | (simp; omega))) (Wt.none rfl) rfl rfl ?_
                refine RunD.pure (i := 11) hok548 rfl (by kernel_rfl) (Pure.sadd rfl rfl (by first | omega | (simp only [size_mk, size_app, List.length_append, bl_length, List.length_cons, List.length_nil]; omega) | (simp; omega))) (Wt.none rfl) rfl rfl ?_
                refine RunD.one (i := 18) (by kernel_rfl) rfl ?_
                · skip
                  refine RunL.lit (vals := [_, _, _]) (vs := ([(cut s 40), ((⟨[sg].toArray⟩ : ByteArray) ++ x ++ (⟨#[58]⟩ : ByteArray) ++ y), ((⟨[sg].toArray⟩ : ByteArray) ++ x2)] : List ByteArray).map Value.string) und25 sz9 zz9 rfl rfl rfl rfl rfl rfl (by simp [Value.cells, bv]) rfl (Wt.none rfl) rfl ?_; intro b30
                  refine RunL.nilD' ?_
                  refine RunD.pure (i := 19) hok548 rfl (by kernel_rfl) (Pure.assign rfl) (Wt.none rfl) rfl rfl ?_
                  refine RunD.nilB (by kernel_rfl) (fun w sw => backgb25 _ _ (backgb15 _ _ (sw))) ?_
                  refine Run.keep (.cons rfl (.nil) : Keep _ [9] _) ?_
                  exact Run.meetF (F := F) hk (by exact ⟨b30, [(cut s 40), ((⟨[sg].toArray⟩ : ByteArray) ++ x ++ (⟨#[58]⟩ : ByteArray) ++ y), ((⟨[sg].toArray⟩ : ByteArray) ++ x2)], rfl, by intro q hq; simp only [List.mem_cons, List.not_mem_nil, or_false] at hq; rcases hq with rfl | rfl | rfl <;> (first | omega | (simp only [size_app, size_mk, List.length_cons, List.length_nil]; omega) | (have := cut_size s 40; omega)), rfl, rfl⟩) (by repeat (first | (with_reducible exact Fin.done (by repeat (first | (with_reducible exact Rest.here) | apply Rest.there))) | (apply Fin.cons (by first | ((repeat (first | (with_reducible exact Find.here _) | apply Find.there)); done) | (repeat (first | exact Find.here _ | apply Find.there))))))
      · skip
        refine RunL.lit (vals := [_]) (vs := ([sg] : List UInt8).map bv) und29 sz5 zz5 rfl rfl rfl rfl rfl rfl (by simp [Value.cells, bv]) rfl (Wt.none rfl) rfl ?_; intro b15
        refine RunL.nilD' ?_
        refine RunD.lend (Q := Sl 5 1 (some ⟨b15, 0, none⟩) 1 1 (([sg] : List UInt8).map bv)) Lends.Sl (by first | ((repeat (first | (with_reducible exact Find.here _) | apply Find.there)); done) | (repeat (first | exact Find.here _ | apply Find.there))) ?_; intro gb15 hlegb15 hb15 backgb15
        try (replace hb25 := hb25.mono hlegb15)
        have g1_gb15 := g1_gb25.mono hlegb15
        have g2_gb15 := g2_gb25.mono hlegb15
        refine RunD.bytesStr (i := 4) hok548 rfl (by kernel_rfl) rfl und29 und5 und9 (hb15.1) (Wt.none rfl) rfl ?_
        refine RunD.one (i := 1) (by kernel_rfl) rfl ?_
        · skip
          refine RunL.call rfl rfl (by rfl) (by repeat (first | (with_reducible exact Take.nil _) | (apply Take.cons (by first | ((repeat (first | (with_reducible exact Find.here _) | apply Find.there)); done) | (repeat (first | exact Find.here _ | apply Find.there)))))) (FewC_ctr (m := 40) (by decide) (by decide)) (Wt.none rfl) rfl ?_
          rintro _ _ ⟨rfl, hA_⟩
          replace hA_ := hA_.symm; subst hA_
          refine RunL.nilD' ?_
          refine RunD.one (i := 6) (by kernel_rfl) rfl ?_
          · skip
            refine RunL.call rfl rfl (by rfl) (by repeat (first | (with_reducible exact Take.nil _) | (apply Take.cons (by first | ((repeat (first | (with_reducible exact Find.here _) | apply Find.there)); done) | (repeat (first | exact Find.here _ | apply Find.there)))))) (made_ctr (odd := ⟨#[]⟩) g1_gb15 g1w g1b (by decide) (by decide) (by decide)) (Wt.none rfl) rfl ?_
            rintro _ _ ⟨x, rfl, hx, hA_⟩
            replace hA_ := hA_.symm; subst hA_
            refine RunL.nilD' ?_
            refine RunD.pure (i := 7) hok548 rfl (by kernel_rfl) (Pure.sadd rfl rfl (by first | omega | (simp only [size_mk, size_app, List.length_append, bl_length, List.length_cons, List.length_nil]; omega) | (simp; omega))) (Wt.none rfl) rfl rfl ?_
            refine RunD.pure (i := 8) hok548 rfl (by kernel_rfl) (Pure.sadd rfl rfl (by first | omega | (simp only [size_mk, size_app, List.length_append, bl_length, List.length_cons, List.length_nil]; omega) | (simp; omega))) (Wt.none rfl) rfl rfl ?_
            refine RunD.one (i := 10) (by kernel_rfl) rfl ?_
            · skip
              refine RunL.call rfl rfl (by rfl) (by repeat (first | (with_reducible exact Take.nil _) | (apply Take.cons (by first | ((repeat (first | (with_reducible exact Find.here _) | apply Find.there)); done) | (repeat (first | exact Find.here _ | apply Find.there)))))) (made_ctr (odd := ⟨#[]⟩) g2_gb15 g2w g2b (by decide) (by decide) (by decide)) (Wt.none rfl) rfl ?_
              rintro _ _ ⟨y, rfl, hy, hA_⟩
              replace hA_ := hA_.symm; subst hA_
              refine RunL.nilD' ?_
              refine RunD.pure (i := 11) hok548 rfl (by kernel_rfl) (Pure.sadd rfl rfl (by first | omega | (simp only [size_mk, size_app, List.length_append, bl_length, List.length_cons, List.length_nil]; omega) | (simp; omega))) (Wt.none rfl) rfl rfl ?_
              refine RunD.one (i := 16) (by kernel_rfl) rfl ?_
              · skip
                refine RunL.call rfl rfl (by rfl) (by repeat (first | (with_reducible exact Take.nil _) | (apply Take.cons (by first | ((repeat (first | (with_reducible exact Find.here _) | apply Find.there)); done) | (repeat (first | exact Find.here _ | apply Find.there)))))) (made_ctr (odd := ⟨#[]⟩) g1_gb15 g1w g1b (by decide) (by decide) (by decide)) (Wt.none rfl) rfl ?_
                rintro _ _ ⟨x2, rfl, hx2, hA_⟩
                replace hA_ := hA_.symm; subst hA_
                refine RunL.nilD' ?_
                refine RunD.pure (i := 17) hok548 rfl (by kernel_rfl) (Pure.sadd rfl rfl (by first | omega | (simp only [size_mk, size_app, List.length_append, bl_length, List.length_cons, List.length_nil]; omega) | (simp; omega))) (Wt.none rfl) rfl rfl ?_
                refine RunD.one (i := 18) (by kernel_rfl) rfl ?_
                · skip
                  refine RunL.lit (vals := [_, _, _]) (vs := ([(cut s 40), ((⟨[sg].toArray⟩ : ByteArray) ++ x ++ (⟨#[58]⟩ : ByteArray) ++ y), ((⟨[sg].toArray⟩ : ByteArray) ++ x2)] : List ByteArray).map Value.string) und25 sz9 zz9 rfl rfl rfl rfl rfl rfl (by simp [Value.cells, bv]) rfl (Wt.none rfl) rfl ?_; intro b30
                  refine RunL.nilD' ?_
                  refine RunD.pure (i := 19) hok548 rfl (by kernel_rfl) (Pure.assign rfl) (Wt.none rfl) rfl rfl ?_
                  refine RunD.nilB (by kernel_rfl) (fun w sw => backgb25 _ _ (backgb15 _ _ (sw))) ?_
                  refine Run.keep (.cons rfl (.nil) : Keep _ [9] _) ?_
                  exact Run.meetF (F := F) hk (by exact ⟨b30, [(cut s 40), ((⟨[sg].toArray⟩ : ByteArray) ++ x ++ (⟨#[58]⟩ : ByteArray) ++ y), ((⟨[sg].toArray⟩ : ByteArray) ++ x2)], rfl, by intro q hq; simp only [List.mem_cons, List.not_mem_nil, or_false] at hq; rcases hq with rfl | rfl | rfl <;> (first | omega | (simp only [size_app, size_mk, List.length_cons, List.length_nil]; omega) | (have := cut_size s 40; omega)), rfl, rfl⟩) (by repeat (first | (with_reducible exact Fin.done (by repeat (first | (with_reducible exact Rest.here) | apply Rest.there))) | (apply Fin.cons (by first | ((repeat (first | (with_reducible exact Find.here _) | apply Find.there)); done) | (repeat (first | exact Find.here _ | apply Find.there))))))

end Go.Proofs.Ytlfldbkpndmdhaa
