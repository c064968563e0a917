/- Kinds of names. -/
import Derived.Test.YtlfldbkpndmdhaaM2
set_option linter.unusedVariables false
set_option linter.unusedSimpArgs false
set_option linter.unusedSectionVars false
namespace Go.Proofs.Ytlfldbkpndmdhaa
open Go Csl
theorem und4 : Try.prog.underlying 4 = some Go.TypeDesc.bool := Try.underlying4
theorem und29 : Try.prog.underlying 29 = some (Go.TypeDesc.slice 5) := Try.underlying29
theorem sz5 : sizeIs Try.prog 5 = some 1 := by kernel_rfl
theorem zz5 : zeroIs Try.prog 5 = some (.int .u8 0) := by kernel_rfl

set_option maxHeartbeats 4000000 in
set_option maxRecDepth 100000 in
theorem NameKinds_ctr {G : Gp} {s : ByteArray} {z : Int} (hz : (Lit.int .u8 z).wf = true) {a1 : Option Addr} {l1 : List Int} {c1 : Nat} (g1 : SlR G 3 1 a1 l1.length (l1.map (Value.int .i64))) (g1w : ∀ z ∈ l1, (Lit.int .i64 z).wf = true) (g1b : l1.length ≤ 9223372036854775807) {a2 : Option Addr} {l2 : List Int} {c2 : Nat} (g2 : SlR G 3 1 a2 l2.length (l2.map (Value.int .i64))) (g2w : ∀ z ∈ l2, (Lit.int .i64 z).wf = true) (g2b : l2.length ≤ 9223372036854775807) :
    Ctr Try.prog G 5 [.string s, .int .u8 z, .slice a1 l1.length c1, .slice a2 l2.length c2] [] (fun F v A => v = .bool true ∧ A = F) := by
  refine Ctr.intro Try.func5 rfl (by kernel_rfl) rfl (fun F => ?_)
  simp only [List.nil_append]
  obtain ⟨sg, rfl⟩ : ∃ sg : UInt8, z = ((sg.toNat : Nat) : Int) := ⟨UInt8.ofNat z.toNat, by have := wf_u8 hz; rw [UInt8.toNat_ofNat_of_lt' (by simp [UInt8.size]; omega)]; omega⟩
  refine Run.sr ?_
  refine RunL.as rfl rfl ?_
  refine RunL.nil ?_
  refine Run.sr ?_
  refine RunL.mv rfl rfl ?_
  refine RunL.call rfl rfl (by rfl) (by repeat (first | (with_reducible exact Take.nil _) | (apply Take.cons (by first | ((repeat (first | (with_reducible exact Find.here _) | apply Find.there)); done) | (repeat (first | exact Find.here _ | apply Find.there)))))) (made_ctr (odd := ⟨#[]⟩) g1 g1w g1b (by decide) (by decide) (by decide)) (Wt.none rfl) rfl ?_
  rintro _ _ ⟨x, rfl, hx, hA_⟩
  replace hA_ := hA_.symm; subst hA_
  refine RunL.as rfl rfl ?_
  refine RunL.nil ?_
  refine Run.sr ?_
  refine RunL.mv rfl rfl ?_
  refine RunL.call rfl rfl (by rfl) (by repeat (first | (with_reducible exact Take.nil _) | (apply Take.cons (by first | ((repeat (first | (with_reducible exact Find.here _) | apply Find.there)); done) | (repeat (first | exact Find.here _ | apply Find.there)))))) (made_ctr (odd := ⟨#[]⟩) g2 g2w g2b (by decide) (by decide) (by decide)) (Wt.none rfl) rfl ?_
  rintro _ _ ⟨y, rfl, hy, hA_⟩
  replace hA_ := hA_.symm; subst hA_
  refine RunL.as rfl rfl ?_
  refine RunL.nil ?_
  refine Run.seq ?_
  refine Run.cut (fun e A => ∃ (b : Nat) (xs : List ByteArray), xs.length = 7 ∧ (∀ x ∈ xs, x.size ≤ 100) ∧ e = [(11, .slice (some ⟨b, 0, none⟩) 7 7)] ∧ A = Sl 9 1 (some ⟨b, 0, none⟩) 7 7 (xs.map Value.string) :: F) (fun e A hM => ?_) (fun hk => ?_)
  · obtain ⟨bx, xs, hxn, hxz, rfl, hA_⟩ := hM
    replace hA_ := hA_.symm; subst hA_
    refine Run.lendAll (Q := Sl 9 1 (some ⟨bx, 0, none⟩) 7 7 (xs.map Value.string)) (Lends.litRow (n := 7)) (by first | ((repeat (first | (with_reducible exact Find.here _) | apply Find.there)); done) | (repeat (first | exact Find.here _ | apply Find.there))) (fun Ghs0 hleGhs0 hs0 => ?_)
    replace g1 := g1.mono hleGhs0
    replace g2 := g2.mono hleGhs0
    obtain ⟨postx, hs⟩ := hs0
    refine Run.seq ?_
    refine Run.sr ?_
    refine RunL.as rfl rfl ?_
    refine RunL.nil ?_
    refine Run.block ?_
    refine Run.keep (.cons rfl (.cons rfl (.nil)) : Keep _ [11, 12] _) ?_
    refine Run.loopF (F := F) (fun n e A => ∃ (i : Nat), i ≤ 7 ∧ n = 7 - i ∧ e = [(11, .slice (some ⟨bx, 0, none⟩) 7 7), (12, .int .i64 (i : Nat))] ∧ A = F) (7) (by exact ⟨0, by omega, rfl, rfl, rfl⟩) (by repeat (first | (with_reducible exact Fin.done (by repeat (first | (with_reducible exact Rest.here) | apply Rest.there))) | (apply Fin.cons (by first | ((repeat (first | (with_reducible exact Find.here _) | apply Find.there)); done) | (repeat (first | exact Find.here _ | apply Find.there)))))) ?_
    rintro n _ _ ⟨i, hi, rfl, rfl, hA_⟩ ih
    replace hA_ := hA_.symm; subst hA_
    refine Run.seq ?_
    refine Run.sr ?_
    refine RunL.mv rfl rfl ?_
    refine RunL.mv rfl rfl ?_
    refine RunL.pure (Pure.lenSl rfl rfl und25) (Wt.none rfl) rfl rfl ?_
    refine RunL.pure (Pure.lss rfl rfl) (Wt.none rfl) rfl rfl ?_
    refine RunL.nil ?_
    refine Run.cond rfl (fun hi5 => ?_) (fun hi5 => ?_)
    · try simp only [decide_eq_true_eq, decide_eq_false_iff_not, beq_iff_eq, beq_eq_false_iff_ne, bne_iff_ne, ne_eq, Bool.not_eq_true', Bool.not_eq_false', Bool.not_eq_true, Bool.not_eq_false, Int.not_lt, Int.not_le, Decidable.not_not, bne_eq_false_iff_eq, gt_iff_lt, ge_iff_le, Bool.or_eq_true, Bool.and_eq_true] at hi5
      obtain ⟨t, ht⟩ := get_some (xs := xs) (i := i) (by omega)
      have htz := hxz t (List.mem_of_getElem? ht)
      refine Run.skip ?_
      refine Run.seq ?_
      refine Run.block ?_
      refine Run.sr ?_
      refine RunL.mv rfl rfl ?_
      refine RunL.mv rfl rfl ?_
      refine RunL.pure (Pure.indexAddr rfl rfl und25 sz9 (by omega) (by omega)) (Wt.none rfl) rfl rfl ?_
      refine RunL.load1R rfl hs (elem1_at ht) agg9 (Wt.none rfl) rfl ?_
      refine RunL.as rfl rfl ?_
      refine RunL.nil ?_
      refine Run.sr ?_
      refine RunL.mv rfl rfl ?_
      refine RunL.call rfl rfl (by rfl) (by repeat (first | (with_reducible exact Take.nil _) | (apply Take.cons (by first | ((repeat (first | (with_reducible exact Find.here _) | apply Find.there)); done) | (repeat (first | exact Find.here _ | apply Find.there)))))) (nServer_ctr (by first | assumption | omega | (simp only [mkS_size, List.length_take, List.length_drop, bl_length]; omega) | (simp only [mkS_size, size_app, List.length_take, List.length_drop, List.length_append, bl_length, List.length_cons, List.length_nil, size_mk]; omega))) (Wt.none rfl) rfl ?_
      rintro _ _ ⟨rfl, hA_⟩
      replace hA_ := hA_.symm; subst hA_
      refine RunL.mv rfl rfl ?_
      refine RunL.call rfl rfl (by rfl) (by repeat (first | (with_reducible exact Take.nil _) | (apply Take.cons (by first | ((repeat (first | (with_reducible exact Find.here _) | apply Find.there)); done) | (repeat (first | exact Find.here _ | apply Find.there)))))) (rServer_ctr (by first | assumption | omega | (simp only [mkS_size, List.length_take, List.length_drop, bl_length]; omega) | (simp only [mkS_size, size_app, List.length_take, List.length_drop, List.length_append, bl_length, List.length_cons, List.length_nil, size_mk]; omega))) (Wt.none rfl) rfl ?_
      rintro _ _ ⟨rfl, hA_⟩
      replace hA_ := hA_.symm; subst hA_
      refine RunL.pure (Pure.bneq rfl rfl und4) (Wt.none rfl) rfl rfl ?_
      refine RunL.mv rfl rfl ?_
      refine RunL.split (d := 62) rfl (fun hg1 => ?_) (fun hg1 => ?_)
      · try simp only [decide_eq_true_eq, decide_eq_false_iff_not, beq_iff_eq, beq_eq_false_iff_ne, bne_iff_ne, ne_eq, Bool.not_eq_true', Bool.not_eq_false', Bool.not_eq_true, Bool.not_eq_false, Int.not_lt, Int.not_le, Decidable.not_not, bne_eq_false_iff_eq, gt_iff_lt, ge_iff_le, Bool.or_eq_true, Bool.and_eq_true] at hg1
        exfalso
        simp at hg1
      try simp only [decide_eq_true_eq, decide_eq_false_iff_not, beq_iff_eq, beq_eq_false_iff_ne, bne_iff_ne, ne_eq, Bool.not_eq_true', Bool.not_eq_false', Bool.not_eq_true, Bool.not_eq_false, Int.not_lt, Int.not_le, Decidable.not_not, bne_eq_false_iff_eq, gt_iff_lt, ge_iff_le, Bool.or_eq_true, Bool.and_eq_true] at hg1
      refine RunL.pure (Pure.move rfl) (Wt.yes rfl rfl rfl) rfl rfl ?_
      refine RunL.call rfl rfl (by rfl) (by repeat (first | (with_reducible exact Take.nil _) | (apply Take.cons (by first | ((repeat (first | (with_reducible exact Find.here _) | apply Find.there)); done) | (repeat (first | exact Find.here _ | apply Find.there)))))) (User_ctr (by first | assumption | omega | (simp only [mkS_size, List.length_take, List.length_drop, bl_length]; omega) | (simp only [mkS_size, size_app, List.length_take, List.length_drop, List.length_append, bl_length, List.length_cons, List.length_nil, size_mk]; omega))) (Wt.yes rfl rfl rfl) rfl ?_
      rintro _ _ ⟨rfl, hA_⟩
      replace hA_ := hA_.symm; subst hA_
      refine RunL.pure (Pure.move rfl) (Wt.yes rfl rfl rfl) rfl rfl ?_
      refine RunL.call rfl rfl (by rfl) (by repeat (first | (with_reducible exact Take.nil _) | (apply Take.cons (by first | ((repeat (first | (with_reducible exact Find.here _) | apply Find.there)); done) | (repeat (first | exact Find.here _ | apply Find.there)))))) (rNamed_ctr (sg := 64) (by decide) (by first | assumption | omega | (simp only [mkS_size, List.length_take, List.length_drop, bl_length]; omega) | (simp only [mkS_size, size_app, List.length_take, List.length_drop, List.length_append, bl_length, List.length_cons, List.length_nil, size_mk]; omega))) (Wt.yes rfl rfl rfl) rfl ?_
      rintro _ _ ⟨rfl, hA_⟩
      replace hA_ := hA_.symm; subst hA_
      refine RunL.pure (Pure.bneq rfl rfl und4) (Wt.yes rfl rfl rfl) rfl rfl ?_
      refine RunL.pure (Pure.pickF rfl rfl) (Wt.none rfl) rfl rfl ?_
      refine RunL.mv rfl rfl ?_
      refine RunL.split (d := 69) rfl (fun hg2 => ?_) (fun hg2 => ?_)
      · try simp only [decide_eq_true_eq, decide_eq_false_iff_not, beq_iff_eq, beq_eq_false_iff_ne, bne_iff_ne, ne_eq, Bool.not_eq_true', Bool.not_eq_false', Bool.not_eq_true, Bool.not_eq_false, Int.not_lt, Int.not_le, Decidable.not_not, bne_eq_false_iff_eq, gt_iff_lt, ge_iff_le, Bool.or_eq_true, Bool.and_eq_true] at hg2
        exfalso
        simp at hg2
      try simp only [decide_eq_true_eq, decide_eq_false_iff_not, beq_iff_eq, beq_eq_false_iff_ne, bne_iff_ne, ne_eq, Bool.not_eq_true', Bool.not_eq_false', Bool.not_eq_true, Bool.not_eq_false, Int.not_lt, Int.not_le, Decidable.not_not, bne_eq_false_iff_eq, gt_iff_lt, ge_iff_le, Bool.or_eq_true, Bool.and_eq_true] at hg2
      refine RunL.pure (Pure.move rfl) (Wt.yes rfl rfl rfl) rfl rfl ?_
      refine RunL.call rfl rfl (by rfl) (by repeat (first | (with_reducible exact Take.nil _) | (apply Take.cons (by first | ((repeat (first | (with_reducible exact Find.here _) | apply Find.there)); done) | (repeat (first | exact Find.here _ | apply Find.there)))))) (Room_ctr (by first | assumption | omega | (simp only [mkS_size, List.length_take, List.length_drop, bl_length]; omega) | (simp only [mkS_size, size_app, List.length_take, List.length_drop, List.length_append, bl_length, List.length_cons, List.length_nil, size_mk]; omega))) (Wt.yes rfl rfl rfl) rfl ?_
      rintro _ _ ⟨rfl, hA_⟩
      replace hA_ := hA_.symm; subst hA_
      refine RunL.pure (Pure.move rfl) (Wt.yes rfl rfl rfl) rfl rfl ?_
      refine RunL.call rfl rfl (by rfl) (by repeat (first | (with_reducible exact Take.nil _) | (apply Take.cons (by first | ((repeat (first | (with_reducible exact Find.here _) | apply Find.there)); done) | (repeat (first | exact Find.here _ | apply Find.there)))))) (rNamed_ctr (sg := 33) (by decide) (by first | assumption | omega | (simp only [mkS_size, List.length_take, List.length_drop, bl_length]; omega) | (simp only [mkS_size, size_app, List.length_take, List.length_drop, List.length_append, bl_length, List.length_cons, List.length_nil, size_mk]; omega))) (Wt.yes rfl rfl rfl) rfl ?_
      rintro _ _ ⟨rfl, hA_⟩
      replace hA_ := hA_.symm; subst hA_
      refine RunL.pure (Pure.bneq rfl rfl und4) (Wt.yes rfl rfl rfl) rfl rfl ?_
      refine RunL.pure (Pure.pickF rfl rfl) (Wt.none rfl) rfl rfl ?_
      refine RunL.mv rfl rfl ?_
      refine RunL.split (d := 76) rfl (fun hg3 => ?_) (fun hg3 => ?_)
      · try simp only [decide_eq_true_eq, decide_eq_false_iff_not, beq_iff_eq, beq_eq_false_iff_ne, bne_iff_ne, ne_eq, Bool.not_eq_true', Bool.not_eq_false', Bool.not_eq_true, Bool.not_eq_false, Int.not_lt, Int.not_le, Decidable.not_not, bne_eq_false_iff_eq, gt_iff_lt, ge_iff_le, Bool.or_eq_true, Bool.and_eq_true] at hg3
        exfalso
        simp at hg3
      try simp only [decide_eq_true_eq, decide_eq_false_iff_not, beq_iff_eq, beq_eq_false_iff_ne, bne_iff_ne, ne_eq, Bool.not_eq_true', Bool.not_eq_false', Bool.not_eq_true, Bool.not_eq_false, Int.not_lt, Int.not_le, Decidable.not_not, bne_eq_false_iff_eq, gt_iff_lt, ge_iff_le, Bool.or_eq_true, Bool.and_eq_true] at hg3
      refine RunL.pure (Pure.move rfl) (Wt.yes rfl rfl rfl) rfl rfl ?_
      refine RunL.call rfl rfl (by rfl) (by repeat (first | (with_reducible exact Take.nil _) | (apply Take.cons (by first | ((repeat (first | (with_reducible exact Find.here _) | apply Find.there)); done) | (repeat (first | exact Find.here _ | apply Find.there)))))) (nEvent_ctr (by first | assumption | omega | (simp only [mkS_size, List.length_take, List.length_drop, bl_length]; omega) | (simp only [mkS_size, size_app, List.length_take, List.length_drop, List.length_append, bl_length, List.length_cons, List.length_nil, size_mk]; omega))) (Wt.yes rfl rfl rfl) rfl ?_
      rintro _ _ ⟨rfl, hA_⟩
      replace hA_ := hA_.symm; subst hA_
      refine RunL.pure (Pure.move rfl) (Wt.yes rfl rfl rfl) rfl rfl ?_
      refine RunL.call rfl rfl (by rfl) (by repeat (first | (with_reducible exact Take.nil _) | (apply Take.cons (by first | ((repeat (first | (with_reducible exact Find.here _) | apply Find.there)); done) | (repeat (first | exact Find.here _ | apply Find.there)))))) (rEvent_ctr (by first | assumption | omega | (simp only [mkS_size, List.length_take, List.length_drop, bl_length]; omega) | (simp only [mkS_size, size_app, List.length_take, List.length_drop, List.length_append, bl_length, List.length_cons, List.length_nil, size_mk]; omega))) (Wt.yes rfl rfl rfl) rfl ?_
      rintro _ _ ⟨rfl, hA_⟩
      replace hA_ := hA_.symm; subst hA_
      refine RunL.pure (Pure.bneq rfl rfl und4) (Wt.yes rfl rfl rfl) rfl rfl ?_
      refine RunL.pure (Pure.pickF rfl rfl) (Wt.none rfl) rfl rfl ?_
      refine RunL.mv rfl rfl ?_
      refine RunL.split (d := 83) rfl (fun hg4 => ?_) (fun hg4 => ?_)
      · try simp only [decide_eq_true_eq, decide_eq_false_iff_not, beq_iff_eq, beq_eq_false_iff_ne, bne_iff_ne, ne_eq, Bool.not_eq_true', Bool.not_eq_false', Bool.not_eq_true, Bool.not_eq_false, Int.not_lt, Int.not_le, Decidable.not_not, bne_eq_false_iff_eq, gt_iff_lt, ge_iff_le, Bool.or_eq_true, Bool.and_eq_true] at hg4
        exfalso
        simp at hg4
      try simp only [decide_eq_true_eq, decide_eq_false_iff_not, beq_iff_eq, beq_eq_false_iff_ne, bne_iff_ne, ne_eq, Bool.not_eq_true', Bool.not_eq_false', Bool.not_eq_true, Bool.not_eq_false, Int.not_lt, Int.not_le, Decidable.not_not, bne_eq_false_iff_eq, gt_iff_lt, ge_iff_le, Bool.or_eq_true, Bool.and_eq_true] at hg4
      refine RunL.pure (Pure.move rfl) (Wt.yes rfl rfl rfl) rfl rfl ?_
      refine RunL.call rfl rfl (by rfl) (by repeat (first | (with_reducible exact Take.nil _) | (apply Take.cons (by first | ((repeat (first | (with_reducible exact Find.here _) | apply Find.there)); done) | (repeat (first | exact Find.here _ | apply Find.there)))))) (nThread_ctr (by first | assumption | omega | (simp only [mkS_size, List.length_take, List.length_drop, bl_length]; omega) | (simp only [mkS_size, size_app, List.length_take, List.length_drop, List.length_append, bl_length, List.length_cons, List.length_nil, size_mk]; omega))) (Wt.yes rfl rfl rfl) rfl ?_
      rintro _ _ ⟨rfl, hA_⟩
      replace hA_ := hA_.symm; subst hA_
      refine RunL.pure (Pure.move rfl) (Wt.yes rfl rfl rfl) rfl rfl ?_
      refine RunL.call rfl rfl (by rfl) (by repeat (first | (with_reducible exact Take.nil _) | (apply Take.cons (by first | ((repeat (first | (with_reducible exact Find.here _) | apply Find.there)); done) | (repeat (first | exact Find.here _ | apply Find.there)))))) (rThread_ctr (by first | assumption | omega | (simp only [mkS_size, List.length_take, List.length_drop, bl_length]; omega) | (simp only [mkS_size, size_app, List.length_take, List.length_drop, List.length_append, bl_length, List.length_cons, List.length_nil, size_mk]; omega))) (Wt.yes rfl rfl rfl) rfl ?_
      rintro _ _ ⟨rfl, hA_⟩
      replace hA_ := hA_.symm; subst hA_
      refine RunL.pure (Pure.bneq rfl rfl und4) (Wt.yes rfl rfl rfl) rfl rfl ?_
      refine RunL.pure (Pure.pickF rfl rfl) (Wt.none rfl) rfl rfl ?_
      refine RunL.nil ?_
      refine Run.cond rfl (fun hc5 => ?_) (fun hc5 => ?_)
      · try simp only [decide_eq_true_eq, decide_eq_false_iff_not, beq_iff_eq, beq_eq_false_iff_ne, bne_iff_ne, ne_eq, Bool.not_eq_true', Bool.not_eq_false', Bool.not_eq_true, Bool.not_eq_false, Int.not_lt, Int.not_le, Decidable.not_not, bne_eq_false_iff_eq, gt_iff_lt, ge_iff_le, Bool.or_eq_true, Bool.and_eq_true] at hc5
        exfalso
        simp at hc5
      try simp only [decide_eq_true_eq, decide_eq_false_iff_not, beq_iff_eq, beq_eq_false_iff_ne, bne_iff_ne, ne_eq, Bool.not_eq_true', Bool.not_eq_false', Bool.not_eq_true, Bool.not_eq_false, Int.not_lt, Int.not_le, Decidable.not_not, bne_eq_false_iff_eq, gt_iff_lt, ge_iff_le, Bool.or_eq_true, Bool.and_eq_true] at hc5
      refine Run.skip ?_
      refine Run.inBlock ?_
      refine Run.region ?_
      refine RunL.mv rfl rfl ?_
      first | refine RunL.pure (Pure.addI rfl rfl (by omega)) (Wt.none rfl) rfl rfl ?_ | refine RunL.pure (Pure.add rfl rfl) (Wt.none rfl) rfl rfl ?_
      refine RunL.as rfl rfl ?_
      refine RunL.nil ?_
      refine Run.keep (.cons rfl (.cons rfl (.nil)) : Keep _ [11, 12] _) ?_
      refine Run.againF (F := F) ih (by exact ⟨i + 1, by omega, rfl, rfl, rfl⟩) (by repeat (first | (with_reducible exact Fin.done (by repeat (first | (with_reducible exact Rest.here) | apply Rest.there))) | (apply Fin.cons (by first | ((repeat (first | (with_reducible exact Find.here _) | apply Find.there)); done) | (repeat (first | exact Find.here _ | apply Find.there)))))) ?_
      omega
    · try simp only [decide_eq_true_eq, decide_eq_false_iff_not, beq_iff_eq, beq_eq_false_iff_ne, bne_iff_ne, ne_eq, Bool.not_eq_true', Bool.not_eq_false', Bool.not_eq_true, Bool.not_eq_false, Int.not_lt, Int.not_le, Decidable.not_not, bne_eq_false_iff_eq, gt_iff_lt, ge_iff_le, Bool.or_eq_true, Bool.and_eq_true] at hi5
      refine Run.exit rfl ?_
      refine Run.sr ?_
      refine RunL.call rfl rfl (by rfl) (by repeat (first | (with_reducible exact Take.nil _) | (apply Take.cons (by first | ((repeat (first | (with_reducible exact Find.here _) | apply Find.there)); done) | (repeat (first | exact Find.here _ | apply Find.there)))))) (lives_ctr) (Wt.none rfl) rfl ?_
      rintro _ _ ⟨rfl, hA_⟩
      replace hA_ := hA_.symm; subst hA_
      refine RunL.as rfl rfl ?_
      refine RunL.nil ?_
      exact Run.ret Try.func5 (res1 rfl rfl) (by exact ⟨rfl, rfl⟩) (by repeat (first | (with_reducible exact Fin.done (by repeat (first | (with_reducible exact Rest.here) | apply Rest.there))) | (apply Fin.cons (by first | ((repeat (first | (with_reducible exact Find.here _) | apply Find.there)); done) | (repeat (first | exact Find.here _ | apply Find.there))))))
  · skip
    refine Run.regionD' (by kernel_rfl) (by kernel_rfl) (fun hok155 => ?_)
    refine RunD.pure (i := 0) hok155 rfl (by kernel_rfl) (Pure.move rfl) (Wt.none rfl) rfl rfl ?_
    refine RunD.pure (i := 2) hok155 rfl (by kernel_rfl) (Pure.move rfl) (Wt.none rfl) rfl rfl ?_
    refine RunD.pure (i := 3) hok155 rfl (by kernel_rfl) (Pure.move rfl) (Wt.none rfl) rfl rfl ?_
    refine RunD.pure (i := 6) hok155 rfl (by kernel_rfl) (Pure.move rfl) (Wt.none rfl) rfl rfl ?_
    refine RunD.pure (i := 8) hok155 rfl (by kernel_rfl) (Pure.move rfl) (Wt.none rfl) rfl rfl ?_
    refine RunD.pure (i := 9) hok155 rfl (by kernel_rfl) (Pure.sadd rfl rfl (by first | omega | (simp only [size_mk, size_app, List.length_append, bl_length, List.length_cons, List.length_nil]; omega) | (simp; omega))) (Wt.none rfl) rfl rfl ?_
    refine RunD.pure (i := 10) hok155 rfl (by kernel_rfl) (Pure.sadd rfl rfl (by first | omega | (simp only [size_mk, size_app, List.length_append, bl_length, List.length_cons, List.length_nil]; omega) | (simp; omega))) (Wt.none rfl) rfl rfl ?_
    refine RunD.pure (i := 11) hok155 rfl (by kernel_rfl) (Pure.move rfl) (Wt.none rfl) rfl rfl ?_
    refine RunD.pure (i := 12) hok155 rfl (by kernel_rfl) (Pure.sadd rfl rfl (by first | omega | (simp only [size_mk, size_app, List.length_append, bl_length, List.length_cons, List.length_nil]; omega) | (simp; omega))) (Wt.none rfl) rfl rfl ?_
    refine RunD.pure (i := 13) hok155 rfl (by kernel_rfl) (Pure.move rfl) (Wt.none rfl) rfl rfl ?_
    refine RunD.pure (i := 14) hok155 rfl (by kernel_rfl) (Pure.sadd rfl rfl (by first | omega | (simp only [size_mk, size_app, List.length_append, bl_length, List.length_cons, List.length_nil]; omega) | (simp; omega))) (Wt.none rfl) rfl rfl ?_
    refine RunD.pure (i := 15) hok155 rfl (by kernel_rfl) (Pure.sadd rfl rfl (by first | omega | (simp only [size_mk, size_app, List.length_append, bl_length, List.length_cons, List.length_nil]; omega) | (simp; omega))) (Wt.none rfl) rfl rfl ?_
    refine RunD.pure (i := 16) hok155 rfl (by kernel_rfl) (Pure.move rfl) (Wt.none rfl) rfl rfl ?_
    refine RunD.pure (i := 17) hok155 rfl (by kernel_rfl) (Pure.sadd rfl rfl (by first | omega | (simp only [size_mk, size_app, List.length_append, bl_length, List.length_cons, List.length_nil]; omega) | (simp; omega))) (Wt.none rfl) rfl rfl ?_
    refine RunD.pure (i := 18) hok155 rfl (by kernel_rfl) (Pure.move rfl) (Wt.none rfl) rfl rfl ?_
    refine RunD.pure (i := 19) hok155 rfl (by kernel_rfl) (Pure.sadd rfl rfl (by first | omega | (simp only [size_mk, size_app, List.length_append, bl_length, List.length_cons, List.length_nil]; omega) | (simp; omega))) (Wt.none rfl) rfl rfl ?_
    refine RunD.pure (i := 20) hok155 rfl (by kernel_rfl) (Pure.move rfl) (Wt.none rfl) rfl rfl ?_
    refine RunD.pure (i := 23) hok155 rfl (by kernel_rfl) (Pure.move rfl) (Wt.none rfl) rfl rfl ?_
    refine RunD.pure (i := 26) hok155 rfl (by kernel_rfl) (Pure.move rfl) (Wt.none rfl) rfl rfl ?_
    refine RunD.three (i := 1) (j := 4) (l := 21) (by kernel_rfl) rfl rfl rfl ?_ ?_ ?_
    · skip
      refine RunL.call rfl rfl (by rfl) (by repeat (first | (with_reducible exact Take.nil _) | (apply Take.cons (by first | ((repeat (first | (with_reducible exact Find.here _) | apply Find.there)); done) | (repeat (first | exact Find.here _ | apply Find.there)))))) (FewC_ctr (m := 40) (by decide) (by decide)) (Wt.none rfl) rfl ?_
      rintro _ _ ⟨rfl, hA_⟩
      replace hA_ := hA_.symm; subst hA_
      refine RunL.nilD' ?_
      refine RunD.two (i := 4) (j := 21) (by kernel_rfl) rfl rfl ?_ ?_
      · skip
        refine RunL.lit (vals := [_]) (vs := ([sg] : List UInt8).map bv) und29 sz5 zz5 rfl rfl rfl rfl rfl rfl (by simp [Value.cells, bv]) rfl (Wt.none rfl) rfl ?_; intro b22
        refine RunL.nilD' ?_
        refine RunD.lend (Q := Sl 5 1 (some ⟨b22, 0, none⟩) 1 1 (([sg] : List UInt8).map bv)) Lends.Sl (by first | ((repeat (first | (with_reducible exact Find.here _) | apply Find.there)); done) | (repeat (first | exact Find.here _ | apply Find.there))) ?_; intro gb22 hlegb22 hb22 backgb22
        have g1_gb22 := g1.mono hlegb22
        have g2_gb22 := g2.mono hlegb22
        refine RunD.bytesStr (i := 5) hok155 rfl (by kernel_rfl) rfl und29 und5 und9 (hb22.1) (Wt.none rfl) rfl ?_
        refine RunD.pure (i := 7) hok155 rfl (by kernel_rfl) (Pure.sadd rfl rfl (by first | omega | (simp only [size_mk, size_app, List.length_append, bl_length, List.length_cons, List.length_nil]; omega) | (simp; omega))) (Wt.none rfl) rfl rfl ?_
        refine RunD.one (i := 21) (by kernel_rfl) rfl ?_
        · skip
          refine RunL.lit (vals := [_]) (vs := ([sg] : List UInt8).map bv) und29 sz5 zz5 rfl rfl rfl rfl rfl rfl (by simp [Value.cells, bv]) rfl (Wt.none rfl) rfl ?_; intro b39
          refine RunL.nilD' ?_
          refine RunD.lend (Q := Sl 5 1 (some ⟨b39, 0, none⟩) 1 1 (([sg] : List UInt8).map bv)) Lends.Sl (by first | ((repeat (first | (with_reducible exact Find.here _) | apply Find.there)); done) | (repeat (first | exact Find.here _ | apply Find.there))) ?_; intro gb39 hlegb39 hb39 backgb39
          try (replace hb22 := hb22.mono hlegb39)
          have g1_gb39 := g1_gb22.mono hlegb39
          have g2_gb39 := g2_gb22.mono hlegb39
          refine RunD.bytesStr (i := 22) hok155 rfl (by kernel_rfl) rfl und29 und5 und9 (hb39.1) (Wt.none rfl) rfl ?_
          refine RunD.pure (i := 24) hok155 rfl (by kernel_rfl) (Pure.sadd rfl rfl (by first | omega | (simp only [size_mk, size_app, List.length_append, bl_length, List.length_cons, List.length_nil]; omega) | (simp; omega))) (Wt.none rfl) rfl rfl ?_
          refine RunD.pure (i := 25) hok155 rfl (by kernel_rfl) (Pure.sadd rfl rfl (by first | omega | (simp only [size_mk, size_app, List.length_append, bl_length, List.length_cons, List.length_nil]; omega) | (simp; omega))) (Wt.none rfl) rfl rfl ?_
          refine RunD.pure (i := 27) hok155 rfl (by kernel_rfl) (Pure.sadd rfl rfl (by first | omega | (simp only [size_mk, size_app, List.length_append, bl_length, List.length_cons, List.length_nil]; omega) | (simp; omega))) (Wt.none rfl) rfl rfl ?_
          refine RunD.one (i := 28) (by kernel_rfl) rfl ?_
          · skip
            refine RunL.lit (vals := [_, _, _, _, _, _, _]) (vs := ([(cut s 40), x, ((⟨[sg].toArray⟩ : ByteArray) ++ x), ((⟨#[64]⟩ : ByteArray) ++ x ++ (⟨#[58]⟩ : ByteArray) ++ y), ((⟨#[33]⟩ : ByteArray) ++ x ++ (⟨#[58]⟩ : ByteArray) ++ y), ((⟨#[36]⟩ : ByteArray) ++ x), ((⟨[sg].toArray⟩ : ByteArray) ++ x ++ (⟨#[58]⟩ : ByteArray) ++ y)] : List ByteArray).map Value.string) und25 sz9 zz9 rfl rfl rfl rfl rfl rfl (by simp [Value.cells, bv]) rfl (Wt.none rfl) rfl ?_; intro b46
            refine RunL.nilD' ?_
            refine RunD.pure (i := 29) hok155 rfl (by kernel_rfl) (Pure.assign rfl) (Wt.none rfl) rfl rfl ?_
            refine RunD.nilB (by kernel_rfl) (fun w sw => backgb22 _ _ (backgb39 _ _ (sw))) ?_
            refine Run.keep (.cons rfl (.nil) : Keep _ [11] _) ?_
            exact Run.meetF (F := F) hk (by exact ⟨b46, [(cut s 40), x, ((⟨[sg].toArray⟩ : ByteArray) ++ x), ((⟨#[64]⟩ : ByteArray) ++ x ++ (⟨#[58]⟩ : ByteArray) ++ y), ((⟨#[33]⟩ : ByteArray) ++ x ++ (⟨#[58]⟩ : ByteArray) ++ y), ((⟨#[36]⟩ : ByteArray) ++ x), ((⟨[sg].toArray⟩ : ByteArray) ++ x ++ (⟨#[58]⟩ : ByteArray) ++ y)], rfl, by intro q hq; simp only [List.mem_cons, List.not_mem_nil, or_false] at hq; rcases hq with rfl | rfl | rfl | rfl | rfl | rfl | rfl <;> (first | omega | (simp only [size_app, size_mk, List.length_cons, List.length_nil]; omega) | (have := cut_size s 40; omega)), rfl, rfl⟩) (by repeat (first | (with_reducible exact Fin.done (by repeat (first | (with_reducible exact Rest.here) | apply Rest.there))) | (apply Fin.cons (by first | ((repeat (first | (with_reducible exact Find.here _) | apply Find.there)); done) | (repeat (first | exact Find.here _ | apply Find.there))))))
      · skip
        refine RunL.lit (vals := [_]) (vs := ([sg] : List UInt8).map bv) und29 sz5 zz5 rfl rfl rfl rfl rfl rfl (by simp [Value.cells, bv]) rfl (Wt.none rfl) rfl ?_; intro b39
        refine RunL.nilD' ?_
        refine RunD.lend (Q := Sl 5 1 (some ⟨b39, 0, none⟩) 1 1 (([sg] : List UInt8).map bv)) Lends.Sl (by first | ((repeat (first | (with_reducible exact Find.here _) | apply Find.there)); done) | (repeat (first | exact Find.here _ | apply Find.there))) ?_; intro gb39 hlegb39 hb39 backgb39
        have g1_gb39 := g1.mono hlegb39
        have g2_gb39 := g2.mono hlegb39
        refine RunD.bytesStr (i := 22) hok155 rfl (by kernel_rfl) rfl und29 und5 und9 (hb39.1) (Wt.none rfl) rfl ?_
        refine RunD.pure (i := 24) hok155 rfl (by kernel_rfl) (Pure.sadd rfl rfl (by first | omega | (simp only [size_mk, size_app, List.length_append, bl_length, List.length_cons, List.length_nil]; omega) | (simp; omega))) (Wt.none rfl) rfl rfl ?_
        refine RunD.pure (i := 25) hok155 rfl (by kernel_rfl) (Pure.sadd rfl rfl (by first | omega | (simp only [size_mk, size_app, List.length_append, bl_length, List.length_cons, List.length_nil]; omega) | (simp; omega))) (Wt.none rfl) rfl rfl ?_
        refine RunD.pure (i := 27) hok155 rfl (by kernel_rfl) (Pure.sadd rfl rfl (by first | omega | (simp only [size_mk, size_app, List.length_append, bl_length, List.length_cons, List.length_nil]; omega) | (simp; omega))) (Wt.none rfl) rfl rfl ?_
        refine RunD.one (i := 4) (by kernel_rfl) rfl ?_
        · skip
          refine RunL.lit (vals := [_]) (vs := ([sg] : List UInt8).map bv) und29 sz5 zz5 rfl rfl rfl rfl rfl rfl (by simp [Value.cells, bv]) rfl (Wt.none rfl) rfl ?_; intro b22
          refine RunL.nilD' ?_
          refine RunD.lend (Q := Sl 5 1 (some ⟨b22, 0, none⟩) 1 1 (([sg] : List UInt8).map bv)) Lends.Sl (by first | ((repeat (first | (with_reducible exact Find.here _) | apply Find.there)); done) | (repeat (first | exact Find.here _ | apply Find.there))) ?_; intro gb22 hlegb22 hb22 backgb22
          try (replace hb39 := hb39.mono hlegb22)
          have g1_gb22 := g1_gb39.mono hlegb22
          have g2_gb22 := g2_gb39.mono hlegb22
          refine RunD.bytesStr (i := 5) hok155 rfl (by kernel_rfl) rfl und29 und5 und9 (hb22.1) (Wt.none rfl) rfl ?_
          refine RunD.pure (i := 7) hok155 rfl (by kernel_rfl) (Pure.sadd rfl rfl (by first | omega | (simp only [size_mk, size_app, List.length_append, bl_length, List.length_cons, List.length_nil]; omega) | (simp; omega))) (Wt.none rfl) rfl rfl ?_
          refine RunD.one (i := 28) (by kernel_rfl) rfl ?_
          · skip
            refine RunL.lit (vals := [_, _, _, _, _, _, _]) (vs := ([(cut s 40), x, ((⟨[sg].toArray⟩ : ByteArray) ++ x), ((⟨#[64]⟩ : ByteArray) ++ x ++ (⟨#[58]⟩ : ByteArray) ++ y), ((⟨#[33]⟩ : ByteArray) ++ x ++ (⟨#[58]⟩ : ByteArray) ++ y), ((⟨#[36]⟩ : ByteArray) ++ x), ((⟨[sg].toArray⟩ : ByteArray) ++ x ++ (⟨#[58]⟩ : ByteArray) ++ y)] : List ByteArray).map Value.string) und25 sz9 zz9 rfl rfl rfl rfl rfl rfl (by simp [Value.cells, bv]) rfl (Wt.none rfl) rfl ?_; intro b46
            refine RunL.nilD' ?_
            refine RunD.pure (i := 29) hok155 rfl (by kernel_rfl) (Pure.assign rfl) (Wt.none rfl) rfl rfl ?_
            refine RunD.nilB (by kernel_rfl) (fun w sw => backgb39 _ _ (backgb22 _ _ (sw))) ?_
            refine Run.keep (.cons rfl (.nil) : Keep _ [11] _) ?_
            exact Run.meetF (F := F) hk (by exact ⟨b46, [(cut s 40), x, ((⟨[sg].toArray⟩ : ByteArray) ++ x), ((⟨#[64]⟩ : ByteArray) ++ x ++ (⟨#[58]⟩ : ByteArray) ++ y), ((⟨#[33]⟩ : ByteArray) ++ x ++ (⟨#[58]⟩ : ByteArray) ++ y), ((⟨#[36]⟩ : ByteArray) ++ x), ((⟨[sg].toArray⟩ : ByteArray) ++ x ++ (⟨#[58]⟩ : ByteArray) ++ y)], rfl, by intro q hq; simp only [List.mem_cons, List.not_mem_nil, or_false] at hq; rcases hq with rfl | rfl | rfl | rfl | rfl | rfl | rfl <;> (first | omega | (simp only [size_app, size_mk, List.length_cons, List.length_nil]; omega) | (have := cut_size s 40; omega)), rfl, rfl⟩) (by repeat (first | (with_reducible exact Fin.done (by repeat (first | (with_reducible exact Rest.here) | apply Rest.there))) | (apply Fin.cons (by first | ((repeat (first | (with_reducible exact Find.here _) | apply Find.there)); done) | (repeat (first | exact Find.here _ | apply Find.there))))))
    · skip
      refine RunL.lit (vals := [_]) (vs := ([sg] : List UInt8).map bv) und29 sz5 zz5 rfl rfl rfl rfl rfl rfl (by simp [Value.cells, bv]) rfl (Wt.none rfl) rfl ?_; intro b22
      refine RunL.nilD' ?_
      refine RunD.lend (Q := Sl 5 1 (some ⟨b22, 0, none⟩) 1 1 (([sg] : List UInt8).map bv)) Lends.Sl (by first | ((repeat (first | (with_reducible exact Find.here _) | apply Find.there)); done) | (repeat (first | exact Find.here _ | apply Find.there))) ?_; intro gb22 hlegb22 hb22 backgb22
      have g1_gb22 := g1.mono hlegb22
      have g2_gb22 := g2.mono hlegb22
      refine RunD.bytesStr (i := 5) hok155 rfl (by kernel_rfl) rfl und29 und5 und9 (hb22.1) (Wt.none rfl) rfl ?_
      refine RunD.pure (i := 7) hok155 rfl (by kernel_rfl) (Pure.sadd rfl rfl (by first | omega | (simp only [size_mk, size_app, List.length_append, bl_length, List.length_cons, List.length_nil]; omega) | (simp; omega))) (Wt.none rfl) rfl rfl ?_
      refine RunD.two (i := 1) (j := 21) (by kernel_rfl) rfl rfl ?_ ?_
      · skip
        refine RunL.call rfl rfl (by rfl) (by repeat (first | (with_reducible exact Take.nil _) | (apply Take.cons (by first | ((repeat (first | (with_reducible exact Find.here _) | apply Find.there)); done) | (repeat (first | exact Find.here _ | apply Find.there)))))) (FewC_ctr (m := 40) (by decide) (by decide)) (Wt.none rfl) rfl ?_
        rintro _ _ ⟨rfl, hA_⟩
        replace hA_ := hA_.symm; subst hA_
        refine RunL.nilD' ?_
        refine RunD.one (i := 21) (by kernel_rfl) rfl ?_
        · skip
          refine RunL.lit (vals := [_]) (vs := ([sg] : List UInt8).map bv) und29 sz5 zz5 rfl rfl rfl rfl rfl rfl (by simp [Value.cells, bv]) rfl (Wt.none rfl) rfl ?_; intro b39
          refine RunL.nilD' ?_
          refine RunD.lend (Q := Sl 5 1 (some ⟨b39, 0, none⟩) 1 1 (([sg] : List UInt8).map bv)) Lends.Sl (by first | ((repeat (first | (with_reducible exact Find.here _) | apply Find.there)); done) | (repeat (first | exact Find.here _ | apply Find.there))) ?_; intro gb39 hlegb39 hb39 backgb39
          try (replace hb22 := hb22.mono hlegb39)
          have g1_gb39 := g1_gb22.mono hlegb39
          have g2_gb39 := g2_gb22.mono hlegb39
          refine RunD.bytesStr (i := 22) hok155 rfl (by kernel_rfl) rfl und29 und5 und9 (hb39.1) (Wt.none rfl) rfl ?_
          refine RunD.pure (i := 24) hok155 rfl (by kernel_rfl) (Pure.sadd rfl rfl (by first | omega | (simp only [size_mk, size_app, List.length_append, bl_length, List.length_cons, List.length_nil]; omega) | (simp; omega))) (Wt.none rfl) rfl rfl ?_
          refine RunD.pure (i := 25) hok155 rfl (by kernel_rfl) (Pure.sadd rfl rfl (by first | omega | (simp only [size_mk, size_app, List.length_append, bl_length, List.length_cons, List.length_nil]; omega) | (simp; omega))) (Wt.none rfl) rfl rfl ?_
          refine RunD.pure (i := 27) hok155 rfl (by kernel_rfl) (Pure.sadd rfl rfl (by first | omega | (simp only [size_mk, size_app, List.length_append, bl_length, List.length_cons, List.length_nil]; omega) | (simp; omega))) (Wt.none rfl) rfl rfl ?_
          refine RunD.one (i := 28) (by kernel_rfl) rfl ?_
          · skip
            refine RunL.lit (vals := [_, _, _, _, _, _, _]) (vs := ([(cut s 40), x, ((⟨[sg].toArray⟩ : ByteArray) ++ x), ((⟨#[64]⟩ : ByteArray) ++ x ++ (⟨#[58]⟩ : ByteArray) ++ y), ((⟨#[33]⟩ : ByteArray) ++ x ++ (⟨#[58]⟩ : ByteArray) ++ y), ((⟨#[36]⟩ : ByteArray) ++ x), ((⟨[sg].toArray⟩ : ByteArray) ++ x ++ (⟨#[58]⟩ : ByteArray) ++ y)] : List ByteArray).map Value.string) und25 sz9 zz9 rfl rfl rfl rfl rfl rfl (by simp [Value.cells, bv]) rfl (Wt.none rfl) rfl ?_; intro b46
            refine RunL.nilD' ?_
            refine RunD.pure (i := 29) hok155 rfl (by kernel_rfl) (Pure.assign rfl) (Wt.none rfl) rfl rfl ?_
            refine RunD.nilB (by kernel_rfl) (fun w sw => backgb22 _ _ (backgb39 _ _ (sw))) ?_
            refine Run.keep (.cons rfl (.nil) : Keep _ [11] _) ?_
            exact Run.meetF (F := F) hk (by exact ⟨b46, [(cut s 40), x, ((⟨[sg].toArray⟩ : ByteArray) ++ x), ((⟨#[64]⟩ : ByteArray) ++ x ++ (⟨#[58]⟩ : ByteArray) ++ y), ((⟨#[33]⟩ : ByteArray) ++ x ++ (⟨#[58]⟩ : ByteArray) ++ y), ((⟨#[36]⟩ : ByteArray) ++ x), ((⟨[sg].toArray⟩ : ByteArray) ++ x ++ (⟨#[58]⟩ : ByteArray) ++ y)], rfl, by intro q hq; simp only [List.mem_cons, List.not_mem_nil, or_false] at hq; rcases hq with rfl | rfl | rfl | rfl | rfl | rfl | rfl <;> (first | omega | (simp only [size_app, size_mk, List.length_cons, List.length_nil]; omega) | (have := cut_size s 40; omega)), rfl, rfl⟩) (by repeat (first | (with_reducible exact Fin.done (by repeat (first | (with_reducible exact Rest.here) | apply Rest.there))) | (apply Fin.cons (by first | ((repeat (first | (with_reducible exact Find.here _) | apply Find.there)); done) | (repeat (first | exact Find.here _ | apply Find.there))))))
      · skip
        refine RunL.lit (vals := [_]) (vs := ([sg] : List UInt8).map bv) und29 sz5 zz5 rfl rfl rfl rfl rfl rfl (by simp [Value.cells, bv]) rfl (Wt.none rfl) rfl ?_; intro b39
        refine RunL.nilD' ?_
        refine RunD.lend (Q := Sl 5 1 (some ⟨b39, 0, none⟩) 1 1 (([sg] : List UInt8).map bv)) Lends.Sl (by first | ((repeat (first | (with_reducible exact Find.here _) | apply Find.there)); done) | (repeat (first | exact Find.here _ | apply Find.there))) ?_; intro gb39 hlegb39 hb39 backgb39
        try (replace hb22 := hb22.mono hlegb39)
        have g1_gb39 := g1_gb22.mono hlegb39
        have g2_gb39 := g2_gb22.mono hlegb39
        refine RunD.bytesStr (i := 22) hok155 rfl (by kernel_rfl) rfl und29 und5 und9 (hb39.1) (Wt.none rfl) rfl ?_
        refine RunD.pure (i := 24) hok155 rfl (by kernel_rfl) (Pure.sadd rfl rfl (by first | omega | (simp only [size_mk, size_app, List.length_append, bl_length, List.length_cons, List.length_nil]; omega) | (simp; omega))) (Wt.none rfl) rfl rfl ?_
        refine RunD.pure (i := 25) hok155 rfl (by kernel_rfl) (Pure.sadd rfl rfl (by first | omega | (simp only [size_mk, size_app, List.length_append, bl_length, List.length_cons, List.length_nil]; omega) | (simp; omega))) (Wt.none rfl) rfl rfl ?_
        refine RunD.pure (i := 27) hok155 rfl (by kernel_rfl) (Pure.sadd rfl rfl (by first | omega | (simp only [size_mk, size_app, List.length_append, bl_length, List.length_cons, List.length_nil]; omega) | (simp; omega))) (Wt.none rfl) rfl rfl ?_
        refine RunD.one (i := 1) (by kernel_rfl) rfl ?_
        · skip
          refine RunL.call rfl rfl (by rfl) (by repeat (first | (with_reducible exact Take.nil _) | (apply Take.cons (by first | ((repeat (first | (with_reducible exact Find.here _) | apply Find.there)); done) | (repeat (first | exact Find.here _ | apply Find.there)))))) (FewC_ctr (m := 40) (by decide) (by decide)) (Wt.none rfl) rfl ?_
          rintro _ _ ⟨rfl, hA_⟩
          replace hA_ := hA_.symm; subst hA_
          refine RunL.nilD' ?_
          refine RunD.one (i := 28) (by kernel_rfl) rfl ?_
          · skip
            refine RunL.lit (vals := [_, _, _, _, _, _, _]) (vs := ([(cut s 40), x, ((⟨[sg].toArray⟩ : ByteArray) ++ x), ((⟨#[64]⟩ : ByteArray) ++ x ++ (⟨#[58]⟩ : ByteArray) ++ y), ((⟨#[33]⟩ : ByteArray) ++ x ++ (⟨#[58]⟩ : ByteArray) ++ y), ((⟨#[36]⟩ : ByteArray) ++ x), ((⟨[sg].toArray⟩ : ByteArray) ++ x ++ (⟨#[58]⟩ : ByteArray) ++ y)] : List ByteArray).map Value.string) und25 sz9 zz9 rfl rfl rfl rfl rfl rfl (by simp [Value.cells, bv]) rfl (Wt.none rfl) rfl ?_; intro b46
            refine RunL.nilD' ?_
            refine RunD.pure (i := 29) hok155 rfl (by kernel_rfl) (Pure.assign rfl) (Wt.none rfl) rfl rfl ?_
            refine RunD.nilB (by kernel_rfl) (fun w sw => backgb22 _ _ (backgb39 _ _ (sw))) ?_
            refine Run.keep (.cons rfl (.nil) : Keep _ [11] _) ?_
            exact Run.meetF (F := F) hk (by exact ⟨b46, [(cut s 40), x, ((⟨[sg].toArray⟩ : ByteArray) ++ x), ((⟨#[64]⟩ : ByteArray) ++ x ++ (⟨#[58]⟩ : ByteArray) ++ y), ((⟨#[33]⟩ : ByteArray) ++ x ++ (⟨#[58]⟩ : ByteArray) ++ y), ((⟨#[36]⟩ : ByteArray) ++ x), ((⟨[sg].toArray⟩ : ByteArray) ++ x ++ (⟨#[58]⟩ : ByteArray) ++ y)], rfl, by intro q hq; simp only [List.mem_cons, List.not_mem_nil, or_false] at hq; rcases hq with rfl | rfl | rfl | rfl | rfl | rfl | rfl <;> (first | omega | (simp only [size_app, size_mk, List.length_cons, List.length_nil]; omega) | (have := cut_size s 40; omega)), rfl, rfl⟩) (by repeat (first | (with_reducible exact Fin.done (by repeat (first | (with_reducible exact Rest.here) | apply Rest.there))) | (apply Fin.cons (by first | ((repeat (first | (with_reducible exact Find.here _) | apply Find.there)); done) | (repeat (first | exact Find.here _ | apply Find.there))))))
    · skip
      refine RunL.lit (vals := [_]) (vs := ([sg] : List UInt8).map bv) und29 sz5 zz5 rfl rfl rfl rfl rfl rfl (by simp [Value.cells, bv]) rfl (Wt.none rfl) rfl ?_; intro b39
      refine RunL.nilD' ?_
      refine RunD.lend (Q := Sl 5 1 (some ⟨b39, 0, none⟩) 1 1 (([sg] : List UInt8).map bv)) Lends.Sl (by first | ((repeat (first | (with_reducible exact Find.here _) | apply Find.there)); done) | (repeat (first | exact Find.here _ | apply Find.there))) ?_; intro gb39 hlegb39 hb39 backgb39
      have g1_gb39 := g1.mono hlegb39
      have g2_gb39 := g2.mono hlegb39
      refine RunD.bytesStr (i := 22) hok155 rfl (by kernel_rfl) rfl und29 und5 und9 (hb39.1) (Wt.none rfl) rfl ?_
      refine RunD.pure (i := 24) hok155 rfl (by kernel_rfl) (Pure.sadd rfl rfl (by first | omega | (simp only [size_mk, size_app, List.length_append, bl_length, List.length_cons, List.length_nil]; omega) | (simp; omega))) (Wt.none rfl) rfl rfl ?_
      refine RunD.pure (i := 25) hok155 rfl (by kernel_rfl) (Pure.sadd rfl rfl (by first | omega | (simp only [size_mk, size_app, List.length_append, bl_length, List.length_cons, List.length_nil]; omega) | (simp; omega))) (Wt.none rfl) rfl rfl ?_
      refine RunD.pure (i := 27) hok155 rfl (by kernel_rfl) (Pure.sadd rfl rfl (by first | omega | (simp only [size_mk, size_app, List.length_append, bl_length, List.length_cons, List.length_nil]; omega) | (simp; omega))) (Wt.none rfl) rfl rfl ?_
      refine RunD.two (i := 1) (j := 4) (by kernel_rfl) rfl rfl ?_ ?_
      · skip
        refine RunL.call rfl rfl (by rfl) (by repeat (first | (with_reducible exact Take.nil _) | (apply Take.cons (by first | ((repeat (first | (with_reducible exact Find.here _) | apply Find.there)); done) | (repeat (first | exact Find.here _ | apply Find.there)))))) (FewC_ctr (m := 40) (by decide) (by decide)) (Wt.none rfl) rfl ?_
        rintro _ _ ⟨rfl, hA_⟩
        replace hA_ := hA_.symm; subst hA_
        refine RunL.nilD' ?_
        refine RunD.one (i := 4) (by kernel_rfl) rfl ?_
        · skip
          refine RunL.lit (vals := [_]) (vs := ([sg] : List UInt8).map bv) und29 sz5 zz5 rfl rfl rfl rfl rfl rfl (by simp [Value.cells, bv]) rfl (Wt.none rfl) rfl ?_; intro b22
          refine RunL.nilD' ?_
          refine RunD.lend (Q := Sl 5 1 (some ⟨b22, 0, none⟩) 1 1 (([sg] : List UInt8).map bv)) Lends.Sl (by first | ((repeat (first | (with_reducible exact Find.here _) | apply Find.there)); done) | (repeat (first | exact Find.here _ | apply Find.there))) ?_; intro gb22 hlegb22 hb22 backgb22
          try (replace hb39 := hb39.mono hlegb22)
          have g1_gb22 := g1_gb39.mono hlegb22
          have g2_gb22 := g2_gb39.mono hlegb22
          refine RunD.bytesStr (i := 5) hok155 rfl (by kernel_rfl) rfl und29 und5 und9 (hb22.1) (Wt.none rfl) rfl ?_
          refine RunD.pure (i := 7) hok155 rfl (by kernel_rfl) (Pure.sadd rfl rfl (by first | omega | (simp only [size_mk, size_app, List.length_append, bl_length, List.length_cons, List.length_nil]; omega) | (simp; omega))) (Wt.none rfl) rfl rfl ?_
          refine RunD.one (i := 28) (by kernel_rfl) rfl ?_
          · skip
            refine RunL.lit (vals := [_, _, _, _, _, _, _]) (vs := ([(cut s 40), x, ((⟨[sg].toArray⟩ : ByteArray) ++ x), ((⟨#[64]⟩ : ByteArray) ++ x ++ (⟨#[58]⟩ : ByteArray) ++ y), ((⟨#[33]⟩ : ByteArray) ++ x ++ (⟨#[58]⟩ : ByteArray) ++ y), ((⟨#[36]⟩ : ByteArray) ++ x), ((⟨[sg].toArray⟩ : ByteArray) ++ x ++ (⟨#[58]⟩ : ByteArray) ++ y)] : List ByteArray).map Value.string) und25 sz9 zz9 rfl rfl rfl rfl rfl rfl (by simp [Value.cells, bv]) rfl (Wt.none rfl) rfl ?_; intro b46
            refine RunL.nilD' ?_
            refine RunD.pure (i := 29) hok155 rfl (by kernel_rfl) (Pure.assign rfl) (Wt.none rfl) rfl rfl ?_
            refine RunD.nilB (by kernel_rfl) (fun w sw => backgb39 _ _ (backgb22 _ _ (sw))) ?_
            refine Run.keep (.cons rfl (.nil) : Keep _ [11] _) ?_
            exact Run.meetF (F := F) hk (by exact ⟨b46, [(cut s 40), x, ((⟨[sg].toArray⟩ : ByteArray) ++ x), ((⟨#[64]⟩ : ByteArray) ++ x ++ (⟨#[58]⟩ : ByteArray) ++ y), ((⟨#[33]⟩ : ByteArray) ++ x ++ (⟨#[58]⟩ : ByteArray) ++ y), ((⟨#[36]⟩ : ByteArray) ++ x), ((⟨[sg].toArray⟩ : ByteArray) ++ x ++ (⟨#[58]⟩ : ByteArray) ++ y)], rfl, by intro q hq; simp only [List.mem_cons, List.not_mem_nil, or_false] at hq; rcases hq with rfl | rfl | rfl | rfl | rfl | rfl | rfl <;> (first | omega | (simp only [size_app, size_mk, List.length_cons, List.length_nil]; omega) | (have := cut_size s 40; omega)), rfl, rfl⟩) (by repeat (first | (with_reducible exact Fin.done (by repeat (first | (with_reducible exact Rest.here) | apply Rest.there))) | (apply Fin.cons (by first | ((repeat (first | (with_reducible exact Find.here _) | apply Find.there)); done) | (repeat (first | exact Find.here _ | apply Find.there))))))
      · skip
        refine RunL.lit (vals := [_]) (vs := ([sg] : List UInt8).map bv) und29 sz5 zz5 rfl rfl rfl rfl rfl rfl (by simp [Value.cells, bv]) rfl (Wt.none rfl) rfl ?_; intro b22
        refine RunL.nilD' ?_
        refine RunD.lend (Q := Sl 5 1 (some ⟨b22, 0, none⟩) 1 1 (([sg] : List UInt8).map bv)) Lends.Sl (by first | ((repeat (first | (with_reducible exact Find.here _) | apply Find.there)); done) | (repeat (first | exact Find.here _ | apply Find.there))) ?_; intro gb22 hlegb22 hb22 backgb22
        try (replace hb39 := hb39.mono hlegb22)
        have g1_gb22 := g1_gb39.mono hlegb22
        have g2_gb22 := g2_gb39.mono hlegb22
        refine RunD.bytesStr (i := 5) hok155 rfl (by kernel_rfl) rfl und29 und5 und9 (hb22.1) (Wt.none rfl) rfl ?_
        refine RunD.pure (i := 7) hok155 rfl (by kernel_rfl) (Pure.sadd rfl rfl (by first | omega | (simp only [size_mk, size_app, List.length_append, bl_length, List.length_cons, List.length_nil]; omega) | (simp; omega))) (Wt.none rfl) rfl rfl ?_
        refine RunD.one (i := 1) (by kernel_rfl) rfl ?_
        · skip
          refine RunL.call rfl rfl (by rfl) (by repeat (first | (with_reducible exact Take.nil _) | (apply Take.cons (by first | ((repeat (first | (with_reducible exact Find.here _) | apply Find.there)); done) | (repeat (first | exact Find.here _ | apply Find.there)))))) (FewC_ctr (m := 40) (by decide) (by decide)) (Wt.none rfl) rfl ?_
          rintro _ _ ⟨rfl, hA_⟩
          replace hA_ := hA_.symm; subst hA_
          refine RunL.nilD' ?_
          refine RunD.one (i := 28) (by kernel_rfl) rfl ?_
          · skip
            refine RunL.lit (vals := [_, _, _, _, _, _, _]) (vs := ([(cut s 40), x, ((⟨[sg].toArray⟩ : ByteArray) ++ x), ((⟨#[64]⟩ : ByteArray) ++ x ++ (⟨#[58]⟩ : ByteArray) ++ y), ((⟨#[33]⟩ : ByteArray) ++ x ++ (⟨#[58]⟩ : ByteArray) ++ y), ((⟨#[36]⟩ : ByteArray) ++ x), ((⟨[sg].toArray⟩ : ByteArray) ++ x ++ (⟨#[58]⟩ : ByteArray) ++ y)] : List ByteArray).map Value.string) und25 sz9 zz9 rfl rfl rfl rfl rfl rfl (by simp [Value.cells, bv]) rfl (Wt.none rfl) rfl ?_; intro b46
            refine RunL.nilD' ?_
            refine RunD.pure (i := 29) hok155 rfl (by kernel_rfl) (Pure.assign rfl) (Wt.none rfl) rfl rfl ?_
            refine RunD.nilB (by kernel_rfl) (fun w sw => backgb39 _ _ (backgb22 _ _ (sw))) ?_
            refine Run.keep (.cons rfl (.nil) : Keep _ [11] _) ?_
            exact Run.meetF (F := F) hk (by exact ⟨b46, [(cut s 40), x, ((⟨[sg].toArray⟩ : ByteArray) ++ x), ((⟨#[64]⟩ : ByteArray) ++ x ++ (⟨#[58]⟩ : ByteArray) ++ y), ((⟨#[33]⟩ : ByteArray) ++ x ++ (⟨#[58]⟩ : ByteArray) ++ y), ((⟨#[36]⟩ : ByteArray) ++ x), ((⟨[sg].toArray⟩ : ByteArray) ++ x ++ (⟨#[58]⟩ : ByteArray) ++ y)], rfl, by intro q hq; simp only [List.mem_cons, List.not_mem_nil, or_false] at hq; rcases hq with rfl | rfl | rfl | rfl | rfl | rfl | rfl <;> (first | omega | (simp only [size_app, size_mk, List.length_cons, List.length_nil]; omega) | (have := cut_size s 40; omega)), rfl, rfl⟩) (by repeat (first | (with_reducible exact Fin.done (by repeat (first | (with_reducible exact Rest.here) | apply Rest.there))) | (apply Fin.cons (by first | ((repeat (first | (with_reducible exact Find.here _) | apply Find.there)); done) | (repeat (first | exact Find.here _ | apply Find.there))))))

end Go.Proofs.Ytlfldbkpndmdhaa
