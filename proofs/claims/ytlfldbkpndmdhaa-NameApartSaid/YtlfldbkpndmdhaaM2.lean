/- Parts of names. -/
import Derived.Test.YtlfldbkpndmdhaaM1
set_option linter.unusedVariables false
set_option linter.unusedSimpArgs false
set_option linter.unusedSectionVars false
namespace Go.Proofs.Ytlfldbkpndmdhaa
open Go Csl
theorem und25 : Try.prog.underlying 25 = some (Go.TypeDesc.slice 9) := Try.underlying25
theorem sz9 : sizeIs Try.prog 9 = some 1 := by kernel_rfl
theorem zz9 : zeroIs Try.prog 9 = some (.string .empty) := by kernel_rfl

set_option maxHeartbeats 2000000 in
set_option maxRecDepth 100000 in
theorem NameParts_ctr {G : Gp} {s : ByteArray} {a1 : Option Addr} {l1 : List Int} {c1 : Nat} (g1 : SlR G 3 1 a1 l1.length (l1.map (Value.int .i64))) (g1w : ∀ z ∈ l1, (Lit.int .i64 z).wf = true) (g1b : l1.length ≤ 9223372036854775807) {a2 : Option Addr} {l2 : List Int} {c2 : Nat} (g2 : SlR G 3 1 a2 l2.length (l2.map (Value.int .i64))) (g2w : ∀ z ∈ l2, (Lit.int .i64 z).wf = true) (g2b : l2.length ≤ 9223372036854775807) :
    Ctr Try.prog G 3 [.string s, .slice a1 l1.length c1, .slice a2 l2.length c2] [] (fun F v A => v = .bool true ∧ A = F) := by
  refine Ctr.intro Try.func3 rfl (by kernel_rfl) rfl (fun F => ?_)
  simp only [List.nil_append]
  refine Run.sr ?_
  refine RunL.as rfl rfl ?_
  refine RunL.nil ?_
  refine Run.sr ?_
  refine RunL.mv rfl rfl ?_
  refine RunL.call rfl rfl (by rfl) (by repeat (first | (with_reducible exact Take.nil _) | (apply Take.cons (by first | ((repeat (first | (with_reducible exact Find.here _) | apply Find.there)); done) | (repeat (first | exact Find.here _ | apply Find.there)))))) (made_ctr (odd := ⟨#[]⟩) g1 g1w g1b (by decide) (by decide) (by decide)) (Wt.none rfl) rfl ?_
  rintro _ _ ⟨x, rfl, hx, hA_⟩
  replace hA_ := hA_.symm; subst hA_
  refine RunL.as rfl rfl ?_
  refine RunL.nil ?_
  refine Run.sr ?_
  refine RunL.mv rfl rfl ?_
  refine RunL.call rfl rfl (by rfl) (by repeat (first | (with_reducible exact Take.nil _) | (apply Take.cons (by first | ((repeat (first | (with_reducible exact Find.here _) | apply Find.there)); done) | (repeat (first | exact Find.here _ | apply Find.there)))))) (made_ctr (odd := ⟨#[]⟩) g2 g2w g2b (by decide) (by decide) (by decide)) (Wt.none rfl) rfl ?_
  rintro _ _ ⟨y, rfl, hy, hA_⟩
  replace hA_ := hA_.symm; subst hA_
  refine RunL.as rfl rfl ?_
  refine RunL.nil ?_
  refine Run.sr ?_
  refine RunL.mv rfl rfl ?_
  refine RunL.call rfl rfl (by rfl) (by repeat (first | (with_reducible exact Take.nil _) | (apply Take.cons (by first | ((repeat (first | (with_reducible exact Find.here _) | apply Find.there)); done) | (repeat (first | exact Find.here _ | apply Find.there)))))) (FewC_ctr (m := 40) (by decide) (by decide)) (Wt.none rfl) rfl ?_
  rintro _ _ ⟨rfl, hA_⟩
  replace hA_ := hA_.symm; subst hA_
  refine RunL.mv rfl rfl ?_
  refine RunL.pure (Pure.sadd rfl rfl (by first | omega | (simp only [size_mk, size_app, List.length_append, bl_length, List.length_cons, List.length_nil]; omega) | (simp; omega))) (Wt.none rfl) rfl rfl ?_
  refine RunL.pure (Pure.sadd rfl rfl (by first | omega | (simp only [size_mk, size_app, List.length_append, bl_length, List.length_cons, List.length_nil]; omega) | (simp; omega))) (Wt.none rfl) rfl rfl ?_
  refine RunL.mv rfl rfl ?_
  refine RunL.pure (Pure.sadd rfl rfl (by first | omega | (simp only [size_mk, size_app, List.length_append, bl_length, List.length_cons, List.length_nil]; omega) | (simp; omega))) (Wt.none rfl) rfl rfl ?_
  refine RunL.mv rfl rfl ?_
  refine RunL.pure (Pure.sadd rfl rfl (by first | omega | (simp only [size_mk, size_app, List.length_append, bl_length, List.length_cons, List.length_nil]; omega) | (simp; omega))) (Wt.none rfl) rfl rfl ?_
  refine RunL.pure (Pure.sadd rfl rfl (by first | omega | (simp only [size_mk, size_app, List.length_append, bl_length, List.length_cons, List.length_nil]; omega) | (simp; omega))) (Wt.none rfl) rfl rfl ?_
  refine RunL.mv rfl rfl ?_
  refine RunL.pure (Pure.sadd rfl rfl (by first | omega | (simp only [size_mk, size_app, List.length_append, bl_length, List.length_cons, List.length_nil]; omega) | (simp; omega))) (Wt.none rfl) rfl rfl ?_
  refine RunL.mv rfl rfl ?_
  refine RunL.pure (Pure.sadd rfl rfl (by first | omega | (simp only [size_mk, size_app, List.length_append, bl_length, List.length_cons, List.length_nil]; omega) | (simp; omega))) (Wt.none rfl) rfl rfl ?_
  refine RunL.mv rfl rfl ?_
  refine RunL.pure (Pure.sadd rfl rfl (by first | omega | (simp only [size_mk, size_app, List.length_append, bl_length, List.length_cons, List.length_nil]; omega) | (simp; omega))) (Wt.none rfl) rfl rfl ?_
  refine RunL.mv rfl rfl ?_
  refine RunL.pure (Pure.sadd rfl rfl (by first | omega | (simp only [size_mk, size_app, List.length_append, bl_length, List.length_cons, List.length_nil]; omega) | (simp; omega))) (Wt.none rfl) rfl rfl ?_
  refine RunL.pure (Pure.sadd rfl rfl (by first | omega | (simp only [size_mk, size_app, List.length_append, bl_length, List.length_cons, List.length_nil]; omega) | (simp; omega))) (Wt.none rfl) rfl rfl ?_
  refine RunL.mv rfl rfl ?_
  refine RunL.pure (Pure.sadd rfl rfl (by first | omega | (simp only [size_mk, size_app, List.length_append, bl_length, List.length_cons, List.length_nil]; omega) | (simp; omega))) (Wt.none rfl) rfl rfl ?_
  refine RunL.lit (vals := [_, _, _, _, _]) (vs := ([(cut s 40), ((⟨#[64]⟩ : ByteArray) ++ x ++ (⟨#[58]⟩ : ByteArray) ++ y), ((⟨#[33]⟩ : ByteArray) ++ x ++ (⟨#[58]⟩ : ByteArray) ++ y), (x ++ (⟨#[58]⟩ : ByteArray) ++ y), ((⟨#[64]⟩ : ByteArray) ++ x ++ (⟨#[58, 58]⟩ : ByteArray) ++ y)] : List ByteArray).map Value.string) und25 sz9 zz9 rfl rfl rfl rfl rfl rfl (by simp [Value.cells, bv]) rfl (Wt.none rfl) rfl ?_; intro b36
  obtain ⟨xs, hxs, hxn, hxz⟩ : ∃ xs : List ByteArray, ([(cut s 40), ((⟨#[64]⟩ : ByteArray) ++ x ++ (⟨#[58]⟩ : ByteArray) ++ y), ((⟨#[33]⟩ : ByteArray) ++ x ++ (⟨#[58]⟩ : ByteArray) ++ y), (x ++ (⟨#[58]⟩ : ByteArray) ++ y), ((⟨#[64]⟩ : ByteArray) ++ x ++ (⟨#[58, 58]⟩ : ByteArray) ++ y)] : List ByteArray).map Value.string = xs.map Value.string ∧ xs.length = 5 ∧ ∀ x ∈ xs, x.size ≤ 100 := ⟨([(cut s 40), ((⟨#[64]⟩ : ByteArray) ++ x ++ (⟨#[58]⟩ : ByteArray) ++ y), ((⟨#[33]⟩ : ByteArray) ++ x ++ (⟨#[58]⟩ : ByteArray) ++ y), (x ++ (⟨#[58]⟩ : ByteArray) ++ y), ((⟨#[64]⟩ : ByteArray) ++ x ++ (⟨#[58, 58]⟩ : ByteArray) ++ y)] : List ByteArray), rfl, rfl, by intro x hx; simp only [List.mem_cons, List.not_mem_nil, or_false] at hx; rcases hx with rfl | rfl | rfl | rfl | rfl <;> (first | omega | (simp only [size_app, size_mk, List.length_cons, List.length_nil]; omega) | (have := cut_size s 40; omega))⟩
  rw [hxs]
  refine RunL.as rfl rfl ?_
  refine RunL.nil ?_
  refine Run.lendAll (Q := Sl 9 1 (some ⟨b36, 0, none⟩) 5 5 _) (Lends.litRow (n := 5)) (by first | ((repeat (first | (with_reducible exact Find.here _) | apply Find.there)); done) | (repeat (first | exact Find.here _ | apply Find.there))) (fun Ghs0 hleGhs0 hs0 => ?_)
  replace g1 := g1.mono hleGhs0
  replace g2 := g2.mono hleGhs0
  obtain ⟨postx, hs⟩ := hs0
  refine Run.seq ?_
  refine Run.sr ?_
  refine RunL.as rfl rfl ?_
  refine RunL.nil ?_
  refine Run.block ?_
  refine Run.keep (.cons rfl (.cons rfl (.nil)) : Keep _ [9, 10] _) ?_
  refine Run.loopF (F := F) (fun n e A => ∃ (i : Nat), i ≤ 5 ∧ n = 5 - i ∧ e = [(9, .slice (some ⟨b36, 0, none⟩) 5 5), (10, .int .i64 (i : Nat))] ∧ A = F) (5) (by exact ⟨0, by omega, rfl, rfl, rfl⟩) (by repeat (first | (with_reducible exact Fin.done (by repeat (first | (with_reducible exact Rest.here) | apply Rest.there))) | (apply Fin.cons (by first | ((repeat (first | (with_reducible exact Find.here _) | apply Find.there)); done) | (repeat (first | exact Find.here _ | apply Find.there)))))) ?_
  rintro n _ _ ⟨i, hi, rfl, rfl, hA_⟩ ih
  replace hA_ := hA_.symm; subst hA_
  refine Run.seq ?_
  refine Run.sr ?_
  refine RunL.mv rfl rfl ?_
  refine RunL.mv rfl rfl ?_
  refine RunL.pure (Pure.lenSl rfl rfl und25) (Wt.none rfl) rfl rfl ?_
  refine RunL.pure (Pure.lss rfl rfl) (Wt.none rfl) rfl rfl ?_
  refine RunL.nil ?_
  refine Run.cond rfl (fun hi5 => ?_) (fun hi5 => ?_)
  · try simp only [decide_eq_true_eq, decide_eq_false_iff_not, beq_iff_eq, beq_eq_false_iff_ne, bne_iff_ne, ne_eq, Bool.not_eq_true', Bool.not_eq_false', Bool.not_eq_true, Bool.not_eq_false, Int.not_lt, Int.not_le, Decidable.not_not, bne_eq_false_iff_eq, gt_iff_lt, ge_iff_le, Bool.or_eq_true, Bool.and_eq_true] at hi5
    obtain ⟨t, ht⟩ := get_some (xs := xs) (i := i) (by omega)
    have htz := hxz t (List.mem_of_getElem? ht)
    refine Run.skip ?_
    refine Run.seq ?_
    refine Run.block ?_
    refine Run.seq ?_
    refine Run.regionD' (by kernel_rfl) (by kernel_rfl) (fun hok74 => ?_)
    refine RunD.pure (i := 0) hok74 rfl (by kernel_rfl) (Pure.move rfl) (Wt.none rfl) rfl rfl ?_
    refine RunD.pure (i := 1) hok74 rfl (by kernel_rfl) (Pure.move rfl) (Wt.none rfl) rfl rfl ?_
    refine RunD.pure (i := 2) hok74 rfl (by kernel_rfl) (Pure.indexAddr rfl rfl und25 sz9 (by omega) (by omega)) (Wt.none rfl) rfl rfl ?_
    refine RunD.load1R (i := 3) hok74 rfl (by kernel_rfl) rfl hs (elem1_at ht) agg9 (Wt.none rfl) rfl ?_
    refine RunD.pure (i := 5) hok74 rfl (by kernel_rfl) (Pure.move rfl) (Wt.none rfl) rfl rfl ?_
    refine RunD.pure (i := 6) hok74 rfl (by kernel_rfl) (Pure.move rfl) (Wt.none rfl) rfl rfl ?_
    refine RunD.pure (i := 7) hok74 rfl (by kernel_rfl) (Pure.indexAddr rfl rfl und25 sz9 (by omega) (by omega)) (Wt.none rfl) rfl rfl ?_
    refine RunD.load1R (i := 8) hok74 rfl (by kernel_rfl) rfl hs (elem1_at ht) agg9 (Wt.none rfl) rfl ?_
    refine RunD.one (i := 4) (by kernel_rfl) rfl ?_
    refine RunL.call rfl rfl (by rfl) (by repeat (first | (with_reducible exact Take.nil _) | (apply Take.cons (by first | ((repeat (first | (with_reducible exact Find.here _) | apply Find.there)); done) | (repeat (first | exact Find.here _ | apply Find.there)))))) (nHome_ctr (by first | assumption | omega | (simp only [mkS_size, List.length_take, List.length_drop, bl_length]; omega) | (simp only [mkS_size, size_app, List.length_take, List.length_drop, List.length_append, bl_length, List.length_cons, List.length_nil, size_mk]; omega))) (Wt.none rfl) rfl ?_
    rintro _ _ ⟨rfl, hA_⟩
    replace hA_ := hA_.symm; subst hA_
    refine RunL.nilD' ?_
    refine RunD.one (i := 9) (by kernel_rfl) rfl ?_
    refine RunL.call rfl rfl (by rfl) (by repeat (first | (with_reducible exact Take.nil _) | (apply Take.cons (by first | ((repeat (first | (with_reducible exact Find.here _) | apply Find.there)); done) | (repeat (first | exact Find.here _ | apply Find.there)))))) (rHome_ctr (by first | assumption | omega | (simp only [mkS_size, List.length_take, List.length_drop, bl_length]; omega) | (simp only [mkS_size, size_app, List.length_take, List.length_drop, List.length_append, bl_length, List.length_cons, List.length_nil, size_mk]; omega))) (Wt.none rfl) rfl ?_
    rintro _ _ ⟨rfl, hA_⟩
    replace hA_ := hA_.symm; subst hA_
    refine RunL.nilD' ?_
    refine RunD.pure (i := 10) hok74 rfl (by kernel_rfl) (Pure.sneq rfl rfl) (Wt.none rfl) rfl rfl ?_
    refine RunD.pure (i := 11) hok74 rfl (by kernel_rfl) (Pure.move rfl) (Wt.none rfl) rfl rfl ?_
    refine RunD.split (d := 54) rfl (fun hg1 => ?_) (fun hg1 => ?_)
    · try simp only [decide_eq_true_eq, decide_eq_false_iff_not, beq_iff_eq, beq_eq_false_iff_ne, bne_iff_ne, ne_eq, Bool.not_eq_true', Bool.not_eq_false', Bool.not_eq_true, Bool.not_eq_false, Int.not_lt, Int.not_le, Decidable.not_not, bne_eq_false_iff_eq, gt_iff_lt, ge_iff_le, Bool.or_eq_true, Bool.and_eq_true] at hg1
      exfalso
      simp at hg1
    try simp only [decide_eq_true_eq, decide_eq_false_iff_not, beq_iff_eq, beq_eq_false_iff_ne, bne_iff_ne, ne_eq, Bool.not_eq_true', Bool.not_eq_false', Bool.not_eq_true, Bool.not_eq_false, Int.not_lt, Int.not_le, Decidable.not_not, bne_eq_false_iff_eq, gt_iff_lt, ge_iff_le, Bool.or_eq_true, Bool.and_eq_true] at hg1
    refine RunD.pure (i := 12) hok74 rfl (by kernel_rfl) (Pure.move rfl) (Wt.yes rfl rfl rfl) rfl rfl ?_
    refine RunD.pure (i := 13) hok74 rfl (by kernel_rfl) (Pure.move rfl) (Wt.yes rfl rfl rfl) rfl rfl ?_
    refine RunD.pure (i := 14) hok74 rfl (by kernel_rfl) (Pure.indexAddr rfl rfl und25 sz9 (by omega) (by omega)) (Wt.yes rfl rfl rfl) rfl rfl ?_
    refine RunD.load1R (i := 15) hok74 rfl (by kernel_rfl) rfl hs (elem1_at ht) agg9 (Wt.yes rfl rfl rfl) rfl ?_
    refine RunD.pure (i := 17) hok74 rfl (by kernel_rfl) (Pure.move rfl) (Wt.yes rfl rfl rfl) rfl rfl ?_
    refine RunD.pure (i := 18) hok74 rfl (by kernel_rfl) (Pure.move rfl) (Wt.yes rfl rfl rfl) rfl rfl ?_
    refine RunD.pure (i := 19) hok74 rfl (by kernel_rfl) (Pure.indexAddr rfl rfl und25 sz9 (by omega) (by omega)) (Wt.yes rfl rfl rfl) rfl rfl ?_
    refine RunD.load1R (i := 20) hok74 rfl (by kernel_rfl) rfl hs (elem1_at ht) agg9 (Wt.yes rfl rfl rfl) rfl ?_
    refine RunD.one (i := 16) (by kernel_rfl) rfl ?_
    refine RunL.call rfl rfl (by rfl) (by repeat (first | (with_reducible exact Take.nil _) | (apply Take.cons (by first | ((repeat (first | (with_reducible exact Find.here _) | apply Find.there)); done) | (repeat (first | exact Find.here _ | apply Find.there)))))) (nPart_ctr (by first | assumption | omega | (simp only [mkS_size, List.length_take, List.length_drop, bl_length]; omega) | (simp only [mkS_size, size_app, List.length_take, List.length_drop, List.length_append, bl_length, List.length_cons, List.length_nil, size_mk]; omega))) (Wt.yes rfl rfl rfl) rfl ?_
    rintro _ _ ⟨rfl, hA_⟩
    replace hA_ := hA_.symm; subst hA_
    refine RunL.nilD' ?_
    refine RunD.one (i := 21) (by kernel_rfl) rfl ?_
    refine RunL.call rfl rfl (by rfl) (by repeat (first | (with_reducible exact Take.nil _) | (apply Take.cons (by first | ((repeat (first | (with_reducible exact Find.here _) | apply Find.there)); done) | (repeat (first | exact Find.here _ | apply Find.there)))))) (rLocal_ctr (by first | assumption | omega | (simp only [mkS_size, List.length_take, List.length_drop, bl_length]; omega) | (simp only [mkS_size, size_app, List.length_take, List.length_drop, List.length_append, bl_length, List.length_cons, List.length_nil, size_mk]; omega))) (Wt.yes rfl rfl rfl) rfl ?_
    rintro _ _ ⟨rfl, hA_⟩
    replace hA_ := hA_.symm; subst hA_
    refine RunL.nilD' ?_
    refine RunD.pure (i := 22) hok74 rfl (by kernel_rfl) (Pure.sneq rfl rfl) (Wt.yes rfl rfl rfl) rfl rfl ?_
    refine RunD.pure (i := 23) hok74 rfl (by kernel_rfl) (Pure.pickF rfl rfl) (Wt.none rfl) rfl rfl ?_
    refine RunD.nilR (by kernel_rfl) ?_
    refine Run.cond rfl (fun hc2 => ?_) (fun hc2 => ?_)
    · try simp only [decide_eq_true_eq, decide_eq_false_iff_not, beq_iff_eq, beq_eq_false_iff_ne, bne_iff_ne, ne_eq, Bool.not_eq_true', Bool.not_eq_false', Bool.not_eq_true, Bool.not_eq_false, Int.not_lt, Int.not_le, Decidable.not_not, bne_eq_false_iff_eq, gt_iff_lt, ge_iff_le, Bool.or_eq_true, Bool.and_eq_true] at hc2
      exfalso
      simp at hc2
    try simp only [decide_eq_true_eq, decide_eq_false_iff_not, beq_iff_eq, beq_eq_false_iff_ne, bne_iff_ne, ne_eq, Bool.not_eq_true', Bool.not_eq_false', Bool.not_eq_true, Bool.not_eq_false, Int.not_lt, Int.not_le, Decidable.not_not, bne_eq_false_iff_eq, gt_iff_lt, ge_iff_le, Bool.or_eq_true, Bool.and_eq_true] at hc2
    refine Run.skip ?_
    refine Run.inBlock ?_
    refine Run.region ?_
    refine RunL.mv rfl rfl ?_
    first | refine RunL.pure (Pure.addI rfl rfl (by omega)) (Wt.none rfl) rfl rfl ?_ | refine RunL.pure (Pure.add rfl rfl) (Wt.none rfl) rfl rfl ?_
    refine RunL.as rfl rfl ?_
    refine RunL.nil ?_
    refine Run.keep (.cons rfl (.cons rfl (.nil)) : Keep _ [9, 10] _) ?_
    refine Run.againF (F := F) ih (by exact ⟨i + 1, by omega, rfl, rfl, rfl⟩) (by repeat (first | (with_reducible exact Fin.done (by repeat (first | (with_reducible exact Rest.here) | apply Rest.there))) | (apply Fin.cons (by first | ((repeat (first | (with_reducible exact Find.here _) | apply Find.there)); done) | (repeat (first | exact Find.here _ | apply Find.there)))))) ?_
    omega
  · try simp only [decide_eq_true_eq, decide_eq_false_iff_not, beq_iff_eq, beq_eq_false_iff_ne, bne_iff_ne, ne_eq, Bool.not_eq_true', Bool.not_eq_false', Bool.not_eq_true, Bool.not_eq_false, Int.not_lt, Int.not_le, Decidable.not_not, bne_eq_false_iff_eq, gt_iff_lt, ge_iff_le, Bool.or_eq_true, Bool.and_eq_true] at hi5
    refine Run.exit rfl ?_
    refine Run.sr ?_
    refine RunL.call rfl rfl (by rfl) (by repeat (first | (with_reducible exact Take.nil _) | (apply Take.cons (by first | ((repeat (first | (with_reducible exact Find.here _) | apply Find.there)); done) | (repeat (first | exact Find.here _ | apply Find.there)))))) (lives_ctr) (Wt.none rfl) rfl ?_
    rintro _ _ ⟨rfl, hA_⟩
    replace hA_ := hA_.symm; subst hA_
    refine RunL.as rfl rfl ?_
    refine RunL.nil ?_
    exact Run.ret Try.func3 (res1 rfl rfl) (by exact ⟨rfl, rfl⟩) (by repeat (first | (with_reducible exact Fin.done (by repeat (first | (with_reducible exact Rest.here) | apply Rest.there))) | (apply Fin.cons (by first | ((repeat (first | (with_reducible exact Find.here _) | apply Find.there)); done) | (repeat (first | exact Find.here _ | apply Find.there))))))

end Go.Proofs.Ytlfldbkpndmdhaa
