/- The layer lay: what is written. -/
import Derived.Test.YtgfdgekhjnegcaaL1
set_option linter.unusedVariables false
set_option linter.unusedSimpArgs false
namespace Go.Proofs.Ytgfdgekhjnegcaa
open Go Csl
theorem cb11 : Callable Try.prog 11 := ⟨_, Try.func11, by kernel_rfl, by kernel_rfl⟩
theorem cb12 : Callable Try.prog 12 := ⟨_, Try.func12, by kernel_rfl, by kernel_rfl⟩
theorem cb13 : Callable Try.prog 13 := ⟨_, Try.func13, by kernel_rfl, by kernel_rfl⟩
set_option maxRecDepth 100000 in
theorem LayPuts_ctr {G : Gp} {a : Option Addr} {bs : List UInt8} {cap : Nat} {z : Int} {s : ByteArray} {is : Bool} (h : SlR G 5 1 a bs.length (bs.map bv)) (hc : bs.length ≤ cap) (hz : -9223372036854775808 ≤ z ∧ z ≤ 9223372036854775807) :
    Ctr Try.prog G 3 [.slice a bs.length cap, .int .i64 z, .string s, .bool is] [] (fun F v A => v = .bool true ∧ A = F) := by
  refine Ctr.intro Try.func3 rfl (by kernel_rfl) rfl (fun F => ?_)
  simp only [List.nil_append]
  refine Run.sr ?_
  refine RunL.as rfl rfl ?_
  refine RunL.nil ?_
  refine Run.sr ?_
  refine RunL.mv rfl rfl ?_
  refine RunL.call rfl rfl (by rfl) (by repeat (first | (with_reducible exact Take.nil _) | (apply Take.cons (by first | ((repeat (first | (with_reducible exact Find.here _) | apply Find.there)); done) | (repeat (first | exact Find.here _ | apply Find.there)))))) (few_ctr h hc (m := 8) (by decide) (by decide)) (Wt.none rfl) rfl ?_
  rintro _ _ ⟨a2, c2, rfl, rfl⟩
  have h8 : (bs.take (8 : Int).toNat).length ≤ 8 := by rw [List.length_take]; omega
  generalize ho : bs.take (8 : Int).toNat = o8 at *
  refine RunL.as rfl rfl ?_
  refine RunL.nil ?_
  refine Run.sr ?_
  refine RunL.mv rfl rfl ?_
  refine RunL.call rfl rfl (by rfl) (by repeat (first | (with_reducible exact Take.nil _) | (apply Take.cons (by first | ((repeat (first | (with_reducible exact Find.here _) | apply Find.there)); done) | (repeat (first | exact Find.here _ | apply Find.there)))))) (Few_ctr (m := 200) (by decide) (by decide)) (Wt.none rfl) rfl ?_
  rintro _ _ ⟨s', rfl, hs', rfl⟩
  have h2 : s'.size ≤ 200 := by rw [← bl_length, hs', List.length_take]; omega
  have hz9 := numN_le z.toNat (by omega)
  have hs9 := numN_le s'.size (by omega)
  refine RunL.as rfl rfl ?_
  refine RunL.nil ?_
  refine Run.sr ?_
  refine RunL.mv rfl rfl ?_
  refine RunL.mv rfl rfl ?_
  refine RunL.call rfl rfl (by rfl) (by repeat (first | (with_reducible exact Take.nil _) | (apply Take.cons (by first | ((repeat (first | (with_reducible exact Find.here _) | apply Find.there)); done) | (repeat (first | exact Find.here _ | apply Find.there)))))) (Ctr.lend (R := fun G => SlR G 5 1 a2 _ _ ∧ _ ≤ c2) Lends.Sl cb11 (fun G' hle hr => Number_ctr hr.1 hr.2 (z := z) (by omega) hz)) (Wt.none rfl) rfl ?_
  rintro _ _ ⟨_, rfl, a3, c3, rfl, rfl⟩
  refine RunL.as rfl rfl ?_
  refine RunL.nil ?_
  refine Run.sr ?_
  refine RunL.mv rfl rfl ?_
  refine RunL.mv rfl rfl ?_
  refine RunL.call rfl rfl (by rfl) (by repeat (first | (with_reducible exact Take.nil _) | (apply Take.cons (by first | ((repeat (first | (with_reducible exact Find.here _) | apply Find.there)); done) | (repeat (first | exact Find.here _ | apply Find.there)))))) (Ctr.lend (R := fun G => SlR G 5 1 a2 _ _ ∧ _ ≤ c2) Lends.Sl cb12 (fun G' hle hr => Text_ctr hr.1 hr.2 (s := s') (by omega) (by omega))) (Wt.none rfl) rfl ?_
  rintro _ _ ⟨_, rfl, a4, c4, rfl, rfl⟩
  refine RunL.as rfl rfl ?_
  refine RunL.nil ?_
  refine Run.sr ?_
  refine RunL.mv rfl rfl ?_
  refine RunL.mv rfl rfl ?_
  refine RunL.call rfl rfl (by rfl) (by repeat (first | (with_reducible exact Take.nil _) | (apply Take.cons (by first | ((repeat (first | (with_reducible exact Find.here _) | apply Find.there)); done) | (repeat (first | exact Find.here _ | apply Find.there)))))) (Ctr.lend (R := fun G => SlR G 5 1 a2 _ _ ∧ _ ≤ c2) Lends.Sl cb13 (fun G' hle hr => Flag_ctr hr.1 hr.2 (is := is) (by omega))) (Wt.none rfl) rfl ?_
  rintro _ _ ⟨_, rfl, a5, c5, rfl, rfl⟩
  refine RunL.as rfl rfl ?_
  refine RunL.nil ?_
  refine Run.seq ?_
  refine Run.sr ?_
  refine RunL.mv rfl rfl ?_
  refine RunL.pure (Pure.lenSl rfl rfl und22) (Wt.none rfl) rfl rfl ?_
  refine RunL.mv rfl rfl ?_
  refine RunL.pure (Pure.lenSl rfl rfl und22) (Wt.none rfl) rfl rfl ?_
  refine RunL.pure (Pure.lss rfl rfl) (Wt.none rfl) rfl rfl ?_
  refine RunL.mv rfl rfl ?_
  refine RunL.split (d := 32) rfl (fun hg => ?_) (fun hg => ?_)
  · try simp only [decide_eq_true_eq, decide_eq_false_iff_not, beq_iff_eq, beq_eq_false_iff_ne, bne_iff_ne, ne_eq, Bool.not_eq_true', Bool.not_eq_false', Bool.not_eq_true, Bool.not_eq_false, Int.not_lt, Int.not_le, Decidable.not_not, bne_eq_false_iff_eq, gt_iff_lt, ge_iff_le, Bool.or_eq_true, Bool.and_eq_true] at hg
    exfalso; simp at hg; omega
  · try simp only [decide_eq_true_eq, decide_eq_false_iff_not, beq_iff_eq, beq_eq_false_iff_ne, bne_iff_ne, ne_eq, Bool.not_eq_true', Bool.not_eq_false', Bool.not_eq_true, Bool.not_eq_false, Int.not_lt, Int.not_le, Decidable.not_not, bne_eq_false_iff_eq, gt_iff_lt, ge_iff_le, Bool.or_eq_true, Bool.and_eq_true] at hg
    refine RunL.pure (Pure.move rfl) (Wt.yes rfl rfl rfl) rfl rfl ?_
    refine RunL.pure (Pure.lenSl rfl rfl und22) (Wt.yes rfl rfl rfl) rfl rfl ?_
    refine RunL.pure (Pure.move rfl) (Wt.yes rfl rfl rfl) rfl rfl ?_
    refine RunL.pure (Pure.lenSl rfl rfl und22) (Wt.yes rfl rfl rfl) rfl rfl ?_
    refine RunL.pure (Pure.lss rfl rfl) (Wt.yes rfl rfl rfl) rfl rfl ?_
    refine RunL.pure (Pure.pickF rfl rfl) (Wt.none rfl) rfl rfl ?_
    refine RunL.mv rfl rfl ?_
    refine RunL.split (d := 39) rfl (fun hg => ?_) (fun hg => ?_)
    · try simp only [decide_eq_true_eq, decide_eq_false_iff_not, beq_iff_eq, beq_eq_false_iff_ne, bne_iff_ne, ne_eq, Bool.not_eq_true', Bool.not_eq_false', Bool.not_eq_true, Bool.not_eq_false, Int.not_lt, Int.not_le, Decidable.not_not, bne_eq_false_iff_eq, gt_iff_lt, ge_iff_le, Bool.or_eq_true, Bool.and_eq_true] at hg
      exfalso; simp at hg; omega
    · try simp only [decide_eq_true_eq, decide_eq_false_iff_not, beq_iff_eq, beq_eq_false_iff_ne, bne_iff_ne, ne_eq, Bool.not_eq_true', Bool.not_eq_false', Bool.not_eq_true, Bool.not_eq_false, Int.not_lt, Int.not_le, Decidable.not_not, bne_eq_false_iff_eq, gt_iff_lt, ge_iff_le, Bool.or_eq_true, Bool.and_eq_true] at hg
      refine RunL.pure (Pure.move rfl) (Wt.yes rfl rfl rfl) rfl rfl ?_
      refine RunL.pure (Pure.lenSl rfl rfl und22) (Wt.yes rfl rfl rfl) rfl rfl ?_
      refine RunL.pure (Pure.move rfl) (Wt.yes rfl rfl rfl) rfl rfl ?_
      refine RunL.pure (Pure.lenSl rfl rfl und22) (Wt.yes rfl rfl rfl) rfl rfl ?_
      refine RunL.pure (Pure.lss rfl rfl) (Wt.yes rfl rfl rfl) rfl rfl ?_
      refine RunL.pure (Pure.pickF rfl rfl) (Wt.none rfl) rfl rfl ?_
      refine RunL.nil ?_
      refine Run.cond rfl (fun hg => ?_) (fun hg => ?_)
      · try simp only [decide_eq_true_eq, decide_eq_false_iff_not, beq_iff_eq, beq_eq_false_iff_ne, bne_iff_ne, ne_eq, Bool.not_eq_true', Bool.not_eq_false', Bool.not_eq_true, Bool.not_eq_false, Int.not_lt, Int.not_le, Decidable.not_not, bne_eq_false_iff_eq, gt_iff_lt, ge_iff_le, Bool.or_eq_true, Bool.and_eq_true] at hg
        exfalso; simp at hg; omega
      · try simp only [decide_eq_true_eq, decide_eq_false_iff_not, beq_iff_eq, beq_eq_false_iff_ne, bne_iff_ne, ne_eq, Bool.not_eq_true', Bool.not_eq_false', Bool.not_eq_true, Bool.not_eq_false, Int.not_lt, Int.not_le, Decidable.not_not, bne_eq_false_iff_eq, gt_iff_lt, ge_iff_le, Bool.or_eq_true, Bool.and_eq_true] at hg
        refine Run.skip ?_
        refine Run.sr ?_
        refine RunL.mv rfl rfl ?_
        refine RunL.bytesStr rfl und22 und5 und9 (fun w sw => (sw.find (.here _)).src) (Wt.none rfl) rfl ?_
        refine RunL.as rfl rfl ?_
        refine RunL.nil ?_
        refine Run.seq ?_
        refine Run.regionD' (by kernel_rfl) (by kernel_rfl) (fun hok82 => ?_)
        refine RunD.lend (Q := Sl 5 1 a3 _ _ _) Lends.Sl (by first | ((repeat (first | (with_reducible exact Find.here _) | apply Find.there)); done) | (repeat (first | exact Find.here _ | apply Find.there))) ?_; intro g3 hleg3 h3 backg3
        refine RunD.lend (Q := Sl 5 1 a4 _ _ _) Lends.Sl (by first | ((repeat (first | (with_reducible exact Find.here _) | apply Find.there)); done) | (repeat (first | exact Find.here _ | apply Find.there))) ?_; intro g4 hleg4 h4 backg4
        refine RunD.lend (Q := Sl 5 1 a5 _ _ _) Lends.Sl (by first | ((repeat (first | (with_reducible exact Find.here _) | apply Find.there)); done) | (repeat (first | exact Find.here _ | apply Find.there))) ?_; intro g5 hleg5 h5 backg5
        refine RunD.lend (Q := Sl 5 1 a2 _ _ _) Lends.Sl (by first | ((repeat (first | (with_reducible exact Find.here _) | apply Find.there)); done) | (repeat (first | exact Find.here _ | apply Find.there))) ?_; intro g6 hleg6 h6 backg6
        replace h3 := h3.1.mono (hleg4.trans (hleg5.trans hleg6)); replace h4 := h4.1.mono (hleg5.trans hleg6); replace h5 := h5.1.mono hleg6; replace h6 := h6.1
        replace h := h.mono (hleg3.trans (hleg4.trans (hleg5.trans hleg6)))
        refine RunD.pure (i := 0) hok82 rfl (by kernel_rfl) (Pure.move rfl) (Wt.none rfl) rfl rfl ?_
        refine RunD.bytesStr (i := 1) hok82 rfl (by kernel_rfl) rfl und22 und5 und9 (h3) (Wt.none rfl) rfl ?_
        refine RunD.pure (i := 2) hok82 rfl (by kernel_rfl) (Pure.move rfl) (Wt.none rfl) rfl rfl ?_
        refine RunD.pure (i := 3) hok82 rfl (by kernel_rfl) (Pure.move rfl) (Wt.none rfl) rfl rfl ?_
        refine RunD.one (i := 4) (by kernel_rfl) rfl ?_
        refine RunL.call rfl rfl (by rfl) (by repeat (first | (with_reducible exact Take.nil _) | (apply Take.cons (by first | ((repeat (first | (with_reducible exact Find.here _) | apply Find.there)); done) | (repeat (first | exact Find.here _ | apply Find.there)))))) (RNumber_ctr hz) (Wt.none rfl) rfl ?_
        rintro _ _ ⟨a7, c7, rfl, rfl⟩
        refine RunL.nilD' ?_
        refine RunD.lend (Q := Sl 5 1 a7 _ _ _) Lends.Sl (by first | ((repeat (first | (with_reducible exact Find.here _) | apply Find.there)); done) | (repeat (first | exact Find.here _ | apply Find.there))) ?_; intro g7 hleg7 h7 backg7
        refine RunD.bytesStr (i := 5) hok82 rfl (by kernel_rfl) rfl und22 und5 und9 (h7.1) (Wt.none rfl) rfl ?_
        refine RunD.pure (i := 6) hok82 rfl (by kernel_rfl) (Pure.sadd rfl rfl (by first | omega | (simp only [size_mk, size_app, List.length_append, bl_length, List.length_cons, List.length_nil]; omega) | (simp; omega))) (Wt.none rfl) rfl rfl ?_
        refine RunD.pure (i := 7) hok82 rfl (by kernel_rfl) (Pure.seql rfl rfl) (Wt.none rfl) rfl rfl ?_
        refine RunD.pure (i := 8) hok82 rfl (by kernel_rfl) (Pure.move rfl) (Wt.none rfl) rfl rfl ?_
        refine RunD.split (d := 56) rfl (fun hg => ?_) (fun hg => ?_)
        · try simp only [decide_eq_true_eq, decide_eq_false_iff_not, beq_iff_eq, beq_eq_false_iff_ne, bne_iff_ne, ne_eq, Bool.not_eq_true', Bool.not_eq_false', Bool.not_eq_true, Bool.not_eq_false, Int.not_lt, Int.not_le, Decidable.not_not, bne_eq_false_iff_eq, gt_iff_lt, ge_iff_le, Bool.or_eq_true, Bool.and_eq_true] at hg
          refine RunD.pure (i := 9) hok82 rfl (by kernel_rfl) (Pure.move rfl) (Wt.yes rfl rfl rfl) rfl rfl ?_
          refine RunD.bytesStr (i := 10) hok82 rfl (by kernel_rfl) rfl und22 und5 und9 (h4.mono hleg7) (Wt.yes rfl rfl rfl) rfl ?_
          refine RunD.pure (i := 11) hok82 rfl (by kernel_rfl) (Pure.move rfl) (Wt.yes rfl rfl rfl) rfl rfl ?_
          refine RunD.pure (i := 12) hok82 rfl (by kernel_rfl) (Pure.move rfl) (Wt.yes rfl rfl rfl) rfl rfl ?_
          refine RunD.one (i := 13) (by kernel_rfl) rfl ?_
          refine RunL.call rfl rfl (by rfl) (by repeat (first | (with_reducible exact Take.nil _) | (apply Take.cons (by first | ((repeat (first | (with_reducible exact Find.here _) | apply Find.there)); done) | (repeat (first | exact Find.here _ | apply Find.there)))))) (RText_ctr (by omega)) (Wt.yes rfl rfl rfl) rfl ?_
          rintro _ _ ⟨a8, c8, rfl, rfl⟩
          refine RunL.nilD' ?_
          refine RunD.lend (Q := Sl 5 1 a8 _ _ _) Lends.Sl (by first | ((repeat (first | (with_reducible exact Find.here _) | apply Find.there)); done) | (repeat (first | exact Find.here _ | apply Find.there))) ?_; intro g8 hleg8 h8 backg8
          refine RunD.bytesStr (i := 14) hok82 rfl (by kernel_rfl) rfl und22 und5 und9 (h8.1) (Wt.yes rfl rfl rfl) rfl ?_
          refine RunD.pure (i := 15) hok82 rfl (by kernel_rfl) (Pure.sadd rfl rfl (by first | omega | (simp only [size_mk, size_app, List.length_append, bl_length, List.length_cons, List.length_nil]; omega) | (simp; omega))) (Wt.yes rfl rfl rfl) rfl rfl ?_
          refine RunD.pure (i := 16) hok82 rfl (by kernel_rfl) (Pure.seql rfl rfl) (Wt.yes rfl rfl rfl) rfl rfl ?_
          refine RunD.pure (i := 17) hok82 rfl (by kernel_rfl) (Pure.pickT rfl rfl) (Wt.none rfl) rfl rfl ?_
          refine RunD.pure (i := 18) hok82 rfl (by kernel_rfl) (Pure.move rfl) (Wt.none rfl) rfl rfl ?_
          refine RunD.split (d := 66) rfl (fun hg => ?_) (fun hg => ?_)
          · try simp only [decide_eq_true_eq, decide_eq_false_iff_not, beq_iff_eq, beq_eq_false_iff_ne, bne_iff_ne, ne_eq, Bool.not_eq_true', Bool.not_eq_false', Bool.not_eq_true, Bool.not_eq_false, Int.not_lt, Int.not_le, Decidable.not_not, bne_eq_false_iff_eq, gt_iff_lt, ge_iff_le, Bool.or_eq_true, Bool.and_eq_true] at hg
            refine RunD.pure (i := 19) hok82 rfl (by kernel_rfl) (Pure.move rfl) (Wt.yes rfl rfl rfl) rfl rfl ?_
            refine RunD.bytesStr (i := 20) hok82 rfl (by kernel_rfl) rfl und22 und5 und9 (h5.mono (hleg7.trans hleg8)) (Wt.yes rfl rfl rfl) rfl ?_
            refine RunD.pure (i := 21) hok82 rfl (by kernel_rfl) (Pure.move rfl) (Wt.yes rfl rfl rfl) rfl rfl ?_
            refine RunD.pure (i := 22) hok82 rfl (by kernel_rfl) (Pure.move rfl) (Wt.yes rfl rfl rfl) rfl rfl ?_
            refine RunD.one (i := 23) (by kernel_rfl) rfl ?_
            refine RunL.call rfl rfl (by rfl) (by repeat (first | (with_reducible exact Take.nil _) | (apply Take.cons (by first | ((repeat (first | (with_reducible exact Find.here _) | apply Find.there)); done) | (repeat (first | exact Find.here _ | apply Find.there)))))) (RFlag_ctr) (Wt.yes rfl rfl rfl) rfl ?_
            rintro _ _ ⟨a9, c9, rfl, rfl⟩
            refine RunL.nilD' ?_
            refine RunD.lend (Q := Sl 5 1 a9 _ _ _) Lends.Sl (by first | ((repeat (first | (with_reducible exact Find.here _) | apply Find.there)); done) | (repeat (first | exact Find.here _ | apply Find.there))) ?_; intro g9 hleg9 h9 backg9
            refine RunD.bytesStr (i := 24) hok82 rfl (by kernel_rfl) rfl und22 und5 und9 (h9.1) (Wt.yes rfl rfl rfl) rfl ?_
            refine RunD.pure (i := 25) hok82 rfl (by kernel_rfl) (Pure.sadd rfl rfl (by first | omega | (simp only [size_mk, size_app, List.length_append, bl_length, List.length_cons, List.length_nil]; omega) | (simp; omega))) (Wt.yes rfl rfl rfl) rfl rfl ?_
            refine RunD.pure (i := 26) hok82 rfl (by kernel_rfl) (Pure.seql rfl rfl) (Wt.yes rfl rfl rfl) rfl rfl ?_
            refine RunD.pure (i := 27) hok82 rfl (by kernel_rfl) (Pure.pickT rfl rfl) (Wt.none rfl) rfl rfl ?_
            refine RunD.pure (i := 28) hok82 rfl (by kernel_rfl) (Pure.move rfl) (Wt.none rfl) rfl rfl ?_
            refine RunD.split (d := 76) rfl (fun hg => ?_) (fun hg => ?_)
            · try simp only [decide_eq_true_eq, decide_eq_false_iff_not, beq_iff_eq, beq_eq_false_iff_ne, bne_iff_ne, ne_eq, Bool.not_eq_true', Bool.not_eq_false', Bool.not_eq_true, Bool.not_eq_false, Int.not_lt, Int.not_le, Decidable.not_not, bne_eq_false_iff_eq, gt_iff_lt, ge_iff_le, Bool.or_eq_true, Bool.and_eq_true] at hg
              refine RunD.pure (i := 29) hok82 rfl (by kernel_rfl) (Pure.move rfl) (Wt.yes rfl rfl rfl) rfl rfl ?_
              refine RunD.bytesStr (i := 30) hok82 rfl (by kernel_rfl) rfl und22 und5 und9 (h6.mono (hleg7.trans (hleg8.trans hleg9))) (Wt.yes rfl rfl rfl) rfl ?_
              refine RunD.pure (i := 31) hok82 rfl (by kernel_rfl) (Pure.move rfl) (Wt.yes rfl rfl rfl) rfl rfl ?_
              refine RunD.one (i := 32) (by kernel_rfl) rfl ?_
              refine RunL.call rfl rfl (by rfl) (by repeat (first | (with_reducible exact Take.nil _) | (apply Take.cons (by first | ((repeat (first | (with_reducible exact Find.here _) | apply Find.there)); done) | (repeat (first | exact Find.here _ | apply Find.there)))))) (few_ctr (h.mono (hleg7.trans (hleg8.trans hleg9))) hc (m := 8) (by decide) (by decide)) (Wt.yes rfl rfl rfl) rfl ?_
              rintro _ _ ⟨a10, c10, rfl, rfl⟩
              refine RunL.nilD' ?_
              refine RunD.lend (Q := Sl 5 1 a10 _ _ _) Lends.Sl (by first | ((repeat (first | (with_reducible exact Find.here _) | apply Find.there)); done) | (repeat (first | exact Find.here _ | apply Find.there))) ?_; intro g10 hleg10 h10 backg10
              refine RunD.bytesStr (i := 33) hok82 rfl (by kernel_rfl) rfl und22 und5 und9 (h10.1) (Wt.yes rfl rfl rfl) rfl ?_
              refine RunD.pure (i := 34) hok82 rfl (by kernel_rfl) (Pure.seql rfl rfl) (Wt.yes rfl rfl rfl) rfl rfl ?_
              refine RunD.pure (i := 35) hok82 rfl (by kernel_rfl) (Pure.pickT rfl rfl) (Wt.none rfl) rfl rfl ?_
              refine RunD.pure (i := 36) hok82 rfl (by kernel_rfl) (Pure.move rfl) (Wt.none rfl) rfl rfl ?_
              refine RunD.split (d := 84) rfl (fun hg => ?_) (fun hg => ?_)
              · try simp only [decide_eq_true_eq, decide_eq_false_iff_not, beq_iff_eq, beq_eq_false_iff_ne, bne_iff_ne, ne_eq, Bool.not_eq_true', Bool.not_eq_false', Bool.not_eq_true, Bool.not_eq_false, Int.not_lt, Int.not_le, Decidable.not_not, bne_eq_false_iff_eq, gt_iff_lt, ge_iff_le, Bool.or_eq_true, Bool.and_eq_true] at hg
                refine RunD.one (i := 37) (by kernel_rfl) rfl ?_
                refine RunL.call rfl rfl (by rfl) (by repeat (first | (with_reducible exact Take.nil _) | (apply Take.cons (by first | ((repeat (first | (with_reducible exact Find.here _) | apply Find.there)); done) | (repeat (first | exact Find.here _ | apply Find.there)))))) (lives_ctr) (Wt.yes rfl rfl rfl) rfl ?_
                rintro _ _ ⟨rfl, rfl⟩
                refine RunL.nilD' ?_
                refine RunD.pure (i := 38) hok82 rfl (by kernel_rfl) (Pure.pickT rfl rfl) (Wt.none rfl) rfl rfl ?_
                refine RunD.pure (i := 39) hok82 rfl (by kernel_rfl) (Pure.assign rfl) (Wt.none rfl) rfl rfl ?_
                refine RunD.nilB (by kernel_rfl) (fun w sw => backg3 _ _ (backg4 _ _ (backg5 _ _ (backg6 _ _ (backg7 _ _ (backg8 _ _ (backg9 _ _ (backg10 _ _ (sw))))))))) ?_
                exact Run.ret Try.func3 (res1 rfl rfl) (by exact ⟨rfl, rfl⟩) (by repeat (first | (with_reducible exact Fin.done (by repeat (first | (with_reducible exact Rest.here) | apply Rest.there))) | (apply Fin.cons (by first | ((repeat (first | (with_reducible exact Find.here _) | apply Find.there)); done) | (repeat (first | exact Find.here _ | apply Find.there))))))
              · try simp only [decide_eq_true_eq, decide_eq_false_iff_not, beq_iff_eq, beq_eq_false_iff_ne, bne_iff_ne, ne_eq, Bool.not_eq_true', Bool.not_eq_false', Bool.not_eq_true, Bool.not_eq_false, Int.not_lt, Int.not_le, Decidable.not_not, bne_eq_false_iff_eq, gt_iff_lt, ge_iff_le, Bool.or_eq_true, Bool.and_eq_true] at hg
                exfalso; apply hg; simp only [bl_mk]; exact ho.symm
            · try simp only [decide_eq_true_eq, decide_eq_false_iff_not, beq_iff_eq, beq_eq_false_iff_ne, bne_iff_ne, ne_eq, Bool.not_eq_true', Bool.not_eq_false', Bool.not_eq_true, Bool.not_eq_false, Int.not_lt, Int.not_le, Decidable.not_not, bne_eq_false_iff_eq, gt_iff_lt, ge_iff_le, Bool.or_eq_true, Bool.and_eq_true] at hg
              exfalso; apply hg; simp only [bl_append, bl_mk, List.append_assoc]
          · try simp only [decide_eq_true_eq, decide_eq_false_iff_not, beq_iff_eq, beq_eq_false_iff_ne, bne_iff_ne, ne_eq, Bool.not_eq_true', Bool.not_eq_false', Bool.not_eq_true, Bool.not_eq_false, Int.not_lt, Int.not_le, Decidable.not_not, bne_eq_false_iff_eq, gt_iff_lt, ge_iff_le, Bool.or_eq_true, Bool.and_eq_true] at hg
            exfalso; apply hg; simp only [bl_append, bl_mk, List.append_assoc]
        · try simp only [decide_eq_true_eq, decide_eq_false_iff_not, beq_iff_eq, beq_eq_false_iff_ne, bne_iff_ne, ne_eq, Bool.not_eq_true', Bool.not_eq_false', Bool.not_eq_true, Bool.not_eq_false, Int.not_lt, Int.not_le, Decidable.not_not, bne_eq_false_iff_eq, gt_iff_lt, ge_iff_le, Bool.or_eq_true, Bool.and_eq_true] at hg
          exfalso; apply hg; simp only [bl_append, bl_mk, List.append_assoc]

end Go.Proofs.Ytgfdgekhjnegcaa
