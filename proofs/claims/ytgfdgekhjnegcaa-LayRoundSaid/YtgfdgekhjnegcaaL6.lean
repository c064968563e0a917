/- The layer lay: laws. -/
import Derived.Test.YtgfdgekhjnegcaaL5
set_option linter.unusedVariables false
set_option linter.unusedSimpArgs false
namespace Go.Proofs.Ytgfdgekhjnegcaa
open Go Csl
theorem cb19 : Callable Try.prog 19 := ⟨_, Try.func19, by kernel_rfl, by kernel_rfl⟩
theorem cb21 : Callable Try.prog 21 := ⟨_, Try.func21, by kernel_rfl, by kernel_rfl⟩
theorem und33 : Try.prog.underlying 33 = some (Go.TypeDesc.pointer 53) := Try.underlying33
theorem cb23 : Callable Try.prog 23 := ⟨_, Try.func23, by kernel_rfl, by kernel_rfl⟩
theorem pl41 : placesOf Try.prog 41 = some ([(0, 1), (1, 1), (2, 1)], (.agg #[(.slice none 0 0), (.int .i64 0), (.int .i64 0)])) := by kernel_rfl
set_option maxRecDepth 100000 in
theorem LayForms_ctr {G : Gp} {a : Option Addr} {bs : List UInt8} {cap : Nat} {z : Int} (hz : -9223372036854775808 ≤ z ∧ z ≤ 9223372036854775807) (h : SlR G 5 1 a bs.length (bs.map bv)) (hc : bs.length ≤ cap) :
    Ctr Try.prog G 4 [.int .i64 z, .slice a bs.length cap] [] (fun F v A => v = .bool true ∧ A = F) := by
  refine Ctr.intro Try.func4 rfl (by kernel_rfl) rfl (fun F => ?_)
  simp only [List.nil_append]
  refine Run.sr ?_
  refine RunL.as rfl rfl ?_
  refine RunL.nil ?_
  refine Run.sr ?_
  refine RunL.mv rfl rfl ?_
  refine RunL.call rfl rfl (by rfl) (by repeat (first | (with_reducible exact Take.nil _) | (apply Take.cons (by first | ((repeat (first | (with_reducible exact Find.here _) | apply Find.there)); done) | (repeat (first | exact Find.here _ | apply Find.there)))))) (Around_ctr hz (by decide)) (Wt.none rfl) rfl ?_
  rintro _ _ ⟨rfl, rfl⟩
  have hk := around_lt (z := z) (m := 36028797018963968) (by decide)
  generalize around z 36028797018963968 = y at *
  refine RunL.as rfl rfl ?_
  refine RunL.nil ?_
  refine Run.sr ?_
  refine RunL.mv rfl rfl ?_
  refine RunL.call rfl rfl (by rfl) (by repeat (first | (with_reducible exact Take.nil _) | (apply Take.cons (by first | ((repeat (first | (with_reducible exact Find.here _) | apply Find.there)); done) | (repeat (first | exact Find.here _ | apply Find.there)))))) (Number_ctr (bs := []) (.inl ⟨rfl, rfl⟩) (Nat.le_refl _) (by decide) (by omega)) (Wt.none rfl) rfl ?_
  rintro _ _ ⟨a2, c2, rfl, rfl⟩
  obtain ⟨hs, c0, hsh, hhs, hc0, _, _⟩ := numN_shape y.toNat
  have hl8 := numN_len 7 y.toNat (by have : (128 : Nat) ^ (7 + 1) = 72057594037927936 := (by decide); omega)
  rw [List.nil_append, hsh]
  rw [hsh] at hl8
  have hln : (hs ++ [c0]).length = hs.length + 1 := by simp
  have hc' : (c0 + 128).toNat = c0.toNat + 128 := by rw [UInt8.toNat_add]; exact Nat.mod_eq_of_lt (by simp; omega)
  refine RunL.as rfl rfl ?_
  refine RunL.nil ?_
  refine Run.seq ?_
  refine Run.sr ?_
  refine RunL.mv rfl rfl ?_
  refine RunL.pure (Pure.lenSl rfl rfl und22) (Wt.none rfl) rfl rfl ?_
  refine RunL.pure (Pure.eql rfl rfl) (Wt.none rfl) rfl rfl ?_
  refine RunL.nil ?_
  refine Run.cond rfl (fun hc1 => ?_) (fun hc1 => ?_)
  · try simp only [decide_eq_true_eq, decide_eq_false_iff_not, beq_iff_eq, beq_eq_false_iff_ne, bne_iff_ne, ne_eq, Bool.not_eq_true', Bool.not_eq_false', Bool.not_eq_true, Bool.not_eq_false, Int.not_lt, Int.not_le, Decidable.not_not, bne_eq_false_iff_eq, gt_iff_lt, ge_iff_le, Bool.or_eq_true, Bool.and_eq_true] at hc1
    exfalso; omega
  · try simp only [decide_eq_true_eq, decide_eq_false_iff_not, beq_iff_eq, beq_eq_false_iff_ne, bne_iff_ne, ne_eq, Bool.not_eq_true', Bool.not_eq_false', Bool.not_eq_true, Bool.not_eq_false, Int.not_lt, Int.not_le, Decidable.not_not, bne_eq_false_iff_eq, gt_iff_lt, ge_iff_le, Bool.or_eq_true, Bool.and_eq_true] at hc1
    refine Run.openSl (n := (hs ++ [c0]).length) (by first | ((repeat (first | (with_reducible exact Find.here _) | apply Find.there)); done) | (repeat (first | exact Find.here _ | apply Find.there))) (by omega) ?_; rintro b pre post rfl hsl1 hsl2 hsl3
    refine Run.skip ?_
    refine Run.sr ?_
    refine RunL.mv rfl rfl ?_
    refine RunL.mv rfl rfl ?_
    refine RunL.pure (Pure.lenSl rfl rfl und22) (Wt.none rfl) rfl rfl ?_
    first | refine RunL.pure (Pure.subI rfl rfl (by omega)) (Wt.none rfl) rfl rfl ?_ | refine RunL.pure (Pure.sub rfl rfl) (Wt.none rfl) rfl rfl ?_
    refine RunL.mv rfl rfl ?_
    refine RunL.mv rfl rfl ?_
    refine RunL.pure (Pure.lenSl rfl rfl und22) (Wt.none rfl) rfl rfl ?_
    first | refine RunL.pure (Pure.subI rfl rfl (by omega)) (Wt.none rfl) rfl rfl ?_ | refine RunL.pure (Pure.sub rfl rfl) (Wt.none rfl) rfl rfl ?_
    refine RunL.pure (Pure.indexAddr rfl rfl und22 sz5 (by omega) (by omega)) (Wt.none rfl) rfl rfl ?_
    refine RunL.load1 rfl (by first | ((repeat (first | (with_reducible exact Find.here _) | apply Find.there)); done) | (repeat (first | exact Find.here _ | apply Find.there))) (by exact (show _ = some (bv c0) from by rw [cell_at (by omega), show (((hs ++ [c0]).length : Nat) - 1 : Int).toNat = hs.length from by omega]; simp [List.getD_eq_getElem?_getD])) agg5 (Wt.none rfl) rfl ?_
    refine RunL.pure (Pure.add rfl rfl) (Wt.none rfl) rfl rfl ?_
    refine RunL.pure (Pure.indexAddr rfl rfl und22 sz5 (by omega) (by omega)) (Wt.none rfl) rfl rfl ?_
    refine RunL.store1 rfl rfl (by first | ((repeat (first | (with_reducible exact Find.here _) | apply Find.there)); done) | (repeat (first | exact Find.here _ | apply Find.there))) sz5 (by rfl) (by first | (simp; done) | (simp; omega)) (Wt.none rfl) ?_
    try simp only [List.set_cons_zero, List.set_cons_succ]
    refine RunL.asRow (pre ++ (hs ++ [c0 + 128]).map bv ++ post) (by first | ((repeat (first | (with_reducible exact Find.here _) | apply Find.there)); done) | (repeat (first | exact Find.here _ | apply Find.there))) (by rw [set_cell (x := c0 + 128) (by omega) (by rw [hc']; exact wrap_u8 (by omega) (by omega)), show (((hs ++ [c0]).length : Nat) - 1 : Int).toNat = hs.length from by omega]; simp) ?_
    refine RunL.mkSl (n := (hs ++ [c0]).length) (cs := (hs ++ [c0 + 128]).map bv) (by first | ((repeat (first | (with_reducible exact Find.here _) | apply Find.there)); done) | (repeat (first | exact Find.here _ | apply Find.there))) (by simp) hsl2 hsl3 ?_
    refine RunL.nil ?_
    refine Run.sr ?_
    refine RunL.mv rfl rfl ?_
    refine RunL.lit (vals := [_]) (vs := [_]) und22 sz5 zz5 rfl rfl rfl rfl rfl rfl (by simp [Value.cells]) rfl (Wt.none rfl) rfl ?_; intro b32
    refine RunL.append (n' := (hs ++ [c0 + 128] ++ [0]).length) (cs' := ((hs ++ [c0 + 128] ++ [0]).map bv)) rfl rfl (by first | ((repeat (first | (with_reducible exact Find.here _) | apply Find.there)); done) | (repeat (first | exact Find.here _ | apply Find.there))) rfl rfl und22 und22 rfl sz5 zz5 rfl by5 (by omega) (by omega) (fun w sw => sw.src) (by simp [Value.isOne]) (by simp) (by simp [bv]) (Wt.none rfl) rfl ?_; intro a1 c1
    refine RunL.as rfl rfl ?_
    refine RunL.nil ?_
    refine Run.sr ?_
    refine RunL.mv rfl rfl ?_
    refine RunL.call rfl rfl (by rfl) (by repeat (first | (with_reducible exact Take.nil _) | (apply Take.cons (by first | ((repeat (first | (with_reducible exact Find.here _) | apply Find.there)); done) | (repeat (first | exact Find.here _ | apply Find.there)))))) (Ctr.lend (R := fun G => SlR G 5 1 _ _ _ ∧ _ ≤ _) Lends.Sl cb19 (fun G' hle hr => Read_ctr hr.1 (by simp; omega))) (Wt.none rfl) rfl ?_
    rintro _ _ ⟨_, rfl, r, rfl, rfl⟩
    refine RunL.as rfl rfl ?_
    refine RunL.nil ?_
    refine Run.sr ?_
    refine RunL.lit (vals := [_, _, _, _, _, _, _, _, _]) (vs := [_, _, _, _, _, _, _, _, _]) und22 sz5 zz5 rfl rfl rfl rfl rfl rfl (by simp [Value.cells]) rfl (Wt.none rfl) rfl ?_; intro b36
    refine RunL.mv rfl rfl ?_
    refine RunL.call rfl rfl (by rfl) (by repeat (first | (with_reducible exact Take.nil _) | (apply Take.cons (by first | ((repeat (first | (with_reducible exact Find.here _) | apply Find.there)); done) | (repeat (first | exact Find.here _ | apply Find.there)))))) (few_ctr h hc (m := 3) (by decide) (by decide)) (Wt.none rfl) rfl ?_
    rintro _ _ ⟨a3, c3, rfl, rfl⟩
    have h3 : (bs.take (3 : Int).toNat).length ≤ 3 := by rw [List.length_take]; omega
    generalize bs.take (3 : Int).toNat = ms at *
    refine RunL.append (n' := ([128, 129, 255, 128, 128, 200, 128, 128, 130] ++ ms).length) (cs' := (([128, 129, 255, 128, 128, 200, 128, 128, 130] ++ ms).map bv)) rfl rfl (by first | ((repeat (first | (with_reducible exact Find.here _) | apply Find.there)); done) | (repeat (first | exact Find.here _ | apply Find.there))) rfl rfl und22 und22 rfl sz5 zz5 rfl by5 (by omega) (by omega) (fun w sw => sw.src) (isOne_bv _) (by simp; omega) (by simp [bv]) (Wt.none rfl) rfl ?_; intro a1 c1
    refine RunL.as rfl rfl ?_
    refine RunL.nil ?_
    refine Run.sr ?_
    refine RunL.mv rfl rfl ?_
    refine RunL.call rfl rfl (by rfl) (by repeat (first | (with_reducible exact Take.nil _) | (apply Take.cons (by first | ((repeat (first | (with_reducible exact Find.here _) | apply Find.there)); done) | (repeat (first | exact Find.here _ | apply Find.there)))))) (Ctr.lend (R := fun G => SlR G 5 1 _ _ _ ∧ _ ≤ _) Lends.Sl cb19 (fun G' hle hr => Read_ctr hr.1 (by simp; omega))) (Wt.none rfl) rfl ?_
    rintro _ _ ⟨_, rfl, q, rfl, rfl⟩
    have hr1 := rdNum_zero (hs := hs ++ [c0 + 128]) (by simp) (by simp; omega) (by intro b hb; rcases List.mem_append.1 hb with hb | hb; exact hhs b hb; rw [List.mem_singleton.1 hb]; omega)
    have hr2 := rdNum_nine (hs := [128, 129, 255, 128, 128, 200, 128, 128, 130]) (m := ms) rfl (by decide)
    refine RunL.as rfl rfl ?_
    refine RunL.nil ?_
    refine Run.seq ?_
    refine Run.sr ?_
    refine RunL.mv rfl rfl ?_
    refine RunL.pure (Pure.ptrEqNil rfl rfl und33) (Wt.none rfl) rfl rfl ?_
    refine RunL.mv rfl rfl ?_
    refine RunL.pure (Pure.move rfl) (Wt.yes rfl rfl rfl) rfl rfl ?_
    refine RunL.pure (Pure.ptrEqNil rfl rfl und33) (Wt.yes rfl rfl rfl) rfl rfl ?_
    refine RunL.pure (Pure.pickF rfl rfl) (Wt.none rfl) rfl rfl ?_
    refine RunL.nil ?_
    refine Run.condF rfl ?_
    refine Run.skip ?_
    refine Run.sr ?_
    refine RunL.mv rfl rfl ?_
    refine RunL.call rfl rfl (by rfl) (by repeat (first | (with_reducible exact Take.nil _) | (apply Take.cons (by first | ((repeat (first | (with_reducible exact Find.here _) | apply Find.there)); done) | (repeat (first | exact Find.here _ | apply Find.there)))))) (RdNumber_ctr (fun h => absurd rfl h) (by simp; omega)) (Wt.none rfl) rfl ?_
    rintro _ _ ⟨rfl, rfl⟩
    rw [hr1]
    refine RunL.as rfl rfl ?_
    refine RunL.nil ?_
    refine Run.sr ?_
    refine RunL.mv rfl rfl ?_
    refine RunL.call rfl rfl (by rfl) (by repeat (first | (with_reducible exact Take.nil _) | (apply Take.cons (by first | ((repeat (first | (with_reducible exact Find.here _) | apply Find.there)); done) | (repeat (first | exact Find.here _ | apply Find.there)))))) (RdNumber_ctr (fun h => absurd rfl h) (by simp; omega)) (Wt.none rfl) rfl ?_
    rintro _ _ ⟨rfl, rfl⟩
    rw [hr2]
    refine RunL.as rfl rfl ?_
    refine RunL.nil ?_
    refine Run.sr ?_
    refine RunL.mv rfl rfl ?_
    refine RunL.pure (Pure.eql rfl rfl) (Wt.none rfl) rfl rfl ?_
    refine RunL.mv rfl rfl ?_
    refine RunL.split (d := 54) rfl (fun hg => ?_) (fun hg => ?_)
    · try simp only [decide_eq_true_eq, decide_eq_false_iff_not, beq_iff_eq, beq_eq_false_iff_ne, bne_iff_ne, ne_eq, Bool.not_eq_true', Bool.not_eq_false', Bool.not_eq_true, Bool.not_eq_false, Int.not_lt, Int.not_le, Decidable.not_not, bne_eq_false_iff_eq, gt_iff_lt, ge_iff_le, Bool.or_eq_true, Bool.and_eq_true] at hg
      refine RunL.pure (Pure.move rfl) (Wt.yes rfl rfl rfl) rfl rfl ?_
      refine RunL.call rfl rfl (by rfl) (by repeat (first | (with_reducible exact Take.nil _) | (apply Take.cons (by first | ((repeat (first | (with_reducible exact Find.here _) | apply Find.there)); done) | (repeat (first | exact Find.here _ | apply Find.there)))))) (Ctr.lend (R := fun G => ∃ a cap, Ro G _ 53 [.slice a _ cap, .int .i64 _]) Lends.Rd cb21 (fun G' hle hr => RdErrno_ctr hr.choose_spec.choose_spec)) (Wt.yes rfl rfl rfl) rfl ?_
      rintro _ _ ⟨_, rfl, rfl, rfl⟩
      refine RunL.pure (Pure.eql rfl rfl) (Wt.yes rfl rfl rfl) rfl rfl ?_
      refine RunL.pure (Pure.pickT rfl rfl) (Wt.none rfl) rfl rfl ?_
      refine RunL.mv rfl rfl ?_
      refine RunL.split (d := 59) rfl (fun hg => ?_) (fun hg => ?_)
      · try simp only [decide_eq_true_eq, decide_eq_false_iff_not, beq_iff_eq, beq_eq_false_iff_ne, bne_iff_ne, ne_eq, Bool.not_eq_true', Bool.not_eq_false', Bool.not_eq_true, Bool.not_eq_false, Int.not_lt, Int.not_le, Decidable.not_not, bne_eq_false_iff_eq, gt_iff_lt, ge_iff_le, Bool.or_eq_true, Bool.and_eq_true] at hg
        refine RunL.pure (Pure.move rfl) (Wt.yes rfl rfl rfl) rfl rfl ?_
        refine RunL.pure (Pure.eql rfl rfl) (Wt.yes rfl rfl rfl) rfl rfl ?_
        refine RunL.pure (Pure.pickT rfl rfl) (Wt.none rfl) rfl rfl ?_
        refine RunL.mv rfl rfl ?_
        refine RunL.split (d := 63) rfl (fun hg => ?_) (fun hg => ?_)
        · try simp only [decide_eq_true_eq, decide_eq_false_iff_not, beq_iff_eq, beq_eq_false_iff_ne, bne_iff_ne, ne_eq, Bool.not_eq_true', Bool.not_eq_false', Bool.not_eq_true, Bool.not_eq_false, Int.not_lt, Int.not_le, Decidable.not_not, bne_eq_false_iff_eq, gt_iff_lt, ge_iff_le, Bool.or_eq_true, Bool.and_eq_true] at hg
          refine RunL.pure (Pure.move rfl) (Wt.yes rfl rfl rfl) rfl rfl ?_
          refine RunL.call rfl rfl (by rfl) (by repeat (first | (with_reducible exact Take.nil _) | (apply Take.cons (by first | ((repeat (first | (with_reducible exact Find.here _) | apply Find.there)); done) | (repeat (first | exact Find.here _ | apply Find.there)))))) (Ctr.lend (R := fun G => ∃ a cap, Ro G _ 53 [.slice a _ cap, .int .i64 _]) Lends.Rd cb21 (fun G' hle hr => RdErrno_ctr hr.choose_spec.choose_spec)) (Wt.yes rfl rfl rfl) rfl ?_
          rintro _ _ ⟨_, rfl, rfl, rfl⟩
          refine RunL.pure (Pure.eql rfl rfl) (Wt.yes rfl rfl rfl) rfl rfl ?_
          refine RunL.pure (Pure.pickT rfl rfl) (Wt.none rfl) rfl rfl ?_
          refine RunL.mv rfl rfl ?_
          refine RunL.split (d := 68) rfl (fun hg => ?_) (fun hg => ?_)
          · try simp only [decide_eq_true_eq, decide_eq_false_iff_not, beq_iff_eq, beq_eq_false_iff_ne, bne_iff_ne, ne_eq, Bool.not_eq_true', Bool.not_eq_false', Bool.not_eq_true, Bool.not_eq_false, Int.not_lt, Int.not_le, Decidable.not_not, bne_eq_false_iff_eq, gt_iff_lt, ge_iff_le, Bool.or_eq_true, Bool.and_eq_true] at hg
            refine RunL.call rfl rfl (by rfl) (by repeat (first | (with_reducible exact Take.nil _) | (apply Take.cons (by first | ((repeat (first | (with_reducible exact Find.here _) | apply Find.there)); done) | (repeat (first | exact Find.here _ | apply Find.there)))))) (lives_ctr) (Wt.yes rfl rfl rfl) rfl ?_
            rintro _ _ ⟨rfl, rfl⟩
            refine RunL.pure (Pure.pickT rfl rfl) (Wt.none rfl) rfl rfl ?_
            refine RunL.as rfl rfl ?_
            refine RunL.nil ?_
            exact Run.ret Try.func4 (res1 rfl rfl) (by exact ⟨rfl, rfl⟩) (by repeat (first | (with_reducible exact Fin.done (by repeat (first | (with_reducible exact Rest.here) | apply Rest.there))) | (apply Fin.cons (by first | ((repeat (first | (with_reducible exact Find.here _) | apply Find.there)); done) | (repeat (first | exact Find.here _ | apply Find.there))))))
          · try simp only [decide_eq_true_eq, decide_eq_false_iff_not, beq_iff_eq, beq_eq_false_iff_ne, bne_iff_ne, ne_eq, Bool.not_eq_true', Bool.not_eq_false', Bool.not_eq_true, Bool.not_eq_false, Int.not_lt, Int.not_le, Decidable.not_not, bne_eq_false_iff_eq, gt_iff_lt, ge_iff_le, Bool.or_eq_true, Bool.and_eq_true] at hg
            exfalso; simp at hg
        · try simp only [decide_eq_true_eq, decide_eq_false_iff_not, beq_iff_eq, beq_eq_false_iff_ne, bne_iff_ne, ne_eq, Bool.not_eq_true', Bool.not_eq_false', Bool.not_eq_true, Bool.not_eq_false, Int.not_lt, Int.not_le, Decidable.not_not, bne_eq_false_iff_eq, gt_iff_lt, ge_iff_le, Bool.or_eq_true, Bool.and_eq_true] at hg
          exfalso; simp at hg
      · try simp only [decide_eq_true_eq, decide_eq_false_iff_not, beq_iff_eq, beq_eq_false_iff_ne, bne_iff_ne, ne_eq, Bool.not_eq_true', Bool.not_eq_false', Bool.not_eq_true, Bool.not_eq_false, Int.not_lt, Int.not_le, Decidable.not_not, bne_eq_false_iff_eq, gt_iff_lt, ge_iff_le, Bool.or_eq_true, Bool.and_eq_true] at hg
        exfalso; simp at hg
    · try simp only [decide_eq_true_eq, decide_eq_false_iff_not, beq_iff_eq, beq_eq_false_iff_ne, bne_iff_ne, ne_eq, Bool.not_eq_true', Bool.not_eq_false', Bool.not_eq_true, Bool.not_eq_false, Int.not_lt, Int.not_le, Decidable.not_not, bne_eq_false_iff_eq, gt_iff_lt, ge_iff_le, Bool.or_eq_true, Bool.and_eq_true] at hg
      exfalso; simp at hg

set_option maxRecDepth 100000 in
theorem LayCuts_ctr {G : Gp} {z y : Int} (hz : -9223372036854775808 ≤ z ∧ z ≤ 9223372036854775807) (hy : -9223372036854775808 ≤ y ∧ y ≤ 9223372036854775807) :
    Ctr Try.prog G 6 [.int .i64 z, .int .i64 y] [] (fun F v A => v = .bool true ∧ A = F) := by
  refine Ctr.intro Try.func6 rfl (by kernel_rfl) rfl (fun F => ?_)
  simp only [List.nil_append]
  refine Run.sr ?_
  refine RunL.as rfl rfl ?_
  refine RunL.nil ?_
  refine Run.sr ?_
  refine RunL.mv rfl rfl ?_
  refine RunL.call rfl rfl (by rfl) (by repeat (first | (with_reducible exact Take.nil _) | (apply Take.cons (by first | ((repeat (first | (with_reducible exact Find.here _) | apply Find.there)); done) | (repeat (first | exact Find.here _ | apply Find.there)))))) (Number_ctr (bs := []) (.inl ⟨rfl, rfl⟩) (Nat.le_refl _) (by decide) hz) (Wt.none rfl) rfl ?_
  rintro _ _ ⟨a2, c2, rfl, rfl⟩
  have hn9 := numN_le z.toNat (by omega)
  have hn0 := numN_pos z.toNat
  rw [List.nil_append]
  refine RunL.as rfl rfl ?_
  refine RunL.nil ?_
  refine Run.seq ?_
  refine Run.sr ?_
  refine RunL.mv rfl rfl ?_
  refine RunL.pure (Pure.lenSl rfl rfl und22) (Wt.none rfl) rfl rfl ?_
  refine RunL.pure (Pure.eql rfl rfl) (Wt.none rfl) rfl rfl ?_
  refine RunL.nil ?_
  refine Run.cond rfl (fun hg => ?_) (fun hg => ?_)
  · try simp only [decide_eq_true_eq, decide_eq_false_iff_not, beq_iff_eq, beq_eq_false_iff_ne, bne_iff_ne, ne_eq, Bool.not_eq_true', Bool.not_eq_false', Bool.not_eq_true, Bool.not_eq_false, Int.not_lt, Int.not_le, Decidable.not_not, bne_eq_false_iff_eq, gt_iff_lt, ge_iff_le, Bool.or_eq_true, Bool.and_eq_true] at hg
    exfalso; omega
  · try simp only [decide_eq_true_eq, decide_eq_false_iff_not, beq_iff_eq, beq_eq_false_iff_ne, bne_iff_ne, ne_eq, Bool.not_eq_true', Bool.not_eq_false', Bool.not_eq_true, Bool.not_eq_false, Int.not_lt, Int.not_le, Decidable.not_not, bne_eq_false_iff_eq, gt_iff_lt, ge_iff_le, Bool.or_eq_true, Bool.and_eq_true] at hg
    refine Run.skip ?_
    refine Run.sr ?_
    refine RunL.mv rfl rfl ?_
    refine RunL.mv rfl rfl ?_
    refine RunL.pure (Pure.lenSl rfl rfl und22) (Wt.none rfl) rfl rfl ?_
    refine RunL.call rfl rfl (by rfl) (by repeat (first | (with_reducible exact Take.nil _) | (apply Take.cons (by first | ((repeat (first | (with_reducible exact Find.here _) | apply Find.there)); done) | (repeat (first | exact Find.here _ | apply Find.there)))))) (Around_ctr hy (by omega)) (Wt.none rfl) rfl ?_
    rintro _ _ ⟨rfl, rfl⟩
    have hk := around_lt (z := y) (m := ((numN z.toNat).length : Int)) (by omega)
    generalize around y ((numN z.toNat).length : Int) = k at *
    have hcut := rdNum_cut (n := z.toNat) (k := k.toNat) (by omega) (by omega)
    have hlt : ((numN z.toNat).take k.toNat).length = k.toNat := by rw [List.length_take]; omega
    refine RunL.know (fun w s => ((s.find (by first | ((repeat (first | (with_reducible exact Find.here _) | apply Find.there)); done) | (repeat (first | exact Find.here _ | apply Find.there)))).lenB : (numN z.toNat).length ≤ c2)) (fun hcap => ?_)
    refine RunL.as rfl rfl ?_
    refine RunL.nil ?_
    refine Run.sr ?_
    refine RunL.mv rfl rfl ?_
    refine RunL.mv rfl rfl ?_
    refine RunL.pure (Pure.sliceTo rfl rfl und22 sz5 (by first | omega | (simp; done) | (simp; omega)) (by first | omega | (simp; done) | (simp; omega))) (Wt.none rfl) rfl rfl ?_
    refine RunL.call rfl rfl (by rfl) (by repeat (first | (with_reducible exact Take.nil _) | (apply Take.cons (by first | ((repeat (first | (with_reducible exact Find.here _) | apply Find.there)); done) | (repeat (first | exact Find.here _ | apply Find.there)))))) (Ctr.lend (R := fun G => SlR G 5 1 _ _ _ ∧ _ ≤ _) Lends.Sl cb19 (fun G' hle hr => (show Ctr _ _ _ [.slice _ k.toNat _] _ _ from by rw [← hlt]; exact Read_ctr (hr.1.toB k.toNat) (by omega)))) (Wt.none rfl) rfl ?_
    rintro _ _ ⟨_, rfl, r, rfl, rfl⟩
    refine RunL.as rfl rfl ?_
    refine RunL.nil ?_
    refine Run.seq ?_
    refine Run.sr ?_
    refine RunL.mv rfl rfl ?_
    refine RunL.pure (Pure.ptrEqNil rfl rfl und33) (Wt.none rfl) rfl rfl ?_
    refine RunL.nil ?_
    refine Run.condF rfl ?_
    refine Run.skip ?_
    refine Run.sr ?_
    refine RunL.mv rfl rfl ?_
    refine RunL.call rfl rfl (by rfl) (by repeat (first | (with_reducible exact Take.nil _) | (apply Take.cons (by first | ((repeat (first | (with_reducible exact Find.here _) | apply Find.there)); done) | (repeat (first | exact Find.here _ | apply Find.there)))))) (RdNumber_ctr (fun h => absurd rfl h) (by omega)) (Wt.none rfl) rfl ?_
    rintro _ _ ⟨rfl, rfl⟩
    rw [hcut]
    refine RunL.as rfl rfl ?_
    refine RunL.nil ?_
    refine Run.sr ?_
    refine RunL.mv rfl rfl ?_
    refine RunL.pure (Pure.eql rfl rfl) (Wt.none rfl) rfl rfl ?_
    refine RunL.mv rfl rfl ?_
    refine RunL.split (d := 28) rfl (fun hg => ?_) (fun hg => ?_)
    · try simp only [decide_eq_true_eq, decide_eq_false_iff_not, beq_iff_eq, beq_eq_false_iff_ne, bne_iff_ne, ne_eq, Bool.not_eq_true', Bool.not_eq_false', Bool.not_eq_true, Bool.not_eq_false, Int.not_lt, Int.not_le, Decidable.not_not, bne_eq_false_iff_eq, gt_iff_lt, ge_iff_le, Bool.or_eq_true, Bool.and_eq_true] at hg
      refine RunL.pure (Pure.move rfl) (Wt.yes rfl rfl rfl) rfl rfl ?_
      refine RunL.call rfl rfl (by rfl) (by repeat (first | (with_reducible exact Take.nil _) | (apply Take.cons (by first | ((repeat (first | (with_reducible exact Find.here _) | apply Find.there)); done) | (repeat (first | exact Find.here _ | apply Find.there)))))) (Ctr.lend (R := fun G => ∃ a cap, Ro G _ 53 [.slice a _ cap, .int .i64 _]) Lends.Rd cb21 (fun G' hle hr => RdErrno_ctr hr.choose_spec.choose_spec)) (Wt.yes rfl rfl rfl) rfl ?_
      rintro _ _ ⟨_, rfl, rfl, rfl⟩
      refine RunL.pure (Pure.eql rfl rfl) (Wt.yes rfl rfl rfl) rfl rfl ?_
      refine RunL.pure (Pure.pickT rfl rfl) (Wt.none rfl) rfl rfl ?_
      refine RunL.mv rfl rfl ?_
      refine RunL.split (d := 33) rfl (fun hg => ?_) (fun hg => ?_)
      · try simp only [decide_eq_true_eq, decide_eq_false_iff_not, beq_iff_eq, beq_eq_false_iff_ne, bne_iff_ne, ne_eq, Bool.not_eq_true', Bool.not_eq_false', Bool.not_eq_true, Bool.not_eq_false, Int.not_lt, Int.not_le, Decidable.not_not, bne_eq_false_iff_eq, gt_iff_lt, ge_iff_le, Bool.or_eq_true, Bool.and_eq_true] at hg
        refine RunL.pure (Pure.move rfl) (Wt.yes rfl rfl rfl) rfl rfl ?_
        refine RunL.call rfl rfl (by rfl) (by repeat (first | (with_reducible exact Take.nil _) | (apply Take.cons (by first | ((repeat (first | (with_reducible exact Find.here _) | apply Find.there)); done) | (repeat (first | exact Find.here _ | apply Find.there)))))) (RdNumber_ctr (bs := []) (er := 3) (fun _ => rfl) (by decide)) (Wt.yes rfl rfl rfl) rfl ?_
        rintro _ _ ⟨rfl, rfl⟩
        rw [show rdNum [] 3 = (0, [], 3) from rfl]
        refine RunL.pure (Pure.eql rfl rfl) (Wt.yes rfl rfl rfl) rfl rfl ?_
        refine RunL.pure (Pure.pickT rfl rfl) (Wt.none rfl) rfl rfl ?_
        refine RunL.mv rfl rfl ?_
        refine RunL.split (d := 38) rfl (fun hg => ?_) (fun hg => ?_)
        · try simp only [decide_eq_true_eq, decide_eq_false_iff_not, beq_iff_eq, beq_eq_false_iff_ne, bne_iff_ne, ne_eq, Bool.not_eq_true', Bool.not_eq_false', Bool.not_eq_true, Bool.not_eq_false, Int.not_lt, Int.not_le, Decidable.not_not, bne_eq_false_iff_eq, gt_iff_lt, ge_iff_le, Bool.or_eq_true, Bool.and_eq_true] at hg
          refine RunL.pure (Pure.move rfl) (Wt.yes rfl rfl rfl) rfl rfl ?_
          refine RunL.call rfl rfl (by rfl) (by repeat (first | (with_reducible exact Take.nil _) | (apply Take.cons (by first | ((repeat (first | (with_reducible exact Find.here _) | apply Find.there)); done) | (repeat (first | exact Find.here _ | apply Find.there)))))) (RdText_ctr (bs := []) (er := 3) (fun _ => rfl) (by decide)) (Wt.yes rfl rfl rfl) rfl ?_
          rintro _ _ ⟨s1, rfl, hs1, rfl⟩
          rw [show rdText 9 [] 3 = ([], [], 3) from rfl] at *
          refine RunL.pure (Pure.seql rfl rfl) (Wt.yes rfl rfl rfl) rfl rfl ?_
          refine RunL.pure (Pure.pickT rfl rfl) (Wt.none rfl) rfl rfl ?_
          refine RunL.mv rfl rfl ?_
          refine RunL.split (d := 43) rfl (fun hg => ?_) (fun hg => ?_)
          · try simp only [decide_eq_true_eq, decide_eq_false_iff_not, beq_iff_eq, beq_eq_false_iff_ne, bne_iff_ne, ne_eq, Bool.not_eq_true', Bool.not_eq_false', Bool.not_eq_true, Bool.not_eq_false, Int.not_lt, Int.not_le, Decidable.not_not, bne_eq_false_iff_eq, gt_iff_lt, ge_iff_le, Bool.or_eq_true, Bool.and_eq_true] at hg
            refine RunL.pure (Pure.move rfl) (Wt.yes rfl rfl rfl) rfl rfl ?_
            refine RunL.call rfl rfl (by rfl) (by repeat (first | (with_reducible exact Take.nil _) | (apply Take.cons (by first | ((repeat (first | (with_reducible exact Find.here _) | apply Find.there)); done) | (repeat (first | exact Find.here _ | apply Find.there)))))) (RdFlag_ctr (bs := []) (er := 3) (fun _ => rfl) (by decide)) (Wt.yes rfl rfl rfl) rfl ?_
            rintro _ _ ⟨rfl, rfl⟩
            rw [show rdFlag [] 3 = (false, [], 3) from rfl]
            refine RunL.pure (Pure.not rfl) (Wt.yes rfl rfl rfl) rfl rfl ?_
            refine RunL.pure (Pure.pickT rfl rfl) (Wt.none rfl) rfl rfl ?_
            refine RunL.mv rfl rfl ?_
            refine RunL.split (d := 48) rfl (fun hg => ?_) (fun hg => ?_)
            · try simp only [decide_eq_true_eq, decide_eq_false_iff_not, beq_iff_eq, beq_eq_false_iff_ne, bne_iff_ne, ne_eq, Bool.not_eq_true', Bool.not_eq_false', Bool.not_eq_true, Bool.not_eq_false, Int.not_lt, Int.not_le, Decidable.not_not, bne_eq_false_iff_eq, gt_iff_lt, ge_iff_le, Bool.or_eq_true, Bool.and_eq_true] at hg
              refine RunL.pure (Pure.move rfl) (Wt.yes rfl rfl rfl) rfl rfl ?_
              refine RunL.call rfl rfl (by rfl) (by repeat (first | (with_reducible exact Take.nil _) | (apply Take.cons (by first | ((repeat (first | (with_reducible exact Find.here _) | apply Find.there)); done) | (repeat (first | exact Find.here _ | apply Find.there)))))) (Ctr.lend (R := fun G => ∃ a cap, Ro G _ 53 [.slice a _ cap, .int .i64 _]) Lends.Rd cb23 (fun G' hle hr => RdLeft_ctr hr.choose_spec.choose_spec)) (Wt.yes rfl rfl rfl) rfl ?_
              rintro _ _ ⟨_, rfl, rfl, rfl⟩
              refine RunL.pure (Pure.eql rfl rfl) (Wt.yes rfl rfl rfl) rfl rfl ?_
              refine RunL.pure (Pure.pickT rfl rfl) (Wt.none rfl) rfl rfl ?_
              refine RunL.mv rfl rfl ?_
              refine RunL.split (d := 53) rfl (fun hg => ?_) (fun hg => ?_)
              · try simp only [decide_eq_true_eq, decide_eq_false_iff_not, beq_iff_eq, beq_eq_false_iff_ne, bne_iff_ne, ne_eq, Bool.not_eq_true', Bool.not_eq_false', Bool.not_eq_true, Bool.not_eq_false, Int.not_lt, Int.not_le, Decidable.not_not, bne_eq_false_iff_eq, gt_iff_lt, ge_iff_le, Bool.or_eq_true, Bool.and_eq_true] at hg
                refine RunL.call rfl rfl (by rfl) (by repeat (first | (with_reducible exact Take.nil _) | (apply Take.cons (by first | ((repeat (first | (with_reducible exact Find.here _) | apply Find.there)); done) | (repeat (first | exact Find.here _ | apply Find.there)))))) (lives_ctr) (Wt.yes rfl rfl rfl) rfl ?_
                rintro _ _ ⟨rfl, rfl⟩
                refine RunL.pure (Pure.pickT rfl rfl) (Wt.none rfl) rfl rfl ?_
                refine RunL.as rfl rfl ?_
                refine RunL.nil ?_
                exact Run.ret Try.func6 (res1 rfl rfl) (by exact ⟨rfl, rfl⟩) (by repeat (first | (with_reducible exact Fin.done (by repeat (first | (with_reducible exact Rest.here) | apply Rest.there))) | (apply Fin.cons (by first | ((repeat (first | (with_reducible exact Find.here _) | apply Find.there)); done) | (repeat (first | exact Find.here _ | apply Find.there))))))
              · try simp only [decide_eq_true_eq, decide_eq_false_iff_not, beq_iff_eq, beq_eq_false_iff_ne, bne_iff_ne, ne_eq, Bool.not_eq_true', Bool.not_eq_false', Bool.not_eq_true, Bool.not_eq_false, Int.not_lt, Int.not_le, Decidable.not_not, bne_eq_false_iff_eq, gt_iff_lt, ge_iff_le, Bool.or_eq_true, Bool.and_eq_true] at hg
                exfalso; simp at hg
            · try simp only [decide_eq_true_eq, decide_eq_false_iff_not, beq_iff_eq, beq_eq_false_iff_ne, bne_iff_ne, ne_eq, Bool.not_eq_true', Bool.not_eq_false', Bool.not_eq_true, Bool.not_eq_false, Int.not_lt, Int.not_le, Decidable.not_not, bne_eq_false_iff_eq, gt_iff_lt, ge_iff_le, Bool.or_eq_true, Bool.and_eq_true] at hg
              exfalso; simp at hg
          · try simp only [decide_eq_true_eq, decide_eq_false_iff_not, beq_iff_eq, beq_eq_false_iff_ne, bne_iff_ne, ne_eq, Bool.not_eq_true', Bool.not_eq_false', Bool.not_eq_true, Bool.not_eq_false, Int.not_lt, Int.not_le, Decidable.not_not, bne_eq_false_iff_eq, gt_iff_lt, ge_iff_le, Bool.or_eq_true, Bool.and_eq_true] at hg
            exfalso; exact hg (by rw [hs1]; rfl)
        · try simp only [decide_eq_true_eq, decide_eq_false_iff_not, beq_iff_eq, beq_eq_false_iff_ne, bne_iff_ne, ne_eq, Bool.not_eq_true', Bool.not_eq_false', Bool.not_eq_true, Bool.not_eq_false, Int.not_lt, Int.not_le, Decidable.not_not, bne_eq_false_iff_eq, gt_iff_lt, ge_iff_le, Bool.or_eq_true, Bool.and_eq_true] at hg
          exfalso; simp at hg
      · try simp only [decide_eq_true_eq, decide_eq_false_iff_not, beq_iff_eq, beq_eq_false_iff_ne, bne_iff_ne, ne_eq, Bool.not_eq_true', Bool.not_eq_false', Bool.not_eq_true, Bool.not_eq_false, Int.not_lt, Int.not_le, Decidable.not_not, bne_eq_false_iff_eq, gt_iff_lt, ge_iff_le, Bool.or_eq_true, Bool.and_eq_true] at hg
        exfalso; simp at hg
    · try simp only [decide_eq_true_eq, decide_eq_false_iff_not, beq_iff_eq, beq_eq_false_iff_ne, bne_iff_ne, ne_eq, Bool.not_eq_true', Bool.not_eq_false', Bool.not_eq_true, Bool.not_eq_false, Int.not_lt, Int.not_le, Decidable.not_not, bne_eq_false_iff_eq, gt_iff_lt, ge_iff_le, Bool.or_eq_true, Bool.and_eq_true] at hg
      exfalso; simp at hg

set_option maxRecDepth 100000 in
theorem LayOwns_ctr {G : Gp} {a : Option Addr} {bs : List UInt8} {cap : Nat} {z y : Int} (h : SlR G 5 1 a bs.length (bs.map bv)) (hc : bs.length ≤ cap) (hz : -9223372036854775808 ≤ z ∧ z ≤ 9223372036854775807) (hy : 0 ≤ y ∧ y ≤ 255) :
    Ctr Try.prog G 5 [.slice a bs.length cap, .int .i64 z, .int .u8 y] [] (fun F v A => v = .bool true ∧ A = F) := by
  refine Ctr.intro Try.func5 rfl (by kernel_rfl) rfl (fun F => ?_)
  simp only [List.nil_append]
  refine Run.sr ?_
  refine RunL.as rfl rfl ?_
  refine RunL.nil ?_
  refine Run.sr ?_
  refine RunL.mv rfl rfl ?_
  refine RunL.call rfl rfl (by rfl) (by repeat (first | (with_reducible exact Take.nil _) | (apply Take.cons (by first | ((repeat (first | (with_reducible exact Find.here _) | apply Find.there)); done) | (repeat (first | exact Find.here _ | apply Find.there)))))) (few_ctr h hc (m := 20) (by decide) (by decide)) (Wt.none rfl) rfl ?_
  rintro _ _ ⟨a2, c2, rfl, rfl⟩
  have h20 : (bs.take (20 : Int).toNat).length ≤ 20 := by rw [List.length_take]; omega
  refine RunL.as rfl rfl ?_
  refine RunL.nil ?_
  refine Run.sr ?_
  refine RunL.mv rfl rfl ?_
  refine RunL.call rfl rfl (by rfl) (by repeat (first | (with_reducible exact Take.nil _) | (apply Take.cons (by first | ((repeat (first | (with_reducible exact Find.here _) | apply Find.there)); done) | (repeat (first | exact Find.here _ | apply Find.there)))))) (few_ctr h hc (m := 20) (by decide) (by decide)) (Wt.none rfl) rfl ?_
  rintro _ _ ⟨a3, c3, rfl, rfl⟩
  generalize bs.take (20 : Int).toNat = ms at *
  refine RunL.pure (Pure.build (ps := [(0, _)]) pl41 rfl rfl rfl) (Wt.none rfl) rfl rfl ?_
  refine RunL.box rfl (Wt.none rfl) rfl ?_; intro q
  refine RunL.mkRg (B := ms) (I := 0) (bs := ms) (er := 0) (by repeat (first | (with_reducible exact Take.nil _) | (apply Take.cons (by first | ((repeat (first | (with_reducible exact Find.here _) | apply Find.there)); done) | (repeat (first | exact Find.here _ | apply Find.there)))))) ⟨by omega, rfl, by omega⟩ ?_
  refine RunL.as rfl rfl ?_
  refine RunL.nil ?_
  refine Run.sr ?_
  refine RunL.mv rfl rfl ?_
  refine RunL.call rfl rfl (by rfl) (by repeat (first | (with_reducible exact Take.nil _) | (apply Take.cons (by first | ((repeat (first | (with_reducible exact Find.here _) | apply Find.there)); done) | (repeat (first | exact Find.here _ | apply Find.there)))))) (Ctr.lend (R := fun G => SlR G 5 1 _ _ _ ∧ _ ≤ _) Lends.Sl cb19 (fun G' hle hr => Read_ctr hr.1 (by omega))) (Wt.none rfl) rfl ?_
  rintro _ _ ⟨_, rfl, r, rfl, rfl⟩
  refine RunL.as rfl rfl ?_
  refine RunL.nil ?_
  refine Run.seq ?_
  refine Run.sr ?_
  refine RunL.mv rfl rfl ?_
  refine RunL.pure (Pure.ptrEqNil rfl rfl und33) (Wt.none rfl) rfl rfl ?_
  refine RunL.nil ?_
  refine Run.condF rfl ?_
  refine Run.skip ?_
  refine Run.seq ?_
  refine Run.sr ?_
  refine RunL.mv rfl rfl ?_
  refine RunL.pure (Pure.lenSl rfl rfl und22) (Wt.none rfl) rfl rfl ?_
  refine RunL.pure (Pure.gtr rfl rfl) (Wt.none rfl) rfl rfl ?_
  refine RunL.nil ?_
  refine Run.cond rfl (fun hlen => ?_) (fun hlen => ?_)
  · try simp only [decide_eq_true_eq, decide_eq_false_iff_not, beq_iff_eq, beq_eq_false_iff_ne, bne_iff_ne, ne_eq, Bool.not_eq_true', Bool.not_eq_false', Bool.not_eq_true, Bool.not_eq_false, Int.not_lt, Int.not_le, Decidable.not_not, bne_eq_false_iff_eq, gt_iff_lt, ge_iff_le, Bool.or_eq_true, Bool.and_eq_true] at hlen
    refine Run.sr ?_
    refine RunL.mv rfl rfl ?_
    refine RunL.mv rfl rfl ?_
    refine RunL.pure (Pure.lenSl rfl rfl und22) (Wt.none rfl) rfl rfl ?_
    refine RunL.call rfl rfl (by rfl) (by repeat (first | (with_reducible exact Take.nil _) | (apply Take.cons (by first | ((repeat (first | (with_reducible exact Find.here _) | apply Find.there)); done) | (repeat (first | exact Find.here _ | apply Find.there)))))) (Around_ctr hz (by omega)) (Wt.none rfl) rfl ?_
    rintro _ _ ⟨rfl, rfl⟩
    have hk := around_lt (z := z) (m := (ms.length : Int)) (by omega)
    generalize around z (ms.length : Int) = k at *
    refine RunL.openSl (n := ms.length) (by first | ((repeat (first | (with_reducible exact Find.here _) | apply Find.there)); done) | (repeat (first | exact Find.here _ | apply Find.there))) (by omega) ?_; rintro b pre post rfl hsl1 hsl2 hsl3
    refine RunL.as rfl rfl ?_
    refine RunL.nil ?_
    refine Run.region ?_
    refine RunL.mv rfl rfl ?_
    refine RunL.mv rfl rfl ?_
    refine RunL.mv rfl rfl ?_
    refine RunL.mv rfl rfl ?_
    refine RunL.pure (Pure.indexAddr rfl rfl und22 sz5 (by omega) (by omega)) (Wt.none rfl) rfl rfl ?_
    refine RunL.load1 rfl (by first | ((repeat (first | (with_reducible exact Find.here _) | apply Find.there)); done) | (repeat (first | exact Find.here _ | apply Find.there))) (by exact (show _ = some (bv (ms.getD k.toNat 0)) from cell_at (by omega))) agg5 (Wt.none rfl) rfl ?_
    refine RunL.mv rfl rfl ?_
    refine RunL.pure (Pure.xor rfl rfl) (Wt.none rfl) rfl rfl ?_
    refine RunL.pure (Pure.indexAddr rfl rfl und22 sz5 (by omega) (by omega)) (Wt.none rfl) rfl rfl ?_
    refine RunL.store1 rfl rfl (by first | ((repeat (first | (with_reducible exact Find.here _) | apply Find.there)); done) | (repeat (first | exact Find.here _ | apply Find.there))) sz5 (by rfl) (by simp; omega) (Wt.none rfl) ?_
    try simp only [List.set_cons_zero, List.set_cons_succ]
    refine RunL.nil ?_
    refine Run.seq ?_
    refine Run.sr ?_
    refine RunL.as rfl rfl ?_
    refine RunL.nil ?_
    refine Run.block ?_
    refine Run.keep (.cons rfl (.cons rfl (.cons rfl (.nil))) : Keep _ [8, 9, 11] _) ?_
    refine Run.fit (F := F) (A2 := Rd r _ _ :: Rg q _ _ :: F) (by repeat (first | (with_reducible exact Fin.done (by repeat (first | (with_reducible exact Rest.here) | apply Rest.there))) | (apply Fin.cons (by first | ((repeat (first | (with_reducible exact Find.here _) | apply Find.there)); done) | (repeat (first | exact Find.here _ | apply Find.there)))))) ?_
    refine Run.loopR (fun n e A => ∃ (bs : List UInt8) (er i : Int), (er ≠ 0 → bs = []) ∧ bs.length ≤ 20 ∧ 0 ≤ i ∧ n = (5 - i).toNat ∧ e = [(8, .pointer (some ⟨q, 0, none⟩)), (9, .pointer (some ⟨r, 0, none⟩)), (11, .int .i64 i)] ∧ A = Rd r bs er :: Rg q bs er :: F) (5) ⟨_, 0, 0, fun h => absurd rfl h, by omega, by omega, rfl, rfl, rfl⟩ ?_
    rintro n _ _ ⟨bs, er, i, hbe, hbl, hi0, rfl, rfl, rfl⟩ ih
    refine Run.seq ?_
    refine Run.sr ?_
    refine RunL.mv rfl rfl ?_
    refine RunL.pure (Pure.lss rfl rfl) (Wt.none rfl) rfl rfl ?_
    refine RunL.nil ?_
    refine Run.cond rfl (fun hi => ?_) (fun hi => ?_)
    · try simp only [decide_eq_true_eq, decide_eq_false_iff_not, beq_iff_eq, beq_eq_false_iff_ne, bne_iff_ne, ne_eq, Bool.not_eq_true', Bool.not_eq_false', Bool.not_eq_true, Bool.not_eq_false, Int.not_lt, Int.not_le, Decidable.not_not, bne_eq_false_iff_eq, gt_iff_lt, ge_iff_le, Bool.or_eq_true, Bool.and_eq_true] at hi
      refine Run.skip ?_
      refine Run.seq ?_
      refine Run.block ?_
      refine Run.seq ?_
      refine Run.regionD' (by kernel_rfl) (by kernel_rfl) (fun hok85 => ?_)
      refine RunD.pure (i := 0) hok85 rfl (by kernel_rfl) (Pure.move rfl) (Wt.none rfl) rfl rfl ?_
      refine RunD.pure (i := 2) hok85 rfl (by kernel_rfl) (Pure.move rfl) (Wt.none rfl) rfl rfl ?_
      refine RunD.one (i := 1) (by kernel_rfl) rfl ?_
      refine RunL.call rfl rfl (by rfl) (by repeat (first | (with_reducible exact Take.nil _) | (apply Take.cons (by first | ((repeat (first | (with_reducible exact Find.here _) | apply Find.there)); done) | (repeat (first | exact Find.here _ | apply Find.there)))))) (RdNumber_ctr hbe (by omega)) (Wt.none rfl) rfl ?_
      rintro _ _ ⟨rfl, rfl⟩
      refine RunL.nilD' ?_
      refine RunD.one (i := 3) (by kernel_rfl) rfl ?_
      refine RunL.call rfl rfl (by rfl) (by repeat (first | (with_reducible exact Take.nil _) | (apply Take.cons (by first | ((repeat (first | (with_reducible exact Find.here _) | apply Find.there)); done) | (repeat (first | exact Find.here _ | apply Find.there)))))) (RgNumber_ctr) (Wt.none rfl) rfl ?_
      rintro _ _ ⟨rfl, rfl⟩
      obtain ⟨hq1, hq2, hq3, hq4⟩ := rdNum_inv hbe
      generalize hn1 : (rdNum bs er).1 = n1 at *
      generalize hb1 : (rdNum bs er).2.1 = bs1 at *
      generalize he1 : (rdNum bs er).2.2 = er1 at *
      refine RunL.nilD' ?_
      refine RunD.pure (i := 4) hok85 rfl (by kernel_rfl) (Pure.neq rfl rfl) (Wt.none rfl) rfl rfl ?_
      refine RunD.pure (i := 5) hok85 rfl (by kernel_rfl) (Pure.move rfl) (Wt.none rfl) rfl rfl ?_
      refine RunD.split (d := 47) rfl (fun hx => ?_) (fun hx => ?_)
      · try simp only [decide_eq_true_eq, decide_eq_false_iff_not, beq_iff_eq, beq_eq_false_iff_ne, bne_iff_ne, ne_eq, Bool.not_eq_true', Bool.not_eq_false', Bool.not_eq_true, Bool.not_eq_false, Int.not_lt, Int.not_le, Decidable.not_not, bne_eq_false_iff_eq, gt_iff_lt, ge_iff_le, Bool.or_eq_true, Bool.and_eq_true] at hx
        exfalso; simp at hx
      · try simp only [decide_eq_true_eq, decide_eq_false_iff_not, beq_iff_eq, beq_eq_false_iff_ne, bne_iff_ne, ne_eq, Bool.not_eq_true', Bool.not_eq_false', Bool.not_eq_true, Bool.not_eq_false, Int.not_lt, Int.not_le, Decidable.not_not, bne_eq_false_iff_eq, gt_iff_lt, ge_iff_le, Bool.or_eq_true, Bool.and_eq_true] at hx
        refine RunD.lend (Q := Rd r _ _) Lends.Rd (by first | ((repeat (first | (with_reducible exact Find.here _) | apply Find.there)); done) | (repeat (first | exact Find.here _ | apply Find.there))) ?_; intro g1 hleg1 hr1 backg1
        refine RunD.lend (Q := Rg q _ _) Lends.Rg (by first | ((repeat (first | (with_reducible exact Find.here _) | apply Find.there)); done) | (repeat (first | exact Find.here _ | apply Find.there))) ?_; intro g2 hleg2 hr2 backg2
        obtain ⟨ar, capr, hro⟩ := hr1
        obtain ⟨ag, capg, Bg, Ig, hok, hrg⟩ := hr2
        replace hro := hro.mono hleg2
        refine RunD.pure (i := 6) hok85 rfl (by kernel_rfl) (Pure.move rfl) (Wt.yes rfl rfl rfl) rfl rfl ?_
        refine RunD.pure (i := 8) hok85 rfl (by kernel_rfl) (Pure.move rfl) (Wt.yes rfl rfl rfl) rfl rfl ?_
        refine RunD.pure (i := 9) hok85 rfl (by kernel_rfl) (Pure.nilCheck rfl) (Wt.yes rfl rfl rfl) rfl rfl ?_
        refine RunD.pure (i := 10) hok85 rfl (by kernel_rfl) (Pure.fieldAddr rfl fo41_2) (Wt.yes rfl rfl rfl) rfl rfl ?_
        refine RunD.load1R (i := 11) hok85 rfl (by kernel_rfl) rfl (by assumption) (by rfl) agg36 (Wt.yes rfl rfl rfl) rfl ?_
        refine RunD.one (i := 7) (by kernel_rfl) rfl ?_
        refine RunL.call rfl rfl (by rfl) (by repeat (first | (with_reducible exact Take.nil _) | (apply Take.cons (by first | ((repeat (first | (with_reducible exact Find.here _) | apply Find.there)); done) | (repeat (first | exact Find.here _ | apply Find.there)))))) (RdErrno_ctr hro) (Wt.yes rfl rfl rfl) rfl ?_
        rintro _ _ ⟨rfl, rfl⟩
        refine RunL.nilD' ?_
        refine RunD.pure (i := 12) hok85 rfl (by kernel_rfl) (Pure.neq rfl rfl) (Wt.yes rfl rfl rfl) rfl rfl ?_
        refine RunD.pure (i := 13) hok85 rfl (by kernel_rfl) (Pure.pickF rfl rfl) (Wt.none rfl) rfl rfl ?_
        refine RunD.pure (i := 14) hok85 rfl (by kernel_rfl) (Pure.move rfl) (Wt.none rfl) rfl rfl ?_
        refine RunD.split (d := 56) rfl (fun hx => ?_) (fun hx => ?_)
        · try simp only [decide_eq_true_eq, decide_eq_false_iff_not, beq_iff_eq, beq_eq_false_iff_ne, bne_iff_ne, ne_eq, Bool.not_eq_true', Bool.not_eq_false', Bool.not_eq_true, Bool.not_eq_false, Int.not_lt, Int.not_le, Decidable.not_not, bne_eq_false_iff_eq, gt_iff_lt, ge_iff_le, Bool.or_eq_true, Bool.and_eq_true] at hx
          exfalso; simp at hx
        · try simp only [decide_eq_true_eq, decide_eq_false_iff_not, beq_iff_eq, beq_eq_false_iff_ne, bne_iff_ne, ne_eq, Bool.not_eq_true', Bool.not_eq_false', Bool.not_eq_true, Bool.not_eq_false, Int.not_lt, Int.not_le, Decidable.not_not, bne_eq_false_iff_eq, gt_iff_lt, ge_iff_le, Bool.or_eq_true, Bool.and_eq_true] at hx
          refine RunD.pure (i := 15) hok85 rfl (by kernel_rfl) (Pure.move rfl) (Wt.yes rfl rfl rfl) rfl rfl ?_
          refine RunD.pure (i := 17) hok85 rfl (by kernel_rfl) (Pure.move rfl) (Wt.yes rfl rfl rfl) rfl rfl ?_
          refine RunD.one (i := 16) (by kernel_rfl) rfl ?_
          refine RunL.call rfl rfl (by rfl) (by repeat (first | (with_reducible exact Take.nil _) | (apply Take.cons (by first | ((repeat (first | (with_reducible exact Find.here _) | apply Find.there)); done) | (repeat (first | exact Find.here _ | apply Find.there)))))) (RdLeft_ctr hro) (Wt.yes rfl rfl rfl) rfl ?_
          rintro _ _ ⟨rfl, rfl⟩
          refine RunL.nilD' ?_
          refine RunD.one (i := 18) (by kernel_rfl) rfl ?_
          refine RunL.call rfl rfl (by rfl) (by repeat (first | (with_reducible exact Take.nil _) | (apply Take.cons (by first | ((repeat (first | (with_reducible exact Find.here _) | apply Find.there)); done) | (repeat (first | exact Find.here _ | apply Find.there)))))) (RgLeft_ctr hok hrg) (Wt.yes rfl rfl rfl) rfl ?_
          rintro _ _ ⟨rfl, rfl⟩
          refine RunL.nilD' ?_
          refine RunD.pure (i := 19) hok85 rfl (by kernel_rfl) (Pure.neq rfl rfl) (Wt.yes rfl rfl rfl) rfl rfl ?_
          refine RunD.pure (i := 20) hok85 rfl (by kernel_rfl) (Pure.pickF rfl rfl) (Wt.none rfl) rfl rfl ?_
          refine RunD.nilB (by kernel_rfl) (fun w sw => backg1 _ _ (backg2 _ _ (sw))) ?_
          refine Run.cond rfl (fun hx => ?_) (fun hx => ?_)
          · try simp only [decide_eq_true_eq, decide_eq_false_iff_not, beq_iff_eq, beq_eq_false_iff_ne, bne_iff_ne, ne_eq, Bool.not_eq_true', Bool.not_eq_false', Bool.not_eq_true, Bool.not_eq_false, Int.not_lt, Int.not_le, Decidable.not_not, bne_eq_false_iff_eq, gt_iff_lt, ge_iff_le, Bool.or_eq_true, Bool.and_eq_true] at hx
            exfalso; simp at hx
          · try simp only [decide_eq_true_eq, decide_eq_false_iff_not, beq_iff_eq, beq_eq_false_iff_ne, bne_iff_ne, ne_eq, Bool.not_eq_true', Bool.not_eq_false', Bool.not_eq_true, Bool.not_eq_false, Int.not_lt, Int.not_le, Decidable.not_not, bne_eq_false_iff_eq, gt_iff_lt, ge_iff_le, Bool.or_eq_true, Bool.and_eq_true] at hx
            refine Run.skip ?_
            refine Run.inBlock ?_
            refine Run.region ?_
            refine RunL.mv rfl rfl ?_
            first | refine RunL.pure (Pure.addI rfl rfl (by omega)) (Wt.none rfl) rfl rfl ?_ | refine RunL.pure (Pure.add rfl rfl) (Wt.none rfl) rfl rfl ?_
            refine RunL.as rfl rfl ?_
            refine RunL.nil ?_
            refine Run.keep (.cons rfl (.cons rfl (.cons rfl (.nil))) : Keep _ [8, 9, 11] _) ?_
            refine ih _ _ _ ?_ ⟨bs1, er1, i + 1, hq1, by omega, by omega, rfl, rfl, rfl⟩
            omega
    · try simp only [decide_eq_true_eq, decide_eq_false_iff_not, beq_iff_eq, beq_eq_false_iff_ne, bne_iff_ne, ne_eq, Bool.not_eq_true', Bool.not_eq_false', Bool.not_eq_true, Bool.not_eq_false, Int.not_lt, Int.not_le, Decidable.not_not, bne_eq_false_iff_eq, gt_iff_lt, ge_iff_le, Bool.or_eq_true, Bool.and_eq_true] at hi
      refine Run.exit rfl ?_
      refine Run.sr ?_
      refine RunL.call rfl rfl (by rfl) (by repeat (first | (with_reducible exact Take.nil _) | (apply Take.cons (by first | ((repeat (first | (with_reducible exact Find.here _) | apply Find.there)); done) | (repeat (first | exact Find.here _ | apply Find.there)))))) (lives_ctr) (Wt.none rfl) rfl ?_
      rintro _ _ ⟨rfl, rfl⟩
      refine RunL.as rfl rfl ?_
      refine RunL.nil ?_
      exact Run.ret Try.func5 (res1 rfl rfl) (by exact ⟨rfl, rfl⟩) (by repeat (first | (with_reducible exact Fin.done (by repeat (first | (with_reducible exact Rest.here) | apply Rest.there))) | (apply Fin.cons (by first | ((repeat (first | (with_reducible exact Find.here _) | apply Find.there)); done) | (repeat (first | exact Find.here _ | apply Find.there))))))
  · try simp only [decide_eq_true_eq, decide_eq_false_iff_not, beq_iff_eq, beq_eq_false_iff_ne, bne_iff_ne, ne_eq, Bool.not_eq_true', Bool.not_eq_false', Bool.not_eq_true, Bool.not_eq_false, Int.not_lt, Int.not_le, Decidable.not_not, bne_eq_false_iff_eq, gt_iff_lt, ge_iff_le, Bool.or_eq_true, Bool.and_eq_true] at hlen
    refine Run.skip ?_
    refine Run.seq ?_
    refine Run.sr ?_
    refine RunL.as rfl rfl ?_
    refine RunL.nil ?_
    refine Run.block ?_
    refine Run.keep (.cons rfl (.cons rfl (.cons rfl (.nil))) : Keep _ [8, 9, 11] _) ?_
    refine Run.fit (F := F) (A2 := Rd r _ _ :: Rg q _ _ :: F) (by repeat (first | (with_reducible exact Fin.done (by repeat (first | (with_reducible exact Rest.here) | apply Rest.there))) | (apply Fin.cons (by first | ((repeat (first | (with_reducible exact Find.here _) | apply Find.there)); done) | (repeat (first | exact Find.here _ | apply Find.there)))))) ?_
    refine Run.loopR (fun n e A => ∃ (bs : List UInt8) (er i : Int), (er ≠ 0 → bs = []) ∧ bs.length ≤ 20 ∧ 0 ≤ i ∧ n = (5 - i).toNat ∧ e = [(8, .pointer (some ⟨q, 0, none⟩)), (9, .pointer (some ⟨r, 0, none⟩)), (11, .int .i64 i)] ∧ A = Rd r bs er :: Rg q bs er :: F) (5) ⟨_, 0, 0, fun h => absurd rfl h, by omega, by omega, rfl, rfl, rfl⟩ ?_
    rintro n _ _ ⟨bs, er, i, hbe, hbl, hi0, rfl, rfl, rfl⟩ ih
    refine Run.seq ?_
    refine Run.sr ?_
    refine RunL.mv rfl rfl ?_
    refine RunL.pure (Pure.lss rfl rfl) (Wt.none rfl) rfl rfl ?_
    refine RunL.nil ?_
    refine Run.cond rfl (fun hi => ?_) (fun hi => ?_)
    · try simp only [decide_eq_true_eq, decide_eq_false_iff_not, beq_iff_eq, beq_eq_false_iff_ne, bne_iff_ne, ne_eq, Bool.not_eq_true', Bool.not_eq_false', Bool.not_eq_true, Bool.not_eq_false, Int.not_lt, Int.not_le, Decidable.not_not, bne_eq_false_iff_eq, gt_iff_lt, ge_iff_le, Bool.or_eq_true, Bool.and_eq_true] at hi
      refine Run.skip ?_
      refine Run.seq ?_
      refine Run.block ?_
      refine Run.seq ?_
      refine Run.regionD' (by kernel_rfl) (by kernel_rfl) (fun hok184 => ?_)
      refine RunD.pure (i := 0) hok184 rfl (by kernel_rfl) (Pure.move rfl) (Wt.none rfl) rfl rfl ?_
      refine RunD.pure (i := 2) hok184 rfl (by kernel_rfl) (Pure.move rfl) (Wt.none rfl) rfl rfl ?_
      refine RunD.one (i := 1) (by kernel_rfl) rfl ?_
      refine RunL.call rfl rfl (by rfl) (by repeat (first | (with_reducible exact Take.nil _) | (apply Take.cons (by first | ((repeat (first | (with_reducible exact Find.here _) | apply Find.there)); done) | (repeat (first | exact Find.here _ | apply Find.there)))))) (RdNumber_ctr hbe (by omega)) (Wt.none rfl) rfl ?_
      rintro _ _ ⟨rfl, rfl⟩
      refine RunL.nilD' ?_
      refine RunD.one (i := 3) (by kernel_rfl) rfl ?_
      refine RunL.call rfl rfl (by rfl) (by repeat (first | (with_reducible exact Take.nil _) | (apply Take.cons (by first | ((repeat (first | (with_reducible exact Find.here _) | apply Find.there)); done) | (repeat (first | exact Find.here _ | apply Find.there)))))) (RgNumber_ctr) (Wt.none rfl) rfl ?_
      rintro _ _ ⟨rfl, rfl⟩
      obtain ⟨hq1, hq2, hq3, hq4⟩ := rdNum_inv hbe
      generalize hn1 : (rdNum bs er).1 = n1 at *
      generalize hb1 : (rdNum bs er).2.1 = bs1 at *
      generalize he1 : (rdNum bs er).2.2 = er1 at *
      refine RunL.nilD' ?_
      refine RunD.pure (i := 4) hok184 rfl (by kernel_rfl) (Pure.neq rfl rfl) (Wt.none rfl) rfl rfl ?_
      refine RunD.pure (i := 5) hok184 rfl (by kernel_rfl) (Pure.move rfl) (Wt.none rfl) rfl rfl ?_
      refine RunD.split (d := 47) rfl (fun hx => ?_) (fun hx => ?_)
      · try simp only [decide_eq_true_eq, decide_eq_false_iff_not, beq_iff_eq, beq_eq_false_iff_ne, bne_iff_ne, ne_eq, Bool.not_eq_true', Bool.not_eq_false', Bool.not_eq_true, Bool.not_eq_false, Int.not_lt, Int.not_le, Decidable.not_not, bne_eq_false_iff_eq, gt_iff_lt, ge_iff_le, Bool.or_eq_true, Bool.and_eq_true] at hx
        exfalso; simp at hx
      · try simp only [decide_eq_true_eq, decide_eq_false_iff_not, beq_iff_eq, beq_eq_false_iff_ne, bne_iff_ne, ne_eq, Bool.not_eq_true', Bool.not_eq_false', Bool.not_eq_true, Bool.not_eq_false, Int.not_lt, Int.not_le, Decidable.not_not, bne_eq_false_iff_eq, gt_iff_lt, ge_iff_le, Bool.or_eq_true, Bool.and_eq_true] at hx
        refine RunD.lend (Q := Rd r _ _) Lends.Rd (by first | ((repeat (first | (with_reducible exact Find.here _) | apply Find.there)); done) | (repeat (first | exact Find.here _ | apply Find.there))) ?_; intro g1 hleg1 hr1 backg1
        refine RunD.lend (Q := Rg q _ _) Lends.Rg (by first | ((repeat (first | (with_reducible exact Find.here _) | apply Find.there)); done) | (repeat (first | exact Find.here _ | apply Find.there))) ?_; intro g2 hleg2 hr2 backg2
        obtain ⟨ar, capr, hro⟩ := hr1
        obtain ⟨ag, capg, Bg, Ig, hok, hrg⟩ := hr2
        replace hro := hro.mono hleg2
        refine RunD.pure (i := 6) hok184 rfl (by kernel_rfl) (Pure.move rfl) (Wt.yes rfl rfl rfl) rfl rfl ?_
        refine RunD.pure (i := 8) hok184 rfl (by kernel_rfl) (Pure.move rfl) (Wt.yes rfl rfl rfl) rfl rfl ?_
        refine RunD.pure (i := 9) hok184 rfl (by kernel_rfl) (Pure.nilCheck rfl) (Wt.yes rfl rfl rfl) rfl rfl ?_
        refine RunD.pure (i := 10) hok184 rfl (by kernel_rfl) (Pure.fieldAddr rfl fo41_2) (Wt.yes rfl rfl rfl) rfl rfl ?_
        refine RunD.load1R (i := 11) hok184 rfl (by kernel_rfl) rfl (by assumption) (by rfl) agg36 (Wt.yes rfl rfl rfl) rfl ?_
        refine RunD.one (i := 7) (by kernel_rfl) rfl ?_
        refine RunL.call rfl rfl (by rfl) (by repeat (first | (with_reducible exact Take.nil _) | (apply Take.cons (by first | ((repeat (first | (with_reducible exact Find.here _) | apply Find.there)); done) | (repeat (first | exact Find.here _ | apply Find.there)))))) (RdErrno_ctr hro) (Wt.yes rfl rfl rfl) rfl ?_
        rintro _ _ ⟨rfl, rfl⟩
        refine RunL.nilD' ?_
        refine RunD.pure (i := 12) hok184 rfl (by kernel_rfl) (Pure.neq rfl rfl) (Wt.yes rfl rfl rfl) rfl rfl ?_
        refine RunD.pure (i := 13) hok184 rfl (by kernel_rfl) (Pure.pickF rfl rfl) (Wt.none rfl) rfl rfl ?_
        refine RunD.pure (i := 14) hok184 rfl (by kernel_rfl) (Pure.move rfl) (Wt.none rfl) rfl rfl ?_
        refine RunD.split (d := 56) rfl (fun hx => ?_) (fun hx => ?_)
        · try simp only [decide_eq_true_eq, decide_eq_false_iff_not, beq_iff_eq, beq_eq_false_iff_ne, bne_iff_ne, ne_eq, Bool.not_eq_true', Bool.not_eq_false', Bool.not_eq_true, Bool.not_eq_false, Int.not_lt, Int.not_le, Decidable.not_not, bne_eq_false_iff_eq, gt_iff_lt, ge_iff_le, Bool.or_eq_true, Bool.and_eq_true] at hx
          exfalso; simp at hx
        · try simp only [decide_eq_true_eq, decide_eq_false_iff_not, beq_iff_eq, beq_eq_false_iff_ne, bne_iff_ne, ne_eq, Bool.not_eq_true', Bool.not_eq_false', Bool.not_eq_true, Bool.not_eq_false, Int.not_lt, Int.not_le, Decidable.not_not, bne_eq_false_iff_eq, gt_iff_lt, ge_iff_le, Bool.or_eq_true, Bool.and_eq_true] at hx
          refine RunD.pure (i := 15) hok184 rfl (by kernel_rfl) (Pure.move rfl) (Wt.yes rfl rfl rfl) rfl rfl ?_
          refine RunD.pure (i := 17) hok184 rfl (by kernel_rfl) (Pure.move rfl) (Wt.yes rfl rfl rfl) rfl rfl ?_
          refine RunD.one (i := 16) (by kernel_rfl) rfl ?_
          refine RunL.call rfl rfl (by rfl) (by repeat (first | (with_reducible exact Take.nil _) | (apply Take.cons (by first | ((repeat (first | (with_reducible exact Find.here _) | apply Find.there)); done) | (repeat (first | exact Find.here _ | apply Find.there)))))) (RdLeft_ctr hro) (Wt.yes rfl rfl rfl) rfl ?_
          rintro _ _ ⟨rfl, rfl⟩
          refine RunL.nilD' ?_
          refine RunD.one (i := 18) (by kernel_rfl) rfl ?_
          refine RunL.call rfl rfl (by rfl) (by repeat (first | (with_reducible exact Take.nil _) | (apply Take.cons (by first | ((repeat (first | (with_reducible exact Find.here _) | apply Find.there)); done) | (repeat (first | exact Find.here _ | apply Find.there)))))) (RgLeft_ctr hok hrg) (Wt.yes rfl rfl rfl) rfl ?_
          rintro _ _ ⟨rfl, rfl⟩
          refine RunL.nilD' ?_
          refine RunD.pure (i := 19) hok184 rfl (by kernel_rfl) (Pure.neq rfl rfl) (Wt.yes rfl rfl rfl) rfl rfl ?_
          refine RunD.pure (i := 20) hok184 rfl (by kernel_rfl) (Pure.pickF rfl rfl) (Wt.none rfl) rfl rfl ?_
          refine RunD.nilB (by kernel_rfl) (fun w sw => backg1 _ _ (backg2 _ _ (sw))) ?_
          refine Run.cond rfl (fun hx => ?_) (fun hx => ?_)
          · try simp only [decide_eq_true_eq, decide_eq_false_iff_not, beq_iff_eq, beq_eq_false_iff_ne, bne_iff_ne, ne_eq, Bool.not_eq_true', Bool.not_eq_false', Bool.not_eq_true, Bool.not_eq_false, Int.not_lt, Int.not_le, Decidable.not_not, bne_eq_false_iff_eq, gt_iff_lt, ge_iff_le, Bool.or_eq_true, Bool.and_eq_true] at hx
            exfalso; simp at hx
          · try simp only [decide_eq_true_eq, decide_eq_false_iff_not, beq_iff_eq, beq_eq_false_iff_ne, bne_iff_ne, ne_eq, Bool.not_eq_true', Bool.not_eq_false', Bool.not_eq_true, Bool.not_eq_false, Int.not_lt, Int.not_le, Decidable.not_not, bne_eq_false_iff_eq, gt_iff_lt, ge_iff_le, Bool.or_eq_true, Bool.and_eq_true] at hx
            refine Run.skip ?_
            refine Run.inBlock ?_
            refine Run.region ?_
            refine RunL.mv rfl rfl ?_
            first | refine RunL.pure (Pure.addI rfl rfl (by omega)) (Wt.none rfl) rfl rfl ?_ | refine RunL.pure (Pure.add rfl rfl) (Wt.none rfl) rfl rfl ?_
            refine RunL.as rfl rfl ?_
            refine RunL.nil ?_
            refine Run.keep (.cons rfl (.cons rfl (.cons rfl (.nil))) : Keep _ [8, 9, 11] _) ?_
            refine ih _ _ _ ?_ ⟨bs1, er1, i + 1, hq1, by omega, by omega, rfl, rfl, rfl⟩
            omega
    · try simp only [decide_eq_true_eq, decide_eq_false_iff_not, beq_iff_eq, beq_eq_false_iff_ne, bne_iff_ne, ne_eq, Bool.not_eq_true', Bool.not_eq_false', Bool.not_eq_true, Bool.not_eq_false, Int.not_lt, Int.not_le, Decidable.not_not, bne_eq_false_iff_eq, gt_iff_lt, ge_iff_le, Bool.or_eq_true, Bool.and_eq_true] at hi
      refine Run.exit rfl ?_
      refine Run.sr ?_
      refine RunL.call rfl rfl (by rfl) (by repeat (first | (with_reducible exact Take.nil _) | (apply Take.cons (by first | ((repeat (first | (with_reducible exact Find.here _) | apply Find.there)); done) | (repeat (first | exact Find.here _ | apply Find.there)))))) (lives_ctr) (Wt.none rfl) rfl ?_
      rintro _ _ ⟨rfl, rfl⟩
      refine RunL.as rfl rfl ?_
      refine RunL.nil ?_
      exact Run.ret Try.func5 (res1 rfl rfl) (by exact ⟨rfl, rfl⟩) (by repeat (first | (with_reducible exact Fin.done (by repeat (first | (with_reducible exact Rest.here) | apply Rest.there))) | (apply Fin.cons (by first | ((repeat (first | (with_reducible exact Find.here _) | apply Find.there)); done) | (repeat (first | exact Find.here _ | apply Find.there))))))

end Go.Proofs.Ytgfdgekhjnegcaa
