/- Put. -/
import Derived.Test.YtnmpbpadpkgboaaQ7
set_option linter.unusedVariables false
set_option linter.unusedSimpArgs false
set_option linter.unusedSectionVars false
namespace Go.Proofs.Ytnmpbpadpkgboaa
open Go Csl


set_option maxHeartbeats 4000000 in
set_option maxRecDepth 100000 in
theorem Put_ctr {G : Gp} {p : Nat} {most lost : Int} {l : List Edu} {e : Edu} (hs : eduSmall e) (ho : okEdu e) (hz : ∀ x ∈ l, eduSmall x ∧ okEdu x) (hb : l.length ≤ 900) (hlo : 0 ≤ lost ∧ lost ≤ 1000000) :
    Ctr Try.prog G 12 [.pointer (some ⟨p, 0, none⟩), .agg (cEdu e).toArray] [Qu p most lost l] (fun F v A => v = .tuple #[.agg (cEdu (putL most lost l e).2.2.1).toArray, .bool (putL most lost l e).2.2.2.1, .int .i64 (putL most lost l e).2.2.2.2] ∧ A = Qu p most (putL most lost l e).2.1 (putL most lost l e).1 :: F) := by
  refine Ctr.intro Try.func12 rfl (by kernel_rfl) rfl (fun F => ?_)
  simp only [List.cons_append, List.nil_append]
  refine Run.openEx (X := List Key × List (Key × Edu)) (φ := fun x => QueOk x.1 x.2 l) (L := fun x => [QuA p most lost x.1 x.2]) (by unfold Qu; exact Find.here _) ?_; intro ⟨ks, m⟩ hq; simp only [List.cons_append, List.nil_append]; replace hq : QueOk ks m l := hq; have hql := hq.len
  refine Run.sr ?_
  refine RunL.boxA (xs := (cEdu e)) rfl (Wt.none rfl) rfl ?_; intro b3
  refine RunL.alloc zz31 (Wt.none rfl) rfl ?_; intro b4
  refine RunL.as rfl rfl ?_
  refine RunL.as rfl rfl ?_
  refine RunL.nil ?_
  refine Run.lendAll (Q := row b3 31 _) Lends.row (by first | ((repeat (first | (with_reducible exact Find.here _) | apply Find.there)); done) | (repeat (first | exact Find.here _ | apply Find.there))) (fun G3 hleG3 hrb3 => ?_)
  refine Run.seq ?_
  refine Run.sr ?_
  first | refine RunL.loadA (vs := (cEdu e)) rfl (by first | ((repeat (first | (with_reducible exact Find.here _) | apply Find.there)); done) | (repeat (first | exact Find.here _ | apply Find.there))) agg31 sz31 (by first | exact Nat.le_of_ble_eq_true rfl | (simp; done) | (simp; omega)) rfl (Wt.none rfl) rfl ?_ | refine RunL.loadNR (vs := (cEdu e)) rfl (by assumption) agg31 sz31 (by first | exact Nat.le_of_ble_eq_true rfl | (simp; done) | (simp; omega)) rfl (Wt.none rfl) rfl ?_
  refine RunL.call rfl rfl (by rfl) (by repeat (first | (with_reducible exact Take.nil _) | (apply Take.cons (by first | ((repeat (first | (with_reducible exact Find.here _) | apply Find.there)); done) | (repeat (first | exact Find.here _ | apply Find.there)))))) (May_ctr (by assumption)) (Wt.none rfl) rfl ?_
  rintro _ _ ⟨rfl, hA_⟩
  replace hA_ := hA_.symm; subst hA_
  refine RunL.pure (Pure.not rfl) (Wt.none rfl) rfl rfl ?_
  refine RunL.nil ?_
  refine Run.cond rfl (fun h1 => ?_) (fun h1 => ?_)
  · try simp only [decide_eq_true_eq, decide_eq_false_iff_not, beq_iff_eq, beq_eq_false_iff_ne, bne_iff_ne, ne_eq, Bool.not_eq_true', Bool.not_eq_false', Bool.not_eq_true, Bool.not_eq_false, Int.not_lt, Int.not_le, Decidable.not_not, bne_eq_false_iff_eq, gt_iff_lt, ge_iff_le, Bool.or_eq_true, Bool.and_eq_true] at h1
    refine Run.sr ?_
    refine RunL.pure (Pure.buildL (ps := []) (zs := [(.int .i64 0), (.string .empty), (.string .empty), (.string .empty), (.string .empty), (.bool false), (.bool false), (.int .i64 0), (.int .i64 0), (.int .i64 0), (.int .i64 0)]) (xs := (cEdu zeroE)) pl31 rfl rfl rfl rfl) (Wt.none rfl) rfl rfl ?_
    refine RunL.storeW (xs := (cEdu zeroE)) rfl rfl (by first | ((repeat (first | (with_reducible exact Find.here _) | apply Find.there)); done) | (repeat (first | exact Find.here _ | apply Find.there))) sz31 (by rfl) (by rfl) (by rfl) (Wt.none rfl) ?_
    refine RunL.as rfl rfl ?_
    refine RunL.as rfl rfl ?_
    refine RunL.nil ?_
    have hP := putL_no (most := most) (lost := lost) (l := l) (e := e) (by simpa using h1)
    refine Run.mkEx (X := List Key × List (Key × Edu)) (φ := fun x => QueOk x.1 x.2 (l)) (L := fun x => [QuA p most (lost) x.1 x.2]) (ks, m) (by repeat (first | (with_reducible exact Take.nil _) | (apply Take.cons (by first | ((repeat (first | (with_reducible exact Find.here _) | apply Find.there)); done) | (repeat (first | exact Find.here _ | apply Find.there)))))) hq ?_
    rw [show Ex (fun x : List Key × List (Key × Edu) => QueOk x.1 x.2 (l)) (fun x => [QuA p most (lost) x.1 x.2]) = Qu p most (lost) (l) from rfl]
    exact Run.ret Try.func12 (resV3 rfl (Rv.cellN (us := (cEdu zeroE)) rfl (by first | ((repeat (first | (with_reducible exact Find.here _) | apply Find.there)); done) | (repeat (first | exact Find.here _ | apply Find.there))) agg31 sz31 (by first | exact Nat.le_of_ble_eq_true rfl | (simp; done) | (simp; omega)) rfl) (Rv.tmp rfl) (Rv.tmp rfl)) (by exact ⟨by rw [hP], by rw [hP]⟩) (by repeat (first | (with_reducible exact Fin.done (by repeat (first | (with_reducible exact Rest.here) | apply Rest.there))) | (apply Fin.cons (by first | ((repeat (first | (with_reducible exact Find.here _) | apply Find.there)); done) | (repeat (first | exact Find.here _ | apply Find.there))))))
  · try simp only [decide_eq_true_eq, decide_eq_false_iff_not, beq_iff_eq, beq_eq_false_iff_ne, bne_iff_ne, ne_eq, Bool.not_eq_true', Bool.not_eq_false', Bool.not_eq_true, Bool.not_eq_false, Int.not_lt, Int.not_le, Decidable.not_not, bne_eq_false_iff_eq, gt_iff_lt, ge_iff_le, Bool.or_eq_true, Bool.and_eq_true] at h1
    refine Run.skip ?_
    refine Run.sr ?_
    first | refine RunL.loadA (vs := (cEdu e)) rfl (by first | ((repeat (first | (with_reducible exact Find.here _) | apply Find.there)); done) | (repeat (first | exact Find.here _ | apply Find.there))) agg31 sz31 (by first | exact Nat.le_of_ble_eq_true rfl | (simp; done) | (simp; omega)) rfl (Wt.none rfl) rfl ?_ | refine RunL.loadNR (vs := (cEdu e)) rfl (by assumption) agg31 sz31 (by first | exact Nat.le_of_ble_eq_true rfl | (simp; done) | (simp; omega)) rfl (Wt.none rfl) rfl ?_
    refine RunL.call rfl rfl (by rfl) (by repeat (first | (with_reducible exact Take.nil _) | (apply Take.cons (by first | ((repeat (first | (with_reducible exact Find.here _) | apply Find.there)); done) | (repeat (first | exact Find.here _ | apply Find.there)))))) (Of_ctr (e := e)) (Wt.none rfl) rfl ?_
    rintro _ _ ⟨rfl, hA_⟩
    replace hA_ := hA_.symm; subst hA_
    refine RunL.alloc zz42 (Wt.none rfl) rfl ?_; intro b7
    refine RunL.storeW (xs := (cKey (eKey e))) rfl rfl (by first | ((repeat (first | (with_reducible exact Find.here _) | apply Find.there)); done) | (repeat (first | exact Find.here _ | apply Find.there))) sz42 (by rfl) (by rfl) (by rfl) (Wt.none rfl) ?_
    rcases hg : mget (eKey e) m with _ | old
    · skip
      refine RunL.openQ (by first | ((repeat (first | (with_reducible exact Find.here _) | apply Find.there)); done) | (repeat (first | exact Find.here _ | apply Find.there))) ?_; intro a cap r
      refine RunL.nil ?_
      refine Run.seq ?_
      refine Run.regionD' (by kernel_rfl) (by kernel_rfl) (fun hok41 => ?_)
      refine RunD.lend (Q := row b7 42 _) Lends.row (by first | ((repeat (first | (with_reducible exact Find.here _) | apply Find.there)); done) | (repeat (first | exact Find.here _ | apply Find.there))) ?_; intro gl1 hlegl1 hl1 backgl1
      have hrb3_gl1 := hrb3.mono hlegl1
      refine RunD.lend (Q := row p 64 _) Lends.row (by first | ((repeat (first | (with_reducible exact Find.here _) | apply Find.there)); done) | (repeat (first | exact Find.here _ | apply Find.there))) ?_; intro g1 hleg1 hr1 backg1
      try (replace hl1 := hl1.mono hleg1)
      have hrb3_g1 := hrb3_gl1.mono hleg1
      refine RunD.lend (Q := Mp r _) Lends.Mp (by first | ((repeat (first | (with_reducible exact Find.here _) | apply Find.there)); done) | (repeat (first | exact Find.here _ | apply Find.there))) ?_; intro g2 hleg2 hm2 backg2
      try (replace hl1 := hl1.mono hleg2)
      try (replace hr1 := hr1.mono hleg2)
      have hrb3_g2 := hrb3_g1.mono hleg2
      refine RunD.pure (i := 0) hok41 rfl (by kernel_rfl) (Pure.move rfl) (Wt.none rfl) rfl rfl ?_
      refine RunD.pure (i := 1) hok41 rfl (by kernel_rfl) (Pure.nilCheck rfl) (Wt.none rfl) rfl rfl ?_
      refine RunD.pure (i := 2) hok41 rfl (by kernel_rfl) (Pure.fieldAddr rfl fo64_2) (Wt.none rfl) rfl rfl ?_
      refine RunD.load1R (i := 3) hok41 rfl (by kernel_rfl) rfl (by assumption) (by rfl) agg61 (Wt.none rfl) rfl ?_
      refine RunD.loadNR (vs := (cKey (eKey e))) (i := 4) hok41 rfl (by kernel_rfl) rfl (by assumption) agg42 sz42 (by first | exact Nat.le_of_ble_eq_true rfl | (simp; done) | (simp; omega)) rfl (Wt.none rfl) rfl ?_
      refine RunD.lookupR (k := eKey e) (i := 5) hok41 rfl (by kernel_rfl) rfl rfl (by assumption) und61 zz31 key42 (Wt.none rfl) rfl ?_
      rw [hg]
      refine RunD.pure (i := 6) hok41 rfl (by kernel_rfl) (Pure.move rfl) (Wt.none rfl) rfl rfl ?_
      refine RunD.pure (i := 7) hok41 rfl (by kernel_rfl) (Pure.extract rfl rfl) (Wt.none rfl) rfl rfl ?_
      refine RunD.pure (i := 8) hok41 rfl (by kernel_rfl) (Pure.extract rfl rfl) (Wt.none rfl) rfl rfl ?_
      refine RunD.one (i := 9) (by kernel_rfl) rfl ?_
      refine RunL.alloc zz31 (Wt.none rfl) rfl ?_; intro b8
      refine RunL.nilD' ?_
      refine RunD.one (i := 10) (by kernel_rfl) rfl ?_
      refine RunL.storeW (xs := (cEdu zeroE)) rfl rfl (by first | ((repeat (first | (with_reducible exact Find.here _) | apply Find.there)); done) | (repeat (first | exact Find.here _ | apply Find.there))) sz31 (by rfl) (by rfl) (by rfl) (Wt.none rfl) ?_
      refine RunL.nilD' ?_
      refine RunD.pure (i := 11) hok41 rfl (by kernel_rfl) (Pure.assign rfl) (Wt.none rfl) rfl rfl ?_
      refine RunD.nilB (by kernel_rfl) (fun w sw => backgl1 _ _ (backg1 _ _ (backg2 _ _ (sw)))) ?_
      refine Run.seq ?_
      refine Run.sr ?_
      refine RunL.mv rfl rfl ?_
      refine RunL.mv rfl rfl ?_
      refine RunL.split (d := 27) rfl (fun hg1 => ?_) (fun hg1 => ?_)
      · try simp only [decide_eq_true_eq, decide_eq_false_iff_not, beq_iff_eq, beq_eq_false_iff_ne, bne_iff_ne, ne_eq, Bool.not_eq_true', Bool.not_eq_false', Bool.not_eq_true, Bool.not_eq_false, Int.not_lt, Int.not_le, Decidable.not_not, bne_eq_false_iff_eq, gt_iff_lt, ge_iff_le, Bool.or_eq_true, Bool.and_eq_true] at hg1
        exfalso
        simp at hg1
      try simp only [decide_eq_true_eq, decide_eq_false_iff_not, beq_iff_eq, beq_eq_false_iff_ne, bne_iff_ne, ne_eq, Bool.not_eq_true', Bool.not_eq_false', Bool.not_eq_true, Bool.not_eq_false, Int.not_lt, Int.not_le, Decidable.not_not, bne_eq_false_iff_eq, gt_iff_lt, ge_iff_le, Bool.or_eq_true, Bool.and_eq_true] at hg1
      refine RunL.not (Wt.no rfl rfl rfl) rfl rfl ?_
      refine RunL.not (Wt.no rfl rfl rfl) rfl rfl ?_
      refine RunL.not (Wt.no rfl rfl rfl) rfl rfl ?_
      refine RunL.not (Wt.no rfl rfl rfl) rfl rfl ?_
      refine RunL.pure (Pure.pickF rfl rfl) (Wt.none rfl) rfl rfl ?_
      refine RunL.nil ?_
      refine Run.condF rfl ?_
      refine Run.skip ?_
      refine Run.mkQ (ks) (by repeat (first | (with_reducible exact Take.nil _) | (apply Take.cons (by first | ((repeat (first | (with_reducible exact Find.here _) | apply Find.there)); done) | (repeat (first | exact Find.here _ | apply Find.there)))))) rfl ?_
      refine Run.sr ?_
      refine RunL.mv rfl rfl ?_
      first | refine RunL.loadA (vs := (cKey (eKey e))) rfl (by first | ((repeat (first | (with_reducible exact Find.here _) | apply Find.there)); done) | (repeat (first | exact Find.here _ | apply Find.there))) agg42 sz42 (by first | exact Nat.le_of_ble_eq_true rfl | (simp; done) | (simp; omega)) rfl (Wt.none rfl) rfl ?_ | refine RunL.loadNR (vs := (cKey (eKey e))) rfl (by assumption) agg42 sz42 (by first | exact Nat.le_of_ble_eq_true rfl | (simp; done) | (simp; omega)) rfl (Wt.none rfl) rfl ?_
      refine RunL.call rfl rfl (by rfl) (by repeat (first | (with_reducible exact Take.nil _) | (apply Take.cons (by first | ((repeat (first | (with_reducible exact Find.here _) | apply Find.there)); done) | (repeat (first | exact Find.here _ | apply Find.there)))))) (drop_ctr (k := eKey e) (by omega)) (Wt.none rfl) rfl ?_
      rintro _ _ ⟨rfl, hA_⟩
      replace hA_ := hA_.symm; subst hA_
      refine RunL.nil ?_
      have hfl : (ks.filter (fun x => decide (x ≠ eKey e))).length ≤ 900 := Nat.le_trans (List.length_filter_le _ _) (by omega)
      refine Run.openQ (by first | ((repeat (first | (with_reducible exact Find.here _) | apply Find.there)); done) | (repeat (first | exact Find.here _ | apply Find.there))) ?_; intro a2 cap2 r2
      refine Run.seq ?_
      refine Run.regionD' (by kernel_rfl) (by kernel_rfl) (fun hok97 => ?_)
      refine RunD.lend (Q := row b7 42 _) Lends.row (by first | ((repeat (first | (with_reducible exact Find.here _) | apply Find.there)); done) | (repeat (first | exact Find.here _ | apply Find.there))) ?_; intro gl2 hlegl2 hl2 backgl2
      have hrb3_gl2 := hrb3.mono hlegl2
      refine RunD.pure (i := 0) hok97 rfl (by kernel_rfl) (Pure.move rfl) (Wt.none rfl) rfl rfl ?_
      refine RunD.pure (i := 1) hok97 rfl (by kernel_rfl) (Pure.move rfl) (Wt.none rfl) rfl rfl ?_
      refine RunD.pure (i := 2) hok97 rfl (by kernel_rfl) (Pure.nilCheck rfl) (Wt.none rfl) rfl rfl ?_
      refine RunD.pure (i := 3) hok97 rfl (by kernel_rfl) (Pure.fieldAddr rfl fo64_1) (Wt.none rfl) rfl rfl ?_
      refine RunD.loadNR (vs := (cKey (eKey e))) (i := 5) hok97 rfl (by kernel_rfl) rfl (by assumption) agg42 sz42 (by first | exact Nat.le_of_ble_eq_true rfl | (simp; done) | (simp; omega)) rfl (Wt.none rfl) rfl ?_
      refine RunD.two (i := 4) (j := 6) (by kernel_rfl) rfl rfl ?_ ?_
      · skip
        first | refine RunL.load1 rfl (by first | ((repeat (first | (with_reducible exact Find.here _) | apply Find.there)); done) | (repeat (first | exact Find.here _ | apply Find.there))) (by rfl) agg62 (Wt.none rfl) rfl ?_ | refine RunL.load1R rfl (by assumption) (by rfl) agg62 (Wt.none rfl) rfl ?_
        refine RunL.nilD' ?_
        refine RunD.one (i := 6) (by kernel_rfl) rfl ?_
        · skip
          refine RunL.lit (vals := [_]) (vs := ([eKey e] : List Key).flatMap cKey) und62 sz42 zz42 rfl rfl rfl rfl rfl rfl (by simp [Value.cells, bv, cEdu, cKey, cQst]) rfl (Wt.none rfl) rfl ?_; intro b43
          refine RunL.nilD' ?_
          refine RunD.one (i := 7) (by kernel_rfl) rfl ?_
          · skip
            refine RunL.append (m := 1) (n' := ((ks.filter (fun x => decide (x ≠ eKey e))) ++ [eKey e]).length) (cs' := ((ks.filter (fun x => decide (x ≠ eKey e))) ++ [eKey e]).flatMap cKey) rfl rfl (by first | ((repeat (first | (with_reducible exact Find.here _) | apply Find.there)); done) | (repeat (first | exact Find.here _ | apply Find.there))) rfl rfl und62 und62 rfl sz42 zz42 rfl by42 (by omega) (by omega) (fun w sw => sw.src) (isOne_flat (f := cKey) (fun _ => rfl)) (by rw [List.length_append]; rfl) (by rw [flatMap_app]) (Wt.none rfl) rfl ?_; intro a3 c3
            refine RunL.nilD' ?_
            refine RunD.pure (i := 8) hok97 rfl (by kernel_rfl) (Pure.nilCheck rfl) (Wt.none rfl) rfl rfl ?_
            refine RunD.pure (i := 9) hok97 rfl (by kernel_rfl) (Pure.fieldAddr rfl fo64_1) (Wt.none rfl) rfl rfl ?_
            refine RunD.one (i := 10) (by kernel_rfl) rfl ?_
            · skip
              refine RunL.store1 rfl rfl (by first | ((repeat (first | (with_reducible exact Find.here _) | apply Find.there)); done) | (repeat (first | exact Find.here _ | apply Find.there))) sz62 (by rfl) (by simp) (Wt.none rfl) ?_
              try simp only [List.set_cons_zero, List.set_cons_succ]
              refine RunL.nilD' ?_
              refine RunD.nilB (by kernel_rfl) (fun w sw => backgl2 _ _ (sw)) ?_
              refine Run.seq ?_
              refine Run.regionD' (by kernel_rfl) (by kernel_rfl) (fun hok126 => ?_)
              refine RunD.lend (Q := row b7 42 _) Lends.row (by first | ((repeat (first | (with_reducible exact Find.here _) | apply Find.there)); done) | (repeat (first | exact Find.here _ | apply Find.there))) ?_; intro gl3 hlegl3 hl3 backgl3
              have hrb3_gl3 := hrb3.mono hlegl3
              refine RunD.lend (Q := row p 64 _) Lends.row (by first | ((repeat (first | (with_reducible exact Find.here _) | apply Find.there)); done) | (repeat (first | exact Find.here _ | apply Find.there))) ?_; intro gr9 hlegr9 hrr9 backgr9
              try (replace hl3 := hl3.mono hlegr9)
              have hrb3_gr9 := hrb3_gl3.mono hlegr9
              refine RunD.pure (i := 0) hok126 rfl (by kernel_rfl) (Pure.move rfl) (Wt.none rfl) rfl rfl ?_
              refine RunD.pure (i := 1) hok126 rfl (by kernel_rfl) (Pure.nilCheck rfl) (Wt.none rfl) rfl rfl ?_
              refine RunD.pure (i := 2) hok126 rfl (by kernel_rfl) (Pure.fieldAddr rfl fo64_2) (Wt.none rfl) rfl rfl ?_
              refine RunD.load1R (i := 3) hok126 rfl (by kernel_rfl) rfl (by assumption) (by rfl) agg61 (Wt.none rfl) rfl ?_
              refine RunD.loadNR (vs := (cKey (eKey e))) (i := 4) hok126 rfl (by kernel_rfl) rfl (by assumption) agg42 sz42 (by first | exact Nat.le_of_ble_eq_true rfl | (simp; done) | (simp; omega)) rfl (Wt.none rfl) rfl ?_
              refine RunD.loadNR (vs := (cEdu e)) (i := 5) hok126 rfl (by kernel_rfl) rfl (by assumption) agg31 sz31 (by first | exact Nat.le_of_ble_eq_true rfl | (simp; done) | (simp; omega)) rfl (Wt.none rfl) rfl ?_
              refine RunD.one (i := 6) (by kernel_rfl) rfl ?_
              refine RunL.mapUpdate (k := eKey e) (v := e) (ev := eE) rfl rfl rfl (by first | ((repeat (first | (with_reducible exact Find.here _) | apply Find.there)); done) | (repeat (first | exact Find.here _ | apply Find.there))) und61 key42 (Wt.none rfl) ?_
              refine RunL.nilD' ?_
              refine RunD.nilB (by kernel_rfl) (fun w sw => backgl3 _ _ (backgr9 _ _ (sw))) ?_
              have hqp := hq.put e
              refine Run.seq ?_
              refine Run.seq ?_
              refine Run.regionD' (by kernel_rfl) (by kernel_rfl) (fun hok145 => ?_)
              refine RunD.lend (Q := row p 64 _) Lends.row (by first | ((repeat (first | (with_reducible exact Find.here _) | apply Find.there)); done) | (repeat (first | exact Find.here _ | apply Find.there))) ?_; intro gr10 hlegr10 hrr10 backgr10
              have hrb3_gr10 := hrb3.mono hlegr10
              refine RunD.pure (i := 0) hok145 rfl (by kernel_rfl) (Pure.move rfl) (Wt.none rfl) rfl rfl ?_
              refine RunD.pure (i := 1) hok145 rfl (by kernel_rfl) (Pure.nilCheck rfl) (Wt.none rfl) rfl rfl ?_
              refine RunD.pure (i := 2) hok145 rfl (by kernel_rfl) (Pure.fieldAddr rfl fo64_1) (Wt.none rfl) rfl rfl ?_
              refine RunD.load1R (i := 3) hok145 rfl (by kernel_rfl) rfl (by assumption) (by rfl) agg62 (Wt.none rfl) rfl ?_
              refine RunD.pure (i := 4) hok145 rfl (by kernel_rfl) (Pure.lenSl rfl rfl und62) (Wt.none rfl) rfl rfl ?_
              refine RunD.pure (i := 5) hok145 rfl (by kernel_rfl) (Pure.move rfl) (Wt.none rfl) rfl rfl ?_
              refine RunD.pure (i := 6) hok145 rfl (by kernel_rfl) (Pure.nilCheck rfl) (Wt.none rfl) rfl rfl ?_
              refine RunD.pure (i := 7) hok145 rfl (by kernel_rfl) (Pure.fieldAddr rfl fo64_0) (Wt.none rfl) rfl rfl ?_
              refine RunD.load1R (i := 8) hok145 rfl (by kernel_rfl) rfl (by assumption) (by rfl) agg3 (Wt.none rfl) rfl ?_
              refine RunD.pure (i := 9) hok145 rfl (by kernel_rfl) (Pure.leq rfl rfl) (Wt.none rfl) rfl rfl ?_
              refine RunD.nilB (by kernel_rfl) (fun w sw => backgr10 _ _ (sw)) ?_
              refine Run.cond rfl (fun h3 => ?_) (fun h3 => ?_)
              · try simp only [decide_eq_true_eq, decide_eq_false_iff_not, beq_iff_eq, beq_eq_false_iff_ne, bne_iff_ne, ne_eq, Bool.not_eq_true', Bool.not_eq_false', Bool.not_eq_true, Bool.not_eq_false, Int.not_lt, Int.not_le, Decidable.not_not, bne_eq_false_iff_eq, gt_iff_lt, ge_iff_le, Bool.or_eq_true, Bool.and_eq_true] at h3
                refine Run.sr ?_
                refine RunL.pure (Pure.buildL (ps := []) (zs := [(.int .i64 0), (.string .empty), (.string .empty), (.string .empty), (.string .empty), (.bool false), (.bool false), (.int .i64 0), (.int .i64 0), (.int .i64 0), (.int .i64 0)]) (xs := (cEdu zeroE)) pl31 rfl rfl rfl rfl) (Wt.none rfl) rfl rfl ?_
                refine RunL.storeW (xs := (cEdu zeroE)) rfl rfl (by first | ((repeat (first | (with_reducible exact Find.here _) | apply Find.there)); done) | (repeat (first | exact Find.here _ | apply Find.there))) sz31 (by rfl) (by rfl) (by rfl) (Wt.none rfl) ?_
                refine RunL.as rfl rfl ?_
                refine RunL.as rfl rfl ?_
                refine RunL.nil ?_
                have hP := putL_in (most := most) (lost := lost) (l := l) (e := e) (by simpa using h1) (fun old q => by rw [← hq.2.1, hg] at q; cases q) (by rw [← hqp.len]; exact h3)
                refine Run.mkQ (((ks.filter (fun x => decide (x ≠ eKey e))) ++ [eKey e])) (by repeat (first | (with_reducible exact Take.nil _) | (apply Take.cons (by first | ((repeat (first | (with_reducible exact Find.here _) | apply Find.there)); done) | (repeat (first | exact Find.here _ | apply Find.there)))))) rfl ?_
                refine Run.mkEx (X := List Key × List (Key × Edu)) (φ := fun x => QueOk x.1 x.2 ((offK l (eKey e) ++ [e]))) (L := fun x => [QuA p most (lost) x.1 x.2]) (((ks.filter (fun x => decide (x ≠ eKey e))) ++ [eKey e]), (mput (eKey e) e (mdel (eKey e) m))) (by repeat (first | (with_reducible exact Take.nil _) | (apply Take.cons (by first | ((repeat (first | (with_reducible exact Find.here _) | apply Find.there)); done) | (repeat (first | exact Find.here _ | apply Find.there)))))) hqp ?_
                rw [show Ex (fun x : List Key × List (Key × Edu) => QueOk x.1 x.2 ((offK l (eKey e) ++ [e]))) (fun x => [QuA p most (lost) x.1 x.2]) = Qu p most (lost) ((offK l (eKey e) ++ [e])) from rfl]
                exact Run.ret Try.func12 (resV3 rfl (Rv.cellN (us := (cEdu zeroE)) rfl (by first | ((repeat (first | (with_reducible exact Find.here _) | apply Find.there)); done) | (repeat (first | exact Find.here _ | apply Find.there))) agg31 sz31 (by first | exact Nat.le_of_ble_eq_true rfl | (simp; done) | (simp; omega)) rfl) (Rv.tmp rfl) (Rv.tmp rfl)) (by exact ⟨by rw [hP], by rw [hP]⟩) (by repeat (first | (with_reducible exact Fin.done (by repeat (first | (with_reducible exact Rest.here) | apply Rest.there))) | (apply Fin.cons (by first | ((repeat (first | (with_reducible exact Find.here _) | apply Find.there)); done) | (repeat (first | exact Find.here _ | apply Find.there))))))
              · try simp only [decide_eq_true_eq, decide_eq_false_iff_not, beq_iff_eq, beq_eq_false_iff_ne, bne_iff_ne, ne_eq, Bool.not_eq_true', Bool.not_eq_false', Bool.not_eq_true, Bool.not_eq_false, Int.not_lt, Int.not_le, Decidable.not_not, bne_eq_false_iff_eq, gt_iff_lt, ge_iff_le, Bool.or_eq_true, Bool.and_eq_true] at h3
                refine Run.skip ?_
                obtain ⟨x0, hx0⟩ := get_some (xs := (offK l (eKey e) ++ [e])) (i := 0) (by rw [List.length_append]; exact Nat.lt_add_left _ Nat.one_pos)
                have hk0 : ((ks.filter (fun x => decide (x ≠ eKey e))) ++ [eKey e])[0]? = some (eKey x0) := by rw [hqp.1, List.getElem?_map, hx0]; rfl
                have hg0 := hqp.at_ hx0
                have hP : putL most lost l e = ((offK l (eKey e) ++ [e]).drop 1, lost + 1, x0, true, 0) := by rw [putL_past (by simpa using h1) (fun old q => by rw [← hq.2.1, hg] at q; cases q) (by rw [← hqp.len]; exact Int.not_le.2 (by first | exact h3 | simpa using h3)), hx0]; rfl
                have hkl : ((ks.filter (fun x => decide (x ≠ eKey e))) ++ [eKey e]).length ≤ 901 := by rw [List.length_append]; exact Nat.add_le_add_right hfl 1
                have hkp : 0 < ((ks.filter (fun x => decide (x ≠ eKey e))) ++ [eKey e]).length := by rw [List.length_append]; exact Nat.lt_add_left _ Nat.one_pos
                refine Run.openSl (a := a3) (n := ((ks.filter (fun x => decide (x ≠ eKey e))) ++ [eKey e]).length) (by first | ((repeat (first | (with_reducible exact Find.here _) | apply Find.there)); done) | (repeat (first | exact Find.here _ | apply Find.there))) (by rw [List.length_append]; exact Nat.lt_add_left _ Nat.one_pos) ?_; rintro b2 pre2 post2 rfl hsl1 hsl2 hsl3
                refine Run.seq ?_
                refine Run.regionD' (by kernel_rfl) (by kernel_rfl) (fun hok182 => ?_)
                refine RunD.lend (Q := row p 64 _) Lends.row (by first | ((repeat (first | (with_reducible exact Find.here _) | apply Find.there)); done) | (repeat (first | exact Find.here _ | apply Find.there))) ?_; intro gr12 hlegr12 hrr12 backgr12
                have hrb3_gr12 := hrb3.mono hlegr12
                refine RunD.lend (Q := Mp r2 _) Lends.Mp (by first | ((repeat (first | (with_reducible exact Find.here _) | apply Find.there)); done) | (repeat (first | exact Find.here _ | apply Find.there))) ?_; intro gm12 hlegm12 hm12 backgm12
                try (replace hrr12 := hrr12.mono hlegm12)
                have hrb3_gm12 := hrb3_gr12.mono hlegm12
                refine RunD.lend (Q := row b2 _ _) Lends.row (by first | ((repeat (first | (with_reducible exact Find.here _) | apply Find.there)); done) | (repeat (first | exact Find.here _ | apply Find.there))) ?_; intro gb12 hlegb12 hb12 backgb12
                try (replace hrr12 := hrr12.mono hlegb12)
                try (replace hm12 := hm12.mono hlegb12)
                have hrb3_gb12 := hrb3_gm12.mono hlegb12
                refine RunD.pure (i := 0) hok182 rfl (by kernel_rfl) (Pure.move rfl) (Wt.none rfl) rfl rfl ?_
                refine RunD.pure (i := 1) hok182 rfl (by kernel_rfl) (Pure.nilCheck rfl) (Wt.none rfl) rfl rfl ?_
                refine RunD.pure (i := 2) hok182 rfl (by kernel_rfl) (Pure.fieldAddr rfl fo64_2) (Wt.none rfl) rfl rfl ?_
                refine RunD.load1R (i := 3) hok182 rfl (by kernel_rfl) rfl (by assumption) (by rfl) agg61 (Wt.none rfl) rfl ?_
                refine RunD.pure (i := 4) hok182 rfl (by kernel_rfl) (Pure.move rfl) (Wt.none rfl) rfl rfl ?_
                refine RunD.pure (i := 5) hok182 rfl (by kernel_rfl) (Pure.nilCheck rfl) (Wt.none rfl) rfl rfl ?_
                refine RunD.pure (i := 6) hok182 rfl (by kernel_rfl) (Pure.fieldAddr rfl fo64_1) (Wt.none rfl) rfl rfl ?_
                refine RunD.load1R (i := 7) hok182 rfl (by kernel_rfl) rfl (by assumption) (by rfl) agg62 (Wt.none rfl) rfl ?_
                refine RunD.pure (i := 8) hok182 rfl (by kernel_rfl) (Pure.indexAddr rfl rfl und62 sz42 (by omega) (by omega)) (Wt.none rfl) rfl rfl ?_
                refine RunD.loadNR (vs := (cKey ((eKey x0)))) (i := 9) hok182 rfl (by kernel_rfl) rfl hb12 agg42 sz42 (elemN_len (pre := pre2) (post := post2) (f := cKey) (sz := 5) (j := 0) (n := 5) (fun _ _ => rfl) hk0 (by decide)) ((elemN_at (pre := pre2) (post := post2) (f := cKey) (sz := 5) (j := 0) (n := 5) (fun _ _ => rfl) hk0 (by decide)).trans rfl) (Wt.none rfl) rfl ?_
                refine RunD.lookupR (k := eKey x0) (i := 10) hok182 rfl (by kernel_rfl) rfl rfl (by assumption) und61 zz31 key42 (Wt.none rfl) rfl ?_
                rw [hg0, show ∀ z, mval eE z (some x0) = .agg (cEdu x0).toArray from fun _ => rfl]
                refine RunD.one (i := 11) (by kernel_rfl) rfl ?_
                refine RunL.alloc zz31 (Wt.none rfl) rfl ?_; intro b10
                refine RunL.nilD' ?_
                refine RunD.one (i := 12) (by kernel_rfl) rfl ?_
                refine RunL.storeW (xs := (cEdu x0)) rfl rfl (by first | ((repeat (first | (with_reducible exact Find.here _) | apply Find.there)); done) | (repeat (first | exact Find.here _ | apply Find.there))) sz31 (by rfl) (by rfl) (by rfl) (Wt.none rfl) ?_
                refine RunL.nilD' ?_
                refine RunD.nilB (by kernel_rfl) (fun w sw => backgr12 _ _ (backgm12 _ _ (backgb12 _ _ (sw)))) ?_
                refine Run.sr ?_
                refine RunL.mv rfl rfl ?_
                refine RunL.mv rfl rfl ?_
                refine RunL.pure (Pure.nilCheck rfl) (Wt.none rfl) rfl rfl ?_
                refine RunL.pure (Pure.fieldAddr rfl fo64_1) (Wt.none rfl) rfl rfl ?_
                first | refine RunL.load1 rfl (by first | ((repeat (first | (with_reducible exact Find.here _) | apply Find.there)); done) | (repeat (first | exact Find.here _ | apply Find.there))) (by rfl) agg62 (Wt.none rfl) rfl ?_ | refine RunL.load1R rfl (by assumption) (by rfl) agg62 (Wt.none rfl) rfl ?_
                refine RunL.pure (Pure.indexAddr rfl rfl und62 sz42 (by omega) (by omega)) (Wt.none rfl) rfl rfl ?_
                refine RunL.loadA (vs := (cKey ((eKey x0)))) rfl (by first | ((repeat (first | (with_reducible exact Find.here _) | apply Find.there)); done) | (repeat (first | exact Find.here _ | apply Find.there))) agg42 sz42 (elemN_len (f := cKey) (sz := 5) (j := 0) (n := 5) (fun _ _ => rfl) hk0 (by decide)) ((elemN_at (f := cKey) (sz := 5) (j := 0) (n := 5) (fun _ _ => rfl) hk0 (by decide)).trans rfl) (Wt.none rfl) rfl ?_
                refine RunL.mkSl (b := b2) (pre := pre2) (post := post2) (sz := 5) (cs := (((ks.filter (fun x => decide (x ≠ eKey e))) ++ [eKey e])).flatMap cKey) (n := ((ks.filter (fun x => decide (x ≠ eKey e))) ++ [eKey e]).length) (by first | ((repeat (first | (with_reducible exact Find.here _) | apply Find.there)); done) | (repeat (first | exact Find.here _ | apply Find.there))) hsl1 hsl2 hsl3 ?_
                refine RunL.mkQ (((ks.filter (fun x => decide (x ≠ eKey e))) ++ [eKey e])) (by repeat (first | (with_reducible exact Take.nil _) | (apply Take.cons (by first | ((repeat (first | (with_reducible exact Find.here _) | apply Find.there)); done) | (repeat (first | exact Find.here _ | apply Find.there)))))) rfl ?_
                refine RunL.call rfl rfl (by rfl) (by repeat (first | (with_reducible exact Take.nil _) | (apply Take.cons (by first | ((repeat (first | (with_reducible exact Find.here _) | apply Find.there)); done) | (repeat (first | exact Find.here _ | apply Find.there)))))) (drop_ctr (k := eKey x0) (by omega)) (Wt.none rfl) rfl ?_
                rintro _ _ ⟨rfl, hA_⟩
                replace hA_ := hA_.symm; subst hA_
                refine RunL.nil ?_
                refine Run.openQ (by first | ((repeat (first | (with_reducible exact Find.here _) | apply Find.there)); done) | (repeat (first | exact Find.here _ | apply Find.there))) ?_; intro a5 cap5 r5
                refine Run.sr ?_
                refine RunL.mv rfl rfl ?_
                refine RunL.pure (Pure.nilCheck rfl) (Wt.none rfl) rfl rfl ?_
                refine RunL.pure (Pure.fieldAddr rfl fo64_3) (Wt.none rfl) rfl rfl ?_
                first | refine RunL.load1 rfl (by first | ((repeat (first | (with_reducible exact Find.here _) | apply Find.there)); done) | (repeat (first | exact Find.here _ | apply Find.there))) (by rfl) agg3 (Wt.none rfl) rfl ?_ | refine RunL.load1R rfl (by assumption) (by rfl) agg3 (Wt.none rfl) rfl ?_
                first | refine RunL.pure (Pure.addI rfl rfl (by omega)) (Wt.none rfl) rfl rfl ?_ | refine RunL.pure (Pure.add rfl rfl) (Wt.none rfl) rfl rfl ?_
                refine RunL.pure (Pure.nilCheck rfl) (Wt.none rfl) rfl rfl ?_
                refine RunL.pure (Pure.fieldAddr rfl fo64_3) (Wt.none rfl) rfl rfl ?_
                refine RunL.store1 rfl rfl (by first | ((repeat (first | (with_reducible exact Find.here _) | apply Find.there)); done) | (repeat (first | exact Find.here _ | apply Find.there))) sz3 (by rfl) (by simp) (Wt.none rfl) ?_
                try simp only [List.set_cons_zero, List.set_cons_succ]
                refine RunL.nil ?_
                refine Run.sr ?_
                first | refine RunL.loadA (vs := (cEdu x0)) rfl (by first | ((repeat (first | (with_reducible exact Find.here _) | apply Find.there)); done) | (repeat (first | exact Find.here _ | apply Find.there))) agg31 sz31 (by first | exact Nat.le_of_ble_eq_true rfl | (simp; done) | (simp; omega)) rfl (Wt.none rfl) rfl ?_ | refine RunL.loadNR (vs := (cEdu x0)) rfl (by assumption) agg31 sz31 (by first | exact Nat.le_of_ble_eq_true rfl | (simp; done) | (simp; omega)) rfl (Wt.none rfl) rfl ?_
                refine RunL.storeW (xs := (cEdu x0)) rfl rfl (by first | ((repeat (first | (with_reducible exact Find.here _) | apply Find.there)); done) | (repeat (first | exact Find.here _ | apply Find.there))) sz31 (by rfl) (by rfl) (by rfl) (Wt.none rfl) ?_
                refine RunL.as rfl rfl ?_
                refine RunL.as rfl rfl ?_
                refine RunL.nil ?_
                refine Run.mkQ (((ks.filter (fun x => decide (x ≠ eKey e))) ++ [eKey e]).filter (fun x => decide (x ≠ eKey x0))) (by repeat (first | (with_reducible exact Take.nil _) | (apply Take.cons (by first | ((repeat (first | (with_reducible exact Find.here _) | apply Find.there)); done) | (repeat (first | exact Find.here _ | apply Find.there)))))) rfl ?_
                refine Run.mkEx (X := List Key × List (Key × Edu)) (φ := fun x => QueOk x.1 x.2 ((offK l (eKey e) ++ [e]).drop 1)) (L := fun x => [QuA p most (lost + 1) x.1 x.2]) (_, _) (by repeat (first | (with_reducible exact Take.nil _) | (apply Take.cons (by first | ((repeat (first | (with_reducible exact Find.here _) | apply Find.there)); done) | (repeat (first | exact Find.here _ | apply Find.there)))))) (hqp.first hx0) ?_
                rw [show Ex (fun x : List Key × List (Key × Edu) => QueOk x.1 x.2 ((offK l (eKey e) ++ [e]).drop 1)) (fun x => [QuA p most (lost + 1) x.1 x.2]) = Qu p most (lost + 1) ((offK l (eKey e) ++ [e]).drop 1) from rfl]
                exact Run.ret Try.func12 (resV3 rfl (Rv.cellN (us := (cEdu x0)) rfl (by first | ((repeat (first | (with_reducible exact Find.here _) | apply Find.there)); done) | (repeat (first | exact Find.here _ | apply Find.there))) agg31 sz31 (by first | exact Nat.le_of_ble_eq_true rfl | (simp; done) | (simp; omega)) rfl) (Rv.tmp rfl) (Rv.tmp rfl)) (by exact ⟨by rw [hP], by rw [hP]⟩) (by repeat (first | (with_reducible exact Fin.done (by repeat (first | (with_reducible exact Rest.here) | apply Rest.there))) | (apply Fin.cons (by first | ((repeat (first | (with_reducible exact Find.here _) | apply Find.there)); done) | (repeat (first | exact Find.here _ | apply Find.there))))))
      · skip
        refine RunL.lit (vals := [_]) (vs := ([eKey e] : List Key).flatMap cKey) und62 sz42 zz42 rfl rfl rfl rfl rfl rfl (by simp [Value.cells, bv, cEdu, cKey, cQst]) rfl (Wt.none rfl) rfl ?_; intro b43
        refine RunL.nilD' ?_
        refine RunD.one (i := 4) (by kernel_rfl) rfl ?_
        · skip
          first | refine RunL.load1 rfl (by first | ((repeat (first | (with_reducible exact Find.here _) | apply Find.there)); done) | (repeat (first | exact Find.here _ | apply Find.there))) (by rfl) agg62 (Wt.none rfl) rfl ?_ | refine RunL.load1R rfl (by assumption) (by rfl) agg62 (Wt.none rfl) rfl ?_
          refine RunL.nilD' ?_
          refine RunD.one (i := 7) (by kernel_rfl) rfl ?_
          · skip
            refine RunL.append (m := 1) (n' := ((ks.filter (fun x => decide (x ≠ eKey e))) ++ [eKey e]).length) (cs' := ((ks.filter (fun x => decide (x ≠ eKey e))) ++ [eKey e]).flatMap cKey) rfl rfl (by first | ((repeat (first | (with_reducible exact Find.here _) | apply Find.there)); done) | (repeat (first | exact Find.here _ | apply Find.there))) rfl rfl und62 und62 rfl sz42 zz42 rfl by42 (by omega) (by omega) (fun w sw => sw.src) (isOne_flat (f := cKey) (fun _ => rfl)) (by rw [List.length_append]; rfl) (by rw [flatMap_app]) (Wt.none rfl) rfl ?_; intro a3 c3
            refine RunL.nilD' ?_
            refine RunD.pure (i := 8) hok97 rfl (by kernel_rfl) (Pure.nilCheck rfl) (Wt.none rfl) rfl rfl ?_
            refine RunD.pure (i := 9) hok97 rfl (by kernel_rfl) (Pure.fieldAddr rfl fo64_1) (Wt.none rfl) rfl rfl ?_
            refine RunD.one (i := 10) (by kernel_rfl) rfl ?_
            · skip
              refine RunL.store1 rfl rfl (by first | ((repeat (first | (with_reducible exact Find.here _) | apply Find.there)); done) | (repeat (first | exact Find.here _ | apply Find.there))) sz62 (by rfl) (by simp) (Wt.none rfl) ?_
              try simp only [List.set_cons_zero, List.set_cons_succ]
              refine RunL.nilD' ?_
              refine RunD.nilB (by kernel_rfl) (fun w sw => backgl2 _ _ (sw)) ?_
              refine Run.seq ?_
              refine Run.regionD' (by kernel_rfl) (by kernel_rfl) (fun hok267 => ?_)
              refine RunD.lend (Q := row b7 42 _) Lends.row (by first | ((repeat (first | (with_reducible exact Find.here _) | apply Find.there)); done) | (repeat (first | exact Find.here _ | apply Find.there))) ?_; intro gl4 hlegl4 hl4 backgl4
              have hrb3_gl4 := hrb3.mono hlegl4
              refine RunD.lend (Q := row p 64 _) Lends.row (by first | ((repeat (first | (with_reducible exact Find.here _) | apply Find.there)); done) | (repeat (first | exact Find.here _ | apply Find.there))) ?_; intro gr9 hlegr9 hrr9 backgr9
              try (replace hl4 := hl4.mono hlegr9)
              have hrb3_gr9 := hrb3_gl4.mono hlegr9
              refine RunD.pure (i := 0) hok267 rfl (by kernel_rfl) (Pure.move rfl) (Wt.none rfl) rfl rfl ?_
              refine RunD.pure (i := 1) hok267 rfl (by kernel_rfl) (Pure.nilCheck rfl) (Wt.none rfl) rfl rfl ?_
              refine RunD.pure (i := 2) hok267 rfl (by kernel_rfl) (Pure.fieldAddr rfl fo64_2) (Wt.none rfl) rfl rfl ?_
              refine RunD.load1R (i := 3) hok267 rfl (by kernel_rfl) rfl (by assumption) (by rfl) agg61 (Wt.none rfl) rfl ?_
              refine RunD.loadNR (vs := (cKey (eKey e))) (i := 4) hok267 rfl (by kernel_rfl) rfl (by assumption) agg42 sz42 (by first | exact Nat.le_of_ble_eq_true rfl | (simp; done) | (simp; omega)) rfl (Wt.none rfl) rfl ?_
              refine RunD.loadNR (vs := (cEdu e)) (i := 5) hok267 rfl (by kernel_rfl) rfl (by assumption) agg31 sz31 (by first | exact Nat.le_of_ble_eq_true rfl | (simp; done) | (simp; omega)) rfl (Wt.none rfl) rfl ?_
              refine RunD.one (i := 6) (by kernel_rfl) rfl ?_
              refine RunL.mapUpdate (k := eKey e) (v := e) (ev := eE) rfl rfl rfl (by first | ((repeat (first | (with_reducible exact Find.here _) | apply Find.there)); done) | (repeat (first | exact Find.here _ | apply Find.there))) und61 key42 (Wt.none rfl) ?_
              refine RunL.nilD' ?_
              refine RunD.nilB (by kernel_rfl) (fun w sw => backgl4 _ _ (backgr9 _ _ (sw))) ?_
              have hqp := hq.put e
              refine Run.seq ?_
              refine Run.seq ?_
              refine Run.regionD' (by kernel_rfl) (by kernel_rfl) (fun hok286 => ?_)
              refine RunD.lend (Q := row p 64 _) Lends.row (by first | ((repeat (first | (with_reducible exact Find.here _) | apply Find.there)); done) | (repeat (first | exact Find.here _ | apply Find.there))) ?_; intro gr10 hlegr10 hrr10 backgr10
              have hrb3_gr10 := hrb3.mono hlegr10
              refine RunD.pure (i := 0) hok286 rfl (by kernel_rfl) (Pure.move rfl) (Wt.none rfl) rfl rfl ?_
              refine RunD.pure (i := 1) hok286 rfl (by kernel_rfl) (Pure.nilCheck rfl) (Wt.none rfl) rfl rfl ?_
              refine RunD.pure (i := 2) hok286 rfl (by kernel_rfl) (Pure.fieldAddr rfl fo64_1) (Wt.none rfl) rfl rfl ?_
              refine RunD.load1R (i := 3) hok286 rfl (by kernel_rfl) rfl (by assumption) (by rfl) agg62 (Wt.none rfl) rfl ?_
              refine RunD.pure (i := 4) hok286 rfl (by kernel_rfl) (Pure.lenSl rfl rfl und62) (Wt.none rfl) rfl rfl ?_
              refine RunD.pure (i := 5) hok286 rfl (by kernel_rfl) (Pure.move rfl) (Wt.none rfl) rfl rfl ?_
              refine RunD.pure (i := 6) hok286 rfl (by kernel_rfl) (Pure.nilCheck rfl) (Wt.none rfl) rfl rfl ?_
              refine RunD.pure (i := 7) hok286 rfl (by kernel_rfl) (Pure.fieldAddr rfl fo64_0) (Wt.none rfl) rfl rfl ?_
              refine RunD.load1R (i := 8) hok286 rfl (by kernel_rfl) rfl (by assumption) (by rfl) agg3 (Wt.none rfl) rfl ?_
              refine RunD.pure (i := 9) hok286 rfl (by kernel_rfl) (Pure.leq rfl rfl) (Wt.none rfl) rfl rfl ?_
              refine RunD.nilB (by kernel_rfl) (fun w sw => backgr10 _ _ (sw)) ?_
              refine Run.cond rfl (fun h3 => ?_) (fun h3 => ?_)
              · try simp only [decide_eq_true_eq, decide_eq_false_iff_not, beq_iff_eq, beq_eq_false_iff_ne, bne_iff_ne, ne_eq, Bool.not_eq_true', Bool.not_eq_false', Bool.not_eq_true, Bool.not_eq_false, Int.not_lt, Int.not_le, Decidable.not_not, bne_eq_false_iff_eq, gt_iff_lt, ge_iff_le, Bool.or_eq_true, Bool.and_eq_true] at h3
                refine Run.sr ?_
                refine RunL.pure (Pure.buildL (ps := []) (zs := [(.int .i64 0), (.string .empty), (.string .empty), (.string .empty), (.string .empty), (.bool false), (.bool false), (.int .i64 0), (.int .i64 0), (.int .i64 0), (.int .i64 0)]) (xs := (cEdu zeroE)) pl31 rfl rfl rfl rfl) (Wt.none rfl) rfl rfl ?_
                refine RunL.storeW (xs := (cEdu zeroE)) rfl rfl (by first | ((repeat (first | (with_reducible exact Find.here _) | apply Find.there)); done) | (repeat (first | exact Find.here _ | apply Find.there))) sz31 (by rfl) (by rfl) (by rfl) (Wt.none rfl) ?_
                refine RunL.as rfl rfl ?_
                refine RunL.as rfl rfl ?_
                refine RunL.nil ?_
                have hP := putL_in (most := most) (lost := lost) (l := l) (e := e) (by simpa using h1) (fun old q => by rw [← hq.2.1, hg] at q; cases q) (by rw [← hqp.len]; exact h3)
                refine Run.mkQ (((ks.filter (fun x => decide (x ≠ eKey e))) ++ [eKey e])) (by repeat (first | (with_reducible exact Take.nil _) | (apply Take.cons (by first | ((repeat (first | (with_reducible exact Find.here _) | apply Find.there)); done) | (repeat (first | exact Find.here _ | apply Find.there)))))) rfl ?_
                refine Run.mkEx (X := List Key × List (Key × Edu)) (φ := fun x => QueOk x.1 x.2 ((offK l (eKey e) ++ [e]))) (L := fun x => [QuA p most (lost) x.1 x.2]) (((ks.filter (fun x => decide (x ≠ eKey e))) ++ [eKey e]), (mput (eKey e) e (mdel (eKey e) m))) (by repeat (first | (with_reducible exact Take.nil _) | (apply Take.cons (by first | ((repeat (first | (with_reducible exact Find.here _) | apply Find.there)); done) | (repeat (first | exact Find.here _ | apply Find.there)))))) hqp ?_
                rw [show Ex (fun x : List Key × List (Key × Edu) => QueOk x.1 x.2 ((offK l (eKey e) ++ [e]))) (fun x => [QuA p most (lost) x.1 x.2]) = Qu p most (lost) ((offK l (eKey e) ++ [e])) from rfl]
                exact Run.ret Try.func12 (resV3 rfl (Rv.cellN (us := (cEdu zeroE)) rfl (by first | ((repeat (first | (with_reducible exact Find.here _) | apply Find.there)); done) | (repeat (first | exact Find.here _ | apply Find.there))) agg31 sz31 (by first | exact Nat.le_of_ble_eq_true rfl | (simp; done) | (simp; omega)) rfl) (Rv.tmp rfl) (Rv.tmp rfl)) (by exact ⟨by rw [hP], by rw [hP]⟩) (by repeat (first | (with_reducible exact Fin.done (by repeat (first | (with_reducible exact Rest.here) | apply Rest.there))) | (apply Fin.cons (by first | ((repeat (first | (with_reducible exact Find.here _) | apply Find.there)); done) | (repeat (first | exact Find.here _ | apply Find.there))))))
              · try simp only [decide_eq_true_eq, decide_eq_false_iff_not, beq_iff_eq, beq_eq_false_iff_ne, bne_iff_ne, ne_eq, Bool.not_eq_true', Bool.not_eq_false', Bool.not_eq_true, Bool.not_eq_false, Int.not_lt, Int.not_le, Decidable.not_not, bne_eq_false_iff_eq, gt_iff_lt, ge_iff_le, Bool.or_eq_true, Bool.and_eq_true] at h3
                refine Run.skip ?_
                obtain ⟨x0, hx0⟩ := get_some (xs := (offK l (eKey e) ++ [e])) (i := 0) (by rw [List.length_append]; exact Nat.lt_add_left _ Nat.one_pos)
                have hk0 : ((ks.filter (fun x => decide (x ≠ eKey e))) ++ [eKey e])[0]? = some (eKey x0) := by rw [hqp.1, List.getElem?_map, hx0]; rfl
                have hg0 := hqp.at_ hx0
                have hP : putL most lost l e = ((offK l (eKey e) ++ [e]).drop 1, lost + 1, x0, true, 0) := by rw [putL_past (by simpa using h1) (fun old q => by rw [← hq.2.1, hg] at q; cases q) (by rw [← hqp.len]; exact Int.not_le.2 (by first | exact h3 | simpa using h3)), hx0]; rfl
                have hkl : ((ks.filter (fun x => decide (x ≠ eKey e))) ++ [eKey e]).length ≤ 901 := by rw [List.length_append]; exact Nat.add_le_add_right hfl 1
                have hkp : 0 < ((ks.filter (fun x => decide (x ≠ eKey e))) ++ [eKey e]).length := by rw [List.length_append]; exact Nat.lt_add_left _ Nat.one_pos
                refine Run.openSl (a := a3) (n := ((ks.filter (fun x => decide (x ≠ eKey e))) ++ [eKey e]).length) (by first | ((repeat (first | (with_reducible exact Find.here _) | apply Find.there)); done) | (repeat (first | exact Find.here _ | apply Find.there))) (by rw [List.length_append]; exact Nat.lt_add_left _ Nat.one_pos) ?_; rintro b2 pre2 post2 rfl hsl1 hsl2 hsl3
                refine Run.seq ?_
                refine Run.regionD' (by kernel_rfl) (by kernel_rfl) (fun hok323 => ?_)
                refine RunD.lend (Q := row p 64 _) Lends.row (by first | ((repeat (first | (with_reducible exact Find.here _) | apply Find.there)); done) | (repeat (first | exact Find.here _ | apply Find.there))) ?_; intro gr12 hlegr12 hrr12 backgr12
                have hrb3_gr12 := hrb3.mono hlegr12
                refine RunD.lend (Q := Mp r2 _) Lends.Mp (by first | ((repeat (first | (with_reducible exact Find.here _) | apply Find.there)); done) | (repeat (first | exact Find.here _ | apply Find.there))) ?_; intro gm12 hlegm12 hm12 backgm12
                try (replace hrr12 := hrr12.mono hlegm12)
                have hrb3_gm12 := hrb3_gr12.mono hlegm12
                refine RunD.lend (Q := row b2 _ _) Lends.row (by first | ((repeat (first | (with_reducible exact Find.here _) | apply Find.there)); done) | (repeat (first | exact Find.here _ | apply Find.there))) ?_; intro gb12 hlegb12 hb12 backgb12
                try (replace hrr12 := hrr12.mono hlegb12)
                try (replace hm12 := hm12.mono hlegb12)
                have hrb3_gb12 := hrb3_gm12.mono hlegb12
                refine RunD.pure (i := 0) hok323 rfl (by kernel_rfl) (Pure.move rfl) (Wt.none rfl) rfl rfl ?_
                refine RunD.pure (i := 1) hok323 rfl (by kernel_rfl) (Pure.nilCheck rfl) (Wt.none rfl) rfl rfl ?_
                refine RunD.pure (i := 2) hok323 rfl (by kernel_rfl) (Pure.fieldAddr rfl fo64_2) (Wt.none rfl) rfl rfl ?_
                refine RunD.load1R (i := 3) hok323 rfl (by kernel_rfl) rfl (by assumption) (by rfl) agg61 (Wt.none rfl) rfl ?_
                refine RunD.pure (i := 4) hok323 rfl (by kernel_rfl) (Pure.move rfl) (Wt.none rfl) rfl rfl ?_
                refine RunD.pure (i := 5) hok323 rfl (by kernel_rfl) (Pure.nilCheck rfl) (Wt.none rfl) rfl rfl ?_
                refine RunD.pure (i := 6) hok323 rfl (by kernel_rfl) (Pure.fieldAddr rfl fo64_1) (Wt.none rfl) rfl rfl ?_
                refine RunD.load1R (i := 7) hok323 rfl (by kernel_rfl) rfl (by assumption) (by rfl) agg62 (Wt.none rfl) rfl ?_
                refine RunD.pure (i := 8) hok323 rfl (by kernel_rfl) (Pure.indexAddr rfl rfl und62 sz42 (by omega) (by omega)) (Wt.none rfl) rfl rfl ?_
                refine RunD.loadNR (vs := (cKey ((eKey x0)))) (i := 9) hok323 rfl (by kernel_rfl) rfl hb12 agg42 sz42 (elemN_len (pre := pre2) (post := post2) (f := cKey) (sz := 5) (j := 0) (n := 5) (fun _ _ => rfl) hk0 (by decide)) ((elemN_at (pre := pre2) (post := post2) (f := cKey) (sz := 5) (j := 0) (n := 5) (fun _ _ => rfl) hk0 (by decide)).trans rfl) (Wt.none rfl) rfl ?_
                refine RunD.lookupR (k := eKey x0) (i := 10) hok323 rfl (by kernel_rfl) rfl rfl (by assumption) und61 zz31 key42 (Wt.none rfl) rfl ?_
                rw [hg0, show ∀ z, mval eE z (some x0) = .agg (cEdu x0).toArray from fun _ => rfl]
                refine RunD.one (i := 11) (by kernel_rfl) rfl ?_
                refine RunL.alloc zz31 (Wt.none rfl) rfl ?_; intro b10
                refine RunL.nilD' ?_
                refine RunD.one (i := 12) (by kernel_rfl) rfl ?_
                refine RunL.storeW (xs := (cEdu x0)) rfl rfl (by first | ((repeat (first | (with_reducible exact Find.here _) | apply Find.there)); done) | (repeat (first | exact Find.here _ | apply Find.there))) sz31 (by rfl) (by rfl) (by rfl) (Wt.none rfl) ?_
                refine RunL.nilD' ?_
                refine RunD.nilB (by kernel_rfl) (fun w sw => backgr12 _ _ (backgm12 _ _ (backgb12 _ _ (sw)))) ?_
                refine Run.sr ?_
                refine RunL.mv rfl rfl ?_
                refine RunL.mv rfl rfl ?_
                refine RunL.pure (Pure.nilCheck rfl) (Wt.none rfl) rfl rfl ?_
                refine RunL.pure (Pure.fieldAddr rfl fo64_1) (Wt.none rfl) rfl rfl ?_
                first | refine RunL.load1 rfl (by first | ((repeat (first | (with_reducible exact Find.here _) | apply Find.there)); done) | (repeat (first | exact Find.here _ | apply Find.there))) (by rfl) agg62 (Wt.none rfl) rfl ?_ | refine RunL.load1R rfl (by assumption) (by rfl) agg62 (Wt.none rfl) rfl ?_
                refine RunL.pure (Pure.indexAddr rfl rfl und62 sz42 (by omega) (by omega)) (Wt.none rfl) rfl rfl ?_
                refine RunL.loadA (vs := (cKey ((eKey x0)))) rfl (by first | ((repeat (first | (with_reducible exact Find.here _) | apply Find.there)); done) | (repeat (first | exact Find.here _ | apply Find.there))) agg42 sz42 (elemN_len (f := cKey) (sz := 5) (j := 0) (n := 5) (fun _ _ => rfl) hk0 (by decide)) ((elemN_at (f := cKey) (sz := 5) (j := 0) (n := 5) (fun _ _ => rfl) hk0 (by decide)).trans rfl) (Wt.none rfl) rfl ?_
                refine RunL.mkSl (b := b2) (pre := pre2) (post := post2) (sz := 5) (cs := (((ks.filter (fun x => decide (x ≠ eKey e))) ++ [eKey e])).flatMap cKey) (n := ((ks.filter (fun x => decide (x ≠ eKey e))) ++ [eKey e]).length) (by first | ((repeat (first | (with_reducible exact Find.here _) | apply Find.there)); done) | (repeat (first | exact Find.here _ | apply Find.there))) hsl1 hsl2 hsl3 ?_
                refine RunL.mkQ (((ks.filter (fun x => decide (x ≠ eKey e))) ++ [eKey e])) (by repeat (first | (with_reducible exact Take.nil _) | (apply Take.cons (by first | ((repeat (first | (with_reducible exact Find.here _) | apply Find.there)); done) | (repeat (first | exact Find.here _ | apply Find.there)))))) rfl ?_
                refine RunL.call rfl rfl (by rfl) (by repeat (first | (with_reducible exact Take.nil _) | (apply Take.cons (by first | ((repeat (first | (with_reducible exact Find.here _) | apply Find.there)); done) | (repeat (first | exact Find.here _ | apply Find.there)))))) (drop_ctr (k := eKey x0) (by omega)) (Wt.none rfl) rfl ?_
                rintro _ _ ⟨rfl, hA_⟩
                replace hA_ := hA_.symm; subst hA_
                refine RunL.nil ?_
                refine Run.openQ (by first | ((repeat (first | (with_reducible exact Find.here _) | apply Find.there)); done) | (repeat (first | exact Find.here _ | apply Find.there))) ?_; intro a5 cap5 r5
                refine Run.sr ?_
                refine RunL.mv rfl rfl ?_
                refine RunL.pure (Pure.nilCheck rfl) (Wt.none rfl) rfl rfl ?_
                refine RunL.pure (Pure.fieldAddr rfl fo64_3) (Wt.none rfl) rfl rfl ?_
                first | refine RunL.load1 rfl (by first | ((repeat (first | (with_reducible exact Find.here _) | apply Find.there)); done) | (repeat (first | exact Find.here _ | apply Find.there))) (by rfl) agg3 (Wt.none rfl) rfl ?_ | refine RunL.load1R rfl (by assumption) (by rfl) agg3 (Wt.none rfl) rfl ?_
                first | refine RunL.pure (Pure.addI rfl rfl (by omega)) (Wt.none rfl) rfl rfl ?_ | refine RunL.pure (Pure.add rfl rfl) (Wt.none rfl) rfl rfl ?_
                refine RunL.pure (Pure.nilCheck rfl) (Wt.none rfl) rfl rfl ?_
                refine RunL.pure (Pure.fieldAddr rfl fo64_3) (Wt.none rfl) rfl rfl ?_
                refine RunL.store1 rfl rfl (by first | ((repeat (first | (with_reducible exact Find.here _) | apply Find.there)); done) | (repeat (first | exact Find.here _ | apply Find.there))) sz3 (by rfl) (by simp) (Wt.none rfl) ?_
                try simp only [List.set_cons_zero, List.set_cons_succ]
                refine RunL.nil ?_
                refine Run.sr ?_
                first | refine RunL.loadA (vs := (cEdu x0)) rfl (by first | ((repeat (first | (with_reducible exact Find.here _) | apply Find.there)); done) | (repeat (first | exact Find.here _ | apply Find.there))) agg31 sz31 (by first | exact Nat.le_of_ble_eq_true rfl | (simp; done) | (simp; omega)) rfl (Wt.none rfl) rfl ?_ | refine RunL.loadNR (vs := (cEdu x0)) rfl (by assumption) agg31 sz31 (by first | exact Nat.le_of_ble_eq_true rfl | (simp; done) | (simp; omega)) rfl (Wt.none rfl) rfl ?_
                refine RunL.storeW (xs := (cEdu x0)) rfl rfl (by first | ((repeat (first | (with_reducible exact Find.here _) | apply Find.there)); done) | (repeat (first | exact Find.here _ | apply Find.there))) sz31 (by rfl) (by rfl) (by rfl) (Wt.none rfl) ?_
                refine RunL.as rfl rfl ?_
                refine RunL.as rfl rfl ?_
                refine RunL.nil ?_
                refine Run.mkQ (((ks.filter (fun x => decide (x ≠ eKey e))) ++ [eKey e]).filter (fun x => decide (x ≠ eKey x0))) (by repeat (first | (with_reducible exact Take.nil _) | (apply Take.cons (by first | ((repeat (first | (with_reducible exact Find.here _) | apply Find.there)); done) | (repeat (first | exact Find.here _ | apply Find.there)))))) rfl ?_
                refine Run.mkEx (X := List Key × List (Key × Edu)) (φ := fun x => QueOk x.1 x.2 ((offK l (eKey e) ++ [e]).drop 1)) (L := fun x => [QuA p most (lost + 1) x.1 x.2]) (_, _) (by repeat (first | (with_reducible exact Take.nil _) | (apply Take.cons (by first | ((repeat (first | (with_reducible exact Find.here _) | apply Find.there)); done) | (repeat (first | exact Find.here _ | apply Find.there)))))) (hqp.first hx0) ?_
                rw [show Ex (fun x : List Key × List (Key × Edu) => QueOk x.1 x.2 ((offK l (eKey e) ++ [e]).drop 1)) (fun x => [QuA p most (lost + 1) x.1 x.2]) = Qu p most (lost + 1) ((offK l (eKey e) ++ [e]).drop 1) from rfl]
                exact Run.ret Try.func12 (resV3 rfl (Rv.cellN (us := (cEdu x0)) rfl (by first | ((repeat (first | (with_reducible exact Find.here _) | apply Find.there)); done) | (repeat (first | exact Find.here _ | apply Find.there))) agg31 sz31 (by first | exact Nat.le_of_ble_eq_true rfl | (simp; done) | (simp; omega)) rfl) (Rv.tmp rfl) (Rv.tmp rfl)) (by exact ⟨by rw [hP], by rw [hP]⟩) (by repeat (first | (with_reducible exact Fin.done (by repeat (first | (with_reducible exact Rest.here) | apply Rest.there))) | (apply Fin.cons (by first | ((repeat (first | (with_reducible exact Find.here _) | apply Find.there)); done) | (repeat (first | exact Find.here _ | apply Find.there))))))
    · skip
      refine RunL.openQ (by first | ((repeat (first | (with_reducible exact Find.here _) | apply Find.there)); done) | (repeat (first | exact Find.here _ | apply Find.there))) ?_; intro a cap r
      have hfo := hg; rw [hq.2.1] at hfo; obtain ⟨hso, hoo⟩ := hz old (List.mem_of_find?_eq_some hfo); have hke : eKey old = eKey e := by simpa using List.find?_some hfo
      refine RunL.nil ?_
      refine Run.seq ?_
      refine Run.regionD' (by kernel_rfl) (by kernel_rfl) (fun hok393 => ?_)
      refine RunD.lend (Q := row b7 42 _) Lends.row (by first | ((repeat (first | (with_reducible exact Find.here _) | apply Find.there)); done) | (repeat (first | exact Find.here _ | apply Find.there))) ?_; intro gl5 hlegl5 hl5 backgl5
      have hrb3_gl5 := hrb3.mono hlegl5
      refine RunD.lend (Q := row p 64 _) Lends.row (by first | ((repeat (first | (with_reducible exact Find.here _) | apply Find.there)); done) | (repeat (first | exact Find.here _ | apply Find.there))) ?_; intro g1 hleg1 hr1 backg1
      try (replace hl5 := hl5.mono hleg1)
      have hrb3_g1 := hrb3_gl5.mono hleg1
      refine RunD.lend (Q := Mp r _) Lends.Mp (by first | ((repeat (first | (with_reducible exact Find.here _) | apply Find.there)); done) | (repeat (first | exact Find.here _ | apply Find.there))) ?_; intro g2 hleg2 hm2 backg2
      try (replace hl5 := hl5.mono hleg2)
      try (replace hr1 := hr1.mono hleg2)
      have hrb3_g2 := hrb3_g1.mono hleg2
      refine RunD.pure (i := 0) hok393 rfl (by kernel_rfl) (Pure.move rfl) (Wt.none rfl) rfl rfl ?_
      refine RunD.pure (i := 1) hok393 rfl (by kernel_rfl) (Pure.nilCheck rfl) (Wt.none rfl) rfl rfl ?_
      refine RunD.pure (i := 2) hok393 rfl (by kernel_rfl) (Pure.fieldAddr rfl fo64_2) (Wt.none rfl) rfl rfl ?_
      refine RunD.load1R (i := 3) hok393 rfl (by kernel_rfl) rfl (by assumption) (by rfl) agg61 (Wt.none rfl) rfl ?_
      refine RunD.loadNR (vs := (cKey (eKey e))) (i := 4) hok393 rfl (by kernel_rfl) rfl (by assumption) agg42 sz42 (by first | exact Nat.le_of_ble_eq_true rfl | (simp; done) | (simp; omega)) rfl (Wt.none rfl) rfl ?_
      refine RunD.lookupR (k := eKey e) (i := 5) hok393 rfl (by kernel_rfl) rfl rfl (by assumption) und61 zz31 key42 (Wt.none rfl) rfl ?_
      rw [hg, show ∀ z, mval eE z (some old) = .agg (cEdu old).toArray from fun _ => rfl]
      refine RunD.pure (i := 6) hok393 rfl (by kernel_rfl) (Pure.move rfl) (Wt.none rfl) rfl rfl ?_
      refine RunD.pure (i := 7) hok393 rfl (by kernel_rfl) (Pure.extract rfl rfl) (Wt.none rfl) rfl rfl ?_
      refine RunD.pure (i := 8) hok393 rfl (by kernel_rfl) (Pure.extract rfl rfl) (Wt.none rfl) rfl rfl ?_
      refine RunD.one (i := 9) (by kernel_rfl) rfl ?_
      refine RunL.alloc zz31 (Wt.none rfl) rfl ?_; intro b8
      refine RunL.nilD' ?_
      refine RunD.one (i := 10) (by kernel_rfl) rfl ?_
      refine RunL.storeW (xs := (cEdu old)) rfl rfl (by first | ((repeat (first | (with_reducible exact Find.here _) | apply Find.there)); done) | (repeat (first | exact Find.here _ | apply Find.there))) sz31 (by rfl) (by rfl) (by rfl) (Wt.none rfl) ?_
      refine RunL.nilD' ?_
      refine RunD.pure (i := 11) hok393 rfl (by kernel_rfl) (Pure.assign rfl) (Wt.none rfl) rfl rfl ?_
      refine RunD.nilB (by kernel_rfl) (fun w sw => backgl5 _ _ (backg1 _ _ (backg2 _ _ (sw)))) ?_
      refine Run.seq ?_
      refine Run.sr ?_
      refine RunL.mv rfl rfl ?_
      refine RunL.mv rfl rfl ?_
      refine RunL.split (d := 27) rfl (fun hg2 => ?_) (fun hg2 => ?_)
      rotate_left
      · try simp only [decide_eq_true_eq, decide_eq_false_iff_not, beq_iff_eq, beq_eq_false_iff_ne, bne_iff_ne, ne_eq, Bool.not_eq_true', Bool.not_eq_false', Bool.not_eq_true, Bool.not_eq_false, Int.not_lt, Int.not_le, Decidable.not_not, bne_eq_false_iff_eq, gt_iff_lt, ge_iff_le, Bool.or_eq_true, Bool.and_eq_true] at hg2
        exfalso
        simp at hg2
      try simp only [decide_eq_true_eq, decide_eq_false_iff_not, beq_iff_eq, beq_eq_false_iff_ne, bne_iff_ne, ne_eq, Bool.not_eq_true', Bool.not_eq_false', Bool.not_eq_true, Bool.not_eq_false, Int.not_lt, Int.not_le, Decidable.not_not, bne_eq_false_iff_eq, gt_iff_lt, ge_iff_le, Bool.or_eq_true, Bool.and_eq_true] at hg2
      first | refine RunL.loadA (vs := (cEdu e)) rfl (by first | ((repeat (first | (with_reducible exact Find.here _) | apply Find.there)); done) | (repeat (first | exact Find.here _ | apply Find.there))) agg31 sz31 (by first | exact Nat.le_of_ble_eq_true rfl | (simp; done) | (simp; omega)) rfl (Wt.yes rfl rfl rfl) rfl ?_ | refine RunL.loadNR (vs := (cEdu e)) rfl (by assumption) agg31 sz31 (by first | exact Nat.le_of_ble_eq_true rfl | (simp; done) | (simp; omega)) rfl (Wt.yes rfl rfl rfl) rfl ?_
      first | refine RunL.loadA (vs := (cEdu old)) rfl (by first | ((repeat (first | (with_reducible exact Find.here _) | apply Find.there)); done) | (repeat (first | exact Find.here _ | apply Find.there))) agg31 sz31 (by first | exact Nat.le_of_ble_eq_true rfl | (simp; done) | (simp; omega)) rfl (Wt.yes rfl rfl rfl) rfl ?_ | refine RunL.loadNR (vs := (cEdu old)) rfl (by assumption) agg31 sz31 (by first | exact Nat.le_of_ble_eq_true rfl | (simp; done) | (simp; omega)) rfl (Wt.yes rfl rfl rfl) rfl ?_
      refine RunL.call rfl rfl (by rfl) (by repeat (first | (with_reducible exact Take.nil _) | (apply Take.cons (by first | ((repeat (first | (with_reducible exact Find.here _) | apply Find.there)); done) | (repeat (first | exact Find.here _ | apply Find.there)))))) (Later_ctr (x := e) (y := old) (by assumption) (by assumption) (by assumption) (by assumption)) (Wt.yes rfl rfl rfl) rfl ?_
      rintro _ _ ⟨rfl, hA_⟩
      replace hA_ := hA_.symm; subst hA_
      refine RunL.pure (Pure.not rfl) (Wt.yes rfl rfl rfl) rfl rfl ?_
      refine RunL.pure (Pure.pickT rfl rfl) (Wt.none rfl) rfl rfl ?_
      refine RunL.nil ?_
      refine Run.cond rfl (fun h2 => ?_) (fun h2 => ?_)
      · try simp only [decide_eq_true_eq, decide_eq_false_iff_not, beq_iff_eq, beq_eq_false_iff_ne, bne_iff_ne, ne_eq, Bool.not_eq_true', Bool.not_eq_false', Bool.not_eq_true, Bool.not_eq_false, Int.not_lt, Int.not_le, Decidable.not_not, bne_eq_false_iff_eq, gt_iff_lt, ge_iff_le, Bool.or_eq_true, Bool.and_eq_true] at h2
        refine Run.sr ?_
        refine RunL.pure (Pure.buildL (ps := []) (zs := [(.int .i64 0), (.string .empty), (.string .empty), (.string .empty), (.string .empty), (.bool false), (.bool false), (.int .i64 0), (.int .i64 0), (.int .i64 0), (.int .i64 0)]) (xs := (cEdu zeroE)) pl31 rfl rfl rfl rfl) (Wt.none rfl) rfl rfl ?_
        refine RunL.storeW (xs := (cEdu zeroE)) rfl rfl (by first | ((repeat (first | (with_reducible exact Find.here _) | apply Find.there)); done) | (repeat (first | exact Find.here _ | apply Find.there))) sz31 (by rfl) (by rfl) (by rfl) (Wt.none rfl) ?_
        refine RunL.as rfl rfl ?_
        refine RunL.as rfl rfl ?_
        refine RunL.nil ?_
        have hP := putL_old (most := most) (lost := lost) (by simpa using h1) hfo (by simp [hke] at h2; omega)
        refine Run.mkQ (ks) (by repeat (first | (with_reducible exact Take.nil _) | (apply Take.cons (by first | ((repeat (first | (with_reducible exact Find.here _) | apply Find.there)); done) | (repeat (first | exact Find.here _ | apply Find.there)))))) rfl ?_
        refine Run.mkEx (X := List Key × List (Key × Edu)) (φ := fun x => QueOk x.1 x.2 (l)) (L := fun x => [QuA p most (lost) x.1 x.2]) (ks, m) (by repeat (first | (with_reducible exact Take.nil _) | (apply Take.cons (by first | ((repeat (first | (with_reducible exact Find.here _) | apply Find.there)); done) | (repeat (first | exact Find.here _ | apply Find.there)))))) hq ?_
        rw [show Ex (fun x : List Key × List (Key × Edu) => QueOk x.1 x.2 (l)) (fun x => [QuA p most (lost) x.1 x.2]) = Qu p most (lost) (l) from rfl]
        exact Run.ret Try.func12 (resV3 rfl (Rv.cellN (us := (cEdu zeroE)) rfl (by first | ((repeat (first | (with_reducible exact Find.here _) | apply Find.there)); done) | (repeat (first | exact Find.here _ | apply Find.there))) agg31 sz31 (by first | exact Nat.le_of_ble_eq_true rfl | (simp; done) | (simp; omega)) rfl) (Rv.tmp rfl) (Rv.tmp rfl)) (by exact ⟨by rw [hP], by rw [hP]⟩) (by repeat (first | (with_reducible exact Fin.done (by repeat (first | (with_reducible exact Rest.here) | apply Rest.there))) | (apply Fin.cons (by first | ((repeat (first | (with_reducible exact Find.here _) | apply Find.there)); done) | (repeat (first | exact Find.here _ | apply Find.there))))))
      · try simp only [decide_eq_true_eq, decide_eq_false_iff_not, beq_iff_eq, beq_eq_false_iff_ne, bne_iff_ne, ne_eq, Bool.not_eq_true', Bool.not_eq_false', Bool.not_eq_true, Bool.not_eq_false, Int.not_lt, Int.not_le, Decidable.not_not, bne_eq_false_iff_eq, gt_iff_lt, ge_iff_le, Bool.or_eq_true, Bool.and_eq_true] at h2
        have hnew : ¬ edCmp e old ≤ 0 := by simp [hke] at h2; omega
        refine Run.skip ?_
        refine Run.mkQ (ks) (by repeat (first | (with_reducible exact Take.nil _) | (apply Take.cons (by first | ((repeat (first | (with_reducible exact Find.here _) | apply Find.there)); done) | (repeat (first | exact Find.here _ | apply Find.there)))))) rfl ?_
        refine Run.sr ?_
        refine RunL.mv rfl rfl ?_
        first | refine RunL.loadA (vs := (cKey (eKey e))) rfl (by first | ((repeat (first | (with_reducible exact Find.here _) | apply Find.there)); done) | (repeat (first | exact Find.here _ | apply Find.there))) agg42 sz42 (by first | exact Nat.le_of_ble_eq_true rfl | (simp; done) | (simp; omega)) rfl (Wt.none rfl) rfl ?_ | refine RunL.loadNR (vs := (cKey (eKey e))) rfl (by assumption) agg42 sz42 (by first | exact Nat.le_of_ble_eq_true rfl | (simp; done) | (simp; omega)) rfl (Wt.none rfl) rfl ?_
        refine RunL.call rfl rfl (by rfl) (by repeat (first | (with_reducible exact Take.nil _) | (apply Take.cons (by first | ((repeat (first | (with_reducible exact Find.here _) | apply Find.there)); done) | (repeat (first | exact Find.here _ | apply Find.there)))))) (drop_ctr (k := eKey e) (by omega)) (Wt.none rfl) rfl ?_
        rintro _ _ ⟨rfl, hA_⟩
        replace hA_ := hA_.symm; subst hA_
        refine RunL.nil ?_
        have hfl : (ks.filter (fun x => decide (x ≠ eKey e))).length ≤ 900 := Nat.le_trans (List.length_filter_le _ _) (by omega)
        refine Run.openQ (by first | ((repeat (first | (with_reducible exact Find.here _) | apply Find.there)); done) | (repeat (first | exact Find.here _ | apply Find.there))) ?_; intro a2 cap2 r2
        refine Run.seq ?_
        refine Run.regionD' (by kernel_rfl) (by kernel_rfl) (fun hok466 => ?_)
        refine RunD.lend (Q := row b7 42 _) Lends.row (by first | ((repeat (first | (with_reducible exact Find.here _) | apply Find.there)); done) | (repeat (first | exact Find.here _ | apply Find.there))) ?_; intro gl6 hlegl6 hl6 backgl6
        have hrb3_gl6 := hrb3.mono hlegl6
        refine RunD.pure (i := 0) hok466 rfl (by kernel_rfl) (Pure.move rfl) (Wt.none rfl) rfl rfl ?_
        refine RunD.pure (i := 1) hok466 rfl (by kernel_rfl) (Pure.move rfl) (Wt.none rfl) rfl rfl ?_
        refine RunD.pure (i := 2) hok466 rfl (by kernel_rfl) (Pure.nilCheck rfl) (Wt.none rfl) rfl rfl ?_
        refine RunD.pure (i := 3) hok466 rfl (by kernel_rfl) (Pure.fieldAddr rfl fo64_1) (Wt.none rfl) rfl rfl ?_
        refine RunD.loadNR (vs := (cKey (eKey e))) (i := 5) hok466 rfl (by kernel_rfl) rfl (by assumption) agg42 sz42 (by first | exact Nat.le_of_ble_eq_true rfl | (simp; done) | (simp; omega)) rfl (Wt.none rfl) rfl ?_
        refine RunD.two (i := 4) (j := 6) (by kernel_rfl) rfl rfl ?_ ?_
        · skip
          first | refine RunL.load1 rfl (by first | ((repeat (first | (with_reducible exact Find.here _) | apply Find.there)); done) | (repeat (first | exact Find.here _ | apply Find.there))) (by rfl) agg62 (Wt.none rfl) rfl ?_ | refine RunL.load1R rfl (by assumption) (by rfl) agg62 (Wt.none rfl) rfl ?_
          refine RunL.nilD' ?_
          refine RunD.one (i := 6) (by kernel_rfl) rfl ?_
          · skip
            refine RunL.lit (vals := [_]) (vs := ([eKey e] : List Key).flatMap cKey) und62 sz42 zz42 rfl rfl rfl rfl rfl rfl (by simp [Value.cells, bv, cEdu, cKey, cQst]) rfl (Wt.none rfl) rfl ?_; intro b43
            refine RunL.nilD' ?_
            refine RunD.one (i := 7) (by kernel_rfl) rfl ?_
            · skip
              refine RunL.append (m := 1) (n' := ((ks.filter (fun x => decide (x ≠ eKey e))) ++ [eKey e]).length) (cs' := ((ks.filter (fun x => decide (x ≠ eKey e))) ++ [eKey e]).flatMap cKey) rfl rfl (by first | ((repeat (first | (with_reducible exact Find.here _) | apply Find.there)); done) | (repeat (first | exact Find.here _ | apply Find.there))) rfl rfl und62 und62 rfl sz42 zz42 rfl by42 (by omega) (by omega) (fun w sw => sw.src) (isOne_flat (f := cKey) (fun _ => rfl)) (by rw [List.length_append]; rfl) (by rw [flatMap_app]) (Wt.none rfl) rfl ?_; intro a3 c3
              refine RunL.nilD' ?_
              refine RunD.pure (i := 8) hok466 rfl (by kernel_rfl) (Pure.nilCheck rfl) (Wt.none rfl) rfl rfl ?_
              refine RunD.pure (i := 9) hok466 rfl (by kernel_rfl) (Pure.fieldAddr rfl fo64_1) (Wt.none rfl) rfl rfl ?_
              refine RunD.one (i := 10) (by kernel_rfl) rfl ?_
              · skip
                refine RunL.store1 rfl rfl (by first | ((repeat (first | (with_reducible exact Find.here _) | apply Find.there)); done) | (repeat (first | exact Find.here _ | apply Find.there))) sz62 (by rfl) (by simp) (Wt.none rfl) ?_
                try simp only [List.set_cons_zero, List.set_cons_succ]
                refine RunL.nilD' ?_
                refine RunD.nilB (by kernel_rfl) (fun w sw => backgl6 _ _ (sw)) ?_
                refine Run.seq ?_
                refine Run.regionD' (by kernel_rfl) (by kernel_rfl) (fun hok495 => ?_)
                refine RunD.lend (Q := row b7 42 _) Lends.row (by first | ((repeat (first | (with_reducible exact Find.here _) | apply Find.there)); done) | (repeat (first | exact Find.here _ | apply Find.there))) ?_; intro gl7 hlegl7 hl7 backgl7
                have hrb3_gl7 := hrb3.mono hlegl7
                refine RunD.lend (Q := row p 64 _) Lends.row (by first | ((repeat (first | (with_reducible exact Find.here _) | apply Find.there)); done) | (repeat (first | exact Find.here _ | apply Find.there))) ?_; intro gr9 hlegr9 hrr9 backgr9
                try (replace hl7 := hl7.mono hlegr9)
                have hrb3_gr9 := hrb3_gl7.mono hlegr9
                refine RunD.pure (i := 0) hok495 rfl (by kernel_rfl) (Pure.move rfl) (Wt.none rfl) rfl rfl ?_
                refine RunD.pure (i := 1) hok495 rfl (by kernel_rfl) (Pure.nilCheck rfl) (Wt.none rfl) rfl rfl ?_
                refine RunD.pure (i := 2) hok495 rfl (by kernel_rfl) (Pure.fieldAddr rfl fo64_2) (Wt.none rfl) rfl rfl ?_
                refine RunD.load1R (i := 3) hok495 rfl (by kernel_rfl) rfl (by assumption) (by rfl) agg61 (Wt.none rfl) rfl ?_
                refine RunD.loadNR (vs := (cKey (eKey e))) (i := 4) hok495 rfl (by kernel_rfl) rfl (by assumption) agg42 sz42 (by first | exact Nat.le_of_ble_eq_true rfl | (simp; done) | (simp; omega)) rfl (Wt.none rfl) rfl ?_
                refine RunD.loadNR (vs := (cEdu e)) (i := 5) hok495 rfl (by kernel_rfl) rfl (by assumption) agg31 sz31 (by first | exact Nat.le_of_ble_eq_true rfl | (simp; done) | (simp; omega)) rfl (Wt.none rfl) rfl ?_
                refine RunD.one (i := 6) (by kernel_rfl) rfl ?_
                refine RunL.mapUpdate (k := eKey e) (v := e) (ev := eE) rfl rfl rfl (by first | ((repeat (first | (with_reducible exact Find.here _) | apply Find.there)); done) | (repeat (first | exact Find.here _ | apply Find.there))) und61 key42 (Wt.none rfl) ?_
                refine RunL.nilD' ?_
                refine RunD.nilB (by kernel_rfl) (fun w sw => backgl7 _ _ (backgr9 _ _ (sw))) ?_
                have hqp := hq.put e
                refine Run.seq ?_
                refine Run.seq ?_
                refine Run.regionD' (by kernel_rfl) (by kernel_rfl) (fun hok514 => ?_)
                refine RunD.lend (Q := row p 64 _) Lends.row (by first | ((repeat (first | (with_reducible exact Find.here _) | apply Find.there)); done) | (repeat (first | exact Find.here _ | apply Find.there))) ?_; intro gr10 hlegr10 hrr10 backgr10
                have hrb3_gr10 := hrb3.mono hlegr10
                refine RunD.pure (i := 0) hok514 rfl (by kernel_rfl) (Pure.move rfl) (Wt.none rfl) rfl rfl ?_
                refine RunD.pure (i := 1) hok514 rfl (by kernel_rfl) (Pure.nilCheck rfl) (Wt.none rfl) rfl rfl ?_
                refine RunD.pure (i := 2) hok514 rfl (by kernel_rfl) (Pure.fieldAddr rfl fo64_1) (Wt.none rfl) rfl rfl ?_
                refine RunD.load1R (i := 3) hok514 rfl (by kernel_rfl) rfl (by assumption) (by rfl) agg62 (Wt.none rfl) rfl ?_
                refine RunD.pure (i := 4) hok514 rfl (by kernel_rfl) (Pure.lenSl rfl rfl und62) (Wt.none rfl) rfl rfl ?_
                refine RunD.pure (i := 5) hok514 rfl (by kernel_rfl) (Pure.move rfl) (Wt.none rfl) rfl rfl ?_
                refine RunD.pure (i := 6) hok514 rfl (by kernel_rfl) (Pure.nilCheck rfl) (Wt.none rfl) rfl rfl ?_
                refine RunD.pure (i := 7) hok514 rfl (by kernel_rfl) (Pure.fieldAddr rfl fo64_0) (Wt.none rfl) rfl rfl ?_
                refine RunD.load1R (i := 8) hok514 rfl (by kernel_rfl) rfl (by assumption) (by rfl) agg3 (Wt.none rfl) rfl ?_
                refine RunD.pure (i := 9) hok514 rfl (by kernel_rfl) (Pure.leq rfl rfl) (Wt.none rfl) rfl rfl ?_
                refine RunD.nilB (by kernel_rfl) (fun w sw => backgr10 _ _ (sw)) ?_
                refine Run.cond rfl (fun h3 => ?_) (fun h3 => ?_)
                · try simp only [decide_eq_true_eq, decide_eq_false_iff_not, beq_iff_eq, beq_eq_false_iff_ne, bne_iff_ne, ne_eq, Bool.not_eq_true', Bool.not_eq_false', Bool.not_eq_true, Bool.not_eq_false, Int.not_lt, Int.not_le, Decidable.not_not, bne_eq_false_iff_eq, gt_iff_lt, ge_iff_le, Bool.or_eq_true, Bool.and_eq_true] at h3
                  refine Run.sr ?_
                  refine RunL.pure (Pure.buildL (ps := []) (zs := [(.int .i64 0), (.string .empty), (.string .empty), (.string .empty), (.string .empty), (.bool false), (.bool false), (.int .i64 0), (.int .i64 0), (.int .i64 0), (.int .i64 0)]) (xs := (cEdu zeroE)) pl31 rfl rfl rfl rfl) (Wt.none rfl) rfl rfl ?_
                  refine RunL.storeW (xs := (cEdu zeroE)) rfl rfl (by first | ((repeat (first | (with_reducible exact Find.here _) | apply Find.there)); done) | (repeat (first | exact Find.here _ | apply Find.there))) sz31 (by rfl) (by rfl) (by rfl) (Wt.none rfl) ?_
                  refine RunL.as rfl rfl ?_
                  refine RunL.as rfl rfl ?_
                  refine RunL.nil ?_
                  have hP := putL_in (most := most) (lost := lost) (l := l) (e := e) (by simpa using h1) (fun o q => by rw [← hq.2.1, hg] at q; cases q; exact hnew) (by rw [← hqp.len]; exact h3)
                  refine Run.mkQ (((ks.filter (fun x => decide (x ≠ eKey e))) ++ [eKey e])) (by repeat (first | (with_reducible exact Take.nil _) | (apply Take.cons (by first | ((repeat (first | (with_reducible exact Find.here _) | apply Find.there)); done) | (repeat (first | exact Find.here _ | apply Find.there)))))) rfl ?_
                  refine Run.mkEx (X := List Key × List (Key × Edu)) (φ := fun x => QueOk x.1 x.2 ((offK l (eKey e) ++ [e]))) (L := fun x => [QuA p most (lost) x.1 x.2]) (((ks.filter (fun x => decide (x ≠ eKey e))) ++ [eKey e]), (mput (eKey e) e (mdel (eKey e) m))) (by repeat (first | (with_reducible exact Take.nil _) | (apply Take.cons (by first | ((repeat (first | (with_reducible exact Find.here _) | apply Find.there)); done) | (repeat (first | exact Find.here _ | apply Find.there)))))) hqp ?_
                  rw [show Ex (fun x : List Key × List (Key × Edu) => QueOk x.1 x.2 ((offK l (eKey e) ++ [e]))) (fun x => [QuA p most (lost) x.1 x.2]) = Qu p most (lost) ((offK l (eKey e) ++ [e])) from rfl]
                  exact Run.ret Try.func12 (resV3 rfl (Rv.cellN (us := (cEdu zeroE)) rfl (by first | ((repeat (first | (with_reducible exact Find.here _) | apply Find.there)); done) | (repeat (first | exact Find.here _ | apply Find.there))) agg31 sz31 (by first | exact Nat.le_of_ble_eq_true rfl | (simp; done) | (simp; omega)) rfl) (Rv.tmp rfl) (Rv.tmp rfl)) (by exact ⟨by rw [hP], by rw [hP]⟩) (by repeat (first | (with_reducible exact Fin.done (by repeat (first | (with_reducible exact Rest.here) | apply Rest.there))) | (apply Fin.cons (by first | ((repeat (first | (with_reducible exact Find.here _) | apply Find.there)); done) | (repeat (first | exact Find.here _ | apply Find.there))))))
                · try simp only [decide_eq_true_eq, decide_eq_false_iff_not, beq_iff_eq, beq_eq_false_iff_ne, bne_iff_ne, ne_eq, Bool.not_eq_true', Bool.not_eq_false', Bool.not_eq_true, Bool.not_eq_false, Int.not_lt, Int.not_le, Decidable.not_not, bne_eq_false_iff_eq, gt_iff_lt, ge_iff_le, Bool.or_eq_true, Bool.and_eq_true] at h3
                  refine Run.skip ?_
                  obtain ⟨x0, hx0⟩ := get_some (xs := (offK l (eKey e) ++ [e])) (i := 0) (by rw [List.length_append]; exact Nat.lt_add_left _ Nat.one_pos)
                  have hk0 : ((ks.filter (fun x => decide (x ≠ eKey e))) ++ [eKey e])[0]? = some (eKey x0) := by rw [hqp.1, List.getElem?_map, hx0]; rfl
                  have hg0 := hqp.at_ hx0
                  have hP : putL most lost l e = ((offK l (eKey e) ++ [e]).drop 1, lost + 1, x0, true, 0) := by rw [putL_past (by simpa using h1) (fun o q => by rw [← hq.2.1, hg] at q; cases q; exact hnew) (by rw [← hqp.len]; exact Int.not_le.2 (by first | exact h3 | simpa using h3)), hx0]; rfl
                  have hkl : ((ks.filter (fun x => decide (x ≠ eKey e))) ++ [eKey e]).length ≤ 901 := by rw [List.length_append]; exact Nat.add_le_add_right hfl 1
                  have hkp : 0 < ((ks.filter (fun x => decide (x ≠ eKey e))) ++ [eKey e]).length := by rw [List.length_append]; exact Nat.lt_add_left _ Nat.one_pos
                  refine Run.openSl (a := a3) (n := ((ks.filter (fun x => decide (x ≠ eKey e))) ++ [eKey e]).length) (by first | ((repeat (first | (with_reducible exact Find.here _) | apply Find.there)); done) | (repeat (first | exact Find.here _ | apply Find.there))) (by rw [List.length_append]; exact Nat.lt_add_left _ Nat.one_pos) ?_; rintro b2 pre2 post2 rfl hsl1 hsl2 hsl3
                  refine Run.seq ?_
                  refine Run.regionD' (by kernel_rfl) (by kernel_rfl) (fun hok551 => ?_)
                  refine RunD.lend (Q := row p 64 _) Lends.row (by first | ((repeat (first | (with_reducible exact Find.here _) | apply Find.there)); done) | (repeat (first | exact Find.here _ | apply Find.there))) ?_; intro gr12 hlegr12 hrr12 backgr12
                  have hrb3_gr12 := hrb3.mono hlegr12
                  refine RunD.lend (Q := Mp r2 _) Lends.Mp (by first | ((repeat (first | (with_reducible exact Find.here _) | apply Find.there)); done) | (repeat (first | exact Find.here _ | apply Find.there))) ?_; intro gm12 hlegm12 hm12 backgm12
                  try (replace hrr12 := hrr12.mono hlegm12)
                  have hrb3_gm12 := hrb3_gr12.mono hlegm12
                  refine RunD.lend (Q := row b2 _ _) Lends.row (by first | ((repeat (first | (with_reducible exact Find.here _) | apply Find.there)); done) | (repeat (first | exact Find.here _ | apply Find.there))) ?_; intro gb12 hlegb12 hb12 backgb12
                  try (replace hrr12 := hrr12.mono hlegb12)
                  try (replace hm12 := hm12.mono hlegb12)
                  have hrb3_gb12 := hrb3_gm12.mono hlegb12
                  refine RunD.pure (i := 0) hok551 rfl (by kernel_rfl) (Pure.move rfl) (Wt.none rfl) rfl rfl ?_
                  refine RunD.pure (i := 1) hok551 rfl (by kernel_rfl) (Pure.nilCheck rfl) (Wt.none rfl) rfl rfl ?_
                  refine RunD.pure (i := 2) hok551 rfl (by kernel_rfl) (Pure.fieldAddr rfl fo64_2) (Wt.none rfl) rfl rfl ?_
                  refine RunD.load1R (i := 3) hok551 rfl (by kernel_rfl) rfl (by assumption) (by rfl) agg61 (Wt.none rfl) rfl ?_
                  refine RunD.pure (i := 4) hok551 rfl (by kernel_rfl) (Pure.move rfl) (Wt.none rfl) rfl rfl ?_
                  refine RunD.pure (i := 5) hok551 rfl (by kernel_rfl) (Pure.nilCheck rfl) (Wt.none rfl) rfl rfl ?_
                  refine RunD.pure (i := 6) hok551 rfl (by kernel_rfl) (Pure.fieldAddr rfl fo64_1) (Wt.none rfl) rfl rfl ?_
                  refine RunD.load1R (i := 7) hok551 rfl (by kernel_rfl) rfl (by assumption) (by rfl) agg62 (Wt.none rfl) rfl ?_
                  refine RunD.pure (i := 8) hok551 rfl (by kernel_rfl) (Pure.indexAddr rfl rfl und62 sz42 (by omega) (by omega)) (Wt.none rfl) rfl rfl ?_
                  refine RunD.loadNR (vs := (cKey ((eKey x0)))) (i := 9) hok551 rfl (by kernel_rfl) rfl hb12 agg42 sz42 (elemN_len (pre := pre2) (post := post2) (f := cKey) (sz := 5) (j := 0) (n := 5) (fun _ _ => rfl) hk0 (by decide)) ((elemN_at (pre := pre2) (post := post2) (f := cKey) (sz := 5) (j := 0) (n := 5) (fun _ _ => rfl) hk0 (by decide)).trans rfl) (Wt.none rfl) rfl ?_
                  refine RunD.lookupR (k := eKey x0) (i := 10) hok551 rfl (by kernel_rfl) rfl rfl (by assumption) und61 zz31 key42 (Wt.none rfl) rfl ?_
                  rw [hg0, show ∀ z, mval eE z (some x0) = .agg (cEdu x0).toArray from fun _ => rfl]
                  refine RunD.one (i := 11) (by kernel_rfl) rfl ?_
                  refine RunL.alloc zz31 (Wt.none rfl) rfl ?_; intro b10
                  refine RunL.nilD' ?_
                  refine RunD.one (i := 12) (by kernel_rfl) rfl ?_
                  refine RunL.storeW (xs := (cEdu x0)) rfl rfl (by first | ((repeat (first | (with_reducible exact Find.here _) | apply Find.there)); done) | (repeat (first | exact Find.here _ | apply Find.there))) sz31 (by rfl) (by rfl) (by rfl) (Wt.none rfl) ?_
                  refine RunL.nilD' ?_
                  refine RunD.nilB (by kernel_rfl) (fun w sw => backgr12 _ _ (backgm12 _ _ (backgb12 _ _ (sw)))) ?_
                  refine Run.sr ?_
                  refine RunL.mv rfl rfl ?_
                  refine RunL.mv rfl rfl ?_
                  refine RunL.pure (Pure.nilCheck rfl) (Wt.none rfl) rfl rfl ?_
                  refine RunL.pure (Pure.fieldAddr rfl fo64_1) (Wt.none rfl) rfl rfl ?_
                  first | refine RunL.load1 rfl (by first | ((repeat (first | (with_reducible exact Find.here _) | apply Find.there)); done) | (repeat (first | exact Find.here _ | apply Find.there))) (by rfl) agg62 (Wt.none rfl) rfl ?_ | refine RunL.load1R rfl (by assumption) (by rfl) agg62 (Wt.none rfl) rfl ?_
                  refine RunL.pure (Pure.indexAddr rfl rfl und62 sz42 (by omega) (by omega)) (Wt.none rfl) rfl rfl ?_
                  refine RunL.loadA (vs := (cKey ((eKey x0)))) rfl (by first | ((repeat (first | (with_reducible exact Find.here _) | apply Find.there)); done) | (repeat (first | exact Find.here _ | apply Find.there))) agg42 sz42 (elemN_len (f := cKey) (sz := 5) (j := 0) (n := 5) (fun _ _ => rfl) hk0 (by decide)) ((elemN_at (f := cKey) (sz := 5) (j := 0) (n := 5) (fun _ _ => rfl) hk0 (by decide)).trans rfl) (Wt.none rfl) rfl ?_
                  refine RunL.mkSl (b := b2) (pre := pre2) (post := post2) (sz := 5) (cs := (((ks.filter (fun x => decide (x ≠ eKey e))) ++ [eKey e])).flatMap cKey) (n := ((ks.filter (fun x => decide (x ≠ eKey e))) ++ [eKey e]).length) (by first | ((repeat (first | (with_reducible exact Find.here _) | apply Find.there)); done) | (repeat (first | exact Find.here _ | apply Find.there))) hsl1 hsl2 hsl3 ?_
                  refine RunL.mkQ (((ks.filter (fun x => decide (x ≠ eKey e))) ++ [eKey e])) (by repeat (first | (with_reducible exact Take.nil _) | (apply Take.cons (by first | ((repeat (first | (with_reducible exact Find.here _) | apply Find.there)); done) | (repeat (first | exact Find.here _ | apply Find.there)))))) rfl ?_
                  refine RunL.call rfl rfl (by rfl) (by repeat (first | (with_reducible exact Take.nil _) | (apply Take.cons (by first | ((repeat (first | (with_reducible exact Find.here _) | apply Find.there)); done) | (repeat (first | exact Find.here _ | apply Find.there)))))) (drop_ctr (k := eKey x0) (by omega)) (Wt.none rfl) rfl ?_
                  rintro _ _ ⟨rfl, hA_⟩
                  replace hA_ := hA_.symm; subst hA_
                  refine RunL.nil ?_
                  refine Run.openQ (by first | ((repeat (first | (with_reducible exact Find.here _) | apply Find.there)); done) | (repeat (first | exact Find.here _ | apply Find.there))) ?_; intro a5 cap5 r5
                  refine Run.sr ?_
                  refine RunL.mv rfl rfl ?_
                  refine RunL.pure (Pure.nilCheck rfl) (Wt.none rfl) rfl rfl ?_
                  refine RunL.pure (Pure.fieldAddr rfl fo64_3) (Wt.none rfl) rfl rfl ?_
                  first | refine RunL.load1 rfl (by first | ((repeat (first | (with_reducible exact Find.here _) | apply Find.there)); done) | (repeat (first | exact Find.here _ | apply Find.there))) (by rfl) agg3 (Wt.none rfl) rfl ?_ | refine RunL.load1R rfl (by assumption) (by rfl) agg3 (Wt.none rfl) rfl ?_
                  first | refine RunL.pure (Pure.addI rfl rfl (by omega)) (Wt.none rfl) rfl rfl ?_ | refine RunL.pure (Pure.add rfl rfl) (Wt.none rfl) rfl rfl ?_
                  refine RunL.pure (Pure.nilCheck rfl) (Wt.none rfl) rfl rfl ?_
                  refine RunL.pure (Pure.fieldAddr rfl fo64_3) (Wt.none rfl) rfl rfl ?_
                  refine RunL.store1 rfl rfl (by first | ((repeat (first | (with_reducible exact Find.here _) | apply Find.there)); done) | (repeat (first | exact Find.here _ | apply Find.there))) sz3 (by rfl) (by simp) (Wt.none rfl) ?_
                  try simp only [List.set_cons_zero, List.set_cons_succ]
                  refine RunL.nil ?_
                  refine Run.sr ?_
                  first | refine RunL.loadA (vs := (cEdu x0)) rfl (by first | ((repeat (first | (with_reducible exact Find.here _) | apply Find.there)); done) | (repeat (first | exact Find.here _ | apply Find.there))) agg31 sz31 (by first | exact Nat.le_of_ble_eq_true rfl | (simp; done) | (simp; omega)) rfl (Wt.none rfl) rfl ?_ | refine RunL.loadNR (vs := (cEdu x0)) rfl (by assumption) agg31 sz31 (by first | exact Nat.le_of_ble_eq_true rfl | (simp; done) | (simp; omega)) rfl (Wt.none rfl) rfl ?_
                  refine RunL.storeW (xs := (cEdu x0)) rfl rfl (by first | ((repeat (first | (with_reducible exact Find.here _) | apply Find.there)); done) | (repeat (first | exact Find.here _ | apply Find.there))) sz31 (by rfl) (by rfl) (by rfl) (Wt.none rfl) ?_
                  refine RunL.as rfl rfl ?_
                  refine RunL.as rfl rfl ?_
                  refine RunL.nil ?_
                  refine Run.mkQ (((ks.filter (fun x => decide (x ≠ eKey e))) ++ [eKey e]).filter (fun x => decide (x ≠ eKey x0))) (by repeat (first | (with_reducible exact Take.nil _) | (apply Take.cons (by first | ((repeat (first | (with_reducible exact Find.here _) | apply Find.there)); done) | (repeat (first | exact Find.here _ | apply Find.there)))))) rfl ?_
                  refine Run.mkEx (X := List Key × List (Key × Edu)) (φ := fun x => QueOk x.1 x.2 ((offK l (eKey e) ++ [e]).drop 1)) (L := fun x => [QuA p most (lost + 1) x.1 x.2]) (_, _) (by repeat (first | (with_reducible exact Take.nil _) | (apply Take.cons (by first | ((repeat (first | (with_reducible exact Find.here _) | apply Find.there)); done) | (repeat (first | exact Find.here _ | apply Find.there)))))) (hqp.first hx0) ?_
                  rw [show Ex (fun x : List Key × List (Key × Edu) => QueOk x.1 x.2 ((offK l (eKey e) ++ [e]).drop 1)) (fun x => [QuA p most (lost + 1) x.1 x.2]) = Qu p most (lost + 1) ((offK l (eKey e) ++ [e]).drop 1) from rfl]
                  exact Run.ret Try.func12 (resV3 rfl (Rv.cellN (us := (cEdu x0)) rfl (by first | ((repeat (first | (with_reducible exact Find.here _) | apply Find.there)); done) | (repeat (first | exact Find.here _ | apply Find.there))) agg31 sz31 (by first | exact Nat.le_of_ble_eq_true rfl | (simp; done) | (simp; omega)) rfl) (Rv.tmp rfl) (Rv.tmp rfl)) (by exact ⟨by rw [hP], by rw [hP]⟩) (by repeat (first | (with_reducible exact Fin.done (by repeat (first | (with_reducible exact Rest.here) | apply Rest.there))) | (apply Fin.cons (by first | ((repeat (first | (with_reducible exact Find.here _) | apply Find.there)); done) | (repeat (first | exact Find.here _ | apply Find.there))))))
        · skip
          refine RunL.lit (vals := [_]) (vs := ([eKey e] : List Key).flatMap cKey) und62 sz42 zz42 rfl rfl rfl rfl rfl rfl (by simp [Value.cells, bv, cEdu, cKey, cQst]) rfl (Wt.none rfl) rfl ?_; intro b43
          refine RunL.nilD' ?_
          refine RunD.one (i := 4) (by kernel_rfl) rfl ?_
          · skip
            first | refine RunL.load1 rfl (by first | ((repeat (first | (with_reducible exact Find.here _) | apply Find.there)); done) | (repeat (first | exact Find.here _ | apply Find.there))) (by rfl) agg62 (Wt.none rfl) rfl ?_ | refine RunL.load1R rfl (by assumption) (by rfl) agg62 (Wt.none rfl) rfl ?_
            refine RunL.nilD' ?_
            refine RunD.one (i := 7) (by kernel_rfl) rfl ?_
            · skip
              refine RunL.append (m := 1) (n' := ((ks.filter (fun x => decide (x ≠ eKey e))) ++ [eKey e]).length) (cs' := ((ks.filter (fun x => decide (x ≠ eKey e))) ++ [eKey e]).flatMap cKey) rfl rfl (by first | ((repeat (first | (with_reducible exact Find.here _) | apply Find.there)); done) | (repeat (first | exact Find.here _ | apply Find.there))) rfl rfl und62 und62 rfl sz42 zz42 rfl by42 (by omega) (by omega) (fun w sw => sw.src) (isOne_flat (f := cKey) (fun _ => rfl)) (by rw [List.length_append]; rfl) (by rw [flatMap_app]) (Wt.none rfl) rfl ?_; intro a3 c3
              refine RunL.nilD' ?_
              refine RunD.pure (i := 8) hok466 rfl (by kernel_rfl) (Pure.nilCheck rfl) (Wt.none rfl) rfl rfl ?_
              refine RunD.pure (i := 9) hok466 rfl (by kernel_rfl) (Pure.fieldAddr rfl fo64_1) (Wt.none rfl) rfl rfl ?_
              refine RunD.one (i := 10) (by kernel_rfl) rfl ?_
              · skip
                refine RunL.store1 rfl rfl (by first | ((repeat (first | (with_reducible exact Find.here _) | apply Find.there)); done) | (repeat (first | exact Find.here _ | apply Find.there))) sz62 (by rfl) (by simp) (Wt.none rfl) ?_
                try simp only [List.set_cons_zero, List.set_cons_succ]
                refine RunL.nilD' ?_
                refine RunD.nilB (by kernel_rfl) (fun w sw => backgl6 _ _ (sw)) ?_
                refine Run.seq ?_
                refine Run.regionD' (by kernel_rfl) (by kernel_rfl) (fun hok636 => ?_)
                refine RunD.lend (Q := row b7 42 _) Lends.row (by first | ((repeat (first | (with_reducible exact Find.here _) | apply Find.there)); done) | (repeat (first | exact Find.here _ | apply Find.there))) ?_; intro gl8 hlegl8 hl8 backgl8
                have hrb3_gl8 := hrb3.mono hlegl8
                refine RunD.lend (Q := row p 64 _) Lends.row (by first | ((repeat (first | (with_reducible exact Find.here _) | apply Find.there)); done) | (repeat (first | exact Find.here _ | apply Find.there))) ?_; intro gr9 hlegr9 hrr9 backgr9
                try (replace hl8 := hl8.mono hlegr9)
                have hrb3_gr9 := hrb3_gl8.mono hlegr9
                refine RunD.pure (i := 0) hok636 rfl (by kernel_rfl) (Pure.move rfl) (Wt.none rfl) rfl rfl ?_
                refine RunD.pure (i := 1) hok636 rfl (by kernel_rfl) (Pure.nilCheck rfl) (Wt.none rfl) rfl rfl ?_
                refine RunD.pure (i := 2) hok636 rfl (by kernel_rfl) (Pure.fieldAddr rfl fo64_2) (Wt.none rfl) rfl rfl ?_
                refine RunD.load1R (i := 3) hok636 rfl (by kernel_rfl) rfl (by assumption) (by rfl) agg61 (Wt.none rfl) rfl ?_
                refine RunD.loadNR (vs := (cKey (eKey e))) (i := 4) hok636 rfl (by kernel_rfl) rfl (by assumption) agg42 sz42 (by first | exact Nat.le_of_ble_eq_true rfl | (simp; done) | (simp; omega)) rfl (Wt.none rfl) rfl ?_
                refine RunD.loadNR (vs := (cEdu e)) (i := 5) hok636 rfl (by kernel_rfl) rfl (by assumption) agg31 sz31 (by first | exact Nat.le_of_ble_eq_true rfl | (simp; done) | (simp; omega)) rfl (Wt.none rfl) rfl ?_
                refine RunD.one (i := 6) (by kernel_rfl) rfl ?_
                refine RunL.mapUpdate (k := eKey e) (v := e) (ev := eE) rfl rfl rfl (by first | ((repeat (first | (with_reducible exact Find.here _) | apply Find.there)); done) | (repeat (first | exact Find.here _ | apply Find.there))) und61 key42 (Wt.none rfl) ?_
                refine RunL.nilD' ?_
                refine RunD.nilB (by kernel_rfl) (fun w sw => backgl8 _ _ (backgr9 _ _ (sw))) ?_
                have hqp := hq.put e
                refine Run.seq ?_
                refine Run.seq ?_
                refine Run.regionD' (by kernel_rfl) (by kernel_rfl) (fun hok655 => ?_)
                refine RunD.lend (Q := row p 64 _) Lends.row (by first | ((repeat (first | (with_reducible exact Find.here _) | apply Find.there)); done) | (repeat (first | exact Find.here _ | apply Find.there))) ?_; intro gr10 hlegr10 hrr10 backgr10
                have hrb3_gr10 := hrb3.mono hlegr10
                refine RunD.pure (i := 0) hok655 rfl (by kernel_rfl) (Pure.move rfl) (Wt.none rfl) rfl rfl ?_
                refine RunD.pure (i := 1) hok655 rfl (by kernel_rfl) (Pure.nilCheck rfl) (Wt.none rfl) rfl rfl ?_
                refine RunD.pure (i := 2) hok655 rfl (by kernel_rfl) (Pure.fieldAddr rfl fo64_1) (Wt.none rfl) rfl rfl ?_
                refine RunD.load1R (i := 3) hok655 rfl (by kernel_rfl) rfl (by assumption) (by rfl) agg62 (Wt.none rfl) rfl ?_
                refine RunD.pure (i := 4) hok655 rfl (by kernel_rfl) (Pure.lenSl rfl rfl und62) (Wt.none rfl) rfl rfl ?_
                refine RunD.pure (i := 5) hok655 rfl (by kernel_rfl) (Pure.move rfl) (Wt.none rfl) rfl rfl ?_
                refine RunD.pure (i := 6) hok655 rfl (by kernel_rfl) (Pure.nilCheck rfl) (Wt.none rfl) rfl rfl ?_
                refine RunD.pure (i := 7) hok655 rfl (by kernel_rfl) (Pure.fieldAddr rfl fo64_0) (Wt.none rfl) rfl rfl ?_
                refine RunD.load1R (i := 8) hok655 rfl (by kernel_rfl) rfl (by assumption) (by rfl) agg3 (Wt.none rfl) rfl ?_
                refine RunD.pure (i := 9) hok655 rfl (by kernel_rfl) (Pure.leq rfl rfl) (Wt.none rfl) rfl rfl ?_
                refine RunD.nilB (by kernel_rfl) (fun w sw => backgr10 _ _ (sw)) ?_
                refine Run.cond rfl (fun h3 => ?_) (fun h3 => ?_)
                · try simp only [decide_eq_true_eq, decide_eq_false_iff_not, beq_iff_eq, beq_eq_false_iff_ne, bne_iff_ne, ne_eq, Bool.not_eq_true', Bool.not_eq_false', Bool.not_eq_true, Bool.not_eq_false, Int.not_lt, Int.not_le, Decidable.not_not, bne_eq_false_iff_eq, gt_iff_lt, ge_iff_le, Bool.or_eq_true, Bool.and_eq_true] at h3
                  refine Run.sr ?_
                  refine RunL.pure (Pure.buildL (ps := []) (zs := [(.int .i64 0), (.string .empty), (.string .empty), (.string .empty), (.string .empty), (.bool false), (.bool false), (.int .i64 0), (.int .i64 0), (.int .i64 0), (.int .i64 0)]) (xs := (cEdu zeroE)) pl31 rfl rfl rfl rfl) (Wt.none rfl) rfl rfl ?_
                  refine RunL.storeW (xs := (cEdu zeroE)) rfl rfl (by first | ((repeat (first | (with_reducible exact Find.here _) | apply Find.there)); done) | (repeat (first | exact Find.here _ | apply Find.there))) sz31 (by rfl) (by rfl) (by rfl) (Wt.none rfl) ?_
                  refine RunL.as rfl rfl ?_
                  refine RunL.as rfl rfl ?_
                  refine RunL.nil ?_
                  have hP := putL_in (most := most) (lost := lost) (l := l) (e := e) (by simpa using h1) (fun o q => by rw [← hq.2.1, hg] at q; cases q; exact hnew) (by rw [← hqp.len]; exact h3)
                  refine Run.mkQ (((ks.filter (fun x => decide (x ≠ eKey e))) ++ [eKey e])) (by repeat (first | (with_reducible exact Take.nil _) | (apply Take.cons (by first | ((repeat (first | (with_reducible exact Find.here _) | apply Find.there)); done) | (repeat (first | exact Find.here _ | apply Find.there)))))) rfl ?_
                  refine Run.mkEx (X := List Key × List (Key × Edu)) (φ := fun x => QueOk x.1 x.2 ((offK l (eKey e) ++ [e]))) (L := fun x => [QuA p most (lost) x.1 x.2]) (((ks.filter (fun x => decide (x ≠ eKey e))) ++ [eKey e]), (mput (eKey e) e (mdel (eKey e) m))) (by repeat (first | (with_reducible exact Take.nil _) | (apply Take.cons (by first | ((repeat (first | (with_reducible exact Find.here _) | apply Find.there)); done) | (repeat (first | exact Find.here _ | apply Find.there)))))) hqp ?_
                  rw [show Ex (fun x : List Key × List (Key × Edu) => QueOk x.1 x.2 ((offK l (eKey e) ++ [e]))) (fun x => [QuA p most (lost) x.1 x.2]) = Qu p most (lost) ((offK l (eKey e) ++ [e])) from rfl]
                  exact Run.ret Try.func12 (resV3 rfl (Rv.cellN (us := (cEdu zeroE)) rfl (by first | ((repeat (first | (with_reducible exact Find.here _) | apply Find.there)); done) | (repeat (first | exact Find.here _ | apply Find.there))) agg31 sz31 (by first | exact Nat.le_of_ble_eq_true rfl | (simp; done) | (simp; omega)) rfl) (Rv.tmp rfl) (Rv.tmp rfl)) (by exact ⟨by rw [hP], by rw [hP]⟩) (by repeat (first | (with_reducible exact Fin.done (by repeat (first | (with_reducible exact Rest.here) | apply Rest.there))) | (apply Fin.cons (by first | ((repeat (first | (with_reducible exact Find.here _) | apply Find.there)); done) | (repeat (first | exact Find.here _ | apply Find.there))))))
                · try simp only [decide_eq_true_eq, decide_eq_false_iff_not, beq_iff_eq, beq_eq_false_iff_ne, bne_iff_ne, ne_eq, Bool.not_eq_true', Bool.not_eq_false', Bool.not_eq_true, Bool.not_eq_false, Int.not_lt, Int.not_le, Decidable.not_not, bne_eq_false_iff_eq, gt_iff_lt, ge_iff_le, Bool.or_eq_true, Bool.and_eq_true] at h3
                  refine Run.skip ?_
                  obtain ⟨x0, hx0⟩ := get_some (xs := (offK l (eKey e) ++ [e])) (i := 0) (by rw [List.length_append]; exact Nat.lt_add_left _ Nat.one_pos)
                  have hk0 : ((ks.filter (fun x => decide (x ≠ eKey e))) ++ [eKey e])[0]? = some (eKey x0) := by rw [hqp.1, List.getElem?_map, hx0]; rfl
                  have hg0 := hqp.at_ hx0
                  have hP : putL most lost l e = ((offK l (eKey e) ++ [e]).drop 1, lost + 1, x0, true, 0) := by rw [putL_past (by simpa using h1) (fun o q => by rw [← hq.2.1, hg] at q; cases q; exact hnew) (by rw [← hqp.len]; exact Int.not_le.2 (by first | exact h3 | simpa using h3)), hx0]; rfl
                  have hkl : ((ks.filter (fun x => decide (x ≠ eKey e))) ++ [eKey e]).length ≤ 901 := by rw [List.length_append]; exact Nat.add_le_add_right hfl 1
                  have hkp : 0 < ((ks.filter (fun x => decide (x ≠ eKey e))) ++ [eKey e]).length := by rw [List.length_append]; exact Nat.lt_add_left _ Nat.one_pos
                  refine Run.openSl (a := a3) (n := ((ks.filter (fun x => decide (x ≠ eKey e))) ++ [eKey e]).length) (by first | ((repeat (first | (with_reducible exact Find.here _) | apply Find.there)); done) | (repeat (first | exact Find.here _ | apply Find.there))) (by rw [List.length_append]; exact Nat.lt_add_left _ Nat.one_pos) ?_; rintro b2 pre2 post2 rfl hsl1 hsl2 hsl3
                  refine Run.seq ?_
                  refine Run.regionD' (by kernel_rfl) (by kernel_rfl) (fun hok692 => ?_)
                  refine RunD.lend (Q := row p 64 _) Lends.row (by first | ((repeat (first | (with_reducible exact Find.here _) | apply Find.there)); done) | (repeat (first | exact Find.here _ | apply Find.there))) ?_; intro gr12 hlegr12 hrr12 backgr12
                  have hrb3_gr12 := hrb3.mono hlegr12
                  refine RunD.lend (Q := Mp r2 _) Lends.Mp (by first | ((repeat (first | (with_reducible exact Find.here _) | apply Find.there)); done) | (repeat (first | exact Find.here _ | apply Find.there))) ?_; intro gm12 hlegm12 hm12 backgm12
                  try (replace hrr12 := hrr12.mono hlegm12)
                  have hrb3_gm12 := hrb3_gr12.mono hlegm12
                  refine RunD.lend (Q := row b2 _ _) Lends.row (by first | ((repeat (first | (with_reducible exact Find.here _) | apply Find.there)); done) | (repeat (first | exact Find.here _ | apply Find.there))) ?_; intro gb12 hlegb12 hb12 backgb12
                  try (replace hrr12 := hrr12.mono hlegb12)
                  try (replace hm12 := hm12.mono hlegb12)
                  have hrb3_gb12 := hrb3_gm12.mono hlegb12
                  refine RunD.pure (i := 0) hok692 rfl (by kernel_rfl) (Pure.move rfl) (Wt.none rfl) rfl rfl ?_
                  refine RunD.pure (i := 1) hok692 rfl (by kernel_rfl) (Pure.nilCheck rfl) (Wt.none rfl) rfl rfl ?_
                  refine RunD.pure (i := 2) hok692 rfl (by kernel_rfl) (Pure.fieldAddr rfl fo64_2) (Wt.none rfl) rfl rfl ?_
                  refine RunD.load1R (i := 3) hok692 rfl (by kernel_rfl) rfl (by assumption) (by rfl) agg61 (Wt.none rfl) rfl ?_
                  refine RunD.pure (i := 4) hok692 rfl (by kernel_rfl) (Pure.move rfl) (Wt.none rfl) rfl rfl ?_
                  refine RunD.pure (i := 5) hok692 rfl (by kernel_rfl) (Pure.nilCheck rfl) (Wt.none rfl) rfl rfl ?_
                  refine RunD.pure (i := 6) hok692 rfl (by kernel_rfl) (Pure.fieldAddr rfl fo64_1) (Wt.none rfl) rfl rfl ?_
                  refine RunD.load1R (i := 7) hok692 rfl (by kernel_rfl) rfl (by assumption) (by rfl) agg62 (Wt.none rfl) rfl ?_
                  refine RunD.pure (i := 8) hok692 rfl (by kernel_rfl) (Pure.indexAddr rfl rfl und62 sz42 (by omega) (by omega)) (Wt.none rfl) rfl rfl ?_
                  refine RunD.loadNR (vs := (cKey ((eKey x0)))) (i := 9) hok692 rfl (by kernel_rfl) rfl hb12 agg42 sz42 (elemN_len (pre := pre2) (post := post2) (f := cKey) (sz := 5) (j := 0) (n := 5) (fun _ _ => rfl) hk0 (by decide)) ((elemN_at (pre := pre2) (post := post2) (f := cKey) (sz := 5) (j := 0) (n := 5) (fun _ _ => rfl) hk0 (by decide)).trans rfl) (Wt.none rfl) rfl ?_
                  refine RunD.lookupR (k := eKey x0) (i := 10) hok692 rfl (by kernel_rfl) rfl rfl (by assumption) und61 zz31 key42 (Wt.none rfl) rfl ?_
                  rw [hg0, show ∀ z, mval eE z (some x0) = .agg (cEdu x0).toArray from fun _ => rfl]
                  refine RunD.one (i := 11) (by kernel_rfl) rfl ?_
                  refine RunL.alloc zz31 (Wt.none rfl) rfl ?_; intro b10
                  refine RunL.nilD' ?_
                  refine RunD.one (i := 12) (by kernel_rfl) rfl ?_
                  refine RunL.storeW (xs := (cEdu x0)) rfl rfl (by first | ((repeat (first | (with_reducible exact Find.here _) | apply Find.there)); done) | (repeat (first | exact Find.here _ | apply Find.there))) sz31 (by rfl) (by rfl) (by rfl) (Wt.none rfl) ?_
                  refine RunL.nilD' ?_
                  refine RunD.nilB (by kernel_rfl) (fun w sw => backgr12 _ _ (backgm12 _ _ (backgb12 _ _ (sw)))) ?_
                  refine Run.sr ?_
                  refine RunL.mv rfl rfl ?_
                  refine RunL.mv rfl rfl ?_
                  refine RunL.pure (Pure.nilCheck rfl) (Wt.none rfl) rfl rfl ?_
                  refine RunL.pure (Pure.fieldAddr rfl fo64_1) (Wt.none rfl) rfl rfl ?_
                  first | refine RunL.load1 rfl (by first | ((repeat (first | (with_reducible exact Find.here _) | apply Find.there)); done) | (repeat (first | exact Find.here _ | apply Find.there))) (by rfl) agg62 (Wt.none rfl) rfl ?_ | refine RunL.load1R rfl (by assumption) (by rfl) agg62 (Wt.none rfl) rfl ?_
                  refine RunL.pure (Pure.indexAddr rfl rfl und62 sz42 (by omega) (by omega)) (Wt.none rfl) rfl rfl ?_
                  refine RunL.loadA (vs := (cKey ((eKey x0)))) rfl (by first | ((repeat (first | (with_reducible exact Find.here _) | apply Find.there)); done) | (repeat (first | exact Find.here _ | apply Find.there))) agg42 sz42 (elemN_len (f := cKey) (sz := 5) (j := 0) (n := 5) (fun _ _ => rfl) hk0 (by decide)) ((elemN_at (f := cKey) (sz := 5) (j := 0) (n := 5) (fun _ _ => rfl) hk0 (by decide)).trans rfl) (Wt.none rfl) rfl ?_
                  refine RunL.mkSl (b := b2) (pre := pre2) (post := post2) (sz := 5) (cs := (((ks.filter (fun x => decide (x ≠ eKey e))) ++ [eKey e])).flatMap cKey) (n := ((ks.filter (fun x => decide (x ≠ eKey e))) ++ [eKey e]).length) (by first | ((repeat (first | (with_reducible exact Find.here _) | apply Find.there)); done) | (repeat (first | exact Find.here _ | apply Find.there))) hsl1 hsl2 hsl3 ?_
                  refine RunL.mkQ (((ks.filter (fun x => decide (x ≠ eKey e))) ++ [eKey e])) (by repeat (first | (with_reducible exact Take.nil _) | (apply Take.cons (by first | ((repeat (first | (with_reducible exact Find.here _) | apply Find.there)); done) | (repeat (first | exact Find.here _ | apply Find.there)))))) rfl ?_
                  refine RunL.call rfl rfl (by rfl) (by repeat (first | (with_reducible exact Take.nil _) | (apply Take.cons (by first | ((repeat (first | (with_reducible exact Find.here _) | apply Find.there)); done) | (repeat (first | exact Find.here _ | apply Find.there)))))) (drop_ctr (k := eKey x0) (by omega)) (Wt.none rfl) rfl ?_
                  rintro _ _ ⟨rfl, hA_⟩
                  replace hA_ := hA_.symm; subst hA_
                  refine RunL.nil ?_
                  refine Run.openQ (by first | ((repeat (first | (with_reducible exact Find.here _) | apply Find.there)); done) | (repeat (first | exact Find.here _ | apply Find.there))) ?_; intro a5 cap5 r5
                  refine Run.sr ?_
                  refine RunL.mv rfl rfl ?_
                  refine RunL.pure (Pure.nilCheck rfl) (Wt.none rfl) rfl rfl ?_
                  refine RunL.pure (Pure.fieldAddr rfl fo64_3) (Wt.none rfl) rfl rfl ?_
                  first | refine RunL.load1 rfl (by first | ((repeat (first | (with_reducible exact Find.here _) | apply Find.there)); done) | (repeat (first | exact Find.here _ | apply Find.there))) (by rfl) agg3 (Wt.none rfl) rfl ?_ | refine RunL.load1R rfl (by assumption) (by rfl) agg3 (Wt.none rfl) rfl ?_
                  first | refine RunL.pure (Pure.addI rfl rfl (by omega)) (Wt.none rfl) rfl rfl ?_ | refine RunL.pure (Pure.add rfl rfl) (Wt.none rfl) rfl rfl ?_
                  refine RunL.pure (Pure.nilCheck rfl) (Wt.none rfl) rfl rfl ?_
                  refine RunL.pure (Pure.fieldAddr rfl fo64_3) (Wt.none rfl) rfl rfl ?_
                  refine RunL.store1 rfl rfl (by first | ((repeat (first | (with_reducible exact Find.here _) | apply Find.there)); done) | (repeat (first | exact Find.here _ | apply Find.there))) sz3 (by rfl) (by simp) (Wt.none rfl) ?_
                  try simp only [List.set_cons_zero, List.set_cons_succ]
                  refine RunL.nil ?_
                  refine Run.sr ?_
                  first | refine RunL.loadA (vs := (cEdu x0)) rfl (by first | ((repeat (first | (with_reducible exact Find.here _) | apply Find.there)); done) | (repeat (first | exact Find.here _ | apply Find.there))) agg31 sz31 (by first | exact Nat.le_of_ble_eq_true rfl | (simp; done) | (simp; omega)) rfl (Wt.none rfl) rfl ?_ | refine RunL.loadNR (vs := (cEdu x0)) rfl (by assumption) agg31 sz31 (by first | exact Nat.le_of_ble_eq_true rfl | (simp; done) | (simp; omega)) rfl (Wt.none rfl) rfl ?_
                  refine RunL.storeW (xs := (cEdu x0)) rfl rfl (by first | ((repeat (first | (with_reducible exact Find.here _) | apply Find.there)); done) | (repeat (first | exact Find.here _ | apply Find.there))) sz31 (by rfl) (by rfl) (by rfl) (Wt.none rfl) ?_
                  refine RunL.as rfl rfl ?_
                  refine RunL.as rfl rfl ?_
                  refine RunL.nil ?_
                  refine Run.mkQ (((ks.filter (fun x => decide (x ≠ eKey e))) ++ [eKey e]).filter (fun x => decide (x ≠ eKey x0))) (by repeat (first | (with_reducible exact Take.nil _) | (apply Take.cons (by first | ((repeat (first | (with_reducible exact Find.here _) | apply Find.there)); done) | (repeat (first | exact Find.here _ | apply Find.there)))))) rfl ?_
                  refine Run.mkEx (X := List Key × List (Key × Edu)) (φ := fun x => QueOk x.1 x.2 ((offK l (eKey e) ++ [e]).drop 1)) (L := fun x => [QuA p most (lost + 1) x.1 x.2]) (_, _) (by repeat (first | (with_reducible exact Take.nil _) | (apply Take.cons (by first | ((repeat (first | (with_reducible exact Find.here _) | apply Find.there)); done) | (repeat (first | exact Find.here _ | apply Find.there)))))) (hqp.first hx0) ?_
                  rw [show Ex (fun x : List Key × List (Key × Edu) => QueOk x.1 x.2 ((offK l (eKey e) ++ [e]).drop 1)) (fun x => [QuA p most (lost + 1) x.1 x.2]) = Qu p most (lost + 1) ((offK l (eKey e) ++ [e]).drop 1) from rfl]
                  exact Run.ret Try.func12 (resV3 rfl (Rv.cellN (us := (cEdu x0)) rfl (by first | ((repeat (first | (with_reducible exact Find.here _) | apply Find.there)); done) | (repeat (first | exact Find.here _ | apply Find.there))) agg31 sz31 (by first | exact Nat.le_of_ble_eq_true rfl | (simp; done) | (simp; omega)) rfl) (Rv.tmp rfl) (Rv.tmp rfl)) (by exact ⟨by rw [hP], by rw [hP]⟩) (by repeat (first | (with_reducible exact Fin.done (by repeat (first | (with_reducible exact Rest.here) | apply Rest.there))) | (apply Fin.cons (by first | ((repeat (first | (with_reducible exact Find.here _) | apply Find.there)); done) | (repeat (first | exact Find.here _ | apply Find.there))))))

end Go.Proofs.Ytnmpbpadpkgboaa
