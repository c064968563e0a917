/- Has. -/
import Derived.Test.YtnmpbpadpkgboaaQ5
set_option linter.unusedVariables false
set_option linter.unusedSimpArgs false
set_option linter.unusedSectionVars false
namespace Go.Proofs.Ytnmpbpadpkgboaa
open Go Csl


set_option maxHeartbeats 4000000 in
set_option maxRecDepth 100000 in
theorem Has_ctr {G : Gp} {p : Nat} {most lost : Int} {ks : List Key} {m : List (Key × Edu)} {k : Key} :
    Ctr Try.prog G 17 [.pointer (some ⟨p, 0, none⟩), .agg (cKey k).toArray] [QuA p most lost ks m] (fun F v A => v = .tuple #[.agg (cEdu ((mget k m).getD zeroE)).toArray, .bool (mget k m).isSome] ∧ A = QuA p most lost ks m :: F) := by
  refine Ctr.intro Try.func17 rfl (by kernel_rfl) rfl (fun F => ?_)
  simp only [List.cons_append, List.nil_append]
  refine Run.openQ (by first | ((repeat (first | (with_reducible exact Find.here _) | apply Find.there)); done) | (repeat (first | exact Find.here _ | apply Find.there))) ?_; intro a cap r
  rcases hg : mget k m with _ | x
  · skip
    refine Run.sr ?_
    refine RunL.boxA (xs := (cKey k)) rfl (Wt.none rfl) rfl ?_; intro b3
    refine RunL.alloc zz31 (Wt.none rfl) rfl ?_; intro b4
    refine RunL.as rfl rfl ?_
    refine RunL.nil ?_
    refine Run.lendAll (Q := row b3 42 _) Lends.row (by first | ((repeat (first | (with_reducible exact Find.here _) | apply Find.there)); done) | (repeat (first | exact Find.here _ | apply Find.there))) (fun G3 hleG3 hrb3 => ?_)
    refine Run.seq ?_
    refine Run.regionD' (by kernel_rfl) (by kernel_rfl) (fun hok9 => ?_)
    refine RunD.lend (Q := row p 64 _) Lends.row (by first | ((repeat (first | (with_reducible exact Find.here _) | apply Find.there)); done) | (repeat (first | exact Find.here _ | apply Find.there))) ?_; intro g1 hleg1 hr1 backg1
    have hrb3_g1 := hrb3.mono hleg1
    refine RunD.lend (Q := Mp r _) Lends.Mp (by first | ((repeat (first | (with_reducible exact Find.here _) | apply Find.there)); done) | (repeat (first | exact Find.here _ | apply Find.there))) ?_; intro g2 hleg2 hm2 backg2
    try (replace hr1 := hr1.mono hleg2)
    have hrb3_g2 := hrb3_g1.mono hleg2
    refine RunD.pure (i := 0) hok9 rfl (by kernel_rfl) (Pure.move rfl) (Wt.none rfl) rfl rfl ?_
    refine RunD.pure (i := 1) hok9 rfl (by kernel_rfl) (Pure.nilCheck rfl) (Wt.none rfl) rfl rfl ?_
    refine RunD.pure (i := 2) hok9 rfl (by kernel_rfl) (Pure.fieldAddr rfl fo64_2) (Wt.none rfl) rfl rfl ?_
    refine RunD.load1R (i := 3) hok9 rfl (by kernel_rfl) rfl (by assumption) (by rfl) agg61 (Wt.none rfl) rfl ?_
    refine RunD.loadNR (vs := (cKey k)) (i := 4) hok9 rfl (by kernel_rfl) rfl (by assumption) agg42 sz42 (by first | exact Nat.le_of_ble_eq_true rfl | (simp; done) | (simp; omega)) rfl (Wt.none rfl) rfl ?_
    refine RunD.lookupR (k := k) (i := 5) hok9 rfl (by kernel_rfl) rfl rfl (by assumption) und61 zz31 key42 (Wt.none rfl) rfl ?_
    rw [hg]
    refine RunD.pure (i := 6) hok9 rfl (by kernel_rfl) (Pure.move rfl) (Wt.none rfl) rfl rfl ?_
    refine RunD.pure (i := 7) hok9 rfl (by kernel_rfl) (Pure.extract rfl rfl) (Wt.none rfl) rfl rfl ?_
    refine RunD.pure (i := 8) hok9 rfl (by kernel_rfl) (Pure.extract rfl rfl) (Wt.none rfl) rfl rfl ?_
    refine RunD.one (i := 9) (by kernel_rfl) rfl ?_
    refine RunL.alloc zz31 (Wt.none rfl) rfl ?_; intro b6
    refine RunL.nilD' ?_
    refine RunD.one (i := 10) (by kernel_rfl) rfl ?_
    refine RunL.storeW (xs := (cEdu zeroE)) rfl rfl (by first | ((repeat (first | (with_reducible exact Find.here _) | apply Find.there)); done) | (repeat (first | exact Find.here _ | apply Find.there))) sz31 (by rfl) (by rfl) (by rfl) (Wt.none rfl) ?_
    refine RunL.nilD' ?_
    refine RunD.pure (i := 11) hok9 rfl (by kernel_rfl) (Pure.assign rfl) (Wt.none rfl) rfl rfl ?_
    refine RunD.nilB (by kernel_rfl) (fun w sw => backg1 _ _ (backg2 _ _ (sw))) ?_
    refine Run.sr ?_
    first | refine RunL.loadA (vs := (cEdu zeroE)) rfl (by first | ((repeat (first | (with_reducible exact Find.here _) | apply Find.there)); done) | (repeat (first | exact Find.here _ | apply Find.there))) agg31 sz31 (by first | exact Nat.le_of_ble_eq_true rfl | (simp; done) | (simp; omega)) rfl (Wt.none rfl) rfl ?_ | refine RunL.loadNR (vs := (cEdu zeroE)) rfl (by assumption) agg31 sz31 (by first | exact Nat.le_of_ble_eq_true rfl | (simp; done) | (simp; omega)) rfl (Wt.none rfl) rfl ?_
    refine RunL.mv rfl rfl ?_
    refine RunL.storeW (xs := (cEdu zeroE)) rfl rfl (by first | ((repeat (first | (with_reducible exact Find.here _) | apply Find.there)); done) | (repeat (first | exact Find.here _ | apply Find.there))) sz31 (by rfl) (by rfl) (by rfl) (Wt.none rfl) ?_
    refine RunL.as rfl rfl ?_
    refine RunL.nil ?_
    refine Run.mkQ (ks) (by repeat (first | (with_reducible exact Take.nil _) | (apply Take.cons (by first | ((repeat (first | (with_reducible exact Find.here _) | apply Find.there)); done) | (repeat (first | exact Find.here _ | apply Find.there)))))) rfl ?_
    exact Run.ret Try.func17 (resV2 rfl (Rv.cellN (us := (cEdu zeroE)) rfl (by first | ((repeat (first | (with_reducible exact Find.here _) | apply Find.there)); done) | (repeat (first | exact Find.here _ | apply Find.there))) agg31 sz31 (by first | exact Nat.le_of_ble_eq_true rfl | (simp; done) | (simp; omega)) rfl) (Rv.tmp rfl)) (by exact ⟨rfl, rfl⟩) (by repeat (first | (with_reducible exact Fin.done (by repeat (first | (with_reducible exact Rest.here) | apply Rest.there))) | (apply Fin.cons (by first | ((repeat (first | (with_reducible exact Find.here _) | apply Find.there)); done) | (repeat (first | exact Find.here _ | apply Find.there))))))
  · skip
    refine Run.sr ?_
    refine RunL.boxA (xs := (cKey k)) rfl (Wt.none rfl) rfl ?_; intro b3
    refine RunL.alloc zz31 (Wt.none rfl) rfl ?_; intro b4
    refine RunL.as rfl rfl ?_
    refine RunL.nil ?_
    refine Run.lendAll (Q := row b3 42 _) Lends.row (by first | ((repeat (first | (with_reducible exact Find.here _) | apply Find.there)); done) | (repeat (first | exact Find.here _ | apply Find.there))) (fun G3 hleG3 hrb3 => ?_)
    refine Run.seq ?_
    refine Run.regionD' (by kernel_rfl) (by kernel_rfl) (fun hok49 => ?_)
    refine RunD.lend (Q := row p 64 _) Lends.row (by first | ((repeat (first | (with_reducible exact Find.here _) | apply Find.there)); done) | (repeat (first | exact Find.here _ | apply Find.there))) ?_; intro g1 hleg1 hr1 backg1
    have hrb3_g1 := hrb3.mono hleg1
    refine RunD.lend (Q := Mp r _) Lends.Mp (by first | ((repeat (first | (with_reducible exact Find.here _) | apply Find.there)); done) | (repeat (first | exact Find.here _ | apply Find.there))) ?_; intro g2 hleg2 hm2 backg2
    try (replace hr1 := hr1.mono hleg2)
    have hrb3_g2 := hrb3_g1.mono hleg2
    refine RunD.pure (i := 0) hok49 rfl (by kernel_rfl) (Pure.move rfl) (Wt.none rfl) rfl rfl ?_
    refine RunD.pure (i := 1) hok49 rfl (by kernel_rfl) (Pure.nilCheck rfl) (Wt.none rfl) rfl rfl ?_
    refine RunD.pure (i := 2) hok49 rfl (by kernel_rfl) (Pure.fieldAddr rfl fo64_2) (Wt.none rfl) rfl rfl ?_
    refine RunD.load1R (i := 3) hok49 rfl (by kernel_rfl) rfl (by assumption) (by rfl) agg61 (Wt.none rfl) rfl ?_
    refine RunD.loadNR (vs := (cKey k)) (i := 4) hok49 rfl (by kernel_rfl) rfl (by assumption) agg42 sz42 (by first | exact Nat.le_of_ble_eq_true rfl | (simp; done) | (simp; omega)) rfl (Wt.none rfl) rfl ?_
    refine RunD.lookupR (k := k) (i := 5) hok49 rfl (by kernel_rfl) rfl rfl (by assumption) und61 zz31 key42 (Wt.none rfl) rfl ?_
    rw [hg]
    refine RunD.pure (i := 6) hok49 rfl (by kernel_rfl) (Pure.move rfl) (Wt.none rfl) rfl rfl ?_
    refine RunD.pure (i := 7) hok49 rfl (by kernel_rfl) (Pure.extract rfl rfl) (Wt.none rfl) rfl rfl ?_
    refine RunD.pure (i := 8) hok49 rfl (by kernel_rfl) (Pure.extract rfl rfl) (Wt.none rfl) rfl rfl ?_
    refine RunD.one (i := 9) (by kernel_rfl) rfl ?_
    refine RunL.alloc zz31 (Wt.none rfl) rfl ?_; intro b6
    refine RunL.nilD' ?_
    refine RunD.one (i := 10) (by kernel_rfl) rfl ?_
    refine RunL.storeW (xs := (cEdu x)) rfl rfl (by first | ((repeat (first | (with_reducible exact Find.here _) | apply Find.there)); done) | (repeat (first | exact Find.here _ | apply Find.there))) sz31 (by rfl) (by rfl) (by rfl) (Wt.none rfl) ?_
    refine RunL.nilD' ?_
    refine RunD.pure (i := 11) hok49 rfl (by kernel_rfl) (Pure.assign rfl) (Wt.none rfl) rfl rfl ?_
    refine RunD.nilB (by kernel_rfl) (fun w sw => backg1 _ _ (backg2 _ _ (sw))) ?_
    refine Run.sr ?_
    first | refine RunL.loadA (vs := (cEdu x)) rfl (by first | ((repeat (first | (with_reducible exact Find.here _) | apply Find.there)); done) | (repeat (first | exact Find.here _ | apply Find.there))) agg31 sz31 (by first | exact Nat.le_of_ble_eq_true rfl | (simp; done) | (simp; omega)) rfl (Wt.none rfl) rfl ?_ | refine RunL.loadNR (vs := (cEdu x)) rfl (by assumption) agg31 sz31 (by first | exact Nat.le_of_ble_eq_true rfl | (simp; done) | (simp; omega)) rfl (Wt.none rfl) rfl ?_
    refine RunL.mv rfl rfl ?_
    refine RunL.storeW (xs := (cEdu x)) rfl rfl (by first | ((repeat (first | (with_reducible exact Find.here _) | apply Find.there)); done) | (repeat (first | exact Find.here _ | apply Find.there))) sz31 (by rfl) (by rfl) (by rfl) (Wt.none rfl) ?_
    refine RunL.as rfl rfl ?_
    refine RunL.nil ?_
    refine Run.mkQ (ks) (by repeat (first | (with_reducible exact Take.nil _) | (apply Take.cons (by first | ((repeat (first | (with_reducible exact Find.here _) | apply Find.there)); done) | (repeat (first | exact Find.here _ | apply Find.there)))))) rfl ?_
    exact Run.ret Try.func17 (resV2 rfl (Rv.cellN (us := (cEdu x)) rfl (by first | ((repeat (first | (with_reducible exact Find.here _) | apply Find.there)); done) | (repeat (first | exact Find.here _ | apply Find.there))) agg31 sz31 (by first | exact Nat.le_of_ble_eq_true rfl | (simp; done) | (simp; omega)) rfl) (Rv.tmp rfl)) (by exact ⟨rfl, rfl⟩) (by repeat (first | (with_reducible exact Fin.done (by repeat (first | (with_reducible exact Rest.here) | apply Rest.there))) | (apply Fin.cons (by first | ((repeat (first | (with_reducible exact Find.here _) | apply Find.there)); done) | (repeat (first | exact Find.here _ | apply Find.there))))))

end Go.Proofs.Ytnmpbpadpkgboaa
