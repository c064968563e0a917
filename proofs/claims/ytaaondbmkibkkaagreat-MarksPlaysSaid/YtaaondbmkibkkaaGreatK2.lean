/- Tables of marks. -/
import Derived.Test.YtaaondbmkibkkaaGreatK1
set_option linter.unusedVariables false
set_option linter.unusedSimpArgs false
set_option linter.unusedSectionVars false
namespace Go.Proofs.YtaaondbmkibkkaaGreat
open Go Csl


namespace Csl
section
variable {c : Cx} {G : Gp} {ops : Array Oper} {kk : KT} {e : Env} {A A' : List HProp} {lo : List Oper} {st : List Item} {p r : Nat} {l : List (K × Pos)}
theorem Run.openTb (hf : Find (Tb p l) A A') (next : ∀ r, Run c G st e (row p 120 [.map (some r)] :: Mp r (menc eK eP l) :: A')) : Run c G st e A := Run.openEx hf fun r _ => next r
theorem RunL.openTb (hf : Find (Tb p l) A A') (next : ∀ r, RunL c G ops lo kk e (row p 120 [.map (some r)] :: Mp r (menc eK eP l) :: A')) : RunL c G ops lo kk e A := RunL.openEx hf fun r _ => next r
theorem Run.mkTb (l : List (K × Pos)) (ht : Take [row p 120 [.map (some r)], Mp r (menc eK eP l)] A A') (next : Run c G st e (Tb p l :: A')) : Run c G st e A := Run.mkEx r ht trivial next
theorem RunL.mkTb (l : List (K × Pos)) (ht : Take [row p 120 [.map (some r)], Mp r (menc eK eP l)] A A') (next : RunL c G ops lo kk e (Tb p l :: A')) : RunL c G ops lo kk e A := RunL.mkEx r ht trivial next
end
theorem adopts_eq (l : List (K × Pos)) (k : K) (q : Pos) : adopts l k q = (!(mget k l).isSome || decide (cmpPos ((mget k l).getD noPos) q < 0)) := by
  unfold adopts; cases mget k l <;> simp
end Csl

set_option maxRecDepth 100000 in
theorem NewT_ctr {G : Gp} :
    Ctr Tryz.prog G 45 [] [] (fun F v A => ∃ p, v = .pointer (some ⟨p, 0, none⟩) ∧ A = Tb p [] :: F) := by
  refine Ctr.intro Tryz.func45 rfl (by kernel_rfl) rfl (fun F => ?_)
  simp only [List.nil_append]
  refine sr' (as' rfl (nl' (sr' ?_)))
  refine RunL.makeMap (Wt.none rfl) rfl ?_; intro b1
  refine pp' (Pure.buildL (ps := [(0, _)]) (zs := [(.map none)]) (xs := [_]) pl120 rfl rfl rfl rfl) ?_
  refine RunL.box rfl (Wt.none rfl) rfl ?_; intro b3
  refine as' rfl (nl' ?_)
  refine Run.mkTb [] (by repeat (first | (with_reducible exact Take.nil _) | (apply Take.cons (by first | ((repeat (first | (with_reducible exact F0 _) | apply F1)); done) | (repeat (first | exact F0 _ | apply F1)))))) ?_
  exact rt' Tryz.func45 (res1 rfl rfl) (by exact ⟨_, rfl, rfl⟩)

set_option maxRecDepth 100000 in
theorem GetT_ctr {G : Gp} {p : Nat} {k : K} {l : List (K × Pos)} (h : TbR G p l) :
    Ctr Tryz.prog G 28 [.pointer (some ⟨p, 0, none⟩), .agg (cK k).toArray] [] (fun F v A => v = .tuple #[.agg (cPos ((mget k l).getD noPos)).toArray, .bool (mget k l).isSome] ∧ A = F) := by
  refine Ctr.intro Tryz.func28 rfl (by kernel_rfl) rfl (fun F => ?_)
  simp only [List.nil_append]
  obtain ⟨r, hr, hmr⟩ := h
  refine sr' ?_
  refine RunL.boxA (xs := (cK k)) rfl (Wt.none rfl) rfl ?_; intro b3
  refine RunL.alloc zz69 (Wt.none rfl) rfl ?_; intro b4
  refine as' rfl (nl' (sq' ?_))
  refine Run.regionD' (by kernel_rfl) (by kernel_rfl) (fun hok6 => ?_)
  refine ld' (row b3 34 _) Lends.row ?_; intro g1 hleg1 hb1 backg1
  have hr := hr.mono hleg1
  have hmr := hmr.mono hleg1
  refine dp' 0 hok6 rfl (Pure.move rfl) (dp' 1 hok6 rfl (Pure.nilCheck rfl) (dp' 2 hok6 rfl (Pure.fieldAddr rfl fo120_0) (dl' 3 hok6 rfl rfl agg118 ?_)))
  refine RunD.loadNR (vs := (cK k)) (i := 4) hok6 rfl (by kernel_rfl) rfl (by assumption) agg34 sz34 (by first | exact Nat.le_of_ble_eq_true rfl | (simp; done) | (simp; omega)) rfl (Wt.none rfl) rfl ?_
  refine RunD.lookupR (k := k) (i := 5) hok6 rfl (by kernel_rfl) rfl rfl (by assumption) und118 zz69 key34 (Wt.none rfl) rfl ?_
  rw [mvalP]
  refine dp' 6 hok6 rfl (Pure.move rfl) (dp' 7 hok6 rfl (Pure.extract rfl rfl) (dp' 8 hok6 rfl (Pure.extract rfl rfl) ?_))
  refine RunD.one (i := 9) (by kernel_rfl) rfl ?_
  refine RunL.alloc zz69 (Wt.none rfl) rfl ?_; intro b6
  refine RunL.nilD' ?_
  refine RunD.one (i := 10) (by kernel_rfl) rfl ?_
  refine sW' (cPos ((mget k l).getD noPos)) rfl rfl sz69 ?_
  refine RunL.nilD' ?_
  refine dp' 11 hok6 rfl (Pure.assign rfl) ?_
  refine RunD.nilB (by kernel_rfl) (fun w sw => backg1 _ _ (sw)) ?_
  refine sr' (lA' (cPos ((mget k l).getD noPos)) rfl agg69 sz69 ?_)
  refine mv' rfl (sW' (cPos ((mget k l).getD noPos)) rfl rfl sz69 ?_)
  refine as' rfl (nl' ?_)
  exact rt' Tryz.func28 (resV2 rfl (Rv.cellN (us := (cPos ((mget k l).getD noPos))) rfl (by first | ((repeat (first | (with_reducible exact F0 _) | apply F1)); done) | (repeat (first | exact F0 _ | apply F1))) agg69 sz69 (by first | exact Nat.le_of_ble_eq_true rfl | (simp; done) | (simp; omega)) rfl) (Rv.tmp rfl)) (by exact ⟨rfl, rfl⟩)

set_option maxRecDepth 100000 in
theorem PutT_ctr {G : Gp} {p : Nat} {k : K} {q : Pos} {l : List (K × Pos)} :
    Ctr Tryz.prog G 53 [.pointer (some ⟨p, 0, none⟩), .agg (cK k).toArray, .agg (cPos q).toArray] [Tb p l] (fun F v A => v = .bool (adopts l k q) ∧ A = Tb p (tput l k q) :: F) := by
  refine Ctr.intro Tryz.func53 rfl (by kernel_rfl) rfl (fun F => ?_)
  simp only [List.cons_append, List.nil_append]
  refine Run.openTb (by first | ((repeat (first | (with_reducible exact F0 _) | apply F1)); done) | (repeat (first | exact F0 _ | apply F1))) ?_; intro r
  refine sr' ?_
  refine RunL.boxA (xs := (cK k)) rfl (Wt.none rfl) rfl ?_; intro b4
  refine RunL.boxA (xs := (cPos q)) rfl (Wt.none rfl) rfl ?_; intro b5
  refine as' rfl (nl' (sq' ?_))
  refine Run.regionD' (by kernel_rfl) (by kernel_rfl) (fun hok6 => ?_)
  refine ld' (row p 120 _) Lends.row ?_; intro g1 hleg1 hb1 backg1
  refine ld' (Mp r _) Lends.Mp ?_; intro g2 hleg2 hb2 backg2
  have hb1 := hb1.mono hleg2
  refine ld' (row b4 34 _) Lends.row ?_; intro g3 hleg3 hb3 backg3
  have hb1 := hb1.mono hleg3
  have hb2 := hb2.mono hleg3
  refine dp' 0 hok6 rfl (Pure.move rfl) (dp' 1 hok6 rfl (Pure.nilCheck rfl) (dp' 2 hok6 rfl (Pure.fieldAddr rfl fo120_0) (dl' 3 hok6 rfl rfl agg118 ?_)))
  refine RunD.loadNR (vs := (cK k)) (i := 4) hok6 rfl (by kernel_rfl) rfl (by assumption) agg34 sz34 (by first | exact Nat.le_of_ble_eq_true rfl | (simp; done) | (simp; omega)) rfl (Wt.none rfl) rfl ?_
  refine RunD.lookupR (k := k) (i := 5) hok6 rfl (by kernel_rfl) rfl rfl (by assumption) und118 zz69 key34 (Wt.none rfl) rfl ?_
  rw [mvalP]
  refine dp' 6 hok6 rfl (Pure.move rfl) (dp' 7 hok6 rfl (Pure.extract rfl rfl) (dp' 8 hok6 rfl (Pure.extract rfl rfl) ?_))
  refine RunD.one (i := 9) (by kernel_rfl) rfl ?_
  refine RunL.alloc zz69 (Wt.none rfl) rfl ?_; intro b7
  refine RunL.nilD' ?_
  refine RunD.one (i := 10) (by kernel_rfl) rfl ?_
  refine sW' (cPos ((mget k l).getD noPos)) rfl rfl sz69 ?_
  refine RunL.nilD' ?_
  refine dp' 11 hok6 rfl (Pure.assign rfl) ?_
  refine RunD.nilB (by kernel_rfl) (fun w sw => backg1 _ _ (backg2 _ _ (backg3 _ _ (sw)))) ?_
  refine sq' (sr' (mv' rfl (mv' rfl ?_)))
  refine RunL.split (d := 19) rfl (fun hhas => ?_) (fun hhas => ?_)
  · try simp only [Z] at hhas
    refine lA' (cPos ((mget k l).getD noPos)) rfl agg69 sz69 ?_
    refine lA' (cPos q) rfl agg69 sz69 ?_
    refine ca' rfl rfl (s := dagCompare_ctr (p := (mget k l).getD noPos) (q := q)) (q := ?_)
    rintro _ _ ⟨rfl, hA_⟩
    replace hA_ := hA_.symm; subst hA_
    refine py' (Pure.geq rfl rfl) (pp' (Pure.pickT rfl rfl) (nl' ?_))
    refine Run.cond rfl (fun hc => ?_) (fun hc => ?_)
    · try simp only [Z] at hc
      refine sr' (as' rfl (nl' ?_))
      have had : adopts l k q = false := by rw [adopts_eq, hhas]; simp <;> omega
      refine Run.mkTb (l) (by repeat (first | (with_reducible exact Take.nil _) | (apply Take.cons (by first | ((repeat (first | (with_reducible exact F0 _) | apply F1)); done) | (repeat (first | exact F0 _ | apply F1)))))) ?_
      exact rt' Tryz.func53 (res1 rfl rfl) (by exact ⟨by rw [had], by rw [tput, had]; (try rfl)⟩)
    · try simp only [Z] at hc
      refine sk' (sq' ?_)
      refine Run.regionD' (by kernel_rfl) (by kernel_rfl) (fun hok56 => ?_)
      refine ld' (row p 120 _) Lends.row ?_; intro g1 hleg1 hb1 backg1
      refine ld' (row b4 34 _) Lends.row ?_; intro g2 hleg2 hb2 backg2
      have hb1 := hb1.mono hleg2
      refine ld' (row b5 69 _) Lends.row ?_; intro g3 hleg3 hb3 backg3
      have hb1 := hb1.mono hleg3
      have hb2 := hb2.mono hleg3
      refine dp' 0 hok56 rfl (Pure.move rfl) (dp' 1 hok56 rfl (Pure.nilCheck rfl) (dp' 2 hok56 rfl (Pure.fieldAddr rfl fo120_0) (dl' 3 hok56 rfl rfl agg118 ?_)))
      refine RunD.loadNR (vs := (cK k)) (i := 4) hok56 rfl (by kernel_rfl) rfl (by assumption) agg34 sz34 (by first | exact Nat.le_of_ble_eq_true rfl | (simp; done) | (simp; omega)) rfl (Wt.none rfl) rfl ?_
      refine RunD.loadNR (vs := (cPos q)) (i := 5) hok56 rfl (by kernel_rfl) rfl (by assumption) agg69 sz69 (by first | exact Nat.le_of_ble_eq_true rfl | (simp; done) | (simp; omega)) rfl (Wt.none rfl) rfl ?_
      refine RunD.one (i := 6) (by kernel_rfl) rfl ?_
      refine RunL.mapUpdate (k := k) (v := q) (ev := eP) rfl rfl rfl (by first | ((repeat (first | (with_reducible exact F0 _) | apply F1)); done) | (repeat (first | exact F0 _ | apply F1))) und118 key34 (Wt.none rfl) ?_
      refine RunL.nilD' ?_
      refine RunD.nilB (by kernel_rfl) (fun w sw => backg1 _ _ (backg2 _ _ (backg3 _ _ (sw)))) ?_
      refine sr' (as' rfl (nl' ?_))
      have had : adopts l k q = true := by rw [adopts_eq, hhas]; simp <;> omega
      refine Run.mkTb (mput k q l) (by repeat (first | (with_reducible exact Take.nil _) | (apply Take.cons (by first | ((repeat (first | (with_reducible exact F0 _) | apply F1)); done) | (repeat (first | exact F0 _ | apply F1)))))) ?_
      exact rt' Tryz.func53 (res1 rfl rfl) (by exact ⟨by rw [had], by rw [tput, if_pos had]⟩)
  · try simp only [Z] at hhas
    refine no' (no' (no' (no' (pp' (Pure.pickF rfl rfl) (nl' (cF' (sk' (sq' ?_))))))))
    refine Run.regionD' (by kernel_rfl) (by kernel_rfl) (fun hok89 => ?_)
    refine ld' (row p 120 _) Lends.row ?_; intro g1 hleg1 hb1 backg1
    refine ld' (row b4 34 _) Lends.row ?_; intro g2 hleg2 hb2 backg2
    have hb1 := hb1.mono hleg2
    refine ld' (row b5 69 _) Lends.row ?_; intro g3 hleg3 hb3 backg3
    have hb1 := hb1.mono hleg3
    have hb2 := hb2.mono hleg3
    refine dp' 0 hok89 rfl (Pure.move rfl) (dp' 1 hok89 rfl (Pure.nilCheck rfl) (dp' 2 hok89 rfl (Pure.fieldAddr rfl fo120_0) (dl' 3 hok89 rfl rfl agg118 ?_)))
    refine RunD.loadNR (vs := (cK k)) (i := 4) hok89 rfl (by kernel_rfl) rfl (by assumption) agg34 sz34 (by first | exact Nat.le_of_ble_eq_true rfl | (simp; done) | (simp; omega)) rfl (Wt.none rfl) rfl ?_
    refine RunD.loadNR (vs := (cPos q)) (i := 5) hok89 rfl (by kernel_rfl) rfl (by assumption) agg69 sz69 (by first | exact Nat.le_of_ble_eq_true rfl | (simp; done) | (simp; omega)) rfl (Wt.none rfl) rfl ?_
    refine RunD.one (i := 6) (by kernel_rfl) rfl ?_
    refine RunL.mapUpdate (k := k) (v := q) (ev := eP) rfl rfl rfl (by first | ((repeat (first | (with_reducible exact F0 _) | apply F1)); done) | (repeat (first | exact F0 _ | apply F1))) und118 key34 (Wt.none rfl) ?_
    refine RunL.nilD' ?_
    refine RunD.nilB (by kernel_rfl) (fun w sw => backg1 _ _ (backg2 _ _ (backg3 _ _ (sw)))) ?_
    refine sr' (as' rfl (nl' ?_))
    have had : adopts l k q = true := by rw [adopts_eq, hhas]; (try rfl)
    refine Run.mkTb (mput k q l) (by repeat (first | (with_reducible exact Take.nil _) | (apply Take.cons (by first | ((repeat (first | (with_reducible exact F0 _) | apply F1)); done) | (repeat (first | exact F0 _ | apply F1)))))) ?_
    exact rt' Tryz.func53 (res1 rfl rfl) (by exact ⟨by rw [had], by rw [tput, if_pos had]⟩)

end Go.Proofs.YtaaondbmkibkkaaGreat
