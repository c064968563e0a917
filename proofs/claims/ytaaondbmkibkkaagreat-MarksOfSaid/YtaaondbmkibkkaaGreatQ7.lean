/- What a key is of. -/
import Derived.Test.YtaaondbmkibkkaaGreatQ6
set_option linter.unusedVariables false
set_option linter.unusedSimpArgs false
set_option linter.unusedSectionVars false
namespace Go.Proofs.YtaaondbmkibkkaaGreat
open Go Csl


set_option maxHeartbeats 1000000 in
set_option maxRecDepth 100000 in
theorem MarksOf_ctr {G : Gp} {e : Edu} (ho : okEdu e) :
    Ctr Tryz.prog G 3 [.agg (cEdu e).toArray] [] (fun F v A => v = .bool true ∧ A = F) := by
  refine Ctr.intro Tryz.func3 rfl (by kernel_rfl) rfl (fun F => ?_)
  simp only [List.nil_append]
  refine sr' ?_
  refine RunL.boxA (xs := (cEdu e)) rfl (Wt.none rfl) rfl ?_; intro b1
  refine as' rfl (nl' ?_)
  refine la' (row b1 23 _) Lends.row fun G1 hleG1 hrb1 => ?_
  refine sq' ?_
  refine Run.regionD' (by kernel_rfl) (by kernel_rfl) (fun hok6 => ?_)
  refine RunD.loadNR (vs := (cEdu e)) (i := 0) hok6 rfl (by kernel_rfl) rfl (by assumption) agg23 sz23 (by first | exact Nat.le_of_ble_eq_true rfl | (simp; done) | (simp; omega)) rfl (Wt.none rfl) rfl ?_
  refine RunD.loadNR (vs := (cEdu e)) (i := 2) hok6 rfl (by kernel_rfl) rfl (by assumption) agg23 sz23 (by first | exact Nat.le_of_ble_eq_true rfl | (simp; done) | (simp; omega)) rfl (Wt.none rfl) rfl ?_
  refine RunD.one (i := 1) (by kernel_rfl) rfl ?_
  refine ca' rfl rfl (s := Few3_ctr (e := e)) (q := ?_)
  rintro _ _ ⟨rfl, hA_⟩
  replace hA_ := hA_.symm; subst hA_
  refine RunL.nilD' ?_
  refine RunD.one (i := 3) (by kernel_rfl) rfl ?_
  refine ca' rfl rfl (s := Good3_ctr (e := e) ho) (q := ?_)
  rintro _ _ ⟨rfl, hA_⟩
  replace hA_ := hA_.symm; subst hA_
  refine RunL.nilD' ?_
  refine RunD.one (i := 4) (by kernel_rfl) rfl ?_
  refine RunL.lit (vals := [_, _]) (vs := ([fewE e, goodE e] : List Edu).flatMap cEdu) und25 sz23 zz23 rfl rfl rfl rfl rfl rfl (by simp [Value.cells, bv, cDD, cEdu, cEvn, cGG, cK, cM, cNde, cPP, cPos, cSS, cVV]) rfl (Wt.none rfl) rfl ?_; intro b18
  refine RunL.nilD' ?_
  refine dp' 5 hok6 rfl (Pure.assign rfl) ?_
  refine RunD.nilR (by kernel_rfl) ?_
  refine sr' ?_
  refine ca' rfl rfl (s := NewM1_ctr (z := 3) (by decide)) (q := ?_)
  rintro _ _ ⟨pm, rfl, hA_⟩
  replace hA_ := hA_.symm; subst hA_
  refine mv' rfl (pp' (Pure.extract rfl rfl) (pp' (Pure.extract rfl rfl) (as' rfl (as' rfl (nl' (sr' ?_))))))
  refine ca' rfl rfl (s := NewV_ctr) (q := ?_)
  rintro _ _ ⟨pv, rfl, hA_⟩
  replace hA_ := hA_.symm; subst hA_
  refine as' rfl (nl' (sq' (sr' (mv' rfl (pp' (Pure.ptrEqNil rfl rfl und26) (mv' rfl (py' (Pure.move rfl) (py' (Pure.ptrEqNil rfl rfl und30) (pp' (Pure.pickF rfl rfl) (mv' rfl (py' (Pure.move rfl) (py' (Pure.neq rfl rfl) (pp' (Pure.pickF rfl rfl) (nl' ?_))))))))))))))
  refine Run.cond rfl (fun hc1 => ?_) (fun hc1 => ?_)
  · try simp only [Z] at hc1
    exfalso
    first | exact hc1 rfl | exact hc1 trivial | (simp at hc1; done)
  try simp only [Z] at hc1
  refine sk' ?_
  refine la' (Sl 23 11 (some ⟨b18, 0, none⟩) 2 2 _) Lends.Sl fun Ght hleGht ht => ?_
  replace hrb1 := hrb1.mono hleGht
  obtain ⟨ht, htc⟩ := ht
  refine sq' (sr' (as' rfl (nl' (bl' ?_))))
  refine kp' [3, 4, 6, 7] ?_
  refine lp' F (fun n e_ A => ∃ (i : Nat) (s : MS), i ≤ 2 ∧ s.ok i ∧ n = 2 - i ∧ e_ = [(3, .slice (some ⟨b18, 0, none⟩) 2 2), (4, .pointer (some ⟨pm, 0, none⟩)), (6, .pointer (some ⟨pv, 0, none⟩)), (7, .int .i64 (i : Nat))] ∧ A = Vw pv [] :: Mk pm 3 s :: F) (2) (by exact ⟨0, _, by omega, MS.ok0 0, rfl, rfl, rfl⟩) ?_
  rintro n _ _ ⟨i, s, hi, hok, rfl, rfl, hA_⟩ ih
  replace hA_ := hA_.symm; subst hA_
  refine sq' (sr' (mv' rfl (pp' (Pure.lss rfl rfl) (nl' ?_))))
  refine Run.cond rfl (fun h1 => ?_) (fun h1 => ?_)
  · try simp only [Z] at h1
    obtain ⟨x, hx⟩ := get_some (xs := ([fewE e, goodE e] : List Edu)) (i := i) (by show i < 2; omega)
    obtain ⟨bb, Tb_, preb, postb, hpb, hro⟩ := ht.open1 (by decide)
    have hxs : eduSmall x := by
      rcases List.mem_cons.1 (List.mem_of_getElem? hx) with rfl | hq
      · exact few_small e
      · obtain rfl := List.mem_singleton.1 hq; exact goodE_small e
    have hk1 := hok.2.2.1
    have hk2 := hok.2.2.2.2.1
    have hk3 := hok.2.2.2.2.2
    refine sk' (sq' (bl' (sq' (sq' ?_))))
    refine Run.regionD' (by kernel_rfl) (by kernel_rfl) (fun hok92 => ?_)
    refine dp' 0 hok92 rfl (Pure.move rfl) (dp' 1 hok92 rfl (Pure.move rfl) ?_)
    refine dp' 2 hok92 rfl (Pure.indexAddr (opvSl rfl hpb) rfl und25 sz23 (by omega) (by omega)) ?_
    refine RunD.loadNR (vs := (cEdu x)) (i := 3) hok92 rfl (by kernel_rfl) rfl hro agg23 sz23 (elemN_len (pre := preb) (post := postb) (f := cEdu) (sz := 11) (j := 0) (n := 11) (fun _ _ => rfl) hx (by decide)) ((elemN_at (pre := preb) (post := postb) (f := cEdu) (sz := 11) (j := 0) (n := 11) (fun _ _ => rfl) hx (by decide)).trans rfl) (Wt.none rfl) rfl ?_
    refine dp' 5 hok92 rfl (Pure.move rfl) (dp' 6 hok92 rfl (Pure.move rfl) ?_)
    refine dp' 7 hok92 rfl (Pure.indexAddr (opvSl rfl hpb) rfl und25 sz23 (by omega) (by omega)) ?_
    refine RunD.loadNR (vs := (cEdu x)) (i := 8) hok92 rfl (by kernel_rfl) rfl hro agg23 sz23 (elemN_len (pre := preb) (post := postb) (f := cEdu) (sz := 11) (j := 0) (n := 11) (fun _ _ => rfl) hx (by decide)) ((elemN_at (pre := preb) (post := postb) (f := cEdu) (sz := 11) (j := 0) (n := 11) (fun _ _ => rfl) hx (by decide)).trans rfl) (Wt.none rfl) rfl ?_
    refine RunD.one (i := 4) (by kernel_rfl) rfl ?_
    refine ca' rfl rfl (s := OfM_ctr (e := x)) (q := ?_)
    rintro _ _ ⟨rfl, hA_⟩
    replace hA_ := hA_.symm; subst hA_
    refine RunL.nilD' ?_
    refine RunD.one (i := 9) (by kernel_rfl) rfl ?_
    refine ca' rfl rfl (s := rOfM_ctr (e := x)) (q := ?_)
    rintro _ _ ⟨rfl, hA_⟩
    replace hA_ := hA_.symm; subst hA_
    refine RunL.nilD' ?_
    refine dp' 10 hok92 rfl (Pure.aneq rfl rfl eqg33 (eqv33 _ _) (by decide)) ?_
    refine RunD.nilR (by kernel_rfl) ?_
    refine Run.cond rfl (fun hc2 => ?_) (fun hc2 => ?_)
    · try simp only [Z] at hc2
      exfalso
      first | exact hc2 rfl | exact hc2 trivial | (simp at hc2; done)
    try simp only [Z] at hc2
    refine sk' (sr' (mv' rfl ?_))
    refine ca' rfl rfl (s := WaitsM_ctr (by omega)) (q := ?_)
    rintro _ _ ⟨a6, c6, rfl, hA_⟩
    replace hA_ := hA_.symm; subst hA_
    refine pp' (Pure.lenSl rfl rfl und25) (as' rfl (nl' (sr' (mv' rfl (mv' rfl ?_)))))
    refine pp' (Pure.indexAddr (opvSl rfl hpb) rfl und25 sz23 (by omega) (by omega)) ?_
    refine RunL.loadNR (vs := (cEdu x)) rfl hro agg23 sz23 (elemN_len (pre := preb) (post := postb) (f := cEdu) (sz := 11) (j := 0) (n := 11) (fun _ _ => rfl) hx (by decide)) ((elemN_at (pre := preb) (post := postb) (f := cEdu) (sz := 11) (j := 0) (n := 11) (fun _ _ => rfl) hx (by decide)).trans rfl) (Wt.none rfl) rfl ?_
    refine ca' rfl rfl (s := rLocal3_ctr (e := x) hxs) (q := ?_)
    rintro _ _ ⟨rfl, hA_⟩
    replace hA_ := hA_.symm; subst hA_
    refine as' rfl (nl' (sr' (mv' rfl (mv' rfl (mv' rfl (mv' rfl ?_))))))
    refine pp' (Pure.indexAddr (opvSl rfl hpb) rfl und25 sz23 (by omega) (by omega)) ?_
    refine RunL.loadNR (vs := (cEdu x)) rfl hro agg23 sz23 (elemN_len (pre := preb) (post := postb) (f := cEdu) (sz := 11) (j := 0) (n := 11) (fun _ _ => rfl) hx (by decide)) ((elemN_at (pre := preb) (post := postb) (f := cEdu) (sz := 11) (j := 0) (n := 11) (fun _ _ => rfl) hx (by decide)).trans rfl) (Wt.none rfl) rfl ?_
    refine ca' rfl rfl (s := Ctr.lend Lends.Vw cb16 (fun G' hle hr => PutM_ctr (e := x) hr hxs (by omega) ⟨by omega, by omega⟩)) (q := ?_)
    rintro _ _ ⟨_, rfl, rfl, hA_⟩
    replace hA_ := hA_.symm; subst hA_
    by_cases hk : x.kind = 1 ∧ eduLocal x = true
    · skip
      have he := mPut_park (most := 3) (vg := vget []) (s := s) hk (fits_none rfl)
      have hok' := mPut_ok (most := 3) (vg := vget []) hok hxs
      have he1 := congrArg (fun q => q.1) he
      have he2 := congrArg (fun q => q.2.1) he
      have he3 := congrArg (fun q => q.2.2) he
      dsimp only at he1 he2 he3
      rw [he1] at hok'
      rw [he1, he2, he3, hk.2]
      refine mv' rfl (pp' (Pure.extract rfl rfl) (pp' (Pure.extract rfl rfl) (as' rfl (as' rfl (nl' (sr' (mv' rfl (pp' (Pure.eql rfl rfl) (mv' rfl (mv' rfl ?_))))))))))
      refine RunL.split (d := 70) rfl (fun hg3 => ?_) (fun hg3 => ?_)
      rotate_left
      · try simp only [Z] at hg3
        exfalso
        first | exact hg3 rfl | exact hg3 trivial | (simp at hg3; done)
      try simp only [Z] at hg3
      refine py' (Pure.move rfl) (py' (Pure.move rfl) ?_)
      refine py' (Pure.indexAddr (opvSl rfl hpb) rfl und25 sz23 (by omega) (by omega)) ?_
      refine py' (Pure.fieldAddr rfl fo23_0) ?_
      refine RunL.load1R rfl hro ((elem_at (pre := preb) (post := postb) (f := cEdu) (sz := 11) (j := 0) (fun _ _ => rfl) hx (by decide)).trans rfl) agg3 (Wt.yes rfl rfl rfl) rfl ?_
      refine py' (Pure.eql rfl rfl) (pp' (Pure.pickT rfl rfl) (pp' (Pure.bneq rfl rfl und4) (mv' rfl ?_)))
      refine RunL.split (d := 79) rfl (fun hg4 => ?_) (fun hg4 => ?_)
      · try simp only [Z] at hg4
        exfalso
        simp [hk.1] at hg4
      try simp only [Z] at hg4
      refine py' (Pure.move rfl) (py' (Pure.neq rfl rfl) (py' (Pure.move rfl) ?_))
      refine RunL.split (d := 82) rfl (fun hg5 => ?_) (fun hg5 => ?_)
      · try simp only [Z] at hg5
        exfalso
        first | exact hg5 rfl | exact hg5 trivial | (simp at hg5; done)
      try simp only [Z] at hg5
      refine no' (no' (no' (un' (un' (un' (un' (un' (no' (py' (Pure.pickF rfl rfl) (pp' (Pure.pickF rfl rfl) (nl' (cF' (sk' (ib' (rg' (mv' rfl ?_))))))))))))))))
      first | refine RunL.pure (Pure.addI rfl rfl (by omega)) (Wt.none rfl) rfl rfl ?_ | refine RunL.pure (Pure.add rfl rfl) (Wt.none rfl) rfl rfl ?_
      refine as' rfl (nl' ?_)
      refine kp' [3, 4, 6, 7] ?_
      exact ag' F ih (by exact ⟨i + 1, _, by omega, hok', rfl, rfl, rfl⟩)
    · skip
      have he := mPut_arg (most := 3) (vg := vget []) (s := s) hk
      have hok' := hok.mono (Nat.le_succ i)
      have he1 := congrArg (fun q => q.1) he
      have he2 := congrArg (fun q => q.2.1) he
      have he3 := congrArg (fun q => q.2.2) he
      dsimp only at he1 he2 he3
      rw [he1, he2, he3]
      refine mv' rfl (pp' (Pure.extract rfl rfl) (pp' (Pure.extract rfl rfl) (as' rfl (as' rfl (nl' (sr' (mv' rfl (pp' (Pure.eql rfl rfl) (mv' rfl (mv' rfl ?_))))))))))
      refine RunL.split (d := 70) rfl (fun tl => ?_) (fun tl => ?_)
      · try simp only [Z] at tl
        refine py' (Pure.move rfl) (py' (Pure.move rfl) ?_)
        refine py' (Pure.indexAddr (opvSl rfl hpb) rfl und25 sz23 (by omega) (by omega)) ?_
        refine py' (Pure.fieldAddr rfl fo23_0) ?_
        refine RunL.load1R rfl hro ((elem_at (pre := preb) (post := postb) (f := cEdu) (sz := 11) (j := 0) (fun _ _ => rfl) hx (by decide)).trans rfl) agg3 (Wt.yes rfl rfl rfl) rfl ?_
        refine py' (Pure.eql rfl rfl) (pp' (Pure.pickT rfl rfl) (pp' (Pure.bneq rfl rfl und4) (mv' rfl ?_)))
        refine RunL.split (d := 79) rfl (fun hg6 => ?_) (fun hg6 => ?_)
        · try simp only [Z] at hg6
          exfalso
          (have hk1 : ¬ x.kind = 1 := fun q => hk ⟨q, tl⟩); simp [hk1] at hg6
        try simp only [Z] at hg6
        refine py' (Pure.move rfl) (py' (Pure.neq rfl rfl) (py' (Pure.move rfl) ?_))
        refine RunL.split (d := 82) rfl (fun hg7 => ?_) (fun hg7 => ?_)
        rotate_left
        · try simp only [Z] at hg7
          exfalso
          first | exact hg7 rfl | exact hg7 trivial | (simp at hg7; done)
        try simp only [Z] at hg7
        refine py' (Pure.move rfl) (py' (Pure.neq rfl rfl) (py' (Pure.move rfl) ?_))
        refine RunL.split (d := 85) rfl (fun hg8 => ?_) (fun hg8 => ?_)
        · try simp only [Z] at hg8
          exfalso
          first | exact hg8 rfl | exact hg8 trivial | (simp at hg8; done)
        try simp only [Z] at hg8
        refine py' (Pure.move rfl) ?_
        refine ca' rfl rfl (s := WaitsM_ctr (by have := hok.2.2.1; omega)) (q := ?_)
        rintro _ _ ⟨a8, c8, rfl, hA_⟩
        replace hA_ := hA_.symm; subst hA_
        refine py' (Pure.lenSl rfl rfl und25) (py' (Pure.move rfl) (py' (Pure.neq rfl rfl) (py' (Pure.pickF rfl rfl) (py' (Pure.pickT rfl rfl) (pp' (Pure.pickF rfl rfl) (nl' ?_))))))
        refine Run.cond rfl (fun hc9 => ?_) (fun hc9 => ?_)
        · try simp only [Z] at hc9
          exfalso
          simp at hc9
        try simp only [Z] at hc9
        refine sk' (ib' (rg' (mv' rfl ?_)))
        first | refine RunL.pure (Pure.addI rfl rfl (by omega)) (Wt.none rfl) rfl rfl ?_ | refine RunL.pure (Pure.add rfl rfl) (Wt.none rfl) rfl rfl ?_
        refine as' rfl (nl' ?_)
        refine kp' [3, 4, 6, 7] ?_
        exact ag' F ih (by exact ⟨i + 1, _, by omega, hok', rfl, rfl, rfl⟩)
      · try simp only [Z] at tl
        refine no' (no' (no' (no' (no' (no' (pp' (Pure.pickF rfl rfl) (pp' (Pure.bneq rfl rfl und4) (mv' rfl ?_))))))))
        refine RunL.split (d := 79) rfl (fun hg10 => ?_) (fun hg10 => ?_)
        · try simp only [Z] at hg10
          exfalso
          first | exact hg10 rfl | exact hg10 trivial | (simp at hg10; done)
        try simp only [Z] at hg10
        refine py' (Pure.move rfl) (py' (Pure.neq rfl rfl) (py' (Pure.move rfl) ?_))
        refine RunL.split (d := 82) rfl (fun hg11 => ?_) (fun hg11 => ?_)
        rotate_left
        · try simp only [Z] at hg11
          exfalso
          first | exact hg11 rfl | exact hg11 trivial | (simp at hg11; done)
        try simp only [Z] at hg11
        refine py' (Pure.move rfl) (py' (Pure.neq rfl rfl) (py' (Pure.move rfl) ?_))
        refine RunL.split (d := 85) rfl (fun hg12 => ?_) (fun hg12 => ?_)
        · try simp only [Z] at hg12
          exfalso
          first | exact hg12 rfl | exact hg12 trivial | (simp at hg12; done)
        try simp only [Z] at hg12
        refine py' (Pure.move rfl) ?_
        refine ca' rfl rfl (s := WaitsM_ctr (by have := hok.2.2.1; omega)) (q := ?_)
        rintro _ _ ⟨a8, c8, rfl, hA_⟩
        replace hA_ := hA_.symm; subst hA_
        refine py' (Pure.lenSl rfl rfl und25) (py' (Pure.move rfl) (py' (Pure.neq rfl rfl) (py' (Pure.pickF rfl rfl) (py' (Pure.pickT rfl rfl) (pp' (Pure.pickF rfl rfl) (nl' ?_))))))
        refine Run.cond rfl (fun hc13 => ?_) (fun hc13 => ?_)
        · try simp only [Z] at hc13
          exfalso
          simp at hc13
        try simp only [Z] at hc13
        refine sk' (ib' (rg' (mv' rfl ?_)))
        first | refine RunL.pure (Pure.addI rfl rfl (by omega)) (Wt.none rfl) rfl rfl ?_ | refine RunL.pure (Pure.add rfl rfl) (Wt.none rfl) rfl rfl ?_
        refine as' rfl (nl' ?_)
        refine kp' [3, 4, 6, 7] ?_
        exact ag' F ih (by exact ⟨i + 1, _, by omega, hok', rfl, rfl, rfl⟩)
  · try simp only [Z] at h1
    refine ex' rfl (sr' ?_)
    refine ca' rfl rfl (s := NewM_ctr (z := 0)) (q := ?_)
    rintro _ _ hN
    rcases hN with ⟨hz, rfl, hA_⟩ | ⟨hz, _⟩
    · skip
      replace hA_ := hA_.symm; subst hA_
      refine mv' rfl (pp' (Pure.extract rfl rfl) (pp' (Pure.extract rfl rfl) (as' rfl (as' rfl (nl' (sr' (mv' rfl (pp' (Pure.eql rfl rfl) (mv' rfl ?_)))))))))
      refine RunL.split (d := 100) rfl (fun hg14 => ?_) (fun hg14 => ?_)
      rotate_left
      · try simp only [Z] at hg14
        exfalso
        first | exact hg14 rfl | exact hg14 trivial | (simp at hg14; done)
      try simp only [Z] at hg14
      refine ca' rfl rfl (s := lives_ctr) (q := ?_)
      rintro _ _ ⟨rfl, hA_⟩
      replace hA_ := hA_.symm; subst hA_
      refine pp' (Pure.pickT rfl rfl) (as' rfl (nl' ?_))
      exact rt' Tryz.func3 (res1 rfl rfl) (by exact ⟨rfl, rfl⟩)
    · skip
      exfalso; omega

end Go.Proofs.YtaaondbmkibkkaaGreat
