/- A mark put into a list. -/
import Derived.Test.YtaaondbmkibkkaaGreatK3
set_option linter.unusedVariables false
set_option linter.unusedSimpArgs false
set_option linter.unusedSectionVars false
namespace Go.Proofs.YtaaondbmkibkkaaGreat
open Go Csl


theorem rGetO_ctr {G : Gp} {a : Option Addr} {tl : List (K × Pos)} {cap : Nat} {k : K} (hb : tl.length ≤ 1000000) : Ctr Tryz.prog G 104 [.slice a (ML tl).length cap, .agg (cK k).toArray] [Sl 117 6 a (ML tl).length cap ((ML tl).flatMap cM)] (fun F v A => ∃ z, v = .int .i64 z ∧ GetIs (ML tl) k z ∧ A = Sl 117 6 a (ML tl).length cap ((ML tl).flatMap cM) :: F) :=
  (Ctr.lend (Q := Sl 117 6 a (ML tl).length cap ((ML tl).flatMap cM)) (R := fun G => SlR G 117 6 a (ML tl).length ((ML tl).flatMap cM) ∧ (ML tl).length ≤ cap) Lends.Sl cb104 (fun G' hle hr => rGet_ctr hr.1 (by rw [ML_len]; exact hb))).mono (by rintro F v A ⟨A', rfl, h⟩; obtain ⟨z, rfl, hz, rfl⟩ := h; exact ⟨z, rfl, hz, rfl⟩)
set_option maxHeartbeats 2000000 in
set_option maxRecDepth 100000 in
theorem rPut_ctr {G : Gp} {a : Option Addr} {tl : List (K × Pos)} {cap : Nat} {k : K} {q : Pos} (hn : KN tl) (hb : tl.length ≤ 1000) :
    Ctr Tryz.prog G 64 [.slice a (ML tl).length cap, .agg (cK k).toArray, .agg (cPos q).toArray] [Sl 117 6 a (ML tl).length cap ((ML tl).flatMap cM)] (fun F v A => ∃ a' cap', v = .tuple #[.slice a' (ML (tput tl k q)).length cap', .bool (adopts tl k q)] ∧ A = Sl 117 6 a' (ML (tput tl k q)).length cap' ((ML (tput tl k q)).flatMap cM) :: F) := by
  refine Ctr.intro Tryz.func64 rfl (by kernel_rfl) rfl (fun F => ?_)
  simp only [List.cons_append, List.nil_append]
  have hlen := ML_len tl
  refine sr' ?_
  refine RunL.boxA (xs := (cK k)) rfl (Wt.none rfl) rfl ?_; intro b4
  refine RunL.boxA (xs := (cPos q)) rfl (Wt.none rfl) rfl ?_; intro b5
  refine as' rfl (as' rfl (nl' ?_))
  refine la' (row b4 33 _) Lends.row fun G4 hleG4 hrb4 => ?_
  refine la' (row b5 69 _) Lends.row fun G5 hleG5 hrb5 => ?_
  replace hrb4 := hrb4.mono hleG5
  refine sr' (mv' rfl (lA' (cK k) rfl agg33 sz33 ?_))
  refine ca' rfl rfl (s := rGetO_ctr (by omega)) (q := ?_)
  rintro _ _ ⟨z, rfl, hz, hA_⟩
  replace hA_ := hA_.symm; subst hA_
  refine as' rfl (nl' (sr' (as' rfl (nl' (sq' (sr' (mv' rfl (pp' (Pure.geq rfl rfl) (nl' ?_)))))))))
  refine Run.cond rfl (fun h1 => ?_) (fun h1 => ?_)
  · try simp only [Z] at h1
    obtain ⟨i, m, rfl, hm, rfl⟩ : ∃ (i : Nat) (m : M), z = (i : Nat) ∧ (ML tl)[i]? = some m ∧ m.k = k := by
      rcases hz with ⟨h0, _⟩ | h0
      · omega
      · exact h0
    have hil := (List.getElem?_eq_some_iff.1 hm).1
    have hmg := ML_mget hn hm
    refine sq' ?_
    refine Run.regionD' (by kernel_rfl) (by kernel_rfl) (fun hok34 => ?_)
    refine ld' (Sl 117 6 a (ML tl).length cap ((ML tl).flatMap cM)) Lends.Sl ?_; intro g1 hleg1 hg1 backg1
    have hrb4_g1 := hrb4.mono hleg1
    have hrb5_g1 := hrb5.mono hleg1
    obtain ⟨b, T', pre, post, rfl, hro⟩ := hg1.1.open1 (show 0 < (ML tl).length by omega)
    refine dp' 0 hok34 rfl (Pure.move rfl) (dp' 1 hok34 rfl (Pure.move rfl) ?_)
    refine dp' 2 hok34 rfl (Pure.indexAddr rfl rfl und61 sz117 (by omega) (by omega)) ?_
    refine dp' 3 hok34 rfl (Pure.fieldAddr rfl fo117_1) ?_
    refine RunD.loadNR (vs := (cPos m.pos)) (i := 4) hok34 rfl (by kernel_rfl) rfl hro agg69 sz69 (elemN_len (f := cM) (sz := 6) (j := 4) (n := 2) (fun _ _ => rfl) hm (by decide)) ((elemN_at (f := cM) (sz := 6) (j := 4) (n := 2) (fun _ _ => rfl) hm (by decide)).trans rfl) (Wt.none rfl) rfl ?_
    refine RunD.loadNR (vs := (cPos q)) (i := 5) hok34 rfl (by kernel_rfl) rfl (by assumption) agg69 sz69 (by first | exact Nat.le_of_ble_eq_true rfl | (simp; done) | (simp; omega)) rfl (Wt.none rfl) rfl ?_
    refine RunD.one (i := 6) (by kernel_rfl) rfl ?_
    refine ca' rfl rfl (s := beforePos_ctr (p := m.pos) (q := q)) (q := ?_)
    rintro _ _ ⟨rfl, hA_⟩
    replace hA_ := hA_.symm; subst hA_
    refine RunL.nilD' ?_
    refine dp' 7 hok34 rfl (Pure.assign rfl) ?_
    refine RunD.nilB (by kernel_rfl) (fun w sw => backg1 _ _ (sw)) ?_
    refine sq' (sr' (mv' rfl (pp' (Pure.not rfl) (nl' ?_))))
    refine Run.cond rfl (fun h2 => ?_) (fun h2 => ?_)
    · try simp only [Z] at h2
      refine sr' (mv' rfl (as' rfl (as' rfl (nl' ?_))))
      have hnb : adopts tl m.k q = false := by rw [adopts_eq, hmg]; simp; have := beforePos_cmp (a := m.pos) (b := q); simp_all
      have tput_no : tput tl m.k q = tl := by rw [tput, hnb]; rfl
      exact rt' Tryz.func64 (res2 rfl rfl rfl) (by exact ⟨_, _, by rw [tput_no, hnb], by rw [tput_no]⟩)
    · try simp only [Z] at h2
      have had : adopts tl m.k q = true := by rw [adopts_eq, hmg]; simp; have := beforePos_cmp (a := m.pos) (b := q); simp_all
      have hset := ML_set (q := q) hn hm
      refine sk' (sr' (mv' rfl (mv' rfl ?_)))
      refine RunL.append0 (m := (ML tl).length) rfl rfl rfl rfl und61 und61 rfl sz117 zz117 rfl by117 (by omega) (by omega) (fun w sw => sw.src) (Wt.none rfl) rfl ?_; intro a1 c1
      refine RunL.openSl (a := a1) (n := (ML tl).length) (by first | ((repeat (first | (with_reducible exact F0 _) | apply F1)); done) | (repeat (first | exact F0 _ | apply F1))) (by omega) ?_; rintro b2 pre2 post2 rfl hsl1 hsl2 hsl3
      refine as' rfl (nl' (sr' (mv' rfl (mv' rfl (lA' (cPos q) rfl agg69 sz69 ?_)))))
      refine pp' (Pure.indexAddr rfl rfl und61 sz117 (by omega) (by omega)) ?_
      refine pp' (Pure.fieldAddr rfl fo117_1) ?_
      refine RunL.storeA (xs := (cPos q)) rfl rfl (by first | ((repeat (first | (with_reducible exact F0 _) | apply F1)); done) | (repeat (first | exact F0 _ | apply F1))) sz69 (by rfl) (by rfl) (elemN_len (f := cM) (sz := 6) (j := 4) (n := 2) (fun _ _ => rfl) hm (by decide)) (setRange_el (f := cM) (sz := 6) (j := 4) (y := ⟨m.k, q⟩) (fun _ _ => rfl) hm (Nat.le_of_ble_eq_true rfl) rfl) (Wt.none rfl) ?_
      refine RunL.mkSl (b := b2) (pre := pre2) (post := post2) (sz := 6) (cs := ((ML tl).set i ⟨m.k, q⟩).flatMap cM) (n := ((ML tl).set i ⟨m.k, q⟩).length) (by first | ((repeat (first | (with_reducible exact F0 _) | apply F1)); done) | (repeat (first | exact F0 _ | apply F1))) (flatMap_length (fun _ _ => rfl)) (by simpa using hsl2) (by simpa using hsl3) ?_
      refine nl' (sr' (mv' rfl (as' rfl (as' rfl (nl' ?_)))))
      rw [hset]
      exact rt' Tryz.func64 (res2 rfl rfl rfl) (by exact ⟨_, _, by rw [had, tput, had, if_pos rfl, ← hset, List.length_set], by rw [tput, had, if_pos rfl]⟩)
  · try simp only [Z] at h1
    have hmg : mget k tl = none := by
      rcases hz with ⟨_, h0⟩ | ⟨i, m, h0, _⟩
      · exact ML_none h0
      · omega
    refine sk' (sr' (as' rfl (nl' (sq' (bl' ?_)))))
    refine kp' [0, 4, 5, 9, 11] ?_
    refine lp' F (fun n e A => ∃ (j : Nat), j ≤ (ML tl).length ∧ (∀ i m, i < j → (ML tl)[i]? = some m → beforeK m.k k = true) ∧ n = (ML tl).length - j ∧ e = [(0, .slice a (ML tl).length cap), (4, .pointer (some ⟨b4, 0, none⟩)), (5, .pointer (some ⟨b5, 0, none⟩)), (9, .slice none 0 0), (11, .int .i64 (j : Nat))] ∧ A = Sl 117 6 a (ML tl).length cap ((ML tl).flatMap cM) :: F) ((ML tl).length) (by exact ⟨0, by omega, fun j m hj => by omega, rfl, rfl, rfl⟩) ?_
    rintro n _ _ ⟨j, hj, hpre, rfl, rfl, hA_⟩ ih
    replace hA_ := hA_.symm; subst hA_
    refine sq' (sq' ?_)
    refine Run.regionD' (by kernel_rfl) (by kernel_rfl) (fun hok111 => ?_)
    refine ld' (Sl 117 6 a (ML tl).length cap ((ML tl).flatMap cM)) Lends.Sl ?_; intro g1 hleg1 hg1 backg1
    have hrb4_g1 := hrb4.mono hleg1
    have hrb5_g1 := hrb5.mono hleg1
    refine dp' 0 hok111 rfl (Pure.move rfl) (dp' 1 hok111 rfl (Pure.move rfl) (dp' 2 hok111 rfl (Pure.lenSl rfl rfl und61) (dp' 3 hok111 rfl (Pure.lss rfl rfl) (dp' 4 hok111 rfl (Pure.move rfl) ?_))))
    refine RunD.split (d := 40) rfl (fun h3 => ?_) (fun h3 => ?_)
    · try simp only [Z] at h3
      obtain ⟨m, hm⟩ := get_some (xs := ML tl) (i := j) (by omega)
      obtain ⟨b, T', pre, post, rfl, hro⟩ := hg1.1.open1 (show 0 < (ML tl).length by omega)
      refine dp' 5 hok111 rfl (Pure.move rfl) (dp' 6 hok111 rfl (Pure.move rfl) ?_)
      refine dp' 7 hok111 rfl (Pure.indexAddr rfl rfl und61 sz117 (by omega) (by omega)) ?_
      refine dp' 8 hok111 rfl (Pure.fieldAddr rfl fo117_0) ?_
      refine RunD.loadNR (vs := (cK m.k)) (i := 9) hok111 rfl (by kernel_rfl) rfl hro agg33 sz33 (elemN_len (f := cM) (sz := 6) (j := 0) (n := 4) (fun _ _ => rfl) hm (by decide)) ((elemN_at (f := cM) (sz := 6) (j := 0) (n := 4) (fun _ _ => rfl) hm (by decide)).trans rfl) (Wt.yes rfl rfl rfl) rfl ?_
      refine RunD.loadNR (vs := (cK k)) (i := 10) hok111 rfl (by kernel_rfl) rfl (by assumption) agg33 sz33 (by first | exact Nat.le_of_ble_eq_true rfl | (simp; done) | (simp; omega)) rfl (Wt.yes rfl rfl rfl) rfl ?_
      refine RunD.one (i := 11) (by kernel_rfl) rfl ?_
      refine ca' rfl rfl (s := beforeK_ctr (p := m.k) (q := k)) (q := ?_)
      rintro _ _ ⟨rfl, hA_⟩
      replace hA_ := hA_.symm; subst hA_
      refine RunL.nilD' ?_
      refine dp' 12 hok111 rfl (Pure.pickT rfl rfl) ?_
      refine RunD.nilB (by kernel_rfl) (fun w sw => backg1 _ _ (sw)) ?_
      refine Run.cond rfl (fun h4 => ?_) (fun h4 => ?_)
      · try simp only [Z] at h4
        refine sk' (bl' (rg' (mv' rfl ?_)))
        first | refine RunL.pure (Pure.addI rfl rfl (by omega)) (Wt.none rfl) rfl rfl ?_ | refine RunL.pure (Pure.add rfl rfl) (Wt.none rfl) rfl rfl ?_
        refine as' rfl (nl' (ib' ?_))
        refine kp' [0, 4, 5, 9, 11] ?_
        exact ag' F ih (by exact ⟨j + 1, by omega, lt_succ_of hpre hm h4, rfl, rfl, rfl⟩)
      · try simp only [Z] at h4
        have hstop : ∀ m, (ML tl)[j]? = some m → beforeK m.k k = false := by
          intro m' hm'
          rw [hm] at hm'; cases hm'; exact h4
        have hins := ML_ins (q := q) hn hmg hpre hstop
        have had : adopts tl k q = true := by rw [adopts_eq, hmg]; rfl
        refine ex' rfl (sr' (mv' rfl (mv' rfl (mv' rfl ?_))))
        refine pp' (Pure.sliceTo rfl rfl und61 sz117 (by first | omega | (simp; done) | (simp; omega)) (by first | omega | (simp; done) | (simp; omega))) ?_
        refine RunL.append0 (m := j) rfl rfl rfl rfl und61 und61 rfl sz117 zz117 rfl by117 (by omega) (by omega) (fun w sw => (sw.find (p := Sl 117 6 _ (ML tl).length cap _) (by first | ((repeat (first | (with_reducible exact F0 _) | apply F1)); done) | (repeat (first | exact F0 _ | apply F1)))).srcTakeF j (fun _ _ => rfl) (by omega)) (Wt.none rfl) rfl ?_; intro a1 c1
        refine as' rfl (nl' (sr' (mv' rfl (lA' (cK k) rfl agg33 sz33 ?_))))
        refine lA' (cPos q) rfl agg69 sz69 ?_
        refine pp' (Pure.buildL (ps := [(0, _), (1, _)]) (zs := [(.string .empty), (.string .empty), (.string .empty), (.bool false), (.int .i64 0), (.string .empty)]) (xs := (cM ((⟨k, q⟩ : M)))) pl117 rfl rfl rfl rfl) ?_
        refine RunL.lit (vals := [_]) (vs := ([⟨k, q⟩] : List M).flatMap cM) und61 sz117 zz117 rfl rfl rfl rfl rfl rfl (by simp [Value.cells, bv, cDD, cEdu, cEvn, cGG, cK, cM, cNde, cPP, cPos, cSS, cVV]) rfl (Wt.none rfl) rfl ?_; intro b60
        refine RunL.append (m := 1) (n' := ((ML tl).take j ++ [(⟨k, q⟩ : M)]).length) (cs' := ((ML tl).take j ++ [(⟨k, q⟩ : M)]).flatMap cM) rfl rfl (by first | ((repeat (first | (with_reducible exact F0 _) | apply F1)); done) | (repeat (first | exact F0 _ | apply F1))) rfl rfl und61 und61 rfl sz117 zz117 rfl by117 (by omega) (by omega) (fun w sw => sw.src) (isOne_flat (f := cM) (fun _ => rfl)) (by simp; omega) (by rw [flatMap_app]) (Wt.none rfl) rfl ?_; intro a2 c2
        refine as' rfl (nl' (sr' (mv' rfl (mv' rfl (mv' rfl ?_)))))
        refine pp' (Pure.sliceFrom rfl rfl und61 sz117 (by first | omega | (simp; done) | (simp; omega)) (by first | omega | (simp; done) | (simp; omega))) ?_
        refine RunL.append (m := ((ML tl).length - j)) (n' := ((ML tl).take j ++ (⟨k, q⟩ : M) :: (ML tl).drop j).length) (cs' := ((ML tl).take j ++ (⟨k, q⟩ : M) :: (ML tl).drop j).flatMap cM) rfl rfl (by first | ((repeat (first | (with_reducible exact F0 _) | apply F1)); done) | (repeat (first | exact F0 _ | apply F1))) rfl rfl und61 und61 rfl sz117 zz117 rfl by117 (by simp; omega) (by simp; omega) (fun w sw => (sw.find (p := Sl 117 6 _ (ML tl).length cap _) (by first | ((repeat (first | (with_reducible exact F0 _) | apply F1)); done) | (repeat (first | exact F0 _ | apply F1)))).srcFromF j (fun _ _ => rfl) (by omega)) (isOne_flat (f := cM) (fun _ => rfl)) (by simp; omega) (by rw [← flatMap_app, List.append_assoc]; rfl) (Wt.none rfl) rfl ?_; intro a3 c3
        refine as' rfl (as' rfl (nl' ?_))
        rw [hins]
        exact rt' Tryz.func64 (res2 rfl rfl rfl) (by exact ⟨_, _, by rw [had, tput, had, if_pos rfl], by rw [tput, had, if_pos rfl]⟩)
    · try simp only [Z] at h3
      have hstop : ∀ m, (ML tl)[j]? = some m → beforeK m.k k = false := by
        intro m' hm'
        have := (List.getElem?_eq_some_iff.1 hm').1; omega
      have hins := ML_ins (q := q) hn hmg hpre hstop
      have had : adopts tl k q = true := by rw [adopts_eq, hmg]; rfl
      refine dn' 5 hok111 rfl (dn' 6 hok111 rfl (dn' 7 hok111 rfl (dn' 8 hok111 rfl (dn' 9 hok111 rfl (dn' 10 hok111 rfl (dn' 11 hok111 rfl (dp' 12 hok111 rfl (Pure.pickF rfl rfl) ?_)))))))
      refine RunD.nilB (by kernel_rfl) (fun w sw => backg1 _ _ (sw)) ?_
      refine cF' (ex' rfl (sr' (mv' rfl (mv' rfl (mv' rfl ?_)))))
      refine pp' (Pure.sliceTo rfl rfl und61 sz117 (by first | omega | (simp; done) | (simp; omega)) (by first | omega | (simp; done) | (simp; omega))) ?_
      refine RunL.append0 (m := j) rfl rfl rfl rfl und61 und61 rfl sz117 zz117 rfl by117 (by omega) (by omega) (fun w sw => (sw.find (p := Sl 117 6 _ (ML tl).length cap _) (by first | ((repeat (first | (with_reducible exact F0 _) | apply F1)); done) | (repeat (first | exact F0 _ | apply F1)))).srcTakeF j (fun _ _ => rfl) (by omega)) (Wt.none rfl) rfl ?_; intro a1 c1
      refine as' rfl (nl' (sr' (mv' rfl (lA' (cK k) rfl agg33 sz33 ?_))))
      refine lA' (cPos q) rfl agg69 sz69 ?_
      refine pp' (Pure.buildL (ps := [(0, _), (1, _)]) (zs := [(.string .empty), (.string .empty), (.string .empty), (.bool false), (.int .i64 0), (.string .empty)]) (xs := (cM ((⟨k, q⟩ : M)))) pl117 rfl rfl rfl rfl) ?_
      refine RunL.lit (vals := [_]) (vs := ([⟨k, q⟩] : List M).flatMap cM) und61 sz117 zz117 rfl rfl rfl rfl rfl rfl (by simp [Value.cells, bv, cDD, cEdu, cEvn, cGG, cK, cM, cNde, cPP, cPos, cSS, cVV]) rfl (Wt.none rfl) rfl ?_; intro b60
      refine RunL.append (m := 1) (n' := ((ML tl).take j ++ [(⟨k, q⟩ : M)]).length) (cs' := ((ML tl).take j ++ [(⟨k, q⟩ : M)]).flatMap cM) rfl rfl (by first | ((repeat (first | (with_reducible exact F0 _) | apply F1)); done) | (repeat (first | exact F0 _ | apply F1))) rfl rfl und61 und61 rfl sz117 zz117 rfl by117 (by omega) (by omega) (fun w sw => sw.src) (isOne_flat (f := cM) (fun _ => rfl)) (by simp; omega) (by rw [flatMap_app]) (Wt.none rfl) rfl ?_; intro a2 c2
      refine as' rfl (nl' (sr' (mv' rfl (mv' rfl (mv' rfl ?_)))))
      refine pp' (Pure.sliceFrom rfl rfl und61 sz117 (by first | omega | (simp; done) | (simp; omega)) (by first | omega | (simp; done) | (simp; omega))) ?_
      refine RunL.append (m := ((ML tl).length - j)) (n' := ((ML tl).take j ++ (⟨k, q⟩ : M) :: (ML tl).drop j).length) (cs' := ((ML tl).take j ++ (⟨k, q⟩ : M) :: (ML tl).drop j).flatMap cM) rfl rfl (by first | ((repeat (first | (with_reducible exact F0 _) | apply F1)); done) | (repeat (first | exact F0 _ | apply F1))) rfl rfl und61 und61 rfl sz117 zz117 rfl by117 (by simp; omega) (by simp; omega) (fun w sw => (sw.find (p := Sl 117 6 _ (ML tl).length cap _) (by first | ((repeat (first | (with_reducible exact F0 _) | apply F1)); done) | (repeat (first | exact F0 _ | apply F1)))).srcFromF j (fun _ _ => rfl) (by omega)) (isOne_flat (f := cM) (fun _ => rfl)) (by simp; omega) (by rw [← flatMap_app, List.append_assoc]; rfl) (Wt.none rfl) rfl ?_; intro a3 c3
      refine as' rfl (as' rfl (nl' ?_))
      rw [hins]
      exact rt' Tryz.func64 (res2 rfl rfl rfl) (by exact ⟨_, _, by rw [had, tput, had, if_pos rfl], by rw [tput, had, if_pos rfl]⟩)

end Go.Proofs.YtaaondbmkibkkaaGreat
