/- Parks: the reference. -/
import Derived.Test.YtaaondbmkibkkaaGreatP2
set_option linter.unusedVariables false
set_option linter.unusedSimpArgs false
set_option linter.unusedSectionVars false
namespace Go.Proofs.YtaaondbmkibkkaaGreat
open Go Csl


set_option maxHeartbeats 4000000 in
set_option maxRecDepth 100000 in
theorem rPutP_ctr {G : Gp} {pp : PP} {es : List Edu} (hn : pp.l.n = es.length) (h : SlR G 23 11 pp.l.a es.length (es.flatMap cEdu)) (hb : es.length ≤ 100000) {e : Edu} (hl : -1000000 ≤ pp.lost ∧ pp.lost ≤ 1000000) :
    Ctr Tryz.prog G 67 [.agg (cPP pp).toArray, .agg (cEdu e).toArray] [] (fun F v A => (e ∈ es ∧ ∃ (u : Edu) (b : Bool), v = .tuple #[.agg (cPP pp).toArray, .agg (cEdu u).toArray, .bool b] ∧ A = F) ∨ (e ∉ es ∧ ∃ (l' : Sli) (u : Edu) (b : Bool), l'.n = (pputL pp.most es e).length ∧ v = .tuple #[.agg (cPP (⟨pp.most, l', (pputN pp.most es e pp.lost)⟩ : PP)).toArray, .agg (cEdu u).toArray, .bool b] ∧ A = Sl 23 11 l'.a (pputL pp.most es e).length l'.c ((pputL pp.most es e).flatMap cEdu) :: F)) := by
  refine Ctr.intro Tryz.func67 rfl (by kernel_rfl) rfl (fun F => ?_)
  simp only [List.nil_append]
  refine sr' ?_
  refine RunL.boxA (xs := (cPP pp)) rfl (Wt.none rfl) rfl ?_; intro b2
  refine RunL.boxA (xs := (cEdu e)) rfl (Wt.none rfl) rfl ?_; intro b3
  refine RunL.alloc zz82 (Wt.none rfl) rfl ?_; intro b4
  refine RunL.alloc zz23 (Wt.none rfl) rfl ?_; intro b5
  refine as' rfl (nl' ?_)
  refine la' (row b2 82 _) Lends.row fun G2 hleG2 hrb2 => ?_
  replace h := h.mono hleG2
  refine la' (row b3 23 _) Lends.row fun G3 hleG3 hrb3 => ?_
  replace h := h.mono hleG3
  replace hrb2 := hrb2.mono hleG3
  refine sq' (sr' (as' rfl (nl' (bl' ?_))))
  refine kp' [2, 3, 4, 5, 7] ?_
  refine lp' F (fun n e_ A => ∃ (i : Nat), i ≤ es.length ∧ (∀ j y, j < i → es[j]? = some y → y ≠ e) ∧ n = es.length - i ∧ e_ = [(2, .pointer (some ⟨b2, 0, none⟩)), (3, .pointer (some ⟨b3, 0, none⟩)), (4, .pointer (some ⟨b4, 0, none⟩)), (5, .pointer (some ⟨b5, 0, none⟩)), (7, .int .i64 (i : Nat))] ∧ A = row b4 82 (cPP (⟨0, ⟨none, 0, 0⟩, 0⟩ : PP)) :: row b5 23 (cEdu (⟨0, .empty, .empty, .empty, .empty, false, false, 0, 0, 0, 0⟩ : Edu)) :: F) (es.length) (by exact ⟨0, by omega, fun j y hj => absurd hj (Nat.not_lt_zero _), rfl, rfl, rfl⟩) ?_
  rintro n _ _ ⟨i, hi, hall, rfl, rfl, hA_⟩ ih
  replace hA_ := hA_.symm; subst hA_
  refine sq' (sr' (mv' rfl (pp' (Pure.fieldAddr rfl fo82_1) (l1' rfl agg25 ?_))))
  refine pp' (Pure.lenSl rfl rfl und25) (pp' (Pure.lss rfl rfl) (nl' ?_))
  refine Run.cond rfl (fun h1 => ?_) (fun h1 => ?_)
  · try simp only [Z] at h1
    obtain ⟨x, hx⟩ := get_some (xs := es) (i := i) (by omega)
    obtain ⟨bb, Tb_, preb, postb, hpb, hro⟩ := h.open1 (show 0 < es.length by omega)
    refine sk' (sq' (bl' (sq' ?_)))
    refine Run.regionD' (by kernel_rfl) (by kernel_rfl) (fun hok37 => ?_)
    refine dp' 0 hok37 rfl (Pure.fieldAddr rfl fo82_1) (dl' 1 hok37 rfl rfl agg25 ?_)
    refine dp' 2 hok37 rfl (Pure.move rfl) ?_
    refine dp' 3 hok37 rfl (Pure.indexAddr (opvSl rfl hpb) rfl und25 sz23 (by omega) (by omega)) ?_
    refine RunD.loadNR (vs := (cEdu x)) (i := 4) hok37 rfl (by kernel_rfl) rfl hro agg23 sz23 (elemN_len (pre := preb) (post := postb) (f := cEdu) (sz := 11) (j := 0) (n := 11) (fun _ _ => rfl) hx (by decide)) ((elemN_at (pre := preb) (post := postb) (f := cEdu) (sz := 11) (j := 0) (n := 11) (fun _ _ => rfl) hx (by decide)).trans rfl) (Wt.none rfl) rfl ?_
    refine RunD.loadNR (vs := (cEdu e)) (i := 5) hok37 rfl (by kernel_rfl) rfl (by assumption) agg23 sz23 (by first | exact Nat.le_of_ble_eq_true rfl | (simp; done) | (simp; omega)) rfl (Wt.none rfl) rfl ?_
    refine dp' 6 hok37 rfl (Pure.aeql rfl rfl eqg23 (eqv23 (x) (e)) (by decide)) ?_
    refine RunD.nilR (by kernel_rfl) ?_
    refine Run.cond rfl (fun h2 => ?_) (fun h2 => ?_)
    · try simp only [Z] at h2
      refine sr' (lA' (cPP pp) rfl agg82 sz82 ?_)
      refine pp' (Pure.buildL (ps := []) (zs := [(.int .i64 0), (.string .empty), (.string .empty), (.string .empty), (.string .empty), (.bool false), (.bool false), (.int .i64 0), (.int .i64 0), (.int .i64 0), (.int .i64 0)]) (xs := (cEdu ((⟨0, .empty, .empty, .empty, .empty, false, false, 0, 0, 0, 0⟩ : Edu)))) pl23 rfl rfl rfl rfl) (sW' (cPP pp) rfl rfl sz82 ?_)
      refine sW' (cEdu ((⟨0, .empty, .empty, .empty, .empty, false, false, 0, 0, 0, 0⟩ : Edu))) rfl rfl sz23 ?_
      refine as' rfl (nl' ?_)
      exact rt' Tryz.func67 (resV3 rfl (Rv.cellN (us := (cPP pp)) rfl (by first | ((repeat (first | (with_reducible exact F0 _) | apply F1)); done) | (repeat (first | exact F0 _ | apply F1))) agg82 sz82 (by first | exact Nat.le_of_ble_eq_true rfl | (simp; done) | (simp; omega)) rfl) (Rv.cellN (us := (cEdu ((⟨0, .empty, .empty, .empty, .empty, false, false, 0, 0, 0, 0⟩ : Edu)))) rfl (by first | ((repeat (first | (with_reducible exact F0 _) | apply F1)); done) | (repeat (first | exact F0 _ | apply F1))) agg23 sz23 (by first | exact Nat.le_of_ble_eq_true rfl | (simp; done) | (simp; omega)) rfl) (Rv.tmp rfl)) (by exact (.inl ⟨h2 ▸ List.mem_of_getElem? hx, _, _, rfl, rfl⟩))
    · try simp only [Z] at h2
      refine sk' (ib' (rg' (mv' rfl ?_)))
      first | refine RunL.pure (Pure.addI rfl rfl (by omega)) (Wt.none rfl) rfl rfl ?_ | refine RunL.pure (Pure.add rfl rfl) (Wt.none rfl) rfl rfl ?_
      refine as' rfl (nl' ?_)
      refine kp' [2, 3, 4, 5, 7] ?_
      exact ag' F ih (by exact ⟨i + 1, by omega, lt_succ_of hall hx h2, rfl, rfl, rfl⟩)
  · try simp only [Z] at h1
    have hin : e ∉ es := fun q => absurd rfl (all_of_lt hall (by omega) e q)
    refine ex' rfl (sr' (as' rfl (nl' (sr' (mv' rfl (pp' (Pure.fieldAddr rfl fo82_1) (l1' rfl agg25 ?_)))))))
    refine RunL.append0 (m := es.length) rfl rfl rfl rfl und25 und25 rfl sz23 zz23 rfl by23 (by omega) (by omega) (fun w sw => (by rw [hn]; exact h.src sw)) (Wt.none rfl) rfl ?_; intro a1 c1
    refine as' rfl (nl' (sr' (mv' rfl (lA' (cEdu e) rfl agg23 sz23 ?_))))
    refine RunL.lit (vals := [_]) (vs := ([e] : List Edu).flatMap cEdu) und25 sz23 zz23 rfl rfl rfl rfl rfl rfl (by simp [Value.cells, bv, cDD, cEdu, cEvn, cGG, cK, cM, cNde, cPP, cPos, cSS, cVV]) rfl (Wt.none rfl) rfl ?_; intro b31
    refine RunL.append (m := 1) (n' := (es ++ [e]).length) (cs' := (es ++ [e]).flatMap cEdu) rfl rfl (by first | ((repeat (first | (with_reducible exact F0 _) | apply F1)); done) | (repeat (first | exact F0 _ | apply F1))) rfl rfl und25 und25 rfl sz23 zz23 rfl by23 (by omega) (by omega) (fun w sw => sw.src) (isOne_flat (f := cEdu) (fun _ => rfl)) (by simp) (by rw [List.flatMap_append]) (Wt.none rfl) rfl ?_; intro a2 c2
    refine as' rfl (nl' (sq' (sr' (mv' rfl (pp' (Pure.lenSl rfl rfl und25) (pp' (Pure.fieldAddr rfl fo82_0) (l1' rfl agg3 ?_)))))))
    refine pp' (Pure.gtr rfl rfl) (nl' ?_)
    refine Run.cond rfl (fun h3 => ?_) (fun h3 => ?_)
    · try simp only [Z] at h3
      have hxl : (es ++ [e]).length = es.length + 1 := by simp
      obtain ⟨x, hx⟩ := get_some (xs := (es ++ [e])) (i := 0) (by simp)
      have hL : pputL pp.most es e = (es ++ [e]).drop 1 := by rw [pputL, if_neg hin, if_neg (by omega)]
      have hN : pputN pp.most es e pp.lost = pp.lost + 1 := by rw [pputN, if_neg hin, if_neg (by omega)]
      refine lb' (Sl 23 11 a2 (es ++ [e]).length c2 ((es ++ [e]).flatMap cEdu)) Lends.Sl fun Ghs3 hleGhs3 hs3 backGhs3 => ?_
      have h_Ghs3 := h.mono hleGhs3
      have hrb2_Ghs3 := hrb2.mono hleGhs3
      have hrb3_Ghs3 := hrb3.mono hleGhs3
      obtain ⟨be, Te, pree, poste, hpe, hroe⟩ := hs3.1.open1 (show 0 < (es ++ [e]).length by simp)
      refine sq' ?_
      refine Run.regionD' (by kernel_rfl) (by kernel_rfl) (fun hok107 => ?_)
      refine dp' 0 hok107 rfl (Pure.fieldAddr rfl fo82_0) (dl' 1 hok107 rfl rfl agg3 ?_)
      refine dp' 2 hok107 rfl (Pure.move rfl) ?_
      refine dp' 3 hok107 rfl (Pure.sliceFrom rfl rfl und25 sz23 (by first | omega | (simp; done) | (simp; omega)) (by first | omega | (simp; done) | (simp; omega))) ?_
      refine dp' 4 hok107 rfl (Pure.fieldAddr rfl fo82_2) (dl' 5 hok107 rfl rfl agg3 ?_)
      first | refine RunD.pure (i := 6) hok107 rfl (by kernel_rfl) (Pure.addI rfl rfl (by omega)) (Wt.none rfl) rfl rfl ?_ | refine RunD.pure (i := 6) hok107 rfl (by kernel_rfl) (Pure.add rfl rfl) (Wt.none rfl) rfl rfl ?_
      refine dp' 7 hok107 rfl (Pure.buildL (ps := [(0, _), (1, _), (2, _)]) (zs := [(.int .i64 0), (.slice none 0 0), (.int .i64 0)]) (xs := (cPP ((⟨pp.most, ⟨cutAt a2 1 c2 11, (es ++ [e]).length - 1, c2 - 1⟩, pp.lost + 1⟩ : PP)))) pl82 rfl rfl rfl rfl) (dp' 8 hok107 rfl (Pure.move rfl) ?_)
      refine dp' 9 hok107 rfl (Pure.indexAddr (opvSl rfl hpe) rfl und25 sz23 (by omega) (by omega)) ?_
      refine RunD.loadNR (vs := (cEdu x)) (i := 10) hok107 rfl (by kernel_rfl) rfl hroe agg23 sz23 (elemN_len (pre := pree) (post := poste) (f := cEdu) (sz := 11) (j := 0) (n := 11) (fun _ _ => rfl) hx (by decide)) ((elemN_at (pre := pree) (post := poste) (f := cEdu) (sz := 11) (j := 0) (n := 11) (fun _ _ => rfl) hx (by decide)).trans rfl) (Wt.none rfl) rfl ?_
      refine RunD.one (i := 11) (by kernel_rfl) rfl ?_
      · skip
        refine sW' (cPP ((⟨pp.most, ⟨cutAt a2 1 c2 11, (es ++ [e]).length - 1, c2 - 1⟩, pp.lost + 1⟩ : PP))) rfl rfl sz82 ?_
        refine RunL.nilD' ?_
        refine RunD.one (i := 12) (by kernel_rfl) rfl ?_
        · skip
          refine sW' (cEdu x) rfl rfl sz23 ?_
          refine RunL.nilD' ?_
          refine dp' 13 hok107 rfl (Pure.assign rfl) ?_
          refine RunD.nilR (by kernel_rfl) ?_
          refine Run.backB backGhs3 ?_
          refine Run.fromPk (E := 23) (sz := 11) (a := a2) (cap := c2) (f := cEdu) (xs := (es ++ [e])) 1 (fun _ _ => rfl) (by first | ((repeat (first | (with_reducible exact F0 _) | apply F1)); done) | (repeat (first | exact F0 _ | apply F1))) (by omega) ?_
          exact rt' Tryz.func67 (resV3 rfl (Rv.cellN (us := (cPP ((⟨pp.most, ⟨cutAt a2 1 c2 11, (es ++ [e]).length - 1, c2 - 1⟩, pp.lost + 1⟩ : PP)))) rfl (by first | ((repeat (first | (with_reducible exact F0 _) | apply F1)); done) | (repeat (first | exact F0 _ | apply F1))) agg82 sz82 (by first | exact Nat.le_of_ble_eq_true rfl | (simp; done) | (simp; omega)) rfl) (Rv.cellN (us := (cEdu x)) rfl (by first | ((repeat (first | (with_reducible exact F0 _) | apply F1)); done) | (repeat (first | exact F0 _ | apply F1))) agg23 sz23 (by first | exact Nat.le_of_ble_eq_true rfl | (simp; done) | (simp; omega)) rfl) (Rv.tmp rfl)) (by exact (.inr ⟨hin, ⟨cutAt a2 1 c2 11, (es ++ [e]).length - 1, c2 - 1⟩, _, _, by rw [hL, List.length_drop], by rw [hN], by rw [hL, List.length_drop]⟩))
    · try simp only [Z] at h3
      have hL : pputL pp.most es e = (es ++ [e]) := by rw [pputL, if_neg hin, if_pos (by first | omega | (simp; omega))]
      have hN : pputN pp.most es e pp.lost = pp.lost := by rw [pputN, if_neg hin, if_pos (by first | omega | (simp; omega))]
      refine sk' (sr' (pp' (Pure.fieldAddr rfl fo82_0) (l1' rfl agg3 ?_)))
      refine mv' rfl (pp' (Pure.fieldAddr rfl fo82_2) (l1' rfl agg3 ?_))
      refine pp' (Pure.buildL (ps := [(0, _), (1, _), (2, _)]) (zs := [(.int .i64 0), (.slice none 0 0), (.int .i64 0)]) (xs := (cPP ((⟨pp.most, ⟨a2, (es ++ [e]).length, c2⟩, pp.lost⟩ : PP)))) pl82 rfl rfl rfl rfl) (pp' (Pure.buildL (ps := []) (zs := [(.int .i64 0), (.string .empty), (.string .empty), (.string .empty), (.string .empty), (.bool false), (.bool false), (.int .i64 0), (.int .i64 0), (.int .i64 0), (.int .i64 0)]) (xs := (cEdu ((⟨0, .empty, .empty, .empty, .empty, false, false, 0, 0, 0, 0⟩ : Edu)))) pl23 rfl rfl rfl rfl) (sW' (cPP ((⟨pp.most, ⟨a2, (es ++ [e]).length, c2⟩, pp.lost⟩ : PP))) rfl rfl sz82 ?_))
      refine sW' (cEdu ((⟨0, .empty, .empty, .empty, .empty, false, false, 0, 0, 0, 0⟩ : Edu))) rfl rfl sz23 ?_
      refine as' rfl (nl' ?_)
      exact rt' Tryz.func67 (resV3 rfl (Rv.cellN (us := (cPP ((⟨pp.most, ⟨a2, (es ++ [e]).length, c2⟩, pp.lost⟩ : PP)))) rfl (by first | ((repeat (first | (with_reducible exact F0 _) | apply F1)); done) | (repeat (first | exact F0 _ | apply F1))) agg82 sz82 (by first | exact Nat.le_of_ble_eq_true rfl | (simp; done) | (simp; omega)) rfl) (Rv.cellN (us := (cEdu ((⟨0, .empty, .empty, .empty, .empty, false, false, 0, 0, 0, 0⟩ : Edu)))) rfl (by first | ((repeat (first | (with_reducible exact F0 _) | apply F1)); done) | (repeat (first | exact F0 _ | apply F1))) agg23 sz23 (by first | exact Nat.le_of_ble_eq_true rfl | (simp; done) | (simp; omega)) rfl) (Rv.tmp rfl)) (by exact (.inr ⟨hin, ⟨a2, (es ++ [e]).length, c2⟩, _, _, by rw [hL], by rw [hN], by rw [hL]⟩))

set_option maxHeartbeats 4000000 in
set_option maxRecDepth 100000 in
theorem rTakeP_ctr {G : Gp} {pp : PP} {es : List Edu} (hn : pp.l.n = es.length) (h : SlR G 23 11 pp.l.a es.length (es.flatMap cEdu)) (hb : es.length ≤ 100000) {room event : ByteArray} :
    Ctr Tryz.prog G 69 [.agg (cPP pp).toArray, .string room, .string event] [] (fun F v A => ∃ (a1 a2 : Option Addr) (c1 c2 : Nat), v = .tuple #[.agg (cPP (⟨pp.most, ⟨a2, (es.filter fun y => !takesB room event y).length, c2⟩, pp.lost⟩ : PP)).toArray, .slice a1 (es.filter (takesB room event)).length c1] ∧ A = Sl 23 11 a1 ((es.filter (takesB room event))).length c1 (((es.filter (takesB room event))).flatMap cEdu) :: Sl 23 11 a2 ((es.filter fun y => !takesB room event y)).length c2 (((es.filter fun y => !takesB room event y)).flatMap cEdu) :: F) := by
  refine Ctr.intro Tryz.func69 rfl (by kernel_rfl) rfl (fun F => ?_)
  simp only [List.nil_append]
  refine sr' ?_
  refine RunL.boxA (xs := (cPP pp)) rfl (Wt.none rfl) rfl ?_; intro b3
  refine RunL.alloc zz82 (Wt.none rfl) rfl ?_; intro b6
  refine RunL.nilSl 23 11 ?_
  refine RunL.nilSl 23 11 ?_
  refine as' rfl (nl' ?_)
  refine la' (row b3 82 _) Lends.row fun G3 hleG3 hrb3 => ?_
  replace h := h.mono hleG3
  refine sr' (as' rfl (nl' (sr' (as' rfl (nl' (sq' (sr' (as' rfl (nl' (bl' ?_))))))))))
  refine kp' [1, 2, 3, 6, 8, 9, 10] ?_
  refine lp' F (fun n e_ A => ∃ (i : Nat) (a1 a2 : Option Addr) (c1 c2 : Nat), i ≤ es.length ∧ n = es.length - i ∧ e_ = [(1, .string room), (2, .string event), (3, .pointer (some ⟨b3, 0, none⟩)), (6, .pointer (some ⟨b6, 0, none⟩)), (8, .slice a1 ((es.take i).filter (takesB room event)).length c1), (9, .slice a2 ((es.take i).filter fun y => !takesB room event y).length c2), (10, .int .i64 (i : Nat))] ∧ A = row b6 82 (cPP (⟨0, ⟨none, 0, 0⟩, 0⟩ : PP)) :: Sl 23 11 a1 (((es.take i).filter (takesB room event))).length c1 ((((es.take i).filter (takesB room event))).flatMap cEdu) :: Sl 23 11 a2 (((es.take i).filter fun y => !takesB room event y)).length c2 ((((es.take i).filter fun y => !takesB room event y)).flatMap cEdu) :: F) (es.length) (by exact ⟨0, none, none, 0, 0, by omega, rfl, rfl, rfl⟩) ?_
  rintro n _ _ ⟨i, a1, a2, c1, c2, hi, rfl, rfl, hA_⟩ ih
  replace hA_ := hA_.symm; subst hA_
  refine sq' (sr' (mv' rfl (pp' (Pure.fieldAddr rfl fo82_1) (l1' rfl agg25 ?_))))
  refine pp' (Pure.lenSl rfl rfl und25) (pp' (Pure.lss rfl rfl) (nl' ?_))
  refine Run.cond rfl (fun h1 => ?_) (fun h1 => ?_)
  · try simp only [Z] at h1
    obtain ⟨x, hx⟩ := get_some (xs := es) (i := i) (by omega)
    obtain ⟨bb, Tb_, preb, postb, hpb, hro⟩ := h.open1 (show 0 < es.length by omega)
    have hf1 : ((es.take i).filter (takesB room event)).length ≤ i := Nat.le_trans (List.length_filter_le _ _) (by rw [List.length_take]; omega)
    have hf2 : ((es.take i).filter fun y => !takesB room event y).length ≤ i := Nat.le_trans (List.length_filter_le _ _) (by rw [List.length_take]; omega)
    refine sk' (sq' (bl' (sr' (pp' (Pure.fieldAddr rfl fo82_1) (l1' rfl agg25 ?_)))))
    refine mv' rfl ?_
    refine pp' (Pure.indexAddr (opvSl rfl hpb) rfl und25 sz23 (by omega) (by omega)) ?_
    refine pp' (Pure.fieldAddr rfl fo23_1) ?_
    refine RunL.load1R rfl hro ((elem_at (pre := preb) (post := postb) (f := cEdu) (sz := 11) (j := 1) (fun _ _ => rfl) hx (by decide)).trans rfl) agg9 (Wt.none rfl) rfl ?_
    refine mv' rfl (pp' (Pure.seql rfl rfl) (mv' rfl ?_))
    refine RunL.split (d := 26) rfl (fun t1 => ?_) (fun t1 => ?_)
    · try simp only [Z] at t1
      refine py' (Pure.fieldAddr rfl fo82_1) (l1' rfl agg25 ?_)
      refine py' (Pure.move rfl) ?_
      refine py' (Pure.indexAddr (opvSl rfl hpb) rfl und25 sz23 (by omega) (by omega)) ?_
      refine py' (Pure.fieldAddr rfl fo23_3) ?_
      refine RunL.load1R rfl hro ((elem_at (pre := preb) (post := postb) (f := cEdu) (sz := 11) (j := 3) (fun _ _ => rfl) hx (by decide)).trans rfl) agg9 (Wt.yes rfl rfl rfl) rfl ?_
      refine py' (Pure.move rfl) (py' (Pure.seql rfl rfl) (pp' (Pure.pickT rfl rfl) (nl' ?_)))
      refine Run.cond rfl (fun t2 => ?_) (fun t2 => ?_)
      · try simp only [Z] at t2
        have hm : takesB room event x = true := by unfold takesB; rw [decide_eq_true t1, decide_eq_true t2]; rfl
        refine rg' (mv' rfl (pp' (Pure.fieldAddr rfl fo82_1) (l1' rfl agg25 ?_)))
        refine mv' rfl ?_
        refine pp' (Pure.indexAddr (opvSl rfl hpb) rfl und25 sz23 (by omega) (by omega)) ?_
        refine RunL.loadNR (vs := (cEdu x)) rfl hro agg23 sz23 (elemN_len (pre := preb) (post := postb) (f := cEdu) (sz := 11) (j := 0) (n := 11) (fun _ _ => rfl) hx (by decide)) ((elemN_at (pre := preb) (post := postb) (f := cEdu) (sz := 11) (j := 0) (n := 11) (fun _ _ => rfl) hx (by decide)).trans rfl) (Wt.none rfl) rfl ?_
        refine RunL.lit (vals := [_]) (vs := ([x] : List Edu).flatMap cEdu) und25 sz23 zz23 rfl rfl rfl rfl rfl rfl (by simp [Value.cells, bv, cDD, cEdu, cEvn, cGG, cK, cM, cNde, cPP, cPos, cSS, cVV]) rfl (Wt.none rfl) rfl ?_; intro b42
        refine RunL.append (m := 1) (n' := (((es.take i).filter (takesB room event)) ++ [x]).length) (cs' := (((es.take i).filter (takesB room event)) ++ [x]).flatMap cEdu) rfl rfl (by first | ((repeat (first | (with_reducible exact F0 _) | apply F1)); done) | (repeat (first | exact F0 _ | apply F1))) rfl rfl und25 und25 rfl sz23 zz23 rfl by23 (by omega) (by omega) (fun w sw => sw.src) (isOne_flat (f := cEdu) (fun _ => rfl)) (by simp) (by rw [List.flatMap_append]) (Wt.none rfl) rfl ?_; intro a3 c3
        refine as' rfl (nl' (ib' (rg' (mv' rfl ?_))))
        first | refine RunL.pure (Pure.addI rfl rfl (by omega)) (Wt.none rfl) rfl rfl ?_ | refine RunL.pure (Pure.add rfl rfl) (Wt.none rfl) rfl rfl ?_
        refine as' rfl (nl' ?_)
        have hs1 : ((es.take (i + 1)).filter (takesB room event)) = ((es.take i).filter (takesB room event)) ++ [x] := by rw [List.take_add_one, hx, List.filter_append]; simp [hm]
        have hs2 : ((es.take (i + 1)).filter fun y => !takesB room event y) = ((es.take i).filter fun y => !takesB room event y) := by rw [List.take_add_one, hx, List.filter_append]; simp [hm]
        rw [← hs1, ← hs2]
        refine kp' [1, 2, 3, 6, 8, 9, 10] ?_
        exact ag' F ih (by exact ⟨i + 1, a3, a2, c3, c2, by omega, rfl, rfl, rfl⟩)
      · try simp only [Z] at t2
        have hm : takesB room event x = false := by unfold takesB; rw [decide_eq_false t2, Bool.and_false]
        refine rg' (mv' rfl (pp' (Pure.fieldAddr rfl fo82_1) (l1' rfl agg25 ?_)))
        refine mv' rfl ?_
        refine pp' (Pure.indexAddr (opvSl rfl hpb) rfl und25 sz23 (by omega) (by omega)) ?_
        refine RunL.loadNR (vs := (cEdu x)) rfl hro agg23 sz23 (elemN_len (pre := preb) (post := postb) (f := cEdu) (sz := 11) (j := 0) (n := 11) (fun _ _ => rfl) hx (by decide)) ((elemN_at (pre := preb) (post := postb) (f := cEdu) (sz := 11) (j := 0) (n := 11) (fun _ _ => rfl) hx (by decide)).trans rfl) (Wt.none rfl) rfl ?_
        refine RunL.lit (vals := [_]) (vs := ([x] : List Edu).flatMap cEdu) und25 sz23 zz23 rfl rfl rfl rfl rfl rfl (by simp [Value.cells, bv, cDD, cEdu, cEvn, cGG, cK, cM, cNde, cPP, cPos, cSS, cVV]) rfl (Wt.none rfl) rfl ?_; intro b50
        refine RunL.append (m := 1) (n' := (((es.take i).filter fun y => !takesB room event y) ++ [x]).length) (cs' := (((es.take i).filter fun y => !takesB room event y) ++ [x]).flatMap cEdu) rfl rfl (by first | ((repeat (first | (with_reducible exact F0 _) | apply F1)); done) | (repeat (first | exact F0 _ | apply F1))) rfl rfl und25 und25 rfl sz23 zz23 rfl by23 (by omega) (by omega) (fun w sw => sw.src) (isOne_flat (f := cEdu) (fun _ => rfl)) (by simp) (by rw [List.flatMap_append]) (Wt.none rfl) rfl ?_; intro a3 c3
        refine as' rfl (nl' (ib' (rg' (mv' rfl ?_))))
        first | refine RunL.pure (Pure.addI rfl rfl (by omega)) (Wt.none rfl) rfl rfl ?_ | refine RunL.pure (Pure.add rfl rfl) (Wt.none rfl) rfl rfl ?_
        refine as' rfl (nl' ?_)
        have hs1 : ((es.take (i + 1)).filter (takesB room event)) = ((es.take i).filter (takesB room event)) := by rw [List.take_add_one, hx, List.filter_append]; simp [hm]
        have hs2 : ((es.take (i + 1)).filter fun y => !takesB room event y) = ((es.take i).filter fun y => !takesB room event y) ++ [x] := by rw [List.take_add_one, hx, List.filter_append]; simp [hm]
        rw [← hs1, ← hs2]
        refine kp' [1, 2, 3, 6, 8, 9, 10] ?_
        exact ag' F ih (by exact ⟨i + 1, a1, a3, c1, c3, by omega, rfl, rfl, rfl⟩)
    · try simp only [Z] at t1
      have hm : takesB room event x = false := by unfold takesB; rw [decide_eq_false t1, Bool.false_and]
      refine no' (no' (no' (no' (no' (no' (no' (no' (pp' (Pure.pickF rfl rfl) (nl' (cF' (rg' (mv' rfl (pp' (Pure.fieldAddr rfl fo82_1) (l1' rfl agg25 ?_))))))))))))))
      refine mv' rfl ?_
      refine pp' (Pure.indexAddr (opvSl rfl hpb) rfl und25 sz23 (by omega) (by omega)) ?_
      refine RunL.loadNR (vs := (cEdu x)) rfl hro agg23 sz23 (elemN_len (pre := preb) (post := postb) (f := cEdu) (sz := 11) (j := 0) (n := 11) (fun _ _ => rfl) hx (by decide)) ((elemN_at (pre := preb) (post := postb) (f := cEdu) (sz := 11) (j := 0) (n := 11) (fun _ _ => rfl) hx (by decide)).trans rfl) (Wt.none rfl) rfl ?_
      refine RunL.lit (vals := [_]) (vs := ([x] : List Edu).flatMap cEdu) und25 sz23 zz23 rfl rfl rfl rfl rfl rfl (by simp [Value.cells, bv, cDD, cEdu, cEvn, cGG, cK, cM, cNde, cPP, cPos, cSS, cVV]) rfl (Wt.none rfl) rfl ?_; intro b50
      refine RunL.append (m := 1) (n' := (((es.take i).filter fun y => !takesB room event y) ++ [x]).length) (cs' := (((es.take i).filter fun y => !takesB room event y) ++ [x]).flatMap cEdu) rfl rfl (by first | ((repeat (first | (with_reducible exact F0 _) | apply F1)); done) | (repeat (first | exact F0 _ | apply F1))) rfl rfl und25 und25 rfl sz23 zz23 rfl by23 (by omega) (by omega) (fun w sw => sw.src) (isOne_flat (f := cEdu) (fun _ => rfl)) (by simp) (by rw [List.flatMap_append]) (Wt.none rfl) rfl ?_; intro a3 c3
      refine as' rfl (nl' (ib' (rg' (mv' rfl ?_))))
      first | refine RunL.pure (Pure.addI rfl rfl (by omega)) (Wt.none rfl) rfl rfl ?_ | refine RunL.pure (Pure.add rfl rfl) (Wt.none rfl) rfl rfl ?_
      refine as' rfl (nl' ?_)
      have hs1 : ((es.take (i + 1)).filter (takesB room event)) = ((es.take i).filter (takesB room event)) := by rw [List.take_add_one, hx, List.filter_append]; simp [hm]
      have hs2 : ((es.take (i + 1)).filter fun y => !takesB room event y) = ((es.take i).filter fun y => !takesB room event y) ++ [x] := by rw [List.take_add_one, hx, List.filter_append]; simp [hm]
      rw [← hs1, ← hs2]
      refine kp' [1, 2, 3, 6, 8, 9, 10] ?_
      exact ag' F ih (by exact ⟨i + 1, a1, a3, c1, c3, by omega, rfl, rfl, rfl⟩)
  · try simp only [Z] at h1
    have hti : es.take i = es := List.take_of_length_le (by omega)
    rw [hti]
    refine ex' rfl (sr' (pp' (Pure.fieldAddr rfl fo82_0) (l1' rfl agg3 ?_)))
    refine mv' rfl (pp' (Pure.fieldAddr rfl fo82_2) (l1' rfl agg3 ?_))
    refine pp' (Pure.buildL (ps := [(0, _), (1, _), (2, _)]) (zs := [(.int .i64 0), (.slice none 0 0), (.int .i64 0)]) (xs := (cPP ((⟨pp.most, ⟨a2, (es.filter fun y => !takesB room event y).length, c2⟩, pp.lost⟩ : PP)))) pl82 rfl rfl rfl rfl) (mv' rfl (sW' (cPP ((⟨pp.most, ⟨a2, (es.filter fun y => !takesB room event y).length, c2⟩, pp.lost⟩ : PP))) rfl rfl sz82 ?_))
    refine as' rfl (nl' ?_)
    exact rt' Tryz.func69 (resV2 rfl (Rv.cellN (us := (cPP ((⟨pp.most, ⟨a2, (es.filter fun y => !takesB room event y).length, c2⟩, pp.lost⟩ : PP)))) rfl (by first | ((repeat (first | (with_reducible exact F0 _) | apply F1)); done) | (repeat (first | exact F0 _ | apply F1))) agg82 sz82 (by first | exact Nat.le_of_ble_eq_true rfl | (simp; done) | (simp; omega)) rfl) (Rv.tmp rfl)) (by exact ⟨a1, a2, c1, c2, rfl, rfl⟩)

end Go.Proofs.YtaaondbmkibkkaaGreat
