/- Parks: what is put and taken. -/
import Derived.Test.YtaaondbmkibkkaaGreatP1
set_option linter.unusedVariables false
set_option linter.unusedSimpArgs false
set_option linter.unusedSectionVars false
namespace Go.Proofs.YtaaondbmkibkkaaGreat
open Go Csl


set_option maxHeartbeats 4000000 in
set_option maxRecDepth 100000 in
theorem NewP_ctr {G : Gp} {z : Int} :
    Ctr Tryz.prog G 44 [.int .i64 z] [] (fun F v A => (z < 1 ∨ 1000 < z) ∧ v = .tuple #[.pointer none, .int .i64 1] ∧ A = F ∨ (1 ≤ z ∧ z ≤ 1000) ∧ ∃ p, v = .tuple #[.pointer (some ⟨p, 0, none⟩), .int .i64 0] ∧ A = Pk p z [] 0 :: F) := by
  refine Ctr.intro Tryz.func44 rfl (by kernel_rfl) rfl (fun F => ?_)
  simp only [List.nil_append]
  refine sr' (as' rfl (as' rfl (nl' (sq' (sr' (mv' rfl (pp' (Pure.lss rfl rfl) (mv' rfl ?_))))))))
  refine RunL.split (d := 6) rfl (fun h1 => ?_) (fun h1 => ?_)
  · try simp only [Z] at h1
    refine no' (no' (pp' (Pure.pickT rfl rfl) (nl' (cT' (sr' (as' rfl (as' rfl (nl' ?_))))))))
    exact rt' Tryz.func44 (res2 rfl rfl rfl) (by exact (.inl ⟨.inl h1, rfl, rfl⟩))
  · try simp only [Z] at h1
    refine py' (Pure.move rfl) (py' (Pure.gtr rfl rfl) (pp' (Pure.pickF rfl rfl) (nl' ?_)))
    refine Run.cond rfl (fun h2 => ?_) (fun h2 => ?_)
    · try simp only [Z] at h2
      refine sr' (as' rfl (as' rfl (nl' ?_)))
      exact rt' Tryz.func44 (res2 rfl rfl rfl) (by exact (.inl ⟨.inr h2, rfl, rfl⟩))
    · try simp only [Z] at h2
      refine sk' (sr' (mv' rfl (pp' (Pure.buildL (ps := [(0, _)]) (zs := [(.int .i64 0), (.slice none 0 0), (.int .i64 0)]) (xs := [_, _, _]) pl141 rfl rfl rfl rfl) ?_)))
      refine RunL.box rfl (Wt.none rfl) rfl ?_; intro b12
      refine as' rfl (as' rfl (nl' ?_))
      refine Run.nilSl 23 11 ?_
      refine Run.mkPk (a := none) (cap := 0) [] (by repeat (first | (with_reducible exact Take.nil _) | (apply Take.cons (by first | ((repeat (first | (with_reducible exact F0 _) | apply F1)); done) | (repeat (first | exact F0 _ | apply F1)))))) ?_
      exact rt' Tryz.func44 (res2 rfl rfl rfl) (by exact (.inr ⟨⟨by omega, by omega⟩, b12, rfl, rfl⟩))

set_option maxHeartbeats 4000000 in
set_option maxRecDepth 100000 in
theorem AllP_ctr {G : Gp} {p : Nat} {most lost : Int} {es : List Edu} (hb : es.length ≤ 1000000) :
    Ctr Tryz.prog G 46 [.pointer (some ⟨p, 0, none⟩)] [Pk p most es lost] (fun F v A => ∃ a c, v = .slice a es.length c ∧ A = Sl 23 11 a (es).length c ((es).flatMap cEdu) :: Pk p most es lost :: F) := by
  refine Ctr.intro Tryz.func46 rfl (by kernel_rfl) rfl (fun F => ?_)
  simp only [List.cons_append, List.nil_append]
  refine Run.openPk (by first | ((repeat (first | (with_reducible exact F0 _) | apply F1)); done) | (repeat (first | exact F0 _ | apply F1))) ?_; intro a cap
  refine sr' (as' rfl (nl' ?_))
  refine lb' (Sl 23 11 a (es).length cap ((es).flatMap cEdu)) Lends.Sl fun Ghs hleGhs hs backGhs => ?_
  refine sr' (mv' rfl (pp' (Pure.nilCheck rfl) (pp' (Pure.fieldAddr rfl fo141_1) (l1' rfl agg25 ?_))))
  refine ca' rfl rfl (s := cloneEdu_ctr hs.1 hb) (q := ?_)
  rintro _ _ ⟨za, zc, rfl, hA_⟩
  replace hA_ := hA_.symm; subst hA_
  refine as' rfl (nl' ?_)
  refine Run.backB backGhs ?_
  refine Run.mkPk (es) (by repeat (first | (with_reducible exact Take.nil _) | (apply Take.cons (by first | ((repeat (first | (with_reducible exact F0 _) | apply F1)); done) | (repeat (first | exact F0 _ | apply F1)))))) ?_
  exact rt' Tryz.func46 (res1 rfl rfl) (by exact ⟨za, zc, rfl, rfl⟩)

set_option maxHeartbeats 4000000 in
set_option maxRecDepth 100000 in
theorem LostP_ctr {G : Gp} {p : Nat} {most lost : Int} {es : List Edu} :
    Ctr Tryz.prog G 58 [.pointer (some ⟨p, 0, none⟩)] [Pk p most es lost] (fun F v A => v = .int .i64 lost ∧ A = Pk p most es lost :: F) := by
  refine Ctr.intro Tryz.func58 rfl (by kernel_rfl) rfl (fun F => ?_)
  simp only [List.cons_append, List.nil_append]
  refine Run.openPk (by first | ((repeat (first | (with_reducible exact F0 _) | apply F1)); done) | (repeat (first | exact F0 _ | apply F1))) ?_; intro a cap
  refine sr' (as' rfl (nl' (sr' (mv' rfl (pp' (Pure.nilCheck rfl) (pp' (Pure.fieldAddr rfl fo141_2) (l1' rfl agg3 ?_)))))))
  refine as' rfl (nl' ?_)
  refine Run.mkPk (es) (by repeat (first | (with_reducible exact Take.nil _) | (apply Take.cons (by first | ((repeat (first | (with_reducible exact F0 _) | apply F1)); done) | (repeat (first | exact F0 _ | apply F1)))))) ?_
  exact rt' Tryz.func58 (res1 rfl rfl) (by exact ⟨rfl, rfl⟩)

set_option maxHeartbeats 4000000 in
set_option maxRecDepth 100000 in
theorem PutP_ctr {G : Gp} {p : Nat} {most lost : Int} {es : List Edu} {e : Edu} (hb : es.length ≤ 100000) (hl : -1000000 ≤ lost ∧ lost ≤ 1000000) :
    Ctr Tryz.prog G 52 [.pointer (some ⟨p, 0, none⟩), .agg (cEdu e).toArray] [Pk p most es lost] (fun F v A => ∃ u b, v = .tuple #[u, b] ∧ A = Pk p most (pputL most es e) (pputN most es e lost) :: F) := by
  refine Ctr.intro Tryz.func52 rfl (by kernel_rfl) rfl (fun F => ?_)
  simp only [List.cons_append, List.nil_append]
  refine Run.openPk (by first | ((repeat (first | (with_reducible exact F0 _) | apply F1)); done) | (repeat (first | exact F0 _ | apply F1))) ?_; intro a cap
  refine sr' ?_
  refine RunL.boxA (xs := (cEdu e)) rfl (Wt.none rfl) rfl ?_; intro b3
  refine RunL.alloc zz23 (Wt.none rfl) rfl ?_; intro b4
  refine as' rfl (nl' ?_)
  refine la' (row b3 23 _) Lends.row fun G3 hleG3 hrb3 => ?_
  refine lb' (row p 141 _) Lends.row fun Ghrp hleGhrp hrp backGhrp => ?_
  have hrb3_Ghrp := hrb3.mono hleGhrp
  refine lb' (Sl 23 11 a (es).length cap ((es).flatMap cEdu)) Lends.Sl fun Ghs hleGhs hs backGhs => ?_
  have hrb3_Ghs := hrb3_Ghrp.mono hleGhs
  have hrp_Ghs := hrp.mono hleGhs
  refine sq' (sq' ?_)
  refine Run.regionD' (by kernel_rfl) (by kernel_rfl) (fun hok13 => ?_)
  refine dp' 0 hok13 rfl (Pure.move rfl) (dp' 1 hok13 rfl (Pure.nilCheck rfl) (dp' 2 hok13 rfl (Pure.fieldAddr rfl fo141_1) (dl' 3 hok13 rfl rfl agg25 ?_)))
  refine RunD.loadNR (vs := (cEdu e)) (i := 4) hok13 rfl (by kernel_rfl) rfl (by assumption) agg23 sz23 (by first | exact Nat.le_of_ble_eq_true rfl | (simp; done) | (simp; omega)) rfl (Wt.none rfl) rfl ?_
  refine RunD.one (i := 5) (by kernel_rfl) rfl ?_
  refine ca' rfl rfl (s := containsEdu_ctr (x := e) hs.1 (by omega)) (q := ?_)
  rintro _ _ ⟨rfl, hA_⟩
  replace hA_ := hA_.symm; subst hA_
  refine RunL.nilD' ?_
  skip
  refine RunD.nilR (by kernel_rfl) ?_
  refine Run.cond rfl (fun hin => ?_) (fun hin => ?_)
  · try simp only [Z] at hin
    refine Run.backB backGhs ?_
    refine Run.backB backGhrp ?_
    refine sr' (pp' (Pure.buildL (ps := []) (zs := [(.int .i64 0), (.string .empty), (.string .empty), (.string .empty), (.string .empty), (.bool false), (.bool false), (.int .i64 0), (.int .i64 0), (.int .i64 0), (.int .i64 0)]) (xs := (cEdu ((⟨0, .empty, .empty, .empty, .empty, false, false, 0, 0, 0, 0⟩ : Edu)))) pl23 rfl rfl rfl rfl) (sW' (cEdu ((⟨0, .empty, .empty, .empty, .empty, false, false, 0, 0, 0, 0⟩ : Edu))) rfl rfl sz23 ?_))
    refine as' rfl (nl' ?_)
    refine Run.mkPk (es) (by repeat (first | (with_reducible exact Take.nil _) | (apply Take.cons (by first | ((repeat (first | (with_reducible exact F0 _) | apply F1)); done) | (repeat (first | exact F0 _ | apply F1)))))) ?_
    exact rt' Tryz.func52 (resV2 rfl (Rv.cellN (us := (cEdu ((⟨0, .empty, .empty, .empty, .empty, false, false, 0, 0, 0, 0⟩ : Edu)))) rfl (by first | ((repeat (first | (with_reducible exact F0 _) | apply F1)); done) | (repeat (first | exact F0 _ | apply F1))) agg23 sz23 (by first | exact Nat.le_of_ble_eq_true rfl | (simp; done) | (simp; omega)) rfl) (Rv.tmp rfl)) (by exact ⟨_, _, rfl, by rw [pputL, if_pos hin, pputN, if_pos hin]⟩)
  · try simp only [Z] at hin
    refine Run.backB backGhs ?_
    refine Run.backB backGhrp ?_
    refine sk' (sq' ?_)
    refine Run.cut (fun e_ A => ∃ (a3 : Option Addr) (c3 : Nat), e_ = [(0, .pointer (some ⟨p, 0, none⟩)), (3, .pointer (some ⟨b3, 0, none⟩)), (4, .pointer (some ⟨b4, 0, none⟩))] ∧ A = row p 141 [.int .i64 most, .slice a3 (es ++ [e]).length c3, .int .i64 lost] :: Sl 23 11 a3 (es ++ [e]).length c3 ((es ++ [e]).flatMap cEdu) :: row b4 23 (cEdu (⟨0, .empty, .empty, .empty, .empty, false, false, 0, 0, 0, 0⟩ : Edu)) :: F) (fun e A hM => ?_) (fun hk => ?_)
    · obtain ⟨a3, c3, rfl, hA_⟩ := hM
      replace hA_ := hA_.symm; subst hA_
      refine sq' (sq' ?_)
      refine Run.regionD' (by kernel_rfl) (by kernel_rfl) (fun hok47 => ?_)
      refine ld' (row p 141 _) Lends.row ?_; intro g1 hleg1 hg1 backg1
      have hrb3_g1 := hrb3.mono hleg1
      refine dp' 0 hok47 rfl (Pure.move rfl) (dp' 1 hok47 rfl (Pure.nilCheck rfl) (dp' 2 hok47 rfl (Pure.fieldAddr rfl fo141_1) (dl' 3 hok47 rfl rfl agg25 ?_)))
      refine dp' 4 hok47 rfl (Pure.lenSl rfl rfl und25) (dp' 5 hok47 rfl (Pure.move rfl) (dp' 6 hok47 rfl (Pure.nilCheck rfl) (dp' 7 hok47 rfl (Pure.fieldAddr rfl fo141_0) (dl' 8 hok47 rfl rfl agg3 ?_))))
      refine dp' 9 hok47 rfl (Pure.leq rfl rfl) ?_
      refine RunD.nilB (by kernel_rfl) (fun w sw => backg1 _ _ (sw)) ?_
      refine Run.cond rfl (fun h2 => ?_) (fun h2 => ?_)
      · try simp only [Z] at h2
        refine sr' (pp' (Pure.buildL (ps := []) (zs := [(.int .i64 0), (.string .empty), (.string .empty), (.string .empty), (.string .empty), (.bool false), (.bool false), (.int .i64 0), (.int .i64 0), (.int .i64 0), (.int .i64 0)]) (xs := (cEdu ((⟨0, .empty, .empty, .empty, .empty, false, false, 0, 0, 0, 0⟩ : Edu)))) pl23 rfl rfl rfl rfl) (sW' (cEdu ((⟨0, .empty, .empty, .empty, .empty, false, false, 0, 0, 0, 0⟩ : Edu))) rfl rfl sz23 ?_))
        refine as' rfl (nl' ?_)
        refine Run.mkPk (es ++ [e]) (by repeat (first | (with_reducible exact Take.nil _) | (apply Take.cons (by first | ((repeat (first | (with_reducible exact F0 _) | apply F1)); done) | (repeat (first | exact F0 _ | apply F1)))))) ?_
        exact rt' Tryz.func52 (resV2 rfl (Rv.cellN (us := (cEdu ((⟨0, .empty, .empty, .empty, .empty, false, false, 0, 0, 0, 0⟩ : Edu)))) rfl (by first | ((repeat (first | (with_reducible exact F0 _) | apply F1)); done) | (repeat (first | exact F0 _ | apply F1))) agg23 sz23 (by first | exact Nat.le_of_ble_eq_true rfl | (simp; done) | (simp; omega)) rfl) (Rv.tmp rfl)) (by exact ⟨_, _, rfl, by rw [pputL, if_neg hin, if_pos (by omega), pputN, if_neg hin, if_pos (by omega)]⟩)
      · try simp only [Z] at h2
        have hxl : (es ++ [e]).length = es.length + 1 := by simp
        obtain ⟨x, hx⟩ := get_some (xs := (es ++ [e])) (i := 0) (by simp)
        refine Run.slLen2 (T := 23) (sz := 11) (a := a3) (n := (es ++ [e]).length) (cap := c3) (cs := (es ++ [e]).flatMap cEdu) (by first | ((repeat (first | (with_reducible exact F0 _) | apply F1)); done) | (repeat (first | exact F0 _ | apply F1))) ?_; intro hln
        refine lb' (Sl 23 11 a3 (es ++ [e]).length c3 ((es ++ [e]).flatMap cEdu)) Lends.Sl fun Ghs3 hleGhs3 hs3 backGhs3 => ?_
        have hrb3_Ghs3 := hrb3.mono hleGhs3
        obtain ⟨be, Te, pree, poste, hpe, hroe⟩ := hs3.1.open1 (show 0 < (es ++ [e]).length by simp)
        refine sk' (sr' (mv' rfl (pp' (Pure.nilCheck rfl) (pp' (Pure.fieldAddr rfl fo141_1) (l1' rfl agg25 ?_)))))
        refine pp' (Pure.indexAddr (opvSl rfl hpe) rfl und25 sz23 (by omega) (by omega)) ?_
        refine RunL.loadNR (vs := (cEdu x)) rfl hroe agg23 sz23 (elemN_len (pre := pree) (post := poste) (f := cEdu) (sz := 11) (j := 0) (n := 11) (fun _ _ => rfl) hx (by decide)) ((elemN_at (pre := pree) (post := poste) (f := cEdu) (sz := 11) (j := 0) (n := 11) (fun _ _ => rfl) hx (by decide)).trans rfl) (Wt.none rfl) rfl ?_
        refine RunL.alloc zz23 (Wt.none rfl) rfl ?_; intro b6
        refine sW' (cEdu x) rfl rfl sz23 ?_
        refine nl' ?_
        refine Run.backB backGhs3 ?_
        refine sr' (mv' rfl (mv' rfl (pp' (Pure.nilCheck rfl) (pp' (Pure.fieldAddr rfl fo141_1) (l1' rfl agg25 ?_)))))
        refine ca' rfl rfl (s := deleteEdu_ctr (xs := (es ++ [e])) (by simp; omega) (by simp) hln.2) (q := ?_)
        rintro _ _ ⟨rfl, hA_⟩
        replace hA_ := hA_.symm; subst hA_
        refine pp' (Pure.nilCheck rfl) (pp' (Pure.fieldAddr rfl fo141_1) ?_)
        refine RunL.store1 rfl rfl (by first | ((repeat (first | (with_reducible exact F0 _) | apply F1)); done) | (repeat (first | exact F0 _ | apply F1))) sz25 (by rfl) (by simp) (Wt.none rfl) ?_
        try simp only [List.set_cons_zero, List.set_cons_succ]
        refine nl' (sr' (mv' rfl (pp' (Pure.nilCheck rfl) (pp' (Pure.fieldAddr rfl fo141_2) (l1' rfl agg3 ?_)))))
        first | refine RunL.pure (Pure.addI rfl rfl (by omega)) (Wt.none rfl) rfl rfl ?_ | refine RunL.pure (Pure.add rfl rfl) (Wt.none rfl) rfl rfl ?_
        refine pp' (Pure.nilCheck rfl) (pp' (Pure.fieldAddr rfl fo141_2) ?_)
        refine RunL.store1 rfl rfl (by first | ((repeat (first | (with_reducible exact F0 _) | apply F1)); done) | (repeat (first | exact F0 _ | apply F1))) sz3 (by rfl) (by simp) (Wt.none rfl) ?_
        try simp only [List.set_cons_zero, List.set_cons_succ]
        refine nl' (sr' (lA' (cEdu x) rfl agg23 sz23 ?_))
        refine sW' (cEdu x) rfl rfl sz23 ?_
        refine as' rfl (nl' ?_)
        refine Run.mkPk ((es ++ [e]).drop 1) (by repeat (first | (with_reducible exact Take.nil _) | (apply Take.cons (by first | ((repeat (first | (with_reducible exact F0 _) | apply F1)); done) | (repeat (first | exact F0 _ | apply F1)))))) ?_
        exact rt' Tryz.func52 (resV2 rfl (Rv.cellN (us := (cEdu x)) rfl (by first | ((repeat (first | (with_reducible exact F0 _) | apply F1)); done) | (repeat (first | exact F0 _ | apply F1))) agg23 sz23 (by first | exact Nat.le_of_ble_eq_true rfl | (simp; done) | (simp; omega)) rfl) (Rv.tmp rfl)) (by exact ⟨_, _, rfl, by rw [pputL, if_neg hin, if_neg (by omega), pputN, if_neg hin, if_neg (by omega)]⟩)
    · skip
      refine Run.regionD' (by kernel_rfl) (by kernel_rfl) (fun hok122 => ?_)
      refine dp' 0 hok122 rfl (Pure.move rfl) (dp' 1 hok122 rfl (Pure.move rfl) (dp' 2 hok122 rfl (Pure.nilCheck rfl) (dp' 3 hok122 rfl (Pure.fieldAddr rfl fo141_1) ?_)))
      refine RunD.loadNR (vs := (cEdu e)) (i := 5) hok122 rfl (by kernel_rfl) rfl (by assumption) agg23 sz23 (by first | exact Nat.le_of_ble_eq_true rfl | (simp; done) | (simp; omega)) rfl (Wt.none rfl) rfl ?_
      refine RunD.two (i := 4) (j := 6) (by kernel_rfl) rfl rfl ?_ ?_
      · skip
        refine l1' rfl agg25 ?_
        refine RunL.nilD' ?_
        refine RunD.one (i := 6) (by kernel_rfl) rfl ?_
        · skip
          refine RunL.lit (vals := [_]) (vs := ([e] : List Edu).flatMap cEdu) und25 sz23 zz23 rfl rfl rfl rfl rfl rfl (by simp [Value.cells, bv, cDD, cEdu, cEvn, cGG, cK, cM, cNde, cPP, cPos, cSS, cVV]) rfl (Wt.none rfl) rfl ?_; intro b20
          refine RunL.nilD' ?_
          refine RunD.one (i := 7) (by kernel_rfl) rfl ?_
          · skip
            refine RunL.append (m := 1) (n' := (es ++ [e]).length) (cs' := (es ++ [e]).flatMap cEdu) rfl rfl (by first | ((repeat (first | (with_reducible exact F0 _) | apply F1)); done) | (repeat (first | exact F0 _ | apply F1))) rfl rfl und25 und25 rfl sz23 zz23 rfl by23 (by omega) (by omega) (fun w sw => sw.src) (isOne_flat (f := cEdu) (fun _ => rfl)) (by simp) (by rw [List.flatMap_append]) (Wt.none rfl) rfl ?_; intro a3 c3
            refine RunL.nilD' ?_
            refine dp' 8 hok122 rfl (Pure.nilCheck rfl) (dp' 9 hok122 rfl (Pure.fieldAddr rfl fo141_1) ?_)
            refine RunD.one (i := 10) (by kernel_rfl) rfl ?_
            · skip
              refine RunL.store1 rfl rfl (by first | ((repeat (first | (with_reducible exact F0 _) | apply F1)); done) | (repeat (first | exact F0 _ | apply F1))) sz25 (by rfl) (by simp) (Wt.none rfl) ?_
              try simp only [List.set_cons_zero, List.set_cons_succ]
              refine RunL.nilD' ?_
              refine RunD.nilR (by kernel_rfl) ?_
              refine kp' [0, 3, 4] ?_
              exact me' F hk (by exact ⟨a3, c3, rfl, rfl⟩)
      · skip
        refine RunL.lit (vals := [_]) (vs := ([e] : List Edu).flatMap cEdu) und25 sz23 zz23 rfl rfl rfl rfl rfl rfl (by simp [Value.cells, bv, cDD, cEdu, cEvn, cGG, cK, cM, cNde, cPP, cPos, cSS, cVV]) rfl (Wt.none rfl) rfl ?_; intro b20
        refine RunL.nilD' ?_
        refine RunD.one (i := 4) (by kernel_rfl) rfl ?_
        · skip
          refine l1' rfl agg25 ?_
          refine RunL.nilD' ?_
          refine RunD.one (i := 7) (by kernel_rfl) rfl ?_
          · skip
            refine RunL.append (m := 1) (n' := (es ++ [e]).length) (cs' := (es ++ [e]).flatMap cEdu) rfl rfl (by first | ((repeat (first | (with_reducible exact F0 _) | apply F1)); done) | (repeat (first | exact F0 _ | apply F1))) rfl rfl und25 und25 rfl sz23 zz23 rfl by23 (by omega) (by omega) (fun w sw => sw.src) (isOne_flat (f := cEdu) (fun _ => rfl)) (by simp) (by rw [List.flatMap_append]) (Wt.none rfl) rfl ?_; intro a3 c3
            refine RunL.nilD' ?_
            refine dp' 8 hok122 rfl (Pure.nilCheck rfl) (dp' 9 hok122 rfl (Pure.fieldAddr rfl fo141_1) ?_)
            refine RunD.one (i := 10) (by kernel_rfl) rfl ?_
            · skip
              refine RunL.store1 rfl rfl (by first | ((repeat (first | (with_reducible exact F0 _) | apply F1)); done) | (repeat (first | exact F0 _ | apply F1))) sz25 (by rfl) (by simp) (Wt.none rfl) ?_
              try simp only [List.set_cons_zero, List.set_cons_succ]
              refine RunL.nilD' ?_
              refine RunD.nilR (by kernel_rfl) ?_
              refine kp' [0, 3, 4] ?_
              exact me' F hk (by exact ⟨a3, c3, rfl, rfl⟩)

set_option maxHeartbeats 4000000 in
set_option maxRecDepth 100000 in
theorem apart_ctr {G : Gp} {a : Option Addr} {cap : Nat} {xs : List Edu} {g : FuncId} {x1 x2 : Value} {mt : Edu → Bool} (h : SlR G 23 11 a xs.length (xs.flatMap cEdu)) (hb : xs.length ≤ 1000000) (hf : ∀ (G' : Gp), Gp.le G G' → ∀ x, Ctr Tryz.prog G' g [.agg (cEdu x).toArray, x1, x2] [] (fun F v A => v = .bool (mt x) ∧ A = F)) :
    Ctr Tryz.prog G 93 [.slice a xs.length cap, .func (.func g) #[] #[x1, x2]] [] (fun F v A => ∃ a1 c1 a2 c2, v = .tuple #[.slice a1 (xs.filter mt).length c1, .slice a2 (xs.filter fun y => !mt y).length c2] ∧ A = Sl 23 11 a1 ((xs.filter mt)).length c1 (((xs.filter mt)).flatMap cEdu) :: Sl 23 11 a2 ((xs.filter fun y => !mt y)).length c2 (((xs.filter fun y => !mt y)).flatMap cEdu) :: F) := by
  refine Ctr.intro Tryz.func93 rfl (by kernel_rfl) rfl (fun F => ?_)
  simp only [List.nil_append]
  refine Run.nilSl 23 11 ?_
  refine Run.nilSl 23 11 ?_
  refine sr' (as' rfl (as' rfl (nl' (sr' (as' rfl (as' rfl (nl' (sq' (sr' (mv' rfl (pp' (Pure.lenSl rfl rfl und25) (mv' rfl (nl' (bl' ?_))))))))))))))
  refine kp' [1, 6, 7, 10, 11, 12] ?_
  refine lp' F (fun n e_ A => ∃ (i : Nat) (a1 a2 : Option Addr) (c1 c2 : Nat), i ≤ xs.length ∧ n = xs.length - i ∧ e_ = [(1, .func (.func g) #[] #[x1, x2]), (6, .slice a1 ((xs.take i).filter mt).length c1), (7, .slice a2 ((xs.take i).filter fun y => !mt y).length c2), (10, .slice a xs.length cap), (11, .int .i64 (xs.length : Nat)), (12, .int .i64 (i : Nat))] ∧ A = Sl 23 11 a1 (((xs.take i).filter mt)).length c1 ((((xs.take i).filter mt)).flatMap cEdu) :: Sl 23 11 a2 (((xs.take i).filter fun y => !mt y)).length c2 ((((xs.take i).filter fun y => !mt y)).flatMap cEdu) :: F) (xs.length) (by exact ⟨0, none, none, 0, 0, by omega, rfl, rfl, rfl⟩) ?_
  rintro n _ _ ⟨i, a1, a2, c1, c2, hi, rfl, rfl, hA_⟩ ih
  replace hA_ := hA_.symm; subst hA_
  refine sr' (pp' (Pure.lss rfl rfl) (nl' (sq' ?_)))
  refine Run.cond rfl (fun h1 => ?_) (fun h1 => ?_)
  · try simp only [Z] at h1
    obtain ⟨x, hx⟩ := get_some (xs := xs) (i := i) (by omega)
    obtain ⟨bb, Tb_, preb, postb, hpb, hro⟩ := h.open1 (show 0 < xs.length by omega)
    have hf1 : ((xs.take i).filter mt).length ≤ i := Nat.le_trans (List.length_filter_le _ _) (by rw [List.length_take]; omega)
    have hf2 : ((xs.take i).filter fun y => !mt y).length ≤ i := Nat.le_trans (List.length_filter_le _ _) (by rw [List.length_take]; omega)
    refine sk' (sq' (bl' (sr' ?_)))
    refine pp' (Pure.indexAddr (opvSl rfl hpb) rfl und25 sz23 (by omega) (by omega)) ?_
    refine RunL.loadNR (vs := (cEdu x)) rfl hro agg23 sz23 (elemN_len (pre := preb) (post := postb) (f := cEdu) (sz := 11) (j := 0) (n := 11) (fun _ _ => rfl) hx (by decide)) ((elemN_at (pre := preb) (post := postb) (f := cEdu) (sz := 11) (j := 0) (n := 11) (fun _ _ => rfl) hx (by decide)).trans rfl) (Wt.none rfl) rfl ?_
    refine RunL.alloc zz23 (Wt.none rfl) rfl ?_; intro b9
    refine sW' (cEdu x) rfl rfl sz23 ?_
    refine nl' (sr' (mv' rfl (lA' (cEdu x) rfl agg23 sz23 ?_)))
    refine ca' rfl rfl (s := hf G (Gp.le_refl G) x) (q := ?_)
    rintro _ _ ⟨rfl, hA_⟩
    replace hA_ := hA_.symm; subst hA_
    refine nl' ?_
    refine Run.cond rfl (fun h2 => ?_) (fun h2 => ?_)
    · try simp only [Z] at h2
      refine rg' (mv' rfl (lA' (cEdu x) rfl agg23 sz23 ?_))
      refine RunL.lit (vals := [_]) (vs := ([x] : List Edu).flatMap cEdu) und25 sz23 zz23 rfl rfl rfl rfl rfl rfl (by simp [Value.cells, bv, cDD, cEdu, cEvn, cGG, cK, cM, cNde, cPP, cPos, cSS, cVV]) rfl (Wt.none rfl) rfl ?_; intro b21
      refine RunL.append (m := 1) (n' := (((xs.take i).filter mt) ++ [x]).length) (cs' := (((xs.take i).filter mt) ++ [x]).flatMap cEdu) rfl rfl (by first | ((repeat (first | (with_reducible exact F0 _) | apply F1)); done) | (repeat (first | exact F0 _ | apply F1))) rfl rfl und25 und25 rfl sz23 zz23 rfl by23 (by omega) (by omega) (fun w sw => sw.src) (isOne_flat (f := cEdu) (fun _ => rfl)) (by simp) (by rw [List.flatMap_append]) (Wt.none rfl) rfl ?_; intro a3 c3
      refine as' rfl (nl' (ib' (rg' ?_)))
      first | refine RunL.pure (Pure.addI rfl rfl (by omega)) (Wt.none rfl) rfl rfl ?_ | refine RunL.pure (Pure.add rfl rfl) (Wt.none rfl) rfl rfl ?_
      refine mv' rfl (nl' ?_)
      have hs1 : ((xs.take (i + 1)).filter mt) = ((xs.take i).filter mt) ++ [x] := by rw [List.take_add_one, hx, List.filter_append]; simp [h2]
      have hs2 : ((xs.take (i + 1)).filter fun y => !mt y) = ((xs.take i).filter fun y => !mt y) := by rw [List.take_add_one, hx, List.filter_append]; simp [h2]
      rw [← hs1, ← hs2]
      refine kp' [1, 6, 7, 10, 11, 12] ?_
      exact ag' F ih (by exact ⟨i + 1, a3, a2, c3, c2, by omega, rfl, rfl, rfl⟩)
    · try simp only [Z] at h2
      refine rg' (mv' rfl (lA' (cEdu x) rfl agg23 sz23 ?_))
      refine RunL.lit (vals := [_]) (vs := ([x] : List Edu).flatMap cEdu) und25 sz23 zz23 rfl rfl rfl rfl rfl rfl (by simp [Value.cells, bv, cDD, cEdu, cEvn, cGG, cK, cM, cNde, cPP, cPos, cSS, cVV]) rfl (Wt.none rfl) rfl ?_; intro b25
      refine RunL.append (m := 1) (n' := (((xs.take i).filter fun y => !mt y) ++ [x]).length) (cs' := (((xs.take i).filter fun y => !mt y) ++ [x]).flatMap cEdu) rfl rfl (by first | ((repeat (first | (with_reducible exact F0 _) | apply F1)); done) | (repeat (first | exact F0 _ | apply F1))) rfl rfl und25 und25 rfl sz23 zz23 rfl by23 (by omega) (by omega) (fun w sw => sw.src) (isOne_flat (f := cEdu) (fun _ => rfl)) (by simp) (by rw [List.flatMap_append]) (Wt.none rfl) rfl ?_; intro a3 c3
      refine as' rfl (nl' (ib' (rg' ?_)))
      first | refine RunL.pure (Pure.addI rfl rfl (by omega)) (Wt.none rfl) rfl rfl ?_ | refine RunL.pure (Pure.add rfl rfl) (Wt.none rfl) rfl rfl ?_
      refine mv' rfl (nl' ?_)
      have hs1 : ((xs.take (i + 1)).filter mt) = ((xs.take i).filter mt) := by rw [List.take_add_one, hx, List.filter_append]; simp [h2]
      have hs2 : ((xs.take (i + 1)).filter fun y => !mt y) = ((xs.take i).filter fun y => !mt y) ++ [x] := by rw [List.take_add_one, hx, List.filter_append]; simp [h2]
      rw [← hs1, ← hs2]
      refine kp' [1, 6, 7, 10, 11, 12] ?_
      exact ag' F ih (by exact ⟨i + 1, a1, a3, c1, c3, by omega, rfl, rfl, rfl⟩)
  · try simp only [Z] at h1
    refine ex' rfl (sr' (mv' rfl (mv' rfl (as' rfl (as' rfl (nl' ?_))))))
    have hti : xs.take i = xs := List.take_of_length_le (by omega)
    rw [hti]
    exact rt' Tryz.func93 (res2 rfl rfl rfl) (by exact ⟨a1, c1, a2, c2, rfl, rfl⟩)

set_option maxHeartbeats 4000000 in
set_option maxRecDepth 100000 in
theorem TakeC_ctr {G : Gp} {x : Edu} {d1 d2 : Nat} {room event : ByteArray} (h1 : Ro G d1 9 [.string room]) (h2 : Ro G d2 9 [.string event]) :
    Ctr Tryz.prog G 94 [.agg (cEdu x).toArray, .pointer (some ⟨d1, 0, none⟩), .pointer (some ⟨d2, 0, none⟩)] [] (fun F v A => v = .bool (takesB room event x) ∧ A = F) := by
  refine Ctr.intro Tryz.func94 rfl (by kernel_rfl) rfl (fun F => ?_)
  simp only [List.nil_append]
  refine sr' ?_
  refine RunL.boxA (xs := (cEdu x)) rfl (Wt.none rfl) rfl ?_; intro b3
  refine as' rfl (nl' ?_)
  refine la' (row b3 23 _) Lends.row fun G3 hleG3 hrb3 => ?_
  replace h1 := h1.mono hleG3
  replace h2 := h2.mono hleG3
  refine sr' (pp' (Pure.fieldAddr rfl fo23_1) (l1' rfl agg9 ?_))
  refine l1' rfl agg9 ?_
  refine pp' (Pure.seql rfl rfl) (mv' rfl ?_)
  refine RunL.split (d := 9) rfl (fun t1 => ?_) (fun t1 => ?_)
  · try simp only [Z] at t1
    refine py' (Pure.fieldAddr rfl fo23_3) (l1' rfl agg9 ?_)
    refine l1' rfl agg9 ?_
    refine py' (Pure.seql rfl rfl) (pp' (Pure.pickT rfl rfl) (as' rfl (nl' ?_)))
    exact rt' Tryz.func94 (res1 rfl rfl) (by exact ⟨by rw [takesB, decide_eq_true t1]; simp, rfl⟩)
  · try simp only [Z] at t1
    refine no' (no' (no' (no' (pp' (Pure.pickF rfl rfl) (as' rfl (nl' ?_))))))
    exact rt' Tryz.func94 (res1 rfl rfl) (by exact ⟨by rw [takesB, decide_eq_false t1]; rfl, rfl⟩)

set_option maxHeartbeats 4000000 in
set_option maxRecDepth 100000 in
theorem TakeP_ctr {G : Gp} {p : Nat} {most lost : Int} {es : List Edu} {room event : ByteArray} (hb : es.length ≤ 1000000) :
    Ctr Tryz.prog G 56 [.pointer (some ⟨p, 0, none⟩), .string room, .string event] [Pk p most es lost] (fun F v A => ∃ a c, v = .slice a (es.filter (takesB room event)).length c ∧ A = Sl 23 11 a ((es.filter (takesB room event))).length c (((es.filter (takesB room event))).flatMap cEdu) :: Pk p most (es.filter fun y => !takesB room event y) lost :: F) := by
  refine Ctr.intro Tryz.func56 rfl (by kernel_rfl) rfl (fun F => ?_)
  simp only [List.cons_append, List.nil_append]
  refine sr' ?_
  refine RunL.box rfl (Wt.none rfl) rfl ?_; intro b4
  refine RunL.box rfl (Wt.none rfl) rfl ?_; intro b5
  refine as' rfl (nl' ?_)
  refine la' (row b4 9 _) Lends.row fun Ghb4 hleGhb4 hb4 => ?_
  refine la' (row b5 9 _) Lends.row fun Ghb5 hleGhb5 hb5 => ?_
  replace hb4 := hb4.mono hleGhb5
  refine Run.openPk (by first | ((repeat (first | (with_reducible exact F0 _) | apply F1)); done) | (repeat (first | exact F0 _ | apply F1))) ?_; intro a cap
  refine lb' (Sl 23 11 a (es).length cap ((es).flatMap cEdu)) Lends.Sl fun Ghs hleGhs hs backGhs => ?_
  have hb4_Ghs := hb4.mono hleGhs
  have hb5_Ghs := hb5.mono hleGhs
  refine sr' (mv' rfl (pp' (Pure.nilCheck rfl) (pp' (Pure.fieldAddr rfl fo141_1) (l1' rfl agg25 ?_))))
  refine pp' (Pure.makeFunc rfl rfl) ?_
  refine ca' rfl rfl (s := apart_ctr (mt := takesB room event) hs.1 hb (fun G' hle x => TakeC_ctr (hb4_Ghs.mono hle) (hb5_Ghs.mono hle))) (q := ?_)
  rintro _ _ ⟨a1, c1, a2, c2, rfl, hA_⟩
  replace hA_ := hA_.symm; subst hA_
  refine mv' rfl (pp' (Pure.extract rfl rfl) (pp' (Pure.extract rfl rfl) (as' rfl (as' rfl (nl' ?_)))))
  refine Run.backB backGhs ?_
  refine sr' (mv' rfl (mv' rfl (pp' (Pure.nilCheck rfl) (pp' (Pure.fieldAddr rfl fo141_1) ?_))))
  refine RunL.store1 rfl rfl (by first | ((repeat (first | (with_reducible exact F0 _) | apply F1)); done) | (repeat (first | exact F0 _ | apply F1))) sz25 (by rfl) (by simp) (Wt.none rfl) ?_
  try simp only [List.set_cons_zero, List.set_cons_succ]
  refine nl' (sr' (mv' rfl (as' rfl (nl' ?_))))
  refine Run.mkPk ((es.filter fun y => !takesB room event y)) (by repeat (first | (with_reducible exact Take.nil _) | (apply Take.cons (by first | ((repeat (first | (with_reducible exact F0 _) | apply F1)); done) | (repeat (first | exact F0 _ | apply F1)))))) ?_
  exact rt' Tryz.func56 (res1 rfl rfl) (by exact ⟨a1, c1, rfl, rfl⟩)

end Go.Proofs.YtaaondbmkibkkaaGreat
