/- EDUs: made of few. -/
import Derived.Test.YtaaondbmkibkkaaGreatE2
set_option linter.unusedVariables false
set_option linter.unusedSimpArgs false
set_option linter.unusedSectionVars false
namespace Go.Proofs.YtaaondbmkibkkaaGreat
open Go Csl


set_option maxRecDepth 100000 in
theorem Good3_ctr {G : Gp} {e : Edu} (ho : okEdu e) :
    Ctr Tryz.prog G 9 [.agg (cEdu e).toArray] [] (fun F v A => v = .agg (cEdu (goodE e)).toArray ∧ A = F) := by
  refine Ctr.intro Tryz.func9 rfl (by kernel_rfl) rfl (fun F => ?_)
  simp only [List.nil_append]
  obtain ⟨ok1, okr, oku, oke, okt, ok6, ok7, ok8, ok9⟩ := ho
  replace ok1 := wf_i64 ok1; replace ok6 := wf_i64 ok6; replace ok7 := wf_i64 ok7; replace ok8 := wf_i64 ok8; replace ok9 := wf_i64 ok9
  have hk3 := around_lt (z := e.kind) (m := 3) (by decide)
  have hk9 := around_lt (z := e.tick) (m := 9) (by decide)
  have hk60 := around_lt (z := e.span) (m := 60) (by decide)
  refine sr' ?_
  refine RunL.boxA (xs := (cEdu e)) rfl (Wt.none rfl) rfl ?_; intro b1
  refine RunL.alloc zz23 (Wt.none rfl) rfl ?_; intro b2
  refine nl' ?_
  refine la' (row b1 23 _) Lends.row fun G1 hleG1 hrb1 => ?_
  refine sq' ?_
  refine Run.cut (fun e_ A => ∃ b2 b3 : Nat, e_ = [(1, .pointer (some ⟨b1, 0, none⟩)), (2, .pointer (some ⟨b2, 0, none⟩)), (3, .pointer (some ⟨b3, 0, none⟩))] ∧ A = row b3 23 (cEdu (good0 e)) :: row b2 23 [(.int .i64 0), (.string .empty), (.string .empty), (.string .empty), (.string .empty), (.bool false), (.bool false), (.int .i64 0), (.int .i64 0), (.int .i64 0), (.int .i64 0)] :: F) (fun e A hM => ?_) (fun hk => ?_)
  · obtain ⟨b2, b3, rfl, hA_⟩ := hM
    replace hA_ := hA_.symm; subst hA_
    refine sq' (sr' (pp' (Pure.fieldAddr rfl fo23_0) (l1' rfl agg3 ?_)))
    refine nl' (bl' (sr' (pp' (Pure.eql rfl rfl) (as' rfl (nl' ?_)))))
    refine Run.cond rfl (fun h1 => ?_) (fun h1 => ?_)
    · try simp only [Z] at h1
      refine sr' (pp' (Pure.fieldAddr rfl fo23_7) (l1' rfl agg3 ?_))
      refine ca' rfl rfl (s := RoomOf_ctr (z := e.span) (by omega)) (q := ?_)
      rintro _ _ ⟨rfl, hA_⟩
      replace hA_ := hA_.symm; subst hA_
      refine pp' (Pure.fieldAddr rfl fo23_1) ?_
      refine RunL.store1A (cs' := (cEdu ({ good0 e with room := roomOf e.span }))) rfl rfl (by first | ((repeat (first | (with_reducible exact F0 _) | apply F1)); done) | (repeat (first | exact F0 _ | apply F1))) sz9 (by rfl) (by first | exact Nat.le_of_ble_eq_true rfl | (simp; done) | (simp; omega)) rfl (Wt.none rfl) ?_
      refine nl' (sq' ?_)
      refine Run.regionD' (by kernel_rfl) (by kernel_rfl) (fun hok31 => ?_)
      refine dp' 0 hok31 rfl (Pure.fieldAddr rfl fo23_3) (dl' 1 hok31 rfl rfl agg9 ?_)
      refine dp' 2 hok31 rfl (Pure.lenStr rfl rfl und9) (dp' 3 hok31 rfl (Pure.fieldAddr rfl fo23_9) (dl' 4 hok31 rfl rfl agg3 ?_))
      refine RunD.one (i := 5) (by kernel_rfl) rfl ?_
      refine ca' rfl rfl (s := Around_ctr (z := e.tick) (by omega) (by decide)) (q := ?_)
      rintro _ _ ⟨rfl, hA_⟩
      replace hA_ := hA_.symm; subst hA_
      refine RunL.nilD' ?_
      first | refine RunD.pure (i := 6) hok31 rfl (by kernel_rfl) (Pure.addI rfl rfl (by omega)) (Wt.none rfl) rfl rfl ?_ | refine RunD.pure (i := 6) hok31 rfl (by kernel_rfl) (Pure.add rfl rfl) (Wt.none rfl) rfl rfl ?_
      refine RunD.one (i := 7) (by kernel_rfl) rfl ?_
      refine ca' rfl rfl (s := EventOf_ctr (z := evNum e) (wrap_range _)) (q := ?_)
      rintro _ _ ⟨rfl, hA_⟩
      replace hA_ := hA_.symm; subst hA_
      refine RunL.nilD' ?_
      refine dp' 8 hok31 rfl (Pure.fieldAddr rfl fo23_3) ?_
      refine RunD.one (i := 9) (by kernel_rfl) rfl ?_
      refine RunL.store1A (cs' := (cEdu ({ good0 e with room := roomOf e.span, event := eventOf (evNum e) }))) rfl rfl (by first | ((repeat (first | (with_reducible exact F0 _) | apply F1)); done) | (repeat (first | exact F0 _ | apply F1))) sz9 (by rfl) (by first | exact Nat.le_of_ble_eq_true rfl | (simp; done) | (simp; omega)) rfl (Wt.none rfl) ?_
      refine RunL.nilD' ?_
      refine RunD.nilR (by kernel_rfl) ?_
      refine sr' (pp' (Pure.fieldAddr rfl fo23_4) (l1' rfl agg9 ?_))
      refine pp' (Pure.lenStr rfl rfl und9) ?_
      refine ca' rfl rfl (s := ThreadOf_ctr (z := e.thread.size) (by omega)) (q := ?_)
      rintro _ _ ⟨rfl, hA_⟩
      replace hA_ := hA_.symm; subst hA_
      refine pp' (Pure.fieldAddr rfl fo23_4) ?_
      refine RunL.store1A (cs' := (cEdu ({ good0 e with room := roomOf e.span, event := eventOf (evNum e), thread := threadOf e.thread.size }))) rfl rfl (by first | ((repeat (first | (with_reducible exact F0 _) | apply F1)); done) | (repeat (first | exact F0 _ | apply F1))) sz9 (by rfl) (by first | exact Nat.le_of_ble_eq_true rfl | (simp; done) | (simp; omega)) rfl (Wt.none rfl) ?_
      refine nl' (rg' (pp' (Pure.fieldAddr rfl fo23_5) (l1' rfl agg4 ?_)))
      refine pp' (Pure.fieldAddr rfl fo23_5) ?_
      refine RunL.store1A (cs' := (cEdu ({ good0 e with room := roomOf e.span, event := eventOf (evNum e), thread := threadOf e.thread.size, priv := e.priv }))) rfl rfl (by first | ((repeat (first | (with_reducible exact F0 _) | apply F1)); done) | (repeat (first | exact F0 _ | apply F1))) sz4 (by rfl) (by first | exact Nat.le_of_ble_eq_true rfl | (simp; done) | (simp; omega)) rfl (Wt.none rfl) ?_
      refine nl' (ib' (sr' (lA' (cEdu ({ good0 e with room := roomOf e.span, event := eventOf (evNum e), thread := threadOf e.thread.size, priv := e.priv })) rfl agg23 sz23 ?_)))
      refine sW' (cEdu ({ good0 e with room := roomOf e.span, event := eventOf (evNum e), thread := threadOf e.thread.size, priv := e.priv })) rfl rfl sz23 ?_
      refine nl' ?_
      exact rt' Tryz.func9 (resV1 rfl (Rv.cellN (us := (cEdu ({ good0 e with room := roomOf e.span, event := eventOf (evNum e), thread := threadOf e.thread.size, priv := e.priv }))) rfl (by first | ((repeat (first | (with_reducible exact F0 _) | apply F1)); done) | (repeat (first | exact F0 _ | apply F1))) agg23 sz23 (by first | exact Nat.le_of_ble_eq_true rfl | (simp; done) | (simp; omega)) rfl)) (by exact ⟨by rw [show goodE e = { good0 e with room := roomOf e.span, event := eventOf (evNum e), thread := threadOf e.thread.size, priv := e.priv } from by unfold goodE; rw [if_pos h1]], rfl⟩)
    · try simp only [Z] at h1
      refine sr' (pp' (Pure.eql rfl rfl) (as' rfl (nl' ?_)))
      refine Run.cond rfl (fun h2 => ?_) (fun h2 => ?_)
      · try simp only [Z] at h2
        refine sr' (pp' (Pure.fieldAddr rfl fo23_7) (l1' rfl agg3 ?_))
        refine ca' rfl rfl (s := RoomOf_ctr (z := e.span) (by omega)) (q := ?_)
        rintro _ _ ⟨rfl, hA_⟩
        replace hA_ := hA_.symm; subst hA_
        refine pp' (Pure.fieldAddr rfl fo23_1) ?_
        refine RunL.store1A (cs' := (cEdu ({ good0 e with room := roomOf e.span }))) rfl rfl (by first | ((repeat (first | (with_reducible exact F0 _) | apply F1)); done) | (repeat (first | exact F0 _ | apply F1))) sz9 (by rfl) (by first | exact Nat.le_of_ble_eq_true rfl | (simp; done) | (simp; omega)) rfl (Wt.none rfl) ?_
        refine nl' (sr' (pp' (Pure.fieldAddr rfl fo23_6) (l1' rfl agg4 ?_)))
        refine pp' (Pure.fieldAddr rfl fo23_6) ?_
        refine RunL.store1A (cs' := (cEdu ({ good0 e with room := roomOf e.span, typing := e.typing }))) rfl rfl (by first | ((repeat (first | (with_reducible exact F0 _) | apply F1)); done) | (repeat (first | exact F0 _ | apply F1))) sz4 (by rfl) (by first | exact Nat.le_of_ble_eq_true rfl | (simp; done) | (simp; omega)) rfl (Wt.none rfl) ?_
        refine nl' (sr' (pp' (Pure.fieldAddr rfl fo23_6) (l1' rfl agg4 ?_)))
        refine nl' ?_
        refine Run.cond rfl (fun h3 => ?_) (fun h3 => ?_)
        · try simp only [Z] at h3
          refine rg' (pp' (Pure.fieldAddr rfl fo23_7) (l1' rfl agg3 ?_))
          refine ca' rfl rfl (s := Around_ctr (z := e.span) (by omega) (by decide)) (q := ?_)
          rintro _ _ ⟨rfl, hA_⟩
          replace hA_ := hA_.symm; subst hA_
          first | refine RunL.pure (Pure.addI rfl rfl (by omega)) (Wt.none rfl) rfl rfl ?_ | refine RunL.pure (Pure.add rfl rfl) (Wt.none rfl) rfl rfl ?_
          refine pp' (Pure.fieldAddr rfl fo23_7) ?_
          refine RunL.store1A (cs' := (cEdu ({ good0 e with room := roomOf e.span, typing := e.typing, span := 1 + around e.span 60 }))) rfl rfl (by first | ((repeat (first | (with_reducible exact F0 _) | apply F1)); done) | (repeat (first | exact F0 _ | apply F1))) sz3 (by rfl) (by first | exact Nat.le_of_ble_eq_true rfl | (simp; done) | (simp; omega)) rfl (Wt.none rfl) ?_
          refine nl' (ib' (sr' (lA' (cEdu ({ good0 e with room := roomOf e.span, typing := e.typing, span := 1 + around e.span 60 })) rfl agg23 sz23 ?_)))
          refine sW' (cEdu ({ good0 e with room := roomOf e.span, typing := e.typing, span := 1 + around e.span 60 })) rfl rfl sz23 ?_
          refine nl' ?_
          exact rt' Tryz.func9 (resV1 rfl (Rv.cellN (us := (cEdu ({ good0 e with room := roomOf e.span, typing := e.typing, span := 1 + around e.span 60 }))) rfl (by first | ((repeat (first | (with_reducible exact F0 _) | apply F1)); done) | (repeat (first | exact F0 _ | apply F1))) agg23 sz23 (by first | exact Nat.le_of_ble_eq_true rfl | (simp; done) | (simp; omega)) rfl)) (by exact ⟨by rw [show goodE e = { good0 e with room := roomOf e.span, typing := e.typing, span := 1 + around e.span 60 } from by unfold goodE; rw [if_neg h1, if_pos h2, if_pos h3]], rfl⟩)
        · try simp only [Z] at h3
          refine sk' (ib' (sr' (lA' (cEdu ({ good0 e with room := roomOf e.span, typing := e.typing })) rfl agg23 sz23 ?_)))
          refine sW' (cEdu ({ good0 e with room := roomOf e.span, typing := e.typing })) rfl rfl sz23 ?_
          refine nl' ?_
          exact rt' Tryz.func9 (resV1 rfl (Rv.cellN (us := (cEdu ({ good0 e with room := roomOf e.span, typing := e.typing }))) rfl (by first | ((repeat (first | (with_reducible exact F0 _) | apply F1)); done) | (repeat (first | exact F0 _ | apply F1))) agg23 sz23 (by first | exact Nat.le_of_ble_eq_true rfl | (simp; done) | (simp; omega)) rfl)) (by exact ⟨by rw [show goodE e = { good0 e with room := roomOf e.span, typing := e.typing } from by unfold goodE; rw [if_neg h1, if_pos h2, if_neg (by rw [h3]; decide)]; rfl], rfl⟩)
      · try simp only [Z] at h2
        refine rg' (pp' (Pure.fieldAddr rfl fo23_7) (l1' rfl agg3 ?_))
        refine ca' rfl rfl (s := Around_ctr (z := e.span) (by omega) (by decide)) (q := ?_)
        rintro _ _ ⟨rfl, hA_⟩
        replace hA_ := hA_.symm; subst hA_
        refine pp' (Pure.fieldAddr rfl fo23_8) ?_
        refine RunL.store1A (cs' := (cEdu ({ good0 e with state := around e.span 3 }))) rfl rfl (by first | ((repeat (first | (with_reducible exact F0 _) | apply F1)); done) | (repeat (first | exact F0 _ | apply F1))) sz3 (by rfl) (by first | exact Nat.le_of_ble_eq_true rfl | (simp; done) | (simp; omega)) rfl (Wt.none rfl) ?_
        refine nl' (ib' (sr' (lA' (cEdu ({ good0 e with state := around e.span 3 })) rfl agg23 sz23 ?_)))
        refine sW' (cEdu ({ good0 e with state := around e.span 3 })) rfl rfl sz23 ?_
        refine nl' ?_
        exact rt' Tryz.func9 (resV1 rfl (Rv.cellN (us := (cEdu ({ good0 e with state := around e.span 3 }))) rfl (by first | ((repeat (first | (with_reducible exact F0 _) | apply F1)); done) | (repeat (first | exact F0 _ | apply F1))) agg23 sz23 (by first | exact Nat.le_of_ble_eq_true rfl | (simp; done) | (simp; omega)) rfl)) (by exact ⟨by rw [show goodE e = { good0 e with state := around e.span 3 } from by unfold goodE; rw [if_neg h1, if_neg h2]], rfl⟩)
  · skip
    refine Run.regionD' (by kernel_rfl) (by kernel_rfl) (fun hok144 => ?_)
    refine dp' 0 hok144 rfl (Pure.fieldAddr rfl fo23_0) (dl' 1 hok144 rfl rfl agg3 ?_)
    refine dp' 4 hok144 rfl (Pure.fieldAddr rfl fo23_8) (dl' 5 hok144 rfl rfl agg3 ?_)
    refine dp' 7 hok144 rfl (Pure.fieldAddr rfl fo23_9) (dl' 8 hok144 rfl rfl agg3 ?_)
    refine dp' 10 hok144 rfl (Pure.fieldAddr rfl fo23_10) (dl' 11 hok144 rfl rfl agg3 ?_)
    refine RunD.two (i := 2) (j := 14) (by kernel_rfl) rfl rfl ?_ ?_
    · skip
      refine ca' rfl rfl (s := Around_ctr (z := e.kind) (by omega) (by decide)) (q := ?_)
      rintro _ _ ⟨rfl, hA_⟩
      replace hA_ := hA_.symm; subst hA_
      refine RunL.nilD' ?_
      first | refine RunD.pure (i := 3) hok144 rfl (by kernel_rfl) (Pure.addI rfl rfl (by omega)) (Wt.none rfl) rfl rfl ?_ | refine RunD.pure (i := 3) hok144 rfl (by kernel_rfl) (Pure.add rfl rfl) (Wt.none rfl) rfl rfl ?_
      refine RunD.two (i := 6) (j := 14) (by kernel_rfl) rfl rfl ?_ ?_
      · skip
        refine ca' rfl rfl (s := UserOf_ctr (z := e.state) (by omega)) (q := ?_)
        rintro _ _ ⟨rfl, hA_⟩
        replace hA_ := hA_.symm; subst hA_
        refine RunL.nilD' ?_
        refine RunD.two (i := 9) (j := 14) (by kernel_rfl) rfl rfl ?_ ?_
        · skip
          refine ca' rfl rfl (s := Around_ctr (z := e.tick) (by omega) (by decide)) (q := ?_)
          rintro _ _ ⟨rfl, hA_⟩
          replace hA_ := hA_.symm; subst hA_
          refine RunL.nilD' ?_
          refine RunD.two (i := 12) (j := 14) (by kernel_rfl) rfl rfl ?_ ?_
          · skip
            refine ca' rfl rfl (s := Around_ctr (z := e.stamp) (by omega) (by decide)) (q := ?_)
            rintro _ _ ⟨rfl, hA_⟩
            replace hA_ := hA_.symm; subst hA_
            refine RunL.nilD' ?_
            refine dp' 13 hok144 rfl (Pure.buildL (ps := [(0, _), (2, _), (9, _), (10, _)]) (zs := [(.int .i64 0), (.string .empty), (.string .empty), (.string .empty), (.string .empty), (.bool false), (.bool false), (.int .i64 0), (.int .i64 0), (.int .i64 0), (.int .i64 0)]) (xs := (cEdu (good0 e))) pl23 rfl rfl rfl rfl) ?_
            refine RunD.one (i := 14) (by kernel_rfl) rfl ?_
            · skip
              refine RunL.alloc zz23 (Wt.none rfl) rfl ?_; intro b3
              refine RunL.nilD' ?_
              refine RunD.one (i := 15) (by kernel_rfl) rfl ?_
              · skip
                refine sW' (cEdu (good0 e)) rfl rfl sz23 ?_
                refine RunL.nilD' ?_
                refine RunD.nilR (by kernel_rfl) ?_
                refine kp' [1, 2, 3] ?_
                exact me' F hk (by exact ⟨b2, b3, rfl, rfl⟩)
          · skip
            refine RunL.alloc zz23 (Wt.none rfl) rfl ?_; intro b3
            refine RunL.nilD' ?_
            refine RunD.one (i := 12) (by kernel_rfl) rfl ?_
            · skip
              refine ca' rfl rfl (s := Around_ctr (z := e.stamp) (by omega) (by decide)) (q := ?_)
              rintro _ _ ⟨rfl, hA_⟩
              replace hA_ := hA_.symm; subst hA_
              refine RunL.nilD' ?_
              refine dp' 13 hok144 rfl (Pure.buildL (ps := [(0, _), (2, _), (9, _), (10, _)]) (zs := [(.int .i64 0), (.string .empty), (.string .empty), (.string .empty), (.string .empty), (.bool false), (.bool false), (.int .i64 0), (.int .i64 0), (.int .i64 0), (.int .i64 0)]) (xs := (cEdu (good0 e))) pl23 rfl rfl rfl rfl) ?_
              refine RunD.one (i := 15) (by kernel_rfl) rfl ?_
              · skip
                refine sW' (cEdu (good0 e)) rfl rfl sz23 ?_
                refine RunL.nilD' ?_
                refine RunD.nilR (by kernel_rfl) ?_
                refine kp' [1, 2, 3] ?_
                exact me' F hk (by exact ⟨b2, b3, rfl, rfl⟩)
        · skip
          refine RunL.alloc zz23 (Wt.none rfl) rfl ?_; intro b3
          refine RunL.nilD' ?_
          refine RunD.one (i := 9) (by kernel_rfl) rfl ?_
          · skip
            refine ca' rfl rfl (s := Around_ctr (z := e.tick) (by omega) (by decide)) (q := ?_)
            rintro _ _ ⟨rfl, hA_⟩
            replace hA_ := hA_.symm; subst hA_
            refine RunL.nilD' ?_
            refine RunD.one (i := 12) (by kernel_rfl) rfl ?_
            · skip
              refine ca' rfl rfl (s := Around_ctr (z := e.stamp) (by omega) (by decide)) (q := ?_)
              rintro _ _ ⟨rfl, hA_⟩
              replace hA_ := hA_.symm; subst hA_
              refine RunL.nilD' ?_
              refine dp' 13 hok144 rfl (Pure.buildL (ps := [(0, _), (2, _), (9, _), (10, _)]) (zs := [(.int .i64 0), (.string .empty), (.string .empty), (.string .empty), (.string .empty), (.bool false), (.bool false), (.int .i64 0), (.int .i64 0), (.int .i64 0), (.int .i64 0)]) (xs := (cEdu (good0 e))) pl23 rfl rfl rfl rfl) ?_
              refine RunD.one (i := 15) (by kernel_rfl) rfl ?_
              · skip
                refine sW' (cEdu (good0 e)) rfl rfl sz23 ?_
                refine RunL.nilD' ?_
                refine RunD.nilR (by kernel_rfl) ?_
                refine kp' [1, 2, 3] ?_
                exact me' F hk (by exact ⟨b2, b3, rfl, rfl⟩)
      · skip
        refine RunL.alloc zz23 (Wt.none rfl) rfl ?_; intro b3
        refine RunL.nilD' ?_
        refine RunD.one (i := 6) (by kernel_rfl) rfl ?_
        · skip
          refine ca' rfl rfl (s := UserOf_ctr (z := e.state) (by omega)) (q := ?_)
          rintro _ _ ⟨rfl, hA_⟩
          replace hA_ := hA_.symm; subst hA_
          refine RunL.nilD' ?_
          refine RunD.one (i := 9) (by kernel_rfl) rfl ?_
          · skip
            refine ca' rfl rfl (s := Around_ctr (z := e.tick) (by omega) (by decide)) (q := ?_)
            rintro _ _ ⟨rfl, hA_⟩
            replace hA_ := hA_.symm; subst hA_
            refine RunL.nilD' ?_
            refine RunD.one (i := 12) (by kernel_rfl) rfl ?_
            · skip
              refine ca' rfl rfl (s := Around_ctr (z := e.stamp) (by omega) (by decide)) (q := ?_)
              rintro _ _ ⟨rfl, hA_⟩
              replace hA_ := hA_.symm; subst hA_
              refine RunL.nilD' ?_
              refine dp' 13 hok144 rfl (Pure.buildL (ps := [(0, _), (2, _), (9, _), (10, _)]) (zs := [(.int .i64 0), (.string .empty), (.string .empty), (.string .empty), (.string .empty), (.bool false), (.bool false), (.int .i64 0), (.int .i64 0), (.int .i64 0), (.int .i64 0)]) (xs := (cEdu (good0 e))) pl23 rfl rfl rfl rfl) ?_
              refine RunD.one (i := 15) (by kernel_rfl) rfl ?_
              · skip
                refine sW' (cEdu (good0 e)) rfl rfl sz23 ?_
                refine RunL.nilD' ?_
                refine RunD.nilR (by kernel_rfl) ?_
                refine kp' [1, 2, 3] ?_
                exact me' F hk (by exact ⟨b2, b3, rfl, rfl⟩)
    · skip
      refine RunL.alloc zz23 (Wt.none rfl) rfl ?_; intro b3
      refine RunL.nilD' ?_
      refine RunD.one (i := 2) (by kernel_rfl) rfl ?_
      · skip
        refine ca' rfl rfl (s := Around_ctr (z := e.kind) (by omega) (by decide)) (q := ?_)
        rintro _ _ ⟨rfl, hA_⟩
        replace hA_ := hA_.symm; subst hA_
        refine RunL.nilD' ?_
        first | refine RunD.pure (i := 3) hok144 rfl (by kernel_rfl) (Pure.addI rfl rfl (by omega)) (Wt.none rfl) rfl rfl ?_ | refine RunD.pure (i := 3) hok144 rfl (by kernel_rfl) (Pure.add rfl rfl) (Wt.none rfl) rfl rfl ?_
        refine RunD.one (i := 6) (by kernel_rfl) rfl ?_
        · skip
          refine ca' rfl rfl (s := UserOf_ctr (z := e.state) (by omega)) (q := ?_)
          rintro _ _ ⟨rfl, hA_⟩
          replace hA_ := hA_.symm; subst hA_
          refine RunL.nilD' ?_
          refine RunD.one (i := 9) (by kernel_rfl) rfl ?_
          · skip
            refine ca' rfl rfl (s := Around_ctr (z := e.tick) (by omega) (by decide)) (q := ?_)
            rintro _ _ ⟨rfl, hA_⟩
            replace hA_ := hA_.symm; subst hA_
            refine RunL.nilD' ?_
            refine RunD.one (i := 12) (by kernel_rfl) rfl ?_
            · skip
              refine ca' rfl rfl (s := Around_ctr (z := e.stamp) (by omega) (by decide)) (q := ?_)
              rintro _ _ ⟨rfl, hA_⟩
              replace hA_ := hA_.symm; subst hA_
              refine RunL.nilD' ?_
              refine dp' 13 hok144 rfl (Pure.buildL (ps := [(0, _), (2, _), (9, _), (10, _)]) (zs := [(.int .i64 0), (.string .empty), (.string .empty), (.string .empty), (.string .empty), (.bool false), (.bool false), (.int .i64 0), (.int .i64 0), (.int .i64 0), (.int .i64 0)]) (xs := (cEdu (good0 e))) pl23 rfl rfl rfl rfl) ?_
              refine RunD.one (i := 15) (by kernel_rfl) rfl ?_
              · skip
                refine sW' (cEdu (good0 e)) rfl rfl sz23 ?_
                refine RunL.nilD' ?_
                refine RunD.nilR (by kernel_rfl) ?_
                refine kp' [1, 2, 3] ?_
                exact me' F hk (by exact ⟨b2, b3, rfl, rfl⟩)

set_option maxRecDepth 100000 in
theorem Few3_ctr {G : Gp} {e : Edu} :
    Ctr Tryz.prog G 8 [.agg (cEdu e).toArray] [] (fun F v A => v = .agg (cEdu (fewE e)).toArray ∧ A = F) := by
  refine Ctr.intro Tryz.func8 rfl (by kernel_rfl) rfl (fun F => ?_)
  simp only [List.nil_append]
  refine sr' ?_
  refine RunL.boxA (xs := (cEdu e)) rfl (Wt.none rfl) rfl ?_; intro b1
  refine RunL.alloc zz23 (Wt.none rfl) rfl ?_; intro b2
  refine nl' (sr' (pp' (Pure.fieldAddr rfl fo23_1) (l1' rfl agg9 ?_)))
  refine ca' rfl rfl (s := FewC_ctr (m := 40) (by decide) (by decide)) (q := ?_)
  rintro _ _ ⟨rfl, hA_⟩
  replace hA_ := hA_.symm; subst hA_
  refine pp' (Pure.fieldAddr rfl fo23_1) ?_
  refine RunL.store1A (cs' := (cEdu ({ e with room := cut e.room 40 }))) rfl rfl (by first | ((repeat (first | (with_reducible exact F0 _) | apply F1)); done) | (repeat (first | exact F0 _ | apply F1))) sz9 (by rfl) (by first | exact Nat.le_of_ble_eq_true rfl | (simp; done) | (simp; omega)) rfl (Wt.none rfl) ?_
  refine nl' (sr' (pp' (Pure.fieldAddr rfl fo23_2) (l1' rfl agg9 ?_)))
  refine ca' rfl rfl (s := FewC_ctr (m := 40) (by decide) (by decide)) (q := ?_)
  rintro _ _ ⟨rfl, hA_⟩
  replace hA_ := hA_.symm; subst hA_
  refine pp' (Pure.fieldAddr rfl fo23_2) ?_
  refine RunL.store1A (cs' := (cEdu ({ e with room := cut e.room 40, user := cut e.user 40 }))) rfl rfl (by first | ((repeat (first | (with_reducible exact F0 _) | apply F1)); done) | (repeat (first | exact F0 _ | apply F1))) sz9 (by rfl) (by first | exact Nat.le_of_ble_eq_true rfl | (simp; done) | (simp; omega)) rfl (Wt.none rfl) ?_
  refine nl' (sr' (pp' (Pure.fieldAddr rfl fo23_3) (l1' rfl agg9 ?_)))
  refine ca' rfl rfl (s := FewC_ctr (m := 40) (by decide) (by decide)) (q := ?_)
  rintro _ _ ⟨rfl, hA_⟩
  replace hA_ := hA_.symm; subst hA_
  refine pp' (Pure.fieldAddr rfl fo23_3) ?_
  refine RunL.store1A (cs' := (cEdu ({ e with room := cut e.room 40, user := cut e.user 40, event := cut e.event 40 }))) rfl rfl (by first | ((repeat (first | (with_reducible exact F0 _) | apply F1)); done) | (repeat (first | exact F0 _ | apply F1))) sz9 (by rfl) (by first | exact Nat.le_of_ble_eq_true rfl | (simp; done) | (simp; omega)) rfl (Wt.none rfl) ?_
  refine nl' (sr' (pp' (Pure.fieldAddr rfl fo23_4) (l1' rfl agg9 ?_)))
  refine ca' rfl rfl (s := FewC_ctr (m := 40) (by decide) (by decide)) (q := ?_)
  rintro _ _ ⟨rfl, hA_⟩
  replace hA_ := hA_.symm; subst hA_
  refine pp' (Pure.fieldAddr rfl fo23_4) ?_
  refine RunL.store1A (cs' := (cEdu (fewE e))) rfl rfl (by first | ((repeat (first | (with_reducible exact F0 _) | apply F1)); done) | (repeat (first | exact F0 _ | apply F1))) sz9 (by rfl) (by first | exact Nat.le_of_ble_eq_true rfl | (simp; done) | (simp; omega)) rfl (Wt.none rfl) ?_
  refine nl' (sr' (lA' (cEdu (fewE e)) rfl agg23 sz23 ?_))
  refine sW' (cEdu (fewE e)) rfl rfl sz23 ?_
  refine nl' ?_
  exact rt' Tryz.func8 (resV1 rfl (Rv.cellN (us := (cEdu (fewE e))) rfl (by first | ((repeat (first | (with_reducible exact F0 _) | apply F1)); done) | (repeat (first | exact F0 _ | apply F1))) agg23 sz23 (by first | exact Nat.le_of_ble_eq_true rfl | (simp; done) | (simp; omega)) rfl)) (by exact ⟨rfl, rfl⟩)

end Go.Proofs.YtaaondbmkibkkaaGreat
