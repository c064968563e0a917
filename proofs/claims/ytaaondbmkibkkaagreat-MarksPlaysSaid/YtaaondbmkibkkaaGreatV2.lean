/- Views: what is added. -/
import Derived.Test.YtaaondbmkibkkaaGreatV1
set_option linter.unusedVariables false
set_option linter.unusedSimpArgs false
set_option linter.unusedSectionVars false
namespace Go.Proofs.YtaaondbmkibkkaaGreat
open Go Csl


set_option maxHeartbeats 4000000 in
set_option maxRecDepth 100000 in
theorem AddV_ctr {G : Gp} {p : Nat} {vl : VL} {e : Evn} {ps : List ByteArray} (hp : HasPs G e ps) (hw : evWf (e.ev ps)) (hl : ∀ r, (vget vl r).length ≤ 1000000) :
    Ctr Tryz.prog G 21 [.pointer (some ⟨p, 0, none⟩), .agg (cEvn e).toArray] [Vw p vl] (fun F v A => v = .int .i64 (addRc e.room (vget vl e.room) (e.ev ps)) ∧ A = Vw p (vaddL vl (e.ev ps)) :: F) := by
  refine Ctr.intro Tryz.func21 rfl (by kernel_rfl) rfl (fun F => ?_)
  simp only [List.cons_append, List.nil_append]
  refine Run.openVw (by first | ((repeat (first | (with_reducible exact F0 _) | apply F1)); done) | (repeat (first | exact F0 _ | apply F1))) ?_; intro r xs hxl; subst hxl
  refine sr' ?_
  refine RunL.boxA (xs := (cEvn e)) rfl (Wt.none rfl) rfl ?_; intro b3
  refine as' rfl (nl' ?_)
  refine la' (row b3 49 _) Lends.row fun G3 hleG3 hrb3 => ?_
  replace hp := hp.mono hleG3
  refine lb' (row p 102 _) Lends.row fun Ghr hleGhr hr backGhr => ?_
  have hp_Ghr := hp.mono hleGhr
  have hrb3_Ghr := hrb3.mono hleGhr
  refine lb' (Mp r _) Lends.Mp fun Ghm hleGhm hm backGhm => ?_
  have hp_Ghm := hp_Ghr.mono hleGhm
  have hrb3_Ghm := hrb3_Ghr.mono hleGhm
  have hr_Ghm := hr.mono hleGhm
  refine sr' (mv' rfl (pp' (Pure.fieldAddr rfl fo49_1) (l1' rfl agg9 ?_)))
  refine ca' rfl rfl (s := room0_ctr (room := e.room) hr_Ghm hm) (q := ?_)
  rintro _ _ h0
  rcases h0 with ⟨pd, hg, rfl, hA_⟩ | ⟨hg, pd, rfl, hA_⟩
  · skip
    replace hA_ := hA_.symm; subst hA_
    obtain ⟨s, t, l, hxs, hns, hvl⟩ := xv_get hg
    have hv := xv_vget hvl
    refine as' rfl (nl' ?_)
    refine Run.backB backGhm ?_
    refine Run.backB backGhr ?_
    refine Run.starsPeel (xs.map dgA) (s := s.map dgA) (t := t.map dgA) (Q := dgA (e.room, pd, l)) (by first | ((repeat (first | (with_reducible exact F0 _) | apply F1)); done) | (repeat (first | exact F0 _ | apply F1))) (by rw [hxs, List.map_append, List.map_cons]) ?_
    refine sq' (sr' (mv' rfl (lA' (cEvn e) rfl agg49 sz49 ?_)))
    refine ca' rfl rfl (s := Add_ctr (p := pd) (room := e.room) (l := l) hp hw (by rw [← hv]; exact hl _)) (q := ?_)
    rintro _ _ ⟨rfl, hA_⟩
    replace hA_ := hA_.symm; subst hA_
    refine as' rfl (nl' (sr' (mv' rfl (pp' (Pure.neq rfl rfl) (nl' ?_)))))
    refine Run.cond rfl (fun h3 => ?_) (fun h3 => ?_)
    · try simp only [Z] at h3
      refine sr' (mv' rfl (as' rfl (nl' ?_)))
      rw [addL_no h3]
      refine Run.starsBack (xs.map dgA) (s := s.map dgA) (t := t.map dgA) (Q := dgA (e.room, pd, l)) (by repeat (first | (with_reducible exact Take.nil _) | (apply Take.cons (by first | ((repeat (first | (with_reducible exact F0 _) | apply F1)); done) | (repeat (first | exact F0 _ | apply F1)))))) (by simp only [List.map_append, List.map_cons, hxs]) ?_
      refine Run.mkVw r (xs) (rfl) (by repeat (first | (with_reducible exact Take.nil _) | (apply Take.cons (by first | ((repeat (first | (with_reducible exact F0 _) | apply F1)); done) | (repeat (first | exact F0 _ | apply F1)))))) ?_
      exact rt' Tryz.func21 (res1 rfl rfl) (by exact ⟨by rw [hv], by rw [vadd_no (by rw [show (e.ev ps).room = e.room from rfl, hv]; exact h3)]⟩)
    · try simp only [Z] at h3
      refine sk' (sq' ?_)
      refine Run.regionD' (by kernel_rfl) (by kernel_rfl) (fun hok55 => ?_)
      refine ld' (row p 102 _) Lends.row ?_; intro g1 hleg1 hb1 backg1
      have hp_g1 := hp.mono hleg1
      have hrb3_g1 := hrb3.mono hleg1
      refine dp' 0 hok55 rfl (Pure.move rfl) (dp' 1 hok55 rfl (Pure.nilCheck rfl) (dp' 2 hok55 rfl (Pure.fieldAddr rfl fo102_0) (dl' 3 hok55 rfl rfl agg100 ?_)))
      refine dp' 4 hok55 rfl (Pure.fieldAddr rfl fo49_1) (dl' 5 hok55 rfl rfl agg9 ?_)
      refine dp' 6 hok55 rfl (Pure.move rfl) ?_
      refine RunD.one (i := 7) (by kernel_rfl) rfl ?_
      refine RunL.mapUpdate (k := e.room) (v := pd) (ev := eN) rfl rfl rfl (by first | ((repeat (first | (with_reducible exact F0 _) | apply F1)); done) | (repeat (first | exact F0 _ | apply F1))) und100 (KeyT.string und9) (Wt.none rfl) ?_
      refine RunL.nilD' ?_
      refine RunD.nilB (by kernel_rfl) (fun w sw => backg1 _ _ (sw)) ?_
      refine sr' (as' rfl (nl' ?_))
      rw [addL_ok h3, xv_same hxs hns, ← (xv_set (l' := l ++ [(e.ev ps)]) hxs hns).2, vadd_ok (v := (e.ev ps)) (by rw [show (e.ev ps).room = e.room from rfl, hv]; exact h3)]
      refine Run.starsBack ((s ++ (e.room, pd, l ++ [(e.ev ps)]) :: t : XV).map dgA) (s := s.map dgA) (t := t.map dgA) (Q := dgA (e.room, pd, l ++ [(e.ev ps)])) (by repeat (first | (with_reducible exact Take.nil _) | (apply Take.cons (by first | ((repeat (first | (with_reducible exact F0 _) | apply F1)); done) | (repeat (first | exact F0 _ | apply F1)))))) (by simp only [List.map_append, List.map_cons, hxs]) ?_
      refine Run.mkVw (vl := mput (e.ev ps).room (vget xs.vl (e.ev ps).room ++ [e.ev ps]) xs.vl) r ((s ++ (e.room, pd, l ++ [(e.ev ps)]) :: t : XV)) (by show _ = mput e.room (vget xs.vl e.room ++ [e.ev ps]) xs.vl; rw [hv]; exact (xv_set hxs hns).1.symm) (by repeat (first | (with_reducible exact Take.nil _) | (apply Take.cons (by first | ((repeat (first | (with_reducible exact F0 _) | apply F1)); done) | (repeat (first | exact F0 _ | apply F1)))))) ?_
      exact rt' Tryz.func21 (res1 rfl rfl) (by exact ⟨by rw [hv, h3], rfl⟩)
  · skip
    replace hA_ := hA_.symm; subst hA_
    have hv := xv_vget0 hg
    refine as' rfl (nl' ?_)
    refine Run.backB backGhm ?_
    refine Run.backB backGhr ?_
    refine sq' (sr' (mv' rfl (lA' (cEvn e) rfl agg49 sz49 ?_)))
    refine ca' rfl rfl (s := Add_ctr (p := pd) (room := e.room) (l := ([] : EL)) hp hw (by decide)) (q := ?_)
    rintro _ _ ⟨rfl, hA_⟩
    replace hA_ := hA_.symm; subst hA_
    refine as' rfl (nl' (sr' (mv' rfl (pp' (Pure.neq rfl rfl) (nl' ?_)))))
    refine Run.cond rfl (fun h3 => ?_) (fun h3 => ?_)
    · try simp only [Z] at h3
      refine sr' (mv' rfl (as' rfl (nl' ?_)))
      refine Run.mkVw r (xs) (rfl) (by repeat (first | (with_reducible exact Take.nil _) | (apply Take.cons (by first | ((repeat (first | (with_reducible exact F0 _) | apply F1)); done) | (repeat (first | exact F0 _ | apply F1)))))) ?_
      exact rt' Tryz.func21 (res1 rfl rfl) (by exact ⟨by rw [hv], by rw [vadd_no (by rw [show (e.ev ps).room = e.room from rfl, hv]; exact h3)]⟩)
    · try simp only [Z] at h3
      refine sk' (sq' ?_)
      refine Run.regionD' (by kernel_rfl) (by kernel_rfl) (fun hok108 => ?_)
      refine ld' (row p 102 _) Lends.row ?_; intro g1 hleg1 hb1 backg1
      have hp_g1 := hp.mono hleg1
      have hrb3_g1 := hrb3.mono hleg1
      refine dp' 0 hok108 rfl (Pure.move rfl) (dp' 1 hok108 rfl (Pure.nilCheck rfl) (dp' 2 hok108 rfl (Pure.fieldAddr rfl fo102_0) (dl' 3 hok108 rfl rfl agg100 ?_)))
      refine dp' 4 hok108 rfl (Pure.fieldAddr rfl fo49_1) (dl' 5 hok108 rfl rfl agg9 ?_)
      refine dp' 6 hok108 rfl (Pure.move rfl) ?_
      refine RunD.one (i := 7) (by kernel_rfl) rfl ?_
      refine RunL.mapUpdate (k := e.room) (v := pd) (ev := eN) rfl rfl rfl (by first | ((repeat (first | (with_reducible exact F0 _) | apply F1)); done) | (repeat (first | exact F0 _ | apply F1))) und100 (KeyT.string und9) (Wt.none rfl) ?_
      refine RunL.nilD' ?_
      refine RunD.nilB (by kernel_rfl) (fun w sw => backg1 _ _ (sw)) ?_
      refine sr' (as' rfl (nl' ?_))
      rw [addL_ok h3, mput_end hg, vadd_ok (v := (e.ev ps)) (by rw [show (e.ev ps).room = e.room from rfl, hv]; exact h3)]
      refine Run.starsSnoc dgA xs (e.room, pd, [(e.ev ps)]) (by repeat (first | (with_reducible exact Take.nil _) | (apply Take.cons (by first | ((repeat (first | (with_reducible exact F0 _) | apply F1)); done) | (repeat (first | exact F0 _ | apply F1)))))) ?_
      refine Run.mkVw (vl := mput (e.ev ps).room (vget xs.vl (e.ev ps).room ++ [e.ev ps]) xs.vl) r ((xs ++ [(e.room, pd, [(e.ev ps)])] : XV)) (by show _ = mput e.room (vget xs.vl e.room ++ [e.ev ps]) xs.vl; rw [hv, mput_end (xv_none.1 hg)]; simp [XV.vl]) (by rw [show XV.ids (xs ++ [(e.room, pd, [(e.ev ps)])] : XV) = xs.ids ++ [(e.room, pd)] from by simp [XV.ids]]; exact (by repeat (first | (with_reducible exact Take.nil _) | (apply Take.cons (by first | ((repeat (first | (with_reducible exact F0 _) | apply F1)); done) | (repeat (first | exact F0 _ | apply F1))))))) ?_
      exact rt' Tryz.func21 (res1 rfl rfl) (by exact ⟨by rw [hv, h3], rfl⟩)

end Go.Proofs.YtaaondbmkibkkaaGreat
