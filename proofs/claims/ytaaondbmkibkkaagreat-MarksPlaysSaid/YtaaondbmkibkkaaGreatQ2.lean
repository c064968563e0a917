/- Marks: what waited. -/
import Derived.Test.YtaaondbmkibkkaaGreatQ1
set_option linter.unusedVariables false
set_option linter.unusedSimpArgs false
set_option linter.unusedSectionVars false
namespace Go.Proofs.YtaaondbmkibkkaaGreat
open Go Csl
theorem by34 : bytesIs Tryz.prog 34 = some 56 := by kernel_rfl

set_option maxHeartbeats 1000000 in
set_option maxRecDepth 100000 in
theorem ArriveM_ctr {G : Gp} {pm : Nat} {most : Int} {s : MS} {pv nn : Nat} {vl : VL} {room event : ByteArray} (h : VwR G pv vl) (hok : s.ok nn) (hn : nn ≤ 10000) :
    Ctr Tryz.prog G 22 [.pointer (some ⟨pm, 0, none⟩), .pointer (some ⟨pv, 0, none⟩), .string room, .string event] [Mk pm most s] (fun F v A => ∃ a c, v = .slice a (mArr most (vget vl) s room event).2.length c ∧ A = Sl 34 4 a ((mArr most (vget vl) s room event).2).length c (((mArr most (vget vl) s room event).2).flatMap cK) :: Mk pm most (mArr most (vget vl) s room event).1 :: F) := by
  refine Ctr.intro Tryz.func22 rfl (by kernel_rfl) rfl (fun F => ?_)
  simp only [List.cons_append, List.nil_append]
  refine sr' (as' rfl (nl' (sq' (sr' (mv' rfl (mv' rfl (mv' rfl ?_)))))))
  refine ca' rfl rfl (s := PositionV_ctr (room := room) (id := event) h) (q := ?_)
  rintro _ _ ⟨rfl, hA_⟩
  replace hA_ := hA_.symm; subst hA_
  refine mv' rfl (pp' (Pure.extract rfl rfl) (pp' (Pure.extract rfl rfl) ?_))
  refine RunL.alloc zz69 (Wt.none rfl) rfl ?_; intro b9
  refine sW' (cPos ((posAt (vget vl room) event))) rfl rfl sz69 ?_
  refine as' rfl (nl' (sr' (mv' rfl (pp' (Pure.not rfl) (nl' ?_)))))
  refine Run.cond rfl (fun hh => ?_) (fun hh => ?_)
  · try simp only [Z] at hh
    refine sr' (as' rfl (nl' ?_))
    rw [mArr_no hh]
    refine Run.nilSl 34 4 ?_
    exact rt' Tryz.func22 (res1 rfl rfl) (by exact ⟨none, 0, rfl, rfl⟩)
  · try simp only [Z] at hh
    refine Run.openMk (by first | ((repeat (first | (with_reducible exact F0 _) | apply F1)); done) | (repeat (first | exact F0 _ | apply F1))) ?_; intro pt pp
    have hfl := Nat.le_trans (List.length_filter_le (takesB room event) s.es) hok.2.2.1
    refine sk' (sr' (as' rfl (nl' (sr' (as' rfl (nl' (sq' (sr' (mv' rfl (pp' (Pure.nilCheck rfl) (pp' (Pure.fieldAddr rfl fo60_1) (l1' rfl agg58 ?_))))))))))))
    refine mv' rfl (mv' rfl ?_)
    refine ca' rfl rfl (s := TakeP_ctr (room := room) (event := event) (by have := hok.2.2.1; omega)) (q := ?_)
    rintro _ _ ⟨za, zc, rfl, hA_⟩
    replace hA_ := hA_.symm; subst hA_
    refine RunL.mkMk (mTake s room event) (by repeat (first | (with_reducible exact Take.nil _) | (apply Take.cons (by first | ((repeat (first | (with_reducible exact F0 _) | apply F1)); done) | (repeat (first | exact F0 _ | apply F1)))))) ?_
    refine RunL.nilSl 34 4 ?_
    refine pp' (Pure.lenSl rfl rfl und25) (mv' rfl (nl' (bl' ?_)))
    refine kp' [0, 1, 11, 12, 32, 33, 34] ?_
    refine lp' F (fun n e_ A => ∃ (i : Nat) (ao : Option Addr) (co : Nat), i ≤ (s.es.filter (takesB room event)).length ∧ n = (s.es.filter (takesB room event)).length - i ∧ e_ = [(0, .pointer (some ⟨pm, 0, none⟩)), (1, .pointer (some ⟨pv, 0, none⟩)), (11, .func (.func 16) #[] #[]), (12, .slice ao (arrF most (vget vl) (mTake s room event) ((s.es.filter (takesB room event)).take i)).2.length co), (32, .slice za (s.es.filter (takesB room event)).length zc), (33, .int .i64 ((s.es.filter (takesB room event)).length : Nat)), (34, .int .i64 (i : Nat))] ∧ A = Mk pm most (arrF most (vget vl) (mTake s room event) ((s.es.filter (takesB room event)).take i)).1 :: Sl 34 4 ao ((arrF most (vget vl) (mTake s room event) ((s.es.filter (takesB room event)).take i)).2).length co (((arrF most (vget vl) (mTake s room event) ((s.es.filter (takesB room event)).take i)).2).flatMap cK) :: Sl 23 11 za ((s.es.filter (takesB room event))).length zc (((s.es.filter (takesB room event))).flatMap cEdu) :: F) ((s.es.filter (takesB room event)).length) (by exact ⟨0, none, 0, by omega, rfl, rfl, rfl⟩) ?_
    rintro n _ _ ⟨i, ao, co, hi, rfl, rfl, hA_⟩ ih
    replace hA_ := hA_.symm; subst hA_
    refine sr' (pp' (Pure.lss rfl rfl) (nl' (sq' ?_)))
    refine Run.cond rfl (fun h1 => ?_) (fun h1 => ?_)
    · try simp only [Z] at h1
      obtain ⟨e, he⟩ := get_some (xs := (s.es.filter (takesB room event))) (i := i) (by omega)
      have hem := List.mem_of_getElem? he
      have hes : eduSmall e := hok.2.2.2.1 e (List.mem_filter.1 hem).1
      obtain ⟨hok1, hok2⟩ := arrF_ok (most := most) (vg := vget vl) (s := (mTake s room event)) (l := (s.es.filter (takesB room event))) (mTake_ok hok) (fun e he => hok.2.2.2.1 e (List.mem_filter.1 he).1) i hi
      have hk1 := hok1.2.2.1
      have hk2 := hok1.2.2.2.2.1
      have hk3 := hok1.2.2.2.2.2
      refine lb' (Sl 23 11 za ((s.es.filter (takesB room event))).length zc (((s.es.filter (takesB room event))).flatMap cEdu)) Lends.Sl fun Ghts hleGhts hts backGhts => ?_
      have h_Ghts := h.mono hleGhts
      obtain ⟨bt, Tt, pret, postt, hpt, hrot⟩ := hts.1.open1 (show 0 < (s.es.filter (takesB room event)).length by omega)
      refine sk' (sq' (bl' (sr' ?_)))
      refine pp' (Pure.indexAddr (opvSl rfl hpt) rfl und25 sz23 (by omega) (by omega)) ?_
      refine RunL.loadNR (vs := (cEdu e)) rfl hrot agg23 sz23 (elemN_len (pre := pret) (post := postt) (f := cEdu) (sz := 11) (j := 0) (n := 11) (fun _ _ => rfl) he (by decide)) ((elemN_at (pre := pret) (post := postt) (f := cEdu) (sz := 11) (j := 0) (n := 11) (fun _ _ => rfl) he (by decide)).trans rfl) (Wt.none rfl) rfl ?_
      refine RunL.alloc zz23 (Wt.none rfl) rfl ?_; intro b14
      refine sW' (cEdu e) rfl rfl sz23 ?_
      refine nl' ?_
      refine Run.backB backGhts ?_
      refine sr' (mv' rfl (mv' rfl (mv' rfl (lA' (cEdu e) rfl agg23 sz23 ?_))))
      refine ca' rfl rfl (s := PutM_ctr (e := e) h hes (by omega) ⟨by omega, by omega⟩) (q := ?_)
      rintro _ _ ⟨rfl, hA_⟩
      replace hA_ := hA_.symm; subst hA_
      refine mv' rfl (pp' (Pure.extract rfl rfl) (pp' (Pure.extract rfl rfl) (as' rfl (as' rfl (nl' (sr' (mv' rfl (mv' rfl ?_))))))))
      refine RunL.split (d := 47) rfl (fun t1 => ?_) (fun t1 => ?_)
      · try simp only [Z] at t1
        refine lB' (Sl 34 4 ao ((arrF most (vget vl) (mTake s room event) ((s.es.filter (takesB room event)).take i)).2).length co (((arrF most (vget vl) (mTake s room event) ((s.es.filter (takesB room event)).take i)).2).flatMap cK)) Lends.Sl fun Ghso hleGhso hso backGhso => ?_
        have h_Ghso := h.mono hleGhso
        refine py' (Pure.move rfl) (lA' (cEdu e) rfl agg23 sz23 ?_)
        refine ca' rfl rfl (s := OfM_ctr (e := e)) (q := ?_)
        rintro _ _ ⟨rfl, hA_⟩
        replace hA_ := hA_.symm; subst hA_
        refine ca' rfl rfl (s := containsKey_ctr (x := kOf e) hso.1 (by omega)) (q := ?_)
        rintro _ _ ⟨rfl, hA_⟩
        replace hA_ := hA_.symm; subst hA_
        refine py' (Pure.not rfl) (pp' (Pure.pickT rfl rfl) (nl' ?_))
        refine Run.backB backGhso ?_
        refine Run.cond rfl (fun h2 => ?_) (fun h2 => ?_)
        · try simp only [Z] at h2
          refine rg' (mv' rfl (lA' (cEdu e) rfl agg23 sz23 ?_))
          refine ca' rfl rfl (s := OfM_ctr (e := e)) (q := ?_)
          rintro _ _ ⟨rfl, hA_⟩
          replace hA_ := hA_.symm; subst hA_
          refine RunL.lit (vals := [_]) (vs := ([kOf e] : List K).flatMap cK) und51 sz34 zz34 rfl rfl rfl rfl rfl rfl (by simp [Value.cells, bv, cDD, cEdu, cEvn, cGG, cK, cM, cNde, cPP, cPos, cSS, cVV]) rfl (Wt.none rfl) rfl ?_; intro b57
          refine RunL.append (m := 1) (n' := ((arrF most (vget vl) (mTake s room event) ((s.es.filter (takesB room event)).take i)).2 ++ [kOf e]).length) (cs' := ((arrF most (vget vl) (mTake s room event) ((s.es.filter (takesB room event)).take i)).2 ++ [kOf e]).flatMap cK) rfl rfl (by first | ((repeat (first | (with_reducible exact F0 _) | apply F1)); done) | (repeat (first | exact F0 _ | apply F1))) rfl rfl und51 und51 rfl sz34 zz34 rfl by34 (by omega) (by omega) (fun w sw => sw.src) (isOne_flat (f := cK) (fun _ => rfl)) (by simp) (by rw [List.flatMap_append]) (Wt.none rfl) rfl ?_; intro a3 c3
          refine as' rfl (nl' (ib' (rg' ?_)))
          first | refine RunL.pure (Pure.addI rfl rfl (by omega)) (Wt.none rfl) rfl rfl ?_ | refine RunL.pure (Pure.add rfl rfl) (Wt.none rfl) rfl rfl ?_
          refine mv' rfl (nl' ?_)
          have hq : (arrF most (vget vl) (mTake s room event) ((s.es.filter (takesB room event)).take (i + 1))) = arrS most (vget vl) (arrF most (vget vl) (mTake s room event) ((s.es.filter (takesB room event)).take i)) e := arrF_succ he
          have hq2 : ((arrF most (vget vl) (mTake s room event) ((s.es.filter (takesB room event)).take (i + 1)))).2 = (arrF most (vget vl) (mTake s room event) ((s.es.filter (takesB room event)).take i)).2 ++ [kOf e] := by rw [hq]; unfold arrS; simp only []; rw [if_pos ⟨t1, by simpa using h2⟩]
          have hq1 : ((arrF most (vget vl) (mTake s room event) ((s.es.filter (takesB room event)).take (i + 1)))).1 = (mPut most (vget vl) (arrF most (vget vl) (mTake s room event) ((s.es.filter (takesB room event)).take i)).1 e).1 := by rw [hq]; rfl
          rw [← hq1]
          rw [← hq2]
          refine kp' [0, 1, 11, 12, 32, 33, 34] ?_
          exact ag' F ih (by exact ⟨i + 1, a3, c3, by omega, rfl, rfl, rfl⟩)
        · try simp only [Z] at h2
          refine sk' (ib' (rg' ?_))
          first | refine RunL.pure (Pure.addI rfl rfl (by omega)) (Wt.none rfl) rfl rfl ?_ | refine RunL.pure (Pure.add rfl rfl) (Wt.none rfl) rfl rfl ?_
          refine mv' rfl (nl' ?_)
          have hq : (arrF most (vget vl) (mTake s room event) ((s.es.filter (takesB room event)).take (i + 1))) = arrS most (vget vl) (arrF most (vget vl) (mTake s room event) ((s.es.filter (takesB room event)).take i)) e := arrF_succ he
          have hq2 : ((arrF most (vget vl) (mTake s room event) ((s.es.filter (takesB room event)).take (i + 1)))).2 = (arrF most (vget vl) (mTake s room event) ((s.es.filter (takesB room event)).take i)).2 := by rw [hq]; unfold arrS; simp only []; rw [if_neg (fun q => q.2 (by simpa using h2))]
          have hq1 : ((arrF most (vget vl) (mTake s room event) ((s.es.filter (takesB room event)).take (i + 1)))).1 = (mPut most (vget vl) (arrF most (vget vl) (mTake s room event) ((s.es.filter (takesB room event)).take i)).1 e).1 := by rw [hq]; rfl
          rw [← hq1]
          rw [← hq2]
          refine kp' [0, 1, 11, 12, 32, 33, 34] ?_
          exact ag' F ih (by exact ⟨i + 1, ao, co, by omega, rfl, rfl, rfl⟩)
      · try simp only [Z] at t1
        refine no' (no' (no' (no' (no' (pp' (Pure.pickF rfl rfl) (nl' (cF' (sk' (ib' (rg' ?_))))))))))
        first | refine RunL.pure (Pure.addI rfl rfl (by omega)) (Wt.none rfl) rfl rfl ?_ | refine RunL.pure (Pure.add rfl rfl) (Wt.none rfl) rfl rfl ?_
        refine mv' rfl (nl' ?_)
        have hq : (arrF most (vget vl) (mTake s room event) ((s.es.filter (takesB room event)).take (i + 1))) = arrS most (vget vl) (arrF most (vget vl) (mTake s room event) ((s.es.filter (takesB room event)).take i)) e := arrF_succ he
        have hq2 : ((arrF most (vget vl) (mTake s room event) ((s.es.filter (takesB room event)).take (i + 1)))).2 = (arrF most (vget vl) (mTake s room event) ((s.es.filter (takesB room event)).take i)).2 := by rw [hq]; unfold arrS; simp only []; rw [if_neg (fun q => by rw [t1] at q; cases q.1)]
        have hq1 : ((arrF most (vget vl) (mTake s room event) ((s.es.filter (takesB room event)).take (i + 1)))).1 = (mPut most (vget vl) (arrF most (vget vl) (mTake s room event) ((s.es.filter (takesB room event)).take i)).1 e).1 := by rw [hq]; rfl
        rw [← hq1]
        rw [← hq2]
        refine kp' [0, 1, 11, 12, 32, 33, 34] ?_
        exact ag' F ih (by exact ⟨i + 1, ao, co, by omega, rfl, rfl, rfl⟩)
    · try simp only [Z] at h1
      refine ex' rfl (sr' (mv' rfl (as' rfl (nl' ?_))))
      have hti : (s.es.filter (takesB room event)).take i = (s.es.filter (takesB room event)) := List.take_of_length_le (by omega)
      have he := mArr_yes (most := most) (s := s) hh
      rw [hti, ← he]
      exact rt' Tryz.func22 (res1 rfl rfl) (by exact ⟨ao, co, rfl, rfl⟩)

end Go.Proofs.YtaaondbmkibkkaaGreat
