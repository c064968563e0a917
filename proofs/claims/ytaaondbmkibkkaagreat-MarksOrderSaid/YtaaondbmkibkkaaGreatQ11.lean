/- Any order. -/
import Derived.Test.YtaaondbmkibkkaaGreatQ10
set_option linter.unusedVariables false
set_option linter.unusedSimpArgs false
set_option linter.unusedSectionVars false
namespace Go.Proofs.YtaaondbmkibkkaaGreat
open Go Csl
theorem cb24 : Callable Tryz.prog 24 := ⟨_, Tryz.func24, by kernel_rfl, by kernel_rfl⟩

set_option maxHeartbeats 1000000 in
set_option maxRecDepth 100000 in
theorem MarksOrder_ctr {G : Gp} {aa : Option Addr} {ca : Nat} {ga : List GG} (ha : SlR G 130 4 aa ga.length (ga.flatMap cGG)) (hia : GsIn G ga) {ab : Option Addr} {cb : Nat} {gb : List GG} (hb : SlR G 130 4 ab gb.length (gb.flatMap cGG)) (hib : GsIn G gb) {al : Option Addr} {cl : Nat} {l : List Edu} (hl : SlR G 23 11 al l.length (l.flatMap cEdu)) (hlo : ∀ x ∈ l, okEdu x) {ao : Option Addr} {co : Nat} {os : List Int} (hos : SlR G 3 1 ao os.length (os.map (Value.int .i64))) (hov : ∀ z ∈ os, -9223372036854775808 ≤ z ∧ z ≤ 9223372036854775807) :
    Ctr Tryz.prog G 4 [.slice aa ga.length ca, .slice ab gb.length cb, .slice al l.length cl, .slice ao os.length co] [] (fun F v A => v = .bool true ∧ A = F) := by
  refine Ctr.intro Tryz.func4 rfl (by kernel_rfl) rfl (fun F => ?_)
  simp only [List.nil_append]
  obtain ⟨xa, hxa, hgxa⟩ := hia
  have hgsa : SlR G 130 4 aa xa.length (xa.flatMap cGX) := by rw [← hxa, List.length_map, gx_flat] at ha; exact ha
  have hgla : ga.length = xa.length := by rw [← hxa, List.length_map]
  obtain ⟨xb, hxb, hgxb⟩ := hib
  have hgsb : SlR G 130 4 ab xb.length (xb.flatMap cGX) := by rw [← hxb, List.length_map, gx_flat] at hb; exact hb
  have hglb : gb.length = xb.length := by rw [← hxb, List.length_map]
  refine sr' (as' rfl (nl' (sr' ?_)))
  refine ca' rfl rfl (s := NewM1_ctr (z := 1000) (by decide)) (q := ?_)
  rintro _ _ ⟨pm, rfl, hA_⟩
  replace hA_ := hA_.symm; subst hA_
  refine mv' rfl (pp' (Pure.extract rfl rfl) (pp' (Pure.extract rfl rfl) (as' rfl (as' rfl (nl' (sr' ?_))))))
  refine ca' rfl rfl (s := NewV_ctr) (q := ?_)
  rintro _ _ ⟨pv, rfl, hA_⟩
  replace hA_ := hA_.symm; subst hA_
  refine as' rfl (nl' (sq' (sr' (mv' rfl (pp' (Pure.ptrEqNil rfl rfl und26) (mv' rfl (py' (Pure.move rfl) (py' (Pure.ptrEqNil rfl rfl und30) (pp' (Pure.pickF rfl rfl) (mv' rfl (py' (Pure.move rfl) (py' (Pure.neq rfl rfl) (pp' (Pure.pickF rfl rfl) (nl' ?_))))))))))))))
  refine Run.cond rfl (fun hc1 => ?_) (fun hc1 => ?_)
  · try simp only [Z] at hc1
    exfalso
    first | exact hc1 rfl | exact hc1 trivial | (simp at hc1; done)
  try simp only [Z] at hc1
  refine sk' (sr' (mv' rfl (mv' rfl ?_)))
  rw [hgla, hglb]
  refine ca' rfl rfl (s := Made_ctr (xa := xa) (xb := xb) hgsa hgxa hgsb hgxb) (q := ?_)
  rintro _ _ ⟨K, ay, cy, ys, hyl, hYK, rfl, hA_⟩
  replace hA_ := hA_.symm; subst hA_
  have hyn : ys.length ≤ 18 := by rw [← List.length_map (f := (·.1)), hyl]; exact evs_len xa xb
  have hwf := evs_wf (xa := xa) (xb := xb)
  refine as' rfl (nl' ?_)
  refine la' (Sl 49 6 ay ys.length cy _) Lends.Sl fun Ghys hleGhys hys => ?_
  replace hgsa := hgsa.mono hleGhys
  replace hgxa := hgxa.mono hleGhys
  replace hgsb := hgsb.mono hleGhys
  replace hgxb := hgxb.mono hleGhys
  replace hl := hl.mono hleGhys
  replace hos := hos.mono hleGhys
  obtain ⟨hys, hyc⟩ := hys
  refine sr' (as' rfl (nl' ?_))
  refine Run.nilSl 23 11 ?_
  refine sq' (sr' (as' rfl (nl' ?_)))
  refine Run.cut (fun e_ A => ∃ (a13 : Option Addr) (c13 : Nat), e_ = [(3, .slice ao os.length co), (9, .pointer (some ⟨pm, 0, none⟩)), (11, .pointer (some ⟨pv, 0, none⟩)), (12, .slice ay ys.length cy), (13, .slice a13 (rsL l).length c13)] ∧ A = Sl 23 11 a13 ((rsL l)).length c13 (((rsL l)).flatMap cEdu) :: Pool K :: Vw pv [] :: Mk pm 1000 ⟨[], [], 0⟩ :: F) (fun e A hM => ?_) (fun hk => ?_)
  · obtain ⟨a13, c13, rfl, hA_⟩ := hM
    replace hA_ := hA_.symm; subst hA_
    have hrl := rsL_len l
    refine sr' (mv' rfl (pp' (Pure.lenSl rfl rfl und44) (mv' rfl (pp' (Pure.lenSl rfl rfl und25) ?_))))
    first | refine RunL.pure (Pure.addI rfl rfl (by omega)) (Wt.none rfl) rfl rfl ?_ | refine RunL.pure (Pure.add rfl rfl) (Wt.none rfl) rfl rfl ?_
    refine as' rfl (nl' ?_)
    refine la' (Sl 23 11 a13 ((rsL l)).length c13 (((rsL l)).flatMap cEdu)) Lends.Sl fun Ghrs hleGhrs hrs => ?_
    replace hgsa := hgsa.mono hleGhrs
    replace hgxa := hgxa.mono hleGhrs
    replace hgsb := hgsb.mono hleGhrs
    replace hgxb := hgxb.mono hleGhrs
    replace hl := hl.mono hleGhrs
    replace hos := hos.mono hleGhrs
    replace hys := hys.mono hleGhrs
    obtain ⟨hrs, hrc⟩ := hrs
    refine sr' (as' rfl (nl' ?_))
    refine Run.nilSl 3 1 ?_
    refine sq' (sr' (as' rfl (nl' ?_)))
    refine Run.cut (fun e_ A => ∃ (pl : List Nat) (a16 : Option Addr) (c16 : Nat), (pl.length ≤ 20 ∧ ∀ k ∈ pl, k < (ys.length + (rsL l).length)) ∧ e_ = [(9, .pointer (some ⟨pm, 0, none⟩)), (11, .pointer (some ⟨pv, 0, none⟩)), (12, .slice ay ys.length cy), (13, .slice a13 (rsL l).length c13), (15, .int .i64 ((ys.length + (rsL l).length) : Nat)), (16, .slice a16 pl.length c16)] ∧ A = Sl 3 1 a16 (pl).length c16 ((pl).map fun k : Nat => Value.int .i64 (k : Nat)) :: Pool K :: Vw pv [] :: Mk pm 1000 ⟨[], [], 0⟩ :: F) (fun e A hM => ?_) (fun hk => ?_)
    · obtain ⟨pl, a16, c16, hpl, rfl, hA_⟩ := hM
      replace hA_ := hA_.symm; subst hA_
      have hs0 : (pl ++ repR 0 (ys.length + (rsL l).length)) = pl := by simp [repR]
      rw [← hs0]
      refine sq' (sr' (as' rfl (nl' (bl' ?_))))
      refine kp' [9, 11, 12, 13, 15, 16, 18] ?_
      refine lp' F (fun n e_ A => ∃ (r : Nat) (a16 : Option Addr) (c16 : Nat), r ≤ 2 ∧ n = 2 - r ∧ e_ = [(9, .pointer (some ⟨pm, 0, none⟩)), (11, .pointer (some ⟨pv, 0, none⟩)), (12, .slice ay ys.length cy), (13, .slice a13 (rsL l).length c13), (15, .int .i64 ((ys.length + (rsL l).length) : Nat)), (16, .slice a16 (pl ++ repR r (ys.length + (rsL l).length)).length c16), (18, .int .i64 (r : Nat))] ∧ A = Sl 3 1 a16 ((pl ++ repR r (ys.length + (rsL l).length))).length c16 (((pl ++ repR r (ys.length + (rsL l).length))).map fun k : Nat => Value.int .i64 (k : Nat)) :: Pool K :: Vw pv [] :: Mk pm 1000 ⟨[], [], 0⟩ :: F) (2) (by exact ⟨0, a16, c16, by omega, rfl, rfl, rfl⟩) ?_
      rintro n _ _ ⟨r, a16, c16, hr, rfl, rfl, hA_⟩ ih
      replace hA_ := hA_.symm; subst hA_
      refine sq' (sr' (mv' rfl (pp' (Pure.lss rfl rfl) (nl' ?_))))
      refine Run.cond rfl (fun c5 => ?_) (fun c5 => ?_)
      · try simp only [Z] at c5
        have hrl := repR_len (ys.length + (rsL l).length) r
        have hr2 : r * (ys.length + (rsL l).length) ≤ 2 * (ys.length + (rsL l).length) := Nat.mul_le_mul_right _ hr
        have hbl : (pl ++ repR r (ys.length + (rsL l).length)).length ≤ 20 + 2 * (ys.length + (rsL l).length) := by rw [List.length_append, hrl]; omega
        have ih1 := ih
        refine sk' (sq' (bl' (sr' (as' rfl (nl' (bl' ?_))))))
        have hs1 : ((pl ++ repR r (ys.length + (rsL l).length)) ++ List.range 0) = (pl ++ repR r (ys.length + (rsL l).length)) := by simp
        rw [← hs1]
        refine kp' [9, 11, 12, 13, 15, 16, 18, 19] ?_
        refine lp' F (fun n e_ A => ∃ (i : Nat) (a16 : Option Addr) (c16 : Nat), i ≤ (ys.length + (rsL l).length) ∧ n = (ys.length + (rsL l).length) - i ∧ e_ = [(9, .pointer (some ⟨pm, 0, none⟩)), (11, .pointer (some ⟨pv, 0, none⟩)), (12, .slice ay ys.length cy), (13, .slice a13 (rsL l).length c13), (15, .int .i64 ((ys.length + (rsL l).length) : Nat)), (16, .slice a16 ((pl ++ repR r (ys.length + (rsL l).length)) ++ List.range i).length c16), (18, .int .i64 (r : Nat)), (19, .int .i64 (i : Nat))] ∧ A = Sl 3 1 a16 (((pl ++ repR r (ys.length + (rsL l).length)) ++ List.range i)).length c16 ((((pl ++ repR r (ys.length + (rsL l).length)) ++ List.range i)).map fun k : Nat => Value.int .i64 (k : Nat)) :: Pool K :: Vw pv [] :: Mk pm 1000 ⟨[], [], 0⟩ :: F) ((ys.length + (rsL l).length)) (by exact ⟨0, a16, c16, by omega, rfl, rfl, rfl⟩) ?_
        rintro n _ _ ⟨i, a16, c16, hi, rfl, rfl, hA_⟩ ih
        replace hA_ := hA_.symm; subst hA_
        refine sq' (sr' (mv' rfl (mv' rfl (pp' (Pure.lss rfl rfl) (nl' ?_)))))
        refine Run.cond rfl (fun c7 => ?_) (fun c7 => ?_)
        · try simp only [Z] at c7
          have hbi : ((pl ++ repR r (ys.length + (rsL l).length)) ++ List.range i).length = (pl ++ repR r (ys.length + (rsL l).length)).length + i := by rw [List.length_append, List.length_range]
          refine sk' (sq' (bl' (rg' (mv' rfl (mv' rfl ?_)))))
          refine RunL.lit (vals := [_]) (vs := ([i] : List Nat).map (fun k : Nat => Value.int .i64 (k : Nat))) und43 sz3 zz3 rfl rfl rfl rfl rfl rfl (by simp [Value.cells, bv, cDD, cEdu, cEvn, cGG, cK, cM, cNde, cPP, cPos, cSS, cVV]) rfl (Wt.none rfl) rfl ?_; intro b97
          refine RunL.append (m := 1) (n' := (((pl ++ repR r (ys.length + (rsL l).length)) ++ List.range i) ++ [i]).length) (cs' := (((pl ++ repR r (ys.length + (rsL l).length)) ++ List.range i) ++ [i]).map (fun k : Nat => Value.int .i64 (k : Nat))) rfl rfl (by first | ((repeat (first | (with_reducible exact F0 _) | apply F1)); done) | (repeat (first | exact F0 _ | apply F1))) rfl rfl und43 und43 rfl sz3 zz3 rfl by3 (by omega) (by omega) (fun w sw => sw.src) (isOne_nats _) (by simp only [List.length_append, List.length_singleton]) (by simp only [List.map_append]) (Wt.none rfl) rfl ?_; intro a3 c3
          refine as' rfl (nl' (ib' (rg' (mv' rfl ?_))))
          first | refine RunL.pure (Pure.addI rfl rfl (by omega)) (Wt.none rfl) rfl rfl ?_ | refine RunL.pure (Pure.add rfl rfl) (Wt.none rfl) rfl rfl ?_
          refine as' rfl (nl' ?_)
          have hs : ((pl ++ repR r (ys.length + (rsL l).length)) ++ List.range (i + 1)) = ((pl ++ repR r (ys.length + (rsL l).length)) ++ List.range i) ++ [i] := by rw [List.range_succ]; simp only [List.append_assoc]
          rw [← hs]
          refine kp' [9, 11, 12, 13, 15, 16, 18, 19] ?_
          exact ag' F ih (by exact ⟨i + 1, a3, c3, by omega, rfl, rfl, rfl⟩)
        · try simp only [Z] at c7
          refine ex' rfl (ib' (rg' (mv' rfl ?_)))
          first | refine RunL.pure (Pure.addI rfl rfl (by omega)) (Wt.none rfl) rfl rfl ?_ | refine RunL.pure (Pure.add rfl rfl) (Wt.none rfl) rfl rfl ?_
          refine as' rfl (nl' ?_)
          obtain rfl : i = (ys.length + (rsL l).length) := by omega
          have ih := ih1
          have hs : (pl ++ repR (r + 1) (ys.length + (rsL l).length)) = (pl ++ repR r (ys.length + (rsL l).length)) ++ List.range (ys.length + (rsL l).length) := by rw [show repR (r + 1) (ys.length + (rsL l).length) = repR r (ys.length + (rsL l).length) ++ List.range (ys.length + (rsL l).length) from rfl, List.append_assoc]
          rw [← hs]
          refine kp' [9, 11, 12, 13, 15, 16, 18] ?_
          exact ag' F ih (by exact ⟨r + 1, a16, c16, by omega, rfl, rfl, rfl⟩)
      · try simp only [Z] at c5
        obtain rfl : r = 2 := by omega
        have hka : ∀ k ∈ (pl ++ repR 2 (ys.length + (rsL l).length)), k < (ys.length + (rsL l).length) := fun k hk => by
          rcases List.mem_append.1 hk with hk | hk
          · exact hpl.2 k hk
          · simp [repR] at hk; omega
        refine ex' rfl ?_
        refine la' (Sl 3 1 a16 ((pl ++ repR 2 (ys.length + (rsL l).length))).length c16 (((pl ++ repR 2 (ys.length + (rsL l).length))).map fun k : Nat => Value.int .i64 (k : Nat))) Lends.Sl fun Ghall hleGhall hall => ?_
        replace hgsa := hgsa.mono hleGhall
        replace hgxa := hgxa.mono hleGhall
        replace hgsb := hgsb.mono hleGhall
        replace hgxb := hgxb.mono hleGhall
        replace hl := hl.mono hleGhall
        replace hos := hos.mono hleGhall
        replace hys := hys.mono hleGhall
        replace hrs := hrs.mono hleGhall
        obtain ⟨hall, hac⟩ := hall
        refine sq' (sr' (as' rfl (nl' (bl' ?_))))
        refine kp' [9, 11, 12, 13, 16, 20] ?_
        refine lp' F (fun n e_ A => ∃ (i : Nat), i ≤ (pl ++ repR 2 (ys.length + (rsL l).length)).length ∧ n = (pl ++ repR 2 (ys.length + (rsL l).length)).length - i ∧ e_ = [(9, .pointer (some ⟨pm, 0, none⟩)), (11, .pointer (some ⟨pv, 0, none⟩)), (12, .slice ay ys.length cy), (13, .slice a13 (rsL l).length c13), (16, .slice a16 (pl ++ repR 2 (ys.length + (rsL l).length)).length c16), (20, .int .i64 (i : Nat))] ∧ A = Pool K :: Vw pv (runO (evsL xa xb) (rsL l) ((pl ++ repR 2 (ys.length + (rsL l).length)).take i)).1 :: Mk pm 1000 (runO (evsL xa xb) (rsL l) ((pl ++ repR 2 (ys.length + (rsL l).length)).take i)).2 :: F) ((pl ++ repR 2 (ys.length + (rsL l).length)).length) (by exact ⟨0, by omega, rfl, rfl, rfl⟩) ?_
        rintro n _ _ ⟨i, hi, rfl, rfl, hA_⟩ ih
        replace hA_ := hA_.symm; subst hA_
        refine sq' (sr' (mv' rfl (mv' rfl (pp' (Pure.lenSl rfl rfl und43) (pp' (Pure.lss rfl rfl) (nl' ?_))))))
        refine Run.cond rfl (fun h2 => ?_) (fun h2 => ?_)
        · try simp only [Z] at h2
          obtain ⟨k, hk⟩ := get_some (xs := (pl ++ repR 2 (ys.length + (rsL l).length))) (i := i) (by omega)
          obtain ⟨bk_, Tk, prek, postk, hpk, hrok⟩ := hall.open1 (show 0 < (pl ++ repR 2 (ys.length + (rsL l).length)).length by omega)
          have hkn := hka k (List.mem_of_getElem? hk)
          have hal : (pl ++ repR 2 (ys.length + (rsL l).length)).length ≤ 100 := by rw [List.length_append, repR_len]; have := rsL_len l; omega
          have hst := order_st (xa := xa) (xb := xb) (rs := (rsL l)) (by have := rsL_len l; omega) ((pl ++ repR 2 (ys.length + (rsL l).length)).take i)
          have hok := hst.ok rsL_small
          have hk1 := hok.2.2.1
          have hk2 := hok.2.2.2.2.1
          have hk3 := hok.2.2.2.2.2
          have hvl := hst.view.len
          refine sk' (sq' (bl' (sr' (mv' rfl (mv' rfl ?_)))))
          refine pp' (Pure.indexAddr (opvSl rfl hpk) rfl und43 sz3 (by omega) (by omega)) ?_
          refine RunL.load1R rfl hrok (elem1_at hk) agg3 (Wt.none rfl) rfl ?_
          refine mv' rfl (pp' (Pure.lenSl rfl rfl und44) (pp' (Pure.lss rfl rfl) (nl' ?_)))
          refine Run.cond rfl (fun h3 => ?_) (fun h3 => ?_)
          · try simp only [Z] at h3
            obtain ⟨y, hy⟩ := get_some (xs := ys) (i := k) (by omega)
            obtain ⟨v, sv⟩ := y
            have hym := List.mem_of_getElem? hy
            have hev : (evsL xa xb)[k]? = some v := by rw [← hyl, List.getElem?_map, hy]; rfl
            have hvm := List.mem_of_getElem? hev
            obtain ⟨be, Te, pree, poste, hpe, hroe⟩ := hys.open1 (show 0 < ys.length by omega)
            refine sr' (mv' rfl (mv' rfl (mv' rfl ?_)))
            refine pp' (Pure.indexAddr (opvSl rfl hpk) rfl und43 sz3 (by omega) (by omega)) ?_
            refine RunL.load1R rfl hrok (elem1_at hk) agg3 (Wt.none rfl) rfl ?_
            refine pp' (Pure.indexAddr (opvSl rfl hpe) rfl und44 sz49 (by omega) (by omega)) ?_
            refine RunL.loadNR (vs := (cEvn ((v.evn sv)))) rfl hroe agg49 sz49 (elemN_len (pre := pree) (post := poste) (f := cES) (sz := 6) (j := 0) (n := 6) (fun _ _ => rfl) hy (by decide)) ((elemN_at (pre := pree) (post := poste) (f := cES) (sz := 6) (j := 0) (n := 6) (fun _ _ => rfl) hy (by decide)).trans rfl) (Wt.none rfl) rfl ?_
            refine RunL.alloc zz49 (Wt.none rfl) rfl ?_; intro b21
            refine sW' (cEvn ((v.evn sv))) rfl rfl sz49 ?_
            refine lB' (Pool K) Lends.Pool fun gp hlegp hK backgp => ?_
            have hgsa_gp := hgsa.mono hlegp
            have hgxa_gp := hgxa.mono hlegp
            have hgsb_gp := hgsb.mono hlegp
            have hgxb_gp := hgxb.mono hlegp
            have hl_gp := hl.mono hlegp
            have hos_gp := hos.mono hlegp
            have hys_gp := hys.mono hlegp
            have hrs_gp := hrs.mono hlegp
            have hall_gp := hall.mono hlegp
            have hrok_gp := hrok.mono hlegp
            have hroe_gp := hroe.mono hlegp
            have hyk := hYK.hp (G' := gp) hK
            refine nl' (sr' (mv' rfl (lA' (cEvn ((v.evn sv))) rfl agg49 sz49 ?_)))
            refine ca' rfl rfl (s := AddV_ctr (e := v.evn sv) (ps := v.ps) (hyk _ hym) (hwf v hvm) (fun r => by have := hvl r; omega)) (q := ?_)
            rintro _ _ ⟨rfl, hA_⟩
            replace hA_ := hA_.symm; subst hA_
            rw [ev_evn]
            refine pp' (Pure.eql rfl rfl) (nl' ?_)
            refine Run.backB backgp ?_
            refine Run.cond rfl (fun h4 => ?_) (fun h4 => ?_)
            · try simp only [Z] at h4
              refine rg' (mv' rfl (mv' rfl (pp' (Pure.fieldAddr rfl fo49_1) (l1' rfl agg9 ?_))))
              refine pp' (Pure.fieldAddr rfl fo49_0) (l1' rfl agg9 ?_)
              refine ca' rfl rfl (s := Ctr.lend Lends.Vw cb22 (fun G' hle hr => ArriveM_ctr (nn := (rsL l).length) (room := v.room) (event := v.id) hr hok (by have := rsL_len l; omega))) (q := ?_)
              rintro _ _ ⟨_, rfl, a9, c9, rfl, hA_⟩
              replace hA_ := hA_.symm; subst hA_
              refine nl' (ib' (rg' (mv' rfl ?_)))
              first | refine RunL.pure (Pure.addI rfl rfl (by omega)) (Wt.none rfl) rfl rfl ?_ | refine RunL.pure (Pure.add rfl rfl) (Wt.none rfl) rfl rfl ?_
              refine as' rfl (nl' ?_)
              have hq : (runO (evsL xa xb) (rsL l) ((pl ++ repR 2 (ys.length + (rsL l).length)).take (i + 1))) = stepO (evsL xa xb) (rsL l) (runO (evsL xa xb) (rsL l) ((pl ++ repR 2 (ys.length + (rsL l).length)).take i)) k := runO_succ hk
              rw [step_ev hev, if_pos (by exact h4)] at hq
              have hq1 := congrArg (·.1) hq
              have hq2 := congrArg (·.2) hq
              dsimp only at hq1 hq2
              refine kp' [9, 11, 12, 13, 16, 20] ?_
              exact ag' F ih (by exact ⟨i + 1, by omega, rfl, rfl, by rw [hq1, hq2]⟩)
            · try simp only [Z] at h4
              refine sk' (ib' (rg' (mv' rfl ?_)))
              first | refine RunL.pure (Pure.addI rfl rfl (by omega)) (Wt.none rfl) rfl rfl ?_ | refine RunL.pure (Pure.add rfl rfl) (Wt.none rfl) rfl rfl ?_
              refine as' rfl (nl' ?_)
              have hq : (runO (evsL xa xb) (rsL l) ((pl ++ repR 2 (ys.length + (rsL l).length)).take (i + 1))) = stepO (evsL xa xb) (rsL l) (runO (evsL xa xb) (rsL l) ((pl ++ repR 2 (ys.length + (rsL l).length)).take i)) k := runO_succ hk
              rw [step_ev hev, if_neg (by exact h4)] at hq
              rw [vadd_no (by exact h4)]
              refine kp' [9, 11, 12, 13, 16, 20] ?_
              exact ag' F ih (by exact ⟨i + 1, by omega, rfl, rfl, by rw [hq]⟩)
          · try simp only [Z] at h3
            have hyE : (evsL xa xb).length = ys.length := by rw [← hyl, List.length_map]
            obtain ⟨x, hx⟩ := get_some (xs := (rsL l)) (i := k - ys.length) (by omega)
            have hx2 : (rsL l)[(((k : Nat) : Int) - (ys.length : Nat)).toNat]? = some x := by rw [show (((k : Nat) : Int) - (ys.length : Nat)).toNat = k - ys.length by omega]; exact hx
            have hxs := rsL_small x (List.mem_of_getElem? hx)
            obtain ⟨bx, Tx, prex, postx, hpx, hrox⟩ := hrs.open1 (show 0 < (rsL l).length by omega)
            refine rg' (mv' rfl (mv' rfl (mv' rfl (mv' rfl (mv' rfl ?_)))))
            refine pp' (Pure.indexAddr (opvSl rfl hpk) rfl und43 sz3 (by omega) (by omega)) ?_
            refine RunL.load1R rfl hrok (elem1_at hk) agg3 (Wt.none rfl) rfl ?_
            refine mv' rfl (pp' (Pure.lenSl rfl rfl und44) ?_)
            first | refine RunL.pure (Pure.subI rfl rfl (by omega)) (Wt.none rfl) rfl rfl ?_ | refine RunL.pure (Pure.sub rfl rfl) (Wt.none rfl) rfl rfl ?_
            refine pp' (Pure.indexAddr (opvSl rfl hpx) rfl und25 sz23 (by omega) (by omega)) ?_
            refine RunL.loadNR (vs := (cEdu x)) rfl hrox agg23 sz23 (elemN_len (pre := prex) (post := postx) (f := cEdu) (sz := 11) (j := 0) (n := 11) (fun _ _ => rfl) hx2 (by decide)) ((elemN_at (pre := prex) (post := postx) (f := cEdu) (sz := 11) (j := 0) (n := 11) (fun _ _ => rfl) hx2 (by decide)).trans rfl) (Wt.none rfl) rfl ?_
            refine ca' rfl rfl (s := Ctr.lend Lends.Vw cb16 (fun G' hle hr => PutM_ctr (e := x) hr hxs (by have := rsL_len l; omega) ⟨by omega, by have := rsL_len l; omega⟩)) (q := ?_)
            rintro _ _ ⟨_, rfl, rfl, hA_⟩
            replace hA_ := hA_.symm; subst hA_
            refine nl' (ib' (rg' (mv' rfl ?_)))
            first | refine RunL.pure (Pure.addI rfl rfl (by omega)) (Wt.none rfl) rfl rfl ?_ | refine RunL.pure (Pure.add rfl rfl) (Wt.none rfl) rfl rfl ?_
            refine as' rfl (nl' ?_)
            have hq : (runO (evsL xa xb) (rsL l) ((pl ++ repR 2 (ys.length + (rsL l).length)).take (i + 1))) = stepO (evsL xa xb) (rsL l) (runO (evsL xa xb) (rsL l) ((pl ++ repR 2 (ys.length + (rsL l).length)).take i)) k := runO_succ hk
            rw [step_rc (by omega) (by rw [hyE]; exact hx)] at hq
            have hq1 := congrArg (·.1) hq
            have hq2 := congrArg (·.2) hq
            dsimp only at hq1 hq2
            refine kp' [9, 11, 12, 13, 16, 20] ?_
            exact ag' F ih (by exact ⟨i + 1, by omega, rfl, rfl, by rw [hq1, hq2]⟩)
        · try simp only [Z] at h2
          have hal : (pl ++ repR 2 (ys.length + (rsL l).length)).length ≤ 100 := by rw [List.length_append, repR_len]; have := rsL_len l; omega
          have hst := order_st (xa := xa) (xb := xb) (rs := (rsL l)) (by have := rsL_len l; omega) ((pl ++ repR 2 (ys.length + (rsL l).length)).take i)
          have hok := hst.ok rsL_small
          have hk1 := hok.2.2.1
          have hk2 := hok.2.2.2.2.1
          have hk3 := hok.2.2.2.2.2
          have hvl := hst.view.len
          have hie : (pl ++ repR 2 (ys.length + (rsL l).length)).take i = (pl ++ repR 2 (ys.length + (rsL l).length)) := List.take_of_length_le (by omega)
          rw [hie] at hst hok hk1 hk2 hk3 hvl ⊢
          have hfin := order_all (xa := xa) (xb := xb) (rs := (rsL l)) (by have := rsL_len l; omega) rsL_kind pl
          rw [show (evsL xa xb).length = ys.length from by rw [← hyl, List.length_map]] at hfin
          have htl := hst.small
          refine ex' rfl (sr' (mv' rfl ?_))
          refine ca' rfl rfl (s := LostM_ctr) (q := ?_)
          rintro _ _ ⟨rfl, hA_⟩
          replace hA_ := hA_.symm; subst hA_
          rw [hfin.1]
          refine pp' (Pure.eql rfl rfl) (mv' rfl ?_)
          refine RunL.split (d := 146) rfl (fun hg2 => ?_) (fun hg2 => ?_)
          rotate_left
          · try simp only [Z] at hg2
            exfalso
            first | exact hg2 rfl | exact hg2 trivial | (simp at hg2; done)
          try simp only [Z] at hg2
          refine py' (Pure.move rfl) ?_
          refine RunL.openMk (by first | ((repeat (first | (with_reducible exact F0 _) | apply F1)); done) | (repeat (first | exact F0 _ | apply F1))) ?_; intro pt pp
          refine py' (Pure.nilCheck rfl) (py' (Pure.fieldAddr rfl fo60_0) (l1' rfl agg57 ?_))
          refine ca' rfl rfl (s := AllO_ctr hst.kn (by have := rsL_len l; omega)) (q := ?_)
          rintro _ _ ⟨a7, c7, rfl, hA_⟩
          replace hA_ := hA_.symm; subst hA_
          rw [hfin.2]
          refine py' (Pure.move rfl) ?_
          refine ca' rfl rfl (s := rBuild_ctr (K := K) hys (by omega) (fun y hy => hwf _ (by rw [← hyl]; exact List.mem_map.2 ⟨_, hy, rfl⟩)) hYK) (q := ?_)
          rintro _ _ ⟨K1, V, zs, hb1, hb2, hb3, hb4, rfl, hA_⟩
          replace hA_ := hA_.symm; subst hA_
          have hW : vget (zs.map (fun z : DD × ByteArray × EL => z.2)) = allW xa xb := by rw [← world hyl]; funext r; exact hb4 r
          refine lB' (Pool K1) Lends.Pool fun gp1 hlegp1 hK1 backgp1 => ?_
          have hgsa_gp1 := hgsa.mono hlegp1
          have hgxa_gp1 := hgxa.mono hlegp1
          have hgsb_gp1 := hgsb.mono hlegp1
          have hgxb_gp1 := hgxb.mono hlegp1
          have hl_gp1 := hl.mono hlegp1
          have hos_gp1 := hos.mono hlegp1
          have hys_gp1 := hys.mono hlegp1
          have hrs_gp1 := hrs.mono hlegp1
          have hall_gp1 := hall.mono hlegp1
          have hZ := hb2.hp (G' := gp1) hK1
          refine py' (Pure.move rfl) ?_
          refine ca' rfl rfl (s := rFold_ctr hZ (by omega) (fun r => by rw [hW]; have := InW.len (xa := xa) (xb := xb) (vg := allW xa xb) (fun r => ⟨allW_good r, fun v hv => hv⟩) r; omega) (hrs.mono hlegp1) (by have := rsL_len l; omega)) (q := ?_)
          rintro _ _ ⟨am, cm, rfl, hA_⟩
          replace hA_ := hA_.symm; subst hA_
          rw [hW]
          refine ca' rfl rfl (s := Ctr.lend2 (Q1 := Sl 115 6 a7 (ML (foldR (allW xa xb) (rsL l))).length c7 ((ML (foldR (allW xa xb) (rsL l))).flatMap cM)) (Q2 := Sl 117 6 am (ML (foldR (allW xa xb) (rsL l))).length cm ((ML (foldR (allW xa xb) (rsL l))).flatMap cM)) (R1 := fun G => SlR G 115 6 _ _ _ ∧ _ ≤ _) (R2 := fun G => SlR G 117 6 _ _ _ ∧ _ ≤ _) Lends.Sl Lends.Sl cb24 (fun G G' h q => ⟨q.1.mono h, q.2⟩) (fun G' hle hr hr2 => like_ctr hr.1 hr2.1 (by rw [← hfin.2, ML_len]; have := rsL_len l; omega))) (q := ?_)
          rintro _ _ ⟨_, rfl, rfl, hA_⟩
          replace hA_ := hA_.symm; subst hA_
          refine pp' (Pure.pickT rfl rfl) (mv' rfl ?_)
          refine RunL.split (d := 158) rfl (fun hg3 => ?_) (fun hg3 => ?_)
          rotate_left
          · try simp only [Z] at hg3
            exfalso
            first | exact hg3 rfl | exact hg3 trivial | (simp at hg3; done)
          try simp only [Z] at hg3
          refine ca' rfl rfl (s := lives_ctr) (q := ?_)
          rintro _ _ ⟨rfl, hA_⟩
          replace hA_ := hA_.symm; subst hA_
          refine pp' (Pure.pickT rfl rfl) (as' rfl (nl' ?_))
          refine Run.backB backgp1 ?_
          exact rt' Tryz.func4 (res1 rfl rfl) (by exact ⟨rfl, rfl⟩)
    · skip
      refine bl' ?_
      refine kp' [3, 9, 11, 12, 13, 15, 16, 17] ?_
      refine lp' F (fun n e_ A => ∃ (i : Nat) (pl : List Nat) (a16 : Option Addr) (c16 : Nat), i ≤ 20 ∧ (pl.length = i ∧ ∀ k ∈ pl, k < (ys.length + (rsL l).length)) ∧ n = 20 - i ∧ e_ = [(3, .slice ao os.length co), (9, .pointer (some ⟨pm, 0, none⟩)), (11, .pointer (some ⟨pv, 0, none⟩)), (12, .slice ay ys.length cy), (13, .slice a13 (rsL l).length c13), (15, .int .i64 ((ys.length + (rsL l).length) : Nat)), (16, .slice a16 pl.length c16), (17, .int .i64 (i : Nat))] ∧ A = Sl 3 1 a16 (pl).length c16 ((pl).map fun k : Nat => Value.int .i64 (k : Nat)) :: Pool K :: Vw pv [] :: Mk pm 1000 ⟨[], [], 0⟩ :: F) (20) (by exact ⟨0, [], none, 0, by omega, ⟨rfl, fun k hk => by cases hk⟩, rfl, rfl, rfl⟩) ?_
      rintro n _ _ ⟨i, pl, a16, c16, hi, hpl, rfl, rfl, hA_⟩ ih
      replace hA_ := hA_.symm; subst hA_
      refine sq' (sr' (mv' rfl (mv' rfl (pp' (Pure.lenSl rfl rfl und43) (pp' (Pure.lss rfl rfl) (mv' rfl ?_))))))
      refine RunL.split (d := 67) rfl (fun c2 => ?_) (fun c2 => ?_)
      · try simp only [Z] at c2
        refine py' (Pure.move rfl) (py' (Pure.lss rfl rfl) (pp' (Pure.pickT rfl rfl) (mv' rfl ?_)))
        refine RunL.split (d := 71) rfl (fun c3 => ?_) (fun c3 => ?_)
        · try simp only [Z] at c3
          refine py' (Pure.move rfl) (py' (Pure.gtr rfl rfl) (pp' (Pure.pickT rfl rfl) (nl' ?_)))
          refine Run.cond rfl (fun c4 => ?_) (fun c4 => ?_)
          · try simp only [Z] at c4
            obtain ⟨o, ho⟩ := get_some (xs := os) (i := i) (by omega)
            obtain ⟨bo, To, preo, posto, hpo, hroo⟩ := hos.open1 (show 0 < os.length by omega)
            have hol := hov o (List.mem_of_getElem? ho)
            have har := around_lt (z := o) (m := ((ys.length + (rsL l).length) : Nat)) (by omega)
            obtain ⟨k, hk⟩ : ∃ k : Nat, around o ((ys.length + (rsL l).length) : Nat) = (k : Nat) := ⟨(around o ((ys.length + (rsL l).length) : Nat)).toNat, by omega⟩
            refine sk' (sq' (bl' (rg' (mv' rfl (mv' rfl (mv' rfl ?_))))))
            refine pp' (Pure.indexAddr (opvSl rfl hpo) rfl und43 sz3 (by omega) (by omega)) ?_
            refine RunL.load1R rfl hroo (elem1_at ho) agg3 (Wt.none rfl) rfl ?_
            refine mv' rfl ?_
            refine ca' rfl rfl (s := Around_ctr (z := o) (m := ((ys.length + (rsL l).length) : Nat)) hol (by omega)) (q := ?_)
            rintro _ _ ⟨rfl, hA_⟩
            replace hA_ := hA_.symm; subst hA_
            rw [hk]
            refine RunL.lit (vals := [_]) (vs := ([k] : List Nat).map (fun k : Nat => Value.int .i64 (k : Nat))) und43 sz3 zz3 rfl rfl rfl rfl rfl rfl (by simp [Value.cells, bv, cDD, cEdu, cEvn, cGG, cK, cM, cNde, cPP, cPos, cSS, cVV]) rfl (Wt.none rfl) rfl ?_; intro b84
            refine RunL.append (m := 1) (n' := (pl ++ [k]).length) (cs' := (pl ++ [k]).map (fun k : Nat => Value.int .i64 (k : Nat))) rfl rfl (by first | ((repeat (first | (with_reducible exact F0 _) | apply F1)); done) | (repeat (first | exact F0 _ | apply F1))) rfl rfl und43 und43 rfl sz3 zz3 rfl by3 (by omega) (by omega) (fun w sw => sw.src) (isOne_nats _) (by simp only [List.length_append, List.length_singleton]) (by simp only [List.map_append]) (Wt.none rfl) rfl ?_; intro a3 c3
            refine as' rfl (nl' (ib' (rg' (mv' rfl ?_))))
            first | refine RunL.pure (Pure.addI rfl rfl (by omega)) (Wt.none rfl) rfl rfl ?_ | refine RunL.pure (Pure.add rfl rfl) (Wt.none rfl) rfl rfl ?_
            refine as' rfl (nl' ?_)
            refine kp' [3, 9, 11, 12, 13, 15, 16, 17] ?_
            refine Run.againF (F := F) ih (by exact ⟨i + 1, pl ++ [k], a3, c3, by omega, ⟨by simp; omega, fun j hj => by
            rcases List.mem_append.1 hj with hj | hj
            · exact hpl.2 j hj
            · obtain rfl := List.mem_singleton.1 hj; omega⟩, rfl, rfl, rfl⟩) (by repeat (first | (with_reducible exact Fin.done (by repeat (first | (with_reducible exact Rest.here) | apply Rest.there))) | (apply Fin.cons (by first | ((repeat (first | (with_reducible exact F0 _) | apply F1)); done) | (repeat (first | exact F0 _ | apply F1)))))) ?_
            omega
          · try simp only [Z] at c4
            refine ex' rfl ?_
            refine kp' [9, 11, 12, 13, 15, 16] ?_
            exact me' F hk (by exact ⟨pl, a16, c16, ⟨by omega, hpl.2⟩, rfl, rfl⟩)
        · try simp only [Z] at c3
          refine no' (no' (pp' (Pure.pickF rfl rfl) (nl' (cF' (ex' rfl ?_)))))
          refine kp' [9, 11, 12, 13, 15, 16] ?_
          exact me' F hk (by exact ⟨pl, a16, c16, ⟨by omega, hpl.2⟩, rfl, rfl⟩)
      · try simp only [Z] at c2
        refine no' (no' (pp' (Pure.pickF rfl rfl) (mv' rfl (no' (no' (pp' (Pure.pickF rfl rfl) (nl' (cF' (ex' rfl ?_)))))))))
        refine kp' [9, 11, 12, 13, 15, 16] ?_
        exact me' F hk (by exact ⟨pl, a16, c16, ⟨by omega, hpl.2⟩, rfl, rfl⟩)
  · skip
    refine bl' ?_
    refine kp' [2, 3, 9, 11, 12, 13, 14] ?_
    refine lp' F (fun n e_ A => ∃ (i : Nat) (a13 : Option Addr) (c13 : Nat), i ≤ 8 ∧ i ≤ l.length ∧ n = 8 - i ∧ e_ = [(2, .slice al l.length cl), (3, .slice ao os.length co), (9, .pointer (some ⟨pm, 0, none⟩)), (11, .pointer (some ⟨pv, 0, none⟩)), (12, .slice ay ys.length cy), (13, .slice a13 ((l.take i).map waitsE).length c13), (14, .int .i64 (i : Nat))] ∧ A = Sl 23 11 a13 (((l.take i).map waitsE)).length c13 ((((l.take i).map waitsE)).flatMap cEdu) :: Pool K :: Vw pv [] :: Mk pm 1000 ⟨[], [], 0⟩ :: F) (8) (by exact ⟨0, none, 0, by omega, by omega, rfl, rfl, rfl⟩) ?_
    rintro n _ _ ⟨i, a13, c13, hi, hil, rfl, rfl, hA_⟩ ih
    replace hA_ := hA_.symm; subst hA_
    refine sq' (sr' (mv' rfl (mv' rfl (pp' (Pure.lenSl rfl rfl und25) (pp' (Pure.lss rfl rfl) (mv' rfl ?_))))))
    refine RunL.split (d := 44) rfl (fun c0 => ?_) (fun c0 => ?_)
    · try simp only [Z] at c0
      refine py' (Pure.move rfl) (py' (Pure.lss rfl rfl) (pp' (Pure.pickT rfl rfl) (nl' ?_)))
      refine Run.cond rfl (fun c1 => ?_) (fun c1 => ?_)
      · try simp only [Z] at c1
        obtain ⟨x, hx⟩ := get_some (xs := l) (i := i) (by omega)
        have hxo := hlo x (List.mem_of_getElem? hx)
        obtain ⟨bx, Tx, prex, postx, hpx, hrox⟩ := hl.open1 (show 0 < l.length by omega)
        have hil : ((l.take i).map waitsE).length = i := by rw [List.length_map, List.length_take]; omega
        refine sk' (sq' (bl' (rg' (mv' rfl (mv' rfl (mv' rfl ?_))))))
        refine pp' (Pure.indexAddr (opvSl rfl hpx) rfl und25 sz23 (by omega) (by omega)) ?_
        refine RunL.loadNR (vs := (cEdu x)) rfl hrox agg23 sz23 (elemN_len (pre := prex) (post := postx) (f := cEdu) (sz := 11) (j := 0) (n := 11) (fun _ _ => rfl) hx (by decide)) ((elemN_at (pre := prex) (post := postx) (f := cEdu) (sz := 11) (j := 0) (n := 11) (fun _ _ => rfl) hx (by decide)).trans rfl) (Wt.none rfl) rfl ?_
        refine ca' rfl rfl (s := Waits12_ctr (e := x) hxo) (q := ?_)
        rintro _ _ ⟨rfl, hA_⟩
        replace hA_ := hA_.symm; subst hA_
        refine RunL.lit (vals := [_]) (vs := ([waitsE x] : List Edu).flatMap cEdu) und25 sz23 zz23 rfl rfl rfl rfl rfl rfl (by simp [Value.cells, bv, cDD, cEdu, cEvn, cGG, cK, cM, cNde, cPP, cPos, cSS, cVV]) rfl (Wt.none rfl) rfl ?_; intro b56
        refine RunL.append (m := 1) (n' := (((l.take i).map waitsE) ++ [waitsE x]).length) (cs' := (((l.take i).map waitsE) ++ [waitsE x]).flatMap cEdu) rfl rfl (by first | ((repeat (first | (with_reducible exact F0 _) | apply F1)); done) | (repeat (first | exact F0 _ | apply F1))) rfl rfl und25 und25 rfl sz23 zz23 rfl by23 (by simp; omega) (by omega) (fun w sw => sw.src) (isOne_flat (f := cEdu) (fun _ => rfl)) (by simp) (by rw [List.flatMap_append]) (Wt.none rfl) rfl ?_; intro a3 c3
        refine as' rfl (nl' (ib' (rg' (mv' rfl ?_))))
        first | refine RunL.pure (Pure.addI rfl rfl (by omega)) (Wt.none rfl) rfl rfl ?_ | refine RunL.pure (Pure.add rfl rfl) (Wt.none rfl) rfl rfl ?_
        refine as' rfl (nl' ?_)
        have hs : ((l.take (i + 1)).map waitsE) = ((l.take i).map waitsE) ++ [waitsE x] := by rw [List.take_add_one, hx, List.map_append]; rfl
        rw [← hs]
        refine kp' [2, 3, 9, 11, 12, 13, 14] ?_
        exact ag' F ih (by exact ⟨i + 1, a3, c3, by omega, by omega, rfl, rfl, rfl⟩)
      · try simp only [Z] at c1
        refine ex' rfl ?_
        have hrs : (rsL l) = ((l.take i).map waitsE) := by unfold rsL; rw [show i = 8 from by omega]
        rw [← hrs]
        refine kp' [3, 9, 11, 12, 13] ?_
        exact me' F hk (by exact ⟨a13, c13, rfl, rfl⟩)
    · try simp only [Z] at c0
      refine no' (no' (pp' (Pure.pickF rfl rfl) (nl' (cF' (ex' rfl ?_)))))
      have hrs : (rsL l) = ((l.take i).map waitsE) := by unfold rsL; rw [List.take_of_length_le (by omega), List.take_of_length_le (by omega)]
      rw [← hrs]
      refine kp' [3, 9, 11, 12, 13] ?_
      exact me' F hk (by exact ⟨a13, c13, rfl, rfl⟩)

end Go.Proofs.YtaaondbmkibkkaaGreat
