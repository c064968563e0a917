/- Marks go on. -/
import Derived.Test.YtaaondbmkibkkaaGreatQ6
set_option linter.unusedVariables false
set_option linter.unusedSimpArgs false
set_option linter.unusedSectionVars false
namespace Go.Proofs.YtaaondbmkibkkaaGreat
open Go Csl
theorem cb29 : Callable Tryz.prog 29 := ⟨_, Tryz.func29, by kernel_rfl, by kernel_rfl⟩

set_option maxHeartbeats 1000000 in
set_option maxRecDepth 100000 in
theorem MarksOn_ctr {G : Gp} {aa : Option Addr} {ca : Nat} {ga : List GG} (ha : SlR G 130 4 aa ga.length (ga.flatMap cGG)) (hia : GsIn G ga) {ab : Option Addr} {cb : Nat} {gb : List GG} (hb : SlR G 130 4 ab gb.length (gb.flatMap cGG)) (hib : GsIn G gb) {al : Option Addr} {cl : Nat} {l : List Edu} (hl : SlR G 23 11 al l.length (l.flatMap cEdu)) (hlo : ∀ x ∈ l, okEdu x) :
    Ctr Tryz.prog G 5 [.slice aa ga.length ca, .slice ab gb.length cb, .slice al l.length cl] [] (fun F v A => v = .bool true ∧ A = F) := by
  refine Ctr.intro Tryz.func5 rfl (by kernel_rfl) rfl (fun F => ?_)
  simp only [List.nil_append]
  obtain ⟨xa, hxa, hgxa⟩ := hia
  have hgsa : SlR G 130 4 aa xa.length (xa.flatMap cGX) := by rw [← hxa, List.length_map, gx_flat] at ha; exact ha
  have hgla : ga.length = xa.length := by rw [← hxa, List.length_map]
  obtain ⟨xb, hxb, hgxb⟩ := hib
  have hgsb : SlR G 130 4 ab xb.length (xb.flatMap cGX) := by rw [← hxb, List.length_map, gx_flat] at hb; exact hb
  have hglb : gb.length = xb.length := by rw [← hxb, List.length_map]
  refine sr' (as' rfl (nl' (sr' ?_)))
  refine ca' rfl rfl (s := NewM1_ctr (z := 8) (by decide)) (q := ?_)
  rintro _ _ ⟨pm, rfl, hA_⟩
  replace hA_ := hA_.symm; subst hA_
  refine mv' rfl (pp' (Pure.extract rfl rfl) (pp' (Pure.extract rfl rfl) (as' rfl (as' rfl (nl' (sr' ?_))))))
  refine ca' rfl rfl (s := NewV_ctr) (q := ?_)
  rintro _ _ ⟨pv, rfl, hA_⟩
  replace hA_ := hA_.symm; subst hA_
  refine as' rfl (nl' (sq' (sr' (mv' rfl (pp' (Pure.ptrEqNil rfl rfl und26) (mv' rfl (py' (Pure.move rfl) (py' (Pure.ptrEqNil rfl rfl und30) (pp' (Pure.pickF rfl rfl) (mv' rfl (py' (Pure.move rfl) (py' (Pure.neq rfl rfl) (pp' (Pure.pickF rfl rfl) (nl' ?_))))))))))))))
  refine Run.cond rfl (fun hc1 => ?_) (fun hc1 => ?_)
  · try simp only [Z] at hc1
    exfalso
    first | exact hc1 rfl | exact hc1 trivial | (simp at hc1; done)
  try simp only [Z] at hc1
  refine sk' (sr' (mv' rfl (mv' rfl ?_)))
  rw [hgla, hglb]
  refine ca' rfl rfl (s := Made_ctr (xa := xa) (xb := xb) hgsa hgxa hgsb hgxb) (q := ?_)
  rintro _ _ ⟨K, ay, cy, ys, hyl, hYK, rfl, hA_⟩
  replace hA_ := hA_.symm; subst hA_
  have hyn : ys.length ≤ 18 := by rw [← List.length_map (f := (·.1)), hyl]; exact evs_len xa xb
  have hwf := evs_wf (xa := xa) (xb := xb)
  refine as' rfl (nl' ?_)
  refine la' (Sl 49 6 ay ys.length cy _) Lends.Sl fun Ghys hleGhys hys => ?_
  replace hgsa := hgsa.mono hleGhys
  replace hgxa := hgxa.mono hleGhys
  replace hgsb := hgsb.mono hleGhys
  replace hgxb := hgxb.mono hleGhys
  replace hl := hl.mono hleGhys
  obtain ⟨hys, hyc⟩ := hys
  refine la' (Pool K) Lends.Pool fun GhK hleGhK hK => ?_
  replace hgsa := hgsa.mono hleGhK
  replace hgxa := hgxa.mono hleGhK
  replace hgsb := hgsb.mono hleGhK
  replace hgxb := hgxb.mono hleGhK
  replace hl := hl.mono hleGhK
  replace hys := hys.mono hleGhK
  have hyk := hYK.hp hK
  refine sq' (sr' (as' rfl (nl' (bl' ?_))))
  refine kp' [2, 7, 9, 10, 11] ?_
  refine lp' F (fun n e_ A => ∃ (i : Nat) (vl : VL), i ≤ ys.length ∧ (∀ r, (vget vl r).length ≤ i) ∧ n = ys.length - i ∧ e_ = [(2, .slice al l.length cl), (7, .pointer (some ⟨pm, 0, none⟩)), (9, .pointer (some ⟨pv, 0, none⟩)), (10, .slice ay ys.length cy), (11, .int .i64 (i : Nat))] ∧ A = Vw pv vl :: Mk pm 8 ⟨[], [], 0⟩ :: F) (ys.length) (by exact ⟨0, [], by omega, (fun r => Nat.zero_le _), rfl, rfl, rfl⟩) ?_
  rintro n _ _ ⟨i, vl, hi, hvl, rfl, rfl, hA_⟩ ih
  replace hA_ := hA_.symm; subst hA_
  refine sq' (sr' (mv' rfl (mv' rfl (pp' (Pure.lenSl rfl rfl und44) (pp' (Pure.lss rfl rfl) (nl' ?_))))))
  refine Run.cond rfl (fun c0 => ?_) (fun c0 => ?_)
  · try simp only [Z] at c0
    obtain ⟨y, hy⟩ := get_some (xs := ys) (i := i) (by omega)
    obtain ⟨v, sv⟩ := y
    have hym := List.mem_of_getElem? hy
    have hvm : v ∈ evsL xa xb := by rw [← hyl]; exact List.mem_map.2 ⟨_, hym, rfl⟩
    obtain ⟨be, Te, pree, poste, hpe, hroe⟩ := hys.open1 (show 0 < ys.length by omega)
    refine sk' (sq' (bl' (rg' (mv' rfl (mv' rfl (mv' rfl ?_))))))
    refine pp' (Pure.indexAddr (opvSl rfl hpe) rfl und44 sz49 (by omega) (by omega)) ?_
    refine RunL.loadNR (vs := (cEvn ((v.evn sv)))) rfl hroe agg49 sz49 (elemN_len (pre := pree) (post := poste) (f := cES) (sz := 6) (j := 0) (n := 6) (fun _ _ => rfl) hy (by decide)) ((elemN_at (pre := pree) (post := poste) (f := cES) (sz := 6) (j := 0) (n := 6) (fun _ _ => rfl) hy (by decide)).trans rfl) (Wt.none rfl) rfl ?_
    refine ca' rfl rfl (s := AddV_ctr (e := v.evn sv) (ps := v.ps) (hyk _ hym) (hwf v hvm) (fun r => by have := hvl r; omega)) (q := ?_)
    rintro _ _ ⟨rfl, hA_⟩
    replace hA_ := hA_.symm; subst hA_
    rw [ev_evn]
    refine nl' (ib' (rg' (mv' rfl ?_)))
    first | refine RunL.pure (Pure.addI rfl rfl (by omega)) (Wt.none rfl) rfl rfl ?_ | refine RunL.pure (Pure.add rfl rfl) (Wt.none rfl) rfl rfl ?_
    refine as' rfl (nl' ?_)
    refine kp' [2, 7, 9, 10, 11] ?_
    exact ag' F ih (by exact ⟨i + 1, vaddL vl v, by omega, (fun r => by have h1 := vadd_len (vl := vl) (v := v) r; have h2 := hvl r; omega), rfl, rfl, rfl⟩)
  · try simp only [Z] at c0
    refine ex' rfl (sq' (sr' (as' rfl (nl' (bl' ?_)))))
    refine kp' [2, 7, 9, 12] ?_
    refine lp' F (fun n e_ A => ∃ (i : Nat) (s : MS), i ≤ 12 ∧ s.ok i ∧ n = 12 - i ∧ e_ = [(2, .slice al l.length cl), (7, .pointer (some ⟨pm, 0, none⟩)), (9, .pointer (some ⟨pv, 0, none⟩)), (12, .int .i64 (i : Nat))] ∧ A = Vw pv vl :: Mk pm 8 s :: F) (12) (by exact ⟨0, _, by omega, MS.ok0 0, rfl, rfl, rfl⟩) ?_
    rintro n _ _ ⟨i, s, hi, hok, rfl, rfl, hA_⟩ ih
    replace hA_ := hA_.symm; subst hA_
    refine sq' (sr' (mv' rfl (mv' rfl (pp' (Pure.lenSl rfl rfl und25) (pp' (Pure.lss rfl rfl) (mv' rfl ?_))))))
    refine RunL.split (d := 56) rfl (fun c1 => ?_) (fun c1 => ?_)
    · try simp only [Z] at c1
      refine py' (Pure.move rfl) (py' (Pure.lss rfl rfl) (pp' (Pure.pickT rfl rfl) (nl' ?_)))
      refine Run.cond rfl (fun c2 => ?_) (fun c2 => ?_)
      · try simp only [Z] at c2
        obtain ⟨x, hx⟩ := get_some (xs := l) (i := i) (by omega)
        have hxo := hlo x (List.mem_of_getElem? hx)
        obtain ⟨bx, Tx, prex, postx, hpx, hrox⟩ := hl.open1 (show 0 < l.length by omega)
        have hws := waits_small x
        have hk1 := hok.2.2.1
        have hk2 := hok.2.2.2.2.1
        have hk3 := hok.2.2.2.2.2
        have hk0 := hok.2.1
        refine sk' (sq' (bl' (sr' (mv' rfl (mv' rfl ?_)))))
        refine pp' (Pure.indexAddr (opvSl rfl hpx) rfl und25 sz23 (by omega) (by omega)) ?_
        refine RunL.loadNR (vs := (cEdu x)) rfl hrox agg23 sz23 (elemN_len (pre := prex) (post := postx) (f := cEdu) (sz := 11) (j := 0) (n := 11) (fun _ _ => rfl) hx (by decide)) ((elemN_at (pre := prex) (post := postx) (f := cEdu) (sz := 11) (j := 0) (n := 11) (fun _ _ => rfl) hx (by decide)).trans rfl) (Wt.none rfl) rfl ?_
        refine ca' rfl rfl (s := Waits12_ctr (e := x) hxo) (q := ?_)
        rintro _ _ ⟨rfl, hA_⟩
        replace hA_ := hA_.symm; subst hA_
        refine RunL.alloc zz23 (Wt.none rfl) rfl ?_; intro b13
        refine sW' (cEdu ((waitsE x))) rfl rfl sz23 ?_
        refine nl' (sq' ?_)
        refine Run.cut (fun e_ A => ∃ b14 : Nat, e_ = [(2, .slice al l.length cl), (7, .pointer (some ⟨pm, 0, none⟩)), (9, .pointer (some ⟨pv, 0, none⟩)), (12, .int .i64 (i : Nat)), (13, .pointer (some ⟨b13, 0, none⟩)), (14, .pointer (some ⟨b14, 0, none⟩)), (15, .bool (mget (kOf (waitsE x)) (s).tl).isSome)] ∧ A = row b13 23 (cEdu (waitsE x)) :: row b14 69 (cPos ((mget (kOf (waitsE x)) (s).tl).getD noPos)) :: Vw pv vl :: Mk pm 8 s :: F) (fun e A hM => ?_) (fun hk => ?_)
        · obtain ⟨b14, rfl, hA_⟩ := hM
          replace hA_ := hA_.symm; subst hA_
          refine sr' (mv' rfl (mv' rfl (lA' (cEdu ((waitsE x))) rfl agg23 sz23 ?_)))
          refine ca' rfl rfl (s := Ctr.lend Lends.Vw cb16 (fun G' hle hr => PutM_ctr (e := (waitsE x)) hr hws (by omega) ⟨by omega, by omega⟩)) (q := ?_)
          rintro _ _ ⟨_, rfl, rfl, hA_⟩
          replace hA_ := hA_.symm; subst hA_
          refine mv' rfl (pp' (Pure.extract rfl rfl) (pp' (Pure.extract rfl rfl) (as' rfl (as' rfl (nl' (sq' ?_))))))
          refine Run.cut (fun e_ A => ∃ b18 : Nat, e_ = [(2, .slice al l.length cl), (7, .pointer (some ⟨pm, 0, none⟩)), (9, .pointer (some ⟨pv, 0, none⟩)), (12, .int .i64 (i : Nat)), (13, .pointer (some ⟨b13, 0, none⟩)), (14, .pointer (some ⟨b14, 0, none⟩)), (15, .bool (mget (kOf (waitsE x)) (s).tl).isSome), (16, .bool (mPut 8 (vget vl) s (waitsE x)).2.1), (17, .int .i64 (mPut 8 (vget vl) s (waitsE x)).2.2), (18, .pointer (some ⟨b18, 0, none⟩)), (19, .bool (mget (kOf (waitsE x)) ((mPut 8 (vget vl) s (waitsE x)).1).tl).isSome)] ∧ A = row b13 23 (cEdu (waitsE x)) :: row b14 69 (cPos ((mget (kOf (waitsE x)) (s).tl).getD noPos)) :: row b18 69 (cPos ((mget (kOf (waitsE x)) ((mPut 8 (vget vl) s (waitsE x)).1).tl).getD noPos)) :: Vw pv vl :: Mk pm 8 (mPut 8 (vget vl) s (waitsE x)).1 :: F) (fun e A hM => ?_) (fun hk => ?_)
          · obtain ⟨b18, rfl, hA_⟩ := hM
            replace hA_ := hA_.symm; subst hA_
            refine sr' (mv' rfl (pp' (Pure.fieldAddr rfl fo23_1) (l1' rfl agg9 ?_)))
            refine pp' (Pure.fieldAddr rfl fo23_3) (l1' rfl agg9 ?_)
            refine ca' rfl rfl (s := Ctr.lend Lends.Vw cb29 (fun G' hle hr => PositionV_ctr (room := (waitsE x).room) (id := (waitsE x).event) hr)) (q := ?_)
            rintro _ _ ⟨_, rfl, rfl, hA_⟩
            replace hA_ := hA_.symm; subst hA_
            refine mv' rfl (pp' (Pure.extract rfl rfl) (pp' (Pure.extract rfl rfl) ?_))
            refine RunL.alloc zz69 (Wt.none rfl) rfl ?_; intro b20
            refine sW' (cPos ((posAt (vget vl (waitsE x).room) (waitsE x).event))) rfl rfl sz69 ?_
            rcases mPut_cases (most := 8) (vg := vget vl) (s := s) (e := (waitsE x)) with ⟨hon, htl⟩ | ⟨hon, hf, htl, had, hhas⟩
            · skip
              have hg1 : (mget (kOf (waitsE x)) ((mPut 8 (vget vl) s (waitsE x)).1).tl).isSome = (mget (kOf (waitsE x)) (s).tl).isSome := by rw [htl]
              have hg2 : ((mget (kOf (waitsE x)) ((mPut 8 (vget vl) s (waitsE x)).1).tl).getD noPos) = ((mget (kOf (waitsE x)) (s).tl).getD noPos) := by rw [htl]
              rw [hon, hg1, hg2]
              refine as' rfl (nl' (sq' (sr' (mv' rfl (mv' rfl ?_)))))
              refine RunL.split (d := 104) rfl (fun hg2 => ?_) (fun hg2 => ?_)
              · try simp only [Z] at hg2
                exfalso
                first | exact hg2 rfl | exact hg2 trivial | (simp at hg2; done)
              try simp only [Z] at hg2
              refine no' (no' (no' (un' (un' (no' (no' (un' (un' (no' (no' (un' (un' (un' (no' (no' (un' (un' (un' (un' (un' (un' (un' (no' (pp' (Pure.pickF rfl rfl) (nl' (cF' (sk' (sr' (mv' rfl (pp' (Pure.not rfl) (mv' rfl ?_)))))))))))))))))))))))))))))))
              refine RunL.split (d := 132) rfl (fun hg3 => ?_) (fun hg3 => ?_)
              rotate_left
              · try simp only [Z] at hg3
                exfalso
                first | exact hg3 rfl | exact hg3 trivial | (simp at hg3; done)
              try simp only [Z] at hg3
              refine py' (Pure.move rfl) (py' (Pure.move rfl) (py' (Pure.bneq rfl rfl und4) (py' (Pure.move rfl) ?_)))
              refine RunL.split (d := 136) rfl (fun hg4 => ?_) (fun hg4 => ?_)
              · try simp only [Z] at hg4
                exfalso
                simp at hg4
              try simp only [Z] at hg4
              refine lA' (cPos (((mget (kOf (waitsE x)) (s).tl).getD noPos))) rfl agg69 sz69 ?_
              refine lA' (cPos (((mget (kOf (waitsE x)) (s).tl).getD noPos))) rfl agg69 sz69 ?_
              refine py' (Pure.aneq rfl rfl eqg69 (eqv69 (((mget (kOf (waitsE x)) (s).tl).getD noPos)) (((mget (kOf (waitsE x)) (s).tl).getD noPos))) (by decide)) ?_
              refine py' (Pure.pickF rfl rfl) (pp' (Pure.pickT rfl rfl) (nl' ?_))
              refine Run.cond rfl (fun hc5 => ?_) (fun hc5 => ?_)
              · try simp only [Z] at hc5
                exfalso
                first | exact hc5 rfl | exact hc5 trivial | (simp at hc5; done)
              try simp only [Z] at hc5
              refine sk' (ib' (rg' (mv' rfl ?_)))
              first | refine RunL.pure (Pure.addI rfl rfl (by omega)) (Wt.none rfl) rfl rfl ?_ | refine RunL.pure (Pure.add rfl rfl) (Wt.none rfl) rfl rfl ?_
              refine as' rfl (nl' ?_)
              refine kp' [2, 7, 9, 12] ?_
              exact ag' F ih (by exact ⟨i + 1, _, by omega, mPut_ok (most := 8) (vg := vget vl) hok hws, rfl, rfl, rfl⟩)
            · skip
              have hg0 : mget (kOf (waitsE x)) (mPut 8 (vget vl) s (waitsE x)).1.tl = some (posAt (vget vl (waitsE x).room) (waitsE x).event) := by rw [htl, tput_get, if_pos had]
              have hg1 : (mget (kOf (waitsE x)) ((mPut 8 (vget vl) s (waitsE x)).1).tl).isSome = true := by rw [hg0]; rfl
              have hg2 : ((mget (kOf (waitsE x)) ((mPut 8 (vget vl) s (waitsE x)).1).tl).getD noPos) = (posAt (vget vl (waitsE x).room) (waitsE x).event) := by rw [hg0]; rfl
              rw [hon, hf, hg1, hg2, hhas]
              refine as' rfl (nl' (sq' (sr' (mv' rfl (mv' rfl ?_)))))
              refine RunL.split (d := 104) rfl (fun hg6 => ?_) (fun hg6 => ?_)
              rotate_left
              · try simp only [Z] at hg6
                exfalso
                first | exact hg6 rfl | exact hg6 trivial | (simp at hg6; done)
              try simp only [Z] at hg6
              refine py' (Pure.move rfl) (py' (Pure.neq rfl rfl) (py' (Pure.move rfl) ?_))
              refine RunL.split (d := 107) rfl (fun hg7 => ?_) (fun hg7 => ?_)
              · try simp only [Z] at hg7
                exfalso
                first | exact hg7 rfl | exact hg7 trivial | (simp at hg7; done)
              try simp only [Z] at hg7
              refine py' (Pure.move rfl) (py' (Pure.not rfl) (py' (Pure.pickF rfl rfl) (py' (Pure.move rfl) ?_)))
              refine RunL.split (d := 111) rfl (fun hg8 => ?_) (fun hg8 => ?_)
              · try simp only [Z] at hg8
                exfalso
                first | exact hg8 rfl | exact hg8 trivial | (simp at hg8; done)
              try simp only [Z] at hg8
              refine py' (Pure.move rfl) (py' (Pure.not rfl) (py' (Pure.pickF rfl rfl) (py' (Pure.move rfl) ?_)))
              refine RunL.split (d := 115) rfl (fun hg9 => ?_) (fun hg9 => ?_)
              · try simp only [Z] at hg9
                exfalso
                first | exact hg9 rfl | exact hg9 trivial | (simp at hg9; done)
              try simp only [Z] at hg9
              refine lA' (cPos ((posAt (vget vl (waitsE x).room) (waitsE x).event))) rfl agg69 sz69 ?_
              refine lA' (cPos ((posAt (vget vl (waitsE x).room) (waitsE x).event))) rfl agg69 sz69 ?_
              refine py' (Pure.aneq rfl rfl eqg69 (eqv69 ((posAt (vget vl (waitsE x).room) (waitsE x).event)) ((posAt (vget vl (waitsE x).room) (waitsE x).event))) (by decide)) ?_
              refine py' (Pure.pickF rfl rfl) (py' (Pure.move rfl) ?_)
              refine RunL.split (d := 120) rfl (fun hg10 => ?_) (fun hg10 => ?_)
              · try simp only [Z] at hg10
                exfalso
                first | exact hg10 rfl | exact hg10 trivial | (simp at hg10; done)
              try simp only [Z] at hg10
              refine py' (Pure.move rfl) (py' (Pure.move rfl) ?_)
              refine RunL.split (d := 122) rfl (fun th => ?_) (fun th => ?_)
              · try simp only [Z] at th
                refine lA' (cPos (((mget (kOf (waitsE x)) (s).tl).getD noPos))) rfl agg69 sz69 ?_
                refine lA' (cPos ((posAt (vget vl (waitsE x).room) (waitsE x).event))) rfl agg69 sz69 ?_
                refine ca' rfl rfl (s := beforePos_ctr (p := ((mget (kOf (waitsE x)) (s).tl).getD noPos)) (q := (posAt (vget vl (waitsE x).room) (waitsE x).event))) (q := ?_)
                rintro _ _ ⟨rfl, hA_⟩
                replace hA_ := hA_.symm; subst hA_
                rw [adopts_bef had th]
                refine py' (Pure.not rfl) (py' (Pure.pickT rfl rfl) (py' (Pure.pickF rfl rfl) (pp' (Pure.pickT rfl rfl) (nl' ?_))))
                refine Run.cond rfl (fun hc11 => ?_) (fun hc11 => ?_)
                · try simp only [Z] at hc11
                  exfalso
                  first | exact hc11 rfl | exact hc11 trivial | (simp at hc11; done)
                try simp only [Z] at hc11
                refine sk' (sr' (mv' rfl (pp' (Pure.not rfl) (mv' rfl ?_))))
                refine RunL.split (d := 132) rfl (fun hg12 => ?_) (fun hg12 => ?_)
                · try simp only [Z] at hg12
                  exfalso
                  first | exact hg12 rfl | exact hg12 trivial | (simp at hg12; done)
                try simp only [Z] at hg12
                refine no' (no' (no' (no' (un' (un' (un' (no' (pp' (Pure.pickF rfl rfl) (nl' (cF' (sk' (ib' (rg' (mv' rfl ?_))))))))))))))
                first | refine RunL.pure (Pure.addI rfl rfl (by omega)) (Wt.none rfl) rfl rfl ?_ | refine RunL.pure (Pure.add rfl rfl) (Wt.none rfl) rfl rfl ?_
                refine as' rfl (nl' ?_)
                refine kp' [2, 7, 9, 12] ?_
                exact ag' F ih (by exact ⟨i + 1, _, by omega, mPut_ok (most := 8) (vg := vget vl) hok hws, rfl, rfl, rfl⟩)
              · try simp only [Z] at th
                refine no' (no' (no' (no' (py' (Pure.pickF rfl rfl) (py' (Pure.pickF rfl rfl) (pp' (Pure.pickT rfl rfl) (nl' (cF' (sk' (sr' (mv' rfl (pp' (Pure.not rfl) (mv' rfl ?_)))))))))))))
                refine RunL.split (d := 132) rfl (fun hg13 => ?_) (fun hg13 => ?_)
                · try simp only [Z] at hg13
                  exfalso
                  first | exact hg13 rfl | exact hg13 trivial | (simp at hg13; done)
                try simp only [Z] at hg13
                refine no' (no' (no' (no' (un' (un' (un' (no' (pp' (Pure.pickF rfl rfl) (nl' (cF' (sk' (ib' (rg' (mv' rfl ?_))))))))))))))
                first | refine RunL.pure (Pure.addI rfl rfl (by omega)) (Wt.none rfl) rfl rfl ?_ | refine RunL.pure (Pure.add rfl rfl) (Wt.none rfl) rfl rfl ?_
                refine as' rfl (nl' ?_)
                refine kp' [2, 7, 9, 12] ?_
                exact ag' F ih (by exact ⟨i + 1, _, by omega, mPut_ok (most := 8) (vg := vget vl) hok hws, rfl, rfl, rfl⟩)
          · skip
            refine Run.openMk (p := pm) (s := (mPut 8 (vget vl) s (waitsE x)).1) (by first | ((repeat (first | (with_reducible exact F0 _) | apply F1)); done) | (repeat (first | exact F0 _ | apply F1))) ?_; intro pt pp
            refine Run.regionD' (by kernel_rfl) (by kernel_rfl) (fun hok424 => ?_)
            refine ld' (row b13 23 _) Lends.row ?_; intro gl1 hlegl1 hl1 backgl1
            have hgsa_gl1 := hgsa.mono hlegl1
            have hgxa_gl1 := hgxa.mono hlegl1
            have hgsb_gl1 := hgsb.mono hlegl1
            have hgxb_gl1 := hgxb.mono hlegl1
            have hl_gl1 := hl.mono hlegl1
            have hys_gl1 := hys.mono hlegl1
            have hyk_gl1 := hyk.mono hlegl1
            refine ld' (row pm 60 _) Lends.row ?_; intro gm hlegm hgm backgm
            try (replace hl1 := hl1.mono hlegm)
            have hgsa_gm := hgsa_gl1.mono hlegm
            have hgxa_gm := hgxa_gl1.mono hlegm
            have hgsb_gm := hgsb_gl1.mono hlegm
            have hgxb_gm := hgxb_gl1.mono hlegm
            have hl_gm := hl_gl1.mono hlegm
            have hys_gm := hys_gl1.mono hlegm
            have hyk_gm := hyk_gl1.mono hlegm
            refine dp' 0 hok424 rfl (Pure.move rfl) (dp' 1 hok424 rfl (Pure.nilCheck rfl) (dp' 2 hok424 rfl (Pure.fieldAddr rfl fo60_0) (dl' 3 hok424 rfl rfl agg57 ?_)))
            refine RunD.loadNR (vs := (cEdu ((waitsE x)))) (i := 4) hok424 rfl (by kernel_rfl) rfl (by assumption) agg23 sz23 (by first | exact Nat.le_of_ble_eq_true rfl | (simp; done) | (simp; omega)) rfl (Wt.none rfl) rfl ?_
            refine RunD.two (i := 5) (j := 10) (by kernel_rfl) rfl rfl ?_ ?_
            · skip
              refine ca' rfl rfl (s := OfM_ctr (e := (waitsE x))) (q := ?_)
              rintro _ _ ⟨rfl, hA_⟩
              replace hA_ := hA_.symm; subst hA_
              refine RunL.nilD' ?_
              refine RunD.two (i := 6) (j := 10) (by kernel_rfl) rfl rfl ?_ ?_
              · skip
                refine ca' rfl rfl (s := GetO_ctr (k := (kOf (waitsE x))) (l := ((mPut 8 (vget vl) s (waitsE x)).1).tl)) (q := ?_)
                rintro _ _ ⟨rfl, hA_⟩
                replace hA_ := hA_.symm; subst hA_
                refine RunL.nilD' ?_
                refine dp' 7 hok424 rfl (Pure.move rfl) (dp' 8 hok424 rfl (Pure.extract rfl rfl) (dp' 9 hok424 rfl (Pure.extract rfl rfl) ?_))
                refine RunD.one (i := 10) (by kernel_rfl) rfl ?_
                · skip
                  refine RunL.alloc zz69 (Wt.none rfl) rfl ?_; intro b18
                  refine RunL.nilD' ?_
                  refine RunD.one (i := 11) (by kernel_rfl) rfl ?_
                  · skip
                    refine sW' (cPos (((mget (kOf (waitsE x)) ((mPut 8 (vget vl) s (waitsE x)).1).tl).getD noPos))) rfl rfl sz69 ?_
                    refine RunL.nilD' ?_
                    refine dp' 12 hok424 rfl (Pure.assign rfl) ?_
                    refine RunD.nilB (by kernel_rfl) (fun w sw => backgl1 _ _ (backgm _ _ (sw))) ?_
                    refine Run.mkMk ((mPut 8 (vget vl) s (waitsE x)).1) (by repeat (first | (with_reducible exact Take.nil _) | (apply Take.cons (by first | ((repeat (first | (with_reducible exact F0 _) | apply F1)); done) | (repeat (first | exact F0 _ | apply F1)))))) ?_
                    refine kp' [2, 7, 9, 12, 13, 14, 15, 16, 17, 18, 19] ?_
                    exact me' F hk (by exact ⟨b18, rfl, rfl⟩)
              · skip
                refine RunL.alloc zz69 (Wt.none rfl) rfl ?_; intro b18
                refine RunL.nilD' ?_
                refine RunD.one (i := 6) (by kernel_rfl) rfl ?_
                · skip
                  refine ca' rfl rfl (s := GetO_ctr (k := (kOf (waitsE x))) (l := ((mPut 8 (vget vl) s (waitsE x)).1).tl)) (q := ?_)
                  rintro _ _ ⟨rfl, hA_⟩
                  replace hA_ := hA_.symm; subst hA_
                  refine RunL.nilD' ?_
                  refine dp' 7 hok424 rfl (Pure.move rfl) (dp' 8 hok424 rfl (Pure.extract rfl rfl) (dp' 9 hok424 rfl (Pure.extract rfl rfl) ?_))
                  refine RunD.one (i := 11) (by kernel_rfl) rfl ?_
                  · skip
                    refine sW' (cPos (((mget (kOf (waitsE x)) ((mPut 8 (vget vl) s (waitsE x)).1).tl).getD noPos))) rfl rfl sz69 ?_
                    refine RunL.nilD' ?_
                    refine dp' 12 hok424 rfl (Pure.assign rfl) ?_
                    refine RunD.nilB (by kernel_rfl) (fun w sw => backgl1 _ _ (backgm _ _ (sw))) ?_
                    refine Run.mkMk ((mPut 8 (vget vl) s (waitsE x)).1) (by repeat (first | (with_reducible exact Take.nil _) | (apply Take.cons (by first | ((repeat (first | (with_reducible exact F0 _) | apply F1)); done) | (repeat (first | exact F0 _ | apply F1)))))) ?_
                    refine kp' [2, 7, 9, 12, 13, 14, 15, 16, 17, 18, 19] ?_
                    exact me' F hk (by exact ⟨b18, rfl, rfl⟩)
            · skip
              refine RunL.alloc zz69 (Wt.none rfl) rfl ?_; intro b18
              refine RunL.nilD' ?_
              refine RunD.one (i := 5) (by kernel_rfl) rfl ?_
              · skip
                refine ca' rfl rfl (s := OfM_ctr (e := (waitsE x))) (q := ?_)
                rintro _ _ ⟨rfl, hA_⟩
                replace hA_ := hA_.symm; subst hA_
                refine RunL.nilD' ?_
                refine RunD.one (i := 6) (by kernel_rfl) rfl ?_
                · skip
                  refine ca' rfl rfl (s := GetO_ctr (k := (kOf (waitsE x))) (l := ((mPut 8 (vget vl) s (waitsE x)).1).tl)) (q := ?_)
                  rintro _ _ ⟨rfl, hA_⟩
                  replace hA_ := hA_.symm; subst hA_
                  refine RunL.nilD' ?_
                  refine dp' 7 hok424 rfl (Pure.move rfl) (dp' 8 hok424 rfl (Pure.extract rfl rfl) (dp' 9 hok424 rfl (Pure.extract rfl rfl) ?_))
                  refine RunD.one (i := 11) (by kernel_rfl) rfl ?_
                  · skip
                    refine sW' (cPos (((mget (kOf (waitsE x)) ((mPut 8 (vget vl) s (waitsE x)).1).tl).getD noPos))) rfl rfl sz69 ?_
                    refine RunL.nilD' ?_
                    refine dp' 12 hok424 rfl (Pure.assign rfl) ?_
                    refine RunD.nilB (by kernel_rfl) (fun w sw => backgl1 _ _ (backgm _ _ (sw))) ?_
                    refine Run.mkMk ((mPut 8 (vget vl) s (waitsE x)).1) (by repeat (first | (with_reducible exact Take.nil _) | (apply Take.cons (by first | ((repeat (first | (with_reducible exact F0 _) | apply F1)); done) | (repeat (first | exact F0 _ | apply F1)))))) ?_
                    refine kp' [2, 7, 9, 12, 13, 14, 15, 16, 17, 18, 19] ?_
                    exact me' F hk (by exact ⟨b18, rfl, rfl⟩)
        · skip
          refine Run.openMk (p := pm) (s := s) (by first | ((repeat (first | (with_reducible exact F0 _) | apply F1)); done) | (repeat (first | exact F0 _ | apply F1))) ?_; intro pt pp
          refine Run.regionD' (by kernel_rfl) (by kernel_rfl) (fun hok525 => ?_)
          refine ld' (row b13 23 _) Lends.row ?_; intro gl2 hlegl2 hl2 backgl2
          have hgsa_gl2 := hgsa.mono hlegl2
          have hgxa_gl2 := hgxa.mono hlegl2
          have hgsb_gl2 := hgsb.mono hlegl2
          have hgxb_gl2 := hgxb.mono hlegl2
          have hl_gl2 := hl.mono hlegl2
          have hys_gl2 := hys.mono hlegl2
          have hyk_gl2 := hyk.mono hlegl2
          refine ld' (row pm 60 _) Lends.row ?_; intro gm hlegm hgm backgm
          try (replace hl2 := hl2.mono hlegm)
          have hgsa_gm := hgsa_gl2.mono hlegm
          have hgxa_gm := hgxa_gl2.mono hlegm
          have hgsb_gm := hgsb_gl2.mono hlegm
          have hgxb_gm := hgxb_gl2.mono hlegm
          have hl_gm := hl_gl2.mono hlegm
          have hys_gm := hys_gl2.mono hlegm
          have hyk_gm := hyk_gl2.mono hlegm
          refine dp' 0 hok525 rfl (Pure.move rfl) (dp' 1 hok525 rfl (Pure.nilCheck rfl) (dp' 2 hok525 rfl (Pure.fieldAddr rfl fo60_0) (dl' 3 hok525 rfl rfl agg57 ?_)))
          refine RunD.loadNR (vs := (cEdu ((waitsE x)))) (i := 4) hok525 rfl (by kernel_rfl) rfl (by assumption) agg23 sz23 (by first | exact Nat.le_of_ble_eq_true rfl | (simp; done) | (simp; omega)) rfl (Wt.none rfl) rfl ?_
          refine RunD.two (i := 5) (j := 10) (by kernel_rfl) rfl rfl ?_ ?_
          · skip
            refine ca' rfl rfl (s := OfM_ctr (e := (waitsE x))) (q := ?_)
            rintro _ _ ⟨rfl, hA_⟩
            replace hA_ := hA_.symm; subst hA_
            refine RunL.nilD' ?_
            refine RunD.two (i := 6) (j := 10) (by kernel_rfl) rfl rfl ?_ ?_
            · skip
              refine ca' rfl rfl (s := GetO_ctr (k := (kOf (waitsE x))) (l := (s).tl)) (q := ?_)
              rintro _ _ ⟨rfl, hA_⟩
              replace hA_ := hA_.symm; subst hA_
              refine RunL.nilD' ?_
              refine dp' 7 hok525 rfl (Pure.move rfl) (dp' 8 hok525 rfl (Pure.extract rfl rfl) (dp' 9 hok525 rfl (Pure.extract rfl rfl) ?_))
              refine RunD.one (i := 10) (by kernel_rfl) rfl ?_
              · skip
                refine RunL.alloc zz69 (Wt.none rfl) rfl ?_; intro b14
                refine RunL.nilD' ?_
                refine RunD.one (i := 11) (by kernel_rfl) rfl ?_
                · skip
                  refine sW' (cPos (((mget (kOf (waitsE x)) (s).tl).getD noPos))) rfl rfl sz69 ?_
                  refine RunL.nilD' ?_
                  refine dp' 12 hok525 rfl (Pure.assign rfl) ?_
                  refine RunD.nilB (by kernel_rfl) (fun w sw => backgl2 _ _ (backgm _ _ (sw))) ?_
                  refine Run.mkMk (s) (by repeat (first | (with_reducible exact Take.nil _) | (apply Take.cons (by first | ((repeat (first | (with_reducible exact F0 _) | apply F1)); done) | (repeat (first | exact F0 _ | apply F1)))))) ?_
                  refine kp' [2, 7, 9, 12, 13, 14, 15] ?_
                  exact me' F hk (by exact ⟨b14, rfl, rfl⟩)
            · skip
              refine RunL.alloc zz69 (Wt.none rfl) rfl ?_; intro b14
              refine RunL.nilD' ?_
              refine RunD.one (i := 6) (by kernel_rfl) rfl ?_
              · skip
                refine ca' rfl rfl (s := GetO_ctr (k := (kOf (waitsE x))) (l := (s).tl)) (q := ?_)
                rintro _ _ ⟨rfl, hA_⟩
                replace hA_ := hA_.symm; subst hA_
                refine RunL.nilD' ?_
                refine dp' 7 hok525 rfl (Pure.move rfl) (dp' 8 hok525 rfl (Pure.extract rfl rfl) (dp' 9 hok525 rfl (Pure.extract rfl rfl) ?_))
                refine RunD.one (i := 11) (by kernel_rfl) rfl ?_
                · skip
                  refine sW' (cPos (((mget (kOf (waitsE x)) (s).tl).getD noPos))) rfl rfl sz69 ?_
                  refine RunL.nilD' ?_
                  refine dp' 12 hok525 rfl (Pure.assign rfl) ?_
                  refine RunD.nilB (by kernel_rfl) (fun w sw => backgl2 _ _ (backgm _ _ (sw))) ?_
                  refine Run.mkMk (s) (by repeat (first | (with_reducible exact Take.nil _) | (apply Take.cons (by first | ((repeat (first | (with_reducible exact F0 _) | apply F1)); done) | (repeat (first | exact F0 _ | apply F1)))))) ?_
                  refine kp' [2, 7, 9, 12, 13, 14, 15] ?_
                  exact me' F hk (by exact ⟨b14, rfl, rfl⟩)
          · skip
            refine RunL.alloc zz69 (Wt.none rfl) rfl ?_; intro b14
            refine RunL.nilD' ?_
            refine RunD.one (i := 5) (by kernel_rfl) rfl ?_
            · skip
              refine ca' rfl rfl (s := OfM_ctr (e := (waitsE x))) (q := ?_)
              rintro _ _ ⟨rfl, hA_⟩
              replace hA_ := hA_.symm; subst hA_
              refine RunL.nilD' ?_
              refine RunD.one (i := 6) (by kernel_rfl) rfl ?_
              · skip
                refine ca' rfl rfl (s := GetO_ctr (k := (kOf (waitsE x))) (l := (s).tl)) (q := ?_)
                rintro _ _ ⟨rfl, hA_⟩
                replace hA_ := hA_.symm; subst hA_
                refine RunL.nilD' ?_
                refine dp' 7 hok525 rfl (Pure.move rfl) (dp' 8 hok525 rfl (Pure.extract rfl rfl) (dp' 9 hok525 rfl (Pure.extract rfl rfl) ?_))
                refine RunD.one (i := 11) (by kernel_rfl) rfl ?_
                · skip
                  refine sW' (cPos (((mget (kOf (waitsE x)) (s).tl).getD noPos))) rfl rfl sz69 ?_
                  refine RunL.nilD' ?_
                  refine dp' 12 hok525 rfl (Pure.assign rfl) ?_
                  refine RunD.nilB (by kernel_rfl) (fun w sw => backgl2 _ _ (backgm _ _ (sw))) ?_
                  refine Run.mkMk (s) (by repeat (first | (with_reducible exact Take.nil _) | (apply Take.cons (by first | ((repeat (first | (with_reducible exact F0 _) | apply F1)); done) | (repeat (first | exact F0 _ | apply F1)))))) ?_
                  refine kp' [2, 7, 9, 12, 13, 14, 15] ?_
                  exact me' F hk (by exact ⟨b14, rfl, rfl⟩)
      · try simp only [Z] at c2
        refine ex' rfl (sr' ?_)
        refine ca' rfl rfl (s := lives_ctr) (q := ?_)
        rintro _ _ ⟨rfl, hA_⟩
        replace hA_ := hA_.symm; subst hA_
        refine as' rfl (nl' ?_)
        exact rt' Tryz.func5 (res1 rfl rfl) (by exact ⟨rfl, rfl⟩)
    · try simp only [Z] at c1
      refine no' (no' (pp' (Pure.pickF rfl rfl) (nl' (cF' (ex' rfl (sr' ?_))))))
      refine ca' rfl rfl (s := lives_ctr) (q := ?_)
      rintro _ _ ⟨rfl, hA_⟩
      replace hA_ := hA_.symm; subst hA_
      refine as' rfl (nl' ?_)
      exact rt' Tryz.func5 (res1 rfl rfl) (by exact ⟨rfl, rfl⟩)

end Go.Proofs.YtaaondbmkibkkaaGreat
