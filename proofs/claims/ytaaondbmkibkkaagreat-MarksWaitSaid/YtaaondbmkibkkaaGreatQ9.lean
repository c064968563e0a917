/- A receipt that waits. -/
import Derived.Test.YtaaondbmkibkkaaGreatQ6
set_option linter.unusedVariables false
set_option linter.unusedSimpArgs false
set_option linter.unusedSectionVars false
namespace Go.Proofs.YtaaondbmkibkkaaGreat
open Go Csl
theorem cb29 : Callable Tryz.prog 29 := ⟨_, Tryz.func29, by kernel_rfl, by kernel_rfl⟩

namespace Csl
section
variable {c : Cx} {G : Gp} {k : List Item} {e : Env} {A A2 : List HProp}
theorem af' (F : List HProp) {I : Nat → Env → List HProp → Prop} {n m : Nat} (ih : ∀ m e' A', m < n → I m e' A' → Run c G k e' A') (hI : I m e A2) (t : Fin F A2 A := by repeat (first | (with_reducible apply Fin.done; repeat (first | (with_reducible apply Rest.here) | apply Rest.there)) | (apply Fin.cons (by first | ((repeat (first | (with_reducible exact F0 _) | apply F1)); done) | (repeat (first | exact F0 _ | apply F1)))))) (hlt : m < n := by omega) : Run c G k e A := Run.againF ih hI t hlt
theorem mf' (F : List HProp) {M : Env → List HProp → Prop} (hk : ∀ e A, M e A → Run c G k e A) (hM : M e A2) (t : Fin F A2 A := by repeat (first | (with_reducible apply Fin.done; repeat (first | (with_reducible apply Rest.here) | apply Rest.there)) | (apply Fin.cons (by first | ((repeat (first | (with_reducible exact F0 _) | apply F1)); done) | (repeat (first | exact F0 _ | apply F1)))))) : Run c G k e A := Run.meetF hk hM t
end
end Csl

set_option maxHeartbeats 1000000 in
set_option maxRecDepth 100000 in
theorem MarksWait_ctr {G : Gp} {aa : Option Addr} {ca : Nat} {ga : List GG} (ha : SlR G 130 4 aa ga.length (ga.flatMap cGG)) (hia : GsIn G ga) {z : Int} (hz : -9223372036854775808 ≤ z ∧ z ≤ 9223372036854775807) {e : Edu} (ho : okEdu e) :
    Ctr Tryz.prog G 6 [.slice aa ga.length ca, .int .i64 z, .agg (cEdu e).toArray] [] (fun F v A => v = .bool true ∧ A = F) := by
  refine Ctr.intro Tryz.func6 rfl (by kernel_rfl) rfl (fun F => ?_)
  simp only [List.nil_append]
  obtain ⟨xa, hxa, hgxa⟩ := hia
  have hgsa : SlR G 130 4 aa xa.length (xa.flatMap cGX) := by rw [← hxa, List.length_map, gx_flat] at ha; exact ha
  have hgla : ga.length = xa.length := by rw [← hxa, List.length_map]
  have hmg := madeL_good (room := (⟨#[33, 114, 58, 115, 49]⟩ : ByteArray)) (by decide +kernel) xa
  have hml := madeL_len (⟨#[33, 114, 58, 115, 49]⟩ : ByteArray) xa
  have hmf : ∀ v ∈ (madeL (⟨#[33, 114, 58, 115, 49]⟩ : ByteArray) xa), evWf v := madeL_wf (by decide) xa
  refine sr' ?_
  refine RunL.boxA (xs := (cEdu e)) rfl (Wt.none rfl) rfl ?_; intro b5
  refine as' rfl (nl' ?_)
  refine la' (row b5 23 _) Lends.row fun G5 hleG5 hrb5 => ?_
  replace hgsa := hgsa.mono hleG5
  replace hgxa := hgxa.mono hleG5
  refine sr' ?_
  refine ca' rfl rfl (s := RoomOf_ctr (z := 0) (by decide)) (q := ?_)
  rintro _ _ ⟨rfl, hA_⟩
  replace hA_ := hA_.symm; subst hA_
  refine mv' rfl ?_
  rw [hgla]
  refine ca' rfl rfl (s := rdMade_ctr (room := (⟨#[33, 114, 58, 115, 49]⟩ : ByteArray)) (xs := xa) (by decide +kernel) (by decide) hgsa hgxa) (q := ?_)
  rintro _ _ ⟨K, D, hD, rfl, hA_⟩
  replace hA_ := hA_.symm; subst hA_
  refine RunL.alloc zz76 (Wt.none rfl) rfl ?_; intro b7
  refine sW' (cDD D) rfl rfl sz76 ?_
  refine nl' ?_
  refine la' (Pool K) Lends.Pool fun GhK hleGhK hK => ?_
  replace hgsa := hgsa.mono hleGhK
  replace hgxa := hgxa.mono hleGhK
  replace hrb5 := hrb5.mono hleGhK
  have hd := HasD.hp (G' := GhK) hD hK
  obtain ⟨hroom, ys, hyl, hdn, hds, hdc, hdk⟩ := hd
  have hyn := ES_len hyl
  refine sq' (sr' (pp' (Pure.fieldAddr rfl fo76_1) (l1' rfl agg44 ?_)))
  refine pp' (Pure.lenSl rfl rfl und44) (pp' (Pure.eql rfl rfl) (nl' ?_))
  refine Run.cond rfl (fun hz0 => ?_) (fun hz0 => ?_)
  · try simp only [Z] at hz0
    refine sr' ?_
    refine ca' rfl rfl (s := lives_ctr) (q := ?_)
    rintro _ _ ⟨rfl, hA_⟩
    replace hA_ := hA_.symm; subst hA_
    refine as' rfl (nl' ?_)
    exact rt' Tryz.func6 (res1 rfl rfl) (by exact ⟨rfl, rfl⟩)
  · try simp only [Z] at hz0
    obtain ⟨lo, hlo⟩ : ∃ lo, ys.length = lo + 1 := ⟨ys.length - 1, by omega⟩
    obtain ⟨v, hv⟩ := get_some (xs := (madeL (⟨#[33, 114, 58, 115, 49]⟩ : ByteArray) xa)) (i := lo) (by omega)
    obtain ⟨sv, hy⟩ := ES_get hyl hv
    have hvm := List.mem_of_getElem? hv
    have hym := List.mem_of_getElem? hy
    obtain ⟨be, Te, pree, poste, hpe, hroe⟩ := hds.open1 (show 0 < ys.length by omega)
    have hyL : ys[(((D.l.n : Nat) : Int) - 1).toNat]? = some (v, sv) := by rw [show (((D.l.n : Nat) : Int) - 1).toNat = lo by omega]; exact hy
    refine sk' (sr' (pp' (Pure.fieldAddr rfl fo76_1) (l1' rfl agg44 ?_)))
    refine pp' (Pure.fieldAddr rfl fo76_1) (l1' rfl agg44 ?_)
    refine pp' (Pure.lenSl rfl rfl und44) ?_
    first | refine RunL.pure (Pure.subI rfl rfl (by omega)) (Wt.none rfl) rfl rfl ?_ | refine RunL.pure (Pure.sub rfl rfl) (Wt.none rfl) rfl rfl ?_
    refine pp' (Pure.indexAddr (opvSl rfl hpe) rfl und44 sz49 (by omega) (by omega)) ?_
    refine RunL.loadNR (vs := (cEvn ((v.evn sv)))) rfl hroe agg49 sz49 (elemN_len (pre := pree) (post := poste) (f := cES) (sz := 6) (j := 0) (n := 6) (fun _ _ => rfl) hyL (by decide)) ((elemN_at (pre := pree) (post := poste) (f := cES) (sz := 6) (j := 0) (n := 6) (fun _ _ => rfl) hyL (by decide)).trans rfl) (Wt.none rfl) rfl ?_
    refine RunL.alloc zz49 (Wt.none rfl) rfl ?_; intro b8
    refine sW' (cEvn ((v.evn sv))) rfl rfl sz49 ?_
    refine nl' (sr' (lA' (cEdu e) rfl agg23 sz23 ?_))
    refine ca' rfl rfl (s := Waits12_ctr (e := e) ho) (q := ?_)
    rintro _ _ ⟨rfl, hA_⟩
    replace hA_ := hA_.symm; subst hA_
    refine RunL.alloc zz23 (Wt.none rfl) rfl ?_; intro b9
    refine sW' (cEdu ((waitsE e))) rfl rfl sz23 ?_
    refine nl' (sr' (pp' (Pure.fieldAddr rfl fo76_0) (l1' rfl agg9 ?_)))
    refine pp' (Pure.fieldAddr rfl fo23_1) ?_
    refine RunL.store1A (cs' := (cEdu ({ waitsE e with room := D.room }))) rfl rfl (by first | ((repeat (first | (with_reducible exact F0 _) | apply F1)); done) | (repeat (first | exact F0 _ | apply F1))) sz9 (by rfl) (by first | exact Nat.le_of_ble_eq_true rfl | (simp; done) | (simp; omega)) rfl (Wt.none rfl) ?_
    refine nl' (sr' (pp' (Pure.fieldAddr rfl fo49_0) (l1' rfl agg9 ?_)))
    refine pp' (Pure.fieldAddr rfl fo23_3) ?_
    refine RunL.store1A (cs' := (cEdu (({ waitsE e with room := D.room, event := v.id } : Edu)))) rfl rfl (by first | ((repeat (first | (with_reducible exact F0 _) | apply F1)); done) | (repeat (first | exact F0 _ | apply F1))) sz9 (by rfl) (by first | exact Nat.le_of_ble_eq_true rfl | (simp; done) | (simp; omega)) rfl (Wt.none rfl) ?_
    refine nl' ?_
    obtain ⟨wr, hwr⟩ : ∃ wr, wr = ({ waitsE e with room := D.room, event := v.id } : Edu) := ⟨_, rfl⟩
    rw [← hwr]
    have hw1 : wr.room = (⟨#[33, 114, 58, 115, 49]⟩ : ByteArray) := by rw [hwr]; exact hroom
    have hw2 : wr.event = v.id := by rw [hwr]
    have hwk : wr.kind = 1 ∧ eduLocal wr = true := by rw [hwr, hroom]; exact wr_local e (by decide +kernel) (made_named hvm)
    have hws : eduSmall wr := by
      obtain ⟨q1, q2, q3, q4⟩ := waits_small e
      rw [hwr]; exact ⟨by show D.room.size ≤ _; rw [hroom]; decide, q2, by show v.id.size ≤ _; exact evSize (made_size hvm), q4⟩
    refine la' (row b7 76 _) Lends.row fun Ghb7 hleGhb7 hb7 => ?_
    replace hgsa := hgsa.mono hleGhb7
    replace hgxa := hgxa.mono hleGhb7
    replace hrb5 := hrb5.mono hleGhb7
    replace hds := hds.mono hleGhb7
    replace hdk := hdk.mono hleGhb7
    replace hroe := hroe.mono hleGhb7
    refine la' (row b8 49 _) Lends.row fun Ghb8 hleGhb8 hb8 => ?_
    replace hgsa := hgsa.mono hleGhb8
    replace hgxa := hgxa.mono hleGhb8
    replace hrb5 := hrb5.mono hleGhb8
    replace hds := hds.mono hleGhb8
    replace hdk := hdk.mono hleGhb8
    replace hroe := hroe.mono hleGhb8
    replace hb7 := hb7.mono hleGhb8
    refine la' (row b9 23 _) Lends.row fun Ghb9 hleGhb9 hb9 => ?_
    replace hgsa := hgsa.mono hleGhb9
    replace hgxa := hgxa.mono hleGhb9
    replace hrb5 := hrb5.mono hleGhb9
    replace hds := hds.mono hleGhb9
    replace hdk := hdk.mono hleGhb9
    replace hroe := hroe.mono hleGhb9
    replace hb7 := hb7.mono hleGhb9
    replace hb8 := hb8.mono hleGhb9
    refine sr' ?_
    refine ca' rfl rfl (s := NewM1_ctr (z := 4) (by decide)) (q := ?_)
    rintro _ _ ⟨pm, rfl, hA_⟩
    replace hA_ := hA_.symm; subst hA_
    refine mv' rfl (pp' (Pure.extract rfl rfl) (pp' (Pure.extract rfl rfl) (as' rfl (as' rfl (nl' (sr' ?_))))))
    refine ca' rfl rfl (s := NewM1_ctr (z := 4) (by decide)) (q := ?_)
    rintro _ _ ⟨qm, rfl, hA_⟩
    replace hA_ := hA_.symm; subst hA_
    refine mv' rfl (pp' (Pure.extract rfl rfl) (pp' (Pure.extract rfl rfl) (as' rfl (as' rfl (nl' (sr' ?_))))))
    refine ca' rfl rfl (s := NewV_ctr) (q := ?_)
    rintro _ _ ⟨pv, rfl, hA_⟩
    replace hA_ := hA_.symm; subst hA_
    refine as' rfl (nl' (sq' (sr' (mv' rfl (pp' (Pure.ptrEqNil rfl rfl und26) (mv' rfl (py' (Pure.move rfl) (py' (Pure.ptrEqNil rfl rfl und26) (pp' (Pure.pickF rfl rfl) (mv' rfl (py' (Pure.move rfl) (py' (Pure.ptrEqNil rfl rfl und30) (pp' (Pure.pickF rfl rfl) (mv' rfl (py' (Pure.move rfl) (py' (Pure.neq rfl rfl) (pp' (Pure.pickF rfl rfl) (mv' rfl ?_))))))))))))))))))
    refine RunL.split (d := 74) rfl (fun hg1 => ?_) (fun hg1 => ?_)
    · try simp only [Z] at hg1
      exfalso
      first | exact hg1 rfl | exact hg1 trivial | (simp at hg1; done)
    try simp only [Z] at hg1
    refine py' (Pure.move rfl) (py' (Pure.neq rfl rfl) (pp' (Pure.pickF rfl rfl) (nl' ?_)))
    refine Run.cond rfl (fun hc2 => ?_) (fun hc2 => ?_)
    · try simp only [Z] at hc2
      exfalso
      first | exact hc2 rfl | exact hc2 trivial | (simp at hc2; done)
    try simp only [Z] at hc2
    refine sk' (sq' (sr' (as' rfl (nl' (bl' ?_)))))
    refine kp' [1, 7, 8, 9, 10, 12, 14, 15] ?_
    refine lp' F (fun n e_ A => ∃ (i : Nat) (vl : VL), i ≤ lo ∧ (∀ r, vget vl r = if r = (⟨#[33, 114, 58, 115, 49]⟩ : ByteArray) then ((madeL (⟨#[33, 114, 58, 115, 49]⟩ : ByteArray) xa)).take i else []) ∧ n = lo - i ∧ e_ = [(1, .int .i64 z), (7, .pointer (some ⟨b7, 0, none⟩)), (8, .pointer (some ⟨b8, 0, none⟩)), (9, .pointer (some ⟨b9, 0, none⟩)), (10, .pointer (some ⟨pm, 0, none⟩)), (12, .pointer (some ⟨qm, 0, none⟩)), (14, .pointer (some ⟨pv, 0, none⟩)), (15, .int .i64 (i : Nat))] ∧ A = Vw pv vl :: Mk pm 4 ⟨[], [], 0⟩ :: Mk qm 4 ⟨[], [], 0⟩ :: F) (lo) (by exact ⟨0, [], by omega, (fun r => by split <;> rfl), rfl, rfl, rfl⟩) ?_
    rintro n _ _ ⟨i, vl, hi, hvl, rfl, rfl, hA_⟩ ih
    replace hA_ := hA_.symm; subst hA_
    refine sq' (sr' (mv' rfl (pp' (Pure.fieldAddr rfl fo76_1) (l1' rfl agg44 ?_))))
    refine pp' (Pure.lenSl rfl rfl und44) ?_
    first | refine RunL.pure (Pure.subI rfl rfl (by omega)) (Wt.none rfl) rfl rfl ?_ | refine RunL.pure (Pure.sub rfl rfl) (Wt.none rfl) rfl rfl ?_
    refine pp' (Pure.lss rfl rfl) (nl' ?_)
    refine Run.cond rfl (fun c1 => ?_) (fun c1 => ?_)
    · try simp only [Z] at c1
      obtain ⟨u, hu⟩ := get_some (xs := (madeL (⟨#[33, 114, 58, 115, 49]⟩ : ByteArray) xa)) (i := i) (by omega)
      obtain ⟨su, hyu⟩ := ES_get hyl hu
      have hum := List.mem_of_getElem? hu
      have hyum := List.mem_of_getElem? hyu
      refine sk' (sq' (bl' (rg' (mv' rfl (pp' (Pure.fieldAddr rfl fo76_1) (l1' rfl agg44 ?_))))))
      refine mv' rfl ?_
      refine pp' (Pure.indexAddr (opvSl rfl hpe) rfl und44 sz49 (by omega) (by omega)) ?_
      refine RunL.loadNR (vs := (cEvn ((u.evn su)))) rfl hroe agg49 sz49 (elemN_len (pre := pree) (post := poste) (f := cES) (sz := 6) (j := 0) (n := 6) (fun _ _ => rfl) hyu (by decide)) ((elemN_at (pre := pree) (post := poste) (f := cES) (sz := 6) (j := 0) (n := 6) (fun _ _ => rfl) hyu (by decide)).trans rfl) (Wt.none rfl) rfl ?_
      refine ca' rfl rfl (s := AddV_ctr (e := u.evn su) (ps := u.ps) (hdk _ hyum) (hmf u hum) (fun r => by rw [hvl r]; split <;> simp <;> omega)) (q := ?_)
      rintro _ _ ⟨rfl, hA_⟩
      replace hA_ := hA_.symm; subst hA_
      rw [ev_evn]
      refine nl' (ib' (rg' (mv' rfl ?_)))
      first | refine RunL.pure (Pure.addI rfl rfl (by omega)) (Wt.none rfl) rfl rfl ?_ | refine RunL.pure (Pure.add rfl rfl) (Wt.none rfl) rfl rfl ?_
      refine as' rfl (nl' ?_)
      refine kp' [1, 7, 8, 9, 10, 12, 14, 15] ?_
      exact af' F ih (by exact ⟨i + 1, vaddL vl u, by omega, vadd_made hmg hu hvl, rfl, rfl, rfl⟩)
    · try simp only [Z] at c1
      obtain rfl : lo = i := by omega
      have hnew := good_new hmg hv
      have hfit : fitsI (vget vl wr.room) wr.event wr.thread = 4 := by rw [hw1, hw2, hvl, if_pos rfl]; exact fits_none (get_nil.2 hnew)
      have hno : (vget vl wr.room).has wr.event = false := by rw [hw1, hw2, hvl, if_pos rfl]; exact hnew
      refine ex' rfl (sr' (mv' rfl (mv' rfl (lA' (cEdu wr) rfl agg23 sz23 ?_))))
      refine ca' rfl rfl (s := Ctr.lend Lends.Vw cb16 (fun G' hle hr => PutM_ctr (pm := pm) (s := (⟨[], [], 0⟩ : MS)) (e := wr) hr hws (by decide) (by decide))) (q := ?_)
      rintro _ _ ⟨_, rfl, rfl, hA_⟩
      replace hA_ := hA_.symm; subst hA_
      rw [wait_first hwk hfit]
      refine mv' rfl (pp' (Pure.extract rfl rfl) (pp' (Pure.extract rfl rfl) (as' rfl (as' rfl (nl' (sr' (mv' rfl ?_)))))))
      refine ca' rfl rfl (s := Around_ctr (z := z) (m := 3) hz (by omega)) (q := ?_)
      rintro _ _ ⟨rfl, hA_⟩
      replace hA_ := hA_.symm; subst hA_
      have hz3 := around_lt (z := z) (m := 3) (by decide)
      refine as' rfl (nl' (sq' (sr' (as' rfl (nl' (bl' ?_))))))
      refine kp' [7, 8, 9, 10, 12, 14, 16, 17, 18, 19] ?_
      refine lp' F (fun n e_ A => ∃ (j : Nat), j ≤ (around z 3).toNat ∧ n = (around z 3).toNat - j ∧ e_ = [(7, .pointer (some ⟨b7, 0, none⟩)), (8, .pointer (some ⟨b8, 0, none⟩)), (9, .pointer (some ⟨b9, 0, none⟩)), (10, .pointer (some ⟨pm, 0, none⟩)), (12, .pointer (some ⟨qm, 0, none⟩)), (14, .pointer (some ⟨pv, 0, none⟩)), (16, .bool false), (17, .int .i64 0), (18, .int .i64 (around z 3)), (19, .int .i64 (j : Nat))] ∧ A = Vw pv vl :: Mk pm 4 (⟨[], [wr], 0⟩ : MS) :: Mk qm 4 (⟨[], [], 0⟩ : MS) :: F) ((around z 3).toNat) (by exact ⟨0, by omega, rfl, rfl, rfl⟩) ?_
      rintro n _ _ ⟨j, hj, rfl, rfl, hA_⟩ ih
      replace hA_ := hA_.symm; subst hA_
      refine sq' (sr' (mv' rfl (mv' rfl (pp' (Pure.lss rfl rfl) (nl' ?_)))))
      refine Run.cond rfl (fun c2 => ?_) (fun c2 => ?_)
      · try simp only [Z] at c2
        refine sk' (sq' (bl' (rg' (mv' rfl (mv' rfl (lA' (cEdu wr) rfl agg23 sz23 ?_))))))
        refine ca' rfl rfl (s := Ctr.lend Lends.Vw cb16 (fun G' hle hr => PutM_ctr (pm := pm) (s := (⟨[], [wr], 0⟩ : MS)) (e := wr) hr hws s1_len s_lost)) (q := ?_)
        rintro _ _ ⟨_, rfl, rfl, hA_⟩
        replace hA_ := hA_.symm; subst hA_
        rw [wait_more hwk hfit]
        refine nl' (ib' (rg' (mv' rfl ?_)))
        first | refine RunL.pure (Pure.addI rfl rfl (by omega)) (Wt.none rfl) rfl rfl ?_ | refine RunL.pure (Pure.add rfl rfl) (Wt.none rfl) rfl rfl ?_
        refine as' rfl (nl' ?_)
        refine kp' [7, 8, 9, 10, 12, 14, 16, 17, 18, 19] ?_
        exact af' F ih (by exact ⟨j + 1, by omega, rfl, rfl, rfl⟩)
      · try simp only [Z] at c2
        refine ex' rfl (sq' (sr' (mv' rfl (mv' rfl ?_))))
        refine RunL.split (d := 112) rfl (fun hg3 => ?_) (fun hg3 => ?_)
        · try simp only [Z] at hg3
          exfalso
          first | exact hg3 rfl | exact hg3 trivial | (simp at hg3; done)
        try simp only [Z] at hg3
        refine py' (Pure.move rfl) (py' (Pure.neq rfl rfl) (pp' (Pure.pickF rfl rfl) (mv' rfl ?_)))
        refine RunL.split (d := 116) rfl (fun hg4 => ?_) (fun hg4 => ?_)
        · try simp only [Z] at hg4
          exfalso
          first | exact hg4 rfl | exact hg4 trivial | (simp at hg4; done)
        try simp only [Z] at hg4
        refine py' (Pure.move rfl) ?_
        refine ca' rfl rfl (s := WaitsM_ctr (pm := pm) (s := (⟨[], [wr], 0⟩ : MS)) s1_len6) (q := ?_)
        rintro _ _ ⟨a5, c5, rfl, hA_⟩
        replace hA_ := hA_.symm; subst hA_
        refine py' (Pure.lenSl rfl rfl und25) (py' (Pure.neq rfl rfl) (pp' (Pure.pickF rfl rfl) (mv' rfl ?_)))
        refine RunL.split (d := 122) rfl (fun hg5 => ?_) (fun hg5 => ?_)
        · try simp only [Z] at hg5
          exfalso
          first | exact hg5 rfl | exact hg5 trivial | (simp at hg5; done)
        try simp only [Z] at hg5
        refine py' (Pure.move rfl) (py' (Pure.move rfl) (py' (Pure.fieldAddr rfl fo23_1) (l1' rfl agg9 ?_)))
        refine py' (Pure.fieldAddr rfl fo23_3) (l1' rfl agg9 ?_)
        refine ca' rfl rfl (s := Ctr.lend Lends.Vw cb22 (fun G' hle hr => ArriveM_ctr (pm := pm) (nn := 1) (room := wr.room) (event := wr.event) (s := (⟨[], [wr], 0⟩ : MS)) hr (ok_one hws) (by decide))) (q := ?_)
        rintro _ _ ⟨_, rfl, a4, c4, rfl, hA_⟩
        replace hA_ := hA_.symm; subst hA_
        rw [mArr_no hno]
        refine py' (Pure.lenSl rfl rfl und51) (py' (Pure.neq rfl rfl) (pp' (Pure.pickF rfl rfl) (mv' rfl ?_)))
        refine RunL.split (d := 133) rfl (fun hg6 => ?_) (fun hg6 => ?_)
        · try simp only [Z] at hg6
          exfalso
          first | exact hg6 rfl | exact hg6 trivial | (simp at hg6; done)
        try simp only [Z] at hg6
        refine py' (Pure.move rfl) ?_
        refine ca' rfl rfl (s := WaitsM_ctr (pm := pm) (s := (⟨[], [wr], 0⟩ : MS)) s1_len6) (q := ?_)
        rintro _ _ ⟨a5, c5, rfl, hA_⟩
        replace hA_ := hA_.symm; subst hA_
        refine py' (Pure.lenSl rfl rfl und25) (py' (Pure.neq rfl rfl) (pp' (Pure.pickF rfl rfl) (nl' ?_)))
        refine Run.cond rfl (fun hc7 => ?_) (fun hc7 => ?_)
        · try simp only [Z] at hc7
          exfalso
          first | exact hc7 rfl | exact hc7 trivial | (simp at hc7; done)
        try simp only [Z] at hc7
        refine sk' (sr' (mv' rfl (lA' (cEvn ((v.evn sv))) rfl agg49 sz49 ?_)))
        refine ca' rfl rfl (s := AddV_ctr (e := v.evn sv) (ps := v.ps) (hdk _ hym) (hmf v hvm) (fun r => by rw [hvl r]; split <;> simp <;> omega)) (q := ?_)
        rintro _ _ ⟨rfl, hA_⟩
        replace hA_ := hA_.symm; subst hA_
        rw [ev_evn]
        refine nl' ?_
        have hv2 := vadd_made hmg hv hvl
        rw [show lo + 1 = ((madeL (⟨#[33, 114, 58, 115, 49]⟩ : ByteArray) xa)).length by omega, List.take_length] at hv2
        generalize vaddL vl v = vl2 at hv2 ⊢
        obtain ⟨tl, out, on, ff, hQ1, hQ2, hQ3, hQ4, hQ5, hcase⟩ := wait_after (vg := vget vl2) (wr := wr) hwk (by rw [hw1, hw2, hv2, if_pos rfl]; exact has_mem hvm)
        refine sr' (mv' rfl (mv' rfl (pp' (Pure.fieldAddr rfl fo23_1) (l1' rfl agg9 ?_))))
        refine pp' (Pure.fieldAddr rfl fo23_3) (l1' rfl agg9 ?_)
        refine ca' rfl rfl (s := Ctr.lend Lends.Vw cb22 (fun G' hle hr => ArriveM_ctr (nn := 1) (room := wr.room) (event := wr.event) (s := (⟨[], [wr], 0⟩ : MS)) hr (ok_one hws) (by decide))) (q := ?_)
        rintro _ _ ⟨_, rfl, a9, c9, rfl, hA_⟩
        replace hA_ := hA_.symm; subst hA_
        rw [hQ4, hQ5]
        refine as' rfl (nl' (sr' (mv' rfl (mv' rfl (lA' (cEdu wr) rfl agg23 sz23 ?_)))))
        refine ca' rfl rfl (s := Ctr.lend Lends.Vw cb16 (fun G' hle hr => PutM_ctr (pm := qm) (s := (⟨[], [], 0⟩ : MS)) (e := wr) hr hws (by decide) (by decide))) (q := ?_)
        rintro _ _ ⟨_, rfl, rfl, hA_⟩
        replace hA_ := hA_.symm; subst hA_
        rw [hQ1, hQ2, hQ3]
        rcases hcase with hA | hB
        · skip
          obtain ⟨rfl, rfl, ho, hgs⟩ := hA
          refine mv' rfl (pp' (Pure.extract rfl rfl) (pp' (Pure.extract rfl rfl) (as' rfl (as' rfl (nl' (sq' (sr' (mv' rfl (pp' (Pure.lenSl rfl rfl und51) (pp' (Pure.eql rfl rfl) (mv' rfl (pp' (Pure.bneq rfl rfl und4) (mv' rfl ?_)))))))))))))
          refine RunL.split (d := 161) rfl (fun hg8 => ?_) (fun hg8 => ?_)
          · try simp only [Z] at hg8
            exfalso
            simp [ho] at hg8
          try simp only [Z] at hg8
          refine py' (Pure.move rfl) (py' (Pure.eql rfl rfl) (py' (Pure.move rfl) (py' (Pure.bneq rfl rfl und4) (pp' (Pure.pickF rfl rfl) (mv' rfl ?_)))))
          refine RunL.split (d := 167) rfl (fun hg9 => ?_) (fun hg9 => ?_)
          · try simp only [Z] at hg9
            exfalso
            first | exact hg9 rfl | exact hg9 trivial | (simp at hg9; done)
          try simp only [Z] at hg9
          refine py' (Pure.move rfl) ?_
          refine ca' rfl rfl (s := WaitsM_ctr (pm := pm) (s := (⟨tl, [], 0⟩ : MS)) (by show List.length ([] : List Edu) ≤ _; decide)) (q := ?_)
          rintro _ _ ⟨a5, c5, rfl, hA_⟩
          replace hA_ := hA_.symm; subst hA_
          refine py' (Pure.lenSl rfl rfl und25) (py' (Pure.neq rfl rfl) (pp' (Pure.pickF rfl rfl) (mv' rfl ?_)))
          refine RunL.split (d := 173) rfl (fun hg10 => ?_) (fun hg10 => ?_)
          · try simp only [Z] at hg10
            exfalso
            first | exact hg10 rfl | exact hg10 trivial | (simp at hg10; done)
          try simp only [Z] at hg10
          refine py' (Pure.move rfl) (py' (Pure.neq rfl rfl) (py' (Pure.move rfl) ?_))
          refine RunL.split (d := 176) rfl (fun hg11 => ?_) (fun hg11 => ?_)
          · try simp only [Z] at hg11
            exfalso
            first | exact hg11 rfl | exact hg11 trivial | (simp at hg11; done)
          try simp only [Z] at hg11
          refine no' (no' (py' (Pure.pickF rfl rfl) (pp' (Pure.pickF rfl rfl) (nl' (cF' (sk' (sq' ?_)))))))
          refine Run.cut (fun e_ A => ∃ b23 : Nat, e_ = [(9, .pointer (some ⟨b9, 0, none⟩)), (12, .pointer (some ⟨qm, 0, none⟩)), (21, .bool true), (23, .pointer (some ⟨b23, 0, none⟩)), (24, .bool (mget (kOf wr) tl).isSome)] ∧ A = row b23 69 (cPos ((mget (kOf wr) tl).getD noPos)) :: Mk qm 4 (⟨tl, [], 0⟩ : MS) :: F) (fun e A hM => ?_) (fun hk => ?_)
          · obtain ⟨b23, rfl, hA_⟩ := hM
            replace hA_ := hA_.symm; subst hA_
            refine sq' ?_
            refine Run.cut (fun e_ A => ∃ b25 : Nat, e_ = [(21, .bool true), (23, .pointer (some ⟨b23, 0, none⟩)), (24, .bool (mget (kOf wr) tl).isSome), (25, .pointer (some ⟨b25, 0, none⟩)), (26, .bool (mget (kOf wr) tl).isSome)] ∧ A = row b23 69 (cPos ((mget (kOf wr) tl).getD noPos)) :: row b25 69 (cPos ((mget (kOf wr) tl).getD noPos)) :: F) (fun e A hM => ?_) (fun hk => ?_)
            · obtain ⟨b25, rfl, hA_⟩ := hM
              replace hA_ := hA_.symm; subst hA_
              refine sr' (lA' (cPos (((mget (kOf wr) tl).getD noPos))) rfl agg69 sz69 ?_)
              refine lA' (cPos (((mget (kOf wr) tl).getD noPos))) rfl agg69 sz69 ?_
              refine pp' (Pure.aeql rfl rfl eqg69 (eqv69 (((mget (kOf wr) tl).getD noPos)) (((mget (kOf wr) tl).getD noPos))) (by decide)) ?_
              refine mv' rfl ?_
              refine RunL.split (d := 204) rfl (fun hg12 => ?_) (fun hg12 => ?_)
              rotate_left
              · try simp only [Z] at hg12
                exfalso
                first | exact hg12 rfl | exact hg12 trivial | (simp at hg12; done)
              try simp only [Z] at hg12
              refine py' (Pure.move rfl) (py' (Pure.move rfl) (py' (Pure.beql rfl rfl und4) (pp' (Pure.pickT rfl rfl) (mv' rfl ?_))))
              refine RunL.split (d := 209) rfl (fun hg13 => ?_) (fun hg13 => ?_)
              rotate_left
              · try simp only [Z] at hg13
                exfalso
                first | exact hg13 rfl | exact hg13 trivial | (simp at hg13; done)
              try simp only [Z] at hg13
              refine py' (Pure.move rfl) (py' (Pure.move rfl) (py' (Pure.beql rfl rfl und4) (pp' (Pure.pickT rfl rfl) (mv' rfl ?_))))
              refine RunL.split (d := 214) rfl (fun hg14 => ?_) (fun hg14 => ?_)
              rotate_left
              · try simp only [Z] at hg14
                exfalso
                simp [hgs] at hg14
              try simp only [Z] at hg14
              refine ca' rfl rfl (s := lives_ctr) (q := ?_)
              rintro _ _ ⟨rfl, hA_⟩
              replace hA_ := hA_.symm; subst hA_
              refine pp' (Pure.pickT rfl rfl) (as' rfl (nl' ?_))
              exact rt' Tryz.func6 (res1 rfl rfl) (by exact ⟨rfl, rfl⟩)
            · skip
              refine Run.openMk (p := qm) (s := (⟨tl, [], 0⟩ : MS)) (by first | ((repeat (first | (with_reducible exact F0 _) | apply F1)); done) | (repeat (first | exact F0 _ | apply F1))) ?_; intro pt pp
              refine Run.regionD' (by kernel_rfl) (by kernel_rfl) (fun hok497 => ?_)
              refine ld' (row qm 60 _) Lends.row ?_; intro gm hlegm hgm backgm
              have hgsa_gm := hgsa.mono hlegm
              have hgxa_gm := hgxa.mono hlegm
              have hrb5_gm := hrb5.mono hlegm
              have hds_gm := hds.mono hlegm
              have hdk_gm := hdk.mono hlegm
              have hroe_gm := hroe.mono hlegm
              have hb7_gm := hb7.mono hlegm
              have hb8_gm := hb8.mono hlegm
              have hb9_gm := hb9.mono hlegm
              refine dp' 0 hok497 rfl (Pure.move rfl) (dp' 1 hok497 rfl (Pure.nilCheck rfl) (dp' 2 hok497 rfl (Pure.fieldAddr rfl fo60_0) (dl' 3 hok497 rfl rfl agg57 ?_)))
              refine RunD.loadNR (vs := (cEdu wr)) (i := 4) hok497 rfl (by kernel_rfl) rfl (by assumption) agg23 sz23 (by first | exact Nat.le_of_ble_eq_true rfl | (simp; done) | (simp; omega)) rfl (Wt.none rfl) rfl ?_
              refine RunD.two (i := 5) (j := 10) (by kernel_rfl) rfl rfl ?_ ?_
              · skip
                refine ca' rfl rfl (s := OfM_ctr (e := wr)) (q := ?_)
                rintro _ _ ⟨rfl, hA_⟩
                replace hA_ := hA_.symm; subst hA_
                refine RunL.nilD' ?_
                refine RunD.two (i := 6) (j := 10) (by kernel_rfl) rfl rfl ?_ ?_
                · skip
                  refine ca' rfl rfl (s := GetO_ctr (k := (kOf wr)) (l := tl)) (q := ?_)
                  rintro _ _ ⟨rfl, hA_⟩
                  replace hA_ := hA_.symm; subst hA_
                  refine RunL.nilD' ?_
                  refine dp' 7 hok497 rfl (Pure.move rfl) (dp' 8 hok497 rfl (Pure.extract rfl rfl) (dp' 9 hok497 rfl (Pure.extract rfl rfl) ?_))
                  refine RunD.one (i := 10) (by kernel_rfl) rfl ?_
                  · skip
                    refine RunL.alloc zz69 (Wt.none rfl) rfl ?_; intro b25
                    refine RunL.nilD' ?_
                    refine RunD.one (i := 11) (by kernel_rfl) rfl ?_
                    · skip
                      refine sW' (cPos (((mget (kOf wr) tl).getD noPos))) rfl rfl sz69 ?_
                      refine RunL.nilD' ?_
                      refine dp' 12 hok497 rfl (Pure.assign rfl) ?_
                      refine RunD.nilB (by kernel_rfl) (fun w sw => backgm _ _ (sw)) ?_
                      refine Run.mkMk ((⟨tl, [], 0⟩ : MS)) (by repeat (first | (with_reducible exact Take.nil _) | (apply Take.cons (by first | ((repeat (first | (with_reducible exact F0 _) | apply F1)); done) | (repeat (first | exact F0 _ | apply F1)))))) ?_
                      refine kp' [21, 23, 24, 25, 26] ?_
                      exact mf' F hk (by exact ⟨b25, rfl, rfl⟩)
                · skip
                  refine RunL.alloc zz69 (Wt.none rfl) rfl ?_; intro b25
                  refine RunL.nilD' ?_
                  refine RunD.one (i := 6) (by kernel_rfl) rfl ?_
                  · skip
                    refine ca' rfl rfl (s := GetO_ctr (k := (kOf wr)) (l := tl)) (q := ?_)
                    rintro _ _ ⟨rfl, hA_⟩
                    replace hA_ := hA_.symm; subst hA_
                    refine RunL.nilD' ?_
                    refine dp' 7 hok497 rfl (Pure.move rfl) (dp' 8 hok497 rfl (Pure.extract rfl rfl) (dp' 9 hok497 rfl (Pure.extract rfl rfl) ?_))
                    refine RunD.one (i := 11) (by kernel_rfl) rfl ?_
                    · skip
                      refine sW' (cPos (((mget (kOf wr) tl).getD noPos))) rfl rfl sz69 ?_
                      refine RunL.nilD' ?_
                      refine dp' 12 hok497 rfl (Pure.assign rfl) ?_
                      refine RunD.nilB (by kernel_rfl) (fun w sw => backgm _ _ (sw)) ?_
                      refine Run.mkMk ((⟨tl, [], 0⟩ : MS)) (by repeat (first | (with_reducible exact Take.nil _) | (apply Take.cons (by first | ((repeat (first | (with_reducible exact F0 _) | apply F1)); done) | (repeat (first | exact F0 _ | apply F1)))))) ?_
                      refine kp' [21, 23, 24, 25, 26] ?_
                      exact mf' F hk (by exact ⟨b25, rfl, rfl⟩)
              · skip
                refine RunL.alloc zz69 (Wt.none rfl) rfl ?_; intro b25
                refine RunL.nilD' ?_
                refine RunD.one (i := 5) (by kernel_rfl) rfl ?_
                · skip
                  refine ca' rfl rfl (s := OfM_ctr (e := wr)) (q := ?_)
                  rintro _ _ ⟨rfl, hA_⟩
                  replace hA_ := hA_.symm; subst hA_
                  refine RunL.nilD' ?_
                  refine RunD.one (i := 6) (by kernel_rfl) rfl ?_
                  · skip
                    refine ca' rfl rfl (s := GetO_ctr (k := (kOf wr)) (l := tl)) (q := ?_)
                    rintro _ _ ⟨rfl, hA_⟩
                    replace hA_ := hA_.symm; subst hA_
                    refine RunL.nilD' ?_
                    refine dp' 7 hok497 rfl (Pure.move rfl) (dp' 8 hok497 rfl (Pure.extract rfl rfl) (dp' 9 hok497 rfl (Pure.extract rfl rfl) ?_))
                    refine RunD.one (i := 11) (by kernel_rfl) rfl ?_
                    · skip
                      refine sW' (cPos (((mget (kOf wr) tl).getD noPos))) rfl rfl sz69 ?_
                      refine RunL.nilD' ?_
                      refine dp' 12 hok497 rfl (Pure.assign rfl) ?_
                      refine RunD.nilB (by kernel_rfl) (fun w sw => backgm _ _ (sw)) ?_
                      refine Run.mkMk ((⟨tl, [], 0⟩ : MS)) (by repeat (first | (with_reducible exact Take.nil _) | (apply Take.cons (by first | ((repeat (first | (with_reducible exact F0 _) | apply F1)); done) | (repeat (first | exact F0 _ | apply F1)))))) ?_
                      refine kp' [21, 23, 24, 25, 26] ?_
                      exact mf' F hk (by exact ⟨b25, rfl, rfl⟩)
          · skip
            refine Run.openMk (p := pm) (s := (⟨tl, [], 0⟩ : MS)) (by first | ((repeat (first | (with_reducible exact F0 _) | apply F1)); done) | (repeat (first | exact F0 _ | apply F1))) ?_; intro pt pp
            refine Run.regionD' (by kernel_rfl) (by kernel_rfl) (fun hok591 => ?_)
            refine ld' (row pm 60 _) Lends.row ?_; intro gm hlegm hgm backgm
            have hgsa_gm := hgsa.mono hlegm
            have hgxa_gm := hgxa.mono hlegm
            have hrb5_gm := hrb5.mono hlegm
            have hds_gm := hds.mono hlegm
            have hdk_gm := hdk.mono hlegm
            have hroe_gm := hroe.mono hlegm
            have hb7_gm := hb7.mono hlegm
            have hb8_gm := hb8.mono hlegm
            have hb9_gm := hb9.mono hlegm
            refine dp' 0 hok591 rfl (Pure.move rfl) (dp' 1 hok591 rfl (Pure.nilCheck rfl) (dp' 2 hok591 rfl (Pure.fieldAddr rfl fo60_0) (dl' 3 hok591 rfl rfl agg57 ?_)))
            refine RunD.loadNR (vs := (cEdu wr)) (i := 4) hok591 rfl (by kernel_rfl) rfl (by assumption) agg23 sz23 (by first | exact Nat.le_of_ble_eq_true rfl | (simp; done) | (simp; omega)) rfl (Wt.none rfl) rfl ?_
            refine RunD.two (i := 5) (j := 10) (by kernel_rfl) rfl rfl ?_ ?_
            · skip
              refine ca' rfl rfl (s := OfM_ctr (e := wr)) (q := ?_)
              rintro _ _ ⟨rfl, hA_⟩
              replace hA_ := hA_.symm; subst hA_
              refine RunL.nilD' ?_
              refine RunD.two (i := 6) (j := 10) (by kernel_rfl) rfl rfl ?_ ?_
              · skip
                refine ca' rfl rfl (s := GetO_ctr (k := (kOf wr)) (l := tl)) (q := ?_)
                rintro _ _ ⟨rfl, hA_⟩
                replace hA_ := hA_.symm; subst hA_
                refine RunL.nilD' ?_
                refine dp' 7 hok591 rfl (Pure.move rfl) (dp' 8 hok591 rfl (Pure.extract rfl rfl) (dp' 9 hok591 rfl (Pure.extract rfl rfl) ?_))
                refine RunD.one (i := 10) (by kernel_rfl) rfl ?_
                · skip
                  refine RunL.alloc zz69 (Wt.none rfl) rfl ?_; intro b23
                  refine RunL.nilD' ?_
                  refine RunD.one (i := 11) (by kernel_rfl) rfl ?_
                  · skip
                    refine sW' (cPos (((mget (kOf wr) tl).getD noPos))) rfl rfl sz69 ?_
                    refine RunL.nilD' ?_
                    refine dp' 12 hok591 rfl (Pure.assign rfl) ?_
                    refine RunD.nilB (by kernel_rfl) (fun w sw => backgm _ _ (sw)) ?_
                    refine Run.mkMk ((⟨tl, [], 0⟩ : MS)) (by repeat (first | (with_reducible exact Take.nil _) | (apply Take.cons (by first | ((repeat (first | (with_reducible exact F0 _) | apply F1)); done) | (repeat (first | exact F0 _ | apply F1)))))) ?_
                    refine kp' [9, 12, 21, 23, 24] ?_
                    exact mf' F hk (by exact ⟨b23, rfl, rfl⟩)
              · skip
                refine RunL.alloc zz69 (Wt.none rfl) rfl ?_; intro b23
                refine RunL.nilD' ?_
                refine RunD.one (i := 6) (by kernel_rfl) rfl ?_
                · skip
                  refine ca' rfl rfl (s := GetO_ctr (k := (kOf wr)) (l := tl)) (q := ?_)
                  rintro _ _ ⟨rfl, hA_⟩
                  replace hA_ := hA_.symm; subst hA_
                  refine RunL.nilD' ?_
                  refine dp' 7 hok591 rfl (Pure.move rfl) (dp' 8 hok591 rfl (Pure.extract rfl rfl) (dp' 9 hok591 rfl (Pure.extract rfl rfl) ?_))
                  refine RunD.one (i := 11) (by kernel_rfl) rfl ?_
                  · skip
                    refine sW' (cPos (((mget (kOf wr) tl).getD noPos))) rfl rfl sz69 ?_
                    refine RunL.nilD' ?_
                    refine dp' 12 hok591 rfl (Pure.assign rfl) ?_
                    refine RunD.nilB (by kernel_rfl) (fun w sw => backgm _ _ (sw)) ?_
                    refine Run.mkMk ((⟨tl, [], 0⟩ : MS)) (by repeat (first | (with_reducible exact Take.nil _) | (apply Take.cons (by first | ((repeat (first | (with_reducible exact F0 _) | apply F1)); done) | (repeat (first | exact F0 _ | apply F1)))))) ?_
                    refine kp' [9, 12, 21, 23, 24] ?_
                    exact mf' F hk (by exact ⟨b23, rfl, rfl⟩)
            · skip
              refine RunL.alloc zz69 (Wt.none rfl) rfl ?_; intro b23
              refine RunL.nilD' ?_
              refine RunD.one (i := 5) (by kernel_rfl) rfl ?_
              · skip
                refine ca' rfl rfl (s := OfM_ctr (e := wr)) (q := ?_)
                rintro _ _ ⟨rfl, hA_⟩
                replace hA_ := hA_.symm; subst hA_
                refine RunL.nilD' ?_
                refine RunD.one (i := 6) (by kernel_rfl) rfl ?_
                · skip
                  refine ca' rfl rfl (s := GetO_ctr (k := (kOf wr)) (l := tl)) (q := ?_)
                  rintro _ _ ⟨rfl, hA_⟩
                  replace hA_ := hA_.symm; subst hA_
                  refine RunL.nilD' ?_
                  refine dp' 7 hok591 rfl (Pure.move rfl) (dp' 8 hok591 rfl (Pure.extract rfl rfl) (dp' 9 hok591 rfl (Pure.extract rfl rfl) ?_))
                  refine RunD.one (i := 11) (by kernel_rfl) rfl ?_
                  · skip
                    refine sW' (cPos (((mget (kOf wr) tl).getD noPos))) rfl rfl sz69 ?_
                    refine RunL.nilD' ?_
                    refine dp' 12 hok591 rfl (Pure.assign rfl) ?_
                    refine RunD.nilB (by kernel_rfl) (fun w sw => backgm _ _ (sw)) ?_
                    refine Run.mkMk ((⟨tl, [], 0⟩ : MS)) (by repeat (first | (with_reducible exact Take.nil _) | (apply Take.cons (by first | ((repeat (first | (with_reducible exact F0 _) | apply F1)); done) | (repeat (first | exact F0 _ | apply F1)))))) ?_
                    refine kp' [9, 12, 21, 23, 24] ?_
                    exact mf' F hk (by exact ⟨b23, rfl, rfl⟩)
        · skip
          obtain ⟨rfl, rfl, ho, hgs⟩ := hB
          refine mv' rfl (pp' (Pure.extract rfl rfl) (pp' (Pure.extract rfl rfl) (as' rfl (as' rfl (nl' (sq' (sr' (mv' rfl (pp' (Pure.lenSl rfl rfl und51) (pp' (Pure.eql rfl rfl) (mv' rfl (pp' (Pure.bneq rfl rfl und4) (mv' rfl ?_)))))))))))))
          refine RunL.split (d := 161) rfl (fun hg15 => ?_) (fun hg15 => ?_)
          · try simp only [Z] at hg15
            exfalso
            simp [ho] at hg15
          try simp only [Z] at hg15
          refine py' (Pure.move rfl) (py' (Pure.eql rfl rfl) (py' (Pure.move rfl) (py' (Pure.bneq rfl rfl und4) (pp' (Pure.pickF rfl rfl) (mv' rfl ?_)))))
          refine RunL.split (d := 167) rfl (fun hg16 => ?_) (fun hg16 => ?_)
          · try simp only [Z] at hg16
            exfalso
            first | exact hg16 rfl | exact hg16 trivial | (simp at hg16; done)
          try simp only [Z] at hg16
          refine py' (Pure.move rfl) ?_
          refine ca' rfl rfl (s := WaitsM_ctr (pm := pm) (s := (⟨tl, [], 0⟩ : MS)) (by show List.length ([] : List Edu) ≤ _; decide)) (q := ?_)
          rintro _ _ ⟨a5, c5, rfl, hA_⟩
          replace hA_ := hA_.symm; subst hA_
          refine py' (Pure.lenSl rfl rfl und25) (py' (Pure.neq rfl rfl) (pp' (Pure.pickF rfl rfl) (mv' rfl ?_)))
          refine RunL.split (d := 173) rfl (fun hg17 => ?_) (fun hg17 => ?_)
          · try simp only [Z] at hg17
            exfalso
            first | exact hg17 rfl | exact hg17 trivial | (simp at hg17; done)
          try simp only [Z] at hg17
          refine py' (Pure.move rfl) (py' (Pure.neq rfl rfl) (py' (Pure.move rfl) ?_))
          refine RunL.split (d := 176) rfl (fun hg18 => ?_) (fun hg18 => ?_)
          rotate_left
          · try simp only [Z] at hg18
            exfalso
            first | exact hg18 rfl | exact hg18 trivial | (simp at hg18; done)
          try simp only [Z] at hg18
          refine py' (Pure.move rfl) (py' (Pure.neq rfl rfl) (py' (Pure.pickT rfl rfl) (pp' (Pure.pickF rfl rfl) (nl' ?_))))
          refine Run.cond rfl (fun hc19 => ?_) (fun hc19 => ?_)
          · try simp only [Z] at hc19
            exfalso
            first | exact hc19 rfl | exact hc19 trivial | (simp at hc19; done)
          try simp only [Z] at hc19
          refine sk' (sq' ?_)
          refine Run.cut (fun e_ A => ∃ b23 : Nat, e_ = [(9, .pointer (some ⟨b9, 0, none⟩)), (12, .pointer (some ⟨qm, 0, none⟩)), (21, .bool false), (23, .pointer (some ⟨b23, 0, none⟩)), (24, .bool (mget (kOf wr) tl).isSome)] ∧ A = row b23 69 (cPos ((mget (kOf wr) tl).getD noPos)) :: Mk qm 4 (⟨tl, [], 0⟩ : MS) :: F) (fun e A hM => ?_) (fun hk => ?_)
          · obtain ⟨b23, rfl, hA_⟩ := hM
            replace hA_ := hA_.symm; subst hA_
            refine sq' ?_
            refine Run.cut (fun e_ A => ∃ b25 : Nat, e_ = [(21, .bool false), (23, .pointer (some ⟨b23, 0, none⟩)), (24, .bool (mget (kOf wr) tl).isSome), (25, .pointer (some ⟨b25, 0, none⟩)), (26, .bool (mget (kOf wr) tl).isSome)] ∧ A = row b23 69 (cPos ((mget (kOf wr) tl).getD noPos)) :: row b25 69 (cPos ((mget (kOf wr) tl).getD noPos)) :: F) (fun e A hM => ?_) (fun hk => ?_)
            · obtain ⟨b25, rfl, hA_⟩ := hM
              replace hA_ := hA_.symm; subst hA_
              refine sr' (lA' (cPos (((mget (kOf wr) tl).getD noPos))) rfl agg69 sz69 ?_)
              refine lA' (cPos (((mget (kOf wr) tl).getD noPos))) rfl agg69 sz69 ?_
              refine pp' (Pure.aeql rfl rfl eqg69 (eqv69 (((mget (kOf wr) tl).getD noPos)) (((mget (kOf wr) tl).getD noPos))) (by decide)) ?_
              refine mv' rfl ?_
              refine RunL.split (d := 204) rfl (fun hg20 => ?_) (fun hg20 => ?_)
              rotate_left
              · try simp only [Z] at hg20
                exfalso
                first | exact hg20 rfl | exact hg20 trivial | (simp at hg20; done)
              try simp only [Z] at hg20
              refine py' (Pure.move rfl) (py' (Pure.move rfl) (py' (Pure.beql rfl rfl und4) (pp' (Pure.pickT rfl rfl) (mv' rfl ?_))))
              refine RunL.split (d := 209) rfl (fun hg21 => ?_) (fun hg21 => ?_)
              rotate_left
              · try simp only [Z] at hg21
                exfalso
                first | exact hg21 rfl | exact hg21 trivial | (simp at hg21; done)
              try simp only [Z] at hg21
              refine py' (Pure.move rfl) (py' (Pure.move rfl) (py' (Pure.beql rfl rfl und4) (pp' (Pure.pickT rfl rfl) (mv' rfl ?_))))
              refine RunL.split (d := 214) rfl (fun hg22 => ?_) (fun hg22 => ?_)
              rotate_left
              · try simp only [Z] at hg22
                exfalso
                simp [hgs] at hg22
              try simp only [Z] at hg22
              refine ca' rfl rfl (s := lives_ctr) (q := ?_)
              rintro _ _ ⟨rfl, hA_⟩
              replace hA_ := hA_.symm; subst hA_
              refine pp' (Pure.pickT rfl rfl) (as' rfl (nl' ?_))
              exact rt' Tryz.func6 (res1 rfl rfl) (by exact ⟨rfl, rfl⟩)
            · skip
              refine Run.openMk (p := qm) (s := (⟨tl, [], 0⟩ : MS)) (by first | ((repeat (first | (with_reducible exact F0 _) | apply F1)); done) | (repeat (first | exact F0 _ | apply F1))) ?_; intro pt pp
              refine Run.regionD' (by kernel_rfl) (by kernel_rfl) (fun hok798 => ?_)
              refine ld' (row qm 60 _) Lends.row ?_; intro gm hlegm hgm backgm
              have hgsa_gm := hgsa.mono hlegm
              have hgxa_gm := hgxa.mono hlegm
              have hrb5_gm := hrb5.mono hlegm
              have hds_gm := hds.mono hlegm
              have hdk_gm := hdk.mono hlegm
              have hroe_gm := hroe.mono hlegm
              have hb7_gm := hb7.mono hlegm
              have hb8_gm := hb8.mono hlegm
              have hb9_gm := hb9.mono hlegm
              refine dp' 0 hok798 rfl (Pure.move rfl) (dp' 1 hok798 rfl (Pure.nilCheck rfl) (dp' 2 hok798 rfl (Pure.fieldAddr rfl fo60_0) (dl' 3 hok798 rfl rfl agg57 ?_)))
              refine RunD.loadNR (vs := (cEdu wr)) (i := 4) hok798 rfl (by kernel_rfl) rfl (by assumption) agg23 sz23 (by first | exact Nat.le_of_ble_eq_true rfl | (simp; done) | (simp; omega)) rfl (Wt.none rfl) rfl ?_
              refine RunD.two (i := 5) (j := 10) (by kernel_rfl) rfl rfl ?_ ?_
              · skip
                refine ca' rfl rfl (s := OfM_ctr (e := wr)) (q := ?_)
                rintro _ _ ⟨rfl, hA_⟩
                replace hA_ := hA_.symm; subst hA_
                refine RunL.nilD' ?_
                refine RunD.two (i := 6) (j := 10) (by kernel_rfl) rfl rfl ?_ ?_
                · skip
                  refine ca' rfl rfl (s := GetO_ctr (k := (kOf wr)) (l := tl)) (q := ?_)
                  rintro _ _ ⟨rfl, hA_⟩
                  replace hA_ := hA_.symm; subst hA_
                  refine RunL.nilD' ?_
                  refine dp' 7 hok798 rfl (Pure.move rfl) (dp' 8 hok798 rfl (Pure.extract rfl rfl) (dp' 9 hok798 rfl (Pure.extract rfl rfl) ?_))
                  refine RunD.one (i := 10) (by kernel_rfl) rfl ?_
                  · skip
                    refine RunL.alloc zz69 (Wt.none rfl) rfl ?_; intro b25
                    refine RunL.nilD' ?_
                    refine RunD.one (i := 11) (by kernel_rfl) rfl ?_
                    · skip
                      refine sW' (cPos (((mget (kOf wr) tl).getD noPos))) rfl rfl sz69 ?_
                      refine RunL.nilD' ?_
                      refine dp' 12 hok798 rfl (Pure.assign rfl) ?_
                      refine RunD.nilB (by kernel_rfl) (fun w sw => backgm _ _ (sw)) ?_
                      refine Run.mkMk ((⟨tl, [], 0⟩ : MS)) (by repeat (first | (with_reducible exact Take.nil _) | (apply Take.cons (by first | ((repeat (first | (with_reducible exact F0 _) | apply F1)); done) | (repeat (first | exact F0 _ | apply F1)))))) ?_
                      refine kp' [21, 23, 24, 25, 26] ?_
                      exact mf' F hk (by exact ⟨b25, rfl, rfl⟩)
                · skip
                  refine RunL.alloc zz69 (Wt.none rfl) rfl ?_; intro b25
                  refine RunL.nilD' ?_
                  refine RunD.one (i := 6) (by kernel_rfl) rfl ?_
                  · skip
                    refine ca' rfl rfl (s := GetO_ctr (k := (kOf wr)) (l := tl)) (q := ?_)
                    rintro _ _ ⟨rfl, hA_⟩
                    replace hA_ := hA_.symm; subst hA_
                    refine RunL.nilD' ?_
                    refine dp' 7 hok798 rfl (Pure.move rfl) (dp' 8 hok798 rfl (Pure.extract rfl rfl) (dp' 9 hok798 rfl (Pure.extract rfl rfl) ?_))
                    refine RunD.one (i := 11) (by kernel_rfl) rfl ?_
                    · skip
                      refine sW' (cPos (((mget (kOf wr) tl).getD noPos))) rfl rfl sz69 ?_
                      refine RunL.nilD' ?_
                      refine dp' 12 hok798 rfl (Pure.assign rfl) ?_
                      refine RunD.nilB (by kernel_rfl) (fun w sw => backgm _ _ (sw)) ?_
                      refine Run.mkMk ((⟨tl, [], 0⟩ : MS)) (by repeat (first | (with_reducible exact Take.nil _) | (apply Take.cons (by first | ((repeat (first | (with_reducible exact F0 _) | apply F1)); done) | (repeat (first | exact F0 _ | apply F1)))))) ?_
                      refine kp' [21, 23, 24, 25, 26] ?_
                      exact mf' F hk (by exact ⟨b25, rfl, rfl⟩)
              · skip
                refine RunL.alloc zz69 (Wt.none rfl) rfl ?_; intro b25
                refine RunL.nilD' ?_
                refine RunD.one (i := 5) (by kernel_rfl) rfl ?_
                · skip
                  refine ca' rfl rfl (s := OfM_ctr (e := wr)) (q := ?_)
                  rintro _ _ ⟨rfl, hA_⟩
                  replace hA_ := hA_.symm; subst hA_
                  refine RunL.nilD' ?_
                  refine RunD.one (i := 6) (by kernel_rfl) rfl ?_
                  · skip
                    refine ca' rfl rfl (s := GetO_ctr (k := (kOf wr)) (l := tl)) (q := ?_)
                    rintro _ _ ⟨rfl, hA_⟩
                    replace hA_ := hA_.symm; subst hA_
                    refine RunL.nilD' ?_
                    refine dp' 7 hok798 rfl (Pure.move rfl) (dp' 8 hok798 rfl (Pure.extract rfl rfl) (dp' 9 hok798 rfl (Pure.extract rfl rfl) ?_))
                    refine RunD.one (i := 11) (by kernel_rfl) rfl ?_
                    · skip
                      refine sW' (cPos (((mget (kOf wr) tl).getD noPos))) rfl rfl sz69 ?_
                      refine RunL.nilD' ?_
                      refine dp' 12 hok798 rfl (Pure.assign rfl) ?_
                      refine RunD.nilB (by kernel_rfl) (fun w sw => backgm _ _ (sw)) ?_
                      refine Run.mkMk ((⟨tl, [], 0⟩ : MS)) (by repeat (first | (with_reducible exact Take.nil _) | (apply Take.cons (by first | ((repeat (first | (with_reducible exact F0 _) | apply F1)); done) | (repeat (first | exact F0 _ | apply F1)))))) ?_
                      refine kp' [21, 23, 24, 25, 26] ?_
                      exact mf' F hk (by exact ⟨b25, rfl, rfl⟩)
          · skip
            refine Run.openMk (p := pm) (s := (⟨tl, [], 0⟩ : MS)) (by first | ((repeat (first | (with_reducible exact F0 _) | apply F1)); done) | (repeat (first | exact F0 _ | apply F1))) ?_; intro pt pp
            refine Run.regionD' (by kernel_rfl) (by kernel_rfl) (fun hok892 => ?_)
            refine ld' (row pm 60 _) Lends.row ?_; intro gm hlegm hgm backgm
            have hgsa_gm := hgsa.mono hlegm
            have hgxa_gm := hgxa.mono hlegm
            have hrb5_gm := hrb5.mono hlegm
            have hds_gm := hds.mono hlegm
            have hdk_gm := hdk.mono hlegm
            have hroe_gm := hroe.mono hlegm
            have hb7_gm := hb7.mono hlegm
            have hb8_gm := hb8.mono hlegm
            have hb9_gm := hb9.mono hlegm
            refine dp' 0 hok892 rfl (Pure.move rfl) (dp' 1 hok892 rfl (Pure.nilCheck rfl) (dp' 2 hok892 rfl (Pure.fieldAddr rfl fo60_0) (dl' 3 hok892 rfl rfl agg57 ?_)))
            refine RunD.loadNR (vs := (cEdu wr)) (i := 4) hok892 rfl (by kernel_rfl) rfl (by assumption) agg23 sz23 (by first | exact Nat.le_of_ble_eq_true rfl | (simp; done) | (simp; omega)) rfl (Wt.none rfl) rfl ?_
            refine RunD.two (i := 5) (j := 10) (by kernel_rfl) rfl rfl ?_ ?_
            · skip
              refine ca' rfl rfl (s := OfM_ctr (e := wr)) (q := ?_)
              rintro _ _ ⟨rfl, hA_⟩
              replace hA_ := hA_.symm; subst hA_
              refine RunL.nilD' ?_
              refine RunD.two (i := 6) (j := 10) (by kernel_rfl) rfl rfl ?_ ?_
              · skip
                refine ca' rfl rfl (s := GetO_ctr (k := (kOf wr)) (l := tl)) (q := ?_)
                rintro _ _ ⟨rfl, hA_⟩
                replace hA_ := hA_.symm; subst hA_
                refine RunL.nilD' ?_
                refine dp' 7 hok892 rfl (Pure.move rfl) (dp' 8 hok892 rfl (Pure.extract rfl rfl) (dp' 9 hok892 rfl (Pure.extract rfl rfl) ?_))
                refine RunD.one (i := 10) (by kernel_rfl) rfl ?_
                · skip
                  refine RunL.alloc zz69 (Wt.none rfl) rfl ?_; intro b23
                  refine RunL.nilD' ?_
                  refine RunD.one (i := 11) (by kernel_rfl) rfl ?_
                  · skip
                    refine sW' (cPos (((mget (kOf wr) tl).getD noPos))) rfl rfl sz69 ?_
                    refine RunL.nilD' ?_
                    refine dp' 12 hok892 rfl (Pure.assign rfl) ?_
                    refine RunD.nilB (by kernel_rfl) (fun w sw => backgm _ _ (sw)) ?_
                    refine Run.mkMk ((⟨tl, [], 0⟩ : MS)) (by repeat (first | (with_reducible exact Take.nil _) | (apply Take.cons (by first | ((repeat (first | (with_reducible exact F0 _) | apply F1)); done) | (repeat (first | exact F0 _ | apply F1)))))) ?_
                    refine kp' [9, 12, 21, 23, 24] ?_
                    exact mf' F hk (by exact ⟨b23, rfl, rfl⟩)
              · skip
                refine RunL.alloc zz69 (Wt.none rfl) rfl ?_; intro b23
                refine RunL.nilD' ?_
                refine RunD.one (i := 6) (by kernel_rfl) rfl ?_
                · skip
                  refine ca' rfl rfl (s := GetO_ctr (k := (kOf wr)) (l := tl)) (q := ?_)
                  rintro _ _ ⟨rfl, hA_⟩
                  replace hA_ := hA_.symm; subst hA_
                  refine RunL.nilD' ?_
                  refine dp' 7 hok892 rfl (Pure.move rfl) (dp' 8 hok892 rfl (Pure.extract rfl rfl) (dp' 9 hok892 rfl (Pure.extract rfl rfl) ?_))
                  refine RunD.one (i := 11) (by kernel_rfl) rfl ?_
                  · skip
                    refine sW' (cPos (((mget (kOf wr) tl).getD noPos))) rfl rfl sz69 ?_
                    refine RunL.nilD' ?_
                    refine dp' 12 hok892 rfl (Pure.assign rfl) ?_
                    refine RunD.nilB (by kernel_rfl) (fun w sw => backgm _ _ (sw)) ?_
                    refine Run.mkMk ((⟨tl, [], 0⟩ : MS)) (by repeat (first | (with_reducible exact Take.nil _) | (apply Take.cons (by first | ((repeat (first | (with_reducible exact F0 _) | apply F1)); done) | (repeat (first | exact F0 _ | apply F1)))))) ?_
                    refine kp' [9, 12, 21, 23, 24] ?_
                    exact mf' F hk (by exact ⟨b23, rfl, rfl⟩)
            · skip
              refine RunL.alloc zz69 (Wt.none rfl) rfl ?_; intro b23
              refine RunL.nilD' ?_
              refine RunD.one (i := 5) (by kernel_rfl) rfl ?_
              · skip
                refine ca' rfl rfl (s := OfM_ctr (e := wr)) (q := ?_)
                rintro _ _ ⟨rfl, hA_⟩
                replace hA_ := hA_.symm; subst hA_
                refine RunL.nilD' ?_
                refine RunD.one (i := 6) (by kernel_rfl) rfl ?_
                · skip
                  refine ca' rfl rfl (s := GetO_ctr (k := (kOf wr)) (l := tl)) (q := ?_)
                  rintro _ _ ⟨rfl, hA_⟩
                  replace hA_ := hA_.symm; subst hA_
                  refine RunL.nilD' ?_
                  refine dp' 7 hok892 rfl (Pure.move rfl) (dp' 8 hok892 rfl (Pure.extract rfl rfl) (dp' 9 hok892 rfl (Pure.extract rfl rfl) ?_))
                  refine RunD.one (i := 11) (by kernel_rfl) rfl ?_
                  · skip
                    refine sW' (cPos (((mget (kOf wr) tl).getD noPos))) rfl rfl sz69 ?_
                    refine RunL.nilD' ?_
                    refine dp' 12 hok892 rfl (Pure.assign rfl) ?_
                    refine RunD.nilB (by kernel_rfl) (fun w sw => backgm _ _ (sw)) ?_
                    refine Run.mkMk ((⟨tl, [], 0⟩ : MS)) (by repeat (first | (with_reducible exact Take.nil _) | (apply Take.cons (by first | ((repeat (first | (with_reducible exact F0 _) | apply F1)); done) | (repeat (first | exact F0 _ | apply F1)))))) ?_
                    refine kp' [9, 12, 21, 23, 24] ?_
                    exact mf' F hk (by exact ⟨b23, rfl, rfl⟩)

end Go.Proofs.YtaaondbmkibkkaaGreat
