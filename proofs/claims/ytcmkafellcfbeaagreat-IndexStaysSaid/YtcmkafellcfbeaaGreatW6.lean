/- What stays. -/
import Derived.Test.YtcmkafellcfbeaaGreatW1
set_option linter.unusedVariables false
set_option linter.unusedSimpArgs false
set_option linter.unusedSectionVars false
namespace Go.Proofs.YtcmkafellcfbeaaGreat
open Go Csl


set_option maxHeartbeats 8000000 in
set_option maxRecDepth 100000 in
theorem IndexStays_ctr {G : Gp} {ag : Option Addr} {cg : Nat} {gs : List GG} (hgs : SlR G 79 4 ag gs.length (gs.flatMap cGG)) (hgi : GsIn G gs) {k : Int} (hkw : -9223372036854775808 ≤ k ∧ k ≤ 9223372036854775807) :
    Ctr Tryz.prog G 5 [.slice ag gs.length cg, .int .i64 k] [] (fun F v A => v = .bool true ∧ A = F) := by
  refine Ctr.intro Tryz.func5 rfl (by kernel_rfl) rfl (fun F => ?_)
  simp only [List.nil_append]
  obtain ⟨xs, hxs, hgx⟩ := hgi
  have hgsx : SlR G 79 4 ag xs.length (xs.flatMap cGX) := by rw [← hxs, List.length_map, gx_flat] at hgs; exact hgs
  have hgl : gs.length = xs.length := by rw [← hxs, List.length_map]
  have hmg := madeL_good (room := (⟨#[33, 114, 58, 115, 49]⟩ : ByteArray)) (by decide +kernel) xs
  have hml := madeL_len (⟨#[33, 114, 58, 115, 49]⟩ : ByteArray) xs
  have hmf : ∀ v ∈ (madeL (⟨#[33, 114, 58, 115, 49]⟩ : ByteArray) xs), evWf v := madeL_wf (by decide) xs
  refine Run.sr ?_
  refine RunL.as rfl rfl ?_
  refine RunL.nil ?_
  refine Run.sr ?_
  refine RunL.mv rfl rfl ?_
  rw [hgl]
  refine RunL.call rfl rfl (by rfl) (by repeat (first | (with_reducible exact Take.nil _) | (apply Take.cons (by first | ((repeat (first | (with_reducible exact F0 _) | apply F1)); done) | (repeat (first | exact F0 _ | apply F1)))))) (rdMade_ctr (room := (⟨#[33, 114, 58, 115, 49]⟩ : ByteArray)) (xs := xs) (by decide +kernel) (by decide) hgsx hgx) (Wt.none rfl) rfl ?_
  rintro _ _ ⟨K, D, hD, rfl, hA_⟩
  replace hA_ := hA_.symm; subst hA_
  refine RunL.alloc zz26 (Wt.none rfl) rfl ?_; intro b5
  refine RunL.storeW (xs := (cDD D)) rfl rfl (by first | ((repeat (first | (with_reducible exact F0 _) | apply F1)); done) | (repeat (first | exact F0 _ | apply F1))) sz26 (by rfl) (by rfl) (by rfl) (Wt.none rfl) ?_
  refine RunL.nil ?_
  refine Run.lendAll (Q := Pool K) Lends.Pool (by first | ((repeat (first | (with_reducible exact F0 _) | apply F1)); done) | (repeat (first | exact F0 _ | apply F1))) (fun GhK hleGhK hK => ?_)
  replace hgsx := hgsx.mono hleGhK
  replace hgx := hgx.mono hleGhK
  have hd := HasD.hp (G' := GhK) hD hK
  obtain ⟨hroom, ys, hyl, hdn, hds, hdc, hdk⟩ := id hd
  have hyn := ES_len hyl
  have hml9 : ((madeL (⟨#[33, 114, 58, 115, 49]⟩ : ByteArray) xs)).length ≤ 9 := by omega
  have hal := around_lt (z := k) (m := (D.l.n : Nat) + 1) (by omega)
  obtain ⟨q, hq⟩ : ∃ q : Nat, around k ((D.l.n : Nat) + 1) = (q : Nat) := ⟨(around k ((D.l.n : Nat) + 1)).toNat, by omega⟩
  have hlq : ((((madeL (⟨#[33, 114, 58, 115, 49]⟩ : ByteArray) xs)).take q)).length = q := by rw [List.length_take]; omega
  have hmq := hmg.upto q
  have hdf : HasD GhK (⟨D.room, ⟨D.l.a, q, D.l.c⟩⟩ : DD) (⟨#[33, 114, 58, 115, 49]⟩ : ByteArray) (((madeL (⟨#[33, 114, 58, 115, 49]⟩ : ByteArray) xs)).take q) := ⟨hroom, ys.take q, by rw [List.map_take, hyl], HasES.upto ⟨hdn, hds, hdc, hdk⟩ (by omega)⟩
  refine Run.sr ?_
  refine RunL.pure (Pure.fieldAddr rfl fo26_0) (Wt.none rfl) rfl rfl ?_
  first | refine RunL.load1 rfl (by first | ((repeat (first | (with_reducible exact F0 _) | apply F1)); done) | (repeat (first | exact F0 _ | apply F1))) (by rfl) agg9 (Wt.none rfl) rfl ?_ | refine RunL.load1R rfl (by assumption) (by rfl) agg9 (Wt.none rfl) rfl ?_
  refine RunL.call rfl rfl (by rfl) (by repeat (first | (with_reducible exact Take.nil _) | (apply Take.cons (by first | ((repeat (first | (with_reducible exact F0 _) | apply F1)); done) | (repeat (first | exact F0 _ | apply F1)))))) (NewD_ctr) (Wt.none rfl) rfl ?_
  rintro _ _ ⟨pd, rfl, hA_⟩
  replace hA_ := hA_.symm; subst hA_
  rw [hroom]
  refine RunL.as rfl rfl ?_
  refine RunL.nil ?_
  refine Run.seq ?_
  refine Run.sr ?_
  refine RunL.mv rfl rfl ?_
  refine RunL.pure (Pure.ptrEqNil rfl rfl und23) (Wt.none rfl) rfl rfl ?_
  refine RunL.nil ?_
  refine Run.condF rfl ?_
  refine Run.skip ?_
  refine Run.sr ?_
  refine RunL.mv rfl rfl ?_
  refine RunL.pure (Pure.fieldAddr rfl fo26_1) (Wt.none rfl) rfl rfl ?_
  first | refine RunL.load1 rfl (by first | ((repeat (first | (with_reducible exact F0 _) | apply F1)); done) | (repeat (first | exact F0 _ | apply F1))) (by rfl) agg24 (Wt.none rfl) rfl ?_ | refine RunL.load1R rfl (by assumption) (by rfl) agg24 (Wt.none rfl) rfl ?_
  refine RunL.pure (Pure.lenSl rfl rfl und24) (Wt.none rfl) rfl rfl ?_
  first | refine RunL.pure (Pure.addI rfl rfl (by omega)) (Wt.none rfl) rfl rfl ?_ | refine RunL.pure (Pure.add rfl rfl) (Wt.none rfl) rfl rfl ?_
  refine RunL.call rfl rfl (by rfl) (by repeat (first | (with_reducible exact Take.nil _) | (apply Take.cons (by first | ((repeat (first | (with_reducible exact F0 _) | apply F1)); done) | (repeat (first | exact F0 _ | apply F1)))))) (Around_ctr (z := k) (m := (D.l.n : Nat) + 1) hkw (by omega)) (Wt.none rfl) rfl ?_
  rintro _ _ ⟨rfl, hA_⟩
  replace hA_ := hA_.symm; subst hA_
  rw [hq]
  refine RunL.as rfl rfl ?_
  refine RunL.nil ?_
  refine Run.seq ?_
  refine Run.sr ?_
  refine RunL.as rfl rfl ?_
  refine RunL.nil ?_
  refine Run.block ?_
  refine Run.keep (.cons rfl (.cons rfl (.cons rfl (.cons rfl (.nil)))) : Keep _ [5, 6, 7, 8] _) ?_
  refine Run.loopF (F := F) (fun n e_ A => ∃ (i : Nat), i ≤ q ∧ n = q - i ∧ e_ = [(5, .pointer (some ⟨b5, 0, none⟩)), (6, .pointer (some ⟨pd, 0, none⟩)), (7, .int .i64 (q : Nat)), (8, .int .i64 (i : Nat))] ∧ A = row b5 26 (cDD D) :: Dg pd (⟨#[33, 114, 58, 115, 49]⟩ : ByteArray) (((madeL (⟨#[33, 114, 58, 115, 49]⟩ : ByteArray) xs)).take i) :: F) (q) (by exact ⟨0, by omega, rfl, rfl, rfl⟩) (by repeat (first | (with_reducible exact Fin.done (by repeat (first | (with_reducible exact Rest.here) | apply Rest.there))) | (apply Fin.cons (by first | ((repeat (first | (with_reducible exact F0 _) | apply F1)); done) | (repeat (first | exact F0 _ | apply F1)))))) ?_
  rintro n _ _ ⟨i, hi, rfl, rfl, hA_⟩ ih
  replace hA_ := hA_.symm; subst hA_
  refine Run.seq ?_
  refine Run.sr ?_
  refine RunL.mv rfl rfl ?_
  refine RunL.mv rfl rfl ?_
  refine RunL.pure (Pure.lss rfl rfl) (Wt.none rfl) rfl rfl ?_
  refine RunL.nil ?_
  refine Run.cond rfl (fun c1 => ?_) (fun c1 => ?_)
  · try simp only [ZA, ZB, ZC, ZD, ZE, ZF, ZG, ZH, ZI, ZJ, ZK, ZL, ZM, ZN, ZO, ZP, ZQ, ZR] at c1
    obtain ⟨v, hv⟩ := get_some (xs := (madeL (⟨#[33, 114, 58, 115, 49]⟩ : ByteArray) xs)) (i := i) (by omega)
    obtain ⟨s, hy⟩ := ES_get hyl hv
    have hvm := List.mem_of_getElem? hv
    have hym := List.mem_of_getElem? hy
    obtain ⟨be, Te, pree, poste, hpe, hroe⟩ := hds.open1 (show 0 < ys.length by omega)
    have hrc := hmg i v hv
    refine Run.skip ?_
    refine Run.seq ?_
    refine Run.block ?_
    refine Run.region ?_
    refine RunL.mv rfl rfl ?_
    refine RunL.pure (Pure.fieldAddr rfl fo26_1) (Wt.none rfl) rfl rfl ?_
    first | refine RunL.load1 rfl (by first | ((repeat (first | (with_reducible exact F0 _) | apply F1)); done) | (repeat (first | exact F0 _ | apply F1))) (by rfl) agg24 (Wt.none rfl) rfl ?_ | refine RunL.load1R rfl (by assumption) (by rfl) agg24 (Wt.none rfl) rfl ?_
    refine RunL.mv rfl rfl ?_
    refine RunL.pure (Pure.indexAddr (opvSl rfl hpe) rfl und24 sz33 (by omega) (by omega)) (Wt.none rfl) rfl rfl ?_
    refine RunL.loadNR (vs := (cEvn ((v.evn s)))) rfl hroe agg33 sz33 (elemN_len (pre := pree) (post := poste) (f := cES) (sz := 6) (j := 0) (n := 6) (fun _ _ => rfl) hy (by decide)) ((elemN_at (pre := pree) (post := poste) (f := cES) (sz := 6) (j := 0) (n := 6) (fun _ _ => rfl) hy (by decide)).trans rfl) (Wt.none rfl) rfl ?_
    refine RunL.call rfl rfl (by rfl) (by repeat (first | (with_reducible exact Take.nil _) | (apply Take.cons (by first | ((repeat (first | (with_reducible exact F0 _) | apply F1)); done) | (repeat (first | exact F0 _ | apply F1)))))) (Add_ctr (e := v.evn s) (ps := v.ps) (hdk _ hym) (hmf v hvm) (by rw [List.length_take]; omega)) (Wt.none rfl) rfl ?_
    rintro _ _ ⟨rfl, hA_⟩
    replace hA_ := hA_.symm; subst hA_
    rw [ev_evn, hrc, addL_ok hrc, show ((madeL (⟨#[33, 114, 58, 115, 49]⟩ : ByteArray) xs)).take i ++ [v] = ((madeL (⟨#[33, 114, 58, 115, 49]⟩ : ByteArray) xs)).take (i + 1) from by rw [List.take_add_one, hv]; rfl]
    refine RunL.nil ?_
    refine Run.inBlock ?_
    refine Run.region ?_
    refine RunL.mv rfl rfl ?_
    first | refine RunL.pure (Pure.addI rfl rfl (by omega)) (Wt.none rfl) rfl rfl ?_ | refine RunL.pure (Pure.add rfl rfl) (Wt.none rfl) rfl rfl ?_
    refine RunL.as rfl rfl ?_
    refine RunL.nil ?_
    refine Run.keep (.cons rfl (.cons rfl (.cons rfl (.cons rfl (.nil)))) : Keep _ [5, 6, 7, 8] _) ?_
    refine Run.againF (F := F) ih (by exact ⟨i + 1, by omega, rfl, rfl, rfl⟩) (by repeat (first | (with_reducible exact Fin.done (by repeat (first | (with_reducible exact Rest.here) | apply Rest.there))) | (apply Fin.cons (by first | ((repeat (first | (with_reducible exact F0 _) | apply F1)); done) | (repeat (first | exact F0 _ | apply F1)))))) ?_
    omega
  · try simp only [ZA, ZB, ZC, ZD, ZE, ZF, ZG, ZH, ZI, ZJ, ZK, ZL, ZM, ZN, ZO, ZP, ZQ, ZR] at c1
    obtain rfl : q = i := by omega
    refine Run.exit rfl ?_
    refine Run.sr ?_
    refine RunL.mv rfl rfl ?_
    refine RunL.call rfl rfl (by rfl) (by repeat (first | (with_reducible exact Take.nil _) | (apply Take.cons (by first | ((repeat (first | (with_reducible exact F0 _) | apply F1)); done) | (repeat (first | exact F0 _ | apply F1)))))) (Ctr.lend Lends.Dg cb9 (fun G' hle hr => Of_ctr hr (by rw [List.length_take]; omega))) (Wt.none rfl) rfl ?_
    rintro _ _ ⟨_, rfl, px, KX, slx, ysx, hx, rfl, hA_⟩
    replace hA_ := hA_.symm; subst hA_
    refine RunL.as rfl rfl ?_
    refine RunL.nil ?_
    refine Run.sr ?_
    refine RunL.mv rfl rfl ?_
    refine RunL.call rfl rfl (by rfl) (by repeat (first | (with_reducible exact Take.nil _) | (apply Take.cons (by first | ((repeat (first | (with_reducible exact F0 _) | apply F1)); done) | (repeat (first | exact F0 _ | apply F1)))))) (Ctr.lend Lends.Dg cb9 (fun G' hle hr => Of_ctr hr (by rw [List.length_take]; omega))) (Wt.none rfl) rfl ?_
    rintro _ _ ⟨_, rfl, py, KY, sly, ysy, hy2, rfl, hA_⟩
    replace hA_ := hA_.symm; subst hA_
    refine RunL.as rfl rfl ?_
    refine RunL.nil ?_
    refine Run.seq ?_
    refine Run.sr ?_
    refine RunL.mv rfl rfl ?_
    refine RunL.pure (Pure.ptrEqNil rfl rfl und29) (Wt.none rfl) rfl rfl ?_
    refine RunL.mv rfl rfl ?_
    refine RunL.pure (Pure.move rfl) (Wt.yes rfl rfl rfl) rfl rfl ?_
    refine RunL.pure (Pure.ptrEqNil rfl rfl und29) (Wt.yes rfl rfl rfl) rfl rfl ?_
    refine RunL.pure (Pure.pickF rfl rfl) (Wt.none rfl) rfl rfl ?_
    refine RunL.nil ?_
    refine Run.condF rfl ?_
    refine Run.skip ?_
    refine Run.sr ?_
    refine RunL.mv rfl rfl ?_
    refine RunL.call rfl rfl (by rfl) (by repeat (first | (with_reducible exact Take.nil _) | (apply Take.cons (by first | ((repeat (first | (with_reducible exact F0 _) | apply F1)); done) | (repeat (first | exact F0 _ | apply F1)))))) (Ahead_ctr hy2) (Wt.none rfl) rfl ?_
    rintro _ _ ⟨rfl, hA_⟩
    replace hA_ := hA_.symm; subst hA_
    refine RunL.nil ?_
    refine Run.seq ?_
    refine Run.sr ?_
    refine RunL.mv rfl rfl ?_
    refine RunL.as rfl rfl ?_
    refine RunL.nil ?_
    refine Run.block ?_
    refine Run.keep (.cons rfl (.cons rfl (.cons rfl (.cons rfl (.cons rfl (.cons rfl (.nil)))))) : Keep _ [5, 6, 7, 9, 10, 11] _) ?_
    refine Run.loopF (F := F) (fun n e_ A => ∃ (i : Nat), i ≤ ((madeL (⟨#[33, 114, 58, 115, 49]⟩ : ByteArray) xs)).length ∧ n = ((madeL (⟨#[33, 114, 58, 115, 49]⟩ : ByteArray) xs)).length - i ∧ e_ = [(5, .pointer (some ⟨b5, 0, none⟩)), (6, .pointer (some ⟨pd, 0, none⟩)), (7, .int .i64 (q : Nat)), (9, .pointer (some ⟨px, 0, none⟩)), (10, .pointer (some ⟨py, 0, none⟩)), (11, .int .i64 (i : Nat))] ∧ A = row b5 26 (cDD D) :: Ix px (((madeL (⟨#[33, 114, 58, 115, 49]⟩ : ByteArray) xs)).take q) KX slx :: Ix py (((madeL (⟨#[33, 114, 58, 115, 49]⟩ : ByteArray) xs)).take q) KY sly :: Dg pd (⟨#[33, 114, 58, 115, 49]⟩ : ByteArray) (((madeL (⟨#[33, 114, 58, 115, 49]⟩ : ByteArray) xs)).take i) :: F) (((madeL (⟨#[33, 114, 58, 115, 49]⟩ : ByteArray) xs)).length - q) (by exact ⟨q, by omega, rfl, rfl, rfl⟩) (by repeat (first | (with_reducible exact Fin.done (by repeat (first | (with_reducible exact Rest.here) | apply Rest.there))) | (apply Fin.cons (by first | ((repeat (first | (with_reducible exact F0 _) | apply F1)); done) | (repeat (first | exact F0 _ | apply F1)))))) ?_
    rintro n _ _ ⟨i, hi, rfl, rfl, hA_⟩ ih
    replace hA_ := hA_.symm; subst hA_
    refine Run.seq ?_
    refine Run.sr ?_
    refine RunL.mv rfl rfl ?_
    refine RunL.pure (Pure.fieldAddr rfl fo26_1) (Wt.none rfl) rfl rfl ?_
    first | refine RunL.load1 rfl (by first | ((repeat (first | (with_reducible exact F0 _) | apply F1)); done) | (repeat (first | exact F0 _ | apply F1))) (by rfl) agg24 (Wt.none rfl) rfl ?_ | refine RunL.load1R rfl (by assumption) (by rfl) agg24 (Wt.none rfl) rfl ?_
    refine RunL.pure (Pure.lenSl rfl rfl und24) (Wt.none rfl) rfl rfl ?_
    refine RunL.pure (Pure.lss rfl rfl) (Wt.none rfl) rfl rfl ?_
    refine RunL.nil ?_
    refine Run.cond rfl (fun c2 => ?_) (fun c2 => ?_)
    · try simp only [ZA, ZB, ZC, ZD, ZE, ZF, ZG, ZH, ZI, ZJ, ZK, ZL, ZM, ZN, ZO, ZP, ZQ, ZR] at c2
      obtain ⟨v, hv⟩ := get_some (xs := (madeL (⟨#[33, 114, 58, 115, 49]⟩ : ByteArray) xs)) (i := i) (by omega)
      obtain ⟨s, hy⟩ := ES_get hyl hv
      have hvm := List.mem_of_getElem? hv
      have hym := List.mem_of_getElem? hy
      obtain ⟨be, Te, pree, poste, hpe, hroe⟩ := hds.open1 (show 0 < ys.length by omega)
      have hrc := hmg i v hv
      refine Run.skip ?_
      refine Run.seq ?_
      refine Run.block ?_
      refine Run.region ?_
      refine RunL.mv rfl rfl ?_
      refine RunL.pure (Pure.fieldAddr rfl fo26_1) (Wt.none rfl) rfl rfl ?_
      first | refine RunL.load1 rfl (by first | ((repeat (first | (with_reducible exact F0 _) | apply F1)); done) | (repeat (first | exact F0 _ | apply F1))) (by rfl) agg24 (Wt.none rfl) rfl ?_ | refine RunL.load1R rfl (by assumption) (by rfl) agg24 (Wt.none rfl) rfl ?_
      refine RunL.mv rfl rfl ?_
      refine RunL.pure (Pure.indexAddr (opvSl rfl hpe) rfl und24 sz33 (by omega) (by omega)) (Wt.none rfl) rfl rfl ?_
      refine RunL.loadNR (vs := (cEvn ((v.evn s)))) rfl hroe agg33 sz33 (elemN_len (pre := pree) (post := poste) (f := cES) (sz := 6) (j := 0) (n := 6) (fun _ _ => rfl) hy (by decide)) ((elemN_at (pre := pree) (post := poste) (f := cES) (sz := 6) (j := 0) (n := 6) (fun _ _ => rfl) hy (by decide)).trans rfl) (Wt.none rfl) rfl ?_
      refine RunL.call rfl rfl (by rfl) (by repeat (first | (with_reducible exact Take.nil _) | (apply Take.cons (by first | ((repeat (first | (with_reducible exact F0 _) | apply F1)); done) | (repeat (first | exact F0 _ | apply F1)))))) (Add_ctr (e := v.evn s) (ps := v.ps) (hdk _ hym) (hmf v hvm) (by rw [List.length_take]; omega)) (Wt.none rfl) rfl ?_
      rintro _ _ ⟨rfl, hA_⟩
      replace hA_ := hA_.symm; subst hA_
      rw [ev_evn, hrc, addL_ok hrc, show ((madeL (⟨#[33, 114, 58, 115, 49]⟩ : ByteArray) xs)).take i ++ [v] = ((madeL (⟨#[33, 114, 58, 115, 49]⟩ : ByteArray) xs)).take (i + 1) from by rw [List.take_add_one, hv]; rfl]
      refine RunL.nil ?_
      refine Run.inBlock ?_
      refine Run.region ?_
      refine RunL.mv rfl rfl ?_
      first | refine RunL.pure (Pure.addI rfl rfl (by omega)) (Wt.none rfl) rfl rfl ?_ | refine RunL.pure (Pure.add rfl rfl) (Wt.none rfl) rfl rfl ?_
      refine RunL.as rfl rfl ?_
      refine RunL.nil ?_
      refine Run.keep (.cons rfl (.cons rfl (.cons rfl (.cons rfl (.cons rfl (.cons rfl (.nil)))))) : Keep _ [5, 6, 7, 9, 10, 11] _) ?_
      refine Run.againF (F := F) ih (by exact ⟨i + 1, by omega, rfl, rfl, rfl⟩) (by repeat (first | (with_reducible exact Fin.done (by repeat (first | (with_reducible exact Rest.here) | apply Rest.there))) | (apply Fin.cons (by first | ((repeat (first | (with_reducible exact F0 _) | apply F1)); done) | (repeat (first | exact F0 _ | apply F1)))))) ?_
      omega
    · try simp only [ZA, ZB, ZC, ZD, ZE, ZF, ZG, ZH, ZI, ZJ, ZK, ZL, ZM, ZN, ZO, ZP, ZQ, ZR] at c2
      refine Run.exit rfl ?_
      refine Run.seq ?_
      refine Run.regionD' (by kernel_rfl) (by kernel_rfl) (fun hok186 => ?_)
      refine RunD.lend (Q := row b5 26 _) Lends.row (by first | ((repeat (first | (with_reducible exact F0 _) | apply F1)); done) | (repeat (first | exact F0 _ | apply F1))) ?_; intro gl1 hlegl1 hl1 backgl1
      have hgsx_gl1 := hgsx.mono hlegl1
      have hgx_gl1 := hgx.mono hlegl1
      have hd_gl1 := hd.mono hlegl1
      have hds_gl1 := hds.mono hlegl1
      have hdk_gl1 := hdk.mono hlegl1
      have hdf_gl1 := hdf.mono hlegl1
      refine RunD.pure (i := 0) hok186 rfl (by kernel_rfl) (Pure.fieldAddr rfl fo26_0) (Wt.none rfl) rfl rfl ?_
      refine RunD.load1R (i := 1) hok186 rfl (by kernel_rfl) rfl (by assumption) (by rfl) agg9 (Wt.none rfl) rfl ?_
      refine RunD.pure (i := 2) hok186 rfl (by kernel_rfl) (Pure.fieldAddr rfl fo26_1) (Wt.none rfl) rfl rfl ?_
      refine RunD.load1R (i := 3) hok186 rfl (by kernel_rfl) rfl (by assumption) (by rfl) agg24 (Wt.none rfl) rfl ?_
      refine RunD.pure (i := 4) hok186 rfl (by kernel_rfl) (Pure.move rfl) (Wt.none rfl) rfl rfl ?_
      refine RunD.pure (i := 5) hok186 rfl (by kernel_rfl) (Pure.sliceTo rfl rfl und24 sz33 (by first | omega | (simp; done) | (simp; omega)) (by first | omega | (simp; done) | (simp; omega))) (Wt.none rfl) rfl rfl ?_
      refine RunD.pure (i := 6) hok186 rfl (by kernel_rfl) (Pure.buildL (ps := [(0, _), (1, _)]) (zs := [(.string .empty), (.slice none 0 0)]) (xs := [_, _]) pl26 rfl rfl rfl rfl) (Wt.none rfl) rfl rfl ?_
      refine RunD.one (i := 7) (by kernel_rfl) rfl ?_
      · skip
        refine RunL.alloc zz26 (Wt.none rfl) rfl ?_; intro b12
        refine RunL.nilD' ?_
        refine RunD.one (i := 8) (by kernel_rfl) rfl ?_
        · skip
          refine RunL.storeW (xs := (cDD ((⟨D.room, ⟨D.l.a, q, D.l.c⟩⟩ : DD)))) rfl rfl (by first | ((repeat (first | (with_reducible exact F0 _) | apply F1)); done) | (repeat (first | exact F0 _ | apply F1))) sz26 (by rfl) (by rfl) (by rfl) (Wt.none rfl) ?_
          refine RunL.nilD' ?_
          refine RunD.nilB (by kernel_rfl) (fun w sw => backgl1 _ _ (sw)) ?_
          refine Run.seq ?_
          refine Run.sr ?_
          refine RunL.as rfl rfl ?_
          refine RunL.nil ?_
          refine Run.block ?_
          refine Run.keep (.cons rfl (.cons rfl (.cons rfl (.cons rfl (.cons rfl (.nil))))) : Keep _ [7, 9, 10, 12, 13] _) ?_
          refine Run.loopF (F := F) (fun n e_ A => ∃ (i : Nat), i ≤ 9 ∧ n = 9 - i ∧ e_ = [(7, .int .i64 (q : Nat)), (9, .pointer (some ⟨px, 0, none⟩)), (10, .pointer (some ⟨py, 0, none⟩)), (12, .pointer (some ⟨b12, 0, none⟩)), (13, .int .i64 (i : Nat))] ∧ A = row b12 26 (cDD (⟨D.room, ⟨D.l.a, q, D.l.c⟩⟩ : DD)) :: Ix px (((madeL (⟨#[33, 114, 58, 115, 49]⟩ : ByteArray) xs)).take q) KX slx :: Ix py (((madeL (⟨#[33, 114, 58, 115, 49]⟩ : ByteArray) xs)).take q) KY sly :: F) (9) (by exact ⟨0, by omega, rfl, rfl, rfl⟩) (by repeat (first | (with_reducible exact Fin.done (by repeat (first | (with_reducible exact Rest.here) | apply Rest.there))) | (apply Fin.cons (by first | ((repeat (first | (with_reducible exact F0 _) | apply F1)); done) | (repeat (first | exact F0 _ | apply F1)))))) ?_
          rintro n _ _ ⟨i, hi, rfl, rfl, hA_⟩ ih
          replace hA_ := hA_.symm; subst hA_
          refine Run.seq ?_
          refine Run.sr ?_
          refine RunL.mv rfl rfl ?_
          refine RunL.pure (Pure.lss rfl rfl) (Wt.none rfl) rfl rfl ?_
          refine RunL.nil ?_
          refine Run.cond rfl (fun c3 => ?_) (fun c3 => ?_)
          · try simp only [ZA, ZB, ZC, ZD, ZE, ZF, ZG, ZH, ZI, ZJ, ZK, ZL, ZM, ZN, ZO, ZP, ZQ, ZR] at c3
            refine Run.skip ?_
            refine Run.seq ?_
            refine Run.block ?_
            refine Run.sr ?_
            refine RunL.mv rfl rfl ?_
            refine RunL.call rfl rfl (by rfl) (by repeat (first | (with_reducible exact Take.nil _) | (apply Take.cons (by first | ((repeat (first | (with_reducible exact F0 _) | apply F1)); done) | (repeat (first | exact F0 _ | apply F1)))))) (EventOf_ctr (z := (i : Nat)) (by omega)) (Wt.none rfl) rfl ?_
            rintro _ _ ⟨rfl, hA_⟩
            replace hA_ := hA_.symm; subst hA_
            refine RunL.as rfl rfl ?_
            refine RunL.nil ?_
            refine Run.sr ?_
            first | refine RunL.loadA (vs := (cDD ((⟨D.room, ⟨D.l.a, q, D.l.c⟩⟩ : DD)))) rfl (by first | ((repeat (first | (with_reducible exact F0 _) | apply F1)); done) | (repeat (first | exact F0 _ | apply F1))) agg26 sz26 (by first | exact Nat.le_of_ble_eq_true rfl | (simp; done) | (simp; omega)) rfl (Wt.none rfl) rfl ?_ | refine RunL.loadNR (vs := (cDD ((⟨D.room, ⟨D.l.a, q, D.l.c⟩⟩ : DD)))) rfl (by assumption) agg26 sz26 (by first | exact Nat.le_of_ble_eq_true rfl | (simp; done) | (simp; omega)) rfl (Wt.none rfl) rfl ?_
            refine RunL.mv rfl rfl ?_
            refine RunL.call rfl rfl (by rfl) (by repeat (first | (with_reducible exact Take.nil _) | (apply Take.cons (by first | ((repeat (first | (with_reducible exact F0 _) | apply F1)); done) | (repeat (first | exact F0 _ | apply F1)))))) (rdWhich_ctr (how := 0) (a := (eventOf (i : Nat))) (b := (⟨#[]⟩ : ByteArray)) hdf hmq (by rw [List.length_take]; omega)) (Wt.none rfl) rfl ?_
            rintro _ _ ⟨r1, d1, rfl, hA_⟩
            replace hA_ := hA_.symm; subst hA_
            rw [whichM_0]
            refine RunL.as rfl rfl ?_
            refine RunL.nil ?_
            refine Run.sr ?_
            refine RunL.mv rfl rfl ?_
            refine RunL.mv rfl rfl ?_
            refine RunL.call rfl rfl (by rfl) (by repeat (first | (with_reducible exact Take.nil _) | (apply Take.cons (by first | ((repeat (first | (with_reducible exact F0 _) | apply F1)); done) | (repeat (first | exact F0 _ | apply F1)))))) (Ancestors_ctr hx) (Wt.none rfl) rfl ?_
            rintro _ _ ⟨a1, c1, rfl, hA_⟩
            replace hA_ := hA_.symm; subst hA_
            refine RunL.mv rfl rfl ?_
            refine RunL.call rfl rfl (by rfl) (by repeat (first | (with_reducible exact Take.nil _) | (apply Take.cons (by first | ((repeat (first | (with_reducible exact F0 _) | apply F1)); done) | (repeat (first | exact F0 _ | apply F1)))))) ((Ctr.lend2 (Q1 := Sl 9 1 a1 ((whichL (((madeL (⟨#[33, 114, 58, 115, 49]⟩ : ByteArray) xs)).take q) (ancOf (((madeL (⟨#[33, 114, 58, 115, 49]⟩ : ByteArray) xs)).take q) (eventOf (i : Nat))))).length c1 (((whichL (((madeL (⟨#[33, 114, 58, 115, 49]⟩ : ByteArray) xs)).take q) (ancOf (((madeL (⟨#[33, 114, 58, 115, 49]⟩ : ByteArray) xs)).take q) (eventOf (i : Nat))))).map Value.string)) (Q2 := Sl 9 1 r1 ((whichL (((madeL (⟨#[33, 114, 58, 115, 49]⟩ : ByteArray) xs)).take q) (ancOf (((madeL (⟨#[33, 114, 58, 115, 49]⟩ : ByteArray) xs)).take q) (eventOf (i : Nat))))).length d1 (((whichL (((madeL (⟨#[33, 114, 58, 115, 49]⟩ : ByteArray) xs)).take q) (ancOf (((madeL (⟨#[33, 114, 58, 115, 49]⟩ : ByteArray) xs)).take q) (eventOf (i : Nat))))).map Value.string)) (R1 := fun G => SlR G 9 1 _ _ _ ∧ _ ≤ _) (R2 := fun G => SlR G 9 1 _ _ _ ∧ _ ≤ _) Lends.Sl Lends.Sl cb23 (fun G G' h q => ⟨q.1.mono h, q.2⟩) (fun G' hle hr hr2 => TextsR_ctr hr.1 hr2.1 (by have := whichL_len (((madeL (⟨#[33, 114, 58, 115, 49]⟩ : ByteArray) xs)).take q) (ancOf (((madeL (⟨#[33, 114, 58, 115, 49]⟩ : ByteArray) xs)).take q) (eventOf (i : Nat))); rw [List.length_take] at this; omega)))) (Wt.none rfl) rfl ?_
            rintro _ _ ⟨_, rfl, rfl, hA_⟩
            replace hA_ := hA_.symm; subst hA_
            refine RunL.pure (Pure.not rfl) (Wt.none rfl) rfl rfl ?_
            refine RunL.mv rfl rfl ?_
            refine RunL.split (d := 90) rfl (fun hg1 => ?_) (fun hg1 => ?_)
            · try simp only [ZA, ZB, ZC, ZD, ZE, ZF, ZG, ZH, ZI, ZJ, ZK, ZL, ZM, ZN, ZO, ZP, ZQ, ZR] at hg1
              exfalso
              first | exact hg1 rfl | exact hg1 trivial | (simp at hg1; done)
            try simp only [ZA, ZB, ZC, ZD, ZE, ZF, ZG, ZH, ZI, ZJ, ZK, ZL, ZM, ZN, ZO, ZP, ZQ, ZR] at hg1
            refine RunL.pure (Pure.move rfl) (Wt.yes rfl rfl rfl) rfl rfl ?_
            refine RunL.pure (Pure.move rfl) (Wt.yes rfl rfl rfl) rfl rfl ?_
            refine RunL.call rfl rfl (by rfl) (by repeat (first | (with_reducible exact Take.nil _) | (apply Take.cons (by first | ((repeat (first | (with_reducible exact F0 _) | apply F1)); done) | (repeat (first | exact F0 _ | apply F1)))))) (Ancestors_ctr hy2) (Wt.yes rfl rfl rfl) rfl ?_
            rintro _ _ ⟨a2, c2, rfl, hA_⟩
            replace hA_ := hA_.symm; subst hA_
            refine RunL.pure (Pure.move rfl) (Wt.yes rfl rfl rfl) rfl rfl ?_
            refine RunL.call rfl rfl (by rfl) (by repeat (first | (with_reducible exact Take.nil _) | (apply Take.cons (by first | ((repeat (first | (with_reducible exact F0 _) | apply F1)); done) | (repeat (first | exact F0 _ | apply F1)))))) ((Ctr.lend2 (Q1 := Sl 9 1 a2 ((whichL (((madeL (⟨#[33, 114, 58, 115, 49]⟩ : ByteArray) xs)).take q) (ancOf (((madeL (⟨#[33, 114, 58, 115, 49]⟩ : ByteArray) xs)).take q) (eventOf (i : Nat))))).length c2 (((whichL (((madeL (⟨#[33, 114, 58, 115, 49]⟩ : ByteArray) xs)).take q) (ancOf (((madeL (⟨#[33, 114, 58, 115, 49]⟩ : ByteArray) xs)).take q) (eventOf (i : Nat))))).map Value.string)) (Q2 := Sl 9 1 r1 ((whichL (((madeL (⟨#[33, 114, 58, 115, 49]⟩ : ByteArray) xs)).take q) (ancOf (((madeL (⟨#[33, 114, 58, 115, 49]⟩ : ByteArray) xs)).take q) (eventOf (i : Nat))))).length d1 (((whichL (((madeL (⟨#[33, 114, 58, 115, 49]⟩ : ByteArray) xs)).take q) (ancOf (((madeL (⟨#[33, 114, 58, 115, 49]⟩ : ByteArray) xs)).take q) (eventOf (i : Nat))))).map Value.string)) (R1 := fun G => SlR G 9 1 _ _ _ ∧ _ ≤ _) (R2 := fun G => SlR G 9 1 _ _ _ ∧ _ ≤ _) Lends.Sl Lends.Sl cb23 (fun G G' h q => ⟨q.1.mono h, q.2⟩) (fun G' hle hr hr2 => TextsR_ctr hr.1 hr2.1 (by have := whichL_len (((madeL (⟨#[33, 114, 58, 115, 49]⟩ : ByteArray) xs)).take q) (ancOf (((madeL (⟨#[33, 114, 58, 115, 49]⟩ : ByteArray) xs)).take q) (eventOf (i : Nat))); rw [List.length_take] at this; omega)))) (Wt.yes rfl rfl rfl) rfl ?_
            rintro _ _ ⟨_, rfl, rfl, hA_⟩
            replace hA_ := hA_.symm; subst hA_
            refine RunL.pure (Pure.not rfl) (Wt.yes rfl rfl rfl) rfl rfl ?_
            refine RunL.pure (Pure.pickF rfl rfl) (Wt.none rfl) rfl rfl ?_
            refine RunL.nil ?_
            refine Run.cond rfl (fun hc2 => ?_) (fun hc2 => ?_)
            · try simp only [ZA, ZB, ZC, ZD, ZE, ZF, ZG, ZH, ZI, ZJ, ZK, ZL, ZM, ZN, ZO, ZP, ZQ, ZR] at hc2
              exfalso
              first | exact hc2 rfl | exact hc2 trivial | (simp at hc2; done)
            try simp only [ZA, ZB, ZC, ZD, ZE, ZF, ZG, ZH, ZI, ZJ, ZK, ZL, ZM, ZN, ZO, ZP, ZQ, ZR] at hc2
            refine Run.skip ?_
            refine Run.inBlock ?_
            refine Run.region ?_
            refine RunL.mv rfl rfl ?_
            first | refine RunL.pure (Pure.addI rfl rfl (by omega)) (Wt.none rfl) rfl rfl ?_ | refine RunL.pure (Pure.add rfl rfl) (Wt.none rfl) rfl rfl ?_
            refine RunL.as rfl rfl ?_
            refine RunL.nil ?_
            refine Run.keep (.cons rfl (.cons rfl (.cons rfl (.cons rfl (.cons rfl (.nil))))) : Keep _ [7, 9, 10, 12, 13] _) ?_
            refine Run.againF (F := F) ih (by exact ⟨i + 1, by omega, rfl, rfl, rfl⟩) (by repeat (first | (with_reducible exact Fin.done (by repeat (first | (with_reducible exact Rest.here) | apply Rest.there))) | (apply Fin.cons (by first | ((repeat (first | (with_reducible exact F0 _) | apply F1)); done) | (repeat (first | exact F0 _ | apply F1)))))) ?_
            omega
          · try simp only [ZA, ZB, ZC, ZD, ZE, ZF, ZG, ZH, ZI, ZJ, ZK, ZL, ZM, ZN, ZO, ZP, ZQ, ZR] at c3
            refine Run.exit rfl ?_
            refine Run.sr ?_
            refine RunL.mv rfl rfl ?_
            refine RunL.call rfl rfl (by rfl) (by repeat (first | (with_reducible exact Take.nil _) | (apply Take.cons (by first | ((repeat (first | (with_reducible exact F0 _) | apply F1)); done) | (repeat (first | exact F0 _ | apply F1)))))) (LenX_ctr hx) (Wt.none rfl) rfl ?_
            rintro _ _ ⟨rfl, hA_⟩
            replace hA_ := hA_.symm; subst hA_
            rw [hlq]
            refine RunL.mv rfl rfl ?_
            refine RunL.pure (Pure.eql rfl rfl) (Wt.none rfl) rfl rfl ?_
            refine RunL.mv rfl rfl ?_
            refine RunL.split (d := 102) rfl (fun hg3 => ?_) (fun hg3 => ?_)
            rotate_left
            · try simp only [ZA, ZB, ZC, ZD, ZE, ZF, ZG, ZH, ZI, ZJ, ZK, ZL, ZM, ZN, ZO, ZP, ZQ, ZR] at hg3
              exfalso
              first | exact hg3 trivial | exact hg3 rfl | omega
            try simp only [ZA, ZB, ZC, ZD, ZE, ZF, ZG, ZH, ZI, ZJ, ZK, ZL, ZM, ZN, ZO, ZP, ZQ, ZR] at hg3
            refine RunL.pure (Pure.move rfl) (Wt.yes rfl rfl rfl) rfl rfl ?_
            refine RunL.call rfl rfl (by rfl) (by repeat (first | (with_reducible exact Take.nil _) | (apply Take.cons (by first | ((repeat (first | (with_reducible exact F0 _) | apply F1)); done) | (repeat (first | exact F0 _ | apply F1)))))) (LenX_ctr hy2) (Wt.yes rfl rfl rfl) rfl ?_
            rintro _ _ ⟨rfl, hA_⟩
            replace hA_ := hA_.symm; subst hA_
            rw [hlq]
            refine RunL.pure (Pure.move rfl) (Wt.yes rfl rfl rfl) rfl rfl ?_
            refine RunL.pure (Pure.eql rfl rfl) (Wt.yes rfl rfl rfl) rfl rfl ?_
            refine RunL.pure (Pure.pickT rfl rfl) (Wt.none rfl) rfl rfl ?_
            refine RunL.mv rfl rfl ?_
            refine RunL.split (d := 108) rfl (fun hg4 => ?_) (fun hg4 => ?_)
            rotate_left
            · try simp only [ZA, ZB, ZC, ZD, ZE, ZF, ZG, ZH, ZI, ZJ, ZK, ZL, ZM, ZN, ZO, ZP, ZQ, ZR] at hg4
              exfalso
              first | exact hg4 trivial | exact hg4 rfl | omega
            try simp only [ZA, ZB, ZC, ZD, ZE, ZF, ZG, ZH, ZI, ZJ, ZK, ZL, ZM, ZN, ZO, ZP, ZQ, ZR] at hg4
            refine RunL.call rfl rfl (by rfl) (by repeat (first | (with_reducible exact Take.nil _) | (apply Take.cons (by first | ((repeat (first | (with_reducible exact F0 _) | apply F1)); done) | (repeat (first | exact F0 _ | apply F1)))))) (lives_ctr) (Wt.yes rfl rfl rfl) rfl ?_
            rintro _ _ ⟨rfl, hA_⟩
            replace hA_ := hA_.symm; subst hA_
            refine RunL.pure (Pure.pickT rfl rfl) (Wt.none rfl) rfl rfl ?_
            refine RunL.as rfl rfl ?_
            refine RunL.nil ?_
            exact Run.ret Tryz.func5 (res1 rfl rfl) (by exact ⟨rfl, rfl⟩) (by repeat (first | (with_reducible exact Fin.done (by repeat (first | (with_reducible exact Rest.here) | apply Rest.there))) | (apply Fin.cons (by first | ((repeat (first | (with_reducible exact F0 _) | apply F1)); done) | (repeat (first | exact F0 _ | apply F1))))))

end Go.Proofs.YtcmkafellcfbeaaGreat
