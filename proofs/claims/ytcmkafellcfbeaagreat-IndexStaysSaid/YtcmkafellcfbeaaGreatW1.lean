/- Dags that are built. -/
import Derived.Test.YtcmkafellcfbeaaGreatW0
set_option linter.unusedVariables false
set_option linter.unusedSimpArgs false
set_option linter.unusedSectionVars false
namespace Go.Proofs.YtcmkafellcfbeaaGreat
open Go Csl
theorem und23 : Tryz.prog.underlying 23 = some (Go.TypeDesc.pointer 85) := Tryz.underlying23
theorem cb21 : Callable Tryz.prog 21 := ⟨_, Tryz.func21, by kernel_rfl, by kernel_rfl⟩
theorem cb9 : Callable Tryz.prog 9 := ⟨_, Tryz.func9, by kernel_rfl, by kernel_rfl⟩
theorem cb23 : Callable Tryz.prog 23 := ⟨_, Tryz.func23, by kernel_rfl, by kernel_rfl⟩
theorem und29 : Tryz.prog.underlying 29 = some (Go.TypeDesc.pointer 73) := Tryz.underlying29
theorem und4 : Tryz.prog.underlying 4 = some Go.TypeDesc.bool := Tryz.underlying4
theorem cb27 : Callable Tryz.prog 27 := ⟨_, Tryz.func27, by kernel_rfl, by kernel_rfl⟩

set_option maxHeartbeats 8000000 in
set_option maxRecDepth 100000 in
theorem bld_ctr {G : Gp} {ag : Option Addr} {cg : Nat} {xs : List GX} (hgsx : SlR G 79 4 ag xs.length (xs.flatMap cGX)) (hgx : GXok G xs) :
    Ctr Tryz.prog G 8 [.slice ag xs.length cg] [] (fun F v A => ∃ (pd : Nat) (K : Hp) (D : DD), HasD (gk K) D (⟨#[33, 114, 58, 115, 49]⟩ : ByteArray) (madeL (⟨#[33, 114, 58, 115, 49]⟩ : ByteArray) xs) ∧ v = .tuple #[.pointer (some ⟨pd, 0, none⟩), .agg (cDD D).toArray] ∧ A = Dg pd (⟨#[33, 114, 58, 115, 49]⟩ : ByteArray) (madeL (⟨#[33, 114, 58, 115, 49]⟩ : ByteArray) xs) :: Pool K :: F) := by
  refine Ctr.intro Tryz.func8 rfl (by kernel_rfl) rfl (fun F => ?_)
  simp only [List.nil_append]
  have hmg := madeL_good (room := (⟨#[33, 114, 58, 115, 49]⟩ : ByteArray)) (by decide +kernel) xs
  have hml := madeL_len (⟨#[33, 114, 58, 115, 49]⟩ : ByteArray) xs
  have hmf : ∀ v ∈ (madeL (⟨#[33, 114, 58, 115, 49]⟩ : ByteArray) xs), evWf v := madeL_wf (by decide) xs
  refine Run.sr ?_
  refine RunL.as rfl rfl ?_
  refine RunL.alloc zz26 (Wt.none rfl) rfl ?_; intro b3
  refine RunL.nil ?_
  refine Run.sr ?_
  refine RunL.mv rfl rfl ?_
  skip
  refine RunL.call rfl rfl (by rfl) (by repeat (first | (with_reducible exact Take.nil _) | (apply Take.cons (by first | ((repeat (first | (with_reducible exact F0 _) | apply F1)); done) | (repeat (first | exact F0 _ | apply F1)))))) (rdMade_ctr (room := (⟨#[33, 114, 58, 115, 49]⟩ : ByteArray)) (xs := xs) (by decide +kernel) (by decide) hgsx hgx) (Wt.none rfl) rfl ?_
  rintro _ _ ⟨K, D, hD, rfl, hA_⟩
  replace hA_ := hA_.symm; subst hA_
  refine RunL.alloc zz26 (Wt.none rfl) rfl ?_; intro b4
  refine RunL.storeW (xs := (cDD D)) rfl rfl (by first | ((repeat (first | (with_reducible exact F0 _) | apply F1)); done) | (repeat (first | exact F0 _ | apply F1))) sz26 (by rfl) (by rfl) (by rfl) (Wt.none rfl) ?_
  refine RunL.nil ?_
  refine Run.lendB (Q := Pool K) Lends.Pool (by first | ((repeat (first | (with_reducible exact F0 _) | apply F1)); done) | (repeat (first | exact F0 _ | apply F1))) (fun gp hlegp hK backgp => ?_)
  have hgsx_gp := hgsx.mono hlegp
  have hgx_gp := hgx.mono hlegp
  have hd := HasD.hp (G' := gp) hD hK
  obtain ⟨hroom, ys, hyl, hdn, hds, hdc, hdk⟩ := id hd
  have hyn := ES_len hyl
  have hml9 : ((madeL (⟨#[33, 114, 58, 115, 49]⟩ : ByteArray) xs)).length ≤ 9 := by omega
  refine Run.sr ?_
  refine RunL.pure (Pure.fieldAddr rfl fo26_0) (Wt.none rfl) rfl rfl ?_
  first | refine RunL.load1 rfl (by first | ((repeat (first | (with_reducible exact F0 _) | apply F1)); done) | (repeat (first | exact F0 _ | apply F1))) (by rfl) agg9 (Wt.none rfl) rfl ?_ | refine RunL.load1R rfl (by assumption) (by rfl) agg9 (Wt.none rfl) rfl ?_
  refine RunL.call rfl rfl (by rfl) (by repeat (first | (with_reducible exact Take.nil _) | (apply Take.cons (by first | ((repeat (first | (with_reducible exact F0 _) | apply F1)); done) | (repeat (first | exact F0 _ | apply F1)))))) (NewD_ctr) (Wt.none rfl) rfl ?_
  rintro _ _ ⟨pd, rfl, hA_⟩
  replace hA_ := hA_.symm; subst hA_
  rw [hroom]
  refine RunL.as rfl rfl ?_
  refine RunL.nil ?_
  refine Run.seq ?_
  refine Run.sr ?_
  refine RunL.mv rfl rfl ?_
  refine RunL.pure (Pure.ptrEqNil rfl rfl und23) (Wt.none rfl) rfl rfl ?_
  refine RunL.nil ?_
  refine Run.condF rfl ?_
  refine Run.skip ?_
  refine Run.seq ?_
  refine Run.sr ?_
  refine RunL.as rfl rfl ?_
  refine RunL.nil ?_
  refine Run.block ?_
  refine Run.keep (.cons rfl (.cons rfl (.cons rfl (.cons rfl (.nil)))) : Keep _ [3, 4, 5, 6] _) ?_
  refine Run.loopF (F := F) (fun n e_ A => ∃ (i : Nat), i ≤ ((madeL (⟨#[33, 114, 58, 115, 49]⟩ : ByteArray) xs)).length ∧ n = ((madeL (⟨#[33, 114, 58, 115, 49]⟩ : ByteArray) xs)).length - i ∧ e_ = [(3, .pointer (some ⟨b3, 0, none⟩)), (4, .pointer (some ⟨b4, 0, none⟩)), (5, .pointer (some ⟨pd, 0, none⟩)), (6, .int .i64 (i : Nat))] ∧ A = row b3 26 (cDD (⟨.empty, ⟨none, 0, 0⟩⟩ : DD)) :: row b4 26 (cDD D) :: Dg pd (⟨#[33, 114, 58, 115, 49]⟩ : ByteArray) (((madeL (⟨#[33, 114, 58, 115, 49]⟩ : ByteArray) xs)).take i) :: F) (((madeL (⟨#[33, 114, 58, 115, 49]⟩ : ByteArray) xs)).length) (by exact ⟨0, by omega, rfl, rfl, rfl⟩) (by repeat (first | (with_reducible exact Fin.done (by repeat (first | (with_reducible exact Rest.here) | apply Rest.there))) | (apply Fin.cons (by first | ((repeat (first | (with_reducible exact F0 _) | apply F1)); done) | (repeat (first | exact F0 _ | apply F1)))))) ?_
  rintro n _ _ ⟨i, hi, rfl, rfl, hA_⟩ ih
  replace hA_ := hA_.symm; subst hA_
  refine Run.seq ?_
  refine Run.sr ?_
  refine RunL.mv rfl rfl ?_
  refine RunL.pure (Pure.fieldAddr rfl fo26_1) (Wt.none rfl) rfl rfl ?_
  first | refine RunL.load1 rfl (by first | ((repeat (first | (with_reducible exact F0 _) | apply F1)); done) | (repeat (first | exact F0 _ | apply F1))) (by rfl) agg24 (Wt.none rfl) rfl ?_ | refine RunL.load1R rfl (by assumption) (by rfl) agg24 (Wt.none rfl) rfl ?_
  refine RunL.pure (Pure.lenSl rfl rfl und24) (Wt.none rfl) rfl rfl ?_
  refine RunL.pure (Pure.lss rfl rfl) (Wt.none rfl) rfl rfl ?_
  refine RunL.nil ?_
  refine Run.cond rfl (fun h1 => ?_) (fun h1 => ?_)
  · try simp only [ZA, ZB, ZC, ZD, ZE, ZF, ZG, ZH, ZI, ZJ, ZK, ZL, ZM, ZN, ZO, ZP, ZQ, ZR] at h1
    obtain ⟨v, hv⟩ := get_some (xs := (madeL (⟨#[33, 114, 58, 115, 49]⟩ : ByteArray) xs)) (i := i) (by omega)
    obtain ⟨s, hy⟩ := ES_get hyl hv
    have hvm := List.mem_of_getElem? hv
    have hym := List.mem_of_getElem? hy
    obtain ⟨be, Te, pree, poste, hpe, hroe⟩ := hds.open1 (show 0 < ys.length by omega)
    have hrc := hmg i v hv
    refine Run.skip ?_
    refine Run.seq ?_
    refine Run.block ?_
    refine Run.sr ?_
    refine RunL.mv rfl rfl ?_
    refine RunL.pure (Pure.fieldAddr rfl fo26_1) (Wt.none rfl) rfl rfl ?_
    first | refine RunL.load1 rfl (by first | ((repeat (first | (with_reducible exact F0 _) | apply F1)); done) | (repeat (first | exact F0 _ | apply F1))) (by rfl) agg24 (Wt.none rfl) rfl ?_ | refine RunL.load1R rfl (by assumption) (by rfl) agg24 (Wt.none rfl) rfl ?_
    refine RunL.mv rfl rfl ?_
    refine RunL.pure (Pure.indexAddr (opvSl rfl hpe) rfl und24 sz33 (by omega) (by omega)) (Wt.none rfl) rfl rfl ?_
    refine RunL.loadNR (vs := (cEvn ((v.evn s)))) rfl hroe agg33 sz33 (elemN_len (pre := pree) (post := poste) (f := cES) (sz := 6) (j := 0) (n := 6) (fun _ _ => rfl) hy (by decide)) ((elemN_at (pre := pree) (post := poste) (f := cES) (sz := 6) (j := 0) (n := 6) (fun _ _ => rfl) hy (by decide)).trans rfl) (Wt.none rfl) rfl ?_
    refine RunL.call rfl rfl (by rfl) (by repeat (first | (with_reducible exact Take.nil _) | (apply Take.cons (by first | ((repeat (first | (with_reducible exact F0 _) | apply F1)); done) | (repeat (first | exact F0 _ | apply F1)))))) (Add_ctr (e := v.evn s) (ps := v.ps) (hdk _ hym) (hmf v hvm) (by rw [List.length_take]; omega)) (Wt.none rfl) rfl ?_
    rintro _ _ ⟨rfl, hA_⟩
    replace hA_ := hA_.symm; subst hA_
    rw [ev_evn, hrc, addL_ok hrc, show ((madeL (⟨#[33, 114, 58, 115, 49]⟩ : ByteArray) xs)).take i ++ [v] = ((madeL (⟨#[33, 114, 58, 115, 49]⟩ : ByteArray) xs)).take (i + 1) from by rw [List.take_add_one, hv]; rfl]
    refine RunL.pure (Pure.neq rfl rfl) (Wt.none rfl) rfl rfl ?_
    refine RunL.nil ?_
    refine Run.cond rfl (fun hc1 => ?_) (fun hc1 => ?_)
    · try simp only [ZA, ZB, ZC, ZD, ZE, ZF, ZG, ZH, ZI, ZJ, ZK, ZL, ZM, ZN, ZO, ZP, ZQ, ZR] at hc1
      exfalso
      first | exact hc1 rfl | (simp at hc1; done)
    try simp only [ZA, ZB, ZC, ZD, ZE, ZF, ZG, ZH, ZI, ZJ, ZK, ZL, ZM, ZN, ZO, ZP, ZQ, ZR] at hc1
    refine Run.skip ?_
    refine Run.inBlock ?_
    refine Run.region ?_
    refine RunL.mv rfl rfl ?_
    first | refine RunL.pure (Pure.addI rfl rfl (by omega)) (Wt.none rfl) rfl rfl ?_ | refine RunL.pure (Pure.add rfl rfl) (Wt.none rfl) rfl rfl ?_
    refine RunL.as rfl rfl ?_
    refine RunL.nil ?_
    refine Run.keep (.cons rfl (.cons rfl (.cons rfl (.cons rfl (.nil)))) : Keep _ [3, 4, 5, 6] _) ?_
    refine Run.againF (F := F) ih (by exact ⟨i + 1, by omega, rfl, rfl, rfl⟩) (by repeat (first | (with_reducible exact Fin.done (by repeat (first | (with_reducible exact Rest.here) | apply Rest.there))) | (apply Fin.cons (by first | ((repeat (first | (with_reducible exact F0 _) | apply F1)); done) | (repeat (first | exact F0 _ | apply F1)))))) ?_
    omega
  · try simp only [ZA, ZB, ZC, ZD, ZE, ZF, ZG, ZH, ZI, ZJ, ZK, ZL, ZM, ZN, ZO, ZP, ZQ, ZR] at h1
    refine Run.exit rfl ?_
    refine Run.seq ?_
    refine Run.regionD' (by kernel_rfl) (by kernel_rfl) (fun hok95 => ?_)
    refine RunD.lend (Q := row b4 26 _) Lends.row (by first | ((repeat (first | (with_reducible exact F0 _) | apply F1)); done) | (repeat (first | exact F0 _ | apply F1))) ?_; intro gl1 hlegl1 hl1 backgl1
    have hgsx_gl1 := hgsx_gp.mono hlegl1
    have hgx_gl1 := hgx_gp.mono hlegl1
    have hd_gl1 := hd.mono hlegl1
    have hds_gl1 := hds.mono hlegl1
    have hdk_gl1 := hdk.mono hlegl1
    refine RunD.pure (i := 0) hok95 rfl (by kernel_rfl) (Pure.move rfl) (Wt.none rfl) rfl rfl ?_
    refine RunD.loadNR (vs := (cDD D)) (i := 1) hok95 rfl (by kernel_rfl) rfl (by assumption) agg26 sz26 (by first | exact Nat.le_of_ble_eq_true rfl | (simp; done) | (simp; omega)) rfl (Wt.none rfl) rfl ?_
    refine RunD.pure (i := 2) hok95 rfl (by kernel_rfl) (Pure.assign rfl) (Wt.none rfl) rfl rfl ?_
    refine RunD.one (i := 3) (by kernel_rfl) rfl ?_
    · skip
      refine RunL.storeW (xs := (cDD D)) rfl rfl (by first | ((repeat (first | (with_reducible exact F0 _) | apply F1)); done) | (repeat (first | exact F0 _ | apply F1))) sz26 (by rfl) (by rfl) (by rfl) (Wt.none rfl) ?_
      refine RunL.nilD' ?_
      refine RunD.nilB (by kernel_rfl) (fun w sw => backgl1 _ _ (sw)) ?_
      refine Run.backB backgp ?_
      rw [List.take_of_length_le (show ((madeL (⟨#[33, 114, 58, 115, 49]⟩ : ByteArray) xs)).length ≤ i by omega)]
      exact Run.ret Tryz.func8 (resV2 rfl (Rv.tmp rfl) (Rv.cellN (us := (cDD D)) rfl (by first | ((repeat (first | (with_reducible exact F0 _) | apply F1)); done) | (repeat (first | exact F0 _ | apply F1))) agg26 sz26 (by first | exact Nat.le_of_ble_eq_true rfl | (simp; done) | (simp; omega)) rfl)) (by exact ⟨pd, K, D, hD, rfl, rfl⟩) (by repeat (first | (with_reducible exact Fin.done (by repeat (first | (with_reducible exact Rest.here) | apply Rest.there))) | (apply Fin.cons (by first | ((repeat (first | (with_reducible exact F0 _) | apply F1)); done) | (repeat (first | exact F0 _ | apply F1))))))

set_option maxHeartbeats 8000000 in
set_option maxRecDepth 100000 in
theorem lives_ctr {G : Gp} :
    Ctr Tryz.prog G 11 [] [] (fun F v A => v = .bool true ∧ A = F) := by
  refine Ctr.intro Tryz.func11 rfl (by kernel_rfl) rfl (fun F => ?_)
  simp only [List.nil_append]
  refine Run.sr ?_
  refine RunL.as rfl rfl ?_
  refine RunL.nil ?_
  refine Run.sr ?_
  refine RunL.call rfl rfl (by rfl) (by repeat (first | (with_reducible exact Take.nil _) | (apply Take.cons (by first | ((repeat (first | (with_reducible exact F0 _) | apply F1)); done) | (repeat (first | exact F0 _ | apply F1)))))) (NewD_ctr) (Wt.none rfl) rfl ?_
  rintro _ _ ⟨pd, rfl, hA_⟩
  replace hA_ := hA_.symm; subst hA_
  refine RunL.as rfl rfl ?_
  refine RunL.nil ?_
  refine Run.seq ?_
  refine Run.sr ?_
  refine RunL.mv rfl rfl ?_
  refine RunL.pure (Pure.ptrEqNil rfl rfl und23) (Wt.none rfl) rfl rfl ?_
  refine RunL.nil ?_
  refine Run.condF rfl ?_
  refine Run.skip ?_
  refine Run.sr ?_
  refine RunL.mv rfl rfl ?_
  refine RunL.pure (Pure.buildL (ps := [(0, _), (1, _), (4, _)]) (zs := [(.string .empty), (.string .empty), (.slice none 0 0), (.string .empty), (.string .empty), (.int .i64 0)]) (xs := (cEvn ((lvA.evn (⟨none, 0, 0⟩ : Sli))))) pl33 rfl rfl rfl rfl) (Wt.none rfl) rfl rfl ?_
  refine RunL.call rfl rfl (by rfl) (by repeat (first | (with_reducible exact Take.nil _) | (apply Take.cons (by first | ((repeat (first | (with_reducible exact F0 _) | apply F1)); done) | (repeat (first | exact F0 _ | apply F1)))))) (Add_ctr (e := lvA.evn (⟨none, 0, 0⟩ : Sli)) (ps := lvA.ps) ⟨rfl, .inl ⟨rfl, rfl⟩⟩ (lv_wf lvA (by simp)) (by decide)) (Wt.none rfl) rfl ?_
  rintro _ _ ⟨rfl, hA_⟩
  replace hA_ := hA_.symm; subst hA_
  rw [ev_evn, addL_ok lv_0]; try simp only [List.cons_append, List.nil_append]
  refine RunL.nil ?_
  refine Run.sr ?_
  refine RunL.mv rfl rfl ?_
  refine RunL.lit (vals := [_]) (vs := [_]) und31 sz9 zz9 rfl rfl rfl rfl rfl rfl (by simp [Value.cells, bv, cDD, cEvn, cGG, cNde, cPos]) rfl (Wt.none rfl) rfl ?_; intro b10
  refine RunL.pure (Pure.buildL (ps := [(0, _), (1, _), (4, _), (2, _)]) (zs := [(.string .empty), (.string .empty), (.slice none 0 0), (.string .empty), (.string .empty), (.int .i64 0)]) (xs := (cEvn ((lvB.evn (⟨some ⟨b10, 0, none⟩, 1, 1⟩ : Sli))))) pl33 rfl rfl rfl rfl) (Wt.none rfl) rfl rfl ?_
  refine RunL.call rfl rfl (by rfl) (by repeat (first | (with_reducible exact Take.nil _) | (apply Take.cons (by first | ((repeat (first | (with_reducible exact F0 _) | apply F1)); done) | (repeat (first | exact F0 _ | apply F1)))))) (Ctr.lend (Q := Sl 9 1 (some ⟨b10, 0, none⟩) 1 1 [.string ⟨#[36, 97]⟩]) (R := fun G => SlR G 9 1 _ _ _ ∧ _ ≤ _) Lends.Sl cb21 (fun G' hle hr => Add_ctr (e := lvB.evn (⟨some ⟨b10, 0, none⟩, 1, 1⟩ : Sli)) (ps := lvB.ps) ⟨rfl, hr.1⟩ (lv_wf lvB (by simp)) (by decide))) (Wt.none rfl) rfl ?_
  rintro _ _ ⟨_, rfl, rfl, hA_⟩
  replace hA_ := hA_.symm; subst hA_
  rw [ev_evn, addL_ok lv_1]; try simp only [List.cons_append, List.nil_append]
  refine RunL.nil ?_
  refine Run.sr ?_
  refine RunL.mv rfl rfl ?_
  refine RunL.lit (vals := [_]) (vs := [_]) und31 sz9 zz9 rfl rfl rfl rfl rfl rfl (by simp [Value.cells, bv, cDD, cEvn, cGG, cNde, cPos]) rfl (Wt.none rfl) rfl ?_; intro b14
  refine RunL.pure (Pure.buildL (ps := [(0, _), (1, _), (4, _), (2, _)]) (zs := [(.string .empty), (.string .empty), (.slice none 0 0), (.string .empty), (.string .empty), (.int .i64 0)]) (xs := (cEvn ((lvC.evn (⟨some ⟨b14, 0, none⟩, 1, 1⟩ : Sli))))) pl33 rfl rfl rfl rfl) (Wt.none rfl) rfl rfl ?_
  refine RunL.call rfl rfl (by rfl) (by repeat (first | (with_reducible exact Take.nil _) | (apply Take.cons (by first | ((repeat (first | (with_reducible exact F0 _) | apply F1)); done) | (repeat (first | exact F0 _ | apply F1)))))) (Ctr.lend (Q := Sl 9 1 (some ⟨b14, 0, none⟩) 1 1 [.string ⟨#[36, 97]⟩]) (R := fun G => SlR G 9 1 _ _ _ ∧ _ ≤ _) Lends.Sl cb21 (fun G' hle hr => Add_ctr (e := lvC.evn (⟨some ⟨b14, 0, none⟩, 1, 1⟩ : Sli)) (ps := lvC.ps) ⟨rfl, hr.1⟩ (lv_wf lvC (by simp)) (by decide))) (Wt.none rfl) rfl ?_
  rintro _ _ ⟨_, rfl, rfl, hA_⟩
  replace hA_ := hA_.symm; subst hA_
  rw [ev_evn, addL_ok lv_2]; try simp only [List.cons_append, List.nil_append]
  refine RunL.nil ?_
  refine Run.sr ?_
  refine RunL.mv rfl rfl ?_
  refine RunL.call rfl rfl (by rfl) (by repeat (first | (with_reducible exact Take.nil _) | (apply Take.cons (by first | ((repeat (first | (with_reducible exact F0 _) | apply F1)); done) | (repeat (first | exact F0 _ | apply F1)))))) (Ctr.lend Lends.Dg cb9 (fun G' hle hr => Of_ctr hr (by decide))) (Wt.none rfl) rfl ?_
  rintro _ _ ⟨_, rfl, p, K, sl, ys, hx, rfl, hA_⟩
  replace hA_ := hA_.symm; subst hA_
  refine RunL.as rfl rfl ?_
  refine RunL.nil ?_
  refine Run.seq ?_
  refine Run.sr ?_
  refine RunL.mv rfl rfl ?_
  refine RunL.pure (Pure.ptrEqNil rfl rfl und29) (Wt.none rfl) rfl rfl ?_
  refine RunL.nil ?_
  refine Run.condF rfl ?_
  refine Run.skip ?_
  refine Run.sr ?_
  refine RunL.mv rfl rfl ?_
  refine RunL.call rfl rfl (by rfl) (by repeat (first | (with_reducible exact Take.nil _) | (apply Take.cons (by first | ((repeat (first | (with_reducible exact F0 _) | apply F1)); done) | (repeat (first | exact F0 _ | apply F1)))))) (Ahead_ctr hx) (Wt.none rfl) rfl ?_
  rintro _ _ ⟨rfl, hA_⟩
  replace hA_ := hA_.symm; subst hA_
  rw [lv_anc]
  refine RunL.mv rfl rfl ?_
  refine RunL.split (d := 23) rfl (fun hg1 => ?_) (fun hg1 => ?_)
  rotate_left
  · try simp only [ZA, ZB, ZC, ZD, ZE, ZF, ZG, ZH, ZI, ZJ, ZK, ZL, ZM, ZN, ZO, ZP, ZQ, ZR] at hg1
    exfalso
    first | exact hg1 rfl | exact hg1 trivial | (simp at hg1; done)
  try simp only [ZA, ZB, ZC, ZD, ZE, ZF, ZG, ZH, ZI, ZJ, ZK, ZL, ZM, ZN, ZO, ZP, ZQ, ZR] at hg1
  refine RunL.pure (Pure.move rfl) (Wt.yes rfl rfl rfl) rfl rfl ?_
  refine RunL.call rfl rfl (by rfl) (by repeat (first | (with_reducible exact Take.nil _) | (apply Take.cons (by first | ((repeat (first | (with_reducible exact F0 _) | apply F1)); done) | (repeat (first | exact F0 _ | apply F1)))))) (Apart_ctr hx) (Wt.yes rfl rfl rfl) rfl ?_
  rintro _ _ ⟨rfl, hA_⟩
  replace hA_ := hA_.symm; subst hA_
  rw [lv_apart]
  refine RunL.pure (Pure.pickT rfl rfl) (Wt.none rfl) rfl rfl ?_
  refine RunL.mv rfl rfl ?_
  refine RunL.split (d := 27) rfl (fun hg2 => ?_) (fun hg2 => ?_)
  rotate_left
  · try simp only [ZA, ZB, ZC, ZD, ZE, ZF, ZG, ZH, ZI, ZJ, ZK, ZL, ZM, ZN, ZO, ZP, ZQ, ZR] at hg2
    exfalso
    first | exact hg2 rfl | exact hg2 trivial | (simp at hg2; done)
  try simp only [ZA, ZB, ZC, ZD, ZE, ZF, ZG, ZH, ZI, ZJ, ZK, ZL, ZM, ZN, ZO, ZP, ZQ, ZR] at hg2
  refine RunL.pure (Pure.move rfl) (Wt.yes rfl rfl rfl) rfl rfl ?_
  refine RunL.call rfl rfl (by rfl) (by repeat (first | (with_reducible exact Take.nil _) | (apply Take.cons (by first | ((repeat (first | (with_reducible exact F0 _) | apply F1)); done) | (repeat (first | exact F0 _ | apply F1)))))) (Common_ctr hx) (Wt.yes rfl rfl rfl) rfl ?_
  rintro _ _ ⟨ac, cc, rfl, hA_⟩
  replace hA_ := hA_.symm; subst hA_
  rw [lv_which]
  refine RunL.lit (vals := [_]) (vs := [_]) und31 sz9 zz9 rfl rfl rfl rfl rfl rfl (by simp [Value.cells, bv, cDD, cEvn, cGG, cNde, cPos]) rfl (Wt.yes rfl rfl rfl) rfl ?_; intro b30
  refine RunL.call rfl rfl (by rfl) (by repeat (first | (with_reducible exact Take.nil _) | (apply Take.cons (by first | ((repeat (first | (with_reducible exact F0 _) | apply F1)); done) | (repeat (first | exact F0 _ | apply F1)))))) ((Ctr.lend2 (Q1 := Sl 9 1 ac ([(⟨#[36, 97]⟩ : ByteArray)]).length cc (([(⟨#[36, 97]⟩ : ByteArray)]).map Value.string)) (Q2 := Sl 9 1 (some ⟨b30, 0, none⟩) ([(⟨#[36, 97]⟩ : ByteArray)]).length 1 (([(⟨#[36, 97]⟩ : ByteArray)]).map Value.string)) (R1 := fun G => SlR G 9 1 _ _ _ ∧ _ ≤ _) (R2 := fun G => SlR G 9 1 _ _ _ ∧ _ ≤ _) Lends.Sl Lends.Sl cb23 (fun G G' h q => ⟨q.1.mono h, q.2⟩) (fun G' hle hr hr2 => TextsR_ctr hr.1 hr2.1 (by decide)))) (Wt.yes rfl rfl rfl) rfl ?_
  rintro _ _ ⟨_, rfl, rfl, hA_⟩
  replace hA_ := hA_.symm; subst hA_
  refine RunL.pure (Pure.pickT rfl rfl) (Wt.none rfl) rfl rfl ?_
  refine RunL.as rfl rfl ?_
  refine RunL.nil ?_
  exact Run.ret Tryz.func11 (res1 rfl rfl) (by exact ⟨by simp, rfl⟩) (by repeat (first | (with_reducible exact Fin.done (by repeat (first | (with_reducible exact Rest.here) | apply Rest.there))) | (apply Fin.cons (by first | ((repeat (first | (with_reducible exact F0 _) | apply F1)); done) | (repeat (first | exact F0 _ | apply F1))))))

end Go.Proofs.YtcmkafellcfbeaaGreat
