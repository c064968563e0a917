/- Dags that are built. -/
import Derived.Test.YtghmmjifmnmbgaaL0
set_option linter.unusedVariables false
set_option linter.unusedSimpArgs false
set_option linter.unusedSectionVars false
namespace Go.Proofs.Ytghmmjifmnmbgaa
open Go Csl
theorem und36 : Try.prog.underlying 36 = some (Go.TypeDesc.pointer 74) := Try.underlying36
theorem cb51 : Callable Try.prog 51 := ⟨_, Try.func51, by kernel_rfl, by kernel_rfl⟩
theorem cb27 : Callable Try.prog 27 := ⟨_, Try.func27, by kernel_rfl, by kernel_rfl⟩
theorem cb16 : Callable Try.prog 16 := ⟨_, Try.func16, by kernel_rfl, by kernel_rfl⟩
theorem cb18 : Callable Try.prog 18 := ⟨_, Try.func18, by kernel_rfl, by kernel_rfl⟩
theorem cb19 : Callable Try.prog 19 := ⟨_, Try.func19, by kernel_rfl, by kernel_rfl⟩
theorem und4 : Try.prog.underlying 4 = some Go.TypeDesc.bool := Try.underlying4
theorem cb25 : Callable Try.prog 25 := ⟨_, Try.func25, by kernel_rfl, by kernel_rfl⟩
theorem cb28 : Callable Try.prog 28 := ⟨_, Try.func28, by kernel_rfl, by kernel_rfl⟩
theorem cb32 : Callable Try.prog 32 := ⟨_, Try.func32, by kernel_rfl, by kernel_rfl⟩
theorem cb29 : Callable Try.prog 29 := ⟨_, Try.func29, by kernel_rfl, by kernel_rfl⟩
theorem cb26 : Callable Try.prog 26 := ⟨_, Try.func26, by kernel_rfl, by kernel_rfl⟩
theorem cb23 : Callable Try.prog 23 := ⟨_, Try.func23, by kernel_rfl, by kernel_rfl⟩

set_option maxHeartbeats 8000000 in
set_option maxRecDepth 100000 in
theorem build_ctr {G : Gp} {D : DD} {room : ByteArray} {l : EL} (hd : HasD G D room l) (hg : Csl.Good room l) (hw : ∀ v ∈ l, evWf v) (hb : l.length ≤ 1000) :
    Ctr Try.prog G 18 [.agg (cDD D).toArray] [] (fun F v A => ∃ p, v = .pointer (some ⟨p, 0, none⟩) ∧ A = Dg p room l :: F) := by
  refine Ctr.intro Try.func18 rfl (by kernel_rfl) rfl (fun F => ?_)
  simp only [List.nil_append]
  obtain ⟨hroom, ys, hyl, hdn, hds, hdc, hdk⟩ := id hd
  have hyn := ES_len hyl
  refine Run.sr ?_
  refine RunL.boxA (xs := (cDD D)) rfl (Wt.none rfl) rfl ?_; intro b1
  refine RunL.as rfl rfl ?_
  refine RunL.nil ?_
  refine Run.lendAll (Q := row b1 30 _) Lends.row (by first | ((repeat (first | (with_reducible exact F0 _) | apply F1)); done) | (repeat (first | exact F0 _ | apply F1))) (fun G1 hleG1 hrb1 => ?_)
  replace hd := hd.mono hleG1
  replace hds := hds.mono hleG1
  replace hdk := hdk.mono hleG1
  refine Run.sr ?_
  refine RunL.pure (Pure.fieldAddr rfl fo30_0) (Wt.none rfl) rfl rfl ?_
  first | refine RunL.load1 rfl (by first | ((repeat (first | (with_reducible exact F0 _) | apply F1)); done) | (repeat (first | exact F0 _ | apply F1))) (by rfl) agg9 (Wt.none rfl) rfl ?_ | refine RunL.load1R rfl (by assumption) (by rfl) agg9 (Wt.none rfl) rfl ?_
  refine RunL.call rfl rfl (by rfl) (by repeat (first | (with_reducible exact Take.nil _) | (apply Take.cons (by first | ((repeat (first | (with_reducible exact F0 _) | apply F1)); done) | (repeat (first | exact F0 _ | apply F1)))))) (NewD_ctr) (Wt.none rfl) rfl ?_
  rintro _ _ ⟨p, rfl, hA_⟩
  replace hA_ := hA_.symm; subst hA_
  rw [hroom]
  refine RunL.as rfl rfl ?_
  refine RunL.nil ?_
  refine Run.seq ?_
  refine Run.sr ?_
  refine RunL.mv rfl rfl ?_
  refine RunL.pure (Pure.ptrEqNil rfl rfl und36) (Wt.none rfl) rfl rfl ?_
  refine RunL.nil ?_
  refine Run.condF rfl ?_
  refine Run.skip ?_
  refine Run.seq ?_
  refine Run.sr ?_
  refine RunL.as rfl rfl ?_
  refine RunL.nil ?_
  refine Run.block ?_
  refine Run.keep (.cons rfl (.cons rfl (.cons rfl (.nil))) : Keep _ [1, 3, 4] _) ?_
  refine Run.loopF (F := F) (fun n e_ A => ∃ (i : Nat), i ≤ l.length ∧ n = l.length - i ∧ e_ = [(1, .pointer (some ⟨b1, 0, none⟩)), (3, .pointer (some ⟨p, 0, none⟩)), (4, .int .i64 (i : Nat))] ∧ A = Dg p room (l.take i) :: F) (l.length) (by exact ⟨0, by omega, rfl, rfl, rfl⟩) (by repeat (first | (with_reducible exact Fin.done (by repeat (first | (with_reducible exact Rest.here) | apply Rest.there))) | (apply Fin.cons (by first | ((repeat (first | (with_reducible exact F0 _) | apply F1)); done) | (repeat (first | exact F0 _ | apply F1)))))) ?_
  rintro n _ _ ⟨i, hi, rfl, rfl, hA_⟩ ih
  replace hA_ := hA_.symm; subst hA_
  refine Run.seq ?_
  refine Run.sr ?_
  refine RunL.mv rfl rfl ?_
  refine RunL.pure (Pure.fieldAddr rfl fo30_1) (Wt.none rfl) rfl rfl ?_
  first | refine RunL.load1 rfl (by first | ((repeat (first | (with_reducible exact F0 _) | apply F1)); done) | (repeat (first | exact F0 _ | apply F1))) (by rfl) agg28 (Wt.none rfl) rfl ?_ | refine RunL.load1R rfl (by assumption) (by rfl) agg28 (Wt.none rfl) rfl ?_
  refine RunL.pure (Pure.lenSl rfl rfl und28) (Wt.none rfl) rfl rfl ?_
  refine RunL.pure (Pure.lss rfl rfl) (Wt.none rfl) rfl rfl ?_
  refine RunL.nil ?_
  refine Run.cond rfl (fun h1 => ?_) (fun h1 => ?_)
  · try simp only [ZA, ZB, ZC, ZD, ZE, ZF, ZG, ZH, ZI, ZJ, ZK, ZL, ZM, ZN, ZO, ZP, ZQ, ZR] at h1
    obtain ⟨v, hv⟩ := get_some (xs := l) (i := i) (by omega)
    obtain ⟨s, hy⟩ := ES_get hyl hv
    have hvm := List.mem_of_getElem? hv
    have hym := List.mem_of_getElem? hy
    obtain ⟨be, Te, pree, poste, hpe, hroe⟩ := hds.open1 (show 0 < ys.length by omega)
    have hrc := hg i v hv
    refine Run.skip ?_
    refine Run.seq ?_
    refine Run.block ?_
    refine Run.sr ?_
    refine RunL.mv rfl rfl ?_
    refine RunL.pure (Pure.fieldAddr rfl fo30_1) (Wt.none rfl) rfl rfl ?_
    first | refine RunL.load1 rfl (by first | ((repeat (first | (with_reducible exact F0 _) | apply F1)); done) | (repeat (first | exact F0 _ | apply F1))) (by rfl) agg28 (Wt.none rfl) rfl ?_ | refine RunL.load1R rfl (by assumption) (by rfl) agg28 (Wt.none rfl) rfl ?_
    refine RunL.mv rfl rfl ?_
    refine RunL.pure (Pure.indexAddr (opvSl rfl hpe) rfl und28 sz24 (by omega) (by omega)) (Wt.none rfl) rfl rfl ?_
    refine RunL.loadNR (vs := (cEvn ((v.evn s)))) rfl hroe agg24 sz24 (elemN_len (pre := pree) (post := poste) (f := cES) (sz := 6) (j := 0) (n := 6) (fun _ _ => rfl) hy (by decide)) ((elemN_at (pre := pree) (post := poste) (f := cES) (sz := 6) (j := 0) (n := 6) (fun _ _ => rfl) hy (by decide)).trans rfl) (Wt.none rfl) rfl ?_
    refine RunL.call rfl rfl (by rfl) (by repeat (first | (with_reducible exact Take.nil _) | (apply Take.cons (by first | ((repeat (first | (with_reducible exact F0 _) | apply F1)); done) | (repeat (first | exact F0 _ | apply F1)))))) (Add_ctr (e := v.evn s) (ps := v.ps) (hdk _ hym) (hw v hvm) (by rw [List.length_take]; omega)) (Wt.none rfl) rfl ?_
    rintro _ _ ⟨rfl, hA_⟩
    replace hA_ := hA_.symm; subst hA_
    rw [ev_evn, hrc, addL_ok hrc, show l.take i ++ [v] = l.take (i + 1) from by rw [List.take_add_one, hv]; rfl]
    refine RunL.pure (Pure.neq rfl rfl) (Wt.none rfl) rfl rfl ?_
    refine RunL.nil ?_
    refine Run.cond rfl (fun hc1 => ?_) (fun hc1 => ?_)
    · try simp only [ZA, ZB, ZC, ZD, ZE, ZF, ZG, ZH, ZI, ZJ, ZK, ZL, ZM, ZN, ZO, ZP, ZQ, ZR] at hc1
      exfalso
      simp at hc1
    try simp only [ZA, ZB, ZC, ZD, ZE, ZF, ZG, ZH, ZI, ZJ, ZK, ZL, ZM, ZN, ZO, ZP, ZQ, ZR] at hc1
    refine Run.skip ?_
    refine Run.inBlock ?_
    refine Run.region ?_
    refine RunL.mv rfl rfl ?_
    first | refine RunL.pure (Pure.addI rfl rfl (by omega)) (Wt.none rfl) rfl rfl ?_ | refine RunL.pure (Pure.add rfl rfl) (Wt.none rfl) rfl rfl ?_
    refine RunL.as rfl rfl ?_
    refine RunL.nil ?_
    refine Run.keep (.cons rfl (.cons rfl (.cons rfl (.nil))) : Keep _ [1, 3, 4] _) ?_
    refine Run.againF (F := F) ih (by exact ⟨i + 1, by omega, rfl, rfl, rfl⟩) (by repeat (first | (with_reducible exact Fin.done (by repeat (first | (with_reducible exact Rest.here) | apply Rest.there))) | (apply Fin.cons (by first | ((repeat (first | (with_reducible exact F0 _) | apply F1)); done) | (repeat (first | exact F0 _ | apply F1)))))) ?_
    omega
  · try simp only [ZA, ZB, ZC, ZD, ZE, ZF, ZG, ZH, ZI, ZJ, ZK, ZL, ZM, ZN, ZO, ZP, ZQ, ZR] at h1
    refine Run.exit rfl ?_
    refine Run.sr ?_
    refine RunL.mv rfl rfl ?_
    refine RunL.as rfl rfl ?_
    refine RunL.nil ?_
    rw [List.take_of_length_le (by omega)]
    exact Run.ret Try.func18 (res1 rfl rfl) (by exact ⟨p, rfl, rfl⟩) (by repeat (first | (with_reducible exact Fin.done (by repeat (first | (with_reducible exact Rest.here) | apply Rest.there))) | (apply Fin.cons (by first | ((repeat (first | (with_reducible exact F0 _) | apply F1)); done) | (repeat (first | exact F0 _ | apply F1))))))

set_option maxHeartbeats 8000000 in
set_option maxRecDepth 100000 in
theorem like_ctr {G : Gp} {p : Nat} {room : ByteArray} {k : EL} (h : DgR G p room k) {D : DD} {l : EL} (hd : HasD G D room l) (hg : Csl.Good room l) (hp : k.Perm l) (hb : l.length ≤ 1000) :
    Ctr Try.prog G 29 [.pointer (some ⟨p, 0, none⟩), .agg (cDD D).toArray] [] (fun F v A => v = .bool true ∧ A = F) := by
  refine Ctr.intro Try.func29 rfl (by kernel_rfl) rfl (fun F => ?_)
  simp only [List.nil_append]
  obtain ⟨hroom, ys, hyl, hdn, hds, hdc, hdk⟩ := id hd
  have hyn := ES_len hyl
  subst hroom
  have hk := h.good
  have hkl := hp.length_eq
  have hal := allOf_eq hk hg hp
  have hhe := headsOf_eq hk hg hp
  have hall := allOf_len l
  have hhl : (headsOf l).length ≤ 1000 := by unfold headsOf; rw [List.length_map]; exact Nat.le_trans (List.length_filter_le _ _) (by omega)
  refine Run.sr ?_
  refine RunL.boxA (xs := (cDD D)) rfl (Wt.none rfl) rfl ?_; intro b3
  refine RunL.as rfl rfl ?_
  refine RunL.nil ?_
  refine Run.lendAll (Q := row b3 30 _) Lends.row (by first | ((repeat (first | (with_reducible exact F0 _) | apply F1)); done) | (repeat (first | exact F0 _ | apply F1))) (fun G3 hleG3 hrb3 => ?_)
  replace h := h.mono hleG3
  replace hd := hd.mono hleG3
  replace hds := hds.mono hleG3
  replace hdk := hdk.mono hleG3
  refine Run.sr ?_
  refine RunL.mv rfl rfl ?_
  refine RunL.call rfl rfl (by rfl) (by repeat (first | (with_reducible exact Take.nil _) | (apply Take.cons (by first | ((repeat (first | (with_reducible exact F0 _) | apply F1)); done) | (repeat (first | exact F0 _ | apply F1)))))) (All_ctr h (by omega)) (Wt.none rfl) rfl ?_
  rintro _ _ ⟨az, cz, zs, hza, hzn, rfl, hA_⟩
  replace hA_ := hA_.symm; subst hA_
  refine RunL.as rfl rfl ?_
  refine RunL.nil ?_
  refine Run.lendAll (Q := Sl 24 6 az (zs).length cz ((zs).flatMap cES)) Lends.Sl (by first | ((repeat (first | (with_reducible exact F0 _) | apply F1)); done) | (repeat (first | exact F0 _ | apply F1))) (fun Ghz hleGhz hz => ?_)
  replace h := h.mono hleGhz
  replace hd := hd.mono hleGhz
  replace hds := hds.mono hleGhz
  replace hdk := hdk.mono hleGhz
  replace hrb3 := hrb3.mono hleGhz
  obtain ⟨hz, hzc⟩ := hz
  refine Run.lendAll (Q := Stars (zs.map slPs)) (Lends.slPs zs) (by first | ((repeat (first | (with_reducible exact F0 _) | apply F1)); done) | (repeat (first | exact F0 _ | apply F1))) (fun Ghst hleGhst hst => ?_)
  replace h := h.mono hleGhst
  replace hd := hd.mono hleGhst
  replace hds := hds.mono hleGhst
  replace hdk := hdk.mono hleGhst
  replace hrb3 := hrb3.mono hleGhst
  replace hz := hz.mono hleGhst
  have hzk : ESok Ghst zs := fun y hy => ⟨hzn y hy, hst y hy⟩
  have hzl : zs.length = l.length := by rw [← hkl, ← allOf_len k, ← hza, List.length_map]
  have hzm : ∀ y ∈ zs, y.1 ∈ k := fun y hy => allOf_mem.1 (by rw [← hza]; exact List.mem_map.2 ⟨y, hy, rfl⟩)
  rw [hal] at hza
  refine Run.seq ?_
  refine Run.seq ?_
  refine Run.regionD' (by kernel_rfl) (by kernel_rfl) (fun hok36 => ?_)
  refine RunD.pure (i := 0) hok36 rfl (by kernel_rfl) (Pure.move rfl) (Wt.none rfl) rfl rfl ?_
  refine RunD.pure (i := 2) hok36 rfl (by kernel_rfl) (Pure.fieldAddr rfl fo30_0) (Wt.none rfl) rfl rfl ?_
  refine RunD.load1R (i := 3) hok36 rfl (by kernel_rfl) rfl (by assumption) (by rfl) agg9 (Wt.none rfl) rfl ?_
  refine RunD.one (i := 1) (by kernel_rfl) rfl ?_
  refine RunL.call rfl rfl (by rfl) (by repeat (first | (with_reducible exact Take.nil _) | (apply Take.cons (by first | ((repeat (first | (with_reducible exact F0 _) | apply F1)); done) | (repeat (first | exact F0 _ | apply F1)))))) (RoomD_ctr h) (Wt.none rfl) rfl ?_
  rintro _ _ ⟨rfl, hA_⟩
  replace hA_ := hA_.symm; subst hA_
  refine RunL.nilD' ?_
  refine RunD.pure (i := 4) hok36 rfl (by kernel_rfl) (Pure.sneq rfl rfl) (Wt.none rfl) rfl rfl ?_
  refine RunD.pure (i := 5) hok36 rfl (by kernel_rfl) (Pure.move rfl) (Wt.none rfl) rfl rfl ?_
  refine RunD.split (d := 18) rfl (fun hg1 => ?_) (fun hg1 => ?_)
  · try simp only [ZA, ZB, ZC, ZD, ZE, ZF, ZG, ZH, ZI, ZJ, ZK, ZL, ZM, ZN, ZO, ZP, ZQ, ZR] at hg1
    exfalso
    simp at hg1
  try simp only [ZA, ZB, ZC, ZD, ZE, ZF, ZG, ZH, ZI, ZJ, ZK, ZL, ZM, ZN, ZO, ZP, ZQ, ZR] at hg1
  refine RunD.pure (i := 6) hok36 rfl (by kernel_rfl) (Pure.move rfl) (Wt.yes rfl rfl rfl) rfl rfl ?_
  refine RunD.pure (i := 8) hok36 rfl (by kernel_rfl) (Pure.fieldAddr rfl fo30_1) (Wt.yes rfl rfl rfl) rfl rfl ?_
  refine RunD.load1R (i := 9) hok36 rfl (by kernel_rfl) rfl (by assumption) (by rfl) agg28 (Wt.yes rfl rfl rfl) rfl ?_
  refine RunD.pure (i := 10) hok36 rfl (by kernel_rfl) (Pure.lenSl rfl rfl und28) (Wt.yes rfl rfl rfl) rfl rfl ?_
  refine RunD.one (i := 7) (by kernel_rfl) rfl ?_
  refine RunL.call rfl rfl (by rfl) (by repeat (first | (with_reducible exact Take.nil _) | (apply Take.cons (by first | ((repeat (first | (with_reducible exact F0 _) | apply F1)); done) | (repeat (first | exact F0 _ | apply F1)))))) (LenD_ctr h) (Wt.yes rfl rfl rfl) rfl ?_
  rintro _ _ ⟨rfl, hA_⟩
  replace hA_ := hA_.symm; subst hA_
  refine RunL.nilD' ?_
  refine RunD.pure (i := 11) hok36 rfl (by kernel_rfl) (Pure.neq rfl rfl) (Wt.yes rfl rfl rfl) rfl rfl ?_
  refine RunD.pure (i := 12) hok36 rfl (by kernel_rfl) (Pure.pickF rfl rfl) (Wt.none rfl) rfl rfl ?_
  refine RunD.pure (i := 13) hok36 rfl (by kernel_rfl) (Pure.move rfl) (Wt.none rfl) rfl rfl ?_
  refine RunD.split (d := 26) rfl (fun hg2 => ?_) (fun hg2 => ?_)
  · try simp only [ZA, ZB, ZC, ZD, ZE, ZF, ZG, ZH, ZI, ZJ, ZK, ZL, ZM, ZN, ZO, ZP, ZQ, ZR] at hg2
    exfalso
    omega
  try simp only [ZA, ZB, ZC, ZD, ZE, ZF, ZG, ZH, ZI, ZJ, ZK, ZL, ZM, ZN, ZO, ZP, ZQ, ZR] at hg2
  refine RunD.pure (i := 14) hok36 rfl (by kernel_rfl) (Pure.move rfl) (Wt.yes rfl rfl rfl) rfl rfl ?_
  refine RunD.loadNR (vs := (cDD D)) (i := 15) hok36 rfl (by kernel_rfl) rfl (by assumption) agg30 sz30 (by first | exact Nat.le_of_ble_eq_true rfl | (simp; done) | (simp; omega)) rfl (Wt.yes rfl rfl rfl) rfl ?_
  refine RunD.one (i := 16) (by kernel_rfl) rfl ?_
  refine RunL.call rfl rfl (by rfl) (by repeat (first | (with_reducible exact Take.nil _) | (apply Take.cons (by first | ((repeat (first | (with_reducible exact F0 _) | apply F1)); done) | (repeat (first | exact F0 _ | apply F1)))))) (rdAll_ctr rfl hyl ⟨hdn, hds, hdc, hdk⟩ hb hg) (Wt.yes rfl rfl rfl) rfl ?_
  rintro _ _ ⟨az2, cz2, zs2, hza2, hzp, rfl, hA_⟩
  replace hA_ := hA_.symm; subst hA_
  have hz2k : ESok _ zs2 := fun y hy => hdk y (hzp.mem_iff.1 hy)
  refine RunL.nilD' ?_
  refine RunD.one (i := 17) (by kernel_rfl) rfl ?_
  refine RunL.call rfl rfl (by rfl) (by repeat (first | (with_reducible exact Take.nil _) | (apply Take.cons (by first | ((repeat (first | (with_reducible exact F0 _) | apply F1)); done) | (repeat (first | exact F0 _ | apply F1)))))) (Ctr.lend (R := fun G => SlR G 24 6 _ _ _ ∧ _ ≤ _) Lends.Sl cb51 (fun G' hle hr => rdSameAll_ctr (hz.mono hle) (hzk.mono hle) hr.1 (hz2k.mono hle) (by omega) (fun y hy => by have := evOk_len (hk.mem (hzm y hy)).1; omega))) (Wt.yes rfl rfl rfl) rfl ?_
  rintro _ _ ⟨_, rfl, rfl, hA_⟩
  replace hA_ := hA_.symm; subst hA_
  rw [hza, hza2]
  refine RunL.nilD' ?_
  refine RunD.pure (i := 18) hok36 rfl (by kernel_rfl) (Pure.not rfl) (Wt.yes rfl rfl rfl) rfl rfl ?_
  refine RunD.pure (i := 19) hok36 rfl (by kernel_rfl) (Pure.pickF rfl rfl) (Wt.none rfl) rfl rfl ?_
  refine RunD.pure (i := 20) hok36 rfl (by kernel_rfl) (Pure.move rfl) (Wt.none rfl) rfl rfl ?_
  refine RunD.split (d := 33) rfl (fun hg3 => ?_) (fun hg3 => ?_)
  · try simp only [ZA, ZB, ZC, ZD, ZE, ZF, ZG, ZH, ZI, ZJ, ZK, ZL, ZM, ZN, ZO, ZP, ZQ, ZR] at hg3
    exfalso
    simp at hg3
  try simp only [ZA, ZB, ZC, ZD, ZE, ZF, ZG, ZH, ZI, ZJ, ZK, ZL, ZM, ZN, ZO, ZP, ZQ, ZR] at hg3
  refine RunD.pure (i := 21) hok36 rfl (by kernel_rfl) (Pure.move rfl) (Wt.yes rfl rfl rfl) rfl rfl ?_
  refine RunD.loadNR (vs := (cDD D)) (i := 23) hok36 rfl (by kernel_rfl) rfl (by assumption) agg30 sz30 (by first | exact Nat.le_of_ble_eq_true rfl | (simp; done) | (simp; omega)) rfl (Wt.yes rfl rfl rfl) rfl ?_
  refine RunD.one (i := 22) (by kernel_rfl) rfl ?_
  refine RunL.call rfl rfl (by rfl) (by repeat (first | (with_reducible exact Take.nil _) | (apply Take.cons (by first | ((repeat (first | (with_reducible exact F0 _) | apply F1)); done) | (repeat (first | exact F0 _ | apply F1)))))) (Heads_ctr h (by omega)) (Wt.yes rfl rfl rfl) rfl ?_
  rintro _ _ ⟨ah, ch, rfl, hA_⟩
  replace hA_ := hA_.symm; subst hA_
  rw [hhe]
  refine RunL.nilD' ?_
  refine RunD.one (i := 24) (by kernel_rfl) rfl ?_
  refine RunL.call rfl rfl (by rfl) (by repeat (first | (with_reducible exact Take.nil _) | (apply Take.cons (by first | ((repeat (first | (with_reducible exact F0 _) | apply F1)); done) | (repeat (first | exact F0 _ | apply F1)))))) (rdHeads_ctr hd hb hg) (Wt.yes rfl rfl rfl) rfl ?_
  rintro _ _ ⟨ah2, ch2, rfl, hA_⟩
  replace hA_ := hA_.symm; subst hA_
  refine RunL.nilD' ?_
  refine RunD.one (i := 25) (by kernel_rfl) rfl ?_
  refine RunL.call rfl rfl (by rfl) (by repeat (first | (with_reducible exact Take.nil _) | (apply Take.cons (by first | ((repeat (first | (with_reducible exact F0 _) | apply F1)); done) | (repeat (first | exact F0 _ | apply F1)))))) ((Ctr.lend2 (Q1 := Sl 9 1 ah (headsOf l).length ch ((headsOf l).map Value.string)) (Q2 := Sl 9 1 ah2 (headsOf l).length ch2 ((headsOf l).map Value.string)) (R1 := fun G => SlR G 9 1 _ _ _ ∧ _ ≤ _) (R2 := fun G => SlR G 9 1 _ _ _ ∧ _ ≤ _) Lends.Sl Lends.Sl cb27 (fun G G' h q => ⟨q.1.mono h, q.2⟩) (fun G' hle hr hr2 => TextsR_ctr hr.1 hr2.1 (by omega)))) (Wt.yes rfl rfl rfl) rfl ?_
  rintro _ _ ⟨_, rfl, rfl, hA_⟩
  replace hA_ := hA_.symm; subst hA_
  refine RunL.nilD' ?_
  refine RunD.pure (i := 26) hok36 rfl (by kernel_rfl) (Pure.not rfl) (Wt.yes rfl rfl rfl) rfl rfl ?_
  refine RunD.pure (i := 27) hok36 rfl (by kernel_rfl) (Pure.pickF rfl rfl) (Wt.none rfl) rfl rfl ?_
  refine RunD.nilR (by kernel_rfl) ?_
  refine Run.cond rfl (fun hc4 => ?_) (fun hc4 => ?_)
  · try simp only [ZA, ZB, ZC, ZD, ZE, ZF, ZG, ZH, ZI, ZJ, ZK, ZL, ZM, ZN, ZO, ZP, ZQ, ZR] at hc4
    exfalso
    simp at hc4
  try simp only [ZA, ZB, ZC, ZD, ZE, ZF, ZG, ZH, ZI, ZJ, ZK, ZL, ZM, ZN, ZO, ZP, ZQ, ZR] at hc4
  refine Run.skip ?_
  refine Run.seq ?_
  refine Run.sr ?_
  refine RunL.as rfl rfl ?_
  refine RunL.nil ?_
  refine Run.block ?_
  refine Run.keep (.cons rfl (.cons rfl (.cons rfl (.nil))) : Keep _ [0, 3, 6] _) ?_
  refine Run.loopF (F := F) (fun n e_ A => ∃ (i : Nat), i ≤ l.length ∧ n = l.length - i ∧ e_ = [(0, .pointer (some ⟨p, 0, none⟩)), (3, .pointer (some ⟨b3, 0, none⟩)), (6, .int .i64 (i : Nat))] ∧ A = F) (l.length) (by exact ⟨0, by omega, rfl, rfl, rfl⟩) (by repeat (first | (with_reducible exact Fin.done (by repeat (first | (with_reducible exact Rest.here) | apply Rest.there))) | (apply Fin.cons (by first | ((repeat (first | (with_reducible exact F0 _) | apply F1)); done) | (repeat (first | exact F0 _ | apply F1)))))) ?_
  rintro n _ _ ⟨i, hi, rfl, rfl, hA_⟩ ih
  replace hA_ := hA_.symm; subst hA_
  refine Run.seq ?_
  refine Run.sr ?_
  refine RunL.mv rfl rfl ?_
  refine RunL.pure (Pure.fieldAddr rfl fo30_1) (Wt.none rfl) rfl rfl ?_
  first | refine RunL.load1 rfl (by first | ((repeat (first | (with_reducible exact F0 _) | apply F1)); done) | (repeat (first | exact F0 _ | apply F1))) (by rfl) agg28 (Wt.none rfl) rfl ?_ | refine RunL.load1R rfl (by assumption) (by rfl) agg28 (Wt.none rfl) rfl ?_
  refine RunL.pure (Pure.lenSl rfl rfl und28) (Wt.none rfl) rfl rfl ?_
  refine RunL.pure (Pure.lss rfl rfl) (Wt.none rfl) rfl rfl ?_
  refine RunL.nil ?_
  refine Run.cond rfl (fun h1 => ?_) (fun h1 => ?_)
  · try simp only [ZA, ZB, ZC, ZD, ZE, ZF, ZG, ZH, ZI, ZJ, ZK, ZL, ZM, ZN, ZO, ZP, ZQ, ZR] at h1
    obtain ⟨v, hv⟩ := get_some (xs := l) (i := i) (by omega)
    obtain ⟨s, hy⟩ := ES_get hyl hv
    have hvm := List.mem_of_getElem? hv
    have hym := List.mem_of_getElem? hy
    obtain ⟨be, Te, pree, poste, hpe, hroe⟩ := hds.open1 (show 0 < ys.length by omega)
    have hkh : k.has v.id = true := by rw [has_perm hp]; exact has_mem hvm
    have hpo := posAt_mem hk hg hp hvm
    have hge := get_perm hk hg hp hvm
    have hvl := evOk_len (hg.mem hvm).1
    refine Run.skip ?_
    refine Run.seq ?_
    refine Run.block ?_
    refine Run.sr ?_
    refine RunL.mv rfl rfl ?_
    refine RunL.pure (Pure.fieldAddr rfl fo30_1) (Wt.none rfl) rfl rfl ?_
    first | refine RunL.load1 rfl (by first | ((repeat (first | (with_reducible exact F0 _) | apply F1)); done) | (repeat (first | exact F0 _ | apply F1))) (by rfl) agg28 (Wt.none rfl) rfl ?_ | refine RunL.load1R rfl (by assumption) (by rfl) agg28 (Wt.none rfl) rfl ?_
    refine RunL.mv rfl rfl ?_
    refine RunL.pure (Pure.indexAddr (opvSl rfl hpe) rfl und28 sz24 (by omega) (by omega)) (Wt.none rfl) rfl rfl ?_
    refine RunL.pure (Pure.fieldAddr rfl fo24_0) (Wt.none rfl) rfl rfl ?_
    refine RunL.load1R rfl hroe ((elem_at (pre := pree) (post := poste) (f := cES) (sz := 6) (j := 0) (fun _ _ => rfl) hy (by decide)).trans rfl) agg9 (Wt.none rfl) rfl ?_
    refine RunL.call rfl rfl (by rfl) (by repeat (first | (with_reducible exact Take.nil _) | (apply Take.cons (by first | ((repeat (first | (with_reducible exact F0 _) | apply F1)); done) | (repeat (first | exact F0 _ | apply F1)))))) (PositionD_ctr (id := v.id) h) (Wt.none rfl) rfl ?_
    rintro _ _ ⟨rfl, hA_⟩
    replace hA_ := hA_.symm; subst hA_
    rw [hkh, hpo]
    refine RunL.mv rfl rfl ?_
    refine RunL.pure (Pure.extract rfl rfl) (Wt.none rfl) rfl rfl ?_
    refine RunL.pure (Pure.extract rfl rfl) (Wt.none rfl) rfl rfl ?_
    refine RunL.alloc zz39 (Wt.none rfl) rfl ?_; intro b7
    refine RunL.storeW (xs := (cPos ((⟨depthOf l v.id, v.id⟩ : Pos)))) rfl rfl (by first | ((repeat (first | (with_reducible exact F0 _) | apply F1)); done) | (repeat (first | exact F0 _ | apply F1))) sz39 (by rfl) (by rfl) (by rfl) (Wt.none rfl) ?_
    refine RunL.as rfl rfl ?_
    refine RunL.nil ?_
    refine Run.sr ?_
    refine RunL.mv rfl rfl ?_
    refine RunL.pure (Pure.fieldAddr rfl fo30_1) (Wt.none rfl) rfl rfl ?_
    first | refine RunL.load1 rfl (by first | ((repeat (first | (with_reducible exact F0 _) | apply F1)); done) | (repeat (first | exact F0 _ | apply F1))) (by rfl) agg28 (Wt.none rfl) rfl ?_ | refine RunL.load1R rfl (by assumption) (by rfl) agg28 (Wt.none rfl) rfl ?_
    refine RunL.mv rfl rfl ?_
    refine RunL.pure (Pure.indexAddr (opvSl rfl hpe) rfl und28 sz24 (by omega) (by omega)) (Wt.none rfl) rfl rfl ?_
    refine RunL.pure (Pure.fieldAddr rfl fo24_0) (Wt.none rfl) rfl rfl ?_
    refine RunL.load1R rfl hroe ((elem_at (pre := pree) (post := poste) (f := cES) (sz := 6) (j := 0) (fun _ _ => rfl) hy (by decide)).trans rfl) agg9 (Wt.none rfl) rfl ?_
    refine RunL.call rfl rfl (by rfl) (by repeat (first | (with_reducible exact Take.nil _) | (apply Take.cons (by first | ((repeat (first | (with_reducible exact F0 _) | apply F1)); done) | (repeat (first | exact F0 _ | apply F1)))))) (EventD_ctr (id := v.id) h) (Wt.none rfl) rfl ?_
    rintro _ _ hev
    rcases hev with ⟨h1, rfl, hA_⟩ | ⟨u, a1, c1, hgu, rfl, hA_⟩
    · skip
      exfalso; rw [hge] at h1; cases h1
    · skip
      replace hA_ := hA_.symm; subst hA_
      obtain rfl : v = u := by rw [hge] at hgu; exact Option.some.inj hgu
      refine RunL.mv rfl rfl ?_
      refine RunL.pure (Pure.extract rfl rfl) (Wt.none rfl) rfl rfl ?_
      refine RunL.pure (Pure.extract rfl rfl) (Wt.none rfl) rfl rfl ?_
      refine RunL.alloc zz24 (Wt.none rfl) rfl ?_; intro b9
      refine RunL.storeW (xs := (cEvn ((v.evn ⟨a1, v.ps.length, c1⟩)))) rfl rfl (by first | ((repeat (first | (with_reducible exact F0 _) | apply F1)); done) | (repeat (first | exact F0 _ | apply F1))) sz24 (by rfl) (by rfl) (by rfl) (Wt.none rfl) ?_
      refine RunL.as rfl rfl ?_
      refine RunL.nil ?_
      refine Run.seq ?_
      refine Run.regionD' (by kernel_rfl) (by kernel_rfl) (fun hok192 => ?_)
      refine RunD.lend (Q := row b7 39 _) Lends.row (by first | ((repeat (first | (with_reducible exact F0 _) | apply F1)); done) | (repeat (first | exact F0 _ | apply F1))) ?_; intro gl1 hlegl1 hl1 backgl1
      have h_gl1 := h.mono hlegl1
      have hd_gl1 := hd.mono hlegl1
      have hds_gl1 := hds.mono hlegl1
      have hdk_gl1 := hdk.mono hlegl1
      have hrb3_gl1 := hrb3.mono hlegl1
      have hz_gl1 := hz.mono hlegl1
      have hzk_gl1 := hzk.mono hlegl1
      have hroe_gl1 := hroe.mono hlegl1
      refine RunD.lend (Q := row b9 24 _) Lends.row (by first | ((repeat (first | (with_reducible exact F0 _) | apply F1)); done) | (repeat (first | exact F0 _ | apply F1))) ?_; intro gl2 hlegl2 hl2 backgl2
      have hl1 := hl1.mono hlegl2
      have h_gl2 := h_gl1.mono hlegl2
      have hd_gl2 := hd_gl1.mono hlegl2
      have hds_gl2 := hds_gl1.mono hlegl2
      have hdk_gl2 := hdk_gl1.mono hlegl2
      have hrb3_gl2 := hrb3_gl1.mono hlegl2
      have hz_gl2 := hz_gl1.mono hlegl2
      have hzk_gl2 := hzk_gl1.mono hlegl2
      have hroe_gl2 := hroe_gl1.mono hlegl2
      refine RunD.pure (i := 0) hok192 rfl (by kernel_rfl) (Pure.move rfl) (Wt.none rfl) rfl rfl ?_
      refine RunD.pure (i := 1) hok192 rfl (by kernel_rfl) (Pure.not rfl) (Wt.none rfl) rfl rfl ?_
      refine RunD.pure (i := 2) hok192 rfl (by kernel_rfl) (Pure.move rfl) (Wt.none rfl) rfl rfl ?_
      refine RunD.split (d := 72) rfl (fun hg5 => ?_) (fun hg5 => ?_)
      · try simp only [ZA, ZB, ZC, ZD, ZE, ZF, ZG, ZH, ZI, ZJ, ZK, ZL, ZM, ZN, ZO, ZP, ZQ, ZR] at hg5
        exfalso
        simp at hg5
      try simp only [ZA, ZB, ZC, ZD, ZE, ZF, ZG, ZH, ZI, ZJ, ZK, ZL, ZM, ZN, ZO, ZP, ZQ, ZR] at hg5
      refine RunD.loadNR (vs := (cPos ((⟨depthOf l v.id, v.id⟩ : Pos)))) (i := 3) hok192 rfl (by kernel_rfl) rfl (by assumption) agg39 sz39 (by first | exact Nat.le_of_ble_eq_true rfl | (simp; done) | (simp; omega)) rfl (Wt.yes rfl rfl rfl) rfl ?_
      refine RunD.loadNR (vs := (cDD D)) (i := 4) hok192 rfl (by kernel_rfl) rfl (by assumption) agg30 sz30 (by first | exact Nat.le_of_ble_eq_true rfl | (simp; done) | (simp; omega)) rfl (Wt.yes rfl rfl rfl) rfl ?_
      refine RunD.pure (i := 5) hok192 rfl (by kernel_rfl) (Pure.fieldAddr rfl fo30_1) (Wt.yes rfl rfl rfl) rfl rfl ?_
      refine RunD.load1R (i := 6) hok192 rfl (by kernel_rfl) rfl (by assumption) (by rfl) agg28 (Wt.yes rfl rfl rfl) rfl ?_
      refine RunD.pure (i := 7) hok192 rfl (by kernel_rfl) (Pure.move rfl) (Wt.yes rfl rfl rfl) rfl rfl ?_
      refine RunD.pure (i := 8) hok192 rfl (by kernel_rfl) (Pure.indexAddr (opvSl rfl hpe) rfl und28 sz24 (by omega) (by omega)) (Wt.yes rfl rfl rfl) rfl rfl ?_
      refine RunD.pure (i := 9) hok192 rfl (by kernel_rfl) (Pure.fieldAddr rfl fo24_0) (Wt.yes rfl rfl rfl) rfl rfl ?_
      refine RunD.load1R (i := 10) hok192 rfl (by kernel_rfl) rfl hroe_gl2 ((elem_at (pre := pree) (post := poste) (f := cES) (sz := 6) (j := 0) (fun _ _ => rfl) hy (by decide)).trans rfl) agg9 (Wt.yes rfl rfl rfl) rfl ?_
      refine RunD.one (i := 11) (by kernel_rfl) rfl ?_
      refine RunL.call rfl rfl (by rfl) (by repeat (first | (with_reducible exact Take.nil _) | (apply Take.cons (by first | ((repeat (first | (with_reducible exact F0 _) | apply F1)); done) | (repeat (first | exact F0 _ | apply F1)))))) (rdPosition_ctr (x := v.id) hd_gl2 hb hg) (Wt.yes rfl rfl rfl) rfl ?_
      rintro _ _ ⟨rfl, hA_⟩
      replace hA_ := hA_.symm; subst hA_
      refine RunL.nilD' ?_
      refine RunD.pure (i := 12) hok192 rfl (by kernel_rfl) (Pure.aneq rfl rfl eqg39 (eqv39 ((⟨depthOf l v.id, v.id⟩ : Pos)) ((⟨depthOf l v.id, v.id⟩ : Pos))) (by decide)) (Wt.yes rfl rfl rfl) rfl rfl ?_
      refine RunD.pure (i := 13) hok192 rfl (by kernel_rfl) (Pure.pickF rfl rfl) (Wt.none rfl) rfl rfl ?_
      refine RunD.pure (i := 14) hok192 rfl (by kernel_rfl) (Pure.move rfl) (Wt.none rfl) rfl rfl ?_
      refine RunD.split (d := 84) rfl (fun hg6 => ?_) (fun hg6 => ?_)
      · try simp only [ZA, ZB, ZC, ZD, ZE, ZF, ZG, ZH, ZI, ZJ, ZK, ZL, ZM, ZN, ZO, ZP, ZQ, ZR] at hg6
        exfalso
        simp at hg6
      try simp only [ZA, ZB, ZC, ZD, ZE, ZF, ZG, ZH, ZI, ZJ, ZK, ZL, ZM, ZN, ZO, ZP, ZQ, ZR] at hg6
      refine RunD.pure (i := 15) hok192 rfl (by kernel_rfl) (Pure.move rfl) (Wt.yes rfl rfl rfl) rfl rfl ?_
      refine RunD.pure (i := 16) hok192 rfl (by kernel_rfl) (Pure.not rfl) (Wt.yes rfl rfl rfl) rfl rfl ?_
      refine RunD.pure (i := 17) hok192 rfl (by kernel_rfl) (Pure.pickF rfl rfl) (Wt.none rfl) rfl rfl ?_
      refine RunD.pure (i := 18) hok192 rfl (by kernel_rfl) (Pure.move rfl) (Wt.none rfl) rfl rfl ?_
      refine RunD.split (d := 88) rfl (fun hg7 => ?_) (fun hg7 => ?_)
      · try simp only [ZA, ZB, ZC, ZD, ZE, ZF, ZG, ZH, ZI, ZJ, ZK, ZL, ZM, ZN, ZO, ZP, ZQ, ZR] at hg7
        exfalso
        simp at hg7
      try simp only [ZA, ZB, ZC, ZD, ZE, ZF, ZG, ZH, ZI, ZJ, ZK, ZL, ZM, ZN, ZO, ZP, ZQ, ZR] at hg7
      refine RunD.loadNR (vs := (cEvn ((v.evn ⟨a1, v.ps.length, c1⟩)))) (i := 19) hok192 rfl (by kernel_rfl) rfl (by assumption) agg24 sz24 (by first | exact Nat.le_of_ble_eq_true rfl | (simp; done) | (simp; omega)) rfl (Wt.yes rfl rfl rfl) rfl ?_
      refine RunD.pure (i := 20) hok192 rfl (by kernel_rfl) (Pure.fieldAddr rfl fo30_1) (Wt.yes rfl rfl rfl) rfl rfl ?_
      refine RunD.load1R (i := 21) hok192 rfl (by kernel_rfl) rfl (by assumption) (by rfl) agg28 (Wt.yes rfl rfl rfl) rfl ?_
      refine RunD.pure (i := 22) hok192 rfl (by kernel_rfl) (Pure.move rfl) (Wt.yes rfl rfl rfl) rfl rfl ?_
      refine RunD.pure (i := 23) hok192 rfl (by kernel_rfl) (Pure.indexAddr (opvSl rfl hpe) rfl und28 sz24 (by omega) (by omega)) (Wt.yes rfl rfl rfl) rfl rfl ?_
      refine RunD.loadNR (vs := (cEvn ((v.evn s)))) (i := 24) hok192 rfl (by kernel_rfl) rfl hroe_gl2 agg24 sz24 (elemN_len (pre := pree) (post := poste) (f := cES) (sz := 6) (j := 0) (n := 6) (fun _ _ => rfl) hy (by decide)) ((elemN_at (pre := pree) (post := poste) (f := cES) (sz := 6) (j := 0) (n := 6) (fun _ _ => rfl) hy (by decide)).trans rfl) (Wt.yes rfl rfl rfl) rfl ?_
      refine RunD.one (i := 25) (by kernel_rfl) rfl ?_
      refine RunL.call rfl rfl (by rfl) (by repeat (first | (with_reducible exact Take.nil _) | (apply Take.cons (by first | ((repeat (first | (with_reducible exact F0 _) | apply F1)); done) | (repeat (first | exact F0 _ | apply F1)))))) (Ctr.lend (R := fun G => SlR G 9 1 _ _ _ ∧ _ ≤ _) Lends.Sl cb16 (fun G' hle hr => rdSame_ctr (e := v.evn ⟨a1, v.ps.length, c1⟩) (ps := v.ps) (f := v.evn s) (qs := v.ps) ⟨rfl, hr.1⟩ ((hdk_gl2 _ hym).mono hle) (by omega))) (Wt.yes rfl rfl rfl) rfl ?_
      rintro _ _ ⟨_, rfl, rfl, hA_⟩
      replace hA_ := hA_.symm; subst hA_
      rw [evSame_eq, ev_evn, ev_evn]
      refine RunL.nilD' ?_
      refine RunD.pure (i := 26) hok192 rfl (by kernel_rfl) (Pure.not rfl) (Wt.yes rfl rfl rfl) rfl rfl ?_
      refine RunD.pure (i := 27) hok192 rfl (by kernel_rfl) (Pure.pickF rfl rfl) (Wt.none rfl) rfl rfl ?_
      refine RunD.pure (i := 28) hok192 rfl (by kernel_rfl) (Pure.move rfl) (Wt.none rfl) rfl rfl ?_
      refine RunD.split (d := 98) rfl (fun hg8 => ?_) (fun hg8 => ?_)
      · try simp only [ZA, ZB, ZC, ZD, ZE, ZF, ZG, ZH, ZI, ZJ, ZK, ZL, ZM, ZN, ZO, ZP, ZQ, ZR] at hg8
        exfalso
        simp at hg8
      try simp only [ZA, ZB, ZC, ZD, ZE, ZF, ZG, ZH, ZI, ZJ, ZK, ZL, ZM, ZN, ZO, ZP, ZQ, ZR] at hg8
      refine RunD.pure (i := 29) hok192 rfl (by kernel_rfl) (Pure.move rfl) (Wt.yes rfl rfl rfl) rfl rfl ?_
      refine RunD.pure (i := 30) hok192 rfl (by kernel_rfl) (Pure.fieldAddr rfl fo30_1) (Wt.yes rfl rfl rfl) rfl rfl ?_
      refine RunD.load1R (i := 31) hok192 rfl (by kernel_rfl) rfl (by assumption) (by rfl) agg28 (Wt.yes rfl rfl rfl) rfl ?_
      refine RunD.pure (i := 32) hok192 rfl (by kernel_rfl) (Pure.move rfl) (Wt.yes rfl rfl rfl) rfl rfl ?_
      refine RunD.pure (i := 33) hok192 rfl (by kernel_rfl) (Pure.indexAddr (opvSl rfl hpe) rfl und28 sz24 (by omega) (by omega)) (Wt.yes rfl rfl rfl) rfl rfl ?_
      refine RunD.pure (i := 34) hok192 rfl (by kernel_rfl) (Pure.fieldAddr rfl fo24_0) (Wt.yes rfl rfl rfl) rfl rfl ?_
      refine RunD.load1R (i := 35) hok192 rfl (by kernel_rfl) rfl hroe_gl2 ((elem_at (pre := pree) (post := poste) (f := cES) (sz := 6) (j := 0) (fun _ _ => rfl) hy (by decide)).trans rfl) agg9 (Wt.yes rfl rfl rfl) rfl ?_
      refine RunD.one (i := 36) (by kernel_rfl) rfl ?_
      refine RunL.call rfl rfl (by rfl) (by repeat (first | (with_reducible exact Take.nil _) | (apply Take.cons (by first | ((repeat (first | (with_reducible exact F0 _) | apply F1)); done) | (repeat (first | exact F0 _ | apply F1)))))) (HasD_ctr (id := v.id) h_gl2) (Wt.yes rfl rfl rfl) rfl ?_
      rintro _ _ ⟨rfl, hA_⟩
      replace hA_ := hA_.symm; subst hA_
      rw [hkh]
      refine RunL.nilD' ?_
      refine RunD.pure (i := 37) hok192 rfl (by kernel_rfl) (Pure.not rfl) (Wt.yes rfl rfl rfl) rfl rfl ?_
      refine RunD.pure (i := 38) hok192 rfl (by kernel_rfl) (Pure.pickF rfl rfl) (Wt.none rfl) rfl rfl ?_
      refine RunD.nilB (by kernel_rfl) (fun w sw => backgl1 _ _ (backgl2 _ _ (sw))) ?_
      refine Run.cond rfl (fun hc9 => ?_) (fun hc9 => ?_)
      · try simp only [ZA, ZB, ZC, ZD, ZE, ZF, ZG, ZH, ZI, ZJ, ZK, ZL, ZM, ZN, ZO, ZP, ZQ, ZR] at hc9
        exfalso
        simp at hc9
      try simp only [ZA, ZB, ZC, ZD, ZE, ZF, ZG, ZH, ZI, ZJ, ZK, ZL, ZM, ZN, ZO, ZP, ZQ, ZR] at hc9
      refine Run.skip ?_
      refine Run.inBlock ?_
      refine Run.region ?_
      refine RunL.mv rfl rfl ?_
      first | refine RunL.pure (Pure.addI rfl rfl (by omega)) (Wt.none rfl) rfl rfl ?_ | refine RunL.pure (Pure.add rfl rfl) (Wt.none rfl) rfl rfl ?_
      refine RunL.as rfl rfl ?_
      refine RunL.nil ?_
      refine Run.keep (.cons rfl (.cons rfl (.cons rfl (.nil))) : Keep _ [0, 3, 6] _) ?_
      refine Run.againF (F := F) ih (by exact ⟨i + 1, by omega, rfl, rfl, rfl⟩) (by repeat (first | (with_reducible exact Fin.done (by repeat (first | (with_reducible exact Rest.here) | apply Rest.there))) | (apply Fin.cons (by first | ((repeat (first | (with_reducible exact F0 _) | apply F1)); done) | (repeat (first | exact F0 _ | apply F1)))))) ?_
      omega
  · try simp only [ZA, ZB, ZC, ZD, ZE, ZF, ZG, ZH, ZI, ZJ, ZK, ZL, ZM, ZN, ZO, ZP, ZQ, ZR] at h1
    refine Run.exit rfl ?_
    refine Run.sr ?_
    refine RunL.as rfl rfl ?_
    refine RunL.nil ?_
    exact Run.ret Try.func29 (res1 rfl rfl) (by exact ⟨rfl, rfl⟩) (by repeat (first | (with_reducible exact Fin.done (by repeat (first | (with_reducible exact Rest.here) | apply Rest.there))) | (apply Fin.cons (by first | ((repeat (first | (with_reducible exact F0 _) | apply F1)); done) | (repeat (first | exact F0 _ | apply F1))))))

set_option maxHeartbeats 8000000 in
set_option maxRecDepth 100000 in
theorem lives_ctr {G : Gp} :
    Ctr Try.prog G 17 [] [] (fun F v A => v = .bool true ∧ A = F) := by
  refine Ctr.intro Try.func17 rfl (by kernel_rfl) rfl (fun F => ?_)
  simp only [List.nil_append]
  refine Run.sr ?_
  refine RunL.as rfl rfl ?_
  refine RunL.nil ?_
  refine Run.sr ?_
  refine RunL.pure (Pure.buildL (ps := [(0, _), (1, _), (4, _)]) (zs := [(.string .empty), (.string .empty), (.slice none 0 0), (.string .empty), (.string .empty), (.int .i64 0)]) (xs := (cEvn ((liveA.evn (⟨none, 0, 0⟩ : Sli))))) pl24 rfl rfl rfl rfl) (Wt.none rfl) rfl rfl ?_
  refine RunL.lit (vals := [_]) (vs := [_]) und22 sz9 zz9 rfl rfl rfl rfl rfl rfl (by simp [Value.cells, bv, cDD, cEvn, cGG, cNde, cPos]) rfl (Wt.none rfl) rfl ?_; intro b5
  refine RunL.pure (Pure.buildL (ps := [(0, _), (1, _), (4, _), (2, _)]) (zs := [(.string .empty), (.string .empty), (.slice none 0 0), (.string .empty), (.string .empty), (.int .i64 0)]) (xs := (cEvn ((liveB.evn (⟨some ⟨b5, 0, none⟩, 1, 1⟩ : Sli))))) pl24 rfl rfl rfl rfl) (Wt.none rfl) rfl rfl ?_
  refine RunL.lit (vals := [_]) (vs := [_]) und22 sz9 zz9 rfl rfl rfl rfl rfl rfl (by simp [Value.cells, bv, cDD, cEvn, cGG, cNde, cPos]) rfl (Wt.none rfl) rfl ?_; intro b7
  refine RunL.pure (Pure.buildL (ps := [(0, _), (1, _), (4, _), (2, _)]) (zs := [(.string .empty), (.string .empty), (.slice none 0 0), (.string .empty), (.string .empty), (.int .i64 0)]) (xs := (cEvn ((liveC.evn (⟨some ⟨b7, 0, none⟩, 1, 1⟩ : Sli))))) pl24 rfl rfl rfl rfl) (Wt.none rfl) rfl rfl ?_
  refine RunL.lit (vals := [_, _]) (vs := [_, _]) und22 sz9 zz9 rfl rfl rfl rfl rfl rfl (by simp [Value.cells, bv, cDD, cEvn, cGG, cNde, cPos]) rfl (Wt.none rfl) rfl ?_; intro b9
  refine RunL.pure (Pure.buildL (ps := [(0, _), (1, _), (4, _), (2, _)]) (zs := [(.string .empty), (.string .empty), (.slice none 0 0), (.string .empty), (.string .empty), (.int .i64 0)]) (xs := (cEvn ((liveD.evn (⟨some ⟨b9, 0, none⟩, 2, 2⟩ : Sli))))) pl24 rfl rfl rfl rfl) (Wt.none rfl) rfl rfl ?_
  refine RunL.lit (vals := [_, _, _, _]) (vs := ([(liveA, (⟨none, 0, 0⟩ : Sli)), (liveB, (⟨some ⟨b5, 0, none⟩, 1, 1⟩ : Sli)), (liveC, (⟨some ⟨b7, 0, none⟩, 1, 1⟩ : Sli)), (liveD, (⟨some ⟨b9, 0, none⟩, 2, 2⟩ : Sli))] : ES).flatMap cES) und28 sz24 zz24 rfl rfl rfl rfl rfl rfl (by simp [Value.cells, bv, cDD, cEvn, cGG, cNde, cPos]) rfl (Wt.none rfl) rfl ?_; intro b11
  refine RunL.pure (Pure.buildL (ps := [(0, _), (1, _)]) (zs := [(.string .empty), (.slice none 0 0)]) (xs := (cDD ((⟨(⟨#[33, 114, 58, 115]⟩ : ByteArray), (⟨some ⟨b11, 0, none⟩, 4, 4⟩ : Sli)⟩ : DD)))) pl30 rfl rfl rfl rfl) (Wt.none rfl) rfl rfl ?_
  refine RunL.poolNew ?_
  refine RunL.poolSl (T := 9) (sz := 1) (a := some ⟨b5, 0, none⟩) (by repeat (first | (with_reducible exact Take.nil _) | (apply Take.cons (by first | ((repeat (first | (with_reducible exact F0 _) | apply F1)); done) | (repeat (first | exact F0 _ | apply F1)))))) ?_; intro K0 hK0 hs0
  refine RunL.poolSl (T := 9) (sz := 1) (a := some ⟨b7, 0, none⟩) (by repeat (first | (with_reducible exact Take.nil _) | (apply Take.cons (by first | ((repeat (first | (with_reducible exact F0 _) | apply F1)); done) | (repeat (first | exact F0 _ | apply F1)))))) ?_; intro K1 hK1 hs1
  refine RunL.poolSl (T := 9) (sz := 1) (a := some ⟨b9, 0, none⟩) (by repeat (first | (with_reducible exact Take.nil _) | (apply Take.cons (by first | ((repeat (first | (with_reducible exact F0 _) | apply F1)); done) | (repeat (first | exact F0 _ | apply F1)))))) ?_; intro K2 hK2 hs2
  refine RunL.poolSl (T := 24) (sz := 6) (a := some ⟨b11, 0, none⟩) (by repeat (first | (with_reducible exact Take.nil _) | (apply Take.cons (by first | ((repeat (first | (with_reducible exact F0 _) | apply F1)); done) | (repeat (first | exact F0 _ | apply F1)))))) ?_; intro K3 hK3 hs3
  have hDl : HasD (gk K3) (⟨(⟨#[33, 114, 58, 115]⟩ : ByteArray), (⟨some ⟨b11, 0, none⟩, 4, 4⟩ : Sli)⟩ : DD) (⟨#[33, 114, 58, 115]⟩ : ByteArray) liveL := by
    refine ⟨rfl, ([(liveA, (⟨none, 0, 0⟩ : Sli)), (liveB, (⟨some ⟨b5, 0, none⟩, 1, 1⟩ : Sli)), (liveC, (⟨some ⟨b7, 0, none⟩, 1, 1⟩ : Sli)), (liveD, (⟨some ⟨b9, 0, none⟩, 2, 2⟩ : Sli))] : ES), rfl, rfl, hs3, Nat.le_refl _, fun y hy => ?_⟩
    simp only [List.mem_cons, List.not_mem_nil, or_false] at hy
    rcases hy with rfl | rfl | rfl | rfl
    · exact ⟨rfl, .inl ⟨rfl, rfl⟩⟩
    · exact ⟨rfl, ((hs0.pool hK1).pool hK2).pool hK3⟩
    · exact ⟨rfl, (hs1.pool hK2).pool hK3⟩
    · exact ⟨rfl, hs2.pool hK3⟩
  refine RunL.call rfl rfl (by rfl) (by repeat (first | (with_reducible exact Take.nil _) | (apply Take.cons (by first | ((repeat (first | (with_reducible exact F0 _) | apply F1)); done) | (repeat (first | exact F0 _ | apply F1)))))) (Ctr.lend Lends.Pool cb18 (fun G' hle hK => build_ctr (HasD.hp (G' := G') hDl hK) live_good live_wf (by decide))) (Wt.none rfl) rfl ?_
  rintro _ _ ⟨_, rfl, p, rfl, hA_⟩
  replace hA_ := hA_.symm; subst hA_
  refine RunL.as rfl rfl ?_
  refine RunL.nil ?_
  refine Run.seq ?_
  refine Run.sr ?_
  refine RunL.mv rfl rfl ?_
  refine RunL.pure (Pure.ptrEqNil rfl rfl und36) (Wt.none rfl) rfl rfl ?_
  refine RunL.nil ?_
  refine Run.condF rfl ?_
  refine Run.skip ?_
  refine Run.sr ?_
  refine RunL.mv rfl rfl ?_
  refine RunL.call rfl rfl (by rfl) (by repeat (first | (with_reducible exact Take.nil _) | (apply Take.cons (by first | ((repeat (first | (with_reducible exact F0 _) | apply F1)); done) | (repeat (first | exact F0 _ | apply F1)))))) (Ctr.lend Lends.Dg cb19 (fun G' hle hr => PositionD_ctr (id := ⟨#[36, 100]⟩) hr)) (Wt.none rfl) rfl ?_
  rintro _ _ ⟨_, rfl, rfl, hA_⟩
  replace hA_ := hA_.symm; subst hA_
  rw [live_pos, live_has]
  refine RunL.mv rfl rfl ?_
  refine RunL.pure (Pure.extract rfl rfl) (Wt.none rfl) rfl rfl ?_
  refine RunL.pure (Pure.extract rfl rfl) (Wt.none rfl) rfl rfl ?_
  refine RunL.alloc zz39 (Wt.none rfl) rfl ?_; intro b2
  refine RunL.storeW (xs := (cPos ((⟨2, ⟨#[36, 100]⟩⟩ : Pos)))) rfl rfl (by first | ((repeat (first | (with_reducible exact F0 _) | apply F1)); done) | (repeat (first | exact F0 _ | apply F1))) sz39 (by rfl) (by rfl) (by rfl) (Wt.none rfl) ?_
  refine RunL.as rfl rfl ?_
  refine RunL.nil ?_
  refine Run.sr ?_
  refine RunL.mv rfl rfl ?_
  refine RunL.mv rfl rfl ?_
  refine RunL.split (d := 22) rfl (fun hg1 => ?_) (fun hg1 => ?_)
  rotate_left
  · try simp only [ZA, ZB, ZC, ZD, ZE, ZF, ZG, ZH, ZI, ZJ, ZK, ZL, ZM, ZN, ZO, ZP, ZQ, ZR] at hg1
    exfalso
    simp at hg1
  try simp only [ZA, ZB, ZC, ZD, ZE, ZF, ZG, ZH, ZI, ZJ, ZK, ZL, ZM, ZN, ZO, ZP, ZQ, ZR] at hg1
  refine RunL.pure (Pure.fieldAddr rfl fo39_0) (Wt.yes rfl rfl rfl) rfl rfl ?_
  first | refine RunL.load1 rfl (by first | ((repeat (first | (with_reducible exact F0 _) | apply F1)); done) | (repeat (first | exact F0 _ | apply F1))) (by rfl) agg3 (Wt.yes rfl rfl rfl) rfl ?_ | refine RunL.load1R rfl (by assumption) (by rfl) agg3 (Wt.yes rfl rfl rfl) rfl ?_
  refine RunL.pure (Pure.eql rfl rfl) (Wt.yes rfl rfl rfl) rfl rfl ?_
  refine RunL.pure (Pure.pickT rfl rfl) (Wt.none rfl) rfl rfl ?_
  refine RunL.as rfl rfl ?_
  refine RunL.nil ?_
  exact Run.ret Try.func17 (res1 rfl rfl) (by exact ⟨by simp, rfl⟩) (by repeat (first | (with_reducible exact Fin.done (by repeat (first | (with_reducible exact Rest.here) | apply Rest.there))) | (apply Fin.cons (by first | ((repeat (first | (with_reducible exact F0 _) | apply F1)); done) | (repeat (first | exact F0 _ | apply F1))))))

end Go.Proofs.Ytghmmjifmnmbgaa
