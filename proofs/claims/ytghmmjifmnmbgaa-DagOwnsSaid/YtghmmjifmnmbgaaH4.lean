/- The reference: heads. -/
import Derived.Test.YtghmmjifmnmbgaaH3
set_option linter.unusedVariables false
set_option linter.unusedSimpArgs false
set_option linter.unusedSectionVars false
namespace Go.Proofs.Ytghmmjifmnmbgaa
open Go Csl


set_option maxHeartbeats 4000000 in
set_option maxRecDepth 100000 in
theorem rdHeads_ctr {G : Gp} {D : DD} {room : ByteArray} {l : EL} (hd : HasD G D room l) (hb : l.length ≤ 1000) (hg : Csl.Good room l) :
    Ctr Try.prog G 54 [.agg (cDD D).toArray] [] (fun F v A => ∃ a c, v = .slice a (headsOf l).length c ∧ A = Sl 9 1 a (headsOf l).length c ((headsOf l).map Value.string) :: F) := by
  refine Ctr.intro Try.func54 rfl (by kernel_rfl) rfl (fun F => ?_)
  simp only [List.nil_append]
  obtain ⟨hroom, ys, hyl, hdn, hds, hdc, hdk⟩ := id hd
  have hyn := ES_len hyl
  have hes : HasES G D.l ys := ⟨hdn, hds, hdc, hdk⟩
  refine Run.sr ?_
  refine RunL.boxA (xs := (cDD D)) rfl (Wt.none rfl) rfl ?_; intro b1
  refine RunL.as rfl rfl ?_
  refine RunL.nil ?_
  refine Run.lendAll (Q := row b1 30 _) Lends.row (by first | ((repeat (first | (with_reducible exact F0 _) | apply F1)); done) | (repeat (first | exact F0 _ | apply F1))) (fun G1 hleG1 hrb1 => ?_)
  replace hd := hd.mono hleG1
  replace hds := hds.mono hleG1
  replace hdk := hdk.mono hleG1
  replace hes := hes.mono hleG1
  refine Run.sr ?_
  first | refine RunL.loadA (vs := (cDD D)) rfl (by first | ((repeat (first | (with_reducible exact F0 _) | apply F1)); done) | (repeat (first | exact F0 _ | apply F1))) agg30 sz30 (by first | exact Nat.le_of_ble_eq_true rfl | (simp; done) | (simp; omega)) rfl (Wt.none rfl) rfl ?_ | refine RunL.loadNR (vs := (cDD D)) rfl (by assumption) agg30 sz30 (by first | exact Nat.le_of_ble_eq_true rfl | (simp; done) | (simp; omega)) rfl (Wt.none rfl) rfl ?_
  refine RunL.call rfl rfl (by rfl) (by repeat (first | (with_reducible exact Take.nil _) | (apply Take.cons (by first | ((repeat (first | (with_reducible exact F0 _) | apply F1)); done) | (repeat (first | exact F0 _ | apply F1)))))) (rdAll_ctr hroom hyl hes hb hg) (Wt.none rfl) rfl ?_
  rintro _ _ ⟨az, cz, zs, hza, hzk, rfl, hA_⟩
  replace hA_ := hA_.symm; subst hA_
  refine RunL.as rfl rfl ?_
  refine RunL.nil ?_
  refine Run.lendAll (Q := Sl 24 6 az (zs).length cz ((zs).flatMap cES)) Lends.Sl (by first | ((repeat (first | (with_reducible exact F0 _) | apply F1)); done) | (repeat (first | exact F0 _ | apply F1))) (fun Ghz hleGhz hz => ?_)
  replace hd := hd.mono hleGhz
  replace hds := hds.mono hleGhz
  replace hdk := hdk.mono hleGhz
  replace hes := hes.mono hleGhz
  replace hrb1 := hrb1.mono hleGhz
  obtain ⟨hz, hzc⟩ := hz
  refine Run.sr ?_
  refine RunL.as rfl rfl ?_
  refine RunL.nil ?_
  refine Run.nilSl 9 1 ?_
  refine Run.seq ?_
  refine Run.sr ?_
  refine RunL.as rfl rfl ?_
  refine RunL.nil ?_
  refine Run.block ?_
  refine Run.keep (.cons rfl (.cons rfl (.cons rfl (.cons rfl (.nil)))) : Keep _ [1, 3, 4, 5] _) ?_
  refine Run.loopF (F := F) (fun n e_ A => ∃ (i : Nat) (a4 : Option Addr) (c4 : Nat), i ≤ zs.length ∧ n = zs.length - i ∧ e_ = [(1, .pointer (some ⟨b1, 0, none⟩)), (3, .slice az zs.length cz), (4, .slice a4 ((((allOf l).take i).filter fun v => !isPar l v.id).map (·.id)).length c4), (5, .int .i64 (i : Nat))] ∧ A = Sl 9 1 a4 ((((allOf l).take i).filter fun v => !isPar l v.id).map (·.id)).length c4 (((((allOf l).take i).filter fun v => !isPar l v.id).map (·.id)).map Value.string) :: F) (zs.length) (by exact ⟨0, none, 0, by omega, rfl, rfl, rfl⟩) (by repeat (first | (with_reducible exact Fin.done (by repeat (first | (with_reducible exact Rest.here) | apply Rest.there))) | (apply Fin.cons (by first | ((repeat (first | (with_reducible exact F0 _) | apply F1)); done) | (repeat (first | exact F0 _ | apply F1)))))) ?_
  rintro n _ _ ⟨i, a4, c4, hi, rfl, rfl, hA_⟩ ih
  replace hA_ := hA_.symm; subst hA_
  refine Run.seq ?_
  refine Run.sr ?_
  refine RunL.mv rfl rfl ?_
  refine RunL.mv rfl rfl ?_
  refine RunL.pure (Pure.lenSl rfl rfl und28) (Wt.none rfl) rfl rfl ?_
  refine RunL.pure (Pure.lss rfl rfl) (Wt.none rfl) rfl rfl ?_
  refine RunL.nil ?_
  refine Run.cond rfl (fun h1 => ?_) (fun h1 => ?_)
  · try simp only [ZA, ZB, ZC, ZD, ZE, ZF, ZG, ZH, ZI, ZJ, ZK, ZL, ZM, ZN, ZO, ZP, ZQ, ZR] at h1
    obtain ⟨z, hzi⟩ := get_some (xs := zs) (i := i) (by omega)
    obtain ⟨bz, Tz, prez, postz, hpz, hroz⟩ := hz.open1 (show 0 < zs.length by omega)
    have hzl : zs.length = l.length := by rw [← allOf_len l, ← hza, List.length_map]
    have hzv : (allOf l)[i]? = some z.1 := by rw [← hza, List.getElem?_map, hzi]; rfl
    have hol : ((((allOf l).take i).filter fun v => !isPar l v.id).map (·.id)).length ≤ (allOf l).length := by rw [List.length_map]; exact Nat.le_trans (List.length_filter_le _ _) (by rw [List.length_take]; omega)
    have hal := allOf_len l
    have ih1 := ih
    refine Run.skip ?_
    refine Run.seq ?_
    refine Run.block ?_
    refine Run.sr ?_
    refine RunL.as rfl rfl ?_
    refine RunL.nil ?_
    refine Run.seq ?_
    refine Run.sr ?_
    refine RunL.as rfl rfl ?_
    refine RunL.nil ?_
    refine Run.block ?_
    refine Run.keep (.cons rfl (.cons rfl (.cons rfl (.cons rfl (.cons rfl (.cons rfl (.nil)))))) : Keep _ [1, 3, 4, 5, 6, 7] _) ?_
    refine Run.loopF (F := F) (fun n e_ A => ∃ (k : Nat), k ≤ l.length ∧ n = l.length - k ∧ e_ = [(1, .pointer (some ⟨b1, 0, none⟩)), (3, .slice az zs.length cz), (4, .slice a4 ((((allOf l).take i).filter fun v => !isPar l v.id).map (·.id)).length c4), (5, .int .i64 (i : Nat)), (6, .bool (!isPar (l.take k) (z.1.evn z.2).id)), (7, .int .i64 (k : Nat))] ∧ A = Sl 9 1 a4 ((((allOf l).take i).filter fun v => !isPar l v.id).map (·.id)).length c4 (((((allOf l).take i).filter fun v => !isPar l v.id).map (·.id)).map Value.string) :: F) (l.length) (by exact ⟨0, by omega, rfl, by rw [show (!isPar (l.take 0) (z.1.evn z.2).id) = true from rfl]; first | done | rfl, rfl⟩) (by repeat (first | (with_reducible exact Fin.done (by repeat (first | (with_reducible exact Rest.here) | apply Rest.there))) | (apply Fin.cons (by first | ((repeat (first | (with_reducible exact F0 _) | apply F1)); done) | (repeat (first | exact F0 _ | apply F1)))))) ?_
    rintro n _ _ ⟨k, hkz, rfl, rfl, hA_⟩ ih
    replace hA_ := hA_.symm; subst hA_
    refine Run.seq ?_
    refine Run.sr ?_
    refine RunL.mv rfl rfl ?_
    refine RunL.pure (Pure.fieldAddr rfl fo30_1) (Wt.none rfl) rfl rfl ?_
    first | refine RunL.load1 rfl (by first | ((repeat (first | (with_reducible exact F0 _) | apply F1)); done) | (repeat (first | exact F0 _ | apply F1))) (by rfl) agg28 (Wt.none rfl) rfl ?_ | refine RunL.load1R rfl (by assumption) (by rfl) agg28 (Wt.none rfl) rfl ?_
    refine RunL.pure (Pure.lenSl rfl rfl und28) (Wt.none rfl) rfl rfl ?_
    refine RunL.pure (Pure.lss rfl rfl) (Wt.none rfl) rfl rfl ?_
    refine RunL.nil ?_
    refine Run.cond rfl (fun h2 => ?_) (fun h2 => ?_)
    · try simp only [ZA, ZB, ZC, ZD, ZE, ZF, ZG, ZH, ZI, ZJ, ZK, ZL, ZM, ZN, ZO, ZP, ZQ, ZR] at h2
      obtain ⟨v, hv⟩ := get_some (xs := l) (i := k) (by omega)
      obtain ⟨s, hy⟩ := ES_get hyl hv
      obtain ⟨be, Te, pree, poste, hpe, hroe⟩ := hds.open1 (show 0 < ys.length by omega)
      have hvs : (v.evn s).par.n = v.ps.length := (hdk _ (List.mem_of_getElem? hy)).1
      have hvl := evOk_len (hg.mem (List.mem_of_getElem? hv)).1
      have ih2 := ih
      refine Run.skip ?_
      refine Run.seq ?_
      refine Run.block ?_
      refine Run.sr ?_
      refine RunL.as rfl rfl ?_
      refine RunL.nil ?_
      refine Run.block ?_
      refine Run.keep (.cons rfl (.cons rfl (.cons rfl (.cons rfl (.cons rfl (.cons rfl (.cons rfl (.nil))))))) : Keep _ [1, 3, 4, 5, 6, 7, 8] _) ?_
      refine Run.loopF (F := F) (fun n e_ A => ∃ (j : Nat), j ≤ v.ps.length ∧ n = v.ps.length - j ∧ e_ = [(1, .pointer (some ⟨b1, 0, none⟩)), (3, .slice az zs.length cz), (4, .slice a4 ((((allOf l).take i).filter fun v => !isPar l v.id).map (·.id)).length c4), (5, .int .i64 (i : Nat)), (6, .bool (!isPar (l.take k) (z.1.evn z.2).id && !memB (z.1.evn z.2).id (v.ps.take (j)))), (7, .int .i64 (k : Nat)), (8, .int .i64 (j : Nat))] ∧ A = Sl 9 1 a4 ((((allOf l).take i).filter fun v => !isPar l v.id).map (·.id)).length c4 (((((allOf l).take i).filter fun v => !isPar l v.id).map (·.id)).map Value.string) :: F) (v.ps.length) (by exact ⟨0, by omega, rfl, by rw [show (!isPar (l.take k) (z.1.evn z.2).id && !memB (z.1.evn z.2).id (v.ps.take (0))) = (!isPar (l.take k) (z.1.evn z.2).id) from by simp [memB]]; first | done | rfl, rfl⟩) (by repeat (first | (with_reducible exact Fin.done (by repeat (first | (with_reducible exact Rest.here) | apply Rest.there))) | (apply Fin.cons (by first | ((repeat (first | (with_reducible exact F0 _) | apply F1)); done) | (repeat (first | exact F0 _ | apply F1)))))) ?_
      rintro n _ _ ⟨j, hj, rfl, rfl, hA_⟩ ih
      replace hA_ := hA_.symm; subst hA_
      refine Run.seq ?_
      refine Run.sr ?_
      refine RunL.mv rfl rfl ?_
      refine RunL.pure (Pure.fieldAddr rfl fo30_1) (Wt.none rfl) rfl rfl ?_
      first | refine RunL.load1 rfl (by first | ((repeat (first | (with_reducible exact F0 _) | apply F1)); done) | (repeat (first | exact F0 _ | apply F1))) (by rfl) agg28 (Wt.none rfl) rfl ?_ | refine RunL.load1R rfl (by assumption) (by rfl) agg28 (Wt.none rfl) rfl ?_
      refine RunL.mv rfl rfl ?_
      refine RunL.pure (Pure.indexAddr (opvSl rfl hpe) rfl und28 sz24 (by omega) (by omega)) (Wt.none rfl) rfl rfl ?_
      refine RunL.pure (Pure.fieldAddr rfl fo24_2) (Wt.none rfl) rfl rfl ?_
      refine RunL.load1R rfl hroe ((elem_at (pre := pree) (post := poste) (f := cES) (sz := 6) (j := 2) (fun _ _ => rfl) hy (by decide)).trans rfl) agg22 (Wt.none rfl) rfl ?_
      refine RunL.pure (Pure.lenSl rfl rfl und22) (Wt.none rfl) rfl rfl ?_
      refine RunL.pure (Pure.lss rfl rfl) (Wt.none rfl) rfl rfl ?_
      refine RunL.nil ?_
      refine Run.cond rfl (fun h3 => ?_) (fun h3 => ?_)
      · try simp only [ZA, ZB, ZC, ZD, ZE, ZF, ZG, ZH, ZI, ZJ, ZK, ZL, ZM, ZN, ZO, ZP, ZQ, ZR] at h3
        obtain ⟨q, hq⟩ := get_some (xs := v.ps) (i := j) (by omega)
        obtain ⟨bp, Tp, prep, postp, hpp, hrop⟩ := (hdk _ (List.mem_of_getElem? hy)).2.open1 (show 0 < v.ps.length by omega)
        have hmt := memB_take (x := (z.1.evn z.2).id) hq
        refine Run.skip ?_
        refine Run.seq ?_
        refine Run.block ?_
        refine Run.regionD' (by kernel_rfl) (by kernel_rfl) (fun hok114 => ?_)
        refine RunD.pure (i := 0) hok114 rfl (by kernel_rfl) (Pure.move rfl) (Wt.none rfl) rfl rfl ?_
        refine RunD.pure (i := 1) hok114 rfl (by kernel_rfl) (Pure.move rfl) (Wt.none rfl) rfl rfl ?_
        refine RunD.split (d := 36) rfl (fun h7 => ?_) (fun h7 => ?_)
        · try simp only [ZA, ZB, ZC, ZD, ZE, ZF, ZG, ZH, ZI, ZJ, ZK, ZL, ZM, ZN, ZO, ZP, ZQ, ZR] at h7
          refine RunD.pure (i := 2) hok114 rfl (by kernel_rfl) (Pure.fieldAddr rfl fo30_1) (Wt.yes rfl rfl rfl) rfl rfl ?_
          refine RunD.load1R (i := 3) hok114 rfl (by kernel_rfl) rfl (by assumption) (by rfl) agg28 (Wt.yes rfl rfl rfl) rfl ?_
          refine RunD.pure (i := 4) hok114 rfl (by kernel_rfl) (Pure.move rfl) (Wt.yes rfl rfl rfl) rfl rfl ?_
          refine RunD.pure (i := 5) hok114 rfl (by kernel_rfl) (Pure.indexAddr (opvSl rfl hpe) rfl und28 sz24 (by omega) (by omega)) (Wt.yes rfl rfl rfl) rfl rfl ?_
          refine RunD.pure (i := 6) hok114 rfl (by kernel_rfl) (Pure.fieldAddr rfl fo24_2) (Wt.yes rfl rfl rfl) rfl rfl ?_
          refine RunD.load1R (i := 7) hok114 rfl (by kernel_rfl) rfl hroe ((elem_at (pre := pree) (post := poste) (f := cES) (sz := 6) (j := 2) (fun _ _ => rfl) hy (by decide)).trans rfl) agg22 (Wt.yes rfl rfl rfl) rfl ?_
          refine RunD.pure (i := 8) hok114 rfl (by kernel_rfl) (Pure.move rfl) (Wt.yes rfl rfl rfl) rfl rfl ?_
          refine RunD.pure (i := 9) hok114 rfl (by kernel_rfl) (Pure.indexAddr (opvSl rfl hpp) rfl und22 sz9 (by omega) (by omega)) (Wt.yes rfl rfl rfl) rfl rfl ?_
          refine RunD.load1R (i := 10) hok114 rfl (by kernel_rfl) rfl hrop (elem1_at hq) agg9 (Wt.yes rfl rfl rfl) rfl ?_
          refine RunD.pure (i := 11) hok114 rfl (by kernel_rfl) (Pure.move rfl) (Wt.yes rfl rfl rfl) rfl rfl ?_
          refine RunD.pure (i := 12) hok114 rfl (by kernel_rfl) (Pure.move rfl) (Wt.yes rfl rfl rfl) rfl rfl ?_
          refine RunD.pure (i := 13) hok114 rfl (by kernel_rfl) (Pure.indexAddr (opvSl rfl hpz) rfl und28 sz24 (by omega) (by omega)) (Wt.yes rfl rfl rfl) rfl rfl ?_
          refine RunD.pure (i := 14) hok114 rfl (by kernel_rfl) (Pure.fieldAddr rfl fo24_0) (Wt.yes rfl rfl rfl) rfl rfl ?_
          refine RunD.load1R (i := 15) hok114 rfl (by kernel_rfl) rfl hroz ((elem_at (pre := prez) (post := postz) (f := cES) (sz := 6) (j := 0) (fun _ _ => rfl) hzi (by decide)).trans rfl) agg9 (Wt.yes rfl rfl rfl) rfl ?_
          refine RunD.pure (i := 16) hok114 rfl (by kernel_rfl) (Pure.sneq rfl rfl) (Wt.yes rfl rfl rfl) rfl rfl ?_
          refine RunD.pure (i := 17) hok114 rfl (by kernel_rfl) (Pure.pickT rfl rfl) (Wt.none rfl) rfl rfl ?_
          refine RunD.pure (i := 18) hok114 rfl (by kernel_rfl) (Pure.assign rfl) (Wt.none rfl) rfl rfl ?_
          refine RunD.nilR (by kernel_rfl) ?_
          refine Run.inBlock ?_
          refine Run.region ?_
          refine RunL.mv rfl rfl ?_
          first | refine RunL.pure (Pure.addI rfl rfl (by omega)) (Wt.none rfl) rfl rfl ?_ | refine RunL.pure (Pure.add rfl rfl) (Wt.none rfl) rfl rfl ?_
          refine RunL.as rfl rfl ?_
          refine RunL.nil ?_
          have ht7 : (!isPar (l.take k) (z.1.evn z.2).id && !memB (z.1.evn z.2).id (v.ps.take (j + 1))) = (!decide (bl q = bl (z.1.evn z.2).id)) := by
            rw [hmt]
            obtain ⟨h71, h72⟩ : isPar (l.take k) (z.1.evn z.2).id = false ∧ memB (z.1.evn z.2).id (v.ps.take j) = false := by simpa using h7
            rw [h71, h72]; simp [bl_iff]
          refine Run.keep (.cons rfl (.cons rfl (.cons rfl (.cons rfl (.cons rfl (.cons rfl (.cons rfl (.nil))))))) : Keep _ [1, 3, 4, 5, 6, 7, 8] _) ?_
          refine Run.againF (F := F) ih (by exact ⟨j + 1, by omega, rfl, by rw [ht7]; first | done | rfl, rfl⟩) (by repeat (first | (with_reducible exact Fin.done (by repeat (first | (with_reducible exact Rest.here) | apply Rest.there))) | (apply Fin.cons (by first | ((repeat (first | (with_reducible exact F0 _) | apply F1)); done) | (repeat (first | exact F0 _ | apply F1)))))) ?_
          omega
        · try simp only [ZA, ZB, ZC, ZD, ZE, ZF, ZG, ZH, ZI, ZJ, ZK, ZL, ZM, ZN, ZO, ZP, ZQ, ZR] at h7
          refine RunD.not (i := 2) hok114 rfl (by kernel_rfl) rfl rfl (Wt.no rfl rfl rfl) ?_
          refine RunD.not (i := 3) hok114 rfl (by kernel_rfl) rfl rfl (Wt.no rfl rfl rfl) ?_
          refine RunD.not (i := 4) hok114 rfl (by kernel_rfl) rfl rfl (Wt.no rfl rfl rfl) ?_
          refine RunD.not (i := 5) hok114 rfl (by kernel_rfl) rfl rfl (Wt.no rfl rfl rfl) ?_
          refine RunD.not (i := 6) hok114 rfl (by kernel_rfl) rfl rfl (Wt.no rfl rfl rfl) ?_
          refine RunD.not (i := 7) hok114 rfl (by kernel_rfl) rfl rfl (Wt.no rfl rfl rfl) ?_
          refine RunD.not (i := 8) hok114 rfl (by kernel_rfl) rfl rfl (Wt.no rfl rfl rfl) ?_
          refine RunD.not (i := 9) hok114 rfl (by kernel_rfl) rfl rfl (Wt.no rfl rfl rfl) ?_
          refine RunD.not (i := 10) hok114 rfl (by kernel_rfl) rfl rfl (Wt.no rfl rfl rfl) ?_
          refine RunD.not (i := 11) hok114 rfl (by kernel_rfl) rfl rfl (Wt.no rfl rfl rfl) ?_
          refine RunD.not (i := 12) hok114 rfl (by kernel_rfl) rfl rfl (Wt.no rfl rfl rfl) ?_
          refine RunD.not (i := 13) hok114 rfl (by kernel_rfl) rfl rfl (Wt.no rfl rfl rfl) ?_
          refine RunD.not (i := 14) hok114 rfl (by kernel_rfl) rfl rfl (Wt.no rfl rfl rfl) ?_
          refine RunD.not (i := 15) hok114 rfl (by kernel_rfl) rfl rfl (Wt.no rfl rfl rfl) ?_
          refine RunD.not (i := 16) hok114 rfl (by kernel_rfl) rfl rfl (Wt.no rfl rfl rfl) ?_
          refine RunD.pure (i := 17) hok114 rfl (by kernel_rfl) (Pure.pickF rfl rfl) (Wt.none rfl) rfl rfl ?_
          refine RunD.pure (i := 18) hok114 rfl (by kernel_rfl) (Pure.assign rfl) (Wt.none rfl) rfl rfl ?_
          refine RunD.nilR (by kernel_rfl) ?_
          refine Run.inBlock ?_
          refine Run.region ?_
          refine RunL.mv rfl rfl ?_
          first | refine RunL.pure (Pure.addI rfl rfl (by omega)) (Wt.none rfl) rfl rfl ?_ | refine RunL.pure (Pure.add rfl rfl) (Wt.none rfl) rfl rfl ?_
          refine RunL.as rfl rfl ?_
          refine RunL.nil ?_
          have ht7 : (!isPar (l.take k) (z.1.evn z.2).id && !memB (z.1.evn z.2).id (v.ps.take (j + 1))) = false := by
            rw [hmt]
            cases h71 : isPar (l.take k) (z.1.evn z.2).id <;> cases h72 : memB (z.1.evn z.2).id (v.ps.take j) <;> simp_all
          refine Run.keep (.cons rfl (.cons rfl (.cons rfl (.cons rfl (.cons rfl (.cons rfl (.cons rfl (.nil))))))) : Keep _ [1, 3, 4, 5, 6, 7, 8] _) ?_
          refine Run.againF (F := F) ih (by exact ⟨j + 1, by omega, rfl, by rw [ht7]; first | done | rfl, rfl⟩) (by repeat (first | (with_reducible exact Fin.done (by repeat (first | (with_reducible exact Rest.here) | apply Rest.there))) | (apply Fin.cons (by first | ((repeat (first | (with_reducible exact F0 _) | apply F1)); done) | (repeat (first | exact F0 _ | apply F1)))))) ?_
          omega
      · try simp only [ZA, ZB, ZC, ZD, ZE, ZF, ZG, ZH, ZI, ZJ, ZK, ZL, ZM, ZN, ZO, ZP, ZQ, ZR] at h3
        refine Run.exit rfl ?_
        refine Run.inBlock ?_
        refine Run.region ?_
        refine RunL.mv rfl rfl ?_
        first | refine RunL.pure (Pure.addI rfl rfl (by omega)) (Wt.none rfl) rfl rfl ?_ | refine RunL.pure (Pure.add rfl rfl) (Wt.none rfl) rfl rfl ?_
        refine RunL.as rfl rfl ?_
        refine RunL.nil ?_
        obtain rfl : j = v.ps.length := by omega
        have ih := ih2
        have ht6 : (!isPar (l.take (k + 1)) (z.1.evn z.2).id) = (!isPar (l.take k) (z.1.evn z.2).id && !memB (z.1.evn z.2).id (v.ps.take (v.ps.length))) := by rw [isPar_take _ hv, List.take_length]; simp
        refine Run.keep (.cons rfl (.cons rfl (.cons rfl (.cons rfl (.cons rfl (.cons rfl (.nil)))))) : Keep _ [1, 3, 4, 5, 6, 7] _) ?_
        refine Run.againF (F := F) ih (by exact ⟨k + 1, by omega, rfl, by rw [ht6]; first | done | rfl, rfl⟩) (by repeat (first | (with_reducible exact Fin.done (by repeat (first | (with_reducible exact Rest.here) | apply Rest.there))) | (apply Fin.cons (by first | ((repeat (first | (with_reducible exact F0 _) | apply F1)); done) | (repeat (first | exact F0 _ | apply F1)))))) ?_
        omega
    · try simp only [ZA, ZB, ZC, ZD, ZE, ZF, ZG, ZH, ZI, ZJ, ZK, ZL, ZM, ZN, ZO, ZP, ZQ, ZR] at h2
      obtain rfl : k = l.length := by omega
      have hzt : (allOf l).take (i + 1) = (allOf l).take i ++ [z.1] := by rw [List.take_add_one, hzv]; rfl
      refine Run.exit rfl ?_
      refine Run.sr ?_
      refine RunL.mv rfl rfl ?_
      refine RunL.nil ?_
      refine Run.cond rfl (fun h8 => ?_) (fun h8 => ?_)
      · try simp only [ZA, ZB, ZC, ZD, ZE, ZF, ZG, ZH, ZI, ZJ, ZK, ZL, ZM, ZN, ZO, ZP, ZQ, ZR] at h8
        refine Run.region ?_
        refine RunL.mv rfl rfl ?_
        refine RunL.mv rfl rfl ?_
        refine RunL.mv rfl rfl ?_
        refine RunL.pure (Pure.indexAddr (opvSl rfl hpz) rfl und28 sz24 (by omega) (by omega)) (Wt.none rfl) rfl rfl ?_
        refine RunL.pure (Pure.fieldAddr rfl fo24_0) (Wt.none rfl) rfl rfl ?_
        refine RunL.load1R rfl hroz ((elem_at (pre := prez) (post := postz) (f := cES) (sz := 6) (j := 0) (fun _ _ => rfl) hzi (by decide)).trans rfl) agg9 (Wt.none rfl) rfl ?_
        refine RunL.lit (vals := [_]) (vs := [_]) und22 sz9 zz9 rfl rfl rfl rfl rfl rfl (by simp [Value.cells, bv, cDD, cEvn, cGG, cNde, cPos]) rfl (Wt.none rfl) rfl ?_; intro b60
        have h8' : isPar l z.1.id = false := by rw [List.take_length] at h8; exact h8
        have hos : ((((allOf l).take (i + 1)).filter fun v => !isPar l v.id).map (·.id)) = ((((allOf l).take i).filter fun v => !isPar l v.id).map (·.id)) ++ [z.1.id] := by rw [hzt, List.filter_append, List.map_append]; simp [h8']
        refine RunL.append (m := 1) (n' := ((((allOf l).take (i + 1)).filter fun v => !isPar l v.id).map (·.id)).length) (cs' := ((((allOf l).take (i + 1)).filter fun v => !isPar l v.id).map (·.id)).map Value.string) rfl rfl (by first | ((repeat (first | (with_reducible exact F0 _) | apply F1)); done) | (repeat (first | exact F0 _ | apply F1))) rfl rfl und22 und22 rfl sz9 zz9 rfl by9 (by omega) (by first | omega | (simp; omega)) (fun w sw => sw.src) (by simp [Value.isOne]) (by rw [hos]; simp) (by rw [hos, List.map_append]; rfl) (Wt.none rfl) rfl ?_; intro a5 c5
        refine RunL.as rfl rfl ?_
        refine RunL.nil ?_
        refine Run.inBlock ?_
        refine Run.region ?_
        refine RunL.mv rfl rfl ?_
        first | refine RunL.pure (Pure.addI rfl rfl (by omega)) (Wt.none rfl) rfl rfl ?_ | refine RunL.pure (Pure.add rfl rfl) (Wt.none rfl) rfl rfl ?_
        refine RunL.as rfl rfl ?_
        refine RunL.nil ?_
        have ih := ih1
        refine Run.keep (.cons rfl (.cons rfl (.cons rfl (.cons rfl (.nil)))) : Keep _ [1, 3, 4, 5] _) ?_
        refine Run.againF (F := F) ih (by exact ⟨i + 1, a5, c5, by omega, rfl, rfl, rfl⟩) (by repeat (first | (with_reducible exact Fin.done (by repeat (first | (with_reducible exact Rest.here) | apply Rest.there))) | (apply Fin.cons (by first | ((repeat (first | (with_reducible exact F0 _) | apply F1)); done) | (repeat (first | exact F0 _ | apply F1)))))) ?_
        omega
      · try simp only [ZA, ZB, ZC, ZD, ZE, ZF, ZG, ZH, ZI, ZJ, ZK, ZL, ZM, ZN, ZO, ZP, ZQ, ZR] at h8
        refine Run.skip ?_
        refine Run.inBlock ?_
        refine Run.region ?_
        refine RunL.mv rfl rfl ?_
        first | refine RunL.pure (Pure.addI rfl rfl (by omega)) (Wt.none rfl) rfl rfl ?_ | refine RunL.pure (Pure.add rfl rfl) (Wt.none rfl) rfl rfl ?_
        refine RunL.as rfl rfl ?_
        refine RunL.nil ?_
        have ih := ih1
        have h8' : isPar l z.1.id = true := by rw [List.take_length] at h8; exact h8
        have hos : ((((allOf l).take (i + 1)).filter fun v => !isPar l v.id).map (·.id)) = ((((allOf l).take i).filter fun v => !isPar l v.id).map (·.id)) := by rw [hzt, List.filter_append, List.map_append]; simp [h8']
        refine Run.keep (.cons rfl (.cons rfl (.cons rfl (.cons rfl (.nil)))) : Keep _ [1, 3, 4, 5] _) ?_
        refine Run.againF (F := F) ih (by exact ⟨i + 1, a4, c4, by omega, rfl, by rw [hos]; first | done | rfl, by rw [hos]; first | done | rfl⟩) (by repeat (first | (with_reducible exact Fin.done (by repeat (first | (with_reducible exact Rest.here) | apply Rest.there))) | (apply Fin.cons (by first | ((repeat (first | (with_reducible exact F0 _) | apply F1)); done) | (repeat (first | exact F0 _ | apply F1)))))) ?_
        omega
  · try simp only [ZA, ZB, ZC, ZD, ZE, ZF, ZG, ZH, ZI, ZJ, ZK, ZL, ZM, ZN, ZO, ZP, ZQ, ZR] at h1
    refine Run.exit rfl ?_
    refine Run.sr ?_
    refine RunL.mv rfl rfl ?_
    refine RunL.as rfl rfl ?_
    refine RunL.nil ?_
    have hos : ((((allOf l).take i).filter fun v => !isPar l v.id).map (·.id)) = headsOf l := by unfold headsOf; rw [List.take_of_length_le (by rw [← hza, List.length_map]; omega)]
    rw [hos]
    exact Run.ret Try.func54 (res1 rfl rfl) (by exact ⟨a4, c4, rfl, rfl⟩) (by repeat (first | (with_reducible exact Fin.done (by repeat (first | (with_reducible exact Rest.here) | apply Rest.there))) | (apply Fin.cons (by first | ((repeat (first | (with_reducible exact F0 _) | apply F1)); done) | (repeat (first | exact F0 _ | apply F1))))))

end Go.Proofs.Ytghmmjifmnmbgaa
