/- The reference: what is ahead. -/
import Derived.Test.YtcmkafellcfbeaaGreatZ0
set_option linter.unusedVariables false
set_option linter.unusedSimpArgs false
set_option linter.unusedSectionVars false
namespace Go.Proofs.YtcmkafellcfbeaaGreat
open Go Csl


set_option maxHeartbeats 4000000 in
set_option maxRecDepth 100000 in
theorem rxAhead_ctr {D : DD} {room : ByteArray} {l : EL} {a : ByteArray} (hg : Csl.Good room l) (hb : l.length ≤ 1000) : ∀ (N : Nat) (G : Gp) (x : ByteArray) (_ : HasD G D room l) (_ : depthOf l x < (N : Int)),
    Ctr Tryz.prog G 14 [.agg (cDD D).toArray, .string a, .string x] [] (fun F v A => v = .bool (ancOf l x a) ∧ A = F) := by
  intro N
  induction N with
  | zero => intro G x hd hN; have := depthOf_bounds l x; omega
  | succ N IH =>
    intro G x hd hN
    obtain ⟨hroom, ys, hyl, hdn, hds, hdc, hdk⟩ := id hd
    have hyn := ES_len hyl
    have hac := at_cases l x
    refine Ctr.intro Tryz.func14 rfl (by kernel_rfl) rfl (fun F => ?_)
    simp only [List.nil_append]
    refine Run.sr ?_
    refine RunL.boxA (xs := (cDD D)) rfl (Wt.none rfl) rfl ?_; intro b3
    refine RunL.as rfl rfl ?_
    refine RunL.nil ?_
    refine Run.lendAll (Q := row b3 26 _) Lends.row (by first | ((repeat (first | (with_reducible exact F0 _) | apply F1)); done) | (repeat (first | exact F0 _ | apply F1))) (fun G3 hleG3 hrb3 => ?_)
    replace hd := hd.mono hleG3
    replace hds := hds.mono hleG3
    replace hdk := hdk.mono hleG3
    refine Run.sr ?_
    first | refine RunL.loadA (vs := (cDD D)) rfl (by first | ((repeat (first | (with_reducible exact F0 _) | apply F1)); done) | (repeat (first | exact F0 _ | apply F1))) agg26 sz26 (by first | exact Nat.le_of_ble_eq_true rfl | (simp; done) | (simp; omega)) rfl (Wt.none rfl) rfl ?_ | refine RunL.loadNR (vs := (cDD D)) rfl (by assumption) agg26 sz26 (by first | exact Nat.le_of_ble_eq_true rfl | (simp; done) | (simp; omega)) rfl (Wt.none rfl) rfl ?_
    refine RunL.mv rfl rfl ?_
    refine RunL.call rfl rfl (by rfl) (by repeat (first | (with_reducible exact Take.nil _) | (apply Take.cons (by first | ((repeat (first | (with_reducible exact F0 _) | apply F1)); done) | (repeat (first | exact F0 _ | apply F1)))))) (rdAt_ctr hd hb) (Wt.none rfl) rfl ?_
    rintro _ _ ⟨rfl, hA_⟩
    replace hA_ := hA_.symm; subst hA_
    rcases hac with ⟨h0, he⟩ | ⟨k, v, hk0, hkx, he, _, _⟩
    · skip
      rw [he]
      refine RunL.as rfl rfl ?_
      refine RunL.nil ?_
      refine Run.seq ?_
      refine Run.sr ?_
      refine RunL.mv rfl rfl ?_
      refine RunL.pure (Pure.lss rfl rfl) (Wt.none rfl) rfl rfl ?_
      refine RunL.nil ?_
      refine Run.cond rfl (fun hc1 => ?_) (fun hc1 => ?_)
      rotate_left
      · try simp only [ZA, ZB, ZC, ZD, ZE, ZF, ZG, ZH, ZI, ZJ, ZK, ZL, ZM, ZN, ZO, ZP, ZQ, ZR] at hc1
        exfalso
        first | exact hc1 (by decide) | omega
      try simp only [ZA, ZB, ZC, ZD, ZE, ZF, ZG, ZH, ZI, ZJ, ZK, ZL, ZM, ZN, ZO, ZP, ZQ, ZR] at hc1
      refine Run.sr ?_
      refine RunL.as rfl rfl ?_
      refine RunL.nil ?_
      exact Run.ret Tryz.func14 (res1 rfl rfl) (by exact ⟨by rw [ancOf_none h0], rfl⟩) (by repeat (first | (with_reducible exact Fin.done (by repeat (first | (with_reducible exact Rest.here) | apply Rest.there))) | (apply Fin.cons (by first | ((repeat (first | (with_reducible exact F0 _) | apply F1)); done) | (repeat (first | exact F0 _ | apply F1))))))
    · skip
      rw [he]
      have hkl := (List.getElem?_eq_some_iff.1 hk0).1
      obtain ⟨s, hy⟩ := ES_get hyl hk0
      have hvm := List.mem_of_getElem? hk0
      have hvs : (v.evn s).par.n = v.ps.length := (hdk _ (List.mem_of_getElem? hy)).1
      have hvl := evOk_len (hg.mem hvm).1
      obtain ⟨be, Te, pree, poste, hpe, hroe⟩ := hds.open1 (show 0 < ys.length by omega)
      refine RunL.as rfl rfl ?_
      refine RunL.nil ?_
      refine Run.seq ?_
      refine Run.sr ?_
      refine RunL.mv rfl rfl ?_
      refine RunL.pure (Pure.lss rfl rfl) (Wt.none rfl) rfl rfl ?_
      refine RunL.nil ?_
      refine Run.cond rfl (fun hc2 => ?_) (fun hc2 => ?_)
      · try simp only [ZA, ZB, ZC, ZD, ZE, ZF, ZG, ZH, ZI, ZJ, ZK, ZL, ZM, ZN, ZO, ZP, ZQ, ZR] at hc2
        exfalso
        omega
      try simp only [ZA, ZB, ZC, ZD, ZE, ZF, ZG, ZH, ZI, ZJ, ZK, ZL, ZM, ZN, ZO, ZP, ZQ, ZR] at hc2
      refine Run.skip ?_
      refine Run.seq ?_
      refine Run.sr ?_
      refine RunL.as rfl rfl ?_
      refine RunL.nil ?_
      refine Run.block ?_
      refine Run.keep (.cons rfl (.cons rfl (.cons rfl (.cons rfl (.nil)))) : Keep _ [1, 3, 7, 8] _) ?_
      refine Run.loopF (F := F) (fun n e_ A => ∃ (i : Nat), i ≤ v.ps.length ∧ ((v.ps.take i).any fun q => decide (q = a) || ancOf l q a) = false ∧ n = v.ps.length - i ∧ e_ = [(1, .string a), (3, .pointer (some ⟨b3, 0, none⟩)), (7, .int .i64 (k : Nat)), (8, .int .i64 (i : Nat))] ∧ A = F) (v.ps.length) (by exact ⟨0, by omega, rfl, rfl, rfl, rfl⟩) (by repeat (first | (with_reducible exact Fin.done (by repeat (first | (with_reducible exact Rest.here) | apply Rest.there))) | (apply Fin.cons (by first | ((repeat (first | (with_reducible exact F0 _) | apply F1)); done) | (repeat (first | exact F0 _ | apply F1)))))) ?_
      rintro n _ _ ⟨i, hi, hany, rfl, rfl, hA_⟩ ih
      replace hA_ := hA_.symm; subst hA_
      refine Run.seq ?_
      refine Run.sr ?_
      refine RunL.mv rfl rfl ?_
      refine RunL.pure (Pure.fieldAddr rfl fo26_1) (Wt.none rfl) rfl rfl ?_
      first | refine RunL.load1 rfl (by first | ((repeat (first | (with_reducible exact F0 _) | apply F1)); done) | (repeat (first | exact F0 _ | apply F1))) (by rfl) agg24 (Wt.none rfl) rfl ?_ | refine RunL.load1R rfl (by assumption) (by rfl) agg24 (Wt.none rfl) rfl ?_
      refine RunL.mv rfl rfl ?_
      refine RunL.pure (Pure.indexAddr (opvSl rfl hpe) rfl und24 sz33 (by omega) (by omega)) (Wt.none rfl) rfl rfl ?_
      refine RunL.pure (Pure.fieldAddr rfl fo33_2) (Wt.none rfl) rfl rfl ?_
      refine RunL.load1R rfl hroe ((elem_at (pre := pree) (post := poste) (f := cES) (sz := 6) (j := 2) (fun _ _ => rfl) hy (by decide)).trans rfl) agg31 (Wt.none rfl) rfl ?_
      refine RunL.pure (Pure.lenSl rfl rfl und31) (Wt.none rfl) rfl rfl ?_
      refine RunL.pure (Pure.lss rfl rfl) (Wt.none rfl) rfl rfl ?_
      refine RunL.nil ?_
      refine Run.cond rfl (fun c1 => ?_) (fun c1 => ?_)
      · try simp only [ZA, ZB, ZC, ZD, ZE, ZF, ZG, ZH, ZI, ZJ, ZK, ZL, ZM, ZN, ZO, ZP, ZQ, ZR] at c1
        obtain ⟨q, hq⟩ := get_some (xs := v.ps) (i := i) (by omega)
        obtain ⟨bp, Tp, prep, postp, hpp, hrop⟩ := (hdk _ (List.mem_of_getElem? hy)).2.open1 (show 0 < v.ps.length by omega)
        have hless := hg.less hvm (List.mem_of_getElem? hq)
        refine Run.skip ?_
        refine Run.seq ?_
        refine Run.block ?_
        refine Run.sr ?_
        refine RunL.pure (Pure.fieldAddr rfl fo26_1) (Wt.none rfl) rfl rfl ?_
        first | refine RunL.load1 rfl (by first | ((repeat (first | (with_reducible exact F0 _) | apply F1)); done) | (repeat (first | exact F0 _ | apply F1))) (by rfl) agg24 (Wt.none rfl) rfl ?_ | refine RunL.load1R rfl (by assumption) (by rfl) agg24 (Wt.none rfl) rfl ?_
        refine RunL.mv rfl rfl ?_
        refine RunL.pure (Pure.indexAddr (opvSl rfl hpe) rfl und24 sz33 (by omega) (by omega)) (Wt.none rfl) rfl rfl ?_
        refine RunL.pure (Pure.fieldAddr rfl fo33_2) (Wt.none rfl) rfl rfl ?_
        refine RunL.load1R rfl hroe ((elem_at (pre := pree) (post := poste) (f := cES) (sz := 6) (j := 2) (fun _ _ => rfl) hy (by decide)).trans rfl) agg31 (Wt.none rfl) rfl ?_
        refine RunL.mv rfl rfl ?_
        refine RunL.pure (Pure.indexAddr (opvSl rfl hpp) rfl und31 sz9 (by omega) (by omega)) (Wt.none rfl) rfl rfl ?_
        refine RunL.load1R rfl hrop (elem1_at hq) agg9 (Wt.none rfl) rfl ?_
        refine RunL.as rfl rfl ?_
        refine RunL.nil ?_
        refine Run.seq ?_
        refine Run.sr ?_
        refine RunL.mv rfl rfl ?_
        refine RunL.mv rfl rfl ?_
        refine RunL.pure (Pure.seql rfl rfl) (Wt.none rfl) rfl rfl ?_
        refine RunL.nil ?_
        refine Run.cond rfl (fun c2 => ?_) (fun c2 => ?_)
        · try simp only [ZA, ZB, ZC, ZD, ZE, ZF, ZG, ZH, ZI, ZJ, ZK, ZL, ZM, ZN, ZO, ZP, ZQ, ZR] at c2
          refine Run.sr ?_
          refine RunL.as rfl rfl ?_
          refine RunL.nil ?_
          exact Run.ret Tryz.func14 (res1 rfl rfl) (by exact ⟨by rw [anc_yes hg hk0 hkx hq (.inl (bl_inj c2))], rfl⟩) (by repeat (first | (with_reducible exact Fin.done (by repeat (first | (with_reducible exact Rest.here) | apply Rest.there))) | (apply Fin.cons (by first | ((repeat (first | (with_reducible exact F0 _) | apply F1)); done) | (repeat (first | exact F0 _ | apply F1))))))
        · try simp only [ZA, ZB, ZC, ZD, ZE, ZF, ZG, ZH, ZI, ZJ, ZK, ZL, ZM, ZN, ZO, ZP, ZQ, ZR] at c2
          refine Run.skip ?_
          refine Run.sr ?_
          first | refine RunL.loadA (vs := (cDD D)) rfl (by first | ((repeat (first | (with_reducible exact F0 _) | apply F1)); done) | (repeat (first | exact F0 _ | apply F1))) agg26 sz26 (by first | exact Nat.le_of_ble_eq_true rfl | (simp; done) | (simp; omega)) rfl (Wt.none rfl) rfl ?_ | refine RunL.loadNR (vs := (cDD D)) rfl (by assumption) agg26 sz26 (by first | exact Nat.le_of_ble_eq_true rfl | (simp; done) | (simp; omega)) rfl (Wt.none rfl) rfl ?_
          refine RunL.mv rfl rfl ?_
          refine RunL.mv rfl rfl ?_
          refine RunL.call rfl rfl (by rfl) (by repeat (first | (with_reducible exact Take.nil _) | (apply Take.cons (by first | ((repeat (first | (with_reducible exact F0 _) | apply F1)); done) | (repeat (first | exact F0 _ | apply F1)))))) (IH _ q hd (by rw [hkx] at hless; omega)) (Wt.none rfl) rfl ?_
          rintro _ _ ⟨rfl, hA_⟩
          replace hA_ := hA_.symm; subst hA_
          refine RunL.as rfl rfl ?_
          refine RunL.nil ?_
          refine Run.sr ?_
          refine RunL.mv rfl rfl ?_
          refine RunL.nil ?_
          refine Run.cond rfl (fun c3 => ?_) (fun c3 => ?_)
          · try simp only [ZA, ZB, ZC, ZD, ZE, ZF, ZG, ZH, ZI, ZJ, ZK, ZL, ZM, ZN, ZO, ZP, ZQ, ZR] at c3
            refine Run.sr ?_
            refine RunL.as rfl rfl ?_
            refine RunL.nil ?_
            exact Run.ret Tryz.func14 (res1 rfl rfl) (by exact ⟨by rw [anc_yes hg hk0 hkx hq (.inr c3)], rfl⟩) (by repeat (first | (with_reducible exact Fin.done (by repeat (first | (with_reducible exact Rest.here) | apply Rest.there))) | (apply Fin.cons (by first | ((repeat (first | (with_reducible exact F0 _) | apply F1)); done) | (repeat (first | exact F0 _ | apply F1))))))
          · try simp only [ZA, ZB, ZC, ZD, ZE, ZF, ZG, ZH, ZI, ZJ, ZK, ZL, ZM, ZN, ZO, ZP, ZQ, ZR] at c3
            refine Run.skip ?_
            refine Run.inBlock ?_
            refine Run.region ?_
            refine RunL.mv rfl rfl ?_
            first | refine RunL.pure (Pure.addI rfl rfl (by omega)) (Wt.none rfl) rfl rfl ?_ | refine RunL.pure (Pure.add rfl rfl) (Wt.none rfl) rfl rfl ?_
            refine RunL.as rfl rfl ?_
            refine RunL.nil ?_
            refine Run.keep (.cons rfl (.cons rfl (.cons rfl (.cons rfl (.nil)))) : Keep _ [1, 3, 7, 8] _) ?_
            refine Run.againF (F := F) ih (by exact ⟨i + 1, by omega, anc_next hq hany (fun z => c2 (by rw [z])) (by simpa using c3), rfl, rfl, rfl⟩) (by repeat (first | (with_reducible exact Fin.done (by repeat (first | (with_reducible exact Rest.here) | apply Rest.there))) | (apply Fin.cons (by first | ((repeat (first | (with_reducible exact F0 _) | apply F1)); done) | (repeat (first | exact F0 _ | apply F1)))))) ?_
            omega
      · try simp only [ZA, ZB, ZC, ZD, ZE, ZF, ZG, ZH, ZI, ZJ, ZK, ZL, ZM, ZN, ZO, ZP, ZQ, ZR] at c1
        refine Run.exit rfl ?_
        refine Run.sr ?_
        refine RunL.as rfl rfl ?_
        refine RunL.nil ?_
        exact Run.ret Tryz.func14 (res1 rfl rfl) (by exact ⟨by rw [anc_no hg hk0 hkx (by omega) hany], rfl⟩) (by repeat (first | (with_reducible exact Fin.done (by repeat (first | (with_reducible exact Rest.here) | apply Rest.there))) | (apply Fin.cons (by first | ((repeat (first | (with_reducible exact F0 _) | apply F1)); done) | (repeat (first | exact F0 _ | apply F1))))))

theorem rdAhead_ctr {G : Gp} {D : DD} {room : ByteArray} {l : EL} (hd : HasD G D room l) (hg : Csl.Good room l) (hb : l.length ≤ 1000) {a b : ByteArray} : Ctr Tryz.prog G 14 [.agg (cDD D).toArray, .string a, .string b] [] (fun F v A => v = .bool (ancOf l b a) ∧ A = F) := rxAhead_ctr hg hb (l.length + 1) G b hd (by have := depthOf_bounds l b; omega)
end Go.Proofs.YtcmkafellcfbeaaGreat
