/- What comes of what is added. -/
import Derived.Test.YtghmmjifmnmbgaaL1
set_option linter.unusedVariables false
set_option linter.unusedSimpArgs false
set_option linter.unusedSectionVars false
namespace Go.Proofs.Ytghmmjifmnmbgaa
open Go Csl


set_option maxHeartbeats 8000000 in
set_option maxRecDepth 100000 in
theorem DagAdds_ctr {G : Gp} {ag : Option Addr} {cg : Nat} {gs : List GG} (hgs : SlR G 66 4 ag gs.length (gs.flatMap cGG)) (hgi : GsIn G gs)  {ao : Option Addr} {co : Nat} {es : List Evn} (hes : SlR G 24 6 ao es.length (es.flatMap cEvn)) (hei : ∀ e ∈ es, okEvn e ∧ PsIn G e) {aw : Option Addr} {cw : Nat} {ws : List Int} (hws : SlR G 3 1 aw ws.length (ws.map (Value.int .i64))) (hwi : ∀ z ∈ ws, (Lit.int .i64 z).wf = true) :
    Ctr Try.prog G 7 [.slice ag gs.length cg, .slice ao es.length co, .slice aw ws.length cw] [] (fun F v A => v = .bool true ∧ A = F) := by
  refine Ctr.intro Try.func7 rfl (by kernel_rfl) rfl (fun F => ?_)
  simp only [List.nil_append]
  obtain ⟨xs, hxs, hgx⟩ := hgi
  have hgsx : SlR G 66 4 ag xs.length (xs.flatMap cGX) := by rw [← hxs, List.length_map, gx_flat] at hgs; exact hgs
  have hgl : gs.length = xs.length := by rw [← hxs, List.length_map]
  have hmg := madeL_good (room := (⟨#[33, 114, 58, 115, 49]⟩ : ByteArray)) (by decide +kernel) xs
  have hml := madeL_len (⟨#[33, 114, 58, 115, 49]⟩ : ByteArray) xs
  have hmw := madeL_sm (room := (⟨#[33, 114, 58, 115, 49]⟩ : ByteArray)) (by decide) xs
  have hmf : ∀ v ∈ (madeL (⟨#[33, 114, 58, 115, 49]⟩ : ByteArray) xs), evWf v := fun v hv => (hmw v hv).wf
  refine Run.sr ?_
  refine RunL.as rfl rfl ?_
  refine RunL.nil ?_
  refine Run.sr ?_
  refine RunL.mv rfl rfl ?_
  rw [hgl]
  refine RunL.call rfl rfl (by rfl) (by repeat (first | (with_reducible exact Take.nil _) | (apply Take.cons (by first | ((repeat (first | (with_reducible exact F0 _) | apply F1)); done) | (repeat (first | exact F0 _ | apply F1)))))) (rdMade_ctr (room := (⟨#[33, 114, 58, 115, 49]⟩ : ByteArray)) (xs := xs) (by decide +kernel) (by decide) hgsx hgx) (Wt.none rfl) rfl ?_
  rintro _ _ ⟨K, D, hD, rfl, hA_⟩
  replace hA_ := hA_.symm; subst hA_
  refine RunL.alloc zz30 (Wt.none rfl) rfl ?_; intro b7
  refine RunL.storeW (xs := (cDD D)) rfl rfl (by first | ((repeat (first | (with_reducible exact F0 _) | apply F1)); done) | (repeat (first | exact F0 _ | apply F1))) sz30 (by rfl) (by rfl) (by rfl) (Wt.none rfl) ?_
  refine RunL.nil ?_
  refine Run.sr ?_
  first | refine RunL.loadA (vs := (cDD D)) rfl (by first | ((repeat (first | (with_reducible exact F0 _) | apply F1)); done) | (repeat (first | exact F0 _ | apply F1))) agg30 sz30 (by first | exact Nat.le_of_ble_eq_true rfl | (simp; done) | (simp; omega)) rfl (Wt.none rfl) rfl ?_ | refine RunL.loadNR (vs := (cDD D)) rfl (by assumption) agg30 sz30 (by first | exact Nat.le_of_ble_eq_true rfl | (simp; done) | (simp; omega)) rfl (Wt.none rfl) rfl ?_
  refine RunL.call rfl rfl (by rfl) (by repeat (first | (with_reducible exact Take.nil _) | (apply Take.cons (by first | ((repeat (first | (with_reducible exact F0 _) | apply F1)); done) | (repeat (first | exact F0 _ | apply F1)))))) (Ctr.lend Lends.Pool cb18 (fun G' hle hK => build_ctr (HasD.hp (G' := G') hD hK) hmg hmf (by omega))) (Wt.none rfl) rfl ?_
  rintro _ _ ⟨_, rfl, p, rfl, hA_⟩
  replace hA_ := hA_.symm; subst hA_
  have hml9 : ((madeL (⟨#[33, 114, 58, 115, 49]⟩ : ByteArray) xs)).length ≤ 9 := by omega
  refine RunL.as rfl rfl ?_
  refine RunL.nil ?_
  refine Run.seq ?_
  refine Run.sr ?_
  refine RunL.mv rfl rfl ?_
  refine RunL.pure (Pure.ptrEqNil rfl rfl und36) (Wt.none rfl) rfl rfl ?_
  refine RunL.nil ?_
  refine Run.condF rfl ?_
  refine Run.skip ?_
  refine Run.seq ?_
  refine Run.sr ?_
  refine RunL.mv rfl rfl ?_
  first | refine RunL.loadA (vs := (cDD D)) rfl (by first | ((repeat (first | (with_reducible exact F0 _) | apply F1)); done) | (repeat (first | exact F0 _ | apply F1))) agg30 sz30 (by first | exact Nat.le_of_ble_eq_true rfl | (simp; done) | (simp; omega)) rfl (Wt.none rfl) rfl ?_ | refine RunL.loadNR (vs := (cDD D)) rfl (by assumption) agg30 sz30 (by first | exact Nat.le_of_ble_eq_true rfl | (simp; done) | (simp; omega)) rfl (Wt.none rfl) rfl ?_
  refine RunL.call rfl rfl (by rfl) (by repeat (first | (with_reducible exact Take.nil _) | (apply Take.cons (by first | ((repeat (first | (with_reducible exact F0 _) | apply F1)); done) | (repeat (first | exact F0 _ | apply F1)))))) (Ctr.lend2 (Q1 := Dg p (⟨#[33, 114, 58, 115, 49]⟩ : ByteArray) (madeL (⟨#[33, 114, 58, 115, 49]⟩ : ByteArray) xs)) (Q2 := Pool K) Lends.Dg Lends.Pool cb29 (fun G G' h q => DgR.mono h q) (fun G' hle hr hK => like_ctr hr (HasD.hp (G' := G') hD hK) hmg (.refl _) (by omega))) (Wt.none rfl) rfl ?_
  rintro _ _ ⟨_, rfl, rfl, hA_⟩
  replace hA_ := hA_.symm; subst hA_
  refine RunL.pure (Pure.not rfl) (Wt.none rfl) rfl rfl ?_
  refine RunL.nil ?_
  refine Run.cond rfl (fun hc1 => ?_) (fun hc1 => ?_)
  · try simp only [ZA, ZB, ZC, ZD, ZE, ZF, ZG, ZH, ZI, ZJ, ZK, ZL, ZM, ZN, ZO, ZP, ZQ, ZR] at hc1
    exfalso
    first | exact hc1 rfl | (simp at hc1; done)
  try simp only [ZA, ZB, ZC, ZD, ZE, ZF, ZG, ZH, ZI, ZJ, ZK, ZL, ZM, ZN, ZO, ZP, ZQ, ZR] at hc1
  refine Run.skip ?_
  refine Run.seq ?_
  refine Run.sr ?_
  refine RunL.as rfl rfl ?_
  refine RunL.nil ?_
  refine Run.block ?_
  refine Run.keep (.cons rfl (.cons rfl (.cons rfl (.cons rfl (.cons rfl (.nil))))) : Keep _ [1, 2, 7, 8, 9] _) ?_
  refine Run.loopF (F := F) (fun n e_ A => ∃ (i : Nat) (K : Hp) (D : DD) (l : EL), i ≤ 4 ∧ HasD (gk K) D (⟨#[33, 114, 58, 115, 49]⟩ : ByteArray) l ∧ Csl.Good (⟨#[33, 114, 58, 115, 49]⟩ : ByteArray) l ∧ l.length ≤ 9 + i ∧ (∀ v ∈ l, evSm v) ∧ n = 4 - i ∧ e_ = [(1, .slice ao es.length co), (2, .slice aw ws.length cw), (7, .pointer (some ⟨b7, 0, none⟩)), (8, .pointer (some ⟨p, 0, none⟩)), (9, .int .i64 (i : Nat))] ∧ A = row b7 30 (cDD D) :: Dg p (⟨#[33, 114, 58, 115, 49]⟩ : ByteArray) l :: Pool K :: F) (4) (by exact ⟨0, K, D, (madeL (⟨#[33, 114, 58, 115, 49]⟩ : ByteArray) xs), by omega, hD, hmg, by omega, hmw, rfl, rfl, rfl⟩) (by repeat (first | (with_reducible exact Fin.done (by repeat (first | (with_reducible exact Rest.here) | apply Rest.there))) | (apply Fin.cons (by first | ((repeat (first | (with_reducible exact F0 _) | apply F1)); done) | (repeat (first | exact F0 _ | apply F1)))))) ?_
  rintro n _ _ ⟨i, K, D, l, hi, hD, hgo, hln, hsm, rfl, rfl, hA_⟩ ih
  replace hA_ := hA_.symm; subst hA_
  refine Run.seq ?_
  refine Run.sr ?_
  refine RunL.mv rfl rfl ?_
  refine RunL.mv rfl rfl ?_
  refine RunL.pure (Pure.lenSl rfl rfl und28) (Wt.none rfl) rfl rfl ?_
  refine RunL.pure (Pure.lss rfl rfl) (Wt.none rfl) rfl rfl ?_
  refine RunL.mv rfl rfl ?_
  refine RunL.split (d := 27) rfl (fun c1 => ?_) (fun c1 => ?_)
  · try simp only [ZA, ZB, ZC, ZD, ZE, ZF, ZG, ZH, ZI, ZJ, ZK, ZL, ZM, ZN, ZO, ZP, ZQ, ZR] at c1
    refine RunL.pure (Pure.move rfl) (Wt.yes rfl rfl rfl) rfl rfl ?_
    refine RunL.pure (Pure.move rfl) (Wt.yes rfl rfl rfl) rfl rfl ?_
    refine RunL.pure (Pure.lenSl rfl rfl und55) (Wt.yes rfl rfl rfl) rfl rfl ?_
    refine RunL.pure (Pure.lss rfl rfl) (Wt.yes rfl rfl rfl) rfl rfl ?_
    refine RunL.pure (Pure.pickT rfl rfl) (Wt.none rfl) rfl rfl ?_
    refine RunL.mv rfl rfl ?_
    refine RunL.split (d := 33) rfl (fun c2 => ?_) (fun c2 => ?_)
    · try simp only [ZA, ZB, ZC, ZD, ZE, ZF, ZG, ZH, ZI, ZJ, ZK, ZL, ZM, ZN, ZO, ZP, ZQ, ZR] at c2
      refine RunL.pure (Pure.move rfl) (Wt.yes rfl rfl rfl) rfl rfl ?_
      refine RunL.pure (Pure.lss rfl rfl) (Wt.yes rfl rfl rfl) rfl rfl ?_
      refine RunL.pure (Pure.pickT rfl rfl) (Wt.none rfl) rfl rfl ?_
      refine RunL.nil ?_
      refine Run.cond rfl (fun c3 => ?_) (fun c3 => ?_)
      · try simp only [ZA, ZB, ZC, ZD, ZE, ZF, ZG, ZH, ZI, ZJ, ZK, ZL, ZM, ZN, ZO, ZP, ZQ, ZR] at c3
        obtain ⟨e, he⟩ := get_some (xs := es) (i := i) (by omega)
        obtain ⟨w, hw⟩ := get_some (xs := ws) (i := i) (by omega)
        obtain ⟨heo, ps, hp⟩ := hei e (List.mem_of_getElem? he)
        have hed := wf_i64 heo.2.2.2.2
        have hww := wf_i64 (hwi w (List.mem_of_getElem? hw))
        obtain ⟨b1_, T1_, pr1, po1, hp1, hr1⟩ := hes.open1 (show 0 < es.length by omega)
        obtain ⟨b2_, T2_, pr2, po2, hp2, hr2⟩ := hws.open1 (show 0 < ws.length by omega)
        refine Run.skip ?_
        refine Run.seq ?_
        refine Run.block ?_
        refine Run.seq ?_
        refine Run.cut (fun e_ A => ∃ (b10 : Nat) (K2 : Hp) (s : Sli), Hp.le K K2 ∧ HasPs (gk K2) ((oddEv (⟨#[33, 114, 58, 115, 49]⟩ : ByteArray) l (i : Nat) w (e.ev ps)).evn s) (oddEv (⟨#[33, 114, 58, 115, 49]⟩ : ByteArray) l (i : Nat) w (e.ev ps)).ps ∧ e_ = [(1, .slice ao es.length co), (2, .slice aw ws.length cw), (7, .pointer (some ⟨b7, 0, none⟩)), (8, .pointer (some ⟨p, 0, none⟩)), (9, .int .i64 (i : Nat)), (10, .pointer (some ⟨b10, 0, none⟩))] ∧ A = row b10 24 (cEvn ((oddEv (⟨#[33, 114, 58, 115, 49]⟩ : ByteArray) l (i : Nat) w (e.ev ps)).evn s)) :: row b7 30 (cDD D) :: Dg p (⟨#[33, 114, 58, 115, 49]⟩ : ByteArray) l :: Pool K2 :: F) (fun e A hM => ?_) (fun hk => ?_)
        · obtain ⟨b10, K2, s, hK2, hs2, rfl, hA_⟩ := hM
          replace hA_ := hA_.symm; subst hA_
          have how := (odd_sm (room := (⟨#[33, 114, 58, 115, 49]⟩ : ByteArray)) (l := l) (k := (i : Nat)) (w := w) (r := e.ev ps) (by decide) hsm hed)
          have hsm2 := add_sm (room := (⟨#[33, 114, 58, 115, 49]⟩ : ByteArray)) (l := l) hsm how
          have hlen2 := addL_len (⟨#[33, 114, 58, 115, 49]⟩ : ByteArray) l (oddEv (⟨#[33, 114, 58, 115, 49]⟩ : ByteArray) l (i : Nat) w (e.ev ps))
          refine Run.sr ?_
          first | refine RunL.loadA (vs := (cDD D)) rfl (by first | ((repeat (first | (with_reducible exact F0 _) | apply F1)); done) | (repeat (first | exact F0 _ | apply F1))) agg30 sz30 (by first | exact Nat.le_of_ble_eq_true rfl | (simp; done) | (simp; omega)) rfl (Wt.none rfl) rfl ?_ | refine RunL.loadNR (vs := (cDD D)) rfl (by assumption) agg30 sz30 (by first | exact Nat.le_of_ble_eq_true rfl | (simp; done) | (simp; omega)) rfl (Wt.none rfl) rfl ?_
          first | refine RunL.loadA (vs := (cEvn (((oddEv (⟨#[33, 114, 58, 115, 49]⟩ : ByteArray) l (i : Nat) w (e.ev ps)).evn s)))) rfl (by first | ((repeat (first | (with_reducible exact F0 _) | apply F1)); done) | (repeat (first | exact F0 _ | apply F1))) agg24 sz24 (by first | exact Nat.le_of_ble_eq_true rfl | (simp; done) | (simp; omega)) rfl (Wt.none rfl) rfl ?_ | refine RunL.loadNR (vs := (cEvn (((oddEv (⟨#[33, 114, 58, 115, 49]⟩ : ByteArray) l (i : Nat) w (e.ev ps)).evn s)))) rfl (by assumption) agg24 sz24 (by first | exact Nat.le_of_ble_eq_true rfl | (simp; done) | (simp; omega)) rfl (Wt.none rfl) rfl ?_
          refine RunL.call rfl rfl (by rfl) (by repeat (first | (with_reducible exact Take.nil _) | (apply Take.cons (by first | ((repeat (first | (with_reducible exact F0 _) | apply F1)); done) | (repeat (first | exact F0 _ | apply F1)))))) (rdAddK_ctr (e := ((oddEv (⟨#[33, 114, 58, 115, 49]⟩ : ByteArray) l (i : Nat) w (e.ev ps)).evn s)) (ps := (oddEv (⟨#[33, 114, 58, 115, 49]⟩ : ByteArray) l (i : Nat) w (e.ev ps)).ps) (HasD.hp (G' := gk K2) hD hK2) (by omega) hs2 how.wf) (Wt.none rfl) rfl ?_
          rintro _ _ ⟨K3, D3, hK3, hD3, rfl, hA_⟩
          replace hA_ := hA_.symm; subst hA_
          rw [ev_evn]
          rw [ev_evn] at hD3
          refine RunL.mv rfl rfl ?_
          refine RunL.pure (Pure.extract rfl rfl) (Wt.none rfl) rfl rfl ?_
          refine RunL.pure (Pure.extract rfl rfl) (Wt.none rfl) rfl rfl ?_
          refine RunL.alloc zz30 (Wt.none rfl) rfl ?_; intro b11
          refine RunL.storeW (xs := (cDD D3)) rfl rfl (by first | ((repeat (first | (with_reducible exact F0 _) | apply F1)); done) | (repeat (first | exact F0 _ | apply F1))) sz30 (by rfl) (by rfl) (by rfl) (Wt.none rfl) ?_
          refine RunL.as rfl rfl ?_
          refine RunL.nil ?_
          have hs3 := HasPs.hp (G' := gk K3) hs2 hK3
          refine Run.seq ?_
          refine Run.sr ?_
          refine RunL.mv rfl rfl ?_
          first | refine RunL.loadA (vs := (cEvn (((oddEv (⟨#[33, 114, 58, 115, 49]⟩ : ByteArray) l (i : Nat) w (e.ev ps)).evn s)))) rfl (by first | ((repeat (first | (with_reducible exact F0 _) | apply F1)); done) | (repeat (first | exact F0 _ | apply F1))) agg24 sz24 (by first | exact Nat.le_of_ble_eq_true rfl | (simp; done) | (simp; omega)) rfl (Wt.none rfl) rfl ?_ | refine RunL.loadNR (vs := (cEvn (((oddEv (⟨#[33, 114, 58, 115, 49]⟩ : ByteArray) l (i : Nat) w (e.ev ps)).evn s)))) rfl (by assumption) agg24 sz24 (by first | exact Nat.le_of_ble_eq_true rfl | (simp; done) | (simp; omega)) rfl (Wt.none rfl) rfl ?_
          refine RunL.call rfl rfl (by rfl) (by repeat (first | (with_reducible exact Take.nil _) | (apply Take.cons (by first | ((repeat (first | (with_reducible exact F0 _) | apply F1)); done) | (repeat (first | exact F0 _ | apply F1)))))) (Ctr.lend Lends.Pool cb25 (fun G' hle hK => Add_ctr (l := l) (e := ((oddEv (⟨#[33, 114, 58, 115, 49]⟩ : ByteArray) l (i : Nat) w (e.ev ps)).evn s)) (ps := (oddEv (⟨#[33, 114, 58, 115, 49]⟩ : ByteArray) l (i : Nat) w (e.ev ps)).ps) (HasPs.hp (G' := G') hs3 hK) how.wf (by omega))) (Wt.none rfl) rfl ?_
          rintro _ _ ⟨_, rfl, rfl, hA_⟩
          replace hA_ := hA_.symm; subst hA_
          rw [ev_evn]
          refine RunL.mv rfl rfl ?_
          refine RunL.pure (Pure.neq rfl rfl) (Wt.none rfl) rfl rfl ?_
          refine RunL.nil ?_
          refine Run.cond rfl (fun hc2 => ?_) (fun hc2 => ?_)
          · try simp only [ZA, ZB, ZC, ZD, ZE, ZF, ZG, ZH, ZI, ZJ, ZK, ZL, ZM, ZN, ZO, ZP, ZQ, ZR] at hc2
            exfalso
            first | exact hc2 rfl | (simp at hc2; done)
          try simp only [ZA, ZB, ZC, ZD, ZE, ZF, ZG, ZH, ZI, ZJ, ZK, ZL, ZM, ZN, ZO, ZP, ZQ, ZR] at hc2
          refine Run.skip ?_
          refine Run.sr ?_
          first | refine RunL.loadA (vs := (cDD D3)) rfl (by first | ((repeat (first | (with_reducible exact F0 _) | apply F1)); done) | (repeat (first | exact F0 _ | apply F1))) agg30 sz30 (by first | exact Nat.le_of_ble_eq_true rfl | (simp; done) | (simp; omega)) rfl (Wt.none rfl) rfl ?_ | refine RunL.loadNR (vs := (cDD D3)) rfl (by assumption) agg30 sz30 (by first | exact Nat.le_of_ble_eq_true rfl | (simp; done) | (simp; omega)) rfl (Wt.none rfl) rfl ?_
          refine RunL.storeW (xs := (cDD D3)) rfl rfl (by first | ((repeat (first | (with_reducible exact F0 _) | apply F1)); done) | (repeat (first | exact F0 _ | apply F1))) sz30 (by rfl) (by rfl) (by rfl) (Wt.none rfl) ?_
          refine RunL.nil ?_
          refine Run.sr ?_
          refine RunL.mv rfl rfl ?_
          first | refine RunL.loadA (vs := (cDD D3)) rfl (by first | ((repeat (first | (with_reducible exact F0 _) | apply F1)); done) | (repeat (first | exact F0 _ | apply F1))) agg30 sz30 (by first | exact Nat.le_of_ble_eq_true rfl | (simp; done) | (simp; omega)) rfl (Wt.none rfl) rfl ?_ | refine RunL.loadNR (vs := (cDD D3)) rfl (by assumption) agg30 sz30 (by first | exact Nat.le_of_ble_eq_true rfl | (simp; done) | (simp; omega)) rfl (Wt.none rfl) rfl ?_
          refine RunL.call rfl rfl (by rfl) (by repeat (first | (with_reducible exact Take.nil _) | (apply Take.cons (by first | ((repeat (first | (with_reducible exact F0 _) | apply F1)); done) | (repeat (first | exact F0 _ | apply F1)))))) (Ctr.lend2 (Q1 := Dg p (⟨#[33, 114, 58, 115, 49]⟩ : ByteArray) (addL (⟨#[33, 114, 58, 115, 49]⟩ : ByteArray) l (oddEv (⟨#[33, 114, 58, 115, 49]⟩ : ByteArray) l (i : Nat) w (e.ev ps)))) (Q2 := Pool K3) Lends.Dg Lends.Pool cb29 (fun G G' h q => DgR.mono h q) (fun G' hle hr hK => like_ctr hr (HasD.hp (G' := G') hD3 hK) hgo.add (.refl _) (by first | omega | (have := addL_len (⟨#[33, 114, 58, 115, 49]⟩ : ByteArray) l (oddEv (⟨#[33, 114, 58, 115, 49]⟩ : ByteArray) l (i : Nat) w (e.ev ps)); omega)))) (Wt.none rfl) rfl ?_
          rintro _ _ ⟨_, rfl, rfl, hA_⟩
          replace hA_ := hA_.symm; subst hA_
          refine RunL.pure (Pure.not rfl) (Wt.none rfl) rfl rfl ?_
          refine RunL.nil ?_
          refine Run.cond rfl (fun hc3 => ?_) (fun hc3 => ?_)
          · try simp only [ZA, ZB, ZC, ZD, ZE, ZF, ZG, ZH, ZI, ZJ, ZK, ZL, ZM, ZN, ZO, ZP, ZQ, ZR] at hc3
            exfalso
            first | exact hc3 rfl | (simp at hc3; done)
          try simp only [ZA, ZB, ZC, ZD, ZE, ZF, ZG, ZH, ZI, ZJ, ZK, ZL, ZM, ZN, ZO, ZP, ZQ, ZR] at hc3
          refine Run.skip ?_
          refine Run.inBlock ?_
          refine Run.region ?_
          refine RunL.mv rfl rfl ?_
          first | refine RunL.pure (Pure.addI rfl rfl (by omega)) (Wt.none rfl) rfl rfl ?_ | refine RunL.pure (Pure.add rfl rfl) (Wt.none rfl) rfl rfl ?_
          refine RunL.as rfl rfl ?_
          refine RunL.nil ?_
          refine Run.keep (.cons rfl (.cons rfl (.cons rfl (.cons rfl (.cons rfl (.nil))))) : Keep _ [1, 2, 7, 8, 9] _) ?_
          refine Run.againF (F := F) ih (by exact ⟨i + 1, K3, D3, (addL (⟨#[33, 114, 58, 115, 49]⟩ : ByteArray) l (oddEv (⟨#[33, 114, 58, 115, 49]⟩ : ByteArray) l (i : Nat) w (e.ev ps))), by omega, hD3, hgo.add, by omega, hsm2, rfl, rfl, rfl⟩) (by repeat (first | (with_reducible exact Fin.done (by repeat (first | (with_reducible exact Rest.here) | apply Rest.there))) | (apply Fin.cons (by first | ((repeat (first | (with_reducible exact F0 _) | apply F1)); done) | (repeat (first | exact F0 _ | apply F1)))))) ?_
          omega
        · skip
          refine Run.regionD' (by kernel_rfl) (by kernel_rfl) (fun hok152 => ?_)
          refine RunD.lend (Q := row b7 30 _) Lends.row (by first | ((repeat (first | (with_reducible exact F0 _) | apply F1)); done) | (repeat (first | exact F0 _ | apply F1))) ?_; intro gl1 hlegl1 hl1 backgl1
          have hgsx_gl1 := hgsx.mono hlegl1
          have hgx_gl1 := hgx.mono hlegl1
          have hes_gl1 := hes.mono hlegl1
          have hws_gl1 := hws.mono hlegl1
          have hr1_gl1 := hr1.mono hlegl1
          have hr2_gl1 := hr2.mono hlegl1
          have hp_gl1 := hp.mono hlegl1
          refine RunD.loadNR (vs := (cDD D)) (i := 0) hok152 rfl (by kernel_rfl) rfl (by assumption) agg30 sz30 (by first | exact Nat.le_of_ble_eq_true rfl | (simp; done) | (simp; omega)) rfl (Wt.none rfl) rfl ?_
          refine RunD.pure (i := 1) hok152 rfl (by kernel_rfl) (Pure.move rfl) (Wt.none rfl) rfl rfl ?_
          refine RunD.pure (i := 2) hok152 rfl (by kernel_rfl) (Pure.move rfl) (Wt.none rfl) rfl rfl ?_
          refine RunD.pure (i := 3) hok152 rfl (by kernel_rfl) (Pure.move rfl) (Wt.none rfl) rfl rfl ?_
          refine RunD.pure (i := 4) hok152 rfl (by kernel_rfl) (Pure.indexAddr (opvSl rfl hp2) rfl und55 sz3 (by omega) (by omega)) (Wt.none rfl) rfl rfl ?_
          refine RunD.load1R (i := 5) hok152 rfl (by kernel_rfl) rfl hr2_gl1 (elem1_at hw) agg3 (Wt.none rfl) rfl ?_
          refine RunD.pure (i := 6) hok152 rfl (by kernel_rfl) (Pure.move rfl) (Wt.none rfl) rfl rfl ?_
          refine RunD.pure (i := 7) hok152 rfl (by kernel_rfl) (Pure.move rfl) (Wt.none rfl) rfl rfl ?_
          refine RunD.pure (i := 8) hok152 rfl (by kernel_rfl) (Pure.indexAddr (opvSl rfl hp1) rfl und28 sz24 (by omega) (by omega)) (Wt.none rfl) rfl rfl ?_
          refine RunD.loadNR (vs := (cEvn e)) (i := 9) hok152 rfl (by kernel_rfl) rfl hr1_gl1 agg24 sz24 (elemN_len (pre := pr1) (post := po1) (f := cEvn) (sz := 6) (j := 0) (n := 6) (fun _ _ => rfl) he (by decide)) ((elemN_at (pre := pr1) (post := po1) (f := cEvn) (sz := 6) (j := 0) (n := 6) (fun _ _ => rfl) he (by decide)).trans rfl) (Wt.none rfl) rfl ?_
          refine RunD.two (i := 10) (j := 11) (by kernel_rfl) rfl rfl ?_ ?_
          · skip
            refine RunL.call rfl rfl (by rfl) (by repeat (first | (with_reducible exact Take.nil _) | (apply Take.cons (by first | ((repeat (first | (with_reducible exact F0 _) | apply F1)); done) | (repeat (first | exact F0 _ | apply F1)))))) (rdOddK_ctr (k := (i : Nat)) hD hp_gl1 (by omega) hww hed) (Wt.none rfl) rfl ?_
            rintro _ _ ⟨K2, s, hK2, hs2, rfl, hA_⟩
            replace hA_ := hA_.symm; subst hA_
            refine RunL.nilD' ?_
            refine RunD.one (i := 11) (by kernel_rfl) rfl ?_
            · skip
              refine RunL.alloc zz24 (Wt.none rfl) rfl ?_; intro b10
              refine RunL.nilD' ?_
              refine RunD.one (i := 12) (by kernel_rfl) rfl ?_
              · skip
                refine RunL.storeW (xs := (cEvn (((oddEv (⟨#[33, 114, 58, 115, 49]⟩ : ByteArray) l (i : Nat) w (e.ev ps)).evn s)))) rfl rfl (by first | ((repeat (first | (with_reducible exact F0 _) | apply F1)); done) | (repeat (first | exact F0 _ | apply F1))) sz24 (by rfl) (by rfl) (by rfl) (Wt.none rfl) ?_
                refine RunL.nilD' ?_
                refine RunD.nilB (by kernel_rfl) (fun w sw => backgl1 _ _ (sw)) ?_
                refine Run.keep (.cons rfl (.cons rfl (.cons rfl (.cons rfl (.cons rfl (.cons rfl (.nil)))))) : Keep _ [1, 2, 7, 8, 9, 10] _) ?_
                exact Run.meetF (F := F) hk (by exact ⟨b10, K2, s, hK2, hs2, rfl, rfl⟩) (by repeat (first | (with_reducible exact Fin.done (by repeat (first | (with_reducible exact Rest.here) | apply Rest.there))) | (apply Fin.cons (by first | ((repeat (first | (with_reducible exact F0 _) | apply F1)); done) | (repeat (first | exact F0 _ | apply F1))))))
          · skip
            refine RunL.alloc zz24 (Wt.none rfl) rfl ?_; intro b10
            refine RunL.nilD' ?_
            refine RunD.one (i := 10) (by kernel_rfl) rfl ?_
            · skip
              refine RunL.call rfl rfl (by rfl) (by repeat (first | (with_reducible exact Take.nil _) | (apply Take.cons (by first | ((repeat (first | (with_reducible exact F0 _) | apply F1)); done) | (repeat (first | exact F0 _ | apply F1)))))) (rdOddK_ctr (k := (i : Nat)) hD hp_gl1 (by omega) hww hed) (Wt.none rfl) rfl ?_
              rintro _ _ ⟨K2, s, hK2, hs2, rfl, hA_⟩
              replace hA_ := hA_.symm; subst hA_
              refine RunL.nilD' ?_
              refine RunD.one (i := 12) (by kernel_rfl) rfl ?_
              · skip
                refine RunL.storeW (xs := (cEvn (((oddEv (⟨#[33, 114, 58, 115, 49]⟩ : ByteArray) l (i : Nat) w (e.ev ps)).evn s)))) rfl rfl (by first | ((repeat (first | (with_reducible exact F0 _) | apply F1)); done) | (repeat (first | exact F0 _ | apply F1))) sz24 (by rfl) (by rfl) (by rfl) (Wt.none rfl) ?_
                refine RunL.nilD' ?_
                refine RunD.nilB (by kernel_rfl) (fun w sw => backgl1 _ _ (sw)) ?_
                refine Run.keep (.cons rfl (.cons rfl (.cons rfl (.cons rfl (.cons rfl (.cons rfl (.nil)))))) : Keep _ [1, 2, 7, 8, 9, 10] _) ?_
                exact Run.meetF (F := F) hk (by exact ⟨b10, K2, s, hK2, hs2, rfl, rfl⟩) (by repeat (first | (with_reducible exact Fin.done (by repeat (first | (with_reducible exact Rest.here) | apply Rest.there))) | (apply Fin.cons (by first | ((repeat (first | (with_reducible exact F0 _) | apply F1)); done) | (repeat (first | exact F0 _ | apply F1))))))
      · try simp only [ZA, ZB, ZC, ZD, ZE, ZF, ZG, ZH, ZI, ZJ, ZK, ZL, ZM, ZN, ZO, ZP, ZQ, ZR] at c3
        refine Run.exit rfl ?_
        refine Run.sr ?_
        refine RunL.call rfl rfl (by rfl) (by repeat (first | (with_reducible exact Take.nil _) | (apply Take.cons (by first | ((repeat (first | (with_reducible exact F0 _) | apply F1)); done) | (repeat (first | exact F0 _ | apply F1)))))) (lives_ctr) (Wt.none rfl) rfl ?_
        rintro _ _ ⟨rfl, hA_⟩
        replace hA_ := hA_.symm; subst hA_
        refine RunL.as rfl rfl ?_
        refine RunL.nil ?_
        exact Run.ret Try.func7 (res1 rfl rfl) (by exact ⟨rfl, rfl⟩) (by repeat (first | (with_reducible exact Fin.done (by repeat (first | (with_reducible exact Rest.here) | apply Rest.there))) | (apply Fin.cons (by first | ((repeat (first | (with_reducible exact F0 _) | apply F1)); done) | (repeat (first | exact F0 _ | apply F1))))))
    · try simp only [ZA, ZB, ZC, ZD, ZE, ZF, ZG, ZH, ZI, ZJ, ZK, ZL, ZM, ZN, ZO, ZP, ZQ, ZR] at c2
      refine RunL.not (Wt.no rfl rfl rfl) rfl rfl ?_
      refine RunL.not (Wt.no rfl rfl rfl) rfl rfl ?_
      refine RunL.pure (Pure.pickF rfl rfl) (Wt.none rfl) rfl rfl ?_
      refine RunL.nil ?_
      refine Run.condF rfl ?_
      refine Run.exit rfl ?_
      refine Run.sr ?_
      refine RunL.call rfl rfl (by rfl) (by repeat (first | (with_reducible exact Take.nil _) | (apply Take.cons (by first | ((repeat (first | (with_reducible exact F0 _) | apply F1)); done) | (repeat (first | exact F0 _ | apply F1)))))) (lives_ctr) (Wt.none rfl) rfl ?_
      rintro _ _ ⟨rfl, hA_⟩
      replace hA_ := hA_.symm; subst hA_
      refine RunL.as rfl rfl ?_
      refine RunL.nil ?_
      exact Run.ret Try.func7 (res1 rfl rfl) (by exact ⟨rfl, rfl⟩) (by repeat (first | (with_reducible exact Fin.done (by repeat (first | (with_reducible exact Rest.here) | apply Rest.there))) | (apply Fin.cons (by first | ((repeat (first | (with_reducible exact F0 _) | apply F1)); done) | (repeat (first | exact F0 _ | apply F1))))))
  · try simp only [ZA, ZB, ZC, ZD, ZE, ZF, ZG, ZH, ZI, ZJ, ZK, ZL, ZM, ZN, ZO, ZP, ZQ, ZR] at c1
    refine RunL.not (Wt.no rfl rfl rfl) rfl rfl ?_
    refine RunL.not (Wt.no rfl rfl rfl) rfl rfl ?_
    refine RunL.not (Wt.no rfl rfl rfl) rfl rfl ?_
    refine RunL.not (Wt.no rfl rfl rfl) rfl rfl ?_
    refine RunL.pure (Pure.pickF rfl rfl) (Wt.none rfl) rfl rfl ?_
    refine RunL.mv rfl rfl ?_
    refine RunL.not (Wt.no rfl rfl rfl) rfl rfl ?_
    refine RunL.not (Wt.no rfl rfl rfl) rfl rfl ?_
    refine RunL.pure (Pure.pickF rfl rfl) (Wt.none rfl) rfl rfl ?_
    refine RunL.nil ?_
    refine Run.condF rfl ?_
    refine Run.exit rfl ?_
    refine Run.sr ?_
    refine RunL.call rfl rfl (by rfl) (by repeat (first | (with_reducible exact Take.nil _) | (apply Take.cons (by first | ((repeat (first | (with_reducible exact F0 _) | apply F1)); done) | (repeat (first | exact F0 _ | apply F1)))))) (lives_ctr) (Wt.none rfl) rfl ?_
    rintro _ _ ⟨rfl, hA_⟩
    replace hA_ := hA_.symm; subst hA_
    refine RunL.as rfl rfl ?_
    refine RunL.nil ?_
    exact Run.ret Try.func7 (res1 rfl rfl) (by exact ⟨rfl, rfl⟩) (by repeat (first | (with_reducible exact Fin.done (by repeat (first | (with_reducible exact Rest.here) | apply Rest.there))) | (apply Fin.cons (by first | ((repeat (first | (with_reducible exact F0 _) | apply F1)); done) | (repeat (first | exact F0 _ | apply F1))))))

end Go.Proofs.Ytghmmjifmnmbgaa
