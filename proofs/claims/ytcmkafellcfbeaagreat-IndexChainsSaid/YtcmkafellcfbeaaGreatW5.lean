/- Chains. -/
import Derived.Test.YtcmkafellcfbeaaGreatW1
set_option linter.unusedVariables false
set_option linter.unusedSimpArgs false
set_option linter.unusedSectionVars false
namespace Go.Proofs.YtcmkafellcfbeaaGreat
open Go Csl


set_option maxHeartbeats 8000000 in
set_option maxRecDepth 100000 in
theorem IndexChains_ctr {G : Gp} {ag : Option Addr} {cg : Nat} {gs : List GG} (hgs : SlR G 79 4 ag gs.length (gs.flatMap cGG)) (hgi : GsIn G gs)  :
    Ctr Tryz.prog G 7 [.slice ag gs.length cg] [] (fun F v A => v = .bool true ∧ A = F) := by
  refine Ctr.intro Tryz.func7 rfl (by kernel_rfl) rfl (fun F => ?_)
  simp only [List.nil_append]
  obtain ⟨xs, hxs, hgx⟩ := hgi
  have hgsx : SlR G 79 4 ag xs.length (xs.flatMap cGX) := by rw [← hxs, List.length_map, gx_flat] at hgs; exact hgs
  have hgl : gs.length = xs.length := by rw [← hxs, List.length_map]
  have hmg := madeL_good (room := (⟨#[33, 114, 58, 115, 49]⟩ : ByteArray)) (by decide +kernel) xs
  have hml := madeL_len (⟨#[33, 114, 58, 115, 49]⟩ : ByteArray) xs
  have hmf : ∀ v ∈ (madeL (⟨#[33, 114, 58, 115, 49]⟩ : ByteArray) xs), evWf v := madeL_wf (by decide) xs
  refine Run.sr ?_
  refine RunL.as rfl rfl ?_
  refine RunL.nil ?_
  refine Run.sr ?_
  refine RunL.mv rfl rfl ?_
  rw [hgl]
  refine RunL.call rfl rfl (by rfl) (by repeat (first | (with_reducible exact Take.nil _) | (apply Take.cons (by first | ((repeat (first | (with_reducible exact F0 _) | apply F1)); done) | (repeat (first | exact F0 _ | apply F1)))))) (bld_ctr hgsx hgx) (Wt.none rfl) rfl ?_
  rintro _ _ ⟨pd, K, D, hD, rfl, hA_⟩
  replace hA_ := hA_.symm; subst hA_
  refine RunL.mv rfl rfl ?_
  refine RunL.pure (Pure.extract rfl rfl) (Wt.none rfl) rfl rfl ?_
  refine RunL.pure (Pure.extract rfl rfl) (Wt.none rfl) rfl rfl ?_
  refine RunL.alloc zz26 (Wt.none rfl) rfl ?_; intro b4
  refine RunL.as rfl rfl ?_
  refine RunL.storeW (xs := (cDD D)) rfl rfl (by first | ((repeat (first | (with_reducible exact F0 _) | apply F1)); done) | (repeat (first | exact F0 _ | apply F1))) sz26 (by rfl) (by rfl) (by rfl) (Wt.none rfl) ?_
  refine RunL.nil ?_
  refine Run.seq ?_
  refine Run.sr ?_
  refine RunL.mv rfl rfl ?_
  refine RunL.pure (Pure.ptrEqNil rfl rfl und23) (Wt.none rfl) rfl rfl ?_
  refine RunL.nil ?_
  refine Run.condF rfl ?_
  refine Run.skip ?_
  refine Run.sr ?_
  refine RunL.mv rfl rfl ?_
  refine RunL.call rfl rfl (by rfl) (by repeat (first | (with_reducible exact Take.nil _) | (apply Take.cons (by first | ((repeat (first | (with_reducible exact F0 _) | apply F1)); done) | (repeat (first | exact F0 _ | apply F1)))))) (Ctr.lend Lends.Dg cb9 (fun G' hle hr => Of_ctr hr (by omega))) (Wt.none rfl) rfl ?_
  rintro _ _ ⟨_, rfl, p, KX, sl, ysx, hx, rfl, hA_⟩
  replace hA_ := hA_.symm; subst hA_
  refine RunL.as rfl rfl ?_
  refine RunL.nil ?_
  refine Run.lendAll (Q := Pool K) Lends.Pool (by first | ((repeat (first | (with_reducible exact F0 _) | apply F1)); done) | (repeat (first | exact F0 _ | apply F1))) (fun GhK hleGhK hK => ?_)
  replace hgsx := hgsx.mono hleGhK
  replace hgx := hgx.mono hleGhK
  have hd := HasD.hp (G' := GhK) hD hK
  obtain ⟨hroom, ys, hyl, hdn, hds, hdc, hdk⟩ := id hd
  have hyn := ES_len hyl
  have hml9 : ((madeL (⟨#[33, 114, 58, 115, 49]⟩ : ByteArray) xs)).length ≤ 9 := by omega
  refine Run.seq ?_
  refine Run.sr ?_
  refine RunL.mv rfl rfl ?_
  refine RunL.pure (Pure.ptrEqNil rfl rfl und29) (Wt.none rfl) rfl rfl ?_
  refine RunL.nil ?_
  refine Run.condF rfl ?_
  refine Run.skip ?_
  refine Run.sr ?_
  refine RunL.pure (Pure.fieldAddr rfl fo26_1) (Wt.none rfl) rfl rfl ?_
  first | refine RunL.load1 rfl (by first | ((repeat (first | (with_reducible exact F0 _) | apply F1)); done) | (repeat (first | exact F0 _ | apply F1))) (by rfl) agg24 (Wt.none rfl) rfl ?_ | refine RunL.load1R rfl (by assumption) (by rfl) agg24 (Wt.none rfl) rfl ?_
  refine RunL.pure (Pure.lenSl rfl rfl und24) (Wt.none rfl) rfl rfl ?_
  refine RunL.as rfl rfl ?_
  refine RunL.nil ?_
  refine Run.seq ?_
  refine Run.sr ?_
  refine RunL.as rfl rfl ?_
  refine RunL.nil ?_
  refine Run.block ?_
  refine Run.keep (.cons rfl (.cons rfl (.cons rfl (.cons rfl (.cons rfl (.nil))))) : Keep _ [3, 4, 5, 6, 7] _) ?_
  refine Run.loopF (F := F) (fun n e_ A => ∃ (i : Nat), i ≤ ((madeL (⟨#[33, 114, 58, 115, 49]⟩ : ByteArray) xs)).length ∧ n = ((madeL (⟨#[33, 114, 58, 115, 49]⟩ : ByteArray) xs)).length - i ∧ e_ = [(3, .pointer (some ⟨pd, 0, none⟩)), (4, .pointer (some ⟨b4, 0, none⟩)), (5, .pointer (some ⟨p, 0, none⟩)), (6, .int .i64 (D.l.n : Nat)), (7, .int .i64 (i : Nat))] ∧ A = row b4 26 (cDD D) :: Ix p (madeL (⟨#[33, 114, 58, 115, 49]⟩ : ByteArray) xs) KX sl :: Dg pd (⟨#[33, 114, 58, 115, 49]⟩ : ByteArray) (madeL (⟨#[33, 114, 58, 115, 49]⟩ : ByteArray) xs) :: F) (((madeL (⟨#[33, 114, 58, 115, 49]⟩ : ByteArray) xs)).length) (by exact ⟨0, by omega, rfl, rfl, rfl⟩) (by repeat (first | (with_reducible exact Fin.done (by repeat (first | (with_reducible exact Rest.here) | apply Rest.there))) | (apply Fin.cons (by first | ((repeat (first | (with_reducible exact F0 _) | apply F1)); done) | (repeat (first | exact F0 _ | apply F1)))))) ?_
  rintro n _ _ ⟨i, hi, rfl, rfl, hA_⟩ ih
  replace hA_ := hA_.symm; subst hA_
  refine Run.seq ?_
  refine Run.sr ?_
  refine RunL.mv rfl rfl ?_
  refine RunL.mv rfl rfl ?_
  refine RunL.pure (Pure.lss rfl rfl) (Wt.none rfl) rfl rfl ?_
  refine RunL.nil ?_
  refine Run.cond rfl (fun c1 => ?_) (fun c1 => ?_)
  · try simp only [ZA, ZB, ZC, ZD, ZE, ZF, ZG, ZH, ZI, ZJ, ZK, ZL, ZM, ZN, ZO, ZP, ZQ, ZR] at c1
    obtain ⟨v, hv⟩ := get_some (xs := (madeL (⟨#[33, 114, 58, 115, 49]⟩ : ByteArray) xs)) (i := i) (by omega)
    obtain ⟨s, hy⟩ := ES_get hyl hv
    have hvm := List.mem_of_getElem? hv
    have hym := List.mem_of_getElem? hy
    obtain ⟨be, Te, pree, poste, hpe, hroe⟩ := hds.open1 (show 0 < ys.length by omega)
    have hvs : (v.evn s).par.n = v.ps.length := (@hdk _ hym).1
    have hvl := evOk_len (hmg.mem hvm).1
    have ih1 := ih
    refine Run.skip ?_
    refine Run.seq ?_
    refine Run.block ?_
    refine Run.sr ?_
    refine RunL.as rfl rfl ?_
    refine RunL.nil ?_
    refine Run.block ?_
    refine Run.keep (.cons rfl (.cons rfl (.cons rfl (.cons rfl (.cons rfl (.cons rfl (.nil)))))) : Keep _ [3, 4, 5, 6, 7, 8] _) ?_
    refine Run.loopF (F := F) (fun n e_ A => ∃ (k : Nat), k ≤ ((madeL (⟨#[33, 114, 58, 115, 49]⟩ : ByteArray) xs)).length ∧ n = ((madeL (⟨#[33, 114, 58, 115, 49]⟩ : ByteArray) xs)).length - k ∧ e_ = [(3, .pointer (some ⟨pd, 0, none⟩)), (4, .pointer (some ⟨b4, 0, none⟩)), (5, .pointer (some ⟨p, 0, none⟩)), (6, .int .i64 (D.l.n : Nat)), (7, .int .i64 (i : Nat)), (8, .int .i64 (k : Nat))] ∧ A = row b4 26 (cDD D) :: Ix p (madeL (⟨#[33, 114, 58, 115, 49]⟩ : ByteArray) xs) KX sl :: Dg pd (⟨#[33, 114, 58, 115, 49]⟩ : ByteArray) (madeL (⟨#[33, 114, 58, 115, 49]⟩ : ByteArray) xs) :: F) (((madeL (⟨#[33, 114, 58, 115, 49]⟩ : ByteArray) xs)).length) (by exact ⟨0, by omega, rfl, rfl, rfl⟩) (by repeat (first | (with_reducible exact Fin.done (by repeat (first | (with_reducible exact Rest.here) | apply Rest.there))) | (apply Fin.cons (by first | ((repeat (first | (with_reducible exact F0 _) | apply F1)); done) | (repeat (first | exact F0 _ | apply F1)))))) ?_
    rintro n _ _ ⟨k, hk1, rfl, rfl, hA_⟩ ih
    replace hA_ := hA_.symm; subst hA_
    refine Run.seq ?_
    refine Run.sr ?_
    refine RunL.mv rfl rfl ?_
    refine RunL.mv rfl rfl ?_
    refine RunL.pure (Pure.lss rfl rfl) (Wt.none rfl) rfl rfl ?_
    refine RunL.nil ?_
    refine Run.cond rfl (fun c2 => ?_) (fun c2 => ?_)
    · try simp only [ZA, ZB, ZC, ZD, ZE, ZF, ZG, ZH, ZI, ZJ, ZK, ZL, ZM, ZN, ZO, ZP, ZQ, ZR] at c2
      obtain ⟨u, hu⟩ := get_some (xs := (madeL (⟨#[33, 114, 58, 115, 49]⟩ : ByteArray) xs)) (i := k) (by omega)
      obtain ⟨su, hyu⟩ := ES_get hyl hu
      have hum := List.mem_of_getElem? hu
      have ih2 := ih
      refine Run.skip ?_
      refine Run.seq ?_
      refine Run.block ?_
      refine Run.sr ?_
      refine RunL.pure (Pure.fieldAddr rfl fo26_1) (Wt.none rfl) rfl rfl ?_
      first | refine RunL.load1 rfl (by first | ((repeat (first | (with_reducible exact F0 _) | apply F1)); done) | (repeat (first | exact F0 _ | apply F1))) (by rfl) agg24 (Wt.none rfl) rfl ?_ | refine RunL.load1R rfl (by assumption) (by rfl) agg24 (Wt.none rfl) rfl ?_
      refine RunL.mv rfl rfl ?_
      refine RunL.pure (Pure.indexAddr (opvSl rfl hpe) rfl und24 sz33 (by omega) (by omega)) (Wt.none rfl) rfl rfl ?_
      refine RunL.pure (Pure.fieldAddr rfl fo33_0) (Wt.none rfl) rfl rfl ?_
      refine RunL.load1R rfl hroe ((elem_at (pre := pree) (post := poste) (f := cES) (sz := 6) (j := 0) (fun _ _ => rfl) hy (by decide)).trans rfl) agg9 (Wt.none rfl) rfl ?_
      refine RunL.as rfl rfl ?_
      refine RunL.nil ?_
      refine Run.sr ?_
      refine RunL.pure (Pure.fieldAddr rfl fo26_1) (Wt.none rfl) rfl rfl ?_
      first | refine RunL.load1 rfl (by first | ((repeat (first | (with_reducible exact F0 _) | apply F1)); done) | (repeat (first | exact F0 _ | apply F1))) (by rfl) agg24 (Wt.none rfl) rfl ?_ | refine RunL.load1R rfl (by assumption) (by rfl) agg24 (Wt.none rfl) rfl ?_
      refine RunL.mv rfl rfl ?_
      refine RunL.pure (Pure.indexAddr (opvSl rfl hpe) rfl und24 sz33 (by omega) (by omega)) (Wt.none rfl) rfl rfl ?_
      refine RunL.pure (Pure.fieldAddr rfl fo33_0) (Wt.none rfl) rfl rfl ?_
      refine RunL.load1R rfl hroe ((elem_at (pre := pree) (post := poste) (f := cES) (sz := 6) (j := 0) (fun _ _ => rfl) hyu (by decide)).trans rfl) agg9 (Wt.none rfl) rfl ?_
      refine RunL.as rfl rfl ?_
      refine RunL.nil ?_
      refine Run.sr ?_
      refine RunL.mv rfl rfl ?_
      refine RunL.mv rfl rfl ?_
      refine RunL.mv rfl rfl ?_
      refine RunL.call rfl rfl (by rfl) (by repeat (first | (with_reducible exact Take.nil _) | (apply Take.cons (by first | ((repeat (first | (with_reducible exact F0 _) | apply F1)); done) | (repeat (first | exact F0 _ | apply F1)))))) (Ahead_ctr (a := v.id) (b := u.id) hx) (Wt.none rfl) rfl ?_
      rintro _ _ ⟨rfl, hA_⟩
      replace hA_ := hA_.symm; subst hA_
      cases h9 : ancOf (madeL (⟨#[33, 114, 58, 115, 49]⟩ : ByteArray) xs) u.id v.id with
| false => ?_
| true => ?_
      · skip
        refine RunL.as rfl rfl ?_
        refine RunL.nil ?_
        refine Run.sr ?_
        refine RunL.mv rfl rfl ?_
        refine RunL.mv rfl rfl ?_
        refine RunL.call rfl rfl (by rfl) (by repeat (first | (with_reducible exact Take.nil _) | (apply Take.cons (by first | ((repeat (first | (with_reducible exact F0 _) | apply F1)); done) | (repeat (first | exact F0 _ | apply F1)))))) (Ctr.lend Lends.Dg cb27 (fun G' hle hr => PositionD_ctr (id := v.id) hr)) (Wt.none rfl) rfl ?_
        rintro _ _ ⟨_, rfl, rfl, hA_⟩
        replace hA_ := hA_.symm; subst hA_
        rw [posAt_in hvm, has_mem hvm]
        refine RunL.mv rfl rfl ?_
        refine RunL.pure (Pure.extract rfl rfl) (Wt.none rfl) rfl rfl ?_
        refine RunL.pure (Pure.extract rfl rfl) (Wt.none rfl) rfl rfl ?_
        refine RunL.alloc zz54 (Wt.none rfl) rfl ?_; intro b12
        refine RunL.storeW (xs := (cPos ((⟨depthOf (madeL (⟨#[33, 114, 58, 115, 49]⟩ : ByteArray) xs) v.id, v.id⟩ : Pos)))) rfl rfl (by first | ((repeat (first | (with_reducible exact F0 _) | apply F1)); done) | (repeat (first | exact F0 _ | apply F1))) sz54 (by rfl) (by rfl) (by rfl) (Wt.none rfl) ?_
        refine RunL.as rfl rfl ?_
        refine RunL.nil ?_
        refine Run.sr ?_
        refine RunL.mv rfl rfl ?_
        refine RunL.mv rfl rfl ?_
        refine RunL.call rfl rfl (by rfl) (by repeat (first | (with_reducible exact Take.nil _) | (apply Take.cons (by first | ((repeat (first | (with_reducible exact F0 _) | apply F1)); done) | (repeat (first | exact F0 _ | apply F1)))))) (Ctr.lend Lends.Dg cb27 (fun G' hle hr => PositionD_ctr (id := u.id) hr)) (Wt.none rfl) rfl ?_
        rintro _ _ ⟨_, rfl, rfl, hA_⟩
        replace hA_ := hA_.symm; subst hA_
        rw [posAt_in hum, has_mem hum]
        refine RunL.mv rfl rfl ?_
        refine RunL.pure (Pure.extract rfl rfl) (Wt.none rfl) rfl rfl ?_
        refine RunL.pure (Pure.extract rfl rfl) (Wt.none rfl) rfl rfl ?_
        refine RunL.alloc zz54 (Wt.none rfl) rfl ?_; intro b14
        refine RunL.storeW (xs := (cPos ((⟨depthOf (madeL (⟨#[33, 114, 58, 115, 49]⟩ : ByteArray) xs) u.id, u.id⟩ : Pos)))) rfl rfl (by first | ((repeat (first | (with_reducible exact F0 _) | apply F1)); done) | (repeat (first | exact F0 _ | apply F1))) sz54 (by rfl) (by rfl) (by rfl) (Wt.none rfl) ?_
        refine RunL.as rfl rfl ?_
        refine RunL.nil ?_
        refine Run.seq ?_
        refine Run.sr ?_
        refine RunL.mv rfl rfl ?_
        refine RunL.mv rfl rfl ?_
        refine RunL.split (d := 70) rfl (fun hg1 => ?_) (fun hg1 => ?_)
        · try simp only [ZA, ZB, ZC, ZD, ZE, ZF, ZG, ZH, ZI, ZJ, ZK, ZL, ZM, ZN, ZO, ZP, ZQ, ZR] at hg1
          exfalso
          first | exact hg1 rfl | exact hg1 trivial | (simp at hg1; done)
        try simp only [ZA, ZB, ZC, ZD, ZE, ZF, ZG, ZH, ZI, ZJ, ZK, ZL, ZM, ZN, ZO, ZP, ZQ, ZR] at hg1
        refine RunL.not (Wt.no rfl rfl rfl) rfl rfl ?_
        refine RunL.not (Wt.no rfl rfl rfl) rfl rfl ?_
        refine RunL.not (Wt.no rfl rfl rfl) rfl rfl ?_
        refine RunL.not (Wt.no rfl rfl rfl) rfl rfl ?_
        refine RunL.not (Wt.un rfl rfl rfl) rfl rfl ?_
        refine RunL.not (Wt.un rfl rfl rfl) rfl rfl ?_
        refine RunL.not (Wt.un rfl rfl rfl) rfl rfl ?_
        refine RunL.not (Wt.un rfl rfl rfl) rfl rfl ?_
        refine RunL.not (Wt.no rfl rfl rfl) rfl rfl ?_
        refine RunL.not (Wt.no rfl rfl rfl) rfl rfl ?_
        refine RunL.not (Wt.un rfl rfl rfl) rfl rfl ?_
        refine RunL.not (Wt.un rfl rfl rfl) rfl rfl ?_
        refine RunL.not (Wt.un rfl rfl rfl) rfl rfl ?_
        refine RunL.not (Wt.un rfl rfl rfl) rfl rfl ?_
        refine RunL.not (Wt.no rfl rfl rfl) rfl rfl ?_
        refine RunL.not (Wt.no rfl rfl rfl) rfl rfl ?_
        refine RunL.not (Wt.un rfl rfl rfl) rfl rfl ?_
        refine RunL.not (Wt.un rfl rfl rfl) rfl rfl ?_
        refine RunL.not (Wt.un rfl rfl rfl) rfl rfl ?_
        refine RunL.not (Wt.un rfl rfl rfl) rfl rfl ?_
        refine RunL.not (Wt.un rfl rfl rfl) rfl rfl ?_
        refine RunL.not (Wt.no rfl rfl rfl) rfl rfl ?_
        refine RunL.pure (Pure.pickF rfl rfl) (Wt.none rfl) rfl rfl ?_
        refine RunL.nil ?_
        refine Run.condF rfl ?_
        refine Run.skip ?_
        refine Run.sr ?_
        refine RunL.as rfl rfl ?_
        refine RunL.nil ?_
        refine Run.block ?_
        refine Run.keep (.cons rfl (.cons rfl (.cons rfl (.cons rfl (.cons rfl (.cons rfl (.cons rfl (.cons rfl (.cons rfl (.cons rfl (.nil)))))))))) : Keep _ [3, 4, 5, 6, 7, 8, 9, 10, 11, 16] _) ?_
        refine Run.loopF (F := F) (fun n e_ A => n = 0 ∧ e_ = [(3, .pointer (some ⟨pd, 0, none⟩)), (4, .pointer (some ⟨b4, 0, none⟩)), (5, .pointer (some ⟨p, 0, none⟩)), (6, .int .i64 (D.l.n : Nat)), (7, .int .i64 (i : Nat)), (8, .int .i64 (k : Nat)), (9, .string v.id), (10, .string u.id), (11, .bool false), (16, .int .i64 (0 : Nat))] ∧ A = row b4 26 (cDD D) :: Ix p (madeL (⟨#[33, 114, 58, 115, 49]⟩ : ByteArray) xs) KX sl :: Dg pd (⟨#[33, 114, 58, 115, 49]⟩ : ByteArray) (madeL (⟨#[33, 114, 58, 115, 49]⟩ : ByteArray) xs) :: F) (0) (by exact ⟨rfl, rfl, rfl⟩) (by repeat (first | (with_reducible exact Fin.done (by repeat (first | (with_reducible exact Rest.here) | apply Rest.there))) | (apply Fin.cons (by first | ((repeat (first | (with_reducible exact F0 _) | apply F1)); done) | (repeat (first | exact F0 _ | apply F1)))))) ?_
        rintro n _ _ ⟨rfl, rfl, hA_⟩ ih
        replace hA_ := hA_.symm; subst hA_
        refine Run.seq ?_
        refine Run.sr ?_
        refine RunL.mv rfl rfl ?_
        refine RunL.mv rfl rfl ?_
        refine RunL.pure (Pure.lss rfl rfl) (Wt.none rfl) rfl rfl ?_
        refine RunL.mv rfl rfl ?_
        refine RunL.split (d := 97) rfl (fun g6 => ?_) (fun g6 => ?_)
        · try simp only [ZA, ZB, ZC, ZD, ZE, ZF, ZG, ZH, ZI, ZJ, ZK, ZL, ZM, ZN, ZO, ZP, ZQ, ZR] at g6
          refine RunL.pure (Pure.move rfl) (Wt.yes rfl rfl rfl) rfl rfl ?_
          refine RunL.pure (Pure.pickT rfl rfl) (Wt.none rfl) rfl rfl ?_
          refine RunL.nil ?_
          refine Run.cond rfl (fun hc2 => ?_) (fun hc2 => ?_)
          · try simp only [ZA, ZB, ZC, ZD, ZE, ZF, ZG, ZH, ZI, ZJ, ZK, ZL, ZM, ZN, ZO, ZP, ZQ, ZR] at hc2
            exfalso
            first | exact hc2 rfl | exact hc2 trivial | (simp at hc2; done)
          try simp only [ZA, ZB, ZC, ZD, ZE, ZF, ZG, ZH, ZI, ZJ, ZK, ZL, ZM, ZN, ZO, ZP, ZQ, ZR] at hc2
          refine Run.exit rfl ?_
          refine Run.inBlock ?_
          refine Run.region ?_
          refine RunL.mv rfl rfl ?_
          first | refine RunL.pure (Pure.addI rfl rfl (by omega)) (Wt.none rfl) rfl rfl ?_ | refine RunL.pure (Pure.add rfl rfl) (Wt.none rfl) rfl rfl ?_
          refine RunL.as rfl rfl ?_
          refine RunL.nil ?_
          have ih := ih2
          refine Run.keep (.cons rfl (.cons rfl (.cons rfl (.cons rfl (.cons rfl (.cons rfl (.nil)))))) : Keep _ [3, 4, 5, 6, 7, 8] _) ?_
          refine Run.againF (F := F) ih (by exact ⟨k + 1, by omega, rfl, rfl, rfl⟩) (by repeat (first | (with_reducible exact Fin.done (by repeat (first | (with_reducible exact Rest.here) | apply Rest.there))) | (apply Fin.cons (by first | ((repeat (first | (with_reducible exact F0 _) | apply F1)); done) | (repeat (first | exact F0 _ | apply F1)))))) ?_
          omega
        · try simp only [ZA, ZB, ZC, ZD, ZE, ZF, ZG, ZH, ZI, ZJ, ZK, ZL, ZM, ZN, ZO, ZP, ZQ, ZR] at g6
          refine RunL.not (Wt.no rfl rfl rfl) rfl rfl ?_
          refine RunL.pure (Pure.pickF rfl rfl) (Wt.none rfl) rfl rfl ?_
          refine RunL.nil ?_
          refine Run.condF rfl ?_
          refine Run.exit rfl ?_
          refine Run.inBlock ?_
          refine Run.region ?_
          refine RunL.mv rfl rfl ?_
          first | refine RunL.pure (Pure.addI rfl rfl (by omega)) (Wt.none rfl) rfl rfl ?_ | refine RunL.pure (Pure.add rfl rfl) (Wt.none rfl) rfl rfl ?_
          refine RunL.as rfl rfl ?_
          refine RunL.nil ?_
          have ih := ih2
          refine Run.keep (.cons rfl (.cons rfl (.cons rfl (.cons rfl (.cons rfl (.cons rfl (.nil)))))) : Keep _ [3, 4, 5, 6, 7, 8] _) ?_
          refine Run.againF (F := F) ih (by exact ⟨k + 1, by omega, rfl, rfl, rfl⟩) (by repeat (first | (with_reducible exact Fin.done (by repeat (first | (with_reducible exact Rest.here) | apply Rest.there))) | (apply Fin.cons (by first | ((repeat (first | (with_reducible exact F0 _) | apply F1)); done) | (repeat (first | exact F0 _ | apply F1)))))) ?_
          omega
      · skip
        obtain ⟨hb1, ha1, hlt⟩ := hmg.anc_less h9
        have hne : i ≠ k := fun q => by subst q; rw [hv] at hu; cases hu; omega
        have hba : ancOf (madeL (⟨#[33, 114, 58, 115, 49]⟩ : ByteArray) xs) v.id u.id = false := by
          cases hz : ancOf (madeL (⟨#[33, 114, 58, 115, 49]⟩ : ByteArray) xs) v.id u.id with
          | false => rfl
          | true => have := (hmg.anc_less hz).2.2; omega
        refine RunL.as rfl rfl ?_
        refine RunL.nil ?_
        refine Run.sr ?_
        refine RunL.mv rfl rfl ?_
        refine RunL.mv rfl rfl ?_
        refine RunL.call rfl rfl (by rfl) (by repeat (first | (with_reducible exact Take.nil _) | (apply Take.cons (by first | ((repeat (first | (with_reducible exact F0 _) | apply F1)); done) | (repeat (first | exact F0 _ | apply F1)))))) (Ctr.lend Lends.Dg cb27 (fun G' hle hr => PositionD_ctr (id := v.id) hr)) (Wt.none rfl) rfl ?_
        rintro _ _ ⟨_, rfl, rfl, hA_⟩
        replace hA_ := hA_.symm; subst hA_
        rw [posAt_in hvm, has_mem hvm]
        refine RunL.mv rfl rfl ?_
        refine RunL.pure (Pure.extract rfl rfl) (Wt.none rfl) rfl rfl ?_
        refine RunL.pure (Pure.extract rfl rfl) (Wt.none rfl) rfl rfl ?_
        refine RunL.alloc zz54 (Wt.none rfl) rfl ?_; intro b12
        refine RunL.storeW (xs := (cPos ((⟨depthOf (madeL (⟨#[33, 114, 58, 115, 49]⟩ : ByteArray) xs) v.id, v.id⟩ : Pos)))) rfl rfl (by first | ((repeat (first | (with_reducible exact F0 _) | apply F1)); done) | (repeat (first | exact F0 _ | apply F1))) sz54 (by rfl) (by rfl) (by rfl) (Wt.none rfl) ?_
        refine RunL.as rfl rfl ?_
        refine RunL.nil ?_
        refine Run.sr ?_
        refine RunL.mv rfl rfl ?_
        refine RunL.mv rfl rfl ?_
        refine RunL.call rfl rfl (by rfl) (by repeat (first | (with_reducible exact Take.nil _) | (apply Take.cons (by first | ((repeat (first | (with_reducible exact F0 _) | apply F1)); done) | (repeat (first | exact F0 _ | apply F1)))))) (Ctr.lend Lends.Dg cb27 (fun G' hle hr => PositionD_ctr (id := u.id) hr)) (Wt.none rfl) rfl ?_
        rintro _ _ ⟨_, rfl, rfl, hA_⟩
        replace hA_ := hA_.symm; subst hA_
        rw [posAt_in hum, has_mem hum]
        refine RunL.mv rfl rfl ?_
        refine RunL.pure (Pure.extract rfl rfl) (Wt.none rfl) rfl rfl ?_
        refine RunL.pure (Pure.extract rfl rfl) (Wt.none rfl) rfl rfl ?_
        refine RunL.alloc zz54 (Wt.none rfl) rfl ?_; intro b14
        refine RunL.storeW (xs := (cPos ((⟨depthOf (madeL (⟨#[33, 114, 58, 115, 49]⟩ : ByteArray) xs) u.id, u.id⟩ : Pos)))) rfl rfl (by first | ((repeat (first | (with_reducible exact F0 _) | apply F1)); done) | (repeat (first | exact F0 _ | apply F1))) sz54 (by rfl) (by rfl) (by rfl) (Wt.none rfl) ?_
        refine RunL.as rfl rfl ?_
        refine RunL.nil ?_
        refine Run.seq ?_
        refine Run.sr ?_
        refine RunL.mv rfl rfl ?_
        refine RunL.mv rfl rfl ?_
        refine RunL.split (d := 70) rfl (fun hg3 => ?_) (fun hg3 => ?_)
        rotate_left
        · try simp only [ZA, ZB, ZC, ZD, ZE, ZF, ZG, ZH, ZI, ZJ, ZK, ZL, ZM, ZN, ZO, ZP, ZQ, ZR] at hg3
          exfalso
          first | exact hg3 rfl | exact hg3 trivial | (simp at hg3; done)
        try simp only [ZA, ZB, ZC, ZD, ZE, ZF, ZG, ZH, ZI, ZJ, ZK, ZL, ZM, ZN, ZO, ZP, ZQ, ZR] at hg3
        refine RunL.pure (Pure.move rfl) (Wt.yes rfl rfl rfl) rfl rfl ?_
        refine RunL.pure (Pure.move rfl) (Wt.yes rfl rfl rfl) rfl rfl ?_
        refine RunL.pure (Pure.eql rfl rfl) (Wt.yes rfl rfl rfl) rfl rfl ?_
        refine RunL.pure (Pure.move rfl) (Wt.yes rfl rfl rfl) rfl rfl ?_
        refine RunL.split (d := 74) rfl (fun hg4 => ?_) (fun hg4 => ?_)
        · try simp only [ZA, ZB, ZC, ZD, ZE, ZF, ZG, ZH, ZI, ZJ, ZK, ZL, ZM, ZN, ZO, ZP, ZQ, ZR] at hg4
          exfalso
          omega
        try simp only [ZA, ZB, ZC, ZD, ZE, ZF, ZG, ZH, ZI, ZJ, ZK, ZL, ZM, ZN, ZO, ZP, ZQ, ZR] at hg4
        refine RunL.pure (Pure.move rfl) (Wt.yes rfl rfl rfl) rfl rfl ?_
        refine RunL.pure (Pure.move rfl) (Wt.yes rfl rfl rfl) rfl rfl ?_
        refine RunL.pure (Pure.move rfl) (Wt.yes rfl rfl rfl) rfl rfl ?_
        refine RunL.call rfl rfl (by rfl) (by repeat (first | (with_reducible exact Take.nil _) | (apply Take.cons (by first | ((repeat (first | (with_reducible exact F0 _) | apply F1)); done) | (repeat (first | exact F0 _ | apply F1)))))) (Ahead_ctr (a := u.id) (b := v.id) hx) (Wt.yes rfl rfl rfl) rfl ?_
        rintro _ _ ⟨rfl, hA_⟩
        replace hA_ := hA_.symm; subst hA_
        rw [hba]
        refine RunL.pure (Pure.pickF rfl rfl) (Wt.yes rfl rfl rfl) rfl rfl ?_
        refine RunL.pure (Pure.move rfl) (Wt.yes rfl rfl rfl) rfl rfl ?_
        refine RunL.split (d := 80) rfl (fun hg5 => ?_) (fun hg5 => ?_)
        · try simp only [ZA, ZB, ZC, ZD, ZE, ZF, ZG, ZH, ZI, ZJ, ZK, ZL, ZM, ZN, ZO, ZP, ZQ, ZR] at hg5
          exfalso
          first | exact hg5 rfl | exact hg5 trivial | (simp at hg5; done)
        try simp only [ZA, ZB, ZC, ZD, ZE, ZF, ZG, ZH, ZI, ZJ, ZK, ZL, ZM, ZN, ZO, ZP, ZQ, ZR] at hg5
        first | refine RunL.loadA (vs := (cPos ((⟨depthOf (madeL (⟨#[33, 114, 58, 115, 49]⟩ : ByteArray) xs) v.id, v.id⟩ : Pos)))) rfl (by first | ((repeat (first | (with_reducible exact F0 _) | apply F1)); done) | (repeat (first | exact F0 _ | apply F1))) agg54 sz54 (by first | exact Nat.le_of_ble_eq_true rfl | (simp; done) | (simp; omega)) rfl (Wt.yes rfl rfl rfl) rfl ?_ | refine RunL.loadNR (vs := (cPos ((⟨depthOf (madeL (⟨#[33, 114, 58, 115, 49]⟩ : ByteArray) xs) v.id, v.id⟩ : Pos)))) rfl (by assumption) agg54 sz54 (by first | exact Nat.le_of_ble_eq_true rfl | (simp; done) | (simp; omega)) rfl (Wt.yes rfl rfl rfl) rfl ?_
        first | refine RunL.loadA (vs := (cPos ((⟨depthOf (madeL (⟨#[33, 114, 58, 115, 49]⟩ : ByteArray) xs) u.id, u.id⟩ : Pos)))) rfl (by first | ((repeat (first | (with_reducible exact F0 _) | apply F1)); done) | (repeat (first | exact F0 _ | apply F1))) agg54 sz54 (by first | exact Nat.le_of_ble_eq_true rfl | (simp; done) | (simp; omega)) rfl (Wt.yes rfl rfl rfl) rfl ?_ | refine RunL.loadNR (vs := (cPos ((⟨depthOf (madeL (⟨#[33, 114, 58, 115, 49]⟩ : ByteArray) xs) u.id, u.id⟩ : Pos)))) rfl (by assumption) agg54 sz54 (by first | exact Nat.le_of_ble_eq_true rfl | (simp; done) | (simp; omega)) rfl (Wt.yes rfl rfl rfl) rfl ?_
        refine RunL.call rfl rfl (by rfl) (by repeat (first | (with_reducible exact Take.nil _) | (apply Take.cons (by first | ((repeat (first | (with_reducible exact F0 _) | apply F1)); done) | (repeat (first | exact F0 _ | apply F1)))))) (dagCompare_ctr) (Wt.yes rfl rfl rfl) rfl ?_
        rintro _ _ ⟨rfl, hA_⟩
        replace hA_ := hA_.symm; subst hA_
        rw [cmpPos_less hlt]
        refine RunL.pure (Pure.geq rfl rfl) (Wt.yes rfl rfl rfl) rfl rfl ?_
        refine RunL.pure (Pure.pickF rfl rfl) (Wt.yes rfl rfl rfl) rfl rfl ?_
        refine RunL.pure (Pure.move rfl) (Wt.yes rfl rfl rfl) rfl rfl ?_
        refine RunL.split (d := 86) rfl (fun hg6 => ?_) (fun hg6 => ?_)
        · try simp only [ZA, ZB, ZC, ZD, ZE, ZF, ZG, ZH, ZI, ZJ, ZK, ZL, ZM, ZN, ZO, ZP, ZQ, ZR] at hg6
          exfalso
          omega
        try simp only [ZA, ZB, ZC, ZD, ZE, ZF, ZG, ZH, ZI, ZJ, ZK, ZL, ZM, ZN, ZO, ZP, ZQ, ZR] at hg6
        refine RunL.pure (Pure.fieldAddr rfl fo54_0) (Wt.yes rfl rfl rfl) rfl rfl ?_
        first | refine RunL.load1 rfl (by first | ((repeat (first | (with_reducible exact F0 _) | apply F1)); done) | (repeat (first | exact F0 _ | apply F1))) (by rfl) agg3 (Wt.yes rfl rfl rfl) rfl ?_ | refine RunL.load1R rfl (by assumption) (by rfl) agg3 (Wt.yes rfl rfl rfl) rfl ?_
        refine RunL.pure (Pure.fieldAddr rfl fo54_0) (Wt.yes rfl rfl rfl) rfl rfl ?_
        first | refine RunL.load1 rfl (by first | ((repeat (first | (with_reducible exact F0 _) | apply F1)); done) | (repeat (first | exact F0 _ | apply F1))) (by rfl) agg3 (Wt.yes rfl rfl rfl) rfl ?_ | refine RunL.load1R rfl (by assumption) (by rfl) agg3 (Wt.yes rfl rfl rfl) rfl ?_
        refine RunL.pure (Pure.geq rfl rfl) (Wt.yes rfl rfl rfl) rfl rfl ?_
        refine RunL.pure (Pure.pickF rfl rfl) (Wt.yes rfl rfl rfl) rfl rfl ?_
        refine RunL.pure (Pure.pickT rfl rfl) (Wt.none rfl) rfl rfl ?_
        refine RunL.nil ?_
        refine Run.cond rfl (fun hc7 => ?_) (fun hc7 => ?_)
        · try simp only [ZA, ZB, ZC, ZD, ZE, ZF, ZG, ZH, ZI, ZJ, ZK, ZL, ZM, ZN, ZO, ZP, ZQ, ZR] at hc7
          exfalso
          omega
        try simp only [ZA, ZB, ZC, ZD, ZE, ZF, ZG, ZH, ZI, ZJ, ZK, ZL, ZM, ZN, ZO, ZP, ZQ, ZR] at hc7
        refine Run.skip ?_
        refine Run.sr ?_
        refine RunL.as rfl rfl ?_
        refine RunL.nil ?_
        refine Run.block ?_
        refine Run.keep (.cons rfl (.cons rfl (.cons rfl (.cons rfl (.cons rfl (.cons rfl (.cons rfl (.cons rfl (.cons rfl (.cons rfl (.nil)))))))))) : Keep _ [3, 4, 5, 6, 7, 8, 9, 10, 11, 16] _) ?_
        refine Run.loopF (F := F) (fun n e_ A => ∃ (j : Nat), j ≤ ((madeL (⟨#[33, 114, 58, 115, 49]⟩ : ByteArray) xs)).length ∧ n = ((madeL (⟨#[33, 114, 58, 115, 49]⟩ : ByteArray) xs)).length - j ∧ e_ = [(3, .pointer (some ⟨pd, 0, none⟩)), (4, .pointer (some ⟨b4, 0, none⟩)), (5, .pointer (some ⟨p, 0, none⟩)), (6, .int .i64 (D.l.n : Nat)), (7, .int .i64 (i : Nat)), (8, .int .i64 (k : Nat)), (9, .string v.id), (10, .string u.id), (11, .bool true), (16, .int .i64 (j : Nat))] ∧ A = row b4 26 (cDD D) :: Ix p (madeL (⟨#[33, 114, 58, 115, 49]⟩ : ByteArray) xs) KX sl :: Dg pd (⟨#[33, 114, 58, 115, 49]⟩ : ByteArray) (madeL (⟨#[33, 114, 58, 115, 49]⟩ : ByteArray) xs) :: F) (((madeL (⟨#[33, 114, 58, 115, 49]⟩ : ByteArray) xs)).length) (by exact ⟨0, by omega, rfl, rfl, rfl⟩) (by repeat (first | (with_reducible exact Fin.done (by repeat (first | (with_reducible exact Rest.here) | apply Rest.there))) | (apply Fin.cons (by first | ((repeat (first | (with_reducible exact F0 _) | apply F1)); done) | (repeat (first | exact F0 _ | apply F1)))))) ?_
        rintro n _ _ ⟨j, hj, rfl, rfl, hA_⟩ ih
        replace hA_ := hA_.symm; subst hA_
        refine Run.seq ?_
        refine Run.sr ?_
        refine RunL.mv rfl rfl ?_
        refine RunL.mv rfl rfl ?_
        refine RunL.pure (Pure.lss rfl rfl) (Wt.none rfl) rfl rfl ?_
        refine RunL.mv rfl rfl ?_
        refine RunL.split (d := 97) rfl (fun g6 => ?_) (fun g6 => ?_)
        · try simp only [ZA, ZB, ZC, ZD, ZE, ZF, ZG, ZH, ZI, ZJ, ZK, ZL, ZM, ZN, ZO, ZP, ZQ, ZR] at g6
          obtain ⟨w, hw⟩ := get_some (xs := (madeL (⟨#[33, 114, 58, 115, 49]⟩ : ByteArray) xs)) (i := j) (by omega)
          obtain ⟨sw, hyw⟩ := ES_get hyl hw
          refine RunL.pure (Pure.move rfl) (Wt.yes rfl rfl rfl) rfl rfl ?_
          refine RunL.pure (Pure.pickT rfl rfl) (Wt.none rfl) rfl rfl ?_
          refine RunL.nil ?_
          refine Run.cond rfl (fun hc8 => ?_) (fun hc8 => ?_)
          rotate_left
          · try simp only [ZA, ZB, ZC, ZD, ZE, ZF, ZG, ZH, ZI, ZJ, ZK, ZL, ZM, ZN, ZO, ZP, ZQ, ZR] at hc8
            exfalso
            first | exact hc8 rfl | exact hc8 trivial | (simp at hc8; done)
          try simp only [ZA, ZB, ZC, ZD, ZE, ZF, ZG, ZH, ZI, ZJ, ZK, ZL, ZM, ZN, ZO, ZP, ZQ, ZR] at hc8
          refine Run.skip ?_
          refine Run.seq ?_
          refine Run.block ?_
          refine Run.sr ?_
          refine RunL.mv rfl rfl ?_
          refine RunL.mv rfl rfl ?_
          refine RunL.pure (Pure.fieldAddr rfl fo26_1) (Wt.none rfl) rfl rfl ?_
          first | refine RunL.load1 rfl (by first | ((repeat (first | (with_reducible exact F0 _) | apply F1)); done) | (repeat (first | exact F0 _ | apply F1))) (by rfl) agg24 (Wt.none rfl) rfl ?_ | refine RunL.load1R rfl (by assumption) (by rfl) agg24 (Wt.none rfl) rfl ?_
          refine RunL.mv rfl rfl ?_
          refine RunL.pure (Pure.indexAddr (opvSl rfl hpe) rfl und24 sz33 (by omega) (by omega)) (Wt.none rfl) rfl rfl ?_
          refine RunL.pure (Pure.fieldAddr rfl fo33_0) (Wt.none rfl) rfl rfl ?_
          refine RunL.load1R rfl hroe ((elem_at (pre := pree) (post := poste) (f := cES) (sz := 6) (j := 0) (fun _ _ => rfl) hyw (by decide)).trans rfl) agg9 (Wt.none rfl) rfl ?_
          refine RunL.call rfl rfl (by rfl) (by repeat (first | (with_reducible exact Take.nil _) | (apply Take.cons (by first | ((repeat (first | (with_reducible exact F0 _) | apply F1)); done) | (repeat (first | exact F0 _ | apply F1)))))) (Ahead_ctr (a := u.id) (b := w.id) hx) (Wt.none rfl) rfl ?_
          rintro _ _ ⟨rfl, hA_⟩
          replace hA_ := hA_.symm; subst hA_
          refine RunL.mv rfl rfl ?_
          refine RunL.split (d := 111) rfl (fun g7 => ?_) (fun g7 => ?_)
          · try simp only [ZA, ZB, ZC, ZD, ZE, ZF, ZG, ZH, ZI, ZJ, ZK, ZL, ZM, ZN, ZO, ZP, ZQ, ZR] at g7
            refine RunL.pure (Pure.move rfl) (Wt.yes rfl rfl rfl) rfl rfl ?_
            refine RunL.pure (Pure.move rfl) (Wt.yes rfl rfl rfl) rfl rfl ?_
            refine RunL.pure (Pure.fieldAddr rfl fo26_1) (Wt.yes rfl rfl rfl) rfl rfl ?_
            first | refine RunL.load1 rfl (by first | ((repeat (first | (with_reducible exact F0 _) | apply F1)); done) | (repeat (first | exact F0 _ | apply F1))) (by rfl) agg24 (Wt.yes rfl rfl rfl) rfl ?_ | refine RunL.load1R rfl (by assumption) (by rfl) agg24 (Wt.yes rfl rfl rfl) rfl ?_
            refine RunL.pure (Pure.move rfl) (Wt.yes rfl rfl rfl) rfl rfl ?_
            refine RunL.pure (Pure.indexAddr (opvSl rfl hpe) rfl und24 sz33 (by omega) (by omega)) (Wt.yes rfl rfl rfl) rfl rfl ?_
            refine RunL.pure (Pure.fieldAddr rfl fo33_0) (Wt.yes rfl rfl rfl) rfl rfl ?_
            refine RunL.load1R rfl hroe ((elem_at (pre := pree) (post := poste) (f := cES) (sz := 6) (j := 0) (fun _ _ => rfl) hyw (by decide)).trans rfl) agg9 (Wt.yes rfl rfl rfl) rfl ?_
            refine RunL.call rfl rfl (by rfl) (by repeat (first | (with_reducible exact Take.nil _) | (apply Take.cons (by first | ((repeat (first | (with_reducible exact F0 _) | apply F1)); done) | (repeat (first | exact F0 _ | apply F1)))))) (Ahead_ctr (a := v.id) (b := w.id) hx) (Wt.yes rfl rfl rfl) rfl ?_
            rintro _ _ ⟨rfl, hA_⟩
            replace hA_ := hA_.symm; subst hA_
            rw [hmg.anc_trans h9 g7]
            refine RunL.pure (Pure.not rfl) (Wt.yes rfl rfl rfl) rfl rfl ?_
            refine RunL.pure (Pure.pickT rfl rfl) (Wt.none rfl) rfl rfl ?_
            refine RunL.nil ?_
            refine Run.cond rfl (fun hc9 => ?_) (fun hc9 => ?_)
            · try simp only [ZA, ZB, ZC, ZD, ZE, ZF, ZG, ZH, ZI, ZJ, ZK, ZL, ZM, ZN, ZO, ZP, ZQ, ZR] at hc9
              exfalso
              first | exact hc9 rfl | exact hc9 trivial | (simp at hc9; done)
            try simp only [ZA, ZB, ZC, ZD, ZE, ZF, ZG, ZH, ZI, ZJ, ZK, ZL, ZM, ZN, ZO, ZP, ZQ, ZR] at hc9
            refine Run.skip ?_
            refine Run.inBlock ?_
            refine Run.region ?_
            refine RunL.mv rfl rfl ?_
            first | refine RunL.pure (Pure.addI rfl rfl (by omega)) (Wt.none rfl) rfl rfl ?_ | refine RunL.pure (Pure.add rfl rfl) (Wt.none rfl) rfl rfl ?_
            refine RunL.as rfl rfl ?_
            refine RunL.nil ?_
            refine Run.keep (.cons rfl (.cons rfl (.cons rfl (.cons rfl (.cons rfl (.cons rfl (.cons rfl (.cons rfl (.cons rfl (.cons rfl (.nil)))))))))) : Keep _ [3, 4, 5, 6, 7, 8, 9, 10, 11, 16] _) ?_
            refine Run.againF (F := F) ih (by exact ⟨j + 1, by omega, rfl, rfl, rfl⟩) (by repeat (first | (with_reducible exact Fin.done (by repeat (first | (with_reducible exact Rest.here) | apply Rest.there))) | (apply Fin.cons (by first | ((repeat (first | (with_reducible exact F0 _) | apply F1)); done) | (repeat (first | exact F0 _ | apply F1)))))) ?_
            omega
          · try simp only [ZA, ZB, ZC, ZD, ZE, ZF, ZG, ZH, ZI, ZJ, ZK, ZL, ZM, ZN, ZO, ZP, ZQ, ZR] at g7
            refine RunL.not (Wt.no rfl rfl rfl) rfl rfl ?_
            refine RunL.not (Wt.no rfl rfl rfl) rfl rfl ?_
            refine RunL.not (Wt.no rfl rfl rfl) rfl rfl ?_
            refine RunL.not (Wt.no rfl rfl rfl) rfl rfl ?_
            refine RunL.not (Wt.no rfl rfl rfl) rfl rfl ?_
            refine RunL.not (Wt.no rfl rfl rfl) rfl rfl ?_
            refine RunL.not (Wt.no rfl rfl rfl) rfl rfl ?_
            refine RunL.not (Wt.no rfl rfl rfl) rfl rfl ?_
            refine RunL.not (Wt.no rfl rfl rfl) rfl rfl ?_
            refine RunL.not (Wt.no rfl rfl rfl) rfl rfl ?_
            refine RunL.pure (Pure.pickF rfl rfl) (Wt.none rfl) rfl rfl ?_
            refine RunL.nil ?_
            refine Run.condF rfl ?_
            refine Run.skip ?_
            refine Run.inBlock ?_
            refine Run.region ?_
            refine RunL.mv rfl rfl ?_
            first | refine RunL.pure (Pure.addI rfl rfl (by omega)) (Wt.none rfl) rfl rfl ?_ | refine RunL.pure (Pure.add rfl rfl) (Wt.none rfl) rfl rfl ?_
            refine RunL.as rfl rfl ?_
            refine RunL.nil ?_
            refine Run.keep (.cons rfl (.cons rfl (.cons rfl (.cons rfl (.cons rfl (.cons rfl (.cons rfl (.cons rfl (.cons rfl (.cons rfl (.nil)))))))))) : Keep _ [3, 4, 5, 6, 7, 8, 9, 10, 11, 16] _) ?_
            refine Run.againF (F := F) ih (by exact ⟨j + 1, by omega, rfl, rfl, rfl⟩) (by repeat (first | (with_reducible exact Fin.done (by repeat (first | (with_reducible exact Rest.here) | apply Rest.there))) | (apply Fin.cons (by first | ((repeat (first | (with_reducible exact F0 _) | apply F1)); done) | (repeat (first | exact F0 _ | apply F1)))))) ?_
            omega
        · try simp only [ZA, ZB, ZC, ZD, ZE, ZF, ZG, ZH, ZI, ZJ, ZK, ZL, ZM, ZN, ZO, ZP, ZQ, ZR] at g6
          refine RunL.not (Wt.no rfl rfl rfl) rfl rfl ?_
          refine RunL.pure (Pure.pickF rfl rfl) (Wt.none rfl) rfl rfl ?_
          refine RunL.nil ?_
          refine Run.condF rfl ?_
          refine Run.exit rfl ?_
          refine Run.inBlock ?_
          refine Run.region ?_
          refine RunL.mv rfl rfl ?_
          first | refine RunL.pure (Pure.addI rfl rfl (by omega)) (Wt.none rfl) rfl rfl ?_ | refine RunL.pure (Pure.add rfl rfl) (Wt.none rfl) rfl rfl ?_
          refine RunL.as rfl rfl ?_
          refine RunL.nil ?_
          have ih := ih2
          refine Run.keep (.cons rfl (.cons rfl (.cons rfl (.cons rfl (.cons rfl (.cons rfl (.nil)))))) : Keep _ [3, 4, 5, 6, 7, 8] _) ?_
          refine Run.againF (F := F) ih (by exact ⟨k + 1, by omega, rfl, rfl, rfl⟩) (by repeat (first | (with_reducible exact Fin.done (by repeat (first | (with_reducible exact Rest.here) | apply Rest.there))) | (apply Fin.cons (by first | ((repeat (first | (with_reducible exact F0 _) | apply F1)); done) | (repeat (first | exact F0 _ | apply F1)))))) ?_
          omega
    · try simp only [ZA, ZB, ZC, ZD, ZE, ZF, ZG, ZH, ZI, ZJ, ZK, ZL, ZM, ZN, ZO, ZP, ZQ, ZR] at c2
      refine Run.exit rfl ?_
      refine Run.inBlock ?_
      refine Run.region ?_
      refine RunL.mv rfl rfl ?_
      first | refine RunL.pure (Pure.addI rfl rfl (by omega)) (Wt.none rfl) rfl rfl ?_ | refine RunL.pure (Pure.add rfl rfl) (Wt.none rfl) rfl rfl ?_
      refine RunL.as rfl rfl ?_
      refine RunL.nil ?_
      have ih := ih1
      refine Run.keep (.cons rfl (.cons rfl (.cons rfl (.cons rfl (.cons rfl (.nil))))) : Keep _ [3, 4, 5, 6, 7] _) ?_
      refine Run.againF (F := F) ih (by exact ⟨i + 1, by omega, rfl, rfl, rfl⟩) (by repeat (first | (with_reducible exact Fin.done (by repeat (first | (with_reducible exact Rest.here) | apply Rest.there))) | (apply Fin.cons (by first | ((repeat (first | (with_reducible exact F0 _) | apply F1)); done) | (repeat (first | exact F0 _ | apply F1)))))) ?_
      omega
  · try simp only [ZA, ZB, ZC, ZD, ZE, ZF, ZG, ZH, ZI, ZJ, ZK, ZL, ZM, ZN, ZO, ZP, ZQ, ZR] at c1
    refine Run.exit rfl ?_
    refine Run.sr ?_
    refine RunL.call rfl rfl (by rfl) (by repeat (first | (with_reducible exact Take.nil _) | (apply Take.cons (by first | ((repeat (first | (with_reducible exact F0 _) | apply F1)); done) | (repeat (first | exact F0 _ | apply F1)))))) (lives_ctr) (Wt.none rfl) rfl ?_
    rintro _ _ ⟨rfl, hA_⟩
    replace hA_ := hA_.symm; subst hA_
    refine RunL.as rfl rfl ?_
    refine RunL.nil ?_
    exact Run.ret Tryz.func7 (res1 rfl rfl) (by exact ⟨rfl, rfl⟩) (by repeat (first | (with_reducible exact Fin.done (by repeat (first | (with_reducible exact Rest.here) | apply Rest.there))) | (apply Fin.cons (by first | ((repeat (first | (with_reducible exact F0 _) | apply F1)); done) | (repeat (first | exact F0 _ | apply F1))))))

end Go.Proofs.YtcmkafellcfbeaaGreat
