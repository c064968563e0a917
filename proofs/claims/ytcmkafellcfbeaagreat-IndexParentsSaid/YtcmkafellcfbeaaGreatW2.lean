/- Parents. -/
import Derived.Test.YtcmkafellcfbeaaGreatW1
set_option linter.unusedVariables false
set_option linter.unusedSimpArgs false
set_option linter.unusedSectionVars false
namespace Go.Proofs.YtcmkafellcfbeaaGreat
open Go Csl


set_option maxHeartbeats 8000000 in
set_option maxRecDepth 100000 in
theorem IndexParents_ctr {G : Gp} {ag : Option Addr} {cg : Nat} {gs : List GG} (hgs : SlR G 79 4 ag gs.length (gs.flatMap cGG)) (hgi : GsIn G gs)  :
    Ctr Tryz.prog G 3 [.slice ag gs.length cg] [] (fun F v A => v = .bool true ∧ A = F) := by
  refine Ctr.intro Tryz.func3 rfl (by kernel_rfl) rfl (fun F => ?_)
  simp only [List.nil_append]
  obtain ⟨xs, hxs, hgx⟩ := hgi
  have hgsx : SlR G 79 4 ag xs.length (xs.flatMap cGX) := by rw [← hxs, List.length_map, gx_flat] at hgs; exact hgs
  have hgl : gs.length = xs.length := by rw [← hxs, List.length_map]
  have hmg := madeL_good (room := (⟨#[33, 114, 58, 115, 49]⟩ : ByteArray)) (by decide +kernel) xs
  have hml := madeL_len (⟨#[33, 114, 58, 115, 49]⟩ : ByteArray) xs
  have hmf : ∀ v ∈ (madeL (⟨#[33, 114, 58, 115, 49]⟩ : ByteArray) xs), evWf v := madeL_wf (by decide) xs
  refine Run.sr ?_
  refine RunL.as rfl rfl ?_
  refine RunL.nil ?_
  refine Run.sr ?_
  refine RunL.mv rfl rfl ?_
  rw [hgl]
  refine RunL.call rfl rfl (by rfl) (by repeat (first | (with_reducible exact Take.nil _) | (apply Take.cons (by first | ((repeat (first | (with_reducible exact F0 _) | apply F1)); done) | (repeat (first | exact F0 _ | apply F1)))))) (bld_ctr hgsx hgx) (Wt.none rfl) rfl ?_
  rintro _ _ ⟨pd, K, D, hD, rfl, hA_⟩
  replace hA_ := hA_.symm; subst hA_
  refine RunL.mv rfl rfl ?_
  refine RunL.pure (Pure.extract rfl rfl) (Wt.none rfl) rfl rfl ?_
  refine RunL.pure (Pure.extract rfl rfl) (Wt.none rfl) rfl rfl ?_
  refine RunL.alloc zz26 (Wt.none rfl) rfl ?_; intro b4
  refine RunL.as rfl rfl ?_
  refine RunL.storeW (xs := (cDD D)) rfl rfl (by first | ((repeat (first | (with_reducible exact F0 _) | apply F1)); done) | (repeat (first | exact F0 _ | apply F1))) sz26 (by rfl) (by rfl) (by rfl) (Wt.none rfl) ?_
  refine RunL.nil ?_
  refine Run.seq ?_
  refine Run.sr ?_
  refine RunL.mv rfl rfl ?_
  refine RunL.pure (Pure.ptrEqNil rfl rfl und23) (Wt.none rfl) rfl rfl ?_
  refine RunL.nil ?_
  refine Run.condF rfl ?_
  refine Run.skip ?_
  refine Run.sr ?_
  refine RunL.mv rfl rfl ?_
  refine RunL.call rfl rfl (by rfl) (by repeat (first | (with_reducible exact Take.nil _) | (apply Take.cons (by first | ((repeat (first | (with_reducible exact F0 _) | apply F1)); done) | (repeat (first | exact F0 _ | apply F1)))))) (Ctr.lend Lends.Dg cb9 (fun G' hle hr => Of_ctr hr (by omega))) (Wt.none rfl) rfl ?_
  rintro _ _ ⟨_, rfl, p, KX, sl, ysx, hx, rfl, hA_⟩
  replace hA_ := hA_.symm; subst hA_
  refine RunL.as rfl rfl ?_
  refine RunL.nil ?_
  refine Run.lendAll (Q := Pool K) Lends.Pool (by first | ((repeat (first | (with_reducible exact F0 _) | apply F1)); done) | (repeat (first | exact F0 _ | apply F1))) (fun GhK hleGhK hK => ?_)
  replace hgsx := hgsx.mono hleGhK
  replace hgx := hgx.mono hleGhK
  have hd := HasD.hp (G' := GhK) hD hK
  obtain ⟨hroom, ys, hyl, hdn, hds, hdc, hdk⟩ := id hd
  have hyn := ES_len hyl
  have hml9 : ((madeL (⟨#[33, 114, 58, 115, 49]⟩ : ByteArray) xs)).length ≤ 9 := by omega
  refine Run.seq ?_
  refine Run.sr ?_
  refine RunL.mv rfl rfl ?_
  refine RunL.pure (Pure.ptrEqNil rfl rfl und29) (Wt.none rfl) rfl rfl ?_
  refine RunL.nil ?_
  refine Run.condF rfl ?_
  refine Run.skip ?_
  refine Run.seq ?_
  refine Run.sr ?_
  refine RunL.as rfl rfl ?_
  refine RunL.nil ?_
  refine Run.block ?_
  refine Run.keep (.cons rfl (.cons rfl (.cons rfl (.nil))) : Keep _ [4, 5, 6] _) ?_
  refine Run.loopF (F := F) (fun n e_ A => ∃ (i : Nat), i ≤ ((madeL (⟨#[33, 114, 58, 115, 49]⟩ : ByteArray) xs)).length ∧ n = ((madeL (⟨#[33, 114, 58, 115, 49]⟩ : ByteArray) xs)).length - i ∧ e_ = [(4, .pointer (some ⟨b4, 0, none⟩)), (5, .pointer (some ⟨p, 0, none⟩)), (6, .int .i64 (i : Nat))] ∧ A = row b4 26 (cDD D) :: Ix p (madeL (⟨#[33, 114, 58, 115, 49]⟩ : ByteArray) xs) KX sl :: F) (((madeL (⟨#[33, 114, 58, 115, 49]⟩ : ByteArray) xs)).length) (by exact ⟨0, by omega, rfl, rfl, rfl⟩) (by repeat (first | (with_reducible exact Fin.done (by repeat (first | (with_reducible exact Rest.here) | apply Rest.there))) | (apply Fin.cons (by first | ((repeat (first | (with_reducible exact F0 _) | apply F1)); done) | (repeat (first | exact F0 _ | apply F1)))))) ?_
  rintro n _ _ ⟨i, hi, rfl, rfl, hA_⟩ ih
  replace hA_ := hA_.symm; subst hA_
  refine Run.seq ?_
  refine Run.sr ?_
  refine RunL.mv rfl rfl ?_
  refine RunL.pure (Pure.fieldAddr rfl fo26_1) (Wt.none rfl) rfl rfl ?_
  first | refine RunL.load1 rfl (by first | ((repeat (first | (with_reducible exact F0 _) | apply F1)); done) | (repeat (first | exact F0 _ | apply F1))) (by rfl) agg24 (Wt.none rfl) rfl ?_ | refine RunL.load1R rfl (by assumption) (by rfl) agg24 (Wt.none rfl) rfl ?_
  refine RunL.pure (Pure.lenSl rfl rfl und24) (Wt.none rfl) rfl rfl ?_
  refine RunL.pure (Pure.lss rfl rfl) (Wt.none rfl) rfl rfl ?_
  refine RunL.nil ?_
  refine Run.cond rfl (fun c1 => ?_) (fun c1 => ?_)
  · try simp only [ZA, ZB, ZC, ZD, ZE, ZF, ZG, ZH, ZI, ZJ, ZK, ZL, ZM, ZN, ZO, ZP, ZQ, ZR] at c1
    obtain ⟨v, hv⟩ := get_some (xs := (madeL (⟨#[33, 114, 58, 115, 49]⟩ : ByteArray) xs)) (i := i) (by omega)
    obtain ⟨s, hy⟩ := ES_get hyl hv
    have hvm := List.mem_of_getElem? hv
    have hym := List.mem_of_getElem? hy
    obtain ⟨be, Te, pree, poste, hpe, hroe⟩ := hds.open1 (show 0 < ys.length by omega)
    have hvs : (v.evn s).par.n = v.ps.length := (@hdk _ hym).1
    have hvl := evOk_len (hmg.mem hvm).1
    have ih1 := ih
    refine Run.skip ?_
    refine Run.seq ?_
    refine Run.block ?_
    refine Run.sr ?_
    refine RunL.as rfl rfl ?_
    refine RunL.nil ?_
    refine Run.block ?_
    refine Run.keep (.cons rfl (.cons rfl (.cons rfl (.cons rfl (.nil)))) : Keep _ [4, 5, 6, 7] _) ?_
    refine Run.loopF (F := F) (fun n e_ A => ∃ (k : Nat), k ≤ ((madeL (⟨#[33, 114, 58, 115, 49]⟩ : ByteArray) xs)).length ∧ n = ((madeL (⟨#[33, 114, 58, 115, 49]⟩ : ByteArray) xs)).length - k ∧ e_ = [(4, .pointer (some ⟨b4, 0, none⟩)), (5, .pointer (some ⟨p, 0, none⟩)), (6, .int .i64 (i : Nat)), (7, .int .i64 (k : Nat))] ∧ A = row b4 26 (cDD D) :: Ix p (madeL (⟨#[33, 114, 58, 115, 49]⟩ : ByteArray) xs) KX sl :: F) (((madeL (⟨#[33, 114, 58, 115, 49]⟩ : ByteArray) xs)).length) (by exact ⟨0, by omega, rfl, rfl, rfl⟩) (by repeat (first | (with_reducible exact Fin.done (by repeat (first | (with_reducible exact Rest.here) | apply Rest.there))) | (apply Fin.cons (by first | ((repeat (first | (with_reducible exact F0 _) | apply F1)); done) | (repeat (first | exact F0 _ | apply F1)))))) ?_
    rintro n _ _ ⟨k, hk1, rfl, rfl, hA_⟩ ih
    replace hA_ := hA_.symm; subst hA_
    refine Run.seq ?_
    refine Run.sr ?_
    refine RunL.mv rfl rfl ?_
    refine RunL.pure (Pure.fieldAddr rfl fo26_1) (Wt.none rfl) rfl rfl ?_
    first | refine RunL.load1 rfl (by first | ((repeat (first | (with_reducible exact F0 _) | apply F1)); done) | (repeat (first | exact F0 _ | apply F1))) (by rfl) agg24 (Wt.none rfl) rfl ?_ | refine RunL.load1R rfl (by assumption) (by rfl) agg24 (Wt.none rfl) rfl ?_
    refine RunL.pure (Pure.lenSl rfl rfl und24) (Wt.none rfl) rfl rfl ?_
    refine RunL.pure (Pure.lss rfl rfl) (Wt.none rfl) rfl rfl ?_
    refine RunL.nil ?_
    refine Run.cond rfl (fun c2 => ?_) (fun c2 => ?_)
    · try simp only [ZA, ZB, ZC, ZD, ZE, ZF, ZG, ZH, ZI, ZJ, ZK, ZL, ZM, ZN, ZO, ZP, ZQ, ZR] at c2
      obtain ⟨u, hu⟩ := get_some (xs := (madeL (⟨#[33, 114, 58, 115, 49]⟩ : ByteArray) xs)) (i := k) (by omega)
      obtain ⟨su, hyu⟩ := ES_get hyl hu
      have hum := List.mem_of_getElem? hu
      have ih2 := ih
      refine Run.skip ?_
      refine Run.seq ?_
      refine Run.block ?_
      refine Run.sr ?_
      refine RunL.pure (Pure.fieldAddr rfl fo26_1) (Wt.none rfl) rfl rfl ?_
      first | refine RunL.load1 rfl (by first | ((repeat (first | (with_reducible exact F0 _) | apply F1)); done) | (repeat (first | exact F0 _ | apply F1))) (by rfl) agg24 (Wt.none rfl) rfl ?_ | refine RunL.load1R rfl (by assumption) (by rfl) agg24 (Wt.none rfl) rfl ?_
      refine RunL.mv rfl rfl ?_
      refine RunL.pure (Pure.indexAddr (opvSl rfl hpe) rfl und24 sz33 (by omega) (by omega)) (Wt.none rfl) rfl rfl ?_
      refine RunL.pure (Pure.fieldAddr rfl fo33_0) (Wt.none rfl) rfl rfl ?_
      refine RunL.load1R rfl hroe ((elem_at (pre := pree) (post := poste) (f := cES) (sz := 6) (j := 0) (fun _ _ => rfl) hyu (by decide)).trans rfl) agg9 (Wt.none rfl) rfl ?_
      refine RunL.as rfl rfl ?_
      refine RunL.nil ?_
      refine Run.sr ?_
      refine RunL.as rfl rfl ?_
      refine RunL.nil ?_
      refine Run.seq ?_
      refine Run.sr ?_
      refine RunL.as rfl rfl ?_
      refine RunL.nil ?_
      refine Run.block ?_
      refine Run.keep (.cons rfl (.cons rfl (.cons rfl (.cons rfl (.cons rfl (.cons rfl (.cons rfl (.nil))))))) : Keep _ [4, 5, 6, 7, 8, 9, 10] _) ?_
      refine Run.loopF (F := F) (fun n e_ A => ∃ (j : Nat), j ≤ v.ps.length ∧ n = v.ps.length - j ∧ e_ = [(4, .pointer (some ⟨b4, 0, none⟩)), (5, .pointer (some ⟨p, 0, none⟩)), (6, .int .i64 (i : Nat)), (7, .int .i64 (k : Nat)), (8, .string u.id), (9, .bool ((v.ps.take j).any fun q => decide (q = u.id) || ancOf (madeL (⟨#[33, 114, 58, 115, 49]⟩ : ByteArray) xs) q u.id)), (10, .int .i64 (j : Nat))] ∧ A = row b4 26 (cDD D) :: Ix p (madeL (⟨#[33, 114, 58, 115, 49]⟩ : ByteArray) xs) KX sl :: F) (v.ps.length) (by exact ⟨0, by omega, rfl, rfl, rfl⟩) (by repeat (first | (with_reducible exact Fin.done (by repeat (first | (with_reducible exact Rest.here) | apply Rest.there))) | (apply Fin.cons (by first | ((repeat (first | (with_reducible exact F0 _) | apply F1)); done) | (repeat (first | exact F0 _ | apply F1)))))) ?_
      rintro n _ _ ⟨j, hj, rfl, rfl, hA_⟩ ih
      replace hA_ := hA_.symm; subst hA_
      refine Run.seq ?_
      refine Run.sr ?_
      refine RunL.mv rfl rfl ?_
      refine RunL.pure (Pure.fieldAddr rfl fo26_1) (Wt.none rfl) rfl rfl ?_
      first | refine RunL.load1 rfl (by first | ((repeat (first | (with_reducible exact F0 _) | apply F1)); done) | (repeat (first | exact F0 _ | apply F1))) (by rfl) agg24 (Wt.none rfl) rfl ?_ | refine RunL.load1R rfl (by assumption) (by rfl) agg24 (Wt.none rfl) rfl ?_
      refine RunL.mv rfl rfl ?_
      refine RunL.pure (Pure.indexAddr (opvSl rfl hpe) rfl und24 sz33 (by omega) (by omega)) (Wt.none rfl) rfl rfl ?_
      refine RunL.pure (Pure.fieldAddr rfl fo33_2) (Wt.none rfl) rfl rfl ?_
      refine RunL.load1R rfl hroe ((elem_at (pre := pree) (post := poste) (f := cES) (sz := 6) (j := 2) (fun _ _ => rfl) hy (by decide)).trans rfl) agg31 (Wt.none rfl) rfl ?_
      refine RunL.pure (Pure.lenSl rfl rfl und31) (Wt.none rfl) rfl rfl ?_
      refine RunL.pure (Pure.lss rfl rfl) (Wt.none rfl) rfl rfl ?_
      refine RunL.nil ?_
      refine Run.cond rfl (fun g0 => ?_) (fun g0 => ?_)
      · try simp only [ZA, ZB, ZC, ZD, ZE, ZF, ZG, ZH, ZI, ZJ, ZK, ZL, ZM, ZN, ZO, ZP, ZQ, ZR] at g0
        obtain ⟨q, hq⟩ := get_some (xs := v.ps) (i := j) (by omega)
        obtain ⟨bp, Tp, prep, postp, hpp, hrop⟩ := (hdk _ hym).2.open1 (show 0 < v.ps.length by omega)
        refine Run.skip ?_
        refine Run.seq ?_
        refine Run.block ?_
        refine Run.region ?_
        refine RunL.mv rfl rfl ?_
        refine RunL.mv rfl rfl ?_
        refine RunL.split (d := 54) rfl (fun g1 => ?_) (fun g1 => ?_)
        · try simp only [ZA, ZB, ZC, ZD, ZE, ZF, ZG, ZH, ZI, ZJ, ZK, ZL, ZM, ZN, ZO, ZP, ZQ, ZR] at g1
          refine RunL.not (Wt.no rfl rfl rfl) rfl rfl ?_
          refine RunL.not (Wt.no rfl rfl rfl) rfl rfl ?_
          refine RunL.not (Wt.no rfl rfl rfl) rfl rfl ?_
          refine RunL.not (Wt.no rfl rfl rfl) rfl rfl ?_
          refine RunL.not (Wt.no rfl rfl rfl) rfl rfl ?_
          refine RunL.not (Wt.no rfl rfl rfl) rfl rfl ?_
          refine RunL.not (Wt.no rfl rfl rfl) rfl rfl ?_
          refine RunL.not (Wt.no rfl rfl rfl) rfl rfl ?_
          refine RunL.not (Wt.no rfl rfl rfl) rfl rfl ?_
          refine RunL.not (Wt.no rfl rfl rfl) rfl rfl ?_
          refine RunL.not (Wt.no rfl rfl rfl) rfl rfl ?_
          refine RunL.pure (Pure.pickT rfl rfl) (Wt.none rfl) rfl rfl ?_
          refine RunL.mv rfl rfl ?_
          refine RunL.not (Wt.no rfl rfl rfl) rfl rfl ?_
          refine RunL.not (Wt.no rfl rfl rfl) rfl rfl ?_
          refine RunL.not (Wt.no rfl rfl rfl) rfl rfl ?_
          refine RunL.not (Wt.no rfl rfl rfl) rfl rfl ?_
          refine RunL.not (Wt.no rfl rfl rfl) rfl rfl ?_
          refine RunL.not (Wt.no rfl rfl rfl) rfl rfl ?_
          refine RunL.not (Wt.no rfl rfl rfl) rfl rfl ?_
          refine RunL.not (Wt.no rfl rfl rfl) rfl rfl ?_
          refine RunL.not (Wt.no rfl rfl rfl) rfl rfl ?_
          refine RunL.not (Wt.no rfl rfl rfl) rfl rfl ?_
          refine RunL.not (Wt.no rfl rfl rfl) rfl rfl ?_
          refine RunL.not (Wt.no rfl rfl rfl) rfl rfl ?_
          refine RunL.pure (Pure.pickT rfl rfl) (Wt.none rfl) rfl rfl ?_
          refine RunL.as rfl rfl ?_
          refine RunL.nil ?_
          refine Run.inBlock ?_
          refine Run.region ?_
          refine RunL.mv rfl rfl ?_
          first | refine RunL.pure (Pure.addI rfl rfl (by omega)) (Wt.none rfl) rfl rfl ?_ | refine RunL.pure (Pure.add rfl rfl) (Wt.none rfl) rfl rfl ?_
          refine RunL.as rfl rfl ?_
          refine RunL.nil ?_
          have ht : ((v.ps.take (j + 1)).any fun q => decide (q = u.id) || ancOf (madeL (⟨#[33, 114, 58, 115, 49]⟩ : ByteArray) xs) q u.id) = true := by rw [anc_take hq]; rw [g1]; rfl
          refine Run.keep (.cons rfl (.cons rfl (.cons rfl (.cons rfl (.cons rfl (.cons rfl (.cons rfl (.nil))))))) : Keep _ [4, 5, 6, 7, 8, 9, 10] _) ?_
          refine Run.againF (F := F) ih (by exact ⟨j + 1, by omega, rfl, by rw [ht]; first | done | rfl, rfl⟩) (by repeat (first | (with_reducible exact Fin.done (by repeat (first | (with_reducible exact Rest.here) | apply Rest.there))) | (apply Fin.cons (by first | ((repeat (first | (with_reducible exact F0 _) | apply F1)); done) | (repeat (first | exact F0 _ | apply F1)))))) ?_
          omega
        · try simp only [ZA, ZB, ZC, ZD, ZE, ZF, ZG, ZH, ZI, ZJ, ZK, ZL, ZM, ZN, ZO, ZP, ZQ, ZR] at g1
          refine RunL.pure (Pure.fieldAddr rfl fo26_1) (Wt.yes rfl rfl rfl) rfl rfl ?_
          first | refine RunL.load1 rfl (by first | ((repeat (first | (with_reducible exact F0 _) | apply F1)); done) | (repeat (first | exact F0 _ | apply F1))) (by rfl) agg24 (Wt.yes rfl rfl rfl) rfl ?_ | refine RunL.load1R rfl (by assumption) (by rfl) agg24 (Wt.yes rfl rfl rfl) rfl ?_
          refine RunL.pure (Pure.move rfl) (Wt.yes rfl rfl rfl) rfl rfl ?_
          refine RunL.pure (Pure.indexAddr (opvSl rfl hpe) rfl und24 sz33 (by omega) (by omega)) (Wt.yes rfl rfl rfl) rfl rfl ?_
          refine RunL.pure (Pure.fieldAddr rfl fo33_2) (Wt.yes rfl rfl rfl) rfl rfl ?_
          refine RunL.load1R rfl hroe ((elem_at (pre := pree) (post := poste) (f := cES) (sz := 6) (j := 2) (fun _ _ => rfl) hy (by decide)).trans rfl) agg31 (Wt.yes rfl rfl rfl) rfl ?_
          refine RunL.pure (Pure.move rfl) (Wt.yes rfl rfl rfl) rfl rfl ?_
          refine RunL.pure (Pure.indexAddr (opvSl rfl hpp) rfl und31 sz9 (by omega) (by omega)) (Wt.yes rfl rfl rfl) rfl rfl ?_
          refine RunL.load1R rfl hrop (elem1_at hq) agg9 (Wt.yes rfl rfl rfl) rfl ?_
          refine RunL.pure (Pure.move rfl) (Wt.yes rfl rfl rfl) rfl rfl ?_
          refine RunL.pure (Pure.seql rfl rfl) (Wt.yes rfl rfl rfl) rfl rfl ?_
          refine RunL.pure (Pure.pickF rfl rfl) (Wt.none rfl) rfl rfl ?_
          refine RunL.mv rfl rfl ?_
          refine RunL.split (d := 67) rfl (fun g2 => ?_) (fun g2 => ?_)
          · try simp only [ZA, ZB, ZC, ZD, ZE, ZF, ZG, ZH, ZI, ZJ, ZK, ZL, ZM, ZN, ZO, ZP, ZQ, ZR] at g2
            refine RunL.not (Wt.no rfl rfl rfl) rfl rfl ?_
            refine RunL.not (Wt.no rfl rfl rfl) rfl rfl ?_
            refine RunL.not (Wt.no rfl rfl rfl) rfl rfl ?_
            refine RunL.not (Wt.no rfl rfl rfl) rfl rfl ?_
            refine RunL.not (Wt.no rfl rfl rfl) rfl rfl ?_
            refine RunL.not (Wt.no rfl rfl rfl) rfl rfl ?_
            refine RunL.not (Wt.no rfl rfl rfl) rfl rfl ?_
            refine RunL.not (Wt.no rfl rfl rfl) rfl rfl ?_
            refine RunL.not (Wt.no rfl rfl rfl) rfl rfl ?_
            refine RunL.not (Wt.no rfl rfl rfl) rfl rfl ?_
            refine RunL.not (Wt.no rfl rfl rfl) rfl rfl ?_
            refine RunL.not (Wt.no rfl rfl rfl) rfl rfl ?_
            refine RunL.pure (Pure.pickT rfl rfl) (Wt.none rfl) rfl rfl ?_
            refine RunL.as rfl rfl ?_
            refine RunL.nil ?_
            refine Run.inBlock ?_
            refine Run.region ?_
            refine RunL.mv rfl rfl ?_
            first | refine RunL.pure (Pure.addI rfl rfl (by omega)) (Wt.none rfl) rfl rfl ?_ | refine RunL.pure (Pure.add rfl rfl) (Wt.none rfl) rfl rfl ?_
            refine RunL.as rfl rfl ?_
            refine RunL.nil ?_
            have ht : ((v.ps.take (j + 1)).any fun q => decide (q = u.id) || ancOf (madeL (⟨#[33, 114, 58, 115, 49]⟩ : ByteArray) xs) q u.id) = true := by rw [anc_take hq]; rw [bl_inj g2]; simp
            refine Run.keep (.cons rfl (.cons rfl (.cons rfl (.cons rfl (.cons rfl (.cons rfl (.cons rfl (.nil))))))) : Keep _ [4, 5, 6, 7, 8, 9, 10] _) ?_
            refine Run.againF (F := F) ih (by exact ⟨j + 1, by omega, rfl, by rw [ht]; first | done | rfl, rfl⟩) (by repeat (first | (with_reducible exact Fin.done (by repeat (first | (with_reducible exact Rest.here) | apply Rest.there))) | (apply Fin.cons (by first | ((repeat (first | (with_reducible exact F0 _) | apply F1)); done) | (repeat (first | exact F0 _ | apply F1)))))) ?_
            omega
          · try simp only [ZA, ZB, ZC, ZD, ZE, ZF, ZG, ZH, ZI, ZJ, ZK, ZL, ZM, ZN, ZO, ZP, ZQ, ZR] at g2
            refine RunL.pure (Pure.move rfl) (Wt.yes rfl rfl rfl) rfl rfl ?_
            refine RunL.pure (Pure.move rfl) (Wt.yes rfl rfl rfl) rfl rfl ?_
            refine RunL.pure (Pure.fieldAddr rfl fo26_1) (Wt.yes rfl rfl rfl) rfl rfl ?_
            first | refine RunL.load1 rfl (by first | ((repeat (first | (with_reducible exact F0 _) | apply F1)); done) | (repeat (first | exact F0 _ | apply F1))) (by rfl) agg24 (Wt.yes rfl rfl rfl) rfl ?_ | refine RunL.load1R rfl (by assumption) (by rfl) agg24 (Wt.yes rfl rfl rfl) rfl ?_
            refine RunL.pure (Pure.move rfl) (Wt.yes rfl rfl rfl) rfl rfl ?_
            refine RunL.pure (Pure.indexAddr (opvSl rfl hpe) rfl und24 sz33 (by omega) (by omega)) (Wt.yes rfl rfl rfl) rfl rfl ?_
            refine RunL.pure (Pure.fieldAddr rfl fo33_2) (Wt.yes rfl rfl rfl) rfl rfl ?_
            refine RunL.load1R rfl hroe ((elem_at (pre := pree) (post := poste) (f := cES) (sz := 6) (j := 2) (fun _ _ => rfl) hy (by decide)).trans rfl) agg31 (Wt.yes rfl rfl rfl) rfl ?_
            refine RunL.pure (Pure.move rfl) (Wt.yes rfl rfl rfl) rfl rfl ?_
            refine RunL.pure (Pure.indexAddr (opvSl rfl hpp) rfl und31 sz9 (by omega) (by omega)) (Wt.yes rfl rfl rfl) rfl rfl ?_
            refine RunL.load1R rfl hrop (elem1_at hq) agg9 (Wt.yes rfl rfl rfl) rfl ?_
            refine RunL.call rfl rfl (by rfl) (by repeat (first | (with_reducible exact Take.nil _) | (apply Take.cons (by first | ((repeat (first | (with_reducible exact F0 _) | apply F1)); done) | (repeat (first | exact F0 _ | apply F1)))))) (Ahead_ctr hx) (Wt.yes rfl rfl rfl) rfl ?_
            rintro _ _ ⟨rfl, hA_⟩
            replace hA_ := hA_.symm; subst hA_
            refine RunL.pure (Pure.pickF rfl rfl) (Wt.none rfl) rfl rfl ?_
            refine RunL.as rfl rfl ?_
            refine RunL.nil ?_
            refine Run.inBlock ?_
            refine Run.region ?_
            refine RunL.mv rfl rfl ?_
            first | refine RunL.pure (Pure.addI rfl rfl (by omega)) (Wt.none rfl) rfl rfl ?_ | refine RunL.pure (Pure.add rfl rfl) (Wt.none rfl) rfl rfl ?_
            refine RunL.as rfl rfl ?_
            refine RunL.nil ?_
            have ht : ((v.ps.take (j + 1)).any fun q => decide (q = u.id) || ancOf (madeL (⟨#[33, 114, 58, 115, 49]⟩ : ByteArray) xs) q u.id) = ancOf (madeL (⟨#[33, 114, 58, 115, 49]⟩ : ByteArray) xs) q u.id := by rw [anc_take hq]; rw [show ((v.ps.take j).any fun q => decide (q = u.id) || ancOf (madeL (⟨#[33, 114, 58, 115, 49]⟩ : ByteArray) xs) q u.id) = false by simpa using g1, show decide (q = u.id) = false from decide_eq_false (fun z => g2 (by rw [z]))]; simp
            refine Run.keep (.cons rfl (.cons rfl (.cons rfl (.cons rfl (.cons rfl (.cons rfl (.cons rfl (.nil))))))) : Keep _ [4, 5, 6, 7, 8, 9, 10] _) ?_
            refine Run.againF (F := F) ih (by exact ⟨j + 1, by omega, rfl, by rw [ht]; first | done | rfl, rfl⟩) (by repeat (first | (with_reducible exact Fin.done (by repeat (first | (with_reducible exact Rest.here) | apply Rest.there))) | (apply Fin.cons (by first | ((repeat (first | (with_reducible exact F0 _) | apply F1)); done) | (repeat (first | exact F0 _ | apply F1)))))) ?_
            omega
      · try simp only [ZA, ZB, ZC, ZD, ZE, ZF, ZG, ZH, ZI, ZJ, ZK, ZL, ZM, ZN, ZO, ZP, ZQ, ZR] at g0
        refine Run.exit rfl ?_
        obtain rfl : j = v.ps.length := by omega
        rw [List.take_length, ← hmg.anc hvm]
        refine Run.sr ?_
        refine RunL.mv rfl rfl ?_
        refine RunL.mv rfl rfl ?_
        refine RunL.pure (Pure.fieldAddr rfl fo26_1) (Wt.none rfl) rfl rfl ?_
        first | refine RunL.load1 rfl (by first | ((repeat (first | (with_reducible exact F0 _) | apply F1)); done) | (repeat (first | exact F0 _ | apply F1))) (by rfl) agg24 (Wt.none rfl) rfl ?_ | refine RunL.load1R rfl (by assumption) (by rfl) agg24 (Wt.none rfl) rfl ?_
        refine RunL.mv rfl rfl ?_
        refine RunL.pure (Pure.indexAddr (opvSl rfl hpe) rfl und24 sz33 (by omega) (by omega)) (Wt.none rfl) rfl rfl ?_
        refine RunL.pure (Pure.fieldAddr rfl fo33_0) (Wt.none rfl) rfl rfl ?_
        refine RunL.load1R rfl hroe ((elem_at (pre := pree) (post := poste) (f := cES) (sz := 6) (j := 0) (fun _ _ => rfl) hy (by decide)).trans rfl) agg9 (Wt.none rfl) rfl ?_
        refine RunL.call rfl rfl (by rfl) (by repeat (first | (with_reducible exact Take.nil _) | (apply Take.cons (by first | ((repeat (first | (with_reducible exact F0 _) | apply F1)); done) | (repeat (first | exact F0 _ | apply F1)))))) (Ahead_ctr hx) (Wt.none rfl) rfl ?_
        rintro _ _ ⟨rfl, hA_⟩
        replace hA_ := hA_.symm; subst hA_
        refine RunL.mv rfl rfl ?_
        refine RunL.pure (Pure.bneq rfl rfl und4) (Wt.none rfl) rfl rfl ?_
        refine RunL.nil ?_
        refine Run.cond rfl (fun hc1 => ?_) (fun hc1 => ?_)
        · try simp only [ZA, ZB, ZC, ZD, ZE, ZF, ZG, ZH, ZI, ZJ, ZK, ZL, ZM, ZN, ZO, ZP, ZQ, ZR] at hc1
          exfalso
          first | exact hc1 rfl | (simp at hc1; done)
        try simp only [ZA, ZB, ZC, ZD, ZE, ZF, ZG, ZH, ZI, ZJ, ZK, ZL, ZM, ZN, ZO, ZP, ZQ, ZR] at hc1
        refine Run.skip ?_
        refine Run.inBlock ?_
        refine Run.region ?_
        refine RunL.mv rfl rfl ?_
        first | refine RunL.pure (Pure.addI rfl rfl (by omega)) (Wt.none rfl) rfl rfl ?_ | refine RunL.pure (Pure.add rfl rfl) (Wt.none rfl) rfl rfl ?_
        refine RunL.as rfl rfl ?_
        refine RunL.nil ?_
        have ih := ih2
        refine Run.keep (.cons rfl (.cons rfl (.cons rfl (.cons rfl (.nil)))) : Keep _ [4, 5, 6, 7] _) ?_
        refine Run.againF (F := F) ih (by exact ⟨k + 1, by omega, rfl, rfl, rfl⟩) (by repeat (first | (with_reducible exact Fin.done (by repeat (first | (with_reducible exact Rest.here) | apply Rest.there))) | (apply Fin.cons (by first | ((repeat (first | (with_reducible exact F0 _) | apply F1)); done) | (repeat (first | exact F0 _ | apply F1)))))) ?_
        omega
    · try simp only [ZA, ZB, ZC, ZD, ZE, ZF, ZG, ZH, ZI, ZJ, ZK, ZL, ZM, ZN, ZO, ZP, ZQ, ZR] at c2
      refine Run.exit rfl ?_
      refine Run.inBlock ?_
      refine Run.region ?_
      refine RunL.mv rfl rfl ?_
      first | refine RunL.pure (Pure.addI rfl rfl (by omega)) (Wt.none rfl) rfl rfl ?_ | refine RunL.pure (Pure.add rfl rfl) (Wt.none rfl) rfl rfl ?_
      refine RunL.as rfl rfl ?_
      refine RunL.nil ?_
      have ih := ih1
      refine Run.keep (.cons rfl (.cons rfl (.cons rfl (.nil))) : Keep _ [4, 5, 6] _) ?_
      refine Run.againF (F := F) ih (by exact ⟨i + 1, by omega, rfl, rfl, rfl⟩) (by repeat (first | (with_reducible exact Fin.done (by repeat (first | (with_reducible exact Rest.here) | apply Rest.there))) | (apply Fin.cons (by first | ((repeat (first | (with_reducible exact F0 _) | apply F1)); done) | (repeat (first | exact F0 _ | apply F1)))))) ?_
      omega
  · try simp only [ZA, ZB, ZC, ZD, ZE, ZF, ZG, ZH, ZI, ZJ, ZK, ZL, ZM, ZN, ZO, ZP, ZQ, ZR] at c1
    refine Run.exit rfl ?_
    refine Run.sr ?_
    refine RunL.call rfl rfl (by rfl) (by repeat (first | (with_reducible exact Take.nil _) | (apply Take.cons (by first | ((repeat (first | (with_reducible exact F0 _) | apply F1)); done) | (repeat (first | exact F0 _ | apply F1)))))) (lives_ctr) (Wt.none rfl) rfl ?_
    rintro _ _ ⟨rfl, hA_⟩
    replace hA_ := hA_.symm; subst hA_
    refine RunL.as rfl rfl ?_
    refine RunL.nil ?_
    exact Run.ret Tryz.func3 (res1 rfl rfl) (by exact ⟨rfl, rfl⟩) (by repeat (first | (with_reducible exact Fin.done (by repeat (first | (with_reducible exact Rest.here) | apply Rest.there))) | (apply Fin.cons (by first | ((repeat (first | (with_reducible exact F0 _) | apply F1)); done) | (repeat (first | exact F0 _ | apply F1))))))

end Go.Proofs.YtcmkafellcfbeaaGreat
