/- Whatever order. -/
import Derived.Test.YtghmmjifmnmbgaaL1
set_option linter.unusedVariables false
set_option linter.unusedSimpArgs false
set_option linter.unusedSectionVars false
namespace Go.Proofs.Ytghmmjifmnmbgaa
open Go Csl


set_option maxHeartbeats 8000000 in
set_option maxRecDepth 100000 in
theorem DagOrder_ctr {G : Gp} {ag : Option Addr} {cg : Nat} {gs : List GG} (hgs : SlR G 66 4 ag gs.length (gs.flatMap cGG)) (hgi : GsIn G gs)  {aw : Option Addr} {cw : Nat} {ws : List Int} (hws : SlR G 3 1 aw ws.length (ws.map (Value.int .i64))) (hwi : ∀ z ∈ ws, (Lit.int .i64 z).wf = true) :
    Ctr Try.prog G 8 [.slice ag gs.length cg, .slice aw ws.length cw] [] (fun F v A => v = .bool true ∧ A = F) := by
  refine Ctr.intro Try.func8 rfl (by kernel_rfl) rfl (fun F => ?_)
  simp only [List.nil_append]
  obtain ⟨xs, hxs, hgx⟩ := hgi
  have hgsx : SlR G 66 4 ag xs.length (xs.flatMap cGX) := by rw [← hxs, List.length_map, gx_flat] at hgs; exact hgs
  have hgl : gs.length = xs.length := by rw [← hxs, List.length_map]
  have hmg := madeL_good (room := (⟨#[33, 114, 58, 115, 49]⟩ : ByteArray)) (by decide +kernel) xs
  have hml := madeL_len (⟨#[33, 114, 58, 115, 49]⟩ : ByteArray) xs
  have hmw := madeL_sm (room := (⟨#[33, 114, 58, 115, 49]⟩ : ByteArray)) (by decide) xs
  have hmf : ∀ v ∈ (madeL (⟨#[33, 114, 58, 115, 49]⟩ : ByteArray) xs), evWf v := fun v hv => (hmw v hv).wf
  refine Run.sr ?_
  refine RunL.as rfl rfl ?_
  refine RunL.nil ?_
  refine Run.sr ?_
  refine RunL.mv rfl rfl ?_
  rw [hgl]
  refine RunL.call rfl rfl (by rfl) (by repeat (first | (with_reducible exact Take.nil _) | (apply Take.cons (by first | ((repeat (first | (with_reducible exact F0 _) | apply F1)); done) | (repeat (first | exact F0 _ | apply F1)))))) (rdMade_ctr (room := (⟨#[33, 114, 58, 115, 49]⟩ : ByteArray)) (xs := xs) (by decide +kernel) (by decide) hgsx hgx) (Wt.none rfl) rfl ?_
  rintro _ _ ⟨K, D, hD, rfl, hA_⟩
  replace hA_ := hA_.symm; subst hA_
  refine RunL.alloc zz30 (Wt.none rfl) rfl ?_; intro b5
  refine RunL.storeW (xs := (cDD D)) rfl rfl (by first | ((repeat (first | (with_reducible exact F0 _) | apply F1)); done) | (repeat (first | exact F0 _ | apply F1))) sz30 (by rfl) (by rfl) (by rfl) (Wt.none rfl) ?_
  refine RunL.nil ?_
  refine Run.lendAll (Q := Pool K) Lends.Pool (by first | ((repeat (first | (with_reducible exact F0 _) | apply F1)); done) | (repeat (first | exact F0 _ | apply F1))) (fun GhK hleGhK hK => ?_)
  replace hgsx := hgsx.mono hleGhK
  replace hgx := hgx.mono hleGhK
  replace hws := hws.mono hleGhK
  have hd := HasD.hp (G' := GhK) hD hK
  obtain ⟨hroom, ys, hyl, hdn, hds, hdc, hdk⟩ := id hd
  have hyn := ES_len hyl
  have hml9 : ((madeL (⟨#[33, 114, 58, 115, 49]⟩ : ByteArray) xs)).length ≤ 9 := by omega
  refine Run.sr ?_
  refine RunL.pure (Pure.fieldAddr rfl fo30_0) (Wt.none rfl) rfl rfl ?_
  first | refine RunL.load1 rfl (by first | ((repeat (first | (with_reducible exact F0 _) | apply F1)); done) | (repeat (first | exact F0 _ | apply F1))) (by rfl) agg9 (Wt.none rfl) rfl ?_ | refine RunL.load1R rfl (by assumption) (by rfl) agg9 (Wt.none rfl) rfl ?_
  refine RunL.call rfl rfl (by rfl) (by repeat (first | (with_reducible exact Take.nil _) | (apply Take.cons (by first | ((repeat (first | (with_reducible exact F0 _) | apply F1)); done) | (repeat (first | exact F0 _ | apply F1)))))) (NewD_ctr) (Wt.none rfl) rfl ?_
  rintro _ _ ⟨p, rfl, hA_⟩
  replace hA_ := hA_.symm; subst hA_
  rw [hroom]
  refine RunL.as rfl rfl ?_
  refine RunL.nil ?_
  refine Run.seq ?_
  refine Run.sr ?_
  refine RunL.mv rfl rfl ?_
  refine RunL.pure (Pure.ptrEqNil rfl rfl und36) (Wt.none rfl) rfl rfl ?_
  refine RunL.nil ?_
  refine Run.condF rfl ?_
  refine Run.skip ?_
  refine Run.seq ?_
  refine Run.sr ?_
  refine RunL.as rfl rfl ?_
  refine RunL.nil ?_
  refine Run.cut (fun e_ A => ∃ k : EL, Csl.Good (⟨#[33, 114, 58, 115, 49]⟩ : ByteArray) k ∧ (∀ v ∈ k, v ∈ (madeL (⟨#[33, 114, 58, 115, 49]⟩ : ByteArray) xs)) ∧ e_ = [(5, .pointer (some ⟨b5, 0, none⟩)), (6, .pointer (some ⟨p, 0, none⟩))] ∧ A = row b5 30 (cDD D) :: Dg p (⟨#[33, 114, 58, 115, 49]⟩ : ByteArray) k :: F) (fun e A hM => ?_) (fun hk => ?_)
  · obtain ⟨k, hgo, hsb, rfl, hA_⟩ := hM
    replace hA_ := hA_.symm; subst hA_
    refine Run.seq ?_
    refine Run.sr ?_
    refine RunL.as rfl rfl ?_
    refine RunL.nil ?_
    refine Run.block ?_
    refine Run.keep (.cons rfl (.cons rfl (.cons rfl (.nil))) : Keep _ [5, 6, 10] _) ?_
    refine Run.loopF (F := F) (fun n e_ A => ∃ (r : Nat) (k : EL), r ≤ 9 ∧ Csl.Good (⟨#[33, 114, 58, 115, 49]⟩ : ByteArray) k ∧ (∀ v ∈ k, v ∈ (madeL (⟨#[33, 114, 58, 115, 49]⟩ : ByteArray) xs)) ∧ (∀ (j : Nat) (u : Evt), j < r → (madeL (⟨#[33, 114, 58, 115, 49]⟩ : ByteArray) xs)[j]? = some u → u ∈ k) ∧ n = 9 - r ∧ e_ = [(5, .pointer (some ⟨b5, 0, none⟩)), (6, .pointer (some ⟨p, 0, none⟩)), (10, .int .i64 (r : Nat))] ∧ A = row b5 30 (cDD D) :: Dg p (⟨#[33, 114, 58, 115, 49]⟩ : ByteArray) k :: F) (9) (by exact ⟨0, k, by omega, hgo, hsb, (fun j u hj => absurd hj (Nat.not_lt_zero _)), rfl, rfl, rfl⟩) (by repeat (first | (with_reducible exact Fin.done (by repeat (first | (with_reducible exact Rest.here) | apply Rest.there))) | (apply Fin.cons (by first | ((repeat (first | (with_reducible exact F0 _) | apply F1)); done) | (repeat (first | exact F0 _ | apply F1)))))) ?_
    rintro n _ _ ⟨r, k, hr9, hgo, hsb, hah, rfl, rfl, hA_⟩ ih
    replace hA_ := hA_.symm; subst hA_
    refine Run.seq ?_
    refine Run.sr ?_
    refine RunL.mv rfl rfl ?_
    refine RunL.pure (Pure.lss rfl rfl) (Wt.none rfl) rfl rfl ?_
    refine RunL.nil ?_
    refine Run.cond rfl (fun l2 => ?_) (fun l2 => ?_)
    · try simp only [ZA, ZB, ZC, ZD, ZE, ZF, ZG, ZH, ZI, ZJ, ZK, ZL, ZM, ZN, ZO, ZP, ZQ, ZR] at l2
      have ih1 := ih
      refine Run.skip ?_
      refine Run.seq ?_
      refine Run.block ?_
      refine Run.sr ?_
      refine RunL.pure (Pure.fieldAddr rfl fo30_1) (Wt.none rfl) rfl rfl ?_
      first | refine RunL.load1 rfl (by first | ((repeat (first | (with_reducible exact F0 _) | apply F1)); done) | (repeat (first | exact F0 _ | apply F1))) (by rfl) agg28 (Wt.none rfl) rfl ?_ | refine RunL.load1R rfl (by assumption) (by rfl) agg28 (Wt.none rfl) rfl ?_
      refine RunL.pure (Pure.lenSl rfl rfl und28) (Wt.none rfl) rfl rfl ?_
      first | refine RunL.pure (Pure.subI rfl rfl (by omega)) (Wt.none rfl) rfl rfl ?_ | refine RunL.pure (Pure.sub rfl rfl) (Wt.none rfl) rfl rfl ?_
      refine RunL.as rfl rfl ?_
      refine RunL.nil ?_
      refine Run.block ?_
      refine Run.keep (.cons rfl (.cons rfl (.cons rfl (.cons rfl (.nil)))) : Keep _ [5, 6, 10, 11] _) ?_
      refine Run.loopF (F := F) (fun n e_ A => ∃ (q : Nat) (k : EL), q ≤ ((madeL (⟨#[33, 114, 58, 115, 49]⟩ : ByteArray) xs)).length ∧ Csl.Good (⟨#[33, 114, 58, 115, 49]⟩ : ByteArray) k ∧ (∀ v ∈ k, v ∈ (madeL (⟨#[33, 114, 58, 115, 49]⟩ : ByteArray) xs)) ∧ (∀ (j : Nat) (u : Evt), j < r → (madeL (⟨#[33, 114, 58, 115, 49]⟩ : ByteArray) xs)[j]? = some u → u ∈ k) ∧ (q ≤ r → ∀ u, (madeL (⟨#[33, 114, 58, 115, 49]⟩ : ByteArray) xs)[r]? = some u → u ∈ k) ∧ n = q ∧ e_ = [(5, .pointer (some ⟨b5, 0, none⟩)), (6, .pointer (some ⟨p, 0, none⟩)), (10, .int .i64 (r : Nat)), (11, .int .i64 ((q : Nat) - 1))] ∧ A = row b5 30 (cDD D) :: Dg p (⟨#[33, 114, 58, 115, 49]⟩ : ByteArray) k :: F) (((madeL (⟨#[33, 114, 58, 115, 49]⟩ : ByteArray) xs)).length) (by exact ⟨((madeL (⟨#[33, 114, 58, 115, 49]⟩ : ByteArray) xs)).length, k, by omega, hgo, hsb, hah, (fun hle u hu => by have := (List.getElem?_eq_some_iff.1 hu).1; omega), rfl, by rw [hdn, ← hyn], rfl⟩) (by repeat (first | (with_reducible exact Fin.done (by repeat (first | (with_reducible exact Rest.here) | apply Rest.there))) | (apply Fin.cons (by first | ((repeat (first | (with_reducible exact F0 _) | apply F1)); done) | (repeat (first | exact F0 _ | apply F1)))))) ?_
      rintro n _ _ ⟨q, k, hql, hgo, hsb, hah, hat, hnq, rfl, hA_⟩ ih
      replace hA_ := hA_.symm; subst hA_
      refine Run.seq ?_
      refine Run.sr ?_
      refine RunL.mv rfl rfl ?_
      refine RunL.pure (Pure.geq rfl rfl) (Wt.none rfl) rfl rfl ?_
      refine RunL.nil ?_
      refine Run.cond rfl (fun l3 => ?_) (fun l3 => ?_)
      · try simp only [ZA, ZB, ZC, ZD, ZE, ZF, ZG, ZH, ZI, ZJ, ZK, ZL, ZM, ZN, ZO, ZP, ZQ, ZR] at l3
        obtain ⟨q1, rfl⟩ : ∃ q1, q = q1 + 1 := ⟨q - 1, by omega⟩
        obtain ⟨v, hv⟩ := get_some (xs := (madeL (⟨#[33, 114, 58, 115, 49]⟩ : ByteArray) xs)) (i := q1) (by omega)
        obtain ⟨s, hy⟩ := ES_get hyl hv
        have hvm := List.mem_of_getElem? hv
        have hym := List.mem_of_getElem? hy
        obtain ⟨be, Te, pree, poste, hpe, hroe⟩ := hds.open1 (show 0 < ys.length by omega)
        rw [show (((q1 + 1 : Nat) : Int) - 1) = (q1 : Nat) from by omega]
        refine Run.skip ?_
        refine Run.seq ?_
        refine Run.block ?_
        refine Run.region ?_
        refine RunL.mv rfl rfl ?_
        refine RunL.pure (Pure.fieldAddr rfl fo30_1) (Wt.none rfl) rfl rfl ?_
        first | refine RunL.load1 rfl (by first | ((repeat (first | (with_reducible exact F0 _) | apply F1)); done) | (repeat (first | exact F0 _ | apply F1))) (by rfl) agg28 (Wt.none rfl) rfl ?_ | refine RunL.load1R rfl (by assumption) (by rfl) agg28 (Wt.none rfl) rfl ?_
        refine RunL.mv rfl rfl ?_
        refine RunL.pure (Pure.indexAddr (opvSl rfl hpe) rfl und28 sz24 (by omega) (by omega)) (Wt.none rfl) rfl rfl ?_
        refine RunL.loadNR (vs := (cEvn ((v.evn s)))) rfl hroe agg24 sz24 (elemN_len (pre := pree) (post := poste) (f := cES) (sz := 6) (j := 0) (n := 6) (fun _ _ => rfl) hy (by decide)) ((elemN_at (pre := pree) (post := poste) (f := cES) (sz := 6) (j := 0) (n := 6) (fun _ _ => rfl) hy (by decide)).trans rfl) (Wt.none rfl) rfl ?_
        refine RunL.call rfl rfl (by rfl) (by repeat (first | (with_reducible exact Take.nil _) | (apply Take.cons (by first | ((repeat (first | (with_reducible exact F0 _) | apply F1)); done) | (repeat (first | exact F0 _ | apply F1)))))) (Add_ctr (l := k) (e := v.evn s) (ps := v.ps) (hdk _ hym) (hmf v hvm) (by have := sub_len hgo.nd hsb; omega)) (Wt.none rfl) rfl ?_
        rintro _ _ ⟨rfl, hA_⟩
        replace hA_ := hA_.symm; subst hA_
        rw [ev_evn]
        refine RunL.nil ?_
        refine Run.inBlock ?_
        refine Run.region ?_
        refine RunL.mv rfl rfl ?_
        first | refine RunL.pure (Pure.subI rfl rfl (by omega)) (Wt.none rfl) rfl rfl ?_ | refine RunL.pure (Pure.sub rfl rfl) (Wt.none rfl) rfl rfl ?_
        refine RunL.as rfl rfl ?_
        refine RunL.nil ?_
        refine Run.keep (.cons rfl (.cons rfl (.cons rfl (.cons rfl (.nil)))) : Keep _ [5, 6, 10, 11] _) ?_
        refine Run.againF (F := F) ih (by exact ⟨q1, (addL (⟨#[33, 114, 58, 115, 49]⟩ : ByteArray) k v), by omega, hgo.add, sub_add hsb hvm, (fun j u hj hu => mem_add (hah j u hj hu)), (fun hqr u hu => by
      rcases Nat.lt_or_ge q1 r with z | z
      · exact mem_add (hat (by omega) u hu)
      · obtain rfl : q1 = r := by omega
        rw [hv] at hu; cases hu; exact rc_ready hgo hmg hsb hv hah), rfl, rfl, rfl⟩) (by repeat (first | (with_reducible exact Fin.done (by repeat (first | (with_reducible exact Rest.here) | apply Rest.there))) | (apply Fin.cons (by first | ((repeat (first | (with_reducible exact F0 _) | apply F1)); done) | (repeat (first | exact F0 _ | apply F1)))))) ?_
        omega
      · try simp only [ZA, ZB, ZC, ZD, ZE, ZF, ZG, ZH, ZI, ZJ, ZK, ZL, ZM, ZN, ZO, ZP, ZQ, ZR] at l3
        obtain rfl : q = 0 := by omega
        have ih := ih1
        refine Run.exit rfl ?_
        refine Run.inBlock ?_
        refine Run.region ?_
        refine RunL.mv rfl rfl ?_
        first | refine RunL.pure (Pure.addI rfl rfl (by omega)) (Wt.none rfl) rfl rfl ?_ | refine RunL.pure (Pure.add rfl rfl) (Wt.none rfl) rfl rfl ?_
        refine RunL.as rfl rfl ?_
        refine RunL.nil ?_
        refine Run.keep (.cons rfl (.cons rfl (.cons rfl (.nil))) : Keep _ [5, 6, 10] _) ?_
        refine Run.againF (F := F) ih (by exact ⟨r + 1, k, by omega, hgo, hsb, (fun j u hj hu => by
      rcases Nat.lt_or_ge j r with z | z
      · exact hah j u z hu
      · obtain rfl : j = r := by omega
        exact hat (Nat.zero_le _) u hu), rfl, rfl, rfl⟩) (by repeat (first | (with_reducible exact Fin.done (by repeat (first | (with_reducible exact Rest.here) | apply Rest.there))) | (apply Fin.cons (by first | ((repeat (first | (with_reducible exact F0 _) | apply F1)); done) | (repeat (first | exact F0 _ | apply F1)))))) ?_
        omega
    · try simp only [ZA, ZB, ZC, ZD, ZE, ZF, ZG, ZH, ZI, ZJ, ZK, ZL, ZM, ZN, ZO, ZP, ZQ, ZR] at l2
      obtain rfl : r = 9 := by omega
      have hpm := perm_of_sub hgo hmg hsb (fun v hv => by
        obtain ⟨j, hj⟩ := List.getElem?_of_mem hv
        exact hah j v (by have := (List.getElem?_eq_some_iff.1 hj).1; omega) hj)
      refine Run.exit rfl ?_
      refine Run.sr ?_
      refine RunL.mv rfl rfl ?_
      first | refine RunL.loadA (vs := (cDD D)) rfl (by first | ((repeat (first | (with_reducible exact F0 _) | apply F1)); done) | (repeat (first | exact F0 _ | apply F1))) agg30 sz30 (by first | exact Nat.le_of_ble_eq_true rfl | (simp; done) | (simp; omega)) rfl (Wt.none rfl) rfl ?_ | refine RunL.loadNR (vs := (cDD D)) rfl (by assumption) agg30 sz30 (by first | exact Nat.le_of_ble_eq_true rfl | (simp; done) | (simp; omega)) rfl (Wt.none rfl) rfl ?_
      refine RunL.call rfl rfl (by rfl) (by repeat (first | (with_reducible exact Take.nil _) | (apply Take.cons (by first | ((repeat (first | (with_reducible exact F0 _) | apply F1)); done) | (repeat (first | exact F0 _ | apply F1)))))) (Ctr.lend (Q := Dg p (⟨#[33, 114, 58, 115, 49]⟩ : ByteArray) k) Lends.Dg cb29 (fun G' hle hr => like_ctr hr (hd.mono hle) hmg hpm (by omega))) (Wt.none rfl) rfl ?_
      rintro _ _ ⟨_, rfl, rfl, hA_⟩
      replace hA_ := hA_.symm; subst hA_
      refine RunL.mv rfl rfl ?_
      refine RunL.split (d := 82) rfl (fun hg1 => ?_) (fun hg1 => ?_)
      rotate_left
      · try simp only [ZA, ZB, ZC, ZD, ZE, ZF, ZG, ZH, ZI, ZJ, ZK, ZL, ZM, ZN, ZO, ZP, ZQ, ZR] at hg1
        exfalso
        simp at hg1
      try simp only [ZA, ZB, ZC, ZD, ZE, ZF, ZG, ZH, ZI, ZJ, ZK, ZL, ZM, ZN, ZO, ZP, ZQ, ZR] at hg1
      refine RunL.call rfl rfl (by rfl) (by repeat (first | (with_reducible exact Take.nil _) | (apply Take.cons (by first | ((repeat (first | (with_reducible exact F0 _) | apply F1)); done) | (repeat (first | exact F0 _ | apply F1)))))) (lives_ctr) (Wt.yes rfl rfl rfl) rfl ?_
      rintro _ _ ⟨rfl, hA_⟩
      replace hA_ := hA_.symm; subst hA_
      refine RunL.pure (Pure.pickT rfl rfl) (Wt.none rfl) rfl rfl ?_
      refine RunL.as rfl rfl ?_
      refine RunL.nil ?_
      exact Run.ret Try.func8 (res1 rfl rfl) (by exact ⟨rfl, rfl⟩) (by repeat (first | (with_reducible exact Fin.done (by repeat (first | (with_reducible exact Rest.here) | apply Rest.there))) | (apply Fin.cons (by first | ((repeat (first | (with_reducible exact F0 _) | apply F1)); done) | (repeat (first | exact F0 _ | apply F1))))))
  · skip
    refine Run.block ?_
    refine Run.keep (.cons rfl (.cons rfl (.cons rfl (.cons rfl (.nil)))) : Keep _ [1, 5, 6, 7] _) ?_
    refine Run.loopF (F := F) (fun n e_ A => ∃ (i : Nat) (k : EL), i ≤ 12 ∧ Csl.Good (⟨#[33, 114, 58, 115, 49]⟩ : ByteArray) k ∧ (∀ v ∈ k, v ∈ (madeL (⟨#[33, 114, 58, 115, 49]⟩ : ByteArray) xs)) ∧ n = 12 - i ∧ e_ = [(1, .slice aw ws.length cw), (5, .pointer (some ⟨b5, 0, none⟩)), (6, .pointer (some ⟨p, 0, none⟩)), (7, .int .i64 (i : Nat))] ∧ A = row b5 30 (cDD D) :: Dg p (⟨#[33, 114, 58, 115, 49]⟩ : ByteArray) k :: F) (12) (by exact ⟨0, [], by omega, Good.nil _, (fun v hv => by cases hv), rfl, rfl, rfl⟩) (by repeat (first | (with_reducible exact Fin.done (by repeat (first | (with_reducible exact Rest.here) | apply Rest.there))) | (apply Fin.cons (by first | ((repeat (first | (with_reducible exact F0 _) | apply F1)); done) | (repeat (first | exact F0 _ | apply F1)))))) ?_
    rintro n _ _ ⟨i, k, hi, hgo, hsb, rfl, rfl, hA_⟩ ih
    replace hA_ := hA_.symm; subst hA_
    refine Run.seq ?_
    refine Run.sr ?_
    refine RunL.mv rfl rfl ?_
    refine RunL.mv rfl rfl ?_
    refine RunL.pure (Pure.lenSl rfl rfl und55) (Wt.none rfl) rfl rfl ?_
    refine RunL.pure (Pure.lss rfl rfl) (Wt.none rfl) rfl rfl ?_
    refine RunL.mv rfl rfl ?_
    refine RunL.split (d := 23) rfl (fun c1 => ?_) (fun c1 => ?_)
    · try simp only [ZA, ZB, ZC, ZD, ZE, ZF, ZG, ZH, ZI, ZJ, ZK, ZL, ZM, ZN, ZO, ZP, ZQ, ZR] at c1
      refine RunL.pure (Pure.move rfl) (Wt.yes rfl rfl rfl) rfl rfl ?_
      refine RunL.pure (Pure.lss rfl rfl) (Wt.yes rfl rfl rfl) rfl rfl ?_
      refine RunL.pure (Pure.pickT rfl rfl) (Wt.none rfl) rfl rfl ?_
      refine RunL.mv rfl rfl ?_
      refine RunL.split (d := 27) rfl (fun c2 => ?_) (fun c2 => ?_)
      · try simp only [ZA, ZB, ZC, ZD, ZE, ZF, ZG, ZH, ZI, ZJ, ZK, ZL, ZM, ZN, ZO, ZP, ZQ, ZR] at c2
        refine RunL.pure (Pure.fieldAddr rfl fo30_1) (Wt.yes rfl rfl rfl) rfl rfl ?_
        first | refine RunL.load1 rfl (by first | ((repeat (first | (with_reducible exact F0 _) | apply F1)); done) | (repeat (first | exact F0 _ | apply F1))) (by rfl) agg28 (Wt.yes rfl rfl rfl) rfl ?_ | refine RunL.load1R rfl (by assumption) (by rfl) agg28 (Wt.yes rfl rfl rfl) rfl ?_
        refine RunL.pure (Pure.lenSl rfl rfl und28) (Wt.yes rfl rfl rfl) rfl rfl ?_
        refine RunL.pure (Pure.gtr rfl rfl) (Wt.yes rfl rfl rfl) rfl rfl ?_
        refine RunL.pure (Pure.pickT rfl rfl) (Wt.none rfl) rfl rfl ?_
        refine RunL.nil ?_
        refine Run.cond rfl (fun c3 => ?_) (fun c3 => ?_)
        · try simp only [ZA, ZB, ZC, ZD, ZE, ZF, ZG, ZH, ZI, ZJ, ZK, ZL, ZM, ZN, ZO, ZP, ZQ, ZR] at c3
          obtain ⟨z, hz⟩ := get_some (xs := ws) (i := i) (by omega)
          have hzw := wf_i64 (hwi z (List.mem_of_getElem? hz))
          obtain ⟨b2_, T2_, pr2, po2, hp2, hr2⟩ := hws.open1 (show 0 < ws.length by omega)
          have hal := around_lt (z := z) (m := (D.l.n : Nat)) (by omega)
          obtain ⟨q, hq⟩ : ∃ q : Nat, around z (D.l.n : Nat) = (q : Nat) := ⟨(around z (D.l.n : Nat)).toNat, by omega⟩
          obtain ⟨v, hv⟩ := get_some (xs := (madeL (⟨#[33, 114, 58, 115, 49]⟩ : ByteArray) xs)) (i := q) (by omega)
          obtain ⟨s, hy⟩ := ES_get hyl hv
          have hvm := List.mem_of_getElem? hv
          have hym := List.mem_of_getElem? hy
          obtain ⟨be, Te, pree, poste, hpe, hroe⟩ := hds.open1 (show 0 < ys.length by omega)
          refine Run.skip ?_
          refine Run.seq ?_
          refine Run.block ?_
          refine Run.seq ?_
          refine Run.cut (fun e_ A => ∃ b8 : Nat, e_ = [(1, .slice aw ws.length cw), (5, .pointer (some ⟨b5, 0, none⟩)), (6, .pointer (some ⟨p, 0, none⟩)), (7, .int .i64 (i : Nat)), (8, .pointer (some ⟨b8, 0, none⟩))] ∧ A = row b8 24 (cEvn (v.evn s)) :: row b5 30 (cDD D) :: Dg p (⟨#[33, 114, 58, 115, 49]⟩ : ByteArray) k :: F) (fun e A hM => ?_) (fun hk => ?_)
          · obtain ⟨b8, rfl, hA_⟩ := hM
            replace hA_ := hA_.symm; subst hA_
            refine Run.sr ?_
            refine RunL.mv rfl rfl ?_
            first | refine RunL.loadA (vs := (cEvn ((v.evn s)))) rfl (by first | ((repeat (first | (with_reducible exact F0 _) | apply F1)); done) | (repeat (first | exact F0 _ | apply F1))) agg24 sz24 (by first | exact Nat.le_of_ble_eq_true rfl | (simp; done) | (simp; omega)) rfl (Wt.none rfl) rfl ?_ | refine RunL.loadNR (vs := (cEvn ((v.evn s)))) rfl (by assumption) agg24 sz24 (by first | exact Nat.le_of_ble_eq_true rfl | (simp; done) | (simp; omega)) rfl (Wt.none rfl) rfl ?_
            refine RunL.call rfl rfl (by rfl) (by repeat (first | (with_reducible exact Take.nil _) | (apply Take.cons (by first | ((repeat (first | (with_reducible exact F0 _) | apply F1)); done) | (repeat (first | exact F0 _ | apply F1)))))) (Add_ctr (l := k) (e := v.evn s) (ps := v.ps) (hdk _ hym) (hmf v hvm) (by have := sub_len hgo.nd hsb; omega)) (Wt.none rfl) rfl ?_
            rintro _ _ ⟨rfl, hA_⟩
            replace hA_ := hA_.symm; subst hA_
            rw [ev_evn]
            skip
            rcases rc_sub hgo hmg hsb hvm with hrc | hrc | hrc
            · skip
              rw [hrc]
              refine RunL.as rfl rfl ?_
              refine RunL.nil ?_
              refine Run.sr ?_
              refine RunL.mv rfl rfl ?_
              refine RunL.pure (Pure.neq rfl rfl) (Wt.none rfl) rfl rfl ?_
              refine RunL.mv rfl rfl ?_
              refine RunL.split (d := 52) rfl (fun hg2 => ?_) (fun hg2 => ?_)
              · try simp only [ZA, ZB, ZC, ZD, ZE, ZF, ZG, ZH, ZI, ZJ, ZK, ZL, ZM, ZN, ZO, ZP, ZQ, ZR] at hg2
                exfalso
                first | exact hg2 rfl | (simp at hg2; done)
              try simp only [ZA, ZB, ZC, ZD, ZE, ZF, ZG, ZH, ZI, ZJ, ZK, ZL, ZM, ZN, ZO, ZP, ZQ, ZR] at hg2
              refine RunL.not (Wt.no rfl rfl rfl) rfl rfl ?_
              refine RunL.not (Wt.no rfl rfl rfl) rfl rfl ?_
              refine RunL.pure (Pure.pickF rfl rfl) (Wt.none rfl) rfl rfl ?_
              refine RunL.mv rfl rfl ?_
              refine RunL.not (Wt.no rfl rfl rfl) rfl rfl ?_
              refine RunL.not (Wt.no rfl rfl rfl) rfl rfl ?_
              refine RunL.pure (Pure.pickF rfl rfl) (Wt.none rfl) rfl rfl ?_
              refine RunL.nil ?_
              refine Run.condF rfl ?_
              refine Run.skip ?_
              refine Run.inBlock ?_
              refine Run.region ?_
              refine RunL.mv rfl rfl ?_
              first | refine RunL.pure (Pure.addI rfl rfl (by omega)) (Wt.none rfl) rfl rfl ?_ | refine RunL.pure (Pure.add rfl rfl) (Wt.none rfl) rfl rfl ?_
              refine RunL.as rfl rfl ?_
              refine RunL.nil ?_
              refine Run.keep (.cons rfl (.cons rfl (.cons rfl (.cons rfl (.nil)))) : Keep _ [1, 5, 6, 7] _) ?_
              refine Run.againF (F := F) ih (by exact ⟨i + 1, (addL (⟨#[33, 114, 58, 115, 49]⟩ : ByteArray) k v), by omega, hgo.add, sub_add hsb hvm, rfl, rfl, rfl⟩) (by repeat (first | (with_reducible exact Fin.done (by repeat (first | (with_reducible exact Rest.here) | apply Rest.there))) | (apply Fin.cons (by first | ((repeat (first | (with_reducible exact F0 _) | apply F1)); done) | (repeat (first | exact F0 _ | apply F1)))))) ?_
              omega
            · skip
              rw [hrc]
              refine RunL.as rfl rfl ?_
              refine RunL.nil ?_
              refine Run.sr ?_
              refine RunL.mv rfl rfl ?_
              refine RunL.pure (Pure.neq rfl rfl) (Wt.none rfl) rfl rfl ?_
              refine RunL.mv rfl rfl ?_
              refine RunL.split (d := 52) rfl (fun hg3 => ?_) (fun hg3 => ?_)
              rotate_left
              · try simp only [ZA, ZB, ZC, ZD, ZE, ZF, ZG, ZH, ZI, ZJ, ZK, ZL, ZM, ZN, ZO, ZP, ZQ, ZR] at hg3
                exfalso
                first | (simp at hg3; done) | omega
              try simp only [ZA, ZB, ZC, ZD, ZE, ZF, ZG, ZH, ZI, ZJ, ZK, ZL, ZM, ZN, ZO, ZP, ZQ, ZR] at hg3
              refine RunL.pure (Pure.move rfl) (Wt.yes rfl rfl rfl) rfl rfl ?_
              refine RunL.pure (Pure.neq rfl rfl) (Wt.yes rfl rfl rfl) rfl rfl ?_
              refine RunL.pure (Pure.pickT rfl rfl) (Wt.none rfl) rfl rfl ?_
              refine RunL.mv rfl rfl ?_
              refine RunL.split (d := 56) rfl (fun hg4 => ?_) (fun hg4 => ?_)
              · try simp only [ZA, ZB, ZC, ZD, ZE, ZF, ZG, ZH, ZI, ZJ, ZK, ZL, ZM, ZN, ZO, ZP, ZQ, ZR] at hg4
                exfalso
                first | exact hg4 rfl | (simp at hg4; done)
              try simp only [ZA, ZB, ZC, ZD, ZE, ZF, ZG, ZH, ZI, ZJ, ZK, ZL, ZM, ZN, ZO, ZP, ZQ, ZR] at hg4
              refine RunL.not (Wt.no rfl rfl rfl) rfl rfl ?_
              refine RunL.not (Wt.no rfl rfl rfl) rfl rfl ?_
              refine RunL.pure (Pure.pickF rfl rfl) (Wt.none rfl) rfl rfl ?_
              refine RunL.nil ?_
              refine Run.condF rfl ?_
              refine Run.skip ?_
              refine Run.inBlock ?_
              refine Run.region ?_
              refine RunL.mv rfl rfl ?_
              first | refine RunL.pure (Pure.addI rfl rfl (by omega)) (Wt.none rfl) rfl rfl ?_ | refine RunL.pure (Pure.add rfl rfl) (Wt.none rfl) rfl rfl ?_
              refine RunL.as rfl rfl ?_
              refine RunL.nil ?_
              refine Run.keep (.cons rfl (.cons rfl (.cons rfl (.cons rfl (.nil)))) : Keep _ [1, 5, 6, 7] _) ?_
              refine Run.againF (F := F) ih (by exact ⟨i + 1, (addL (⟨#[33, 114, 58, 115, 49]⟩ : ByteArray) k v), by omega, hgo.add, sub_add hsb hvm, rfl, rfl, rfl⟩) (by repeat (first | (with_reducible exact Fin.done (by repeat (first | (with_reducible exact Rest.here) | apply Rest.there))) | (apply Fin.cons (by first | ((repeat (first | (with_reducible exact F0 _) | apply F1)); done) | (repeat (first | exact F0 _ | apply F1)))))) ?_
              omega
            · skip
              rw [hrc]
              refine RunL.as rfl rfl ?_
              refine RunL.nil ?_
              refine Run.sr ?_
              refine RunL.mv rfl rfl ?_
              refine RunL.pure (Pure.neq rfl rfl) (Wt.none rfl) rfl rfl ?_
              refine RunL.mv rfl rfl ?_
              refine RunL.split (d := 52) rfl (fun hg5 => ?_) (fun hg5 => ?_)
              rotate_left
              · try simp only [ZA, ZB, ZC, ZD, ZE, ZF, ZG, ZH, ZI, ZJ, ZK, ZL, ZM, ZN, ZO, ZP, ZQ, ZR] at hg5
                exfalso
                first | (simp at hg5; done) | omega
              try simp only [ZA, ZB, ZC, ZD, ZE, ZF, ZG, ZH, ZI, ZJ, ZK, ZL, ZM, ZN, ZO, ZP, ZQ, ZR] at hg5
              refine RunL.pure (Pure.move rfl) (Wt.yes rfl rfl rfl) rfl rfl ?_
              refine RunL.pure (Pure.neq rfl rfl) (Wt.yes rfl rfl rfl) rfl rfl ?_
              refine RunL.pure (Pure.pickT rfl rfl) (Wt.none rfl) rfl rfl ?_
              refine RunL.mv rfl rfl ?_
              refine RunL.split (d := 56) rfl (fun hg6 => ?_) (fun hg6 => ?_)
              rotate_left
              · try simp only [ZA, ZB, ZC, ZD, ZE, ZF, ZG, ZH, ZI, ZJ, ZK, ZL, ZM, ZN, ZO, ZP, ZQ, ZR] at hg6
                exfalso
                first | (simp at hg6; done) | omega
              try simp only [ZA, ZB, ZC, ZD, ZE, ZF, ZG, ZH, ZI, ZJ, ZK, ZL, ZM, ZN, ZO, ZP, ZQ, ZR] at hg6
              refine RunL.pure (Pure.move rfl) (Wt.yes rfl rfl rfl) rfl rfl ?_
              refine RunL.pure (Pure.neq rfl rfl) (Wt.yes rfl rfl rfl) rfl rfl ?_
              refine RunL.pure (Pure.pickT rfl rfl) (Wt.none rfl) rfl rfl ?_
              refine RunL.nil ?_
              refine Run.cond rfl (fun hc7 => ?_) (fun hc7 => ?_)
              · try simp only [ZA, ZB, ZC, ZD, ZE, ZF, ZG, ZH, ZI, ZJ, ZK, ZL, ZM, ZN, ZO, ZP, ZQ, ZR] at hc7
                exfalso
                first | exact hc7 rfl | (simp at hc7; done)
              try simp only [ZA, ZB, ZC, ZD, ZE, ZF, ZG, ZH, ZI, ZJ, ZK, ZL, ZM, ZN, ZO, ZP, ZQ, ZR] at hc7
              refine Run.skip ?_
              refine Run.inBlock ?_
              refine Run.region ?_
              refine RunL.mv rfl rfl ?_
              first | refine RunL.pure (Pure.addI rfl rfl (by omega)) (Wt.none rfl) rfl rfl ?_ | refine RunL.pure (Pure.add rfl rfl) (Wt.none rfl) rfl rfl ?_
              refine RunL.as rfl rfl ?_
              refine RunL.nil ?_
              refine Run.keep (.cons rfl (.cons rfl (.cons rfl (.cons rfl (.nil)))) : Keep _ [1, 5, 6, 7] _) ?_
              refine Run.againF (F := F) ih (by exact ⟨i + 1, (addL (⟨#[33, 114, 58, 115, 49]⟩ : ByteArray) k v), by omega, hgo.add, sub_add hsb hvm, rfl, rfl, rfl⟩) (by repeat (first | (with_reducible exact Fin.done (by repeat (first | (with_reducible exact Rest.here) | apply Rest.there))) | (apply Fin.cons (by first | ((repeat (first | (with_reducible exact F0 _) | apply F1)); done) | (repeat (first | exact F0 _ | apply F1)))))) ?_
              omega
          · skip
            refine Run.regionD' (by kernel_rfl) (by kernel_rfl) (fun hok321 => ?_)
            refine RunD.lend (Q := row b5 30 _) Lends.row (by first | ((repeat (first | (with_reducible exact F0 _) | apply F1)); done) | (repeat (first | exact F0 _ | apply F1))) ?_; intro gl1 hlegl1 hl1 backgl1
            have hgsx_gl1 := hgsx.mono hlegl1
            have hgx_gl1 := hgx.mono hlegl1
            have hws_gl1 := hws.mono hlegl1
            have hd_gl1 := hd.mono hlegl1
            have hds_gl1 := hds.mono hlegl1
            have hdk_gl1 := hdk.mono hlegl1
            have hr2_gl1 := hr2.mono hlegl1
            have hroe_gl1 := hroe.mono hlegl1
            refine RunD.pure (i := 0) hok321 rfl (by kernel_rfl) (Pure.fieldAddr rfl fo30_1) (Wt.none rfl) rfl rfl ?_
            refine RunD.load1R (i := 1) hok321 rfl (by kernel_rfl) rfl (by assumption) (by rfl) agg28 (Wt.none rfl) rfl ?_
            refine RunD.pure (i := 2) hok321 rfl (by kernel_rfl) (Pure.move rfl) (Wt.none rfl) rfl rfl ?_
            refine RunD.pure (i := 3) hok321 rfl (by kernel_rfl) (Pure.move rfl) (Wt.none rfl) rfl rfl ?_
            refine RunD.pure (i := 4) hok321 rfl (by kernel_rfl) (Pure.indexAddr (opvSl rfl hp2) rfl und55 sz3 (by omega) (by omega)) (Wt.none rfl) rfl rfl ?_
            refine RunD.load1R (i := 5) hok321 rfl (by kernel_rfl) rfl hr2_gl1 (elem1_at hz) agg3 (Wt.none rfl) rfl ?_
            refine RunD.pure (i := 6) hok321 rfl (by kernel_rfl) (Pure.fieldAddr rfl fo30_1) (Wt.none rfl) rfl rfl ?_
            refine RunD.load1R (i := 7) hok321 rfl (by kernel_rfl) rfl (by assumption) (by rfl) agg28 (Wt.none rfl) rfl ?_
            refine RunD.pure (i := 8) hok321 rfl (by kernel_rfl) (Pure.lenSl rfl rfl und28) (Wt.none rfl) rfl rfl ?_
            refine RunD.two (i := 9) (j := 12) (by kernel_rfl) rfl rfl ?_ ?_
            · skip
              refine RunL.call rfl rfl (by rfl) (by repeat (first | (with_reducible exact Take.nil _) | (apply Take.cons (by first | ((repeat (first | (with_reducible exact F0 _) | apply F1)); done) | (repeat (first | exact F0 _ | apply F1)))))) (Around_ctr (z := z) (m := (D.l.n : Nat)) hzw (by omega)) (Wt.none rfl) rfl ?_
              rintro _ _ ⟨rfl, hA_⟩
              replace hA_ := hA_.symm; subst hA_
              rw [hq]
              refine RunL.nilD' ?_
              refine RunD.pure (i := 10) hok321 rfl (by kernel_rfl) (Pure.indexAddr (opvSl rfl hpe) rfl und28 sz24 (by omega) (by omega)) (Wt.none rfl) rfl rfl ?_
              refine RunD.loadNR (vs := (cEvn ((v.evn s)))) (i := 11) hok321 rfl (by kernel_rfl) rfl hroe_gl1 agg24 sz24 (elemN_len (pre := pree) (post := poste) (f := cES) (sz := 6) (j := 0) (n := 6) (fun _ _ => rfl) hy (by decide)) ((elemN_at (pre := pree) (post := poste) (f := cES) (sz := 6) (j := 0) (n := 6) (fun _ _ => rfl) hy (by decide)).trans rfl) (Wt.none rfl) rfl ?_
              refine RunD.one (i := 12) (by kernel_rfl) rfl ?_
              · skip
                refine RunL.alloc zz24 (Wt.none rfl) rfl ?_; intro b8
                refine RunL.nilD' ?_
                refine RunD.one (i := 13) (by kernel_rfl) rfl ?_
                · skip
                  refine RunL.storeW (xs := (cEvn ((v.evn s)))) rfl rfl (by first | ((repeat (first | (with_reducible exact F0 _) | apply F1)); done) | (repeat (first | exact F0 _ | apply F1))) sz24 (by rfl) (by rfl) (by rfl) (Wt.none rfl) ?_
                  refine RunL.nilD' ?_
                  refine RunD.nilB (by kernel_rfl) (fun w sw => backgl1 _ _ (sw)) ?_
                  refine Run.keep (.cons rfl (.cons rfl (.cons rfl (.cons rfl (.cons rfl (.nil))))) : Keep _ [1, 5, 6, 7, 8] _) ?_
                  exact Run.meetF (F := F) hk (by exact ⟨b8, rfl, rfl⟩) (by repeat (first | (with_reducible exact Fin.done (by repeat (first | (with_reducible exact Rest.here) | apply Rest.there))) | (apply Fin.cons (by first | ((repeat (first | (with_reducible exact F0 _) | apply F1)); done) | (repeat (first | exact F0 _ | apply F1))))))
            · skip
              refine RunL.alloc zz24 (Wt.none rfl) rfl ?_; intro b8
              refine RunL.nilD' ?_
              refine RunD.one (i := 9) (by kernel_rfl) rfl ?_
              · skip
                refine RunL.call rfl rfl (by rfl) (by repeat (first | (with_reducible exact Take.nil _) | (apply Take.cons (by first | ((repeat (first | (with_reducible exact F0 _) | apply F1)); done) | (repeat (first | exact F0 _ | apply F1)))))) (Around_ctr (z := z) (m := (D.l.n : Nat)) hzw (by omega)) (Wt.none rfl) rfl ?_
                rintro _ _ ⟨rfl, hA_⟩
                replace hA_ := hA_.symm; subst hA_
                rw [hq]
                refine RunL.nilD' ?_
                refine RunD.pure (i := 10) hok321 rfl (by kernel_rfl) (Pure.indexAddr (opvSl rfl hpe) rfl und28 sz24 (by omega) (by omega)) (Wt.none rfl) rfl rfl ?_
                refine RunD.loadNR (vs := (cEvn ((v.evn s)))) (i := 11) hok321 rfl (by kernel_rfl) rfl hroe_gl1 agg24 sz24 (elemN_len (pre := pree) (post := poste) (f := cES) (sz := 6) (j := 0) (n := 6) (fun _ _ => rfl) hy (by decide)) ((elemN_at (pre := pree) (post := poste) (f := cES) (sz := 6) (j := 0) (n := 6) (fun _ _ => rfl) hy (by decide)).trans rfl) (Wt.none rfl) rfl ?_
                refine RunD.one (i := 13) (by kernel_rfl) rfl ?_
                · skip
                  refine RunL.storeW (xs := (cEvn ((v.evn s)))) rfl rfl (by first | ((repeat (first | (with_reducible exact F0 _) | apply F1)); done) | (repeat (first | exact F0 _ | apply F1))) sz24 (by rfl) (by rfl) (by rfl) (Wt.none rfl) ?_
                  refine RunL.nilD' ?_
                  refine RunD.nilB (by kernel_rfl) (fun w sw => backgl1 _ _ (sw)) ?_
                  refine Run.keep (.cons rfl (.cons rfl (.cons rfl (.cons rfl (.cons rfl (.nil))))) : Keep _ [1, 5, 6, 7, 8] _) ?_
                  exact Run.meetF (F := F) hk (by exact ⟨b8, rfl, rfl⟩) (by repeat (first | (with_reducible exact Fin.done (by repeat (first | (with_reducible exact Rest.here) | apply Rest.there))) | (apply Fin.cons (by first | ((repeat (first | (with_reducible exact F0 _) | apply F1)); done) | (repeat (first | exact F0 _ | apply F1))))))
        · try simp only [ZA, ZB, ZC, ZD, ZE, ZF, ZG, ZH, ZI, ZJ, ZK, ZL, ZM, ZN, ZO, ZP, ZQ, ZR] at c3
          refine Run.exit rfl ?_
          refine Run.keep (.cons rfl (.cons rfl (.nil)) : Keep _ [5, 6] _) ?_
          exact Run.meetF (F := F) hk (by exact ⟨k, hgo, hsb, rfl, rfl⟩) (by repeat (first | (with_reducible exact Fin.done (by repeat (first | (with_reducible exact Rest.here) | apply Rest.there))) | (apply Fin.cons (by first | ((repeat (first | (with_reducible exact F0 _) | apply F1)); done) | (repeat (first | exact F0 _ | apply F1))))))
      · try simp only [ZA, ZB, ZC, ZD, ZE, ZF, ZG, ZH, ZI, ZJ, ZK, ZL, ZM, ZN, ZO, ZP, ZQ, ZR] at c2
        refine RunL.not (Wt.no rfl rfl rfl) rfl rfl ?_
        refine RunL.not (Wt.no rfl rfl rfl) rfl rfl ?_
        refine RunL.not (Wt.no rfl rfl rfl) rfl rfl ?_
        refine RunL.not (Wt.no rfl rfl rfl) rfl rfl ?_
        refine RunL.pure (Pure.pickF rfl rfl) (Wt.none rfl) rfl rfl ?_
        refine RunL.nil ?_
        refine Run.condF rfl ?_
        refine Run.exit rfl ?_
        refine Run.keep (.cons rfl (.cons rfl (.nil)) : Keep _ [5, 6] _) ?_
        exact Run.meetF (F := F) hk (by exact ⟨k, hgo, hsb, rfl, rfl⟩) (by repeat (first | (with_reducible exact Fin.done (by repeat (first | (with_reducible exact Rest.here) | apply Rest.there))) | (apply Fin.cons (by first | ((repeat (first | (with_reducible exact F0 _) | apply F1)); done) | (repeat (first | exact F0 _ | apply F1))))))
    · try simp only [ZA, ZB, ZC, ZD, ZE, ZF, ZG, ZH, ZI, ZJ, ZK, ZL, ZM, ZN, ZO, ZP, ZQ, ZR] at c1
      refine RunL.not (Wt.no rfl rfl rfl) rfl rfl ?_
      refine RunL.not (Wt.no rfl rfl rfl) rfl rfl ?_
      refine RunL.pure (Pure.pickF rfl rfl) (Wt.none rfl) rfl rfl ?_
      refine RunL.mv rfl rfl ?_
      refine RunL.not (Wt.no rfl rfl rfl) rfl rfl ?_
      refine RunL.not (Wt.no rfl rfl rfl) rfl rfl ?_
      refine RunL.not (Wt.no rfl rfl rfl) rfl rfl ?_
      refine RunL.not (Wt.no rfl rfl rfl) rfl rfl ?_
      refine RunL.pure (Pure.pickF rfl rfl) (Wt.none rfl) rfl rfl ?_
      refine RunL.nil ?_
      refine Run.condF rfl ?_
      refine Run.exit rfl ?_
      refine Run.keep (.cons rfl (.cons rfl (.nil)) : Keep _ [5, 6] _) ?_
      exact Run.meetF (F := F) hk (by exact ⟨k, hgo, hsb, rfl, rfl⟩) (by repeat (first | (with_reducible exact Fin.done (by repeat (first | (with_reducible exact Rest.here) | apply Rest.there))) | (apply Fin.cons (by first | ((repeat (first | (with_reducible exact F0 _) | apply F1)); done) | (repeat (first | exact F0 _ | apply F1))))))

end Go.Proofs.Ytghmmjifmnmbgaa
