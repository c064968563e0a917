/- Parcels: bytes. -/
import Derived.Test.YtbgjfpaigndbmaaP1
set_option linter.unusedVariables false
set_option linter.unusedSimpArgs false
set_option linter.unusedSectionVars false
namespace Go.Proofs.Ytbgjfpaigndbmaa
open Go Csl


set_option maxHeartbeats 4000000 in
set_option maxRecDepth 100000 in
theorem pWrite_ctr {G : Gp} {p : Prc} {xs : List Edu} (hE : HasE G p xs) (hz : ∀ x ∈ xs, eduSmall x) (hb : p.ed.n ≤ 9223372036854775807) (ho : okPrc p) (hzo : ∀ x ∈ xs, okEdu x) :
    Ctr Try.prog G 12 [.agg (cPrc p).toArray] [] (fun F v A => (prcMay p xs = true ∧ ∃ a c, v = .tuple #[.slice a (prcBytes p xs).length c, .int .i64 0] ∧ A = Sl 5 1 a (prcBytes p xs).length c ((prcBytes p xs).map bv) :: F) ∨ (prcMay p xs = false ∧ v = .tuple #[.slice none 0 0, .int .i64 1] ∧ A = F)) := by
  refine Ctr.intro Try.func12 rfl (by kernel_rfl) rfl (fun F => ?_)
  simp only [List.nil_append]
  have hoo := ho
  obtain ⟨hn, h, hc⟩ := hE
  obtain ⟨o1, o2, o3⟩ := ho
  replace o3 := wf_i64 o3
  refine Run.sr ?_
  refine RunL.boxA (xs := (cPrc p)) rfl (Wt.none rfl) rfl ?_; intro b1
  refine RunL.as rfl rfl ?_
  refine RunL.as rfl rfl ?_
  refine RunL.nil ?_
  refine Run.lendAll (Q := row b1 33 _) Lends.row (by first | ((repeat (first | (with_reducible exact F0 _) | apply F1)); done) | (repeat (first | exact F0 _ | apply F1))) (fun G1 hleG1 hrb1 => ?_)
  replace h := h.mono hleG1
  refine Run.seq ?_
  refine Run.sr ?_
  first | refine RunL.loadA (vs := (cPrc p)) rfl (by first | ((repeat (first | (with_reducible exact F0 _) | apply F1)); done) | (repeat (first | exact F0 _ | apply F1))) agg33 sz33 (by first | exact Nat.le_of_ble_eq_true rfl | (simp; done) | (simp; omega)) rfl (Wt.none rfl) rfl ?_ | refine RunL.loadNR (vs := (cPrc p)) rfl (by assumption) agg33 sz33 (by first | exact Nat.le_of_ble_eq_true rfl | (simp; done) | (simp; omega)) rfl (Wt.none rfl) rfl ?_
  refine RunL.call rfl rfl (by rfl) (by repeat (first | (with_reducible exact Take.nil _) | (apply Take.cons (by first | ((repeat (first | (with_reducible exact F0 _) | apply F1)); done) | (repeat (first | exact F0 _ | apply F1)))))) (pMay_ctr ⟨hn, h, hc⟩ hz hb hoo) (Wt.none rfl) rfl ?_
  rintro _ _ ⟨rfl, hA_⟩
  replace hA_ := hA_.symm; subst hA_
  refine RunL.pure (Pure.not rfl) (Wt.none rfl) rfl rfl ?_
  refine RunL.nil ?_
  refine Run.cond rfl (fun hm => ?_) (fun hm => ?_)
  · try simp only [ZA, ZB, ZC, ZD, ZE, ZF, ZG, ZH, ZI, ZJ, ZK, ZL, ZM, ZN, ZO, ZP, ZQ, ZR] at hm
    refine Run.sr ?_
    refine RunL.as rfl rfl ?_
    refine RunL.as rfl rfl ?_
    refine RunL.nil ?_
    exact Run.ret Try.func12 (res2 rfl rfl rfl) (by exact .inr ⟨hm, rfl, rfl⟩) (by repeat (first | (with_reducible exact Fin.done (by repeat (first | (with_reducible exact Rest.here) | apply Rest.there))) | (apply Fin.cons (by first | ((repeat (first | (with_reducible exact F0 _) | apply F1)); done) | (repeat (first | exact F0 _ | apply F1))))))
  · try simp only [ZA, ZB, ZC, ZD, ZE, ZF, ZG, ZH, ZI, ZJ, ZK, ZL, ZM, ZN, ZO, ZP, ZQ, ZR] at hm
    obtain ⟨f1, f2, f3, f4, f5, f6⟩ := may_facts hm
    have ft1 := txt_small f1
    have ft2 := txt_small f2
    have fn1 := numN_le p.id.toNat (by omega)
    have fn2 := numN_le p.ed.n (by omega)
    refine Run.skip ?_
    refine Run.sr ?_
    refine RunL.pure (Pure.fieldAddr rfl fo33_0) (Wt.none rfl) rfl rfl ?_
    first | refine RunL.load1 rfl (by first | ((repeat (first | (with_reducible exact F0 _) | apply F1)); done) | (repeat (first | exact F0 _ | apply F1))) (by rfl) agg4 (Wt.none rfl) rfl ?_ | refine RunL.load1R rfl (by assumption) (by rfl) agg4 (Wt.none rfl) rfl ?_
    refine RunL.call rfl rfl (by rfl) (by repeat (first | (with_reducible exact Take.nil _) | (apply Take.cons (by first | ((repeat (first | (with_reducible exact F0 _) | apply F1)); done) | (repeat (first | exact F0 _ | apply F1)))))) (Flag_ctr (bs := []) (.inl ⟨rfl, rfl⟩) (Nat.le_refl _) (by decide) (is := p.ack)) (Wt.none rfl) rfl ?_
    rintro _ _ ⟨a0, c0, rfl, hA_⟩
    replace hA_ := hA_.symm; subst hA_
    rw [List.nil_append, show [if p.ack = true then (1 : UInt8) else 0] = flg p.ack from rfl]
    obtain ⟨acc0, hacc0, hal0⟩ : ∃ l, l = flg p.ack ∧ l.length ≤ 1 := ⟨_, rfl, by exact Nat.le_refl 1⟩
    rw [← hacc0]
    refine RunL.as rfl rfl ?_
    refine RunL.nil ?_
    refine Run.sr ?_
    refine RunL.mv rfl rfl ?_
    refine RunL.pure (Pure.fieldAddr rfl fo33_1) (Wt.none rfl) rfl rfl ?_
    first | refine RunL.load1 rfl (by first | ((repeat (first | (with_reducible exact F0 _) | apply F1)); done) | (repeat (first | exact F0 _ | apply F1))) (by rfl) agg9 (Wt.none rfl) rfl ?_ | refine RunL.load1R rfl (by assumption) (by rfl) agg9 (Wt.none rfl) rfl ?_
    refine RunL.call rfl rfl (by rfl) (by repeat (first | (with_reducible exact Take.nil _) | (apply Take.cons (by first | ((repeat (first | (with_reducible exact F0 _) | apply F1)); done) | (repeat (first | exact F0 _ | apply F1)))))) (Ctr.lend (R := fun G => SlR G 5 1 _ _ _ ∧ _ ≤ _) Lends.Sl cb30 (fun G' hle hr => Text_ctr (bs := acc0) hr.1 hr.2 (s := p.frm) (by omega) (by omega))) (Wt.none rfl) rfl ?_
    rintro _ _ ⟨_, rfl, a1, c1, rfl, hA_⟩
    replace hA_ := hA_.symm; subst hA_
    rw [show acc0 ++ numN p.frm.size ++ bl p.frm = acc0 ++ txt p.frm from by unfold txt; rw [List.append_assoc]]
    obtain ⟨acc1, hacc1, hal1⟩ : ∃ l, l = acc0 ++ txt p.frm ∧ l.length ≤ 26 := ⟨_, rfl, by rw [List.length_append]; omega⟩
    rw [← hacc1]
    refine RunL.as rfl rfl ?_
    refine RunL.nil ?_
    refine Run.sr ?_
    refine RunL.mv rfl rfl ?_
    refine RunL.pure (Pure.fieldAddr rfl fo33_2) (Wt.none rfl) rfl rfl ?_
    first | refine RunL.load1 rfl (by first | ((repeat (first | (with_reducible exact F0 _) | apply F1)); done) | (repeat (first | exact F0 _ | apply F1))) (by rfl) agg9 (Wt.none rfl) rfl ?_ | refine RunL.load1R rfl (by assumption) (by rfl) agg9 (Wt.none rfl) rfl ?_
    refine RunL.call rfl rfl (by rfl) (by repeat (first | (with_reducible exact Take.nil _) | (apply Take.cons (by first | ((repeat (first | (with_reducible exact F0 _) | apply F1)); done) | (repeat (first | exact F0 _ | apply F1)))))) (Ctr.lend (R := fun G => SlR G 5 1 _ _ _ ∧ _ ≤ _) Lends.Sl cb30 (fun G' hle hr => Text_ctr (bs := acc1) hr.1 hr.2 (s := p.to_) (by omega) (by omega))) (Wt.none rfl) rfl ?_
    rintro _ _ ⟨_, rfl, a2, c2, rfl, hA_⟩
    replace hA_ := hA_.symm; subst hA_
    rw [show acc1 ++ numN p.to_.size ++ bl p.to_ = acc1 ++ txt p.to_ from by unfold txt; rw [List.append_assoc]]
    obtain ⟨acc2, hacc2, hal2⟩ : ∃ l, l = acc1 ++ txt p.to_ ∧ l.length ≤ 51 := ⟨_, rfl, by rw [List.length_append]; omega⟩
    rw [← hacc2]
    refine RunL.as rfl rfl ?_
    refine RunL.nil ?_
    refine Run.sr ?_
    refine RunL.mv rfl rfl ?_
    refine RunL.pure (Pure.fieldAddr rfl fo33_3) (Wt.none rfl) rfl rfl ?_
    first | refine RunL.load1 rfl (by first | ((repeat (first | (with_reducible exact F0 _) | apply F1)); done) | (repeat (first | exact F0 _ | apply F1))) (by rfl) agg3 (Wt.none rfl) rfl ?_ | refine RunL.load1R rfl (by assumption) (by rfl) agg3 (Wt.none rfl) rfl ?_
    refine RunL.call rfl rfl (by rfl) (by repeat (first | (with_reducible exact Take.nil _) | (apply Take.cons (by first | ((repeat (first | (with_reducible exact F0 _) | apply F1)); done) | (repeat (first | exact F0 _ | apply F1)))))) (Ctr.lend (R := fun G => SlR G 5 1 _ _ _ ∧ _ ≤ _) Lends.Sl cb31 (fun G' hle hr => Number_ctr (bs := acc2) hr.1 hr.2 (by omega) (z := p.id) (by omega))) (Wt.none rfl) rfl ?_
    rintro _ _ ⟨_, rfl, a3, c3, rfl, hA_⟩
    replace hA_ := hA_.symm; subst hA_
    obtain ⟨acc3, hacc3, hal3⟩ : ∃ l, l = acc2 ++ numN p.id.toNat ∧ l.length ≤ 60 := ⟨_, rfl, by rw [List.length_append]; omega⟩
    rw [← hacc3]
    refine RunL.as rfl rfl ?_
    refine RunL.nil ?_
    refine Run.sr ?_
    refine RunL.mv rfl rfl ?_
    refine RunL.pure (Pure.fieldAddr rfl fo33_4) (Wt.none rfl) rfl rfl ?_
    first | refine RunL.load1 rfl (by first | ((repeat (first | (with_reducible exact F0 _) | apply F1)); done) | (repeat (first | exact F0 _ | apply F1))) (by rfl) agg22 (Wt.none rfl) rfl ?_ | refine RunL.load1R rfl (by assumption) (by rfl) agg22 (Wt.none rfl) rfl ?_
    refine RunL.pure (Pure.lenSl rfl rfl und22) (Wt.none rfl) rfl rfl ?_
    refine RunL.call rfl rfl (by rfl) (by repeat (first | (with_reducible exact Take.nil _) | (apply Take.cons (by first | ((repeat (first | (with_reducible exact F0 _) | apply F1)); done) | (repeat (first | exact F0 _ | apply F1)))))) (Ctr.lend (R := fun G => SlR G 5 1 _ _ _ ∧ _ ≤ _) Lends.Sl cb31 (fun G' hle hr => Number_ctr (bs := acc3) hr.1 hr.2 (by omega) (z := (p.ed.n : Nat)) (by omega))) (Wt.none rfl) rfl ?_
    rintro _ _ ⟨_, rfl, a4, c4, rfl, hA_⟩
    replace hA_ := hA_.symm; subst hA_
    rw [Int.toNat_natCast]
    obtain ⟨acc4, hacc4, hal4⟩ : ∃ l, l = acc3 ++ numN p.ed.n ∧ l.length ≤ 69 := ⟨_, rfl, by rw [List.length_append]; omega⟩
    rw [← hacc4]
    have hhead : acc4 = prcHead p xs.length := by rw [hacc4, hacc3, hacc2, hacc1, hacc0, ← hn]; rfl
    refine RunL.as rfl rfl ?_
    refine RunL.nil ?_
    refine Run.seq ?_
    refine Run.sr ?_
    refine RunL.pure (Pure.fieldAddr rfl fo33_4) (Wt.none rfl) rfl rfl ?_
    first | refine RunL.load1 rfl (by first | ((repeat (first | (with_reducible exact F0 _) | apply F1)); done) | (repeat (first | exact F0 _ | apply F1))) (by rfl) agg22 (Wt.none rfl) rfl ?_ | refine RunL.load1R rfl (by assumption) (by rfl) agg22 (Wt.none rfl) rfl ?_
    refine RunL.pure (Pure.lenSl rfl rfl und22) (Wt.none rfl) rfl rfl ?_
    refine RunL.mv rfl rfl ?_
    refine RunL.nil ?_
    refine Run.block ?_
    refine Run.keep (.cons rfl (.cons rfl (.cons rfl (.cons rfl (.nil)))) : Keep _ [4, 33, 34, 35] _) ?_
    refine Run.loopF (F := F) (fun n e_ A => ∃ (i : Nat) (acc : List UInt8) (a : Option Addr) (c : Nat), i ≤ p.ed.n ∧ acc = prcHead p xs.length ++ (xs.take i).flatMap eduTxt ∧ acc.length ≤ 69 + 5009 * i ∧ n = p.ed.n - i ∧ e_ = [(4, .slice a acc.length c), (33, .slice p.ed.a p.ed.n p.ed.c), (34, .int .i64 (p.ed.n : Nat)), (35, .int .i64 (i : Nat))] ∧ A = Sl 5 1 a (acc).length c ((acc).map bv) :: F) (p.ed.n) (by exact ⟨0, acc4, _, _, by omega, by rw [hhead]; simp, by omega, rfl, rfl, rfl⟩) (by repeat (first | (with_reducible exact Fin.done (by repeat (first | (with_reducible exact Rest.here) | apply Rest.there))) | (apply Fin.cons (by first | ((repeat (first | (with_reducible exact F0 _) | apply F1)); done) | (repeat (first | exact F0 _ | apply F1)))))) ?_
    rintro n _ _ ⟨i, acc, a, c, hi, hacc, hal, rfl, rfl, hA_⟩ ih
    replace hA_ := hA_.symm; subst hA_
    refine Run.sr ?_
    refine RunL.pure (Pure.lss rfl rfl) (Wt.none rfl) rfl rfl ?_
    refine RunL.nil ?_
    refine Run.seq ?_
    refine Run.cond rfl (fun h1 => ?_) (fun h1 => ?_)
    · try simp only [ZA, ZB, ZC, ZD, ZE, ZF, ZG, ZH, ZI, ZJ, ZK, ZL, ZM, ZN, ZO, ZP, ZQ, ZR] at h1
      obtain ⟨x, hx⟩ := get_some (xs := xs) (i := i) (by omega)
      have hxz := hz x (List.mem_of_getElem? hx)
      have hxo := hzo x (List.mem_of_getElem? hx)
      have hxt := eduTxt_len hxz hxo
      have hxl := eduBytes_len3 hxz hxo
      obtain ⟨bb, Tb, preb, postb, hpa, hro⟩ := h.open1 (show 0 < p.ed.n by omega)
      refine Run.skip ?_
      rw [hpa]
      refine Run.seq ?_
      refine Run.block ?_
      refine Run.sr ?_
      refine RunL.pure (Pure.indexAddr rfl rfl und22 sz50 (by omega) (by omega)) (Wt.none rfl) rfl rfl ?_
      refine RunL.loadNR (vs := (cEdu x)) rfl hro agg50 sz50 (elemN_len (pre := preb) (post := postb) (f := cEdu) (sz := 11) (j := 0) (n := 11) (fun _ _ => rfl) hx (by decide)) ((elemN_at (pre := preb) (post := postb) (f := cEdu) (sz := 11) (j := 0) (n := 11) (fun _ _ => rfl) hx (by decide)).trans rfl) (Wt.none rfl) rfl ?_
      refine RunL.alloc zz50 (Wt.none rfl) rfl ?_; intro b6
      refine RunL.storeW (xs := (cEdu x)) rfl rfl (by first | ((repeat (first | (with_reducible exact F0 _) | apply F1)); done) | (repeat (first | exact F0 _ | apply F1))) sz50 (by rfl) (by rfl) (by rfl) (Wt.none rfl) ?_
      refine RunL.nil ?_
      refine Run.sr ?_
      first | refine RunL.loadA (vs := (cEdu x)) rfl (by first | ((repeat (first | (with_reducible exact F0 _) | apply F1)); done) | (repeat (first | exact F0 _ | apply F1))) agg50 sz50 (by first | exact Nat.le_of_ble_eq_true rfl | (simp; done) | (simp; omega)) rfl (Wt.none rfl) rfl ?_ | refine RunL.loadNR (vs := (cEdu x)) rfl (by assumption) agg50 sz50 (by first | exact Nat.le_of_ble_eq_true rfl | (simp; done) | (simp; omega)) rfl (Wt.none rfl) rfl ?_
      refine RunL.call rfl rfl (by rfl) (by repeat (first | (with_reducible exact Take.nil _) | (apply Take.cons (by first | ((repeat (first | (with_reducible exact F0 _) | apply F1)); done) | (repeat (first | exact F0 _ | apply F1)))))) (WriteT_ctr (e := x) hxz hxo (List.all_eq_true.1 f6 x (List.mem_of_getElem? hx))) (Wt.none rfl) rfl ?_
      rintro _ _ ⟨a5, c5, rfl, hA_⟩
      replace hA_ := hA_.symm; subst hA_
      refine RunL.mv rfl rfl ?_
      refine RunL.pure (Pure.extract rfl rfl) (Wt.none rfl) rfl rfl ?_
      refine RunL.pure (Pure.extract rfl rfl) (Wt.none rfl) rfl rfl ?_
      refine RunL.as rfl rfl ?_
      refine RunL.as rfl rfl ?_
      refine RunL.nil ?_
      refine Run.region ?_
      refine RunL.mv rfl rfl ?_
      refine RunL.mv rfl rfl ?_
      refine RunL.bytesStr (bs := eduBytes x) rfl und29 und5 und9 (fun w sw => (sw.find (p := Sl 5 1 a5 _ c5 _) (by first | ((repeat (first | (with_reducible exact F0 _) | apply F1)); done) | (repeat (first | exact F0 _ | apply F1)))).src) (Wt.none rfl) rfl ?_
      refine RunL.call rfl rfl (by rfl) (by repeat (first | (with_reducible exact Take.nil _) | (apply Take.cons (by first | ((repeat (first | (with_reducible exact F0 _) | apply F1)); done) | (repeat (first | exact F0 _ | apply F1)))))) (Ctr.lend (R := fun G => SlR G 5 1 _ _ _ ∧ _ ≤ _) Lends.Sl cb30 (fun G' hle hr => Text_ctr (bs := acc) hr.1 hr.2 (s := mkS (eduBytes x)) (by omega) (by rw [mkS_size]; omega))) (Wt.none rfl) rfl ?_
      rintro _ _ ⟨_, rfl, a6, c6, rfl, hA_⟩
      replace hA_ := hA_.symm; subst hA_
      rw [show acc ++ numN (mkS (eduBytes x)).size ++ bl (mkS (eduBytes x)) = acc ++ eduTxt x from by rw [mkS_size, bl_mkS, List.append_assoc]; rfl]
      refine RunL.as rfl rfl ?_
      refine RunL.nil ?_
      refine Run.inBlock ?_
      refine Run.region ?_
      first | refine RunL.pure (Pure.addI rfl rfl (by omega)) (Wt.none rfl) rfl rfl ?_ | refine RunL.pure (Pure.add rfl rfl) (Wt.none rfl) rfl rfl ?_
      refine RunL.mv rfl rfl ?_
      refine RunL.nil ?_
      refine Run.keep (.cons rfl (.cons rfl (.cons rfl (.cons rfl (.nil)))) : Keep _ [4, 33, 34, 35] _) ?_
      refine Run.againF (F := F) ih (by exact ⟨i + 1, acc ++ eduTxt x, _, _, by omega, by rw [hacc, List.take_add_one, hx, List.flatMap_append, List.append_assoc]; simp, by rw [List.length_append]; omega, rfl, (by rw [hpa] <;> rfl), rfl⟩) (by repeat (first | (with_reducible exact Fin.done (by repeat (first | (with_reducible exact Rest.here) | apply Rest.there))) | (apply Fin.cons (by first | ((repeat (first | (with_reducible exact F0 _) | apply F1)); done) | (repeat (first | exact F0 _ | apply F1)))))) ?_
      omega
    · try simp only [ZA, ZB, ZC, ZD, ZE, ZF, ZG, ZH, ZI, ZJ, ZK, ZL, ZM, ZN, ZO, ZP, ZQ, ZR] at h1
      refine Run.exit rfl ?_
      refine Run.sr ?_
      refine RunL.mv rfl rfl ?_
      refine RunL.as rfl rfl ?_
      refine RunL.as rfl rfl ?_
      refine RunL.nil ?_
      have hb2 : prcBytes p xs = acc := by rw [hacc, List.take_of_length_le (by omega)]; rfl
      exact Run.ret Try.func12 (res2 rfl rfl rfl) (by exact .inl ⟨hm, _, _, by rw [hb2], by rw [hb2]⟩) (by repeat (first | (with_reducible exact Fin.done (by repeat (first | (with_reducible exact Rest.here) | apply Rest.there))) | (apply Fin.cons (by first | ((repeat (first | (with_reducible exact F0 _) | apply F1)); done) | (repeat (first | exact F0 _ | apply F1))))))

set_option maxHeartbeats 4000000 in
set_option maxRecDepth 100000 in
theorem rBytes4_ctr {G : Gp} {p : Prc} {xs : List Edu} (hE : HasE G p xs) (hz : ∀ x ∈ xs, eduSmall x) (hb : p.ed.n ≤ 9223372036854775807) (ho : okPrc p) (hzo : ∀ x ∈ xs, okEdu x) (hm : prcMay p xs = true) :
    Ctr Try.prog G 15 [.agg (cPrc p).toArray] [] (Fresh 5 (prcBytes p xs)) := by
  refine Ctr.intro Try.func15 rfl (by kernel_rfl) rfl (fun F => ?_)
  simp only [List.nil_append]
  obtain ⟨hn, h, hc⟩ := hE
  obtain ⟨o1, o2, o3⟩ := ho
  replace o3 := wf_i64 o3
  obtain ⟨f1, f2, f3, f4, f5, f6⟩ := may_facts hm
  have ft1 := txt_small f1
  have ft2 := txt_small f2
  have fn1 := numN_le p.id.toNat (by omega)
  have fn2 := numN_le p.ed.n (by omega)
  refine Run.sr ?_
  refine RunL.boxA (xs := (cPrc p)) rfl (Wt.none rfl) rfl ?_; intro b1
  refine RunL.as rfl rfl ?_
  refine RunL.nil ?_
  refine Run.lendAll (Q := row b1 24 _) Lends.row (by first | ((repeat (first | (with_reducible exact F0 _) | apply F1)); done) | (repeat (first | exact F0 _ | apply F1))) (fun G1 hleG1 hrb1 => ?_)
  replace h := h.mono hleG1
  refine Run.sr ?_
  refine RunL.pure (Pure.fieldAddr rfl fo24_0) (Wt.none rfl) rfl rfl ?_
  first | refine RunL.load1 rfl (by first | ((repeat (first | (with_reducible exact F0 _) | apply F1)); done) | (repeat (first | exact F0 _ | apply F1))) (by rfl) agg4 (Wt.none rfl) rfl ?_ | refine RunL.load1R rfl (by assumption) (by rfl) agg4 (Wt.none rfl) rfl ?_
  refine RunL.call rfl rfl (by rfl) (by repeat (first | (with_reducible exact Take.nil _) | (apply Take.cons (by first | ((repeat (first | (with_reducible exact F0 _) | apply F1)); done) | (repeat (first | exact F0 _ | apply F1)))))) (RFlag_ctr (is := p.ack)) (Wt.none rfl) rfl ?_
  rintro _ _ ⟨a0, c0, rfl, hA_⟩
  replace hA_ := hA_.symm; subst hA_
  rw [show [if p.ack = true then (1 : UInt8) else 0] = flg p.ack from rfl]
  obtain ⟨acc0, hacc0, hal0⟩ : ∃ l, l = flg p.ack ∧ l.length ≤ 1 := ⟨_, rfl, by exact Nat.le_refl 1⟩
  rw [← hacc0]
  refine RunL.as rfl rfl ?_
  refine RunL.nil ?_
  refine Run.sr ?_
  refine RunL.mv rfl rfl ?_
  refine RunL.pure (Pure.fieldAddr rfl fo24_1) (Wt.none rfl) rfl rfl ?_
  first | refine RunL.load1 rfl (by first | ((repeat (first | (with_reducible exact F0 _) | apply F1)); done) | (repeat (first | exact F0 _ | apply F1))) (by rfl) agg9 (Wt.none rfl) rfl ?_ | refine RunL.load1R rfl (by assumption) (by rfl) agg9 (Wt.none rfl) rfl ?_
  refine RunL.call rfl rfl (by rfl) (by repeat (first | (with_reducible exact Take.nil _) | (apply Take.cons (by first | ((repeat (first | (with_reducible exact F0 _) | apply F1)); done) | (repeat (first | exact F0 _ | apply F1)))))) (RText_ctr (s := p.frm) (by omega)) (Wt.none rfl) rfl ?_
  rintro _ _ ⟨an1, cn1, rfl, hA_⟩
  replace hA_ := hA_.symm; subst hA_
  rw [show numN p.frm.size ++ bl p.frm = txt p.frm from rfl]
  refine RunL.append (n' := (acc0 ++ txt p.frm).length) (cs' := ((acc0 ++ txt p.frm).map bv)) rfl rfl (by first | ((repeat (first | (with_reducible exact F0 _) | apply F1)); done) | (repeat (first | exact F0 _ | apply F1))) rfl rfl und29 und29 rfl sz5 zz5 rfl by5 (by omega) (by omega) (fun w sw => (sw.find (p := Sl 5 1 an1 _ cn1 _) (by first | ((repeat (first | (with_reducible exact F0 _) | apply F1)); done) | (repeat (first | exact F0 _ | apply F1)))).src) (isOne_bv _) (by rw [List.length_append]) (by rw [List.map_append]) (Wt.none rfl) rfl ?_; intro ao1 co1
  obtain ⟨acc1, hacc1, hal1⟩ : ∃ l, l = acc0 ++ txt p.frm ∧ l.length ≤ 26 := ⟨_, rfl, by rw [List.length_append]; omega⟩
  rw [← hacc1]
  refine RunL.as rfl rfl ?_
  refine RunL.nil ?_
  refine Run.sr ?_
  refine RunL.mv rfl rfl ?_
  refine RunL.pure (Pure.fieldAddr rfl fo24_2) (Wt.none rfl) rfl rfl ?_
  first | refine RunL.load1 rfl (by first | ((repeat (first | (with_reducible exact F0 _) | apply F1)); done) | (repeat (first | exact F0 _ | apply F1))) (by rfl) agg9 (Wt.none rfl) rfl ?_ | refine RunL.load1R rfl (by assumption) (by rfl) agg9 (Wt.none rfl) rfl ?_
  refine RunL.call rfl rfl (by rfl) (by repeat (first | (with_reducible exact Take.nil _) | (apply Take.cons (by first | ((repeat (first | (with_reducible exact F0 _) | apply F1)); done) | (repeat (first | exact F0 _ | apply F1)))))) (RText_ctr (s := p.to_) (by omega)) (Wt.none rfl) rfl ?_
  rintro _ _ ⟨an2, cn2, rfl, hA_⟩
  replace hA_ := hA_.symm; subst hA_
  rw [show numN p.to_.size ++ bl p.to_ = txt p.to_ from rfl]
  refine RunL.append (n' := (acc1 ++ txt p.to_).length) (cs' := ((acc1 ++ txt p.to_).map bv)) rfl rfl (by first | ((repeat (first | (with_reducible exact F0 _) | apply F1)); done) | (repeat (first | exact F0 _ | apply F1))) rfl rfl und29 und29 rfl sz5 zz5 rfl by5 (by omega) (by omega) (fun w sw => (sw.find (p := Sl 5 1 an2 _ cn2 _) (by first | ((repeat (first | (with_reducible exact F0 _) | apply F1)); done) | (repeat (first | exact F0 _ | apply F1)))).src) (isOne_bv _) (by rw [List.length_append]) (by rw [List.map_append]) (Wt.none rfl) rfl ?_; intro ao2 co2
  obtain ⟨acc2, hacc2, hal2⟩ : ∃ l, l = acc1 ++ txt p.to_ ∧ l.length ≤ 51 := ⟨_, rfl, by rw [List.length_append]; omega⟩
  rw [← hacc2]
  refine RunL.as rfl rfl ?_
  refine RunL.nil ?_
  refine Run.sr ?_
  refine RunL.mv rfl rfl ?_
  refine RunL.pure (Pure.fieldAddr rfl fo24_3) (Wt.none rfl) rfl rfl ?_
  first | refine RunL.load1 rfl (by first | ((repeat (first | (with_reducible exact F0 _) | apply F1)); done) | (repeat (first | exact F0 _ | apply F1))) (by rfl) agg3 (Wt.none rfl) rfl ?_ | refine RunL.load1R rfl (by assumption) (by rfl) agg3 (Wt.none rfl) rfl ?_
  refine RunL.call rfl rfl (by rfl) (by repeat (first | (with_reducible exact Take.nil _) | (apply Take.cons (by first | ((repeat (first | (with_reducible exact F0 _) | apply F1)); done) | (repeat (first | exact F0 _ | apply F1)))))) (RNumber_ctr (z := p.id) (by omega)) (Wt.none rfl) rfl ?_
  rintro _ _ ⟨an3, cn3, rfl, hA_⟩
  replace hA_ := hA_.symm; subst hA_
  refine RunL.append (n' := (acc2 ++ numN p.id.toNat).length) (cs' := ((acc2 ++ numN p.id.toNat).map bv)) rfl rfl (by first | ((repeat (first | (with_reducible exact F0 _) | apply F1)); done) | (repeat (first | exact F0 _ | apply F1))) rfl rfl und29 und29 rfl sz5 zz5 rfl by5 (by omega) (by omega) (fun w sw => (sw.find (p := Sl 5 1 an3 _ cn3 _) (by first | ((repeat (first | (with_reducible exact F0 _) | apply F1)); done) | (repeat (first | exact F0 _ | apply F1)))).src) (isOne_bv _) (by rw [List.length_append]) (by rw [List.map_append]) (Wt.none rfl) rfl ?_; intro ao3 co3
  obtain ⟨acc3, hacc3, hal3⟩ : ∃ l, l = acc2 ++ numN p.id.toNat ∧ l.length ≤ 60 := ⟨_, rfl, by rw [List.length_append]; omega⟩
  rw [← hacc3]
  refine RunL.as rfl rfl ?_
  refine RunL.nil ?_
  refine Run.sr ?_
  refine RunL.mv rfl rfl ?_
  refine RunL.pure (Pure.fieldAddr rfl fo24_4) (Wt.none rfl) rfl rfl ?_
  first | refine RunL.load1 rfl (by first | ((repeat (first | (with_reducible exact F0 _) | apply F1)); done) | (repeat (first | exact F0 _ | apply F1))) (by rfl) agg22 (Wt.none rfl) rfl ?_ | refine RunL.load1R rfl (by assumption) (by rfl) agg22 (Wt.none rfl) rfl ?_
  refine RunL.pure (Pure.lenSl rfl rfl und22) (Wt.none rfl) rfl rfl ?_
  refine RunL.call rfl rfl (by rfl) (by repeat (first | (with_reducible exact Take.nil _) | (apply Take.cons (by first | ((repeat (first | (with_reducible exact F0 _) | apply F1)); done) | (repeat (first | exact F0 _ | apply F1)))))) (RNumber_ctr (z := (p.ed.n : Nat)) (by omega)) (Wt.none rfl) rfl ?_
  rintro _ _ ⟨an4, cn4, rfl, hA_⟩
  replace hA_ := hA_.symm; subst hA_
  rw [Int.toNat_natCast]
  refine RunL.append (n' := (acc3 ++ numN p.ed.n).length) (cs' := ((acc3 ++ numN p.ed.n).map bv)) rfl rfl (by first | ((repeat (first | (with_reducible exact F0 _) | apply F1)); done) | (repeat (first | exact F0 _ | apply F1))) rfl rfl und29 und29 rfl sz5 zz5 rfl by5 (by omega) (by omega) (fun w sw => (sw.find (p := Sl 5 1 an4 _ cn4 _) (by first | ((repeat (first | (with_reducible exact F0 _) | apply F1)); done) | (repeat (first | exact F0 _ | apply F1)))).src) (isOne_bv _) (by rw [List.length_append]) (by rw [List.map_append]) (Wt.none rfl) rfl ?_; intro ao4 co4
  obtain ⟨acc4, hacc4, hal4⟩ : ∃ l, l = acc3 ++ numN p.ed.n ∧ l.length ≤ 69 := ⟨_, rfl, by rw [List.length_append]; omega⟩
  rw [← hacc4]
  have hhead : acc4 = prcHead p xs.length := by rw [hacc4, hacc3, hacc2, hacc1, hacc0, ← hn]; rfl
  refine RunL.as rfl rfl ?_
  refine RunL.nil ?_
  refine Run.seq ?_
  refine Run.sr ?_
  refine RunL.as rfl rfl ?_
  refine RunL.nil ?_
  refine Run.block ?_
  refine Run.keep (.cons rfl (.cons rfl (.cons rfl (.nil))) : Keep _ [1, 3, 4] _) ?_
  refine Run.loopF (F := F) (fun n e_ A => ∃ (i : Nat) (acc : List UInt8) (a : Option Addr) (c : Nat), i ≤ p.ed.n ∧ acc = prcHead p xs.length ++ (xs.take i).flatMap eduTxt ∧ acc.length ≤ 69 + 5009 * i ∧ n = p.ed.n - i ∧ e_ = [(1, .pointer (some ⟨b1, 0, none⟩)), (3, .slice a acc.length c), (4, .int .i64 (i : Nat))] ∧ A = Sl 5 1 a (acc).length c ((acc).map bv) :: F) (p.ed.n) (by exact ⟨0, acc4, _, _, by omega, by rw [hhead]; simp, by omega, rfl, rfl, rfl⟩) (by repeat (first | (with_reducible exact Fin.done (by repeat (first | (with_reducible exact Rest.here) | apply Rest.there))) | (apply Fin.cons (by first | ((repeat (first | (with_reducible exact F0 _) | apply F1)); done) | (repeat (first | exact F0 _ | apply F1)))))) ?_
  rintro n _ _ ⟨i, acc, a, c, hi, hacc, hal, rfl, rfl, hA_⟩ ih
  replace hA_ := hA_.symm; subst hA_
  refine Run.seq ?_
  refine Run.sr ?_
  refine RunL.mv rfl rfl ?_
  refine RunL.pure (Pure.fieldAddr rfl fo24_4) (Wt.none rfl) rfl rfl ?_
  first | refine RunL.load1 rfl (by first | ((repeat (first | (with_reducible exact F0 _) | apply F1)); done) | (repeat (first | exact F0 _ | apply F1))) (by rfl) agg22 (Wt.none rfl) rfl ?_ | refine RunL.load1R rfl (by assumption) (by rfl) agg22 (Wt.none rfl) rfl ?_
  refine RunL.pure (Pure.lenSl rfl rfl und22) (Wt.none rfl) rfl rfl ?_
  refine RunL.pure (Pure.lss rfl rfl) (Wt.none rfl) rfl rfl ?_
  refine RunL.nil ?_
  refine Run.cond rfl (fun h1 => ?_) (fun h1 => ?_)
  · try simp only [ZA, ZB, ZC, ZD, ZE, ZF, ZG, ZH, ZI, ZJ, ZK, ZL, ZM, ZN, ZO, ZP, ZQ, ZR] at h1
    obtain ⟨x, hx⟩ := get_some (xs := xs) (i := i) (by omega)
    have hxz := hz x (List.mem_of_getElem? hx)
    have hxo := hzo x (List.mem_of_getElem? hx)
    have hxt := eduTxt_len hxz hxo
    have hxl := eduBytes_len3 hxz hxo
    obtain ⟨bb, Tb, preb, postb, hpa, hro⟩ := h.open1 (show 0 < p.ed.n by omega)
    refine Run.skip ?_
    refine Run.seq ?_
    refine Run.block ?_
    refine Run.region ?_
    refine RunL.mv rfl rfl ?_
    refine RunL.pure (Pure.fieldAddr rfl fo24_4) (Wt.none rfl) rfl rfl ?_
    first | refine RunL.load1 rfl (by first | ((repeat (first | (with_reducible exact F0 _) | apply F1)); done) | (repeat (first | exact F0 _ | apply F1))) (by rfl) agg22 (Wt.none rfl) rfl ?_ | refine RunL.load1R rfl (by assumption) (by rfl) agg22 (Wt.none rfl) rfl ?_
    rw [hpa]
    refine RunL.mv rfl rfl ?_
    refine RunL.pure (Pure.indexAddr rfl rfl und22 sz50 (by omega) (by omega)) (Wt.none rfl) rfl rfl ?_
    refine RunL.loadNR (vs := (cEdu x)) rfl hro agg50 sz50 (elemN_len (pre := preb) (post := postb) (f := cEdu) (sz := 11) (j := 0) (n := 11) (fun _ _ => rfl) hx (by decide)) ((elemN_at (pre := preb) (post := postb) (f := cEdu) (sz := 11) (j := 0) (n := 11) (fun _ _ => rfl) hx (by decide)).trans rfl) (Wt.none rfl) rfl ?_
    refine RunL.call rfl rfl (by rfl) (by repeat (first | (with_reducible exact Take.nil _) | (apply Take.cons (by first | ((repeat (first | (with_reducible exact F0 _) | apply F1)); done) | (repeat (first | exact F0 _ | apply F1)))))) (rBytes_ctr (e := x) hxz hxo) (Wt.none rfl) rfl ?_
    rintro _ _ ⟨ab, cb, rfl, hA_⟩
    replace hA_ := hA_.symm; subst hA_
    refine RunL.bytesStr (bs := eduBytes x) rfl und29 und5 und9 (fun w sw => (sw.find (p := Sl 5 1 ab _ cb _) (by first | ((repeat (first | (with_reducible exact F0 _) | apply F1)); done) | (repeat (first | exact F0 _ | apply F1)))).src) (Wt.none rfl) rfl ?_
    refine RunL.call rfl rfl (by rfl) (by repeat (first | (with_reducible exact Take.nil _) | (apply Take.cons (by first | ((repeat (first | (with_reducible exact F0 _) | apply F1)); done) | (repeat (first | exact F0 _ | apply F1)))))) (RText_ctr (s := mkS (eduBytes x)) (by rw [mkS_size]; omega)) (Wt.none rfl) rfl ?_
    rintro _ _ ⟨an9, cn9, rfl, hA_⟩
    replace hA_ := hA_.symm; subst hA_
    rw [show numN (mkS (eduBytes x)).size ++ bl (mkS (eduBytes x)) = eduTxt x from by rw [mkS_size, bl_mkS]; rfl]
    refine RunL.append (n' := (acc ++ eduTxt x).length) (cs' := ((acc ++ eduTxt x).map bv)) rfl rfl (by first | ((repeat (first | (with_reducible exact F0 _) | apply F1)); done) | (repeat (first | exact F0 _ | apply F1))) rfl rfl und29 und29 rfl sz5 zz5 rfl by5 (by omega) (by omega) (fun w sw => (sw.find (p := Sl 5 1 an9 _ cn9 _) (by first | ((repeat (first | (with_reducible exact F0 _) | apply F1)); done) | (repeat (first | exact F0 _ | apply F1)))).src) (isOne_bv _) (by rw [List.length_append]) (by rw [List.map_append]) (Wt.none rfl) rfl ?_; intro ao9 co9
    refine RunL.as rfl rfl ?_
    refine RunL.nil ?_
    refine Run.inBlock ?_
    refine Run.region ?_
    refine RunL.mv rfl rfl ?_
    first | refine RunL.pure (Pure.addI rfl rfl (by omega)) (Wt.none rfl) rfl rfl ?_ | refine RunL.pure (Pure.add rfl rfl) (Wt.none rfl) rfl rfl ?_
    refine RunL.as rfl rfl ?_
    refine RunL.nil ?_
    refine Run.keep (.cons rfl (.cons rfl (.cons rfl (.nil))) : Keep _ [1, 3, 4] _) ?_
    refine Run.againF (F := F) ih (by exact ⟨i + 1, acc ++ eduTxt x, _, _, by omega, by rw [hacc, List.take_add_one, hx, List.flatMap_append, List.append_assoc]; simp, by rw [List.length_append]; omega, rfl, rfl, rfl⟩) (by repeat (first | (with_reducible exact Fin.done (by repeat (first | (with_reducible exact Rest.here) | apply Rest.there))) | (apply Fin.cons (by first | ((repeat (first | (with_reducible exact F0 _) | apply F1)); done) | (repeat (first | exact F0 _ | apply F1)))))) ?_
    omega
  · try simp only [ZA, ZB, ZC, ZD, ZE, ZF, ZG, ZH, ZI, ZJ, ZK, ZL, ZM, ZN, ZO, ZP, ZQ, ZR] at h1
    refine Run.exit rfl ?_
    refine Run.sr ?_
    refine RunL.mv rfl rfl ?_
    refine RunL.as rfl rfl ?_
    refine RunL.nil ?_
    have hb2 : prcBytes p xs = acc := by rw [hacc, List.take_of_length_le (by omega)]; rfl
    exact Run.ret Try.func15 (res1 rfl rfl) (by exact ⟨_, _, by rw [hb2], by rw [hb2]⟩) (by repeat (first | (with_reducible exact Fin.done (by repeat (first | (with_reducible exact Rest.here) | apply Rest.there))) | (apply Fin.cons (by first | ((repeat (first | (with_reducible exact F0 _) | apply F1)); done) | (repeat (first | exact F0 _ | apply F1))))))

set_option maxHeartbeats 4000000 in
set_option maxRecDepth 100000 in
theorem Equal_ctr {G : Gp} {a a' : Option Addr} {n0 m cap cap' : Nat} {xs ys : List Edu} (hn : n0 = xs.length) (hm : m = ys.length) (h : SlR G 50 11 a n0 (xs.flatMap cEdu)) (h' : SlR G 50 11 a' m (ys.flatMap cEdu)) (hb : n0 ≤ 1000000) :
    Ctr Try.prog G 41 [.slice a n0 cap, .slice a' m cap'] [] (fun F v A => v = .bool (decide (xs = ys)) ∧ A = F) := by
  refine Ctr.intro Try.func41 rfl (by kernel_rfl) rfl (fun F => ?_)
  simp only [List.nil_append]
  refine Run.sr ?_
  refine RunL.as rfl rfl ?_
  refine RunL.nil ?_
  refine Run.seq ?_
  refine Run.sr ?_
  refine RunL.mv rfl rfl ?_
  refine RunL.pure (Pure.lenSl rfl rfl und22) (Wt.none rfl) rfl rfl ?_
  refine RunL.mv rfl rfl ?_
  refine RunL.pure (Pure.lenSl rfl rfl und22) (Wt.none rfl) rfl rfl ?_
  refine RunL.pure (Pure.neq rfl rfl) (Wt.none rfl) rfl rfl ?_
  refine RunL.nil ?_
  refine Run.cond rfl (fun h1 => ?_) (fun h1 => ?_)
  · try simp only [ZA, ZB, ZC, ZD, ZE, ZF, ZG, ZH, ZI, ZJ, ZK, ZL, ZM, ZN, ZO, ZP, ZQ, ZR] at h1
    refine Run.sr ?_
    refine RunL.as rfl rfl ?_
    refine RunL.nil ?_
    exact Run.ret Try.func41 (res1 rfl rfl) (by exact ⟨by rw [decide_eq_false (fun e => by subst e; omega)], rfl⟩) (by repeat (first | (with_reducible exact Fin.done (by repeat (first | (with_reducible exact Rest.here) | apply Rest.there))) | (apply Fin.cons (by first | ((repeat (first | (with_reducible exact F0 _) | apply F1)); done) | (repeat (first | exact F0 _ | apply F1))))))
  · try simp only [ZA, ZB, ZC, ZD, ZE, ZF, ZG, ZH, ZI, ZJ, ZK, ZL, ZM, ZN, ZO, ZP, ZQ, ZR] at h1
    refine Run.skip ?_
    refine Run.seq ?_
    refine Run.sr ?_
    refine RunL.mv rfl rfl ?_
    refine RunL.pure (Pure.lenSl rfl rfl und22) (Wt.none rfl) rfl rfl ?_
    refine RunL.mv rfl rfl ?_
    refine RunL.nil ?_
    refine Run.block ?_
    refine Run.keep (.cons rfl (.cons rfl (.cons rfl (.cons rfl (.cons rfl (.nil))))) : Keep _ [0, 1, 11, 12, 13] _) ?_
    refine Run.loopF (F := F) (fun n e A => ∃ i : Nat, i ≤ n0 ∧ (∀ j x, j < i → xs[j]? = some x → ys[j]? = some x) ∧ n = n0 - i ∧ e = [(0, .slice a n0 cap), (1, .slice a' m cap'), (11, .slice a n0 cap), (12, .int .i64 (n0 : Nat)), (13, .int .i64 (i : Nat))] ∧ A = F) (n0) (by exact ⟨0, by omega, fun j x hj => absurd hj (Nat.not_lt_zero _), rfl, rfl, rfl⟩) (by repeat (first | (with_reducible exact Fin.done (by repeat (first | (with_reducible exact Rest.here) | apply Rest.there))) | (apply Fin.cons (by first | ((repeat (first | (with_reducible exact F0 _) | apply F1)); done) | (repeat (first | exact F0 _ | apply F1)))))) ?_
    rintro n _ _ ⟨i, hi, hall, rfl, rfl, hA_⟩ ih
    replace hA_ := hA_.symm; subst hA_
    refine Run.sr ?_
    refine RunL.pure (Pure.lss rfl rfl) (Wt.none rfl) rfl rfl ?_
    refine RunL.nil ?_
    refine Run.seq ?_
    refine Run.cond rfl (fun h2 => ?_) (fun h2 => ?_)
    · try simp only [ZA, ZB, ZC, ZD, ZE, ZF, ZG, ZH, ZI, ZJ, ZK, ZL, ZM, ZN, ZO, ZP, ZQ, ZR] at h2
      obtain ⟨x, hx⟩ := get_some (xs := xs) (i := i) (by omega)
      obtain ⟨y, hy⟩ := get_some (xs := ys) (i := i) (by omega)
      obtain ⟨bbhro, Thro, prehro, posthro, rfl, hro⟩ := h.open1 (show 0 < n0 by omega)
      obtain ⟨bbhrp, Thrp, prehrp, posthrp, rfl, hrp⟩ := h'.open1 (show 0 < m by omega)
      refine Run.skip ?_
      refine Run.seq ?_
      refine Run.block ?_
      refine Run.sr ?_
      refine RunL.mv rfl rfl ?_
      refine RunL.as rfl rfl ?_
      refine RunL.nil ?_
      refine Run.seq ?_
      refine Run.regionD' (by kernel_rfl) (by kernel_rfl) (fun hok48 => ?_)
      refine RunD.pure (i := 0) hok48 rfl (by kernel_rfl) (Pure.move rfl) (Wt.none rfl) rfl rfl ?_
      refine RunD.pure (i := 1) hok48 rfl (by kernel_rfl) (Pure.move rfl) (Wt.none rfl) rfl rfl ?_
      refine RunD.pure (i := 2) hok48 rfl (by kernel_rfl) (Pure.indexAddr rfl rfl und22 sz50 (by omega) (by omega)) (Wt.none rfl) rfl rfl ?_
      refine RunD.loadNR (vs := (cEdu x)) (i := 3) hok48 rfl (by kernel_rfl) rfl hro agg50 sz50 (elemN_len (pre := prehro) (post := posthro) (f := cEdu) (sz := 11) (j := 0) (n := 11) (fun _ _ => rfl) hx (by decide)) ((elemN_at (pre := prehro) (post := posthro) (f := cEdu) (sz := 11) (j := 0) (n := 11) (fun _ _ => rfl) hx (by decide)).trans rfl) (Wt.none rfl) rfl ?_
      refine RunD.pure (i := 4) hok48 rfl (by kernel_rfl) (Pure.move rfl) (Wt.none rfl) rfl rfl ?_
      refine RunD.pure (i := 5) hok48 rfl (by kernel_rfl) (Pure.move rfl) (Wt.none rfl) rfl rfl ?_
      refine RunD.pure (i := 6) hok48 rfl (by kernel_rfl) (Pure.indexAddr rfl rfl und22 sz50 (by omega) (by omega)) (Wt.none rfl) rfl rfl ?_
      refine RunD.loadNR (vs := (cEdu y)) (i := 7) hok48 rfl (by kernel_rfl) rfl hrp agg50 sz50 (elemN_len (pre := prehrp) (post := posthrp) (f := cEdu) (sz := 11) (j := 0) (n := 11) (fun _ _ => rfl) hy (by decide)) ((elemN_at (pre := prehrp) (post := posthrp) (f := cEdu) (sz := 11) (j := 0) (n := 11) (fun _ _ => rfl) hy (by decide)).trans rfl) (Wt.none rfl) rfl ?_
      refine RunD.pure (i := 8) hok48 rfl (by kernel_rfl) (Pure.aneq rfl rfl eqg50 (eqv50 (x) (y)) (by decide)) (Wt.none rfl) rfl rfl ?_
      refine RunD.nilR (by kernel_rfl) ?_
      refine Run.cond rfl (fun h3 => ?_) (fun h3 => ?_)
      · try simp only [ZA, ZB, ZC, ZD, ZE, ZF, ZG, ZH, ZI, ZJ, ZK, ZL, ZM, ZN, ZO, ZP, ZQ, ZR] at h3
        refine Run.sr ?_
        refine RunL.as rfl rfl ?_
        refine RunL.nil ?_
        exact Run.ret Try.func41 (res1 rfl rfl) (by exact ⟨by rw [decide_eq_false (lists_not hx hy (by simpa using h3))], rfl⟩) (by repeat (first | (with_reducible exact Fin.done (by repeat (first | (with_reducible exact Rest.here) | apply Rest.there))) | (apply Fin.cons (by first | ((repeat (first | (with_reducible exact F0 _) | apply F1)); done) | (repeat (first | exact F0 _ | apply F1))))))
      · try simp only [ZA, ZB, ZC, ZD, ZE, ZF, ZG, ZH, ZI, ZJ, ZK, ZL, ZM, ZN, ZO, ZP, ZQ, ZR] at h3
        refine Run.skip ?_
        refine Run.inBlock ?_
        refine Run.region ?_
        first | refine RunL.pure (Pure.addI rfl rfl (by omega)) (Wt.none rfl) rfl rfl ?_ | refine RunL.pure (Pure.add rfl rfl) (Wt.none rfl) rfl rfl ?_
        refine RunL.mv rfl rfl ?_
        refine RunL.nil ?_
        refine Run.keep (.cons rfl (.cons rfl (.cons rfl (.cons rfl (.cons rfl (.nil))))) : Keep _ [0, 1, 11, 12, 13] _) ?_
        refine Run.againF (F := F) ih (by exact ⟨i + 1, by omega, fun j z hj hz => by (rcases Nat.lt_or_ge j i with q | q; exact hall j z q hz; have : j = i := (by omega); subst this; rw [hx] at hz; cases hz; rw [hy]; exact congrArg some (by simpa using h3 : x = y).symm), rfl, rfl, rfl⟩) (by repeat (first | (with_reducible exact Fin.done (by repeat (first | (with_reducible exact Rest.here) | apply Rest.there))) | (apply Fin.cons (by first | ((repeat (first | (with_reducible exact F0 _) | apply F1)); done) | (repeat (first | exact F0 _ | apply F1)))))) ?_
        omega
    · try simp only [ZA, ZB, ZC, ZD, ZE, ZF, ZG, ZH, ZI, ZJ, ZK, ZL, ZM, ZN, ZO, ZP, ZQ, ZR] at h2
      refine Run.exit rfl ?_
      refine Run.sr ?_
      refine RunL.as rfl rfl ?_
      refine RunL.nil ?_
      exact Run.ret Try.func41 (res1 rfl rfl) (by exact ⟨by rw [decide_eq_true (lists_same hall (by omega) (by omega))], rfl⟩) (by repeat (first | (with_reducible exact Fin.done (by repeat (first | (with_reducible exact Rest.here) | apply Rest.there))) | (apply Fin.cons (by first | ((repeat (first | (with_reducible exact F0 _) | apply F1)); done) | (repeat (first | exact F0 _ | apply F1))))))

set_option maxHeartbeats 4000000 in
set_option maxRecDepth 100000 in
theorem SameEdus_ctr {G : Gp} {a a' : Option Addr} {n0 m cap cap' : Nat} {xs ys : List Edu} (hn : n0 = xs.length) (hm : m = ys.length) (h : SlR G 50 11 a n0 (xs.flatMap cEdu)) (h' : SlR G 50 11 a' m (ys.flatMap cEdu)) (hb : n0 ≤ 1000000) :
    Ctr Try.prog G 42 [.slice a n0 cap, .slice a' m cap'] [] (fun F v A => v = .bool (decide (xs = ys)) ∧ A = F) := by
  refine Ctr.intro Try.func42 rfl (by kernel_rfl) rfl (fun F => ?_)
  simp only [List.nil_append]
  refine Run.sr ?_
  refine RunL.as rfl rfl ?_
  refine RunL.nil ?_
  refine Run.seq ?_
  refine Run.sr ?_
  refine RunL.mv rfl rfl ?_
  refine RunL.pure (Pure.lenSl rfl rfl und22) (Wt.none rfl) rfl rfl ?_
  refine RunL.mv rfl rfl ?_
  refine RunL.pure (Pure.lenSl rfl rfl und22) (Wt.none rfl) rfl rfl ?_
  refine RunL.pure (Pure.neq rfl rfl) (Wt.none rfl) rfl rfl ?_
  refine RunL.nil ?_
  refine Run.cond rfl (fun h1 => ?_) (fun h1 => ?_)
  · try simp only [ZA, ZB, ZC, ZD, ZE, ZF, ZG, ZH, ZI, ZJ, ZK, ZL, ZM, ZN, ZO, ZP, ZQ, ZR] at h1
    refine Run.sr ?_
    refine RunL.as rfl rfl ?_
    refine RunL.nil ?_
    exact Run.ret Try.func42 (res1 rfl rfl) (by exact ⟨by rw [decide_eq_false (fun e => by subst e; omega)], rfl⟩) (by repeat (first | (with_reducible exact Fin.done (by repeat (first | (with_reducible exact Rest.here) | apply Rest.there))) | (apply Fin.cons (by first | ((repeat (first | (with_reducible exact F0 _) | apply F1)); done) | (repeat (first | exact F0 _ | apply F1))))))
  · try simp only [ZA, ZB, ZC, ZD, ZE, ZF, ZG, ZH, ZI, ZJ, ZK, ZL, ZM, ZN, ZO, ZP, ZQ, ZR] at h1
    refine Run.skip ?_
    refine Run.seq ?_
    refine Run.sr ?_
    refine RunL.as rfl rfl ?_
    refine RunL.nil ?_
    refine Run.block ?_
    refine Run.keep (.cons rfl (.cons rfl (.cons rfl (.nil))) : Keep _ [0, 1, 5] _) ?_
    refine Run.loopF (F := F) (fun n e A => ∃ i : Nat, i ≤ n0 ∧ (∀ j x, j < i → xs[j]? = some x → ys[j]? = some x) ∧ n = n0 - i ∧ e = [(0, .slice a n0 cap), (1, .slice a' m cap'), (5, .int .i64 (i : Nat))] ∧ A = F) (n0) (by exact ⟨0, by omega, fun j x hj => absurd hj (Nat.not_lt_zero _), rfl, rfl, rfl⟩) (by repeat (first | (with_reducible exact Fin.done (by repeat (first | (with_reducible exact Rest.here) | apply Rest.there))) | (apply Fin.cons (by first | ((repeat (first | (with_reducible exact F0 _) | apply F1)); done) | (repeat (first | exact F0 _ | apply F1)))))) ?_
    rintro n _ _ ⟨i, hi, hall, rfl, rfl, hA_⟩ ih
    replace hA_ := hA_.symm; subst hA_
    refine Run.seq ?_
    refine Run.sr ?_
    refine RunL.mv rfl rfl ?_
    refine RunL.mv rfl rfl ?_
    refine RunL.pure (Pure.lenSl rfl rfl und22) (Wt.none rfl) rfl rfl ?_
    refine RunL.pure (Pure.lss rfl rfl) (Wt.none rfl) rfl rfl ?_
    refine RunL.nil ?_
    refine Run.cond rfl (fun h2 => ?_) (fun h2 => ?_)
    · try simp only [ZA, ZB, ZC, ZD, ZE, ZF, ZG, ZH, ZI, ZJ, ZK, ZL, ZM, ZN, ZO, ZP, ZQ, ZR] at h2
      obtain ⟨x, hx⟩ := get_some (xs := xs) (i := i) (by omega)
      obtain ⟨y, hy⟩ := get_some (xs := ys) (i := i) (by omega)
      obtain ⟨bbhro, Thro, prehro, posthro, rfl, hro⟩ := h.open1 (show 0 < n0 by omega)
      obtain ⟨bbhrp, Thrp, prehrp, posthrp, rfl, hrp⟩ := h'.open1 (show 0 < m by omega)
      refine Run.skip ?_
      refine Run.seq ?_
      refine Run.block ?_
      refine Run.seq ?_
      refine Run.regionD' (by kernel_rfl) (by kernel_rfl) (fun hok45 => ?_)
      refine RunD.pure (i := 0) hok45 rfl (by kernel_rfl) (Pure.move rfl) (Wt.none rfl) rfl rfl ?_
      refine RunD.pure (i := 1) hok45 rfl (by kernel_rfl) (Pure.move rfl) (Wt.none rfl) rfl rfl ?_
      refine RunD.pure (i := 2) hok45 rfl (by kernel_rfl) (Pure.indexAddr rfl rfl und22 sz50 (by omega) (by omega)) (Wt.none rfl) rfl rfl ?_
      refine RunD.loadNR (vs := (cEdu x)) (i := 3) hok45 rfl (by kernel_rfl) rfl hro agg50 sz50 (elemN_len (pre := prehro) (post := posthro) (f := cEdu) (sz := 11) (j := 0) (n := 11) (fun _ _ => rfl) hx (by decide)) ((elemN_at (pre := prehro) (post := posthro) (f := cEdu) (sz := 11) (j := 0) (n := 11) (fun _ _ => rfl) hx (by decide)).trans rfl) (Wt.none rfl) rfl ?_
      refine RunD.pure (i := 4) hok45 rfl (by kernel_rfl) (Pure.move rfl) (Wt.none rfl) rfl rfl ?_
      refine RunD.pure (i := 5) hok45 rfl (by kernel_rfl) (Pure.move rfl) (Wt.none rfl) rfl rfl ?_
      refine RunD.pure (i := 6) hok45 rfl (by kernel_rfl) (Pure.indexAddr rfl rfl und22 sz50 (by omega) (by omega)) (Wt.none rfl) rfl rfl ?_
      refine RunD.loadNR (vs := (cEdu y)) (i := 7) hok45 rfl (by kernel_rfl) rfl hrp agg50 sz50 (elemN_len (pre := prehrp) (post := posthrp) (f := cEdu) (sz := 11) (j := 0) (n := 11) (fun _ _ => rfl) hy (by decide)) ((elemN_at (pre := prehrp) (post := posthrp) (f := cEdu) (sz := 11) (j := 0) (n := 11) (fun _ _ => rfl) hy (by decide)).trans rfl) (Wt.none rfl) rfl ?_
      refine RunD.pure (i := 8) hok45 rfl (by kernel_rfl) (Pure.aneq rfl rfl eqg50 (eqv50 (x) (y)) (by decide)) (Wt.none rfl) rfl rfl ?_
      refine RunD.nilR (by kernel_rfl) ?_
      refine Run.cond rfl (fun h3 => ?_) (fun h3 => ?_)
      · try simp only [ZA, ZB, ZC, ZD, ZE, ZF, ZG, ZH, ZI, ZJ, ZK, ZL, ZM, ZN, ZO, ZP, ZQ, ZR] at h3
        refine Run.sr ?_
        refine RunL.as rfl rfl ?_
        refine RunL.nil ?_
        exact Run.ret Try.func42 (res1 rfl rfl) (by exact ⟨by rw [decide_eq_false (lists_not hx hy (by simpa using h3))], rfl⟩) (by repeat (first | (with_reducible exact Fin.done (by repeat (first | (with_reducible exact Rest.here) | apply Rest.there))) | (apply Fin.cons (by first | ((repeat (first | (with_reducible exact F0 _) | apply F1)); done) | (repeat (first | exact F0 _ | apply F1))))))
      · try simp only [ZA, ZB, ZC, ZD, ZE, ZF, ZG, ZH, ZI, ZJ, ZK, ZL, ZM, ZN, ZO, ZP, ZQ, ZR] at h3
        refine Run.skip ?_
        refine Run.inBlock ?_
        refine Run.region ?_
        refine RunL.mv rfl rfl ?_
        first | refine RunL.pure (Pure.addI rfl rfl (by omega)) (Wt.none rfl) rfl rfl ?_ | refine RunL.pure (Pure.add rfl rfl) (Wt.none rfl) rfl rfl ?_
        refine RunL.as rfl rfl ?_
        refine RunL.nil ?_
        refine Run.keep (.cons rfl (.cons rfl (.cons rfl (.nil))) : Keep _ [0, 1, 5] _) ?_
        refine Run.againF (F := F) ih (by exact ⟨i + 1, by omega, fun j z hj hz => by (rcases Nat.lt_or_ge j i with q | q; exact hall j z q hz; have : j = i := (by omega); subst this; rw [hx] at hz; cases hz; rw [hy]; exact congrArg some (by simpa using h3 : x = y).symm), rfl, rfl, rfl⟩) (by repeat (first | (with_reducible exact Fin.done (by repeat (first | (with_reducible exact Rest.here) | apply Rest.there))) | (apply Fin.cons (by first | ((repeat (first | (with_reducible exact F0 _) | apply F1)); done) | (repeat (first | exact F0 _ | apply F1)))))) ?_
        omega
    · try simp only [ZA, ZB, ZC, ZD, ZE, ZF, ZG, ZH, ZI, ZJ, ZK, ZL, ZM, ZN, ZO, ZP, ZQ, ZR] at h2
      refine Run.exit rfl ?_
      refine Run.sr ?_
      refine RunL.as rfl rfl ?_
      refine RunL.nil ?_
      exact Run.ret Try.func42 (res1 rfl rfl) (by exact ⟨by rw [decide_eq_true (lists_same hall (by omega) (by omega))], rfl⟩) (by repeat (first | (with_reducible exact Fin.done (by repeat (first | (with_reducible exact Rest.here) | apply Rest.there))) | (apply Fin.cons (by first | ((repeat (first | (with_reducible exact F0 _) | apply F1)); done) | (repeat (first | exact F0 _ | apply F1))))))

set_option maxHeartbeats 4000000 in
set_option maxRecDepth 100000 in
theorem pSame_ctr {G : Gp} {p q : Prc} {xs ys : List Edu} (hE : HasE G p xs) (hE' : HasE G q ys) (hb : p.ed.n ≤ 1000000) :
    Ctr Try.prog G 17 [.agg (cPrc p).toArray, .agg (cPrc q).toArray] [] (fun F v A => v = .bool (prcSame p q xs ys) ∧ A = F) := by
  refine Ctr.intro Try.func17 rfl (by kernel_rfl) rfl (fun F => ?_)
  simp only [List.nil_append]
  obtain ⟨hn, h, hc⟩ := hE
  obtain ⟨hn', k2, hc'⟩ := hE'
  refine Run.sr ?_
  refine RunL.boxA (xs := (cPrc p)) rfl (Wt.none rfl) rfl ?_; intro b2
  refine RunL.boxA (xs := (cPrc q)) rfl (Wt.none rfl) rfl ?_; intro b3
  refine RunL.as rfl rfl ?_
  refine RunL.nil ?_
  refine Run.lendAll (Q := row b2 33 _) Lends.row (by first | ((repeat (first | (with_reducible exact F0 _) | apply F1)); done) | (repeat (first | exact F0 _ | apply F1))) (fun G2 hleG2 hrb2 => ?_)
  replace h := h.mono hleG2
  replace k2 := k2.mono hleG2
  refine Run.lendAll (Q := row b3 33 _) Lends.row (by first | ((repeat (first | (with_reducible exact F0 _) | apply F1)); done) | (repeat (first | exact F0 _ | apply F1))) (fun G3 hleG3 hrb3 => ?_)
  replace h := h.mono hleG3
  replace k2 := k2.mono hleG3
  replace hrb2 := hrb2.mono hleG3
  refine Run.sr ?_
  refine RunL.pure (Pure.fieldAddr rfl fo33_0) (Wt.none rfl) rfl rfl ?_
  first | refine RunL.load1 rfl (by first | ((repeat (first | (with_reducible exact F0 _) | apply F1)); done) | (repeat (first | exact F0 _ | apply F1))) (by rfl) agg4 (Wt.none rfl) rfl ?_ | refine RunL.load1R rfl (by assumption) (by rfl) agg4 (Wt.none rfl) rfl ?_
  refine RunL.pure (Pure.fieldAddr rfl fo33_0) (Wt.none rfl) rfl rfl ?_
  first | refine RunL.load1 rfl (by first | ((repeat (first | (with_reducible exact F0 _) | apply F1)); done) | (repeat (first | exact F0 _ | apply F1))) (by rfl) agg4 (Wt.none rfl) rfl ?_ | refine RunL.load1R rfl (by assumption) (by rfl) agg4 (Wt.none rfl) rfl ?_
  refine RunL.pure (Pure.beql rfl rfl und4) (Wt.none rfl) rfl rfl ?_
  refine RunL.mv rfl rfl ?_
  refine RunL.split (d := 10) rfl (fun t0 => ?_) (fun t0 => ?_)
  · try simp only [ZA, ZB, ZC, ZD, ZE, ZF, ZG, ZH, ZI, ZJ, ZK, ZL, ZM, ZN, ZO, ZP, ZQ, ZR] at t0
    refine RunL.pure (Pure.fieldAddr rfl fo33_1) (Wt.yes rfl rfl rfl) rfl rfl ?_
    first | refine RunL.load1 rfl (by first | ((repeat (first | (with_reducible exact F0 _) | apply F1)); done) | (repeat (first | exact F0 _ | apply F1))) (by rfl) agg9 (Wt.yes rfl rfl rfl) rfl ?_ | refine RunL.load1R rfl (by assumption) (by rfl) agg9 (Wt.yes rfl rfl rfl) rfl ?_
    refine RunL.pure (Pure.fieldAddr rfl fo33_1) (Wt.yes rfl rfl rfl) rfl rfl ?_
    first | refine RunL.load1 rfl (by first | ((repeat (first | (with_reducible exact F0 _) | apply F1)); done) | (repeat (first | exact F0 _ | apply F1))) (by rfl) agg9 (Wt.yes rfl rfl rfl) rfl ?_ | refine RunL.load1R rfl (by assumption) (by rfl) agg9 (Wt.yes rfl rfl rfl) rfl ?_
    refine RunL.pure (Pure.seql rfl rfl) (Wt.yes rfl rfl rfl) rfl rfl ?_
    refine RunL.pure (Pure.pickT rfl rfl) (Wt.none rfl) rfl rfl ?_
    refine RunL.mv rfl rfl ?_
    refine RunL.split (d := 17) rfl (fun t1 => ?_) (fun t1 => ?_)
    · try simp only [ZA, ZB, ZC, ZD, ZE, ZF, ZG, ZH, ZI, ZJ, ZK, ZL, ZM, ZN, ZO, ZP, ZQ, ZR] at t1
      refine RunL.pure (Pure.fieldAddr rfl fo33_2) (Wt.yes rfl rfl rfl) rfl rfl ?_
      first | refine RunL.load1 rfl (by first | ((repeat (first | (with_reducible exact F0 _) | apply F1)); done) | (repeat (first | exact F0 _ | apply F1))) (by rfl) agg9 (Wt.yes rfl rfl rfl) rfl ?_ | refine RunL.load1R rfl (by assumption) (by rfl) agg9 (Wt.yes rfl rfl rfl) rfl ?_
      refine RunL.pure (Pure.fieldAddr rfl fo33_2) (Wt.yes rfl rfl rfl) rfl rfl ?_
      first | refine RunL.load1 rfl (by first | ((repeat (first | (with_reducible exact F0 _) | apply F1)); done) | (repeat (first | exact F0 _ | apply F1))) (by rfl) agg9 (Wt.yes rfl rfl rfl) rfl ?_ | refine RunL.load1R rfl (by assumption) (by rfl) agg9 (Wt.yes rfl rfl rfl) rfl ?_
      refine RunL.pure (Pure.seql rfl rfl) (Wt.yes rfl rfl rfl) rfl rfl ?_
      refine RunL.pure (Pure.pickT rfl rfl) (Wt.none rfl) rfl rfl ?_
      refine RunL.mv rfl rfl ?_
      refine RunL.split (d := 24) rfl (fun t2 => ?_) (fun t2 => ?_)
      · try simp only [ZA, ZB, ZC, ZD, ZE, ZF, ZG, ZH, ZI, ZJ, ZK, ZL, ZM, ZN, ZO, ZP, ZQ, ZR] at t2
        refine RunL.pure (Pure.fieldAddr rfl fo33_3) (Wt.yes rfl rfl rfl) rfl rfl ?_
        first | refine RunL.load1 rfl (by first | ((repeat (first | (with_reducible exact F0 _) | apply F1)); done) | (repeat (first | exact F0 _ | apply F1))) (by rfl) agg3 (Wt.yes rfl rfl rfl) rfl ?_ | refine RunL.load1R rfl (by assumption) (by rfl) agg3 (Wt.yes rfl rfl rfl) rfl ?_
        refine RunL.pure (Pure.fieldAddr rfl fo33_3) (Wt.yes rfl rfl rfl) rfl rfl ?_
        first | refine RunL.load1 rfl (by first | ((repeat (first | (with_reducible exact F0 _) | apply F1)); done) | (repeat (first | exact F0 _ | apply F1))) (by rfl) agg3 (Wt.yes rfl rfl rfl) rfl ?_ | refine RunL.load1R rfl (by assumption) (by rfl) agg3 (Wt.yes rfl rfl rfl) rfl ?_
        refine RunL.pure (Pure.eql rfl rfl) (Wt.yes rfl rfl rfl) rfl rfl ?_
        refine RunL.pure (Pure.pickT rfl rfl) (Wt.none rfl) rfl rfl ?_
        refine RunL.mv rfl rfl ?_
        refine RunL.split (d := 31) rfl (fun t3 => ?_) (fun t3 => ?_)
        · try simp only [ZA, ZB, ZC, ZD, ZE, ZF, ZG, ZH, ZI, ZJ, ZK, ZL, ZM, ZN, ZO, ZP, ZQ, ZR] at t3
          refine RunL.pure (Pure.fieldAddr rfl fo33_4) (Wt.yes rfl rfl rfl) rfl rfl ?_
          first | refine RunL.load1 rfl (by first | ((repeat (first | (with_reducible exact F0 _) | apply F1)); done) | (repeat (first | exact F0 _ | apply F1))) (by rfl) agg22 (Wt.yes rfl rfl rfl) rfl ?_ | refine RunL.load1R rfl (by assumption) (by rfl) agg22 (Wt.yes rfl rfl rfl) rfl ?_
          refine RunL.pure (Pure.fieldAddr rfl fo33_4) (Wt.yes rfl rfl rfl) rfl rfl ?_
          first | refine RunL.load1 rfl (by first | ((repeat (first | (with_reducible exact F0 _) | apply F1)); done) | (repeat (first | exact F0 _ | apply F1))) (by rfl) agg22 (Wt.yes rfl rfl rfl) rfl ?_ | refine RunL.load1R rfl (by assumption) (by rfl) agg22 (Wt.yes rfl rfl rfl) rfl ?_
          refine RunL.call rfl rfl (by rfl) (by repeat (first | (with_reducible exact Take.nil _) | (apply Take.cons (by first | ((repeat (first | (with_reducible exact F0 _) | apply F1)); done) | (repeat (first | exact F0 _ | apply F1)))))) (Equal_ctr hn hn' h k2 hb) (Wt.yes rfl rfl rfl) rfl ?_
          rintro _ _ ⟨rfl, hA_⟩
          replace hA_ := hA_.symm; subst hA_
          refine RunL.pure (Pure.pickT rfl rfl) (Wt.none rfl) rfl rfl ?_
          refine RunL.as rfl rfl ?_
          refine RunL.nil ?_
          exact Run.ret Try.func17 (res1 rfl rfl) (by exact ⟨by congr 1; rw [Bool.eq_iff_iff]; simp [prcSame, ← bl_iff, t0, t1, t2, t3], rfl⟩) (by repeat (first | (with_reducible exact Fin.done (by repeat (first | (with_reducible exact Rest.here) | apply Rest.there))) | (apply Fin.cons (by first | ((repeat (first | (with_reducible exact F0 _) | apply F1)); done) | (repeat (first | exact F0 _ | apply F1))))))
        · try simp only [ZA, ZB, ZC, ZD, ZE, ZF, ZG, ZH, ZI, ZJ, ZK, ZL, ZM, ZN, ZO, ZP, ZQ, ZR] at t3
          refine RunL.not (Wt.no rfl rfl rfl) rfl rfl ?_
          refine RunL.not (Wt.no rfl rfl rfl) rfl rfl ?_
          refine RunL.not (Wt.no rfl rfl rfl) rfl rfl ?_
          refine RunL.not (Wt.no rfl rfl rfl) rfl rfl ?_
          refine RunL.not (Wt.no rfl rfl rfl) rfl rfl ?_
          refine RunL.pure (Pure.pickF rfl rfl) (Wt.none rfl) rfl rfl ?_
          refine RunL.as rfl rfl ?_
          refine RunL.nil ?_
          exact Run.ret Try.func17 (res1 rfl rfl) (by exact ⟨by congr 1; rw [Bool.eq_iff_iff]; simp [prcSame, ← bl_iff, t0, t1, t2, t3], rfl⟩) (by repeat (first | (with_reducible exact Fin.done (by repeat (first | (with_reducible exact Rest.here) | apply Rest.there))) | (apply Fin.cons (by first | ((repeat (first | (with_reducible exact F0 _) | apply F1)); done) | (repeat (first | exact F0 _ | apply F1))))))
      · try simp only [ZA, ZB, ZC, ZD, ZE, ZF, ZG, ZH, ZI, ZJ, ZK, ZL, ZM, ZN, ZO, ZP, ZQ, ZR] at t2
        refine RunL.not (Wt.no rfl rfl rfl) rfl rfl ?_
        refine RunL.not (Wt.no rfl rfl rfl) rfl rfl ?_
        refine RunL.not (Wt.no rfl rfl rfl) rfl rfl ?_
        refine RunL.not (Wt.no rfl rfl rfl) rfl rfl ?_
        refine RunL.not (Wt.no rfl rfl rfl) rfl rfl ?_
        refine RunL.pure (Pure.pickF rfl rfl) (Wt.none rfl) rfl rfl ?_
        refine RunL.mv rfl rfl ?_
        refine RunL.not (Wt.no rfl rfl rfl) rfl rfl ?_
        refine RunL.not (Wt.no rfl rfl rfl) rfl rfl ?_
        refine RunL.not (Wt.no rfl rfl rfl) rfl rfl ?_
        refine RunL.not (Wt.no rfl rfl rfl) rfl rfl ?_
        refine RunL.not (Wt.no rfl rfl rfl) rfl rfl ?_
        refine RunL.pure (Pure.pickF rfl rfl) (Wt.none rfl) rfl rfl ?_
        refine RunL.as rfl rfl ?_
        refine RunL.nil ?_
        exact Run.ret Try.func17 (res1 rfl rfl) (by exact ⟨by congr 1; rw [Bool.eq_iff_iff]; simp [prcSame, ← bl_iff, t0, t1, t2], rfl⟩) (by repeat (first | (with_reducible exact Fin.done (by repeat (first | (with_reducible exact Rest.here) | apply Rest.there))) | (apply Fin.cons (by first | ((repeat (first | (with_reducible exact F0 _) | apply F1)); done) | (repeat (first | exact F0 _ | apply F1))))))
    · try simp only [ZA, ZB, ZC, ZD, ZE, ZF, ZG, ZH, ZI, ZJ, ZK, ZL, ZM, ZN, ZO, ZP, ZQ, ZR] at t1
      refine RunL.not (Wt.no rfl rfl rfl) rfl rfl ?_
      refine RunL.not (Wt.no rfl rfl rfl) rfl rfl ?_
      refine RunL.not (Wt.no rfl rfl rfl) rfl rfl ?_
      refine RunL.not (Wt.no rfl rfl rfl) rfl rfl ?_
      refine RunL.not (Wt.no rfl rfl rfl) rfl rfl ?_
      refine RunL.pure (Pure.pickF rfl rfl) (Wt.none rfl) rfl rfl ?_
      refine RunL.mv rfl rfl ?_
      refine RunL.not (Wt.no rfl rfl rfl) rfl rfl ?_
      refine RunL.not (Wt.no rfl rfl rfl) rfl rfl ?_
      refine RunL.not (Wt.no rfl rfl rfl) rfl rfl ?_
      refine RunL.not (Wt.no rfl rfl rfl) rfl rfl ?_
      refine RunL.not (Wt.no rfl rfl rfl) rfl rfl ?_
      refine RunL.pure (Pure.pickF rfl rfl) (Wt.none rfl) rfl rfl ?_
      refine RunL.mv rfl rfl ?_
      refine RunL.not (Wt.no rfl rfl rfl) rfl rfl ?_
      refine RunL.not (Wt.no rfl rfl rfl) rfl rfl ?_
      refine RunL.not (Wt.no rfl rfl rfl) rfl rfl ?_
      refine RunL.not (Wt.no rfl rfl rfl) rfl rfl ?_
      refine RunL.not (Wt.no rfl rfl rfl) rfl rfl ?_
      refine RunL.pure (Pure.pickF rfl rfl) (Wt.none rfl) rfl rfl ?_
      refine RunL.as rfl rfl ?_
      refine RunL.nil ?_
      exact Run.ret Try.func17 (res1 rfl rfl) (by exact ⟨by congr 1; rw [Bool.eq_iff_iff]; simp [prcSame, ← bl_iff, t0, t1], rfl⟩) (by repeat (first | (with_reducible exact Fin.done (by repeat (first | (with_reducible exact Rest.here) | apply Rest.there))) | (apply Fin.cons (by first | ((repeat (first | (with_reducible exact F0 _) | apply F1)); done) | (repeat (first | exact F0 _ | apply F1))))))
  · try simp only [ZA, ZB, ZC, ZD, ZE, ZF, ZG, ZH, ZI, ZJ, ZK, ZL, ZM, ZN, ZO, ZP, ZQ, ZR] at t0
    refine RunL.not (Wt.no rfl rfl rfl) rfl rfl ?_
    refine RunL.not (Wt.no rfl rfl rfl) rfl rfl ?_
    refine RunL.not (Wt.no rfl rfl rfl) rfl rfl ?_
    refine RunL.not (Wt.no rfl rfl rfl) rfl rfl ?_
    refine RunL.not (Wt.no rfl rfl rfl) rfl rfl ?_
    refine RunL.pure (Pure.pickF rfl rfl) (Wt.none rfl) rfl rfl ?_
    refine RunL.mv rfl rfl ?_
    refine RunL.not (Wt.no rfl rfl rfl) rfl rfl ?_
    refine RunL.not (Wt.no rfl rfl rfl) rfl rfl ?_
    refine RunL.not (Wt.no rfl rfl rfl) rfl rfl ?_
    refine RunL.not (Wt.no rfl rfl rfl) rfl rfl ?_
    refine RunL.not (Wt.no rfl rfl rfl) rfl rfl ?_
    refine RunL.pure (Pure.pickF rfl rfl) (Wt.none rfl) rfl rfl ?_
    refine RunL.mv rfl rfl ?_
    refine RunL.not (Wt.no rfl rfl rfl) rfl rfl ?_
    refine RunL.not (Wt.no rfl rfl rfl) rfl rfl ?_
    refine RunL.not (Wt.no rfl rfl rfl) rfl rfl ?_
    refine RunL.not (Wt.no rfl rfl rfl) rfl rfl ?_
    refine RunL.not (Wt.no rfl rfl rfl) rfl rfl ?_
    refine RunL.pure (Pure.pickF rfl rfl) (Wt.none rfl) rfl rfl ?_
    refine RunL.mv rfl rfl ?_
    refine RunL.not (Wt.no rfl rfl rfl) rfl rfl ?_
    refine RunL.not (Wt.no rfl rfl rfl) rfl rfl ?_
    refine RunL.not (Wt.no rfl rfl rfl) rfl rfl ?_
    refine RunL.not (Wt.no rfl rfl rfl) rfl rfl ?_
    refine RunL.not (Wt.no rfl rfl rfl) rfl rfl ?_
    refine RunL.pure (Pure.pickF rfl rfl) (Wt.none rfl) rfl rfl ?_
    refine RunL.as rfl rfl ?_
    refine RunL.nil ?_
    exact Run.ret Try.func17 (res1 rfl rfl) (by exact ⟨by congr 1; rw [Bool.eq_iff_iff]; simp [prcSame, ← bl_iff, t0], rfl⟩) (by repeat (first | (with_reducible exact Fin.done (by repeat (first | (with_reducible exact Rest.here) | apply Rest.there))) | (apply Fin.cons (by first | ((repeat (first | (with_reducible exact F0 _) | apply F1)); done) | (repeat (first | exact F0 _ | apply F1))))))

end Go.Proofs.Ytbgjfpaigndbmaa
