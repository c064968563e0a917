/- How many. -/
import Derived.Test.YtbgjfpaigndbmaaPR5
import Derived.Test.YtbgjfpaigndbmaaP4
set_option linter.unusedVariables false
set_option linter.unusedSimpArgs false
set_option linter.unusedSectionVars false
namespace Go.Proofs.Ytbgjfpaigndbmaa
open Go Csl
theorem cb15 : Callable Try.prog 15 := ⟨_, Try.func15, by kernel_rfl, by kernel_rfl⟩
theorem und41 : Try.prog.underlying 41 = some (Go.TypeDesc.slice 29) := Try.underlying41
theorem zz29 : zeroIs Try.prog 29 = some (.slice none 0 0) := by kernel_rfl
theorem cb19 : Callable Try.prog 19 := ⟨_, Try.func19, by kernel_rfl, by kernel_rfl⟩

namespace Csl
theorem rep_all (e : Edu) (K : Nat) : (List.replicate K (pubE e)).all eduMay = true := by
  rw [List.all_eq_true]; intro x hx; rw [List.eq_of_mem_replicate hx]; exact pub_may e
theorem many_may (e : Edu) {a : Option Addr} {c K : Nat} : prcMay (⟨false, ⟨#[97]⟩, ⟨#[98]⟩, 1, ⟨a, K, c⟩⟩ : Prc) (List.replicate K (pubE e)) = decide (K ≤ 100) := by
  unfold prcMay
  rw [rep_all]
  have h1 : serverB (bl (⟨#[97]⟩ : ByteArray)) = true := by decide +kernel
  have h2 : serverB (bl (⟨#[98]⟩ : ByteArray)) = true := by decide +kernel
  have h3 : decide (¬ bl (⟨#[97]⟩ : ByteArray) = bl (⟨#[98]⟩ : ByteArray)) = true := by decide +kernel
  simp only [h1, h2, h3, Bool.true_and, Bool.not_false, Bool.true_or, Bool.and_true]
  rw [Bool.eq_iff_iff]; simp; omega
theorem pk_ok {a : Option Addr} {n c : Nat} : okPrc (⟨false, ⟨#[97]⟩, ⟨#[98]⟩, 1, ⟨a, n, c⟩⟩ : Prc) := ⟨(by decide : (⟨#[97]⟩ : ByteArray).size ≤ 9223372036854775807), (by decide : (⟨#[98]⟩ : ByteArray).size ≤ 9223372036854775807), (by decide : (Lit.int .i64 1).wf = true)⟩
theorem pk_16 : (⟨#[97]⟩ : ByteArray).size ≤ 16 ∧ (⟨#[98]⟩ : ByteArray).size ≤ 16 := by decide
theorem many_read (e : Edu) {a : Option Addr} {c K : Nat} (hK : K ≤ 1000) : rdP 16 1000 34 (prcBytes (⟨false, ⟨#[97]⟩, ⟨#[98]⟩, 1, ⟨a, K, c⟩⟩ : Prc) (List.replicate K (pubE e))) = if K ≤ 100 then some ((⟨false, ⟨#[97]⟩, ⟨#[98]⟩, 1, ⟨none, 0, 0⟩⟩ : Prc), List.replicate K (pubE e)) else none := by
  rw [rdP_put pk_ok pk_16 (show (0 : Int) ≤ 1 by decide) (fun x hx => ⟨e, List.eq_of_mem_replicate hx⟩) (by rw [List.length_replicate]; exact hK), List.length_replicate]
  have hm : prcMay (withE (⟨false, ⟨#[97]⟩, ⟨#[98]⟩, 1, ⟨a, K, c⟩⟩ : Prc) ⟨none, K, 0⟩) (List.replicate K (pubE e)) = decide (K ≤ 100) := many_may e
  rw [hm]
  by_cases h : K ≤ 100
  · rw [if_pos ⟨by omega, by simpa using h⟩, if_pos h]
  · rw [if_neg (fun q => h (by omega)), if_neg h]
theorem many_len (e : Edu) {a : Option Addr} {c K : Nat} (hK : K ≤ 150) : (prcBytes (⟨false, ⟨#[97]⟩, ⟨#[98]⟩, 1, ⟨a, K, c⟩⟩ : Prc) (List.replicate K (pubE e))).length ≤ 1000000 := by
  have n2 := numN_le K (by omega)
  have n1 := numN_le 1 (by omega)
  have t1 := txt_small (s := ⟨#[97]⟩) (by decide)
  have t2 := txt_small (s := ⟨#[98]⟩) (by decide)
  have hf : ∀ k : Nat, ((List.replicate k (pubE e)).flatMap eduTxt).length ≤ 5009 * k := by
    intro k
    induction k with
    | zero => simp
    | succ k ih =>
      have h1 := eduTxt_len (pub_small e) (pub_ok e)
      rw [List.replicate_succ, List.flatMap_cons, List.length_append]; omega
  have := hf K
  unfold prcBytes prcHead flg
  rw [List.length_replicate]
  simp only [List.length_append, List.length_cons, List.length_nil]
  show 0 + 1 + _ + _ + (numN 1).length + _ + _ ≤ _
  omega
end Csl

set_option maxHeartbeats 4000000 in
set_option maxRecDepth 100000 in
theorem rBytes4G_ctr {G : Gp} {p : Prc} {xs : List Edu} (hE : HasE G p xs) (hz : ∀ x ∈ xs, eduSmall x) (hb : p.ed.n ≤ 9223372036854775807) (ho : okPrc p) (hzo : ∀ x ∈ xs, okEdu x) (hm : p.frm.size ≤ 16 ∧ p.to_.size ≤ 16 ∧ 1 ≤ p.id ∧ p.id ≤ 1099511627776 ∧ (p.ed.n : Int) ≤ 150) :
    Ctr Try.prog G 15 [.agg (cPrc p).toArray] [] (Fresh 5 (prcBytes p xs)) := by
  refine Ctr.intro Try.func15 rfl (by kernel_rfl) rfl (fun F => ?_)
  simp only [List.nil_append]
  obtain ⟨hn, h, hc⟩ := hE
  obtain ⟨o1, o2, o3⟩ := ho
  replace o3 := wf_i64 o3
  obtain ⟨f1, f2, f3, f4, f5⟩ := hm
  have ft1 := txt_small f1
  have ft2 := txt_small f2
  have fn1 := numN_le p.id.toNat (by omega)
  have fn2 := numN_le p.ed.n (by omega)
  refine Run.sr ?_
  refine RunL.boxA (xs := (cPrc p)) rfl (Wt.none rfl) rfl ?_; intro b1
  refine RunL.as rfl rfl ?_
  refine RunL.nil ?_
  refine Run.lendAll (Q := row b1 24 _) Lends.row (by first | ((repeat (first | (with_reducible exact F0 _) | apply F1)); done) | (repeat (first | exact F0 _ | apply F1))) (fun G1 hleG1 hrb1 => ?_)
  replace h := h.mono hleG1
  refine Run.sr ?_
  refine RunL.pure (Pure.fieldAddr rfl fo24_0) (Wt.none rfl) rfl rfl ?_
  first | refine RunL.load1 rfl (by first | ((repeat (first | (with_reducible exact F0 _) | apply F1)); done) | (repeat (first | exact F0 _ | apply F1))) (by rfl) agg4 (Wt.none rfl) rfl ?_ | refine RunL.load1R rfl (by assumption) (by rfl) agg4 (Wt.none rfl) rfl ?_
  refine RunL.call rfl rfl (by rfl) (by repeat (first | (with_reducible exact Take.nil _) | (apply Take.cons (by first | ((repeat (first | (with_reducible exact F0 _) | apply F1)); done) | (repeat (first | exact F0 _ | apply F1)))))) (RFlag_ctr (is := p.ack)) (Wt.none rfl) rfl ?_
  rintro _ _ ⟨a0, c0, rfl, hA_⟩
  replace hA_ := hA_.symm; subst hA_
  rw [show [if p.ack = true then (1 : UInt8) else 0] = flg p.ack from rfl]
  obtain ⟨acc0, hacc0, hal0⟩ : ∃ l, l = flg p.ack ∧ l.length ≤ 1 := ⟨_, rfl, by exact Nat.le_refl 1⟩
  rw [← hacc0]
  refine RunL.as rfl rfl ?_
  refine RunL.nil ?_
  refine Run.sr ?_
  refine RunL.mv rfl rfl ?_
  refine RunL.pure (Pure.fieldAddr rfl fo24_1) (Wt.none rfl) rfl rfl ?_
  first | refine RunL.load1 rfl (by first | ((repeat (first | (with_reducible exact F0 _) | apply F1)); done) | (repeat (first | exact F0 _ | apply F1))) (by rfl) agg9 (Wt.none rfl) rfl ?_ | refine RunL.load1R rfl (by assumption) (by rfl) agg9 (Wt.none rfl) rfl ?_
  refine RunL.call rfl rfl (by rfl) (by repeat (first | (with_reducible exact Take.nil _) | (apply Take.cons (by first | ((repeat (first | (with_reducible exact F0 _) | apply F1)); done) | (repeat (first | exact F0 _ | apply F1)))))) (RText_ctr (s := p.frm) (by omega)) (Wt.none rfl) rfl ?_
  rintro _ _ ⟨an1, cn1, rfl, hA_⟩
  replace hA_ := hA_.symm; subst hA_
  rw [show numN p.frm.size ++ bl p.frm = txt p.frm from rfl]
  refine RunL.append (n' := (acc0 ++ txt p.frm).length) (cs' := ((acc0 ++ txt p.frm).map bv)) rfl rfl (by first | ((repeat (first | (with_reducible exact F0 _) | apply F1)); done) | (repeat (first | exact F0 _ | apply F1))) rfl rfl und29 und29 rfl sz5 zz5 rfl by5 (by omega) (by omega) (fun w sw => (sw.find (p := Sl 5 1 an1 _ cn1 _) (by first | ((repeat (first | (with_reducible exact F0 _) | apply F1)); done) | (repeat (first | exact F0 _ | apply F1)))).src) (isOne_bv _) (by rw [List.length_append]) (by rw [List.map_append]) (Wt.none rfl) rfl ?_; intro ao1 co1
  obtain ⟨acc1, hacc1, hal1⟩ : ∃ l, l = acc0 ++ txt p.frm ∧ l.length ≤ 26 := ⟨_, rfl, by rw [List.length_append]; omega⟩
  rw [← hacc1]
  refine RunL.as rfl rfl ?_
  refine RunL.nil ?_
  refine Run.sr ?_
  refine RunL.mv rfl rfl ?_
  refine RunL.pure (Pure.fieldAddr rfl fo24_2) (Wt.none rfl) rfl rfl ?_
  first | refine RunL.load1 rfl (by first | ((repeat (first | (with_reducible exact F0 _) | apply F1)); done) | (repeat (first | exact F0 _ | apply F1))) (by rfl) agg9 (Wt.none rfl) rfl ?_ | refine RunL.load1R rfl (by assumption) (by rfl) agg9 (Wt.none rfl) rfl ?_
  refine RunL.call rfl rfl (by rfl) (by repeat (first | (with_reducible exact Take.nil _) | (apply Take.cons (by first | ((repeat (first | (with_reducible exact F0 _) | apply F1)); done) | (repeat (first | exact F0 _ | apply F1)))))) (RText_ctr (s := p.to_) (by omega)) (Wt.none rfl) rfl ?_
  rintro _ _ ⟨an2, cn2, rfl, hA_⟩
  replace hA_ := hA_.symm; subst hA_
  rw [show numN p.to_.size ++ bl p.to_ = txt p.to_ from rfl]
  refine RunL.append (n' := (acc1 ++ txt p.to_).length) (cs' := ((acc1 ++ txt p.to_).map bv)) rfl rfl (by first | ((repeat (first | (with_reducible exact F0 _) | apply F1)); done) | (repeat (first | exact F0 _ | apply F1))) rfl rfl und29 und29 rfl sz5 zz5 rfl by5 (by omega) (by omega) (fun w sw => (sw.find (p := Sl 5 1 an2 _ cn2 _) (by first | ((repeat (first | (with_reducible exact F0 _) | apply F1)); done) | (repeat (first | exact F0 _ | apply F1)))).src) (isOne_bv _) (by rw [List.length_append]) (by rw [List.map_append]) (Wt.none rfl) rfl ?_; intro ao2 co2
  obtain ⟨acc2, hacc2, hal2⟩ : ∃ l, l = acc1 ++ txt p.to_ ∧ l.length ≤ 51 := ⟨_, rfl, by rw [List.length_append]; omega⟩
  rw [← hacc2]
  refine RunL.as rfl rfl ?_
  refine RunL.nil ?_
  refine Run.sr ?_
  refine RunL.mv rfl rfl ?_
  refine RunL.pure (Pure.fieldAddr rfl fo24_3) (Wt.none rfl) rfl rfl ?_
  first | refine RunL.load1 rfl (by first | ((repeat (first | (with_reducible exact F0 _) | apply F1)); done) | (repeat (first | exact F0 _ | apply F1))) (by rfl) agg3 (Wt.none rfl) rfl ?_ | refine RunL.load1R rfl (by assumption) (by rfl) agg3 (Wt.none rfl) rfl ?_
  refine RunL.call rfl rfl (by rfl) (by repeat (first | (with_reducible exact Take.nil _) | (apply Take.cons (by first | ((repeat (first | (with_reducible exact F0 _) | apply F1)); done) | (repeat (first | exact F0 _ | apply F1)))))) (RNumber_ctr (z := p.id) (by omega)) (Wt.none rfl) rfl ?_
  rintro _ _ ⟨an3, cn3, rfl, hA_⟩
  replace hA_ := hA_.symm; subst hA_
  refine RunL.append (n' := (acc2 ++ numN p.id.toNat).length) (cs' := ((acc2 ++ numN p.id.toNat).map bv)) rfl rfl (by first | ((repeat (first | (with_reducible exact F0 _) | apply F1)); done) | (repeat (first | exact F0 _ | apply F1))) rfl rfl und29 und29 rfl sz5 zz5 rfl by5 (by omega) (by omega) (fun w sw => (sw.find (p := Sl 5 1 an3 _ cn3 _) (by first | ((repeat (first | (with_reducible exact F0 _) | apply F1)); done) | (repeat (first | exact F0 _ | apply F1)))).src) (isOne_bv _) (by rw [List.length_append]) (by rw [List.map_append]) (Wt.none rfl) rfl ?_; intro ao3 co3
  obtain ⟨acc3, hacc3, hal3⟩ : ∃ l, l = acc2 ++ numN p.id.toNat ∧ l.length ≤ 60 := ⟨_, rfl, by rw [List.length_append]; omega⟩
  rw [← hacc3]
  refine RunL.as rfl rfl ?_
  refine RunL.nil ?_
  refine Run.sr ?_
  refine RunL.mv rfl rfl ?_
  refine RunL.pure (Pure.fieldAddr rfl fo24_4) (Wt.none rfl) rfl rfl ?_
  first | refine RunL.load1 rfl (by first | ((repeat (first | (with_reducible exact F0 _) | apply F1)); done) | (repeat (first | exact F0 _ | apply F1))) (by rfl) agg22 (Wt.none rfl) rfl ?_ | refine RunL.load1R rfl (by assumption) (by rfl) agg22 (Wt.none rfl) rfl ?_
  refine RunL.pure (Pure.lenSl rfl rfl und22) (Wt.none rfl) rfl rfl ?_
  refine RunL.call rfl rfl (by rfl) (by repeat (first | (with_reducible exact Take.nil _) | (apply Take.cons (by first | ((repeat (first | (with_reducible exact F0 _) | apply F1)); done) | (repeat (first | exact F0 _ | apply F1)))))) (RNumber_ctr (z := (p.ed.n : Nat)) (by omega)) (Wt.none rfl) rfl ?_
  rintro _ _ ⟨an4, cn4, rfl, hA_⟩
  replace hA_ := hA_.symm; subst hA_
  rw [Int.toNat_natCast]
  refine RunL.append (n' := (acc3 ++ numN p.ed.n).length) (cs' := ((acc3 ++ numN p.ed.n).map bv)) rfl rfl (by first | ((repeat (first | (with_reducible exact F0 _) | apply F1)); done) | (repeat (first | exact F0 _ | apply F1))) rfl rfl und29 und29 rfl sz5 zz5 rfl by5 (by omega) (by omega) (fun w sw => (sw.find (p := Sl 5 1 an4 _ cn4 _) (by first | ((repeat (first | (with_reducible exact F0 _) | apply F1)); done) | (repeat (first | exact F0 _ | apply F1)))).src) (isOne_bv _) (by rw [List.length_append]) (by rw [List.map_append]) (Wt.none rfl) rfl ?_; intro ao4 co4
  obtain ⟨acc4, hacc4, hal4⟩ : ∃ l, l = acc3 ++ numN p.ed.n ∧ l.length ≤ 69 := ⟨_, rfl, by rw [List.length_append]; omega⟩
  rw [← hacc4]
  have hhead : acc4 = prcHead p xs.length := by rw [hacc4, hacc3, hacc2, hacc1, hacc0, ← hn]; rfl
  refine RunL.as rfl rfl ?_
  refine RunL.nil ?_
  refine Run.seq ?_
  refine Run.sr ?_
  refine RunL.as rfl rfl ?_
  refine RunL.nil ?_
  refine Run.block ?_
  refine Run.keep (.cons rfl (.cons rfl (.cons rfl (.nil))) : Keep _ [1, 3, 4] _) ?_
  refine Run.loopF (F := F) (fun n e_ A => ∃ (i : Nat) (acc : List UInt8) (a : Option Addr) (c : Nat), i ≤ p.ed.n ∧ acc = prcHead p xs.length ++ (xs.take i).flatMap eduTxt ∧ acc.length ≤ 69 + 5009 * i ∧ n = p.ed.n - i ∧ e_ = [(1, .pointer (some ⟨b1, 0, none⟩)), (3, .slice a acc.length c), (4, .int .i64 (i : Nat))] ∧ A = Sl 5 1 a (acc).length c ((acc).map bv) :: F) (p.ed.n) (by exact ⟨0, acc4, _, _, by omega, by rw [hhead]; simp, by omega, rfl, rfl, rfl⟩) (by repeat (first | (with_reducible exact Fin.done (by repeat (first | (with_reducible exact Rest.here) | apply Rest.there))) | (apply Fin.cons (by first | ((repeat (first | (with_reducible exact F0 _) | apply F1)); done) | (repeat (first | exact F0 _ | apply F1)))))) ?_
  rintro n _ _ ⟨i, acc, a, c, hi, hacc, hal, rfl, rfl, hA_⟩ ih
  replace hA_ := hA_.symm; subst hA_
  refine Run.seq ?_
  refine Run.sr ?_
  refine RunL.mv rfl rfl ?_
  refine RunL.pure (Pure.fieldAddr rfl fo24_4) (Wt.none rfl) rfl rfl ?_
  first | refine RunL.load1 rfl (by first | ((repeat (first | (with_reducible exact F0 _) | apply F1)); done) | (repeat (first | exact F0 _ | apply F1))) (by rfl) agg22 (Wt.none rfl) rfl ?_ | refine RunL.load1R rfl (by assumption) (by rfl) agg22 (Wt.none rfl) rfl ?_
  refine RunL.pure (Pure.lenSl rfl rfl und22) (Wt.none rfl) rfl rfl ?_
  refine RunL.pure (Pure.lss rfl rfl) (Wt.none rfl) rfl rfl ?_
  refine RunL.nil ?_
  refine Run.cond rfl (fun h1 => ?_) (fun h1 => ?_)
  · try simp only [ZA, ZB, ZC, ZD, ZE, ZF, ZG, ZH, ZI, ZJ, ZK, ZL, ZM, ZN, ZO, ZP, ZQ, ZR] at h1
    obtain ⟨x, hx⟩ := get_some (xs := xs) (i := i) (by omega)
    have hxz := hz x (List.mem_of_getElem? hx)
    have hxo := hzo x (List.mem_of_getElem? hx)
    have hxt := eduTxt_len hxz hxo
    have hxl := eduBytes_len3 hxz hxo
    obtain ⟨bb, Tb, preb, postb, hpa, hro⟩ := h.open1 (show 0 < p.ed.n by omega)
    refine Run.skip ?_
    refine Run.seq ?_
    refine Run.block ?_
    refine Run.region ?_
    refine RunL.mv rfl rfl ?_
    refine RunL.pure (Pure.fieldAddr rfl fo24_4) (Wt.none rfl) rfl rfl ?_
    first | refine RunL.load1 rfl (by first | ((repeat (first | (with_reducible exact F0 _) | apply F1)); done) | (repeat (first | exact F0 _ | apply F1))) (by rfl) agg22 (Wt.none rfl) rfl ?_ | refine RunL.load1R rfl (by assumption) (by rfl) agg22 (Wt.none rfl) rfl ?_
    rw [hpa]
    refine RunL.mv rfl rfl ?_
    refine RunL.pure (Pure.indexAddr rfl rfl und22 sz50 (by omega) (by omega)) (Wt.none rfl) rfl rfl ?_
    refine RunL.loadNR (vs := (cEdu x)) rfl hro agg50 sz50 (elemN_len (pre := preb) (post := postb) (f := cEdu) (sz := 11) (j := 0) (n := 11) (fun _ _ => rfl) hx (by decide)) ((elemN_at (pre := preb) (post := postb) (f := cEdu) (sz := 11) (j := 0) (n := 11) (fun _ _ => rfl) hx (by decide)).trans rfl) (Wt.none rfl) rfl ?_
    refine RunL.call rfl rfl (by rfl) (by repeat (first | (with_reducible exact Take.nil _) | (apply Take.cons (by first | ((repeat (first | (with_reducible exact F0 _) | apply F1)); done) | (repeat (first | exact F0 _ | apply F1)))))) (rBytes_ctr (e := x) hxz hxo) (Wt.none rfl) rfl ?_
    rintro _ _ ⟨ab, cb, rfl, hA_⟩
    replace hA_ := hA_.symm; subst hA_
    refine RunL.bytesStr (bs := eduBytes x) rfl und29 und5 und9 (fun w sw => (sw.find (p := Sl 5 1 ab _ cb _) (by first | ((repeat (first | (with_reducible exact F0 _) | apply F1)); done) | (repeat (first | exact F0 _ | apply F1)))).src) (Wt.none rfl) rfl ?_
    refine RunL.call rfl rfl (by rfl) (by repeat (first | (with_reducible exact Take.nil _) | (apply Take.cons (by first | ((repeat (first | (with_reducible exact F0 _) | apply F1)); done) | (repeat (first | exact F0 _ | apply F1)))))) (RText_ctr (s := mkS (eduBytes x)) (by rw [mkS_size]; omega)) (Wt.none rfl) rfl ?_
    rintro _ _ ⟨an9, cn9, rfl, hA_⟩
    replace hA_ := hA_.symm; subst hA_
    rw [show numN (mkS (eduBytes x)).size ++ bl (mkS (eduBytes x)) = eduTxt x from by rw [mkS_size, bl_mkS]; rfl]
    refine RunL.append (n' := (acc ++ eduTxt x).length) (cs' := ((acc ++ eduTxt x).map bv)) rfl rfl (by first | ((repeat (first | (with_reducible exact F0 _) | apply F1)); done) | (repeat (first | exact F0 _ | apply F1))) rfl rfl und29 und29 rfl sz5 zz5 rfl by5 (by omega) (by omega) (fun w sw => (sw.find (p := Sl 5 1 an9 _ cn9 _) (by first | ((repeat (first | (with_reducible exact F0 _) | apply F1)); done) | (repeat (first | exact F0 _ | apply F1)))).src) (isOne_bv _) (by rw [List.length_append]) (by rw [List.map_append]) (Wt.none rfl) rfl ?_; intro ao9 co9
    refine RunL.as rfl rfl ?_
    refine RunL.nil ?_
    refine Run.inBlock ?_
    refine Run.region ?_
    refine RunL.mv rfl rfl ?_
    first | refine RunL.pure (Pure.addI rfl rfl (by omega)) (Wt.none rfl) rfl rfl ?_ | refine RunL.pure (Pure.add rfl rfl) (Wt.none rfl) rfl rfl ?_
    refine RunL.as rfl rfl ?_
    refine RunL.nil ?_
    refine Run.keep (.cons rfl (.cons rfl (.cons rfl (.nil))) : Keep _ [1, 3, 4] _) ?_
    refine Run.againF (F := F) ih (by exact ⟨i + 1, acc ++ eduTxt x, _, _, by omega, by rw [hacc, List.take_add_one, hx, List.flatMap_append, List.append_assoc]; simp, by rw [List.length_append]; omega, rfl, rfl, rfl⟩) (by repeat (first | (with_reducible exact Fin.done (by repeat (first | (with_reducible exact Rest.here) | apply Rest.there))) | (apply Fin.cons (by first | ((repeat (first | (with_reducible exact F0 _) | apply F1)); done) | (repeat (first | exact F0 _ | apply F1)))))) ?_
    omega
  · try simp only [ZA, ZB, ZC, ZD, ZE, ZF, ZG, ZH, ZI, ZJ, ZK, ZL, ZM, ZN, ZO, ZP, ZQ, ZR] at h1
    refine Run.exit rfl ?_
    refine Run.sr ?_
    refine RunL.mv rfl rfl ?_
    refine RunL.as rfl rfl ?_
    refine RunL.nil ?_
    have hb2 : prcBytes p xs = acc := by rw [hacc, List.take_of_length_le (by omega)]; rfl
    exact Run.ret Try.func15 (res1 rfl rfl) (by exact ⟨_, _, by rw [hb2], by rw [hb2]⟩) (by repeat (first | (with_reducible exact Fin.done (by repeat (first | (with_reducible exact Rest.here) | apply Rest.there))) | (apply Fin.cons (by first | ((repeat (first | (with_reducible exact F0 _) | apply F1)); done) | (repeat (first | exact F0 _ | apply F1))))))

set_option maxHeartbeats 4000000 in
set_option maxRecDepth 100000 in
theorem ParcelMany_ctr {G : Gp} {e : Edu} {z : Int} (ho : okEdu e) (hz : -9223372036854775808 ≤ z ∧ z ≤ 9223372036854775807) :
    Ctr Try.prog G 7 [.agg (cEdu e).toArray, .int .i64 z] [] (fun F v A => v = .bool true ∧ A = F) := by
  refine Ctr.intro Try.func7 rfl (by kernel_rfl) rfl (fun F => ?_)
  simp only [List.nil_append]
  have hAz := around_lt (z := z) (m := 10) (by decide)
  refine Run.sr ?_
  refine RunL.boxA (xs := (cEdu e)) rfl (Wt.none rfl) rfl ?_; intro b2
  refine RunL.as rfl rfl ?_
  refine RunL.nil ?_
  refine Run.lendAll (Q := row b2 50 _) Lends.row (by first | ((repeat (first | (with_reducible exact F0 _) | apply F1)); done) | (repeat (first | exact F0 _ | apply F1))) (fun G2 hleG2 hrb2 => ?_)
  refine Run.sr ?_
  first | refine RunL.loadA (vs := (cEdu e)) rfl (by first | ((repeat (first | (with_reducible exact F0 _) | apply F1)); done) | (repeat (first | exact F0 _ | apply F1))) agg50 sz50 (by first | exact Nat.le_of_ble_eq_true rfl | (simp; done) | (simp; omega)) rfl (Wt.none rfl) rfl ?_ | refine RunL.loadNR (vs := (cEdu e)) rfl (by assumption) agg50 sz50 (by first | exact Nat.le_of_ble_eq_true rfl | (simp; done) | (simp; omega)) rfl (Wt.none rfl) rfl ?_
  refine RunL.call rfl rfl (by rfl) (by repeat (first | (with_reducible exact Take.nil _) | (apply Take.cons (by first | ((repeat (first | (with_reducible exact F0 _) | apply F1)); done) | (repeat (first | exact F0 _ | apply F1)))))) (Public3_ctr (e := e) (by assumption)) (Wt.none rfl) rfl ?_
  rintro _ _ ⟨rfl, hA_⟩
  replace hA_ := hA_.symm; subst hA_
  refine RunL.alloc zz50 (Wt.none rfl) rfl ?_; intro b5
  refine RunL.storeW (xs := (cEdu (pubE e))) rfl rfl (by first | ((repeat (first | (with_reducible exact F0 _) | apply F1)); done) | (repeat (first | exact F0 _ | apply F1))) sz50 (by rfl) (by rfl) (by rfl) (Wt.none rfl) ?_
  refine RunL.nil ?_
  refine Run.sr ?_
  refine RunL.mv rfl rfl ?_
  refine RunL.call rfl rfl (by rfl) (by repeat (first | (with_reducible exact Take.nil _) | (apply Take.cons (by first | ((repeat (first | (with_reducible exact F0 _) | apply F1)); done) | (repeat (first | exact F0 _ | apply F1)))))) (Around_ctr hz (by decide)) (Wt.none rfl) rfl ?_
  rintro _ _ ⟨rfl, hA_⟩
  replace hA_ := hA_.symm; subst hA_
  first | refine RunL.pure (Pure.addI rfl rfl (by omega)) (Wt.none rfl) rfl rfl ?_ | refine RunL.pure (Pure.add rfl rfl) (Wt.none rfl) rfl rfl ?_
  refine RunL.as rfl rfl ?_
  refine RunL.nil ?_
  obtain ⟨K, hK0, hK1, hK2⟩ : ∃ K : Nat, 95 + around z 10 = (K : Int) ∧ 95 ≤ K ∧ K ≤ 104 := ⟨(95 + around z 10).toNat, by omega, by omega, by omega⟩
  rw [hK0]
  refine Run.sr ?_
  refine RunL.pure (Pure.buildL (ps := [(1, _), (2, _), (3, _)]) (zs := [(.bool false), (.string .empty), (.string .empty), (.int .i64 0), (.slice none 0 0)]) (xs := (cPrc ((⟨false, ⟨#[97]⟩, ⟨#[98]⟩, 1, ⟨none, 0, 0⟩⟩ : Prc)))) pl33 rfl rfl rfl rfl) (Wt.none rfl) rfl rfl ?_
  refine RunL.alloc zz33 (Wt.none rfl) rfl ?_; intro b7
  refine RunL.storeW (xs := (cPrc ((⟨false, ⟨#[97]⟩, ⟨#[98]⟩, 1, ⟨none, 0, 0⟩⟩ : Prc)))) rfl rfl (by first | ((repeat (first | (with_reducible exact F0 _) | apply F1)); done) | (repeat (first | exact F0 _ | apply F1))) sz33 (by rfl) (by rfl) (by rfl) (Wt.none rfl) ?_
  refine RunL.nil ?_
  refine Run.nilSl 50 11 ?_
  refine Run.seq ?_
  refine Run.sr ?_
  refine RunL.as rfl rfl ?_
  refine RunL.nil ?_
  refine Run.block ?_
  refine Run.keep (.cons rfl (.cons rfl (.cons rfl (.cons rfl (.nil)))) : Keep _ [5, 6, 7, 8] _) ?_
  refine Run.loopF (F := F) (fun n e_ A => ∃ (i : Nat) (a4 : Option Addr) (c4 : Nat), i ≤ K ∧ n = K - i ∧ e_ = [(5, .pointer (some ⟨b5, 0, none⟩)), (6, .int .i64 (K : Nat)), (7, .pointer (some ⟨b7, 0, none⟩)), (8, .int .i64 (i : Nat))] ∧ A = Sl 50 11 a4 i c4 (((List.replicate i (pubE e))).flatMap cEdu) :: row b5 50 (cEdu (pubE e)) :: row b7 33 (cPrc (⟨false, ⟨#[97]⟩, ⟨#[98]⟩, 1, ⟨a4, i, c4⟩⟩ : Prc)) :: F) (K) (by exact ⟨0, none, 0, by omega, rfl, rfl, rfl⟩) (by repeat (first | (with_reducible exact Fin.done (by repeat (first | (with_reducible exact Rest.here) | apply Rest.there))) | (apply Fin.cons (by first | ((repeat (first | (with_reducible exact F0 _) | apply F1)); done) | (repeat (first | exact F0 _ | apply F1)))))) ?_
  rintro n _ _ ⟨i, a4, c4, hi, rfl, rfl, hA_⟩ ih
  replace hA_ := hA_.symm; subst hA_
  refine Run.seq ?_
  refine Run.sr ?_
  refine RunL.mv rfl rfl ?_
  refine RunL.mv rfl rfl ?_
  refine RunL.pure (Pure.lss rfl rfl) (Wt.none rfl) rfl rfl ?_
  refine RunL.nil ?_
  refine Run.cond rfl (fun hi1 => ?_) (fun hi1 => ?_)
  · try simp only [ZA, ZB, ZC, ZD, ZE, ZF, ZG, ZH, ZI, ZJ, ZK, ZL, ZM, ZN, ZO, ZP, ZQ, ZR] at hi1
    have hwn : (⟨false, ⟨#[97]⟩, ⟨#[98]⟩, 1, ⟨a4, i, c4⟩⟩ : Prc).ed.n = i := rfl
    refine Run.skip ?_
    refine Run.seq ?_
    refine Run.block ?_
    refine Run.region ?_
    refine RunL.pure (Pure.fieldAddr rfl fo33_4) (Wt.none rfl) rfl rfl ?_
    first | refine RunL.load1 rfl (by first | ((repeat (first | (with_reducible exact F0 _) | apply F1)); done) | (repeat (first | exact F0 _ | apply F1))) (by rfl) agg22 (Wt.none rfl) rfl ?_ | refine RunL.load1R rfl (by assumption) (by rfl) agg22 (Wt.none rfl) rfl ?_
    first | refine RunL.loadA (vs := (cEdu (pubE e))) rfl (by first | ((repeat (first | (with_reducible exact F0 _) | apply F1)); done) | (repeat (first | exact F0 _ | apply F1))) agg50 sz50 (by first | exact Nat.le_of_ble_eq_true rfl | (simp; done) | (simp; omega)) rfl (Wt.none rfl) rfl ?_ | refine RunL.loadNR (vs := (cEdu (pubE e))) rfl (by assumption) agg50 sz50 (by first | exact Nat.le_of_ble_eq_true rfl | (simp; done) | (simp; omega)) rfl (Wt.none rfl) rfl ?_
    refine RunL.lit (vals := [_]) (vs := ([pubE e] : List Edu).flatMap cEdu) und22 sz50 zz50 rfl rfl rfl rfl rfl rfl (by simp [Value.cells, bv, cEdu, cPrc]) rfl (Wt.none rfl) rfl ?_; intro b27
    refine RunL.append (m := 1) (n' := (i + 1)) (cs' := (List.replicate (i + 1) (pubE e)).flatMap cEdu) rfl rfl (by first | ((repeat (first | (with_reducible exact F0 _) | apply F1)); done) | (repeat (first | exact F0 _ | apply F1))) rfl rfl und22 und22 rfl sz50 zz50 rfl by50 (by omega) (by omega) (fun w sw => sw.src) (isOne_flat (f := cEdu) (fun _ => rfl)) rfl (by rw [List.replicate_succ', flatMap_app]) (Wt.none rfl) rfl ?_; intro a5 c5
    refine RunL.pure (Pure.fieldAddr rfl fo33_4) (Wt.none rfl) rfl rfl ?_
    refine RunL.store1A (cs' := (cPrc ((⟨false, ⟨#[97]⟩, ⟨#[98]⟩, 1, ⟨a5, i + 1, c5⟩⟩ : Prc)))) rfl rfl (by first | ((repeat (first | (with_reducible exact F0 _) | apply F1)); done) | (repeat (first | exact F0 _ | apply F1))) sz22 (by rfl) (by first | exact Nat.le_of_ble_eq_true rfl | (simp; done) | (simp; omega)) rfl (Wt.none rfl) ?_
    refine RunL.nil ?_
    refine Run.inBlock ?_
    refine Run.region ?_
    refine RunL.mv rfl rfl ?_
    first | refine RunL.pure (Pure.addI rfl rfl (by omega)) (Wt.none rfl) rfl rfl ?_ | refine RunL.pure (Pure.add rfl rfl) (Wt.none rfl) rfl rfl ?_
    refine RunL.as rfl rfl ?_
    refine RunL.nil ?_
    refine Run.keep (.cons rfl (.cons rfl (.cons rfl (.cons rfl (.nil)))) : Keep _ [5, 6, 7, 8] _) ?_
    refine Run.againF (F := F) ih (by exact ⟨i + 1, a5, c5, by omega, rfl, rfl, rfl⟩) (by repeat (first | (with_reducible exact Fin.done (by repeat (first | (with_reducible exact Rest.here) | apply Rest.there))) | (apply Fin.cons (by first | ((repeat (first | (with_reducible exact F0 _) | apply F1)); done) | (repeat (first | exact F0 _ | apply F1)))))) ?_
    omega
  · try simp only [ZA, ZB, ZC, ZD, ZE, ZF, ZG, ZH, ZI, ZJ, ZK, ZL, ZM, ZN, ZO, ZP, ZQ, ZR] at hi1
    obtain rfl : i = K := by omega
    refine Run.exit rfl ?_
    refine Run.lendAll (Q := Sl 50 11 a4 i c4 (((List.replicate i (pubE e))).flatMap cEdu)) Lends.Sl (by first | ((repeat (first | (with_reducible exact F0 _) | apply F1)); done) | (repeat (first | exact F0 _ | apply F1))) (fun Gh4 hleGh4 h4 => ?_)
    replace hrb2 := hrb2.mono hleGh4
    obtain ⟨K, hKi⟩ : ∃ K, K = i := ⟨_, rfl⟩
    subst hKi
    obtain ⟨h4, h4c⟩ := h4
    have hE4 : HasE Gh4 (⟨false, ⟨#[97]⟩, ⟨#[98]⟩, 1, ⟨a4, K, c4⟩⟩ : Prc) (List.replicate K (pubE e)) := ⟨List.length_replicate.symm, h4, h4c⟩
    have hx4 : ∀ x ∈ (List.replicate K (pubE e)), eduSmall x ∧ okEdu x := fun x hx => by rw [List.eq_of_mem_replicate hx]; exact ⟨pub_small e, pub_ok e⟩
    have hp4 : Pubs (List.replicate K (pubE e)) := fun x hx => ⟨e, List.eq_of_mem_replicate hx⟩
    have ho4 : okPrc (⟨false, ⟨#[97]⟩, ⟨#[98]⟩, 1, ⟨a4, K, c4⟩⟩ : Prc) := pk_ok
    have hl4 : ((List.replicate K (pubE e))).length = K := List.length_replicate
    have hmay : prcMay (⟨false, ⟨#[97]⟩, ⟨#[98]⟩, 1, ⟨a4, K, c4⟩⟩ : Prc) (List.replicate K (pubE e)) = decide (K ≤ 100) := many_may e
    have hrd := many_read e (a := a4) (c := c4) (K := K) (by omega)
    have hbl := many_len e (a := a4) (c := c4) (K := K) (by omega)
    by_cases hK : K ≤ 100
    · skip
      refine Run.sr ?_
      first | refine RunL.loadA (vs := (cPrc ((⟨false, ⟨#[97]⟩, ⟨#[98]⟩, 1, ⟨a4, K, c4⟩⟩ : Prc)))) rfl (by first | ((repeat (first | (with_reducible exact F0 _) | apply F1)); done) | (repeat (first | exact F0 _ | apply F1))) agg33 sz33 (by first | exact Nat.le_of_ble_eq_true rfl | (simp; done) | (simp; omega)) rfl (Wt.none rfl) rfl ?_ | refine RunL.loadNR (vs := (cPrc ((⟨false, ⟨#[97]⟩, ⟨#[98]⟩, 1, ⟨a4, K, c4⟩⟩ : Prc)))) rfl (by assumption) agg33 sz33 (by first | exact Nat.le_of_ble_eq_true rfl | (simp; done) | (simp; omega)) rfl (Wt.none rfl) rfl ?_
      refine RunL.call rfl rfl (by rfl) (by repeat (first | (with_reducible exact Take.nil _) | (apply Take.cons (by first | ((repeat (first | (with_reducible exact F0 _) | apply F1)); done) | (repeat (first | exact F0 _ | apply F1)))))) (pWriteT_ctr (p := (⟨false, ⟨#[97]⟩, ⟨#[98]⟩, 1, ⟨a4, K, c4⟩⟩ : Prc)) (xs := (List.replicate K (pubE e))) hE4 (fun x hx => (hx4 x hx).1) (by show K ≤ _; omega) ho4 (fun x hx => (hx4 x hx).2) (by rw [hmay]; simp; omega)) (Wt.none rfl) rfl ?_
      rintro _ _ ⟨ab, cb, rfl, hA_⟩
      replace hA_ := hA_.symm; subst hA_
      refine RunL.mv rfl rfl ?_
      refine RunL.pure (Pure.extract rfl rfl) (Wt.none rfl) rfl rfl ?_
      refine RunL.pure (Pure.extract rfl rfl) (Wt.none rfl) rfl rfl ?_
      refine RunL.as rfl rfl ?_
      refine RunL.as rfl rfl ?_
      refine RunL.nil ?_
      refine Run.sr ?_
      first | refine RunL.loadA (vs := (cPrc ((⟨false, ⟨#[97]⟩, ⟨#[98]⟩, 1, ⟨a4, K, c4⟩⟩ : Prc)))) rfl (by first | ((repeat (first | (with_reducible exact F0 _) | apply F1)); done) | (repeat (first | exact F0 _ | apply F1))) agg33 sz33 (by first | exact Nat.le_of_ble_eq_true rfl | (simp; done) | (simp; omega)) rfl (Wt.none rfl) rfl ?_ | refine RunL.loadNR (vs := (cPrc ((⟨false, ⟨#[97]⟩, ⟨#[98]⟩, 1, ⟨a4, K, c4⟩⟩ : Prc)))) rfl (by assumption) agg33 sz33 (by first | exact Nat.le_of_ble_eq_true rfl | (simp; done) | (simp; omega)) rfl (Wt.none rfl) rfl ?_
      refine RunL.call rfl rfl (by rfl) (by repeat (first | (with_reducible exact Take.nil _) | (apply Take.cons (by first | ((repeat (first | (with_reducible exact F0 _) | apply F1)); done) | (repeat (first | exact F0 _ | apply F1)))))) (as_ctr (p := (⟨false, ⟨#[97]⟩, ⟨#[98]⟩, 1, ⟨a4, K, c4⟩⟩ : Prc))) (Wt.none rfl) rfl ?_
      rintro _ _ ⟨rfl, hA_⟩
      replace hA_ := hA_.symm; subst hA_
      refine RunL.call rfl rfl (by rfl) (by repeat (first | (with_reducible exact Take.nil _) | (apply Take.cons (by first | ((repeat (first | (with_reducible exact F0 _) | apply F1)); done) | (repeat (first | exact F0 _ | apply F1)))))) (rBytes4G_ctr (p := (⟨false, ⟨#[97]⟩, ⟨#[98]⟩, 1, ⟨a4, K, c4⟩⟩ : Prc)) (xs := (List.replicate K (pubE e))) hE4 (fun x hx => (hx4 x hx).1) (by show K ≤ _; omega) ho4 (fun x hx => (hx4 x hx).2) ⟨pk_16.1, pk_16.2, (show (1 : Int) ≤ 1 by decide), (show (1 : Int) ≤ 1099511627776 by decide), by show ((K : Nat) : Int) ≤ 150; omega⟩) (Wt.none rfl) rfl ?_
      rintro _ _ ⟨ad, cd, rfl, hA_⟩
      replace hA_ := hA_.symm; subst hA_
      refine RunL.call rfl rfl (by rfl) (by repeat (first | (with_reducible exact Take.nil _) | (apply Take.cons (by first | ((repeat (first | (with_reducible exact F0 _) | apply F1)); done) | (repeat (first | exact F0 _ | apply F1)))))) (Ctr.lend (R := fun G => SlR G 5 1 _ _ _ ∧ _ ≤ _) Lends.Sl cb19 (fun G' hle hr => pRead_ctr hr.1 (by omega) hr.2)) (Wt.none rfl) rfl ?_
      rintro _ _ ⟨_, rfl, q1⟩
      rcases q1 with ⟨p1, xs1, a81, c81, hp1, rfl, hA_⟩ | ⟨hp1, rfl, hA_⟩
      · skip
        replace hA_ := hA_.symm; subst hA_
        rw [hrd, if_pos hK] at hp1; cases hp1
        refine RunL.mv rfl rfl ?_
        refine RunL.pure (Pure.extract rfl rfl) (Wt.none rfl) rfl rfl ?_
        refine RunL.pure (Pure.extract rfl rfl) (Wt.none rfl) rfl rfl ?_
        refine RunL.alloc zz33 (Wt.none rfl) rfl ?_; intro b11
        refine RunL.storeW (xs := (cPrc (withE (⟨false, ⟨#[97]⟩, ⟨#[98]⟩, 1, ⟨none, 0, 0⟩⟩ : Prc) ⟨a81, (List.replicate K (pubE e)).length, c81⟩))) rfl rfl (by first | ((repeat (first | (with_reducible exact F0 _) | apply F1)); done) | (repeat (first | exact F0 _ | apply F1))) sz33 (by rfl) (by rfl) (by rfl) (Wt.none rfl) ?_
        refine RunL.as rfl rfl ?_
        refine RunL.nil ?_
        refine Run.seq ?_
        refine Run.sr ?_
        refine RunL.mv rfl rfl ?_
        refine RunL.pure (Pure.gtr rfl rfl) (Wt.none rfl) rfl rfl ?_
        refine RunL.nil ?_
        refine Run.cond rfl (fun hc1 => ?_) (fun hc1 => ?_)
        · try simp only [ZA, ZB, ZC, ZD, ZE, ZF, ZG, ZH, ZI, ZJ, ZK, ZL, ZM, ZN, ZO, ZP, ZQ, ZR] at hc1
          exfalso
          omega
        try simp only [ZA, ZB, ZC, ZD, ZE, ZF, ZG, ZH, ZI, ZJ, ZK, ZL, ZM, ZN, ZO, ZP, ZQ, ZR] at hc1
        refine Run.skip ?_
        refine Run.lendAll (Q := Sl 50 11 a81 (List.replicate K (pubE e)).length c81 (((List.replicate K (pubE e))).flatMap cEdu)) Lends.Sl (by first | ((repeat (first | (with_reducible exact F0 _) | apply F1)); done) | (repeat (first | exact F0 _ | apply F1))) (fun Gh81 hleGh81 h81 => ?_)
        replace hrb2 := hrb2.mono hleGh81
        replace h4 := h4.mono hleGh81
        replace hE4 := hE4.mono hleGh81
        obtain ⟨h81, h81c⟩ := h81
        refine Run.sr ?_
        first | refine RunL.loadA (vs := (cPrc ((⟨false, ⟨#[97]⟩, ⟨#[98]⟩, 1, ⟨a4, K, c4⟩⟩ : Prc)))) rfl (by first | ((repeat (first | (with_reducible exact F0 _) | apply F1)); done) | (repeat (first | exact F0 _ | apply F1))) agg33 sz33 (by first | exact Nat.le_of_ble_eq_true rfl | (simp; done) | (simp; omega)) rfl (Wt.none rfl) rfl ?_ | refine RunL.loadNR (vs := (cPrc ((⟨false, ⟨#[97]⟩, ⟨#[98]⟩, 1, ⟨a4, K, c4⟩⟩ : Prc)))) rfl (by assumption) agg33 sz33 (by first | exact Nat.le_of_ble_eq_true rfl | (simp; done) | (simp; omega)) rfl (Wt.none rfl) rfl ?_
        refine RunL.call rfl rfl (by rfl) (by repeat (first | (with_reducible exact Take.nil _) | (apply Take.cons (by first | ((repeat (first | (with_reducible exact F0 _) | apply F1)); done) | (repeat (first | exact F0 _ | apply F1)))))) (pMay_ctr (p := (⟨false, ⟨#[97]⟩, ⟨#[98]⟩, 1, ⟨a4, K, c4⟩⟩ : Prc)) (xs := (List.replicate K (pubE e))) hE4 (fun x hx => (hx4 x hx).1) (by show K ≤ _; omega) ho4) (Wt.none rfl) rfl ?_
        rintro _ _ ⟨rfl, hA_⟩
        replace hA_ := hA_.symm; subst hA_
        refine RunL.mv rfl rfl ?_
        refine RunL.split (d := 71) rfl (fun hg2 => ?_) (fun hg2 => ?_)
        rotate_left
        · try simp only [ZA, ZB, ZC, ZD, ZE, ZF, ZG, ZH, ZI, ZJ, ZK, ZL, ZM, ZN, ZO, ZP, ZQ, ZR] at hg2
          exfalso
          rw [hmay] at hg2; simp at hg2; omega
        try simp only [ZA, ZB, ZC, ZD, ZE, ZF, ZG, ZH, ZI, ZJ, ZK, ZL, ZM, ZN, ZO, ZP, ZQ, ZR] at hg2
        refine RunL.pure (Pure.move rfl) (Wt.yes rfl rfl rfl) rfl rfl ?_
        refine RunL.pure (Pure.eql rfl rfl) (Wt.yes rfl rfl rfl) rfl rfl ?_
        refine RunL.pure (Pure.pickT rfl rfl) (Wt.none rfl) rfl rfl ?_
        refine RunL.mv rfl rfl ?_
        refine RunL.split (d := 75) rfl (fun hg3 => ?_) (fun hg3 => ?_)
        rotate_left
        · try simp only [ZA, ZB, ZC, ZD, ZE, ZF, ZG, ZH, ZI, ZJ, ZK, ZL, ZM, ZN, ZO, ZP, ZQ, ZR] at hg3
          exfalso
          first | exact hg3 trivial | exact hg3 rfl | (simp at hg3; done) | (simp_all; done) | omega
        try simp only [ZA, ZB, ZC, ZD, ZE, ZF, ZG, ZH, ZI, ZJ, ZK, ZL, ZM, ZN, ZO, ZP, ZQ, ZR] at hg3
        refine RunL.pure (Pure.move rfl) (Wt.yes rfl rfl rfl) rfl rfl ?_
        refine RunL.pure (Pure.eql rfl rfl) (Wt.yes rfl rfl rfl) rfl rfl ?_
        refine RunL.pure (Pure.pickT rfl rfl) (Wt.none rfl) rfl rfl ?_
        refine RunL.mv rfl rfl ?_
        refine RunL.split (d := 79) rfl (fun hg4 => ?_) (fun hg4 => ?_)
        rotate_left
        · try simp only [ZA, ZB, ZC, ZD, ZE, ZF, ZG, ZH, ZI, ZJ, ZK, ZL, ZM, ZN, ZO, ZP, ZQ, ZR] at hg4
          exfalso
          first | exact hg4 trivial | exact hg4 rfl | (simp at hg4; done) | (simp_all; done) | omega
        try simp only [ZA, ZB, ZC, ZD, ZE, ZF, ZG, ZH, ZI, ZJ, ZK, ZL, ZM, ZN, ZO, ZP, ZQ, ZR] at hg4
        first | refine RunL.loadA (vs := (cPrc ((⟨false, ⟨#[97]⟩, ⟨#[98]⟩, 1, ⟨a4, K, c4⟩⟩ : Prc)))) rfl (by first | ((repeat (first | (with_reducible exact F0 _) | apply F1)); done) | (repeat (first | exact F0 _ | apply F1))) agg33 sz33 (by first | exact Nat.le_of_ble_eq_true rfl | (simp; done) | (simp; omega)) rfl (Wt.yes rfl rfl rfl) rfl ?_ | refine RunL.loadNR (vs := (cPrc ((⟨false, ⟨#[97]⟩, ⟨#[98]⟩, 1, ⟨a4, K, c4⟩⟩ : Prc)))) rfl (by assumption) agg33 sz33 (by first | exact Nat.le_of_ble_eq_true rfl | (simp; done) | (simp; omega)) rfl (Wt.yes rfl rfl rfl) rfl ?_
        first | refine RunL.loadA (vs := (cPrc (withE (⟨false, ⟨#[97]⟩, ⟨#[98]⟩, 1, ⟨none, 0, 0⟩⟩ : Prc) ⟨a81, (List.replicate K (pubE e)).length, c81⟩))) rfl (by first | ((repeat (first | (with_reducible exact F0 _) | apply F1)); done) | (repeat (first | exact F0 _ | apply F1))) agg33 sz33 (by first | exact Nat.le_of_ble_eq_true rfl | (simp; done) | (simp; omega)) rfl (Wt.yes rfl rfl rfl) rfl ?_ | refine RunL.loadNR (vs := (cPrc (withE (⟨false, ⟨#[97]⟩, ⟨#[98]⟩, 1, ⟨none, 0, 0⟩⟩ : Prc) ⟨a81, (List.replicate K (pubE e)).length, c81⟩))) rfl (by assumption) agg33 sz33 (by first | exact Nat.le_of_ble_eq_true rfl | (simp; done) | (simp; omega)) rfl (Wt.yes rfl rfl rfl) rfl ?_
        refine RunL.call rfl rfl (by rfl) (by repeat (first | (with_reducible exact Take.nil _) | (apply Take.cons (by first | ((repeat (first | (with_reducible exact F0 _) | apply F1)); done) | (repeat (first | exact F0 _ | apply F1)))))) (pSame_ctr (p := (⟨false, ⟨#[97]⟩, ⟨#[98]⟩, 1, ⟨a4, K, c4⟩⟩ : Prc)) (q := withE (⟨false, ⟨#[97]⟩, ⟨#[98]⟩, 1, ⟨none, 0, 0⟩⟩ : Prc) ⟨a81, (List.replicate K (pubE e)).length, c81⟩) (xs := (List.replicate K (pubE e))) (ys := (List.replicate K (pubE e))) hE4 ⟨rfl, h81, h81c⟩ (by show K ≤ _; omega)) (Wt.yes rfl rfl rfl) rfl ?_
        rintro _ _ ⟨rfl, hA_⟩
        replace hA_ := hA_.symm; subst hA_
        refine RunL.pure (Pure.pickT rfl rfl) (Wt.none rfl) rfl rfl ?_
        refine RunL.mv rfl rfl ?_
        refine RunL.split (d := 84) rfl (fun hg5 => ?_) (fun hg5 => ?_)
        rotate_left
        · try simp only [ZA, ZB, ZC, ZD, ZE, ZF, ZG, ZH, ZI, ZJ, ZK, ZL, ZM, ZN, ZO, ZP, ZQ, ZR] at hg5
          exfalso
          rw [prcSame_self (by rfl) (by rfl) (by rfl) (by rfl)] at hg5; simp at hg5
        try simp only [ZA, ZB, ZC, ZD, ZE, ZF, ZG, ZH, ZI, ZJ, ZK, ZL, ZM, ZN, ZO, ZP, ZQ, ZR] at hg5
        refine RunL.call rfl rfl (by rfl) (by repeat (first | (with_reducible exact Take.nil _) | (apply Take.cons (by first | ((repeat (first | (with_reducible exact F0 _) | apply F1)); done) | (repeat (first | exact F0 _ | apply F1)))))) (lives_ctr) (Wt.yes rfl rfl rfl) rfl ?_
        rintro _ _ ⟨rfl, hA_⟩
        replace hA_ := hA_.symm; subst hA_
        refine RunL.pure (Pure.pickT rfl rfl) (Wt.none rfl) rfl rfl ?_
        refine RunL.as rfl rfl ?_
        refine RunL.nil ?_
        exact Run.ret Try.func7 (res1 rfl rfl) (by exact ⟨rfl, rfl⟩) (by repeat (first | (with_reducible exact Fin.done (by repeat (first | (with_reducible exact Rest.here) | apply Rest.there))) | (apply Fin.cons (by first | ((repeat (first | (with_reducible exact F0 _) | apply F1)); done) | (repeat (first | exact F0 _ | apply F1))))))
      · skip
        exfalso; rw [hrd, if_pos hK] at hp1; cases hp1
    · skip
      refine Run.sr ?_
      first | refine RunL.loadA (vs := (cPrc ((⟨false, ⟨#[97]⟩, ⟨#[98]⟩, 1, ⟨a4, K, c4⟩⟩ : Prc)))) rfl (by first | ((repeat (first | (with_reducible exact F0 _) | apply F1)); done) | (repeat (first | exact F0 _ | apply F1))) agg33 sz33 (by first | exact Nat.le_of_ble_eq_true rfl | (simp; done) | (simp; omega)) rfl (Wt.none rfl) rfl ?_ | refine RunL.loadNR (vs := (cPrc ((⟨false, ⟨#[97]⟩, ⟨#[98]⟩, 1, ⟨a4, K, c4⟩⟩ : Prc)))) rfl (by assumption) agg33 sz33 (by first | exact Nat.le_of_ble_eq_true rfl | (simp; done) | (simp; omega)) rfl (Wt.none rfl) rfl ?_
      refine RunL.call rfl rfl (by rfl) (by repeat (first | (with_reducible exact Take.nil _) | (apply Take.cons (by first | ((repeat (first | (with_reducible exact F0 _) | apply F1)); done) | (repeat (first | exact F0 _ | apply F1)))))) (pWriteF_ctr (p := (⟨false, ⟨#[97]⟩, ⟨#[98]⟩, 1, ⟨a4, K, c4⟩⟩ : Prc)) (xs := (List.replicate K (pubE e))) hE4 (fun x hx => (hx4 x hx).1) (by show K ≤ _; omega) ho4 (fun x hx => (hx4 x hx).2) (by rw [hmay]; simp; omega)) (Wt.none rfl) rfl ?_
      rintro _ _ ⟨rfl, hA_⟩
      replace hA_ := hA_.symm; subst hA_
      refine RunL.mv rfl rfl ?_
      refine RunL.pure (Pure.extract rfl rfl) (Wt.none rfl) rfl rfl ?_
      refine RunL.pure (Pure.extract rfl rfl) (Wt.none rfl) rfl rfl ?_
      refine RunL.as rfl rfl ?_
      refine RunL.as rfl rfl ?_
      refine RunL.nil ?_
      refine Run.sr ?_
      first | refine RunL.loadA (vs := (cPrc ((⟨false, ⟨#[97]⟩, ⟨#[98]⟩, 1, ⟨a4, K, c4⟩⟩ : Prc)))) rfl (by first | ((repeat (first | (with_reducible exact F0 _) | apply F1)); done) | (repeat (first | exact F0 _ | apply F1))) agg33 sz33 (by first | exact Nat.le_of_ble_eq_true rfl | (simp; done) | (simp; omega)) rfl (Wt.none rfl) rfl ?_ | refine RunL.loadNR (vs := (cPrc ((⟨false, ⟨#[97]⟩, ⟨#[98]⟩, 1, ⟨a4, K, c4⟩⟩ : Prc)))) rfl (by assumption) agg33 sz33 (by first | exact Nat.le_of_ble_eq_true rfl | (simp; done) | (simp; omega)) rfl (Wt.none rfl) rfl ?_
      refine RunL.call rfl rfl (by rfl) (by repeat (first | (with_reducible exact Take.nil _) | (apply Take.cons (by first | ((repeat (first | (with_reducible exact F0 _) | apply F1)); done) | (repeat (first | exact F0 _ | apply F1)))))) (as_ctr (p := (⟨false, ⟨#[97]⟩, ⟨#[98]⟩, 1, ⟨a4, K, c4⟩⟩ : Prc))) (Wt.none rfl) rfl ?_
      rintro _ _ ⟨rfl, hA_⟩
      replace hA_ := hA_.symm; subst hA_
      refine RunL.call rfl rfl (by rfl) (by repeat (first | (with_reducible exact Take.nil _) | (apply Take.cons (by first | ((repeat (first | (with_reducible exact F0 _) | apply F1)); done) | (repeat (first | exact F0 _ | apply F1)))))) (rBytes4G_ctr (p := (⟨false, ⟨#[97]⟩, ⟨#[98]⟩, 1, ⟨a4, K, c4⟩⟩ : Prc)) (xs := (List.replicate K (pubE e))) hE4 (fun x hx => (hx4 x hx).1) (by show K ≤ _; omega) ho4 (fun x hx => (hx4 x hx).2) ⟨pk_16.1, pk_16.2, (show (1 : Int) ≤ 1 by decide), (show (1 : Int) ≤ 1099511627776 by decide), by show ((K : Nat) : Int) ≤ 150; omega⟩) (Wt.none rfl) rfl ?_
      rintro _ _ ⟨ad, cd, rfl, hA_⟩
      replace hA_ := hA_.symm; subst hA_
      refine RunL.call rfl rfl (by rfl) (by repeat (first | (with_reducible exact Take.nil _) | (apply Take.cons (by first | ((repeat (first | (with_reducible exact F0 _) | apply F1)); done) | (repeat (first | exact F0 _ | apply F1)))))) (Ctr.lend (R := fun G => SlR G 5 1 _ _ _ ∧ _ ≤ _) Lends.Sl cb19 (fun G' hle hr => pRead_ctr hr.1 (by omega) hr.2)) (Wt.none rfl) rfl ?_
      rintro _ _ ⟨_, rfl, q1⟩
      rcases q1 with ⟨p1, xs1, a81, c81, hp1, rfl, hA_⟩ | ⟨hp1, rfl, hA_⟩
      · skip
        exfalso; rw [hrd, if_neg hK] at hp1; cases hp1
      · skip
        replace hA_ := hA_.symm; subst hA_
        refine RunL.mv rfl rfl ?_
        refine RunL.pure (Pure.extract rfl rfl) (Wt.none rfl) rfl rfl ?_
        refine RunL.pure (Pure.extract rfl rfl) (Wt.none rfl) rfl rfl ?_
        refine RunL.alloc zz33 (Wt.none rfl) rfl ?_; intro b11
        refine RunL.storeW (xs := (cPrc zeroP)) rfl rfl (by first | ((repeat (first | (with_reducible exact F0 _) | apply F1)); done) | (repeat (first | exact F0 _ | apply F1))) sz33 (by rfl) (by rfl) (by rfl) (Wt.none rfl) ?_
        refine RunL.as rfl rfl ?_
        refine RunL.nil ?_
        refine Run.seq ?_
        refine Run.sr ?_
        refine RunL.mv rfl rfl ?_
        refine RunL.pure (Pure.gtr rfl rfl) (Wt.none rfl) rfl rfl ?_
        refine RunL.nil ?_
        refine Run.cond rfl (fun hc6 => ?_) (fun hc6 => ?_)
        rotate_left
        · try simp only [ZA, ZB, ZC, ZD, ZE, ZF, ZG, ZH, ZI, ZJ, ZK, ZL, ZM, ZN, ZO, ZP, ZQ, ZR] at hc6
          exfalso
          omega
        try simp only [ZA, ZB, ZC, ZD, ZE, ZF, ZG, ZH, ZI, ZJ, ZK, ZL, ZM, ZN, ZO, ZP, ZQ, ZR] at hc6
        refine Run.sr ?_
        first | refine RunL.loadA (vs := (cPrc ((⟨false, ⟨#[97]⟩, ⟨#[98]⟩, 1, ⟨a4, K, c4⟩⟩ : Prc)))) rfl (by first | ((repeat (first | (with_reducible exact F0 _) | apply F1)); done) | (repeat (first | exact F0 _ | apply F1))) agg33 sz33 (by first | exact Nat.le_of_ble_eq_true rfl | (simp; done) | (simp; omega)) rfl (Wt.none rfl) rfl ?_ | refine RunL.loadNR (vs := (cPrc ((⟨false, ⟨#[97]⟩, ⟨#[98]⟩, 1, ⟨a4, K, c4⟩⟩ : Prc)))) rfl (by assumption) agg33 sz33 (by first | exact Nat.le_of_ble_eq_true rfl | (simp; done) | (simp; omega)) rfl (Wt.none rfl) rfl ?_
        refine RunL.call rfl rfl (by rfl) (by repeat (first | (with_reducible exact Take.nil _) | (apply Take.cons (by first | ((repeat (first | (with_reducible exact F0 _) | apply F1)); done) | (repeat (first | exact F0 _ | apply F1)))))) (pMay_ctr (p := (⟨false, ⟨#[97]⟩, ⟨#[98]⟩, 1, ⟨a4, K, c4⟩⟩ : Prc)) (xs := (List.replicate K (pubE e))) hE4 (fun x hx => (hx4 x hx).1) (by show K ≤ _; omega) ho4) (Wt.none rfl) rfl ?_
        rintro _ _ ⟨rfl, hA_⟩
        replace hA_ := hA_.symm; subst hA_
        refine RunL.pure (Pure.not rfl) (Wt.none rfl) rfl rfl ?_
        refine RunL.mv rfl rfl ?_
        refine RunL.split (d := 47) rfl (fun hg7 => ?_) (fun hg7 => ?_)
        rotate_left
        · try simp only [ZA, ZB, ZC, ZD, ZE, ZF, ZG, ZH, ZI, ZJ, ZK, ZL, ZM, ZN, ZO, ZP, ZQ, ZR] at hg7
          exfalso
          rw [hmay] at hg7; simp at hg7; omega
        try simp only [ZA, ZB, ZC, ZD, ZE, ZF, ZG, ZH, ZI, ZJ, ZK, ZL, ZM, ZN, ZO, ZP, ZQ, ZR] at hg7
        refine RunL.pure (Pure.move rfl) (Wt.yes rfl rfl rfl) rfl rfl ?_
        refine RunL.pure (Pure.eql rfl rfl) (Wt.yes rfl rfl rfl) rfl rfl ?_
        refine RunL.pure (Pure.pickT rfl rfl) (Wt.none rfl) rfl rfl ?_
        refine RunL.mv rfl rfl ?_
        refine RunL.split (d := 51) rfl (fun hg8 => ?_) (fun hg8 => ?_)
        rotate_left
        · try simp only [ZA, ZB, ZC, ZD, ZE, ZF, ZG, ZH, ZI, ZJ, ZK, ZL, ZM, ZN, ZO, ZP, ZQ, ZR] at hg8
          exfalso
          first | exact hg8 trivial | exact hg8 rfl | (simp at hg8; done) | (simp_all; done) | omega
        try simp only [ZA, ZB, ZC, ZD, ZE, ZF, ZG, ZH, ZI, ZJ, ZK, ZL, ZM, ZN, ZO, ZP, ZQ, ZR] at hg8
        refine RunL.pure (Pure.move rfl) (Wt.yes rfl rfl rfl) rfl rfl ?_
        refine RunL.pure (Pure.lenSl rfl rfl und29) (Wt.yes rfl rfl rfl) rfl rfl ?_
        refine RunL.pure (Pure.eql rfl rfl) (Wt.yes rfl rfl rfl) rfl rfl ?_
        refine RunL.pure (Pure.pickT rfl rfl) (Wt.none rfl) rfl rfl ?_
        refine RunL.mv rfl rfl ?_
        refine RunL.split (d := 56) rfl (fun hg9 => ?_) (fun hg9 => ?_)
        rotate_left
        · try simp only [ZA, ZB, ZC, ZD, ZE, ZF, ZG, ZH, ZI, ZJ, ZK, ZL, ZM, ZN, ZO, ZP, ZQ, ZR] at hg9
          exfalso
          first | exact hg9 trivial | exact hg9 rfl | (simp at hg9; done) | (simp_all; done) | omega
        try simp only [ZA, ZB, ZC, ZD, ZE, ZF, ZG, ZH, ZI, ZJ, ZK, ZL, ZM, ZN, ZO, ZP, ZQ, ZR] at hg9
        refine RunL.pure (Pure.move rfl) (Wt.yes rfl rfl rfl) rfl rfl ?_
        refine RunL.pure (Pure.eql rfl rfl) (Wt.yes rfl rfl rfl) rfl rfl ?_
        refine RunL.pure (Pure.pickT rfl rfl) (Wt.none rfl) rfl rfl ?_
        refine RunL.mv rfl rfl ?_
        refine RunL.split (d := 60) rfl (fun hg10 => ?_) (fun hg10 => ?_)
        rotate_left
        · try simp only [ZA, ZB, ZC, ZD, ZE, ZF, ZG, ZH, ZI, ZJ, ZK, ZL, ZM, ZN, ZO, ZP, ZQ, ZR] at hg10
          exfalso
          first | exact hg10 trivial | exact hg10 rfl | (simp at hg10; done) | (simp_all; done) | omega
        try simp only [ZA, ZB, ZC, ZD, ZE, ZF, ZG, ZH, ZI, ZJ, ZK, ZL, ZM, ZN, ZO, ZP, ZQ, ZR] at hg10
        refine RunL.pure (Pure.fieldAddr rfl fo33_4) (Wt.yes rfl rfl rfl) rfl rfl ?_
        first | refine RunL.load1 rfl (by first | ((repeat (first | (with_reducible exact F0 _) | apply F1)); done) | (repeat (first | exact F0 _ | apply F1))) (by rfl) agg22 (Wt.yes rfl rfl rfl) rfl ?_ | refine RunL.load1R rfl (by assumption) (by rfl) agg22 (Wt.yes rfl rfl rfl) rfl ?_
        refine RunL.pure (Pure.lenSl rfl rfl und22) (Wt.yes rfl rfl rfl) rfl rfl ?_
        refine RunL.pure (Pure.eql rfl rfl) (Wt.yes rfl rfl rfl) rfl rfl ?_
        refine RunL.pure (Pure.pickT rfl rfl) (Wt.none rfl) rfl rfl ?_
        refine RunL.mv rfl rfl ?_
        refine RunL.split (d := 66) rfl (fun hg11 => ?_) (fun hg11 => ?_)
        rotate_left
        · try simp only [ZA, ZB, ZC, ZD, ZE, ZF, ZG, ZH, ZI, ZJ, ZK, ZL, ZM, ZN, ZO, ZP, ZQ, ZR] at hg11
          exfalso
          first | exact hg11 trivial | exact hg11 rfl | (simp at hg11; done) | (simp_all; done) | omega
        try simp only [ZA, ZB, ZC, ZD, ZE, ZF, ZG, ZH, ZI, ZJ, ZK, ZL, ZM, ZN, ZO, ZP, ZQ, ZR] at hg11
        refine RunL.call rfl rfl (by rfl) (by repeat (first | (with_reducible exact Take.nil _) | (apply Take.cons (by first | ((repeat (first | (with_reducible exact F0 _) | apply F1)); done) | (repeat (first | exact F0 _ | apply F1)))))) (lives_ctr) (Wt.yes rfl rfl rfl) rfl ?_
        rintro _ _ ⟨rfl, hA_⟩
        replace hA_ := hA_.symm; subst hA_
        refine RunL.pure (Pure.pickT rfl rfl) (Wt.none rfl) rfl rfl ?_
        refine RunL.as rfl rfl ?_
        refine RunL.nil ?_
        exact Run.ret Try.func7 (res1 rfl rfl) (by exact ⟨rfl, rfl⟩) (by repeat (first | (with_reducible exact Fin.done (by repeat (first | (with_reducible exact Rest.here) | apply Rest.there))) | (apply Fin.cons (by first | ((repeat (first | (with_reducible exact F0 _) | apply F1)); done) | (repeat (first | exact F0 _ | apply F1))))))

end Go.Proofs.Ytbgjfpaigndbmaa
