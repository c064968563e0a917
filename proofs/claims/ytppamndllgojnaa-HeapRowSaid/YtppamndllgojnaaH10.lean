/- What is done. -/
import Derived.Test.YtppamndllgojnaaH9
set_option linter.unusedVariables false
set_option linter.unusedSimpArgs false
set_option linter.unusedSectionVars false
namespace Go.Proofs.Ytppamndllgojnaa
open Go Csl
theorem und24 : Try.prog.underlying 24 = some (Go.TypeDesc.pointer 60) := Try.underlying24
theorem fo31_0 : fieldOff Try.prog 31 0 = some 0 := by kernel_rfl
theorem fo31_1 : fieldOff Try.prog 31 1 = some 1 := by kernel_rfl

set_option maxHeartbeats 2000000 in
set_option maxRecDepth 100000 in
theorem lives_ctr {G : Gp} :
    Ctr Try.prog G 15 [] [] (fun F v A => v = .bool true ∧ A = F) := by
  refine Ctr.intro Try.func15 rfl (by kernel_rfl) rfl (fun F => ?_)
  simp only [List.nil_append]
  refine Run.sr ?_
  refine RunL.as rfl rfl ?_
  refine RunL.nil ?_
  refine Run.sr ?_
  refine RunL.call rfl rfl (by rfl) (by repeat (first | (with_reducible exact Take.nil _) | (apply Take.cons (by first | ((repeat (first | (with_reducible exact F0 _) | apply F1)); done) | (repeat (first | exact F0 _ | apply F1)))))) (HNew_ctr) (Wt.none rfl) rfl ?_
  rintro _ _ ⟨p, rfl, hA_⟩
  replace hA_ := hA_.symm; subst hA_
  refine RunL.as rfl rfl ?_
  refine RunL.nil ?_
  refine Run.seq ?_
  refine Run.sr ?_
  refine RunL.mv rfl rfl ?_
  refine RunL.pure (Pure.ptrEqNil rfl rfl und24) (Wt.none rfl) rfl rfl ?_
  refine RunL.nil ?_
  refine Run.condF rfl ?_
  refine Run.skip ?_
  refine Run.sr ?_
  refine RunL.mv rfl rfl ?_
  refine RunL.call rfl rfl (by rfl) (by repeat (first | (with_reducible exact Take.nil _) | (apply Take.cons (by first | ((repeat (first | (with_reducible exact F0 _) | apply F1)); done) | (repeat (first | exact F0 _ | apply F1)))))) (HPut_ctr (tl := ([] : List (ByteArray × Int))) (k := (⟨#[98]⟩ : ByteArray)) (t := 5) (by first | exact List.nodup_nil | exact KN.mput List.nodup_nil | exact (KN.mput (KN.mput List.nodup_nil))) (by decide)) (Wt.none rfl) rfl ?_
  rintro _ _ ⟨rfl, hA_⟩
  replace hA_ := hA_.symm; subst hA_
  refine RunL.nil ?_
  refine Run.sr ?_
  refine RunL.mv rfl rfl ?_
  refine RunL.call rfl rfl (by rfl) (by repeat (first | (with_reducible exact Take.nil _) | (apply Take.cons (by first | ((repeat (first | (with_reducible exact F0 _) | apply F1)); done) | (repeat (first | exact F0 _ | apply F1)))))) (HPut_ctr (tl := (mput (⟨#[98]⟩ : ByteArray) 5 ([] : List (ByteArray × Int)))) (k := (⟨#[97]⟩ : ByteArray)) (t := 3) (by first | exact List.nodup_nil | exact KN.mput List.nodup_nil | exact (KN.mput (KN.mput List.nodup_nil))) (by decide)) (Wt.none rfl) rfl ?_
  rintro _ _ ⟨rfl, hA_⟩
  replace hA_ := hA_.symm; subst hA_
  refine RunL.nil ?_
  refine Run.sr ?_
  refine RunL.mv rfl rfl ?_
  refine RunL.call rfl rfl (by rfl) (by repeat (first | (with_reducible exact Take.nil _) | (apply Take.cons (by first | ((repeat (first | (with_reducible exact F0 _) | apply F1)); done) | (repeat (first | exact F0 _ | apply F1)))))) (HPut_ctr (tl := (mput (⟨#[97]⟩ : ByteArray) 3 (mput (⟨#[98]⟩ : ByteArray) 5 ([] : List (ByteArray × Int))))) (k := (⟨#[97]⟩ : ByteArray)) (t := 5) (by first | exact List.nodup_nil | exact KN.mput List.nodup_nil | exact (KN.mput (KN.mput List.nodup_nil))) (by decide)) (Wt.none rfl) rfl ?_
  rintro _ _ ⟨rfl, hA_⟩
  replace hA_ := hA_.symm; subst hA_
  refine RunL.nil ?_
  refine Run.sr ?_
  refine RunL.mv rfl rfl ?_
  refine RunL.call rfl rfl (by rfl) (by repeat (first | (with_reducible exact Take.nil _) | (apply Take.cons (by first | ((repeat (first | (with_reducible exact F0 _) | apply F1)); done) | (repeat (first | exact F0 _ | apply F1)))))) (HDue_ctr (tl := (mput (⟨#[97]⟩ : ByteArray) 5 (mput (⟨#[97]⟩ : ByteArray) 3 (mput (⟨#[98]⟩ : ByteArray) 5 ([] : List (ByteArray × Int)))))) (t := 5) (KN.mput (KN.mput (KN.mput List.nodup_nil))) (by decide +kernel)) (Wt.none rfl) rfl ?_
  rintro _ _ ⟨ao, co, rfl, hA_⟩
  replace hA_ := hA_.symm; subst hA_
  have hdk : dueK (mput (⟨#[97]⟩ : ByteArray) 5 (mput (⟨#[97]⟩ : ByteArray) 3 (mput (⟨#[98]⟩ : ByteArray) 5 ([] : List (ByteArray × Int))))) 5 = [(⟨#[97]⟩ : ByteArray), (⟨#[98]⟩ : ByteArray)] := by decide +kernel
  rw [hdk]
  have haf : afterT (mput (⟨#[97]⟩ : ByteArray) 5 (mput (⟨#[97]⟩ : ByteArray) 3 (mput (⟨#[98]⟩ : ByteArray) 5 ([] : List (ByteArray × Int))))) 5 = [] := by decide +kernel
  rw [haf]
  refine RunL.lit (vals := [_, _]) (vs := ([(⟨#[97]⟩ : ByteArray), (⟨#[98]⟩ : ByteArray)] : List ByteArray).map Value.string) und34 sz9 zz9 rfl rfl rfl rfl rfl rfl (by simp [Value.cells, bv, cE, cOO]) rfl (Wt.none rfl) rfl ?_; intro b13
  refine RunL.call rfl rfl (by rfl) (by repeat (first | (with_reducible exact Take.nil _) | (apply Take.cons (by first | ((repeat (first | (with_reducible exact F0 _) | apply F1)); done) | (repeat (first | exact F0 _ | apply F1)))))) (SameTexts_ctr (xs := [(⟨#[97]⟩ : ByteArray), (⟨#[98]⟩ : ByteArray)]) (ys := [(⟨#[97]⟩ : ByteArray), (⟨#[98]⟩ : ByteArray)]) (by decide)) (Wt.none rfl) rfl ?_
  rintro _ _ ⟨rfl, hA_⟩
  replace hA_ := hA_.symm; subst hA_
  refine RunL.mv rfl rfl ?_
  refine RunL.split (d := 15) rfl (fun hg1 => ?_) (fun hg1 => ?_)
  rotate_left
  · try simp only [ZA, ZB, ZC, ZD, ZE, ZF, ZG, ZH, ZI, ZJ, ZK, ZL, ZM, ZN, ZO, ZP, ZQ, ZR] at hg1
    exfalso
    simp at hg1
  try simp only [ZA, ZB, ZC, ZD, ZE, ZF, ZG, ZH, ZI, ZJ, ZK, ZL, ZM, ZN, ZO, ZP, ZQ, ZR] at hg1
  refine RunL.pure (Pure.move rfl) (Wt.yes rfl rfl rfl) rfl rfl ?_
  refine RunL.call rfl rfl (by rfl) (by repeat (first | (with_reducible exact Take.nil _) | (apply Take.cons (by first | ((repeat (first | (with_reducible exact F0 _) | apply F1)); done) | (repeat (first | exact F0 _ | apply F1)))))) (HLen_ctr (tl := [])) (Wt.yes rfl rfl rfl) rfl ?_
  rintro _ _ ⟨rfl, hA_⟩
  replace hA_ := hA_.symm; subst hA_
  refine RunL.pure (Pure.eql rfl rfl) (Wt.yes rfl rfl rfl) rfl rfl ?_
  refine RunL.pure (Pure.pickT rfl rfl) (Wt.none rfl) rfl rfl ?_
  refine RunL.as rfl rfl ?_
  refine RunL.nil ?_
  exact Run.ret Try.func15 (res1 rfl rfl) (by exact ⟨rfl, rfl⟩) (by repeat (first | (with_reducible exact Fin.done (by repeat (first | (with_reducible exact Rest.here) | apply Rest.there))) | (apply Fin.cons (by first | ((repeat (first | (with_reducible exact F0 _) | apply F1)); done) | (repeat (first | exact F0 _ | apply F1))))))

set_option maxRecDepth 100000 in
theorem Kind_ctr {G : Gp} {o : OO} (ho : okOO o) :
    Ctr Try.prog G 28 [.agg (cOO o).toArray] [] (fun F v A => v = .int .i64 (kindO o) ∧ A = F) := by
  refine Ctr.intro Try.func28 rfl (by kernel_rfl) rfl (fun F => ?_)
  simp only [List.nil_append]
  refine Run.sr ?_
  refine RunL.boxA (xs := (cOO o)) rfl (Wt.none rfl) rfl ?_; intro b1
  refine RunL.as rfl rfl ?_
  refine RunL.nil ?_
  refine Run.lendAll (Q := row b1 31 _) Lends.row (by first | ((repeat (first | (with_reducible exact F0 _) | apply F1)); done) | (repeat (first | exact F0 _ | apply F1))) (fun G1 hleG1 hrb1 => ?_)
  refine Run.sr ?_
  refine RunL.pure (Pure.fieldAddr rfl fo31_0) (Wt.none rfl) rfl rfl ?_
  first | refine RunL.load1 rfl (by first | ((repeat (first | (with_reducible exact F0 _) | apply F1)); done) | (repeat (first | exact F0 _ | apply F1))) (by rfl) agg3 (Wt.none rfl) rfl ?_ | refine RunL.load1R rfl (by assumption) (by rfl) agg3 (Wt.none rfl) rfl ?_
  refine RunL.call rfl rfl (by rfl) (by repeat (first | (with_reducible exact Take.nil _) | (apply Take.cons (by first | ((repeat (first | (with_reducible exact F0 _) | apply F1)); done) | (repeat (first | exact F0 _ | apply F1)))))) (Around_ctr (wf_i64 ho.1) (by decide)) (Wt.none rfl) rfl ?_
  rintro _ _ ⟨rfl, hA_⟩
  replace hA_ := hA_.symm; subst hA_
  refine RunL.as rfl rfl ?_
  refine RunL.nil ?_
  refine Run.seq ?_
  refine Run.sr ?_
  refine RunL.mv rfl rfl ?_
  refine RunL.pure (Pure.lss rfl rfl) (Wt.none rfl) rfl rfl ?_
  refine RunL.nil ?_
  refine Run.cond rfl (fun h1 => ?_) (fun h1 => ?_)
  · try simp only [ZA, ZB, ZC, ZD, ZE, ZF, ZG, ZH, ZI, ZJ, ZK, ZL, ZM, ZN, ZO, ZP, ZQ, ZR] at h1
    refine Run.sr ?_
    refine RunL.as rfl rfl ?_
    refine RunL.nil ?_
    exact Run.ret Try.func28 (res1 rfl rfl) (by exact ⟨by rw [kindO, if_pos h1], rfl⟩) (by repeat (first | (with_reducible exact Fin.done (by repeat (first | (with_reducible exact Rest.here) | apply Rest.there))) | (apply Fin.cons (by first | ((repeat (first | (with_reducible exact F0 _) | apply F1)); done) | (repeat (first | exact F0 _ | apply F1))))))
  · try simp only [ZA, ZB, ZC, ZD, ZE, ZF, ZG, ZH, ZI, ZJ, ZK, ZL, ZM, ZN, ZO, ZP, ZQ, ZR] at h1
    refine Run.skip ?_
    refine Run.seq ?_
    refine Run.sr ?_
    refine RunL.mv rfl rfl ?_
    refine RunL.pure (Pure.lss rfl rfl) (Wt.none rfl) rfl rfl ?_
    refine RunL.nil ?_
    refine Run.cond rfl (fun h2 => ?_) (fun h2 => ?_)
    · try simp only [ZA, ZB, ZC, ZD, ZE, ZF, ZG, ZH, ZI, ZJ, ZK, ZL, ZM, ZN, ZO, ZP, ZQ, ZR] at h2
      refine Run.sr ?_
      refine RunL.as rfl rfl ?_
      refine RunL.nil ?_
      exact Run.ret Try.func28 (res1 rfl rfl) (by exact ⟨by rw [kindO, if_neg (by omega), if_pos h2], rfl⟩) (by repeat (first | (with_reducible exact Fin.done (by repeat (first | (with_reducible exact Rest.here) | apply Rest.there))) | (apply Fin.cons (by first | ((repeat (first | (with_reducible exact F0 _) | apply F1)); done) | (repeat (first | exact F0 _ | apply F1))))))
    · try simp only [ZA, ZB, ZC, ZD, ZE, ZF, ZG, ZH, ZI, ZJ, ZK, ZL, ZM, ZN, ZO, ZP, ZQ, ZR] at h2
      refine Run.skip ?_
      refine Run.seq ?_
      refine Run.sr ?_
      refine RunL.mv rfl rfl ?_
      refine RunL.pure (Pure.lss rfl rfl) (Wt.none rfl) rfl rfl ?_
      refine RunL.nil ?_
      refine Run.cond rfl (fun h3 => ?_) (fun h3 => ?_)
      · try simp only [ZA, ZB, ZC, ZD, ZE, ZF, ZG, ZH, ZI, ZJ, ZK, ZL, ZM, ZN, ZO, ZP, ZQ, ZR] at h3
        refine Run.sr ?_
        refine RunL.as rfl rfl ?_
        refine RunL.nil ?_
        exact Run.ret Try.func28 (res1 rfl rfl) (by exact ⟨by rw [kindO, if_neg (by omega), if_neg (by omega), if_pos h3], rfl⟩) (by repeat (first | (with_reducible exact Fin.done (by repeat (first | (with_reducible exact Rest.here) | apply Rest.there))) | (apply Fin.cons (by first | ((repeat (first | (with_reducible exact F0 _) | apply F1)); done) | (repeat (first | exact F0 _ | apply F1))))))
      · try simp only [ZA, ZB, ZC, ZD, ZE, ZF, ZG, ZH, ZI, ZJ, ZK, ZL, ZM, ZN, ZO, ZP, ZQ, ZR] at h3
        refine Run.skip ?_
        refine Run.sr ?_
        refine RunL.as rfl rfl ?_
        refine RunL.nil ?_
        exact Run.ret Try.func28 (res1 rfl rfl) (by exact ⟨by rw [kindO, if_neg (by omega), if_neg (by omega), if_neg (by omega)], rfl⟩) (by repeat (first | (with_reducible exact Fin.done (by repeat (first | (with_reducible exact Rest.here) | apply Rest.there))) | (apply Fin.cons (by first | ((repeat (first | (with_reducible exact F0 _) | apply F1)); done) | (repeat (first | exact F0 _ | apply F1))))))

set_option maxHeartbeats 2000000 in
set_option maxRecDepth 100000 in
theorem do_ctr {G : Gp} {p : Nat} {tl : List (ByteArray × Int)} {o : OO} (ho : okOO o) (hn : KN tl) (hb : tl.length < 1000) :
    Ctr Try.prog G 16 [.pointer (some ⟨p, 0, none⟩), .agg (cOO o).toArray] [Hq p tl] (fun F v A => ∃ ao co, v = .slice ao (toldT tl o).length co ∧ A = Sl 9 1 ao (toldT tl o).length co ((toldT tl o).map Value.string) :: Hq p (doT tl o) :: F) := by
  refine Ctr.intro Try.func16 rfl (by kernel_rfl) rfl (fun F => ?_)
  simp only [List.cons_append, List.nil_append]
  refine Run.sr ?_
  refine RunL.boxA (xs := (cOO o)) rfl (Wt.none rfl) rfl ?_; intro b3
  refine RunL.as rfl rfl ?_
  refine RunL.nil ?_
  refine Run.lendAll (Q := row b3 31 _) Lends.row (by first | ((repeat (first | (with_reducible exact F0 _) | apply F1)); done) | (repeat (first | exact F0 _ | apply F1))) (fun G3 hleG3 hrb3 => ?_)
  refine Run.seq ?_
  refine Run.sr ?_
  first | refine RunL.loadA (vs := (cOO o)) rfl (by first | ((repeat (first | (with_reducible exact F0 _) | apply F1)); done) | (repeat (first | exact F0 _ | apply F1))) agg31 sz31 (by first | exact Nat.le_of_ble_eq_true rfl | (simp; done) | (simp; omega)) rfl (Wt.none rfl) rfl ?_ | refine RunL.loadNR (vs := (cOO o)) rfl (by assumption) agg31 sz31 (by first | exact Nat.le_of_ble_eq_true rfl | (simp; done) | (simp; omega)) rfl (Wt.none rfl) rfl ?_
  refine RunL.call rfl rfl (by rfl) (by repeat (first | (with_reducible exact Take.nil _) | (apply Take.cons (by first | ((repeat (first | (with_reducible exact F0 _) | apply F1)); done) | (repeat (first | exact F0 _ | apply F1)))))) (Kind_ctr (by assumption)) (Wt.none rfl) rfl ?_
  rintro _ _ ⟨rfl, hA_⟩
  replace hA_ := hA_.symm; subst hA_
  refine RunL.nil ?_
  refine Run.block ?_
  refine Run.sr ?_
  refine RunL.pure (Pure.eql rfl rfl) (Wt.none rfl) rfl rfl ?_
  refine RunL.as rfl rfl ?_
  refine RunL.nil ?_
  refine Run.cond rfl (fun h1 => ?_) (fun h1 => ?_)
  · try simp only [ZA, ZB, ZC, ZD, ZE, ZF, ZG, ZH, ZI, ZJ, ZK, ZL, ZM, ZN, ZO, ZP, ZQ, ZR] at h1
    have d1 : doT tl o = mput o.key o.tick tl := by rw [doT, if_pos h1]
    have d2 : toldT tl o = [] := by rw [toldT, if_neg (by omega)]
    refine Run.region ?_
    refine RunL.mv rfl rfl ?_
    refine RunL.pure (Pure.fieldAddr rfl fo31_1) (Wt.none rfl) rfl rfl ?_
    first | refine RunL.load1 rfl (by first | ((repeat (first | (with_reducible exact F0 _) | apply F1)); done) | (repeat (first | exact F0 _ | apply F1))) (by rfl) agg3 (Wt.none rfl) rfl ?_ | refine RunL.load1R rfl (by assumption) (by rfl) agg3 (Wt.none rfl) rfl ?_
    refine RunL.pure (Pure.fieldAddr rfl fo31_2) (Wt.none rfl) rfl rfl ?_
    first | refine RunL.load1 rfl (by first | ((repeat (first | (with_reducible exact F0 _) | apply F1)); done) | (repeat (first | exact F0 _ | apply F1))) (by rfl) agg9 (Wt.none rfl) rfl ?_ | refine RunL.load1R rfl (by assumption) (by rfl) agg9 (Wt.none rfl) rfl ?_
    refine RunL.call rfl rfl (by rfl) (by repeat (first | (with_reducible exact Take.nil _) | (apply Take.cons (by first | ((repeat (first | (with_reducible exact F0 _) | apply F1)); done) | (repeat (first | exact F0 _ | apply F1)))))) (HPut_ctr (by assumption) (by omega)) (Wt.none rfl) rfl ?_
    rintro _ _ ⟨rfl, hA_⟩
    replace hA_ := hA_.symm; subst hA_
    refine RunL.nil ?_
    refine Run.inBlock ?_
    refine Run.sr ?_
    refine RunL.as rfl rfl ?_
    refine RunL.nil ?_
    refine Run.nilSl 9 1 ?_
    
    exact Run.ret Try.func16 (res1 rfl rfl) (by exact ⟨none, 0, by rw [d2]; (try rfl), by rw [d1, d2]; (try rfl)⟩) (by repeat (first | (with_reducible exact Fin.done (by repeat (first | (with_reducible exact Rest.here) | apply Rest.there))) | (apply Fin.cons (by first | ((repeat (first | (with_reducible exact F0 _) | apply F1)); done) | (repeat (first | exact F0 _ | apply F1))))))
  · try simp only [ZA, ZB, ZC, ZD, ZE, ZF, ZG, ZH, ZI, ZJ, ZK, ZL, ZM, ZN, ZO, ZP, ZQ, ZR] at h1
    refine Run.sr ?_
    refine RunL.pure (Pure.eql rfl rfl) (Wt.none rfl) rfl rfl ?_
    refine RunL.as rfl rfl ?_
    refine RunL.nil ?_
    refine Run.cond rfl (fun h2 => ?_) (fun h2 => ?_)
    · try simp only [ZA, ZB, ZC, ZD, ZE, ZF, ZG, ZH, ZI, ZJ, ZK, ZL, ZM, ZN, ZO, ZP, ZQ, ZR] at h2
      have d1 : doT tl o = mdel o.key tl := by rw [doT, if_neg h1, if_pos h2]
      have d2 : toldT tl o = [] := by rw [toldT, if_neg (by omega)]
      refine Run.region ?_
      refine RunL.mv rfl rfl ?_
      refine RunL.pure (Pure.fieldAddr rfl fo31_2) (Wt.none rfl) rfl rfl ?_
      first | refine RunL.load1 rfl (by first | ((repeat (first | (with_reducible exact F0 _) | apply F1)); done) | (repeat (first | exact F0 _ | apply F1))) (by rfl) agg9 (Wt.none rfl) rfl ?_ | refine RunL.load1R rfl (by assumption) (by rfl) agg9 (Wt.none rfl) rfl ?_
      refine RunL.call rfl rfl (by rfl) (by repeat (first | (with_reducible exact Take.nil _) | (apply Take.cons (by first | ((repeat (first | (with_reducible exact F0 _) | apply F1)); done) | (repeat (first | exact F0 _ | apply F1)))))) (Drop_ctr (by omega)) (Wt.none rfl) rfl ?_
      rintro _ _ ⟨rfl, hA_⟩
      replace hA_ := hA_.symm; subst hA_
      refine RunL.nil ?_
      refine Run.inBlock ?_
      refine Run.sr ?_
      refine RunL.as rfl rfl ?_
      refine RunL.nil ?_
      refine Run.nilSl 9 1 ?_
      
      exact Run.ret Try.func16 (res1 rfl rfl) (by exact ⟨none, 0, by rw [d2]; (try rfl), by rw [d1, d2]; (try rfl)⟩) (by repeat (first | (with_reducible exact Fin.done (by repeat (first | (with_reducible exact Rest.here) | apply Rest.there))) | (apply Fin.cons (by first | ((repeat (first | (with_reducible exact F0 _) | apply F1)); done) | (repeat (first | exact F0 _ | apply F1))))))
    · try simp only [ZA, ZB, ZC, ZD, ZE, ZF, ZG, ZH, ZI, ZJ, ZK, ZL, ZM, ZN, ZO, ZP, ZQ, ZR] at h2
      refine Run.sr ?_
      refine RunL.pure (Pure.eql rfl rfl) (Wt.none rfl) rfl rfl ?_
      refine RunL.as rfl rfl ?_
      refine RunL.nil ?_
      refine Run.cond rfl (fun h3 => ?_) (fun h3 => ?_)
      · try simp only [ZA, ZB, ZC, ZD, ZE, ZF, ZG, ZH, ZI, ZJ, ZK, ZL, ZM, ZN, ZO, ZP, ZQ, ZR] at h3
        have d1 : doT tl o = afterT tl o.tick := by rw [doT, if_neg h1, if_neg h2, if_pos h3]
        have d2 : toldT tl o = dueK tl o.tick := by rw [toldT, if_pos h3]
        refine Run.sr ?_
        refine RunL.mv rfl rfl ?_
        refine RunL.pure (Pure.fieldAddr rfl fo31_1) (Wt.none rfl) rfl rfl ?_
        first | refine RunL.load1 rfl (by first | ((repeat (first | (with_reducible exact F0 _) | apply F1)); done) | (repeat (first | exact F0 _ | apply F1))) (by rfl) agg3 (Wt.none rfl) rfl ?_ | refine RunL.load1R rfl (by assumption) (by rfl) agg3 (Wt.none rfl) rfl ?_
        refine RunL.call rfl rfl (by rfl) (by repeat (first | (with_reducible exact Take.nil _) | (apply Take.cons (by first | ((repeat (first | (with_reducible exact F0 _) | apply F1)); done) | (repeat (first | exact F0 _ | apply F1)))))) (HDue_ctr hn (by omega)) (Wt.none rfl) rfl ?_
        rintro _ _ ⟨ao, co, rfl, hA_⟩
        replace hA_ := hA_.symm; subst hA_
        refine RunL.as rfl rfl ?_
        refine RunL.nil ?_
        exact Run.ret Try.func16 (res1 rfl rfl) (by exact ⟨_, _, by rw [d2], by rw [d1, d2]⟩) (by repeat (first | (with_reducible exact Fin.done (by repeat (first | (with_reducible exact Rest.here) | apply Rest.there))) | (apply Fin.cons (by first | ((repeat (first | (with_reducible exact F0 _) | apply F1)); done) | (repeat (first | exact F0 _ | apply F1))))))
      · try simp only [ZA, ZB, ZC, ZD, ZE, ZF, ZG, ZH, ZI, ZJ, ZK, ZL, ZM, ZN, ZO, ZP, ZQ, ZR] at h3
        have d1 : doT tl o = [] := by rw [doT, if_neg h1, if_neg h2, if_neg h3]
        have d2 : toldT tl o = [] := by rw [toldT, if_neg h3]
        refine Run.region ?_
        refine RunL.mv rfl rfl ?_
        refine RunL.call rfl rfl (by rfl) (by repeat (first | (with_reducible exact Take.nil _) | (apply Take.cons (by first | ((repeat (first | (with_reducible exact F0 _) | apply F1)); done) | (repeat (first | exact F0 _ | apply F1)))))) (HClear_ctr) (Wt.none rfl) rfl ?_
        rintro _ _ ⟨rfl, hA_⟩
        replace hA_ := hA_.symm; subst hA_
        refine RunL.nil ?_
        refine Run.inBlock ?_
        refine Run.sr ?_
        refine RunL.as rfl rfl ?_
        refine RunL.nil ?_
        refine Run.nilSl 9 1 ?_
        
        exact Run.ret Try.func16 (res1 rfl rfl) (by exact ⟨none, 0, by rw [d2]; (try rfl), by rw [d1, d2]; (try rfl)⟩) (by repeat (first | (with_reducible exact Fin.done (by repeat (first | (with_reducible exact Rest.here) | apply Rest.there))) | (apply Fin.cons (by first | ((repeat (first | (with_reducible exact F0 _) | apply F1)); done) | (repeat (first | exact F0 _ | apply F1))))))

set_option maxHeartbeats 2000000 in
set_option maxRecDepth 100000 in
theorem rDo_ctr {G : Gp} {q : Nat} {tl : List (ByteArray × Int)} {o : OO} (ho : okOO o) (hn : KN tl) (hb : tl.length < 1000) :
    Ctr Try.prog G 17 [.pointer (some ⟨q, 0, none⟩), .agg (cOO o).toArray] [RH q tl] (fun F v A => ∃ ao co, v = .slice ao (toldT tl o).length co ∧ A = Sl 9 1 ao (toldT tl o).length co ((toldT tl o).map Value.string) :: RH q (doT tl o) :: F) := by
  refine Ctr.intro Try.func17 rfl (by kernel_rfl) rfl (fun F => ?_)
  simp only [List.cons_append, List.nil_append]
  refine Run.sr ?_
  refine RunL.boxA (xs := (cOO o)) rfl (Wt.none rfl) rfl ?_; intro b3
  refine RunL.as rfl rfl ?_
  refine RunL.nil ?_
  refine Run.lendAll (Q := row b3 31 _) Lends.row (by first | ((repeat (first | (with_reducible exact F0 _) | apply F1)); done) | (repeat (first | exact F0 _ | apply F1))) (fun G3 hleG3 hrb3 => ?_)
  refine Run.seq ?_
  refine Run.sr ?_
  first | refine RunL.loadA (vs := (cOO o)) rfl (by first | ((repeat (first | (with_reducible exact F0 _) | apply F1)); done) | (repeat (first | exact F0 _ | apply F1))) agg31 sz31 (by first | exact Nat.le_of_ble_eq_true rfl | (simp; done) | (simp; omega)) rfl (Wt.none rfl) rfl ?_ | refine RunL.loadNR (vs := (cOO o)) rfl (by assumption) agg31 sz31 (by first | exact Nat.le_of_ble_eq_true rfl | (simp; done) | (simp; omega)) rfl (Wt.none rfl) rfl ?_
  refine RunL.call rfl rfl (by rfl) (by repeat (first | (with_reducible exact Take.nil _) | (apply Take.cons (by first | ((repeat (first | (with_reducible exact F0 _) | apply F1)); done) | (repeat (first | exact F0 _ | apply F1)))))) (Kind_ctr (by assumption)) (Wt.none rfl) rfl ?_
  rintro _ _ ⟨rfl, hA_⟩
  replace hA_ := hA_.symm; subst hA_
  refine RunL.nil ?_
  refine Run.block ?_
  refine Run.sr ?_
  refine RunL.pure (Pure.eql rfl rfl) (Wt.none rfl) rfl rfl ?_
  refine RunL.as rfl rfl ?_
  refine RunL.nil ?_
  refine Run.cond rfl (fun h1 => ?_) (fun h1 => ?_)
  · try simp only [ZA, ZB, ZC, ZD, ZE, ZF, ZG, ZH, ZI, ZJ, ZK, ZL, ZM, ZN, ZO, ZP, ZQ, ZR] at h1
    have d1 : doT tl o = mput o.key o.tick tl := by rw [doT, if_pos h1]
    have d2 : toldT tl o = [] := by rw [toldT, if_neg (by omega)]
    refine Run.region ?_
    refine RunL.mv rfl rfl ?_
    refine RunL.pure (Pure.fieldAddr rfl fo31_1) (Wt.none rfl) rfl rfl ?_
    first | refine RunL.load1 rfl (by first | ((repeat (first | (with_reducible exact F0 _) | apply F1)); done) | (repeat (first | exact F0 _ | apply F1))) (by rfl) agg3 (Wt.none rfl) rfl ?_ | refine RunL.load1R rfl (by assumption) (by rfl) agg3 (Wt.none rfl) rfl ?_
    refine RunL.pure (Pure.fieldAddr rfl fo31_2) (Wt.none rfl) rfl rfl ?_
    first | refine RunL.load1 rfl (by first | ((repeat (first | (with_reducible exact F0 _) | apply F1)); done) | (repeat (first | exact F0 _ | apply F1))) (by rfl) agg9 (Wt.none rfl) rfl ?_ | refine RunL.load1R rfl (by assumption) (by rfl) agg9 (Wt.none rfl) rfl ?_
    refine RunL.call rfl rfl (by rfl) (by repeat (first | (with_reducible exact Take.nil _) | (apply Take.cons (by first | ((repeat (first | (with_reducible exact F0 _) | apply F1)); done) | (repeat (first | exact F0 _ | apply F1)))))) (rHPut_ctr (by assumption) (by omega)) (Wt.none rfl) rfl ?_
    rintro _ _ ⟨rfl, hA_⟩
    replace hA_ := hA_.symm; subst hA_
    refine RunL.nil ?_
    refine Run.inBlock ?_
    refine Run.sr ?_
    refine RunL.as rfl rfl ?_
    refine RunL.nil ?_
    refine Run.nilSl 9 1 ?_
    
    exact Run.ret Try.func17 (res1 rfl rfl) (by exact ⟨none, 0, by rw [d2]; (try rfl), by rw [d1, d2]; (try rfl)⟩) (by repeat (first | (with_reducible exact Fin.done (by repeat (first | (with_reducible exact Rest.here) | apply Rest.there))) | (apply Fin.cons (by first | ((repeat (first | (with_reducible exact F0 _) | apply F1)); done) | (repeat (first | exact F0 _ | apply F1))))))
  · try simp only [ZA, ZB, ZC, ZD, ZE, ZF, ZG, ZH, ZI, ZJ, ZK, ZL, ZM, ZN, ZO, ZP, ZQ, ZR] at h1
    refine Run.sr ?_
    refine RunL.pure (Pure.eql rfl rfl) (Wt.none rfl) rfl rfl ?_
    refine RunL.as rfl rfl ?_
    refine RunL.nil ?_
    refine Run.cond rfl (fun h2 => ?_) (fun h2 => ?_)
    · try simp only [ZA, ZB, ZC, ZD, ZE, ZF, ZG, ZH, ZI, ZJ, ZK, ZL, ZM, ZN, ZO, ZP, ZQ, ZR] at h2
      have d1 : doT tl o = mdel o.key tl := by rw [doT, if_neg h1, if_pos h2]
      have d2 : toldT tl o = [] := by rw [toldT, if_neg (by omega)]
      refine Run.region ?_
      refine RunL.mv rfl rfl ?_
      refine RunL.pure (Pure.fieldAddr rfl fo31_2) (Wt.none rfl) rfl rfl ?_
      first | refine RunL.load1 rfl (by first | ((repeat (first | (with_reducible exact F0 _) | apply F1)); done) | (repeat (first | exact F0 _ | apply F1))) (by rfl) agg9 (Wt.none rfl) rfl ?_ | refine RunL.load1R rfl (by assumption) (by rfl) agg9 (Wt.none rfl) rfl ?_
      refine RunL.call rfl rfl (by rfl) (by repeat (first | (with_reducible exact Take.nil _) | (apply Take.cons (by first | ((repeat (first | (with_reducible exact F0 _) | apply F1)); done) | (repeat (first | exact F0 _ | apply F1)))))) (rDrop_ctr (by assumption) (by omega)) (Wt.none rfl) rfl ?_
      rintro _ _ ⟨rfl, hA_⟩
      replace hA_ := hA_.symm; subst hA_
      refine RunL.nil ?_
      refine Run.inBlock ?_
      refine Run.sr ?_
      refine RunL.as rfl rfl ?_
      refine RunL.nil ?_
      refine Run.nilSl 9 1 ?_
      
      exact Run.ret Try.func17 (res1 rfl rfl) (by exact ⟨none, 0, by rw [d2]; (try rfl), by rw [d1, d2]; (try rfl)⟩) (by repeat (first | (with_reducible exact Fin.done (by repeat (first | (with_reducible exact Rest.here) | apply Rest.there))) | (apply Fin.cons (by first | ((repeat (first | (with_reducible exact F0 _) | apply F1)); done) | (repeat (first | exact F0 _ | apply F1))))))
    · try simp only [ZA, ZB, ZC, ZD, ZE, ZF, ZG, ZH, ZI, ZJ, ZK, ZL, ZM, ZN, ZO, ZP, ZQ, ZR] at h2
      refine Run.sr ?_
      refine RunL.pure (Pure.eql rfl rfl) (Wt.none rfl) rfl rfl ?_
      refine RunL.as rfl rfl ?_
      refine RunL.nil ?_
      refine Run.cond rfl (fun h3 => ?_) (fun h3 => ?_)
      · try simp only [ZA, ZB, ZC, ZD, ZE, ZF, ZG, ZH, ZI, ZJ, ZK, ZL, ZM, ZN, ZO, ZP, ZQ, ZR] at h3
        have d1 : doT tl o = afterT tl o.tick := by rw [doT, if_neg h1, if_neg h2, if_pos h3]
        have d2 : toldT tl o = dueK tl o.tick := by rw [toldT, if_pos h3]
        refine Run.sr ?_
        refine RunL.mv rfl rfl ?_
        refine RunL.pure (Pure.fieldAddr rfl fo31_1) (Wt.none rfl) rfl rfl ?_
        first | refine RunL.load1 rfl (by first | ((repeat (first | (with_reducible exact F0 _) | apply F1)); done) | (repeat (first | exact F0 _ | apply F1))) (by rfl) agg3 (Wt.none rfl) rfl ?_ | refine RunL.load1R rfl (by assumption) (by rfl) agg3 (Wt.none rfl) rfl ?_
        refine RunL.call rfl rfl (by rfl) (by repeat (first | (with_reducible exact Take.nil _) | (apply Take.cons (by first | ((repeat (first | (with_reducible exact F0 _) | apply F1)); done) | (repeat (first | exact F0 _ | apply F1)))))) (rDue_ctr hn (by omega)) (Wt.none rfl) rfl ?_
        rintro _ _ ⟨ao, co, rfl, hA_⟩
        replace hA_ := hA_.symm; subst hA_
        refine RunL.as rfl rfl ?_
        refine RunL.nil ?_
        exact Run.ret Try.func17 (res1 rfl rfl) (by exact ⟨_, _, by rw [d2], by rw [d1, d2]⟩) (by repeat (first | (with_reducible exact Fin.done (by repeat (first | (with_reducible exact Rest.here) | apply Rest.there))) | (apply Fin.cons (by first | ((repeat (first | (with_reducible exact F0 _) | apply F1)); done) | (repeat (first | exact F0 _ | apply F1))))))
      · try simp only [ZA, ZB, ZC, ZD, ZE, ZF, ZG, ZH, ZI, ZJ, ZK, ZL, ZM, ZN, ZO, ZP, ZQ, ZR] at h3
        have d1 : doT tl o = [] := by rw [doT, if_neg h1, if_neg h2, if_neg h3]
        have d2 : toldT tl o = [] := by rw [toldT, if_neg h3]
        refine Run.openR (by first | ((repeat (first | (with_reducible exact F0 _) | apply F1)); done) | (repeat (first | exact F0 _ | apply F1))) ?_; intro a cap
        refine Run.toSlF (xs := EL tl) (f := cE) 0 (fun _ _ => rfl) (by first | ((repeat (first | (with_reducible exact F0 _) | apply F1)); done) | (repeat (first | exact F0 _ | apply F1))) (by omega) ?_
        refine Run.nilSl 36 2 ?_
        refine Run.region ?_
        refine RunL.mv rfl rfl ?_
        refine RunL.pure (Pure.nilCheck rfl) (Wt.none rfl) rfl rfl ?_
        refine RunL.pure (Pure.fieldAddr rfl fo29_0) (Wt.none rfl) rfl rfl ?_
        refine RunL.store1 rfl rfl (by first | ((repeat (first | (with_reducible exact F0 _) | apply F1)); done) | (repeat (first | exact F0 _ | apply F1))) sz27 (by rfl) (by simp) (Wt.none rfl) ?_
        try simp only [List.set_cons_zero, List.set_cons_succ]
        refine RunL.nil ?_
        refine Run.inBlock ?_
        refine Run.mkR (a := none) (cap := 0) (cs := []) [] (by repeat (first | (with_reducible exact Take.nil _) | (apply Take.cons (by first | ((repeat (first | (with_reducible exact F0 _) | apply F1)); done) | (repeat (first | exact F0 _ | apply F1)))))) rfl rfl ?_
        refine Run.sr ?_
        refine RunL.as rfl rfl ?_
        refine RunL.nil ?_
        refine Run.nilSl 9 1 ?_
        
        exact Run.ret Try.func17 (res1 rfl rfl) (by exact ⟨none, 0, by rw [d2]; (try rfl), by rw [d1, d2]; (try rfl)⟩) (by repeat (first | (with_reducible exact Fin.done (by repeat (first | (with_reducible exact Rest.here) | apply Rest.there))) | (apply Fin.cons (by first | ((repeat (first | (with_reducible exact F0 _) | apply F1)); done) | (repeat (first | exact F0 _ | apply F1))))))

end Go.Proofs.Ytppamndllgojnaa
