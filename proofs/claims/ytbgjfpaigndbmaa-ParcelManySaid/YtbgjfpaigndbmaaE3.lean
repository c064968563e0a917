/- EDUs: their bytes. -/
import Derived.Test.YtbgjfpaigndbmaaE2
set_option linter.unusedVariables false
set_option linter.unusedSimpArgs false
set_option linter.unusedSectionVars false
namespace Go.Proofs.Ytbgjfpaigndbmaa
open Go Csl


set_option maxRecDepth 100000 in
theorem laid_ctr {G : Gp} {e : Edu} (hs : eduSmall e) (ho : okEdu e) :
    Ctr Try.prog G 60 [.agg (cEdu e).toArray] [] (Fresh 5 (eduBytes e)) := by
  refine Ctr.intro Try.func60 rfl (by kernel_rfl) rfl (fun F => ?_)
  simp only [List.nil_append]
  obtain ⟨ok1, _, _, _, _, ok6, ok7, ok8, ok9⟩ := ho
  replace ok1 := wf_i64 ok1; replace ok6 := wf_i64 ok6; replace ok7 := wf_i64 ok7; replace ok8 := wf_i64 ok8; replace ok9 := wf_i64 ok9
  obtain ⟨hs1, hs2, hs3, hs4⟩ := hs
  have hn9 := numN_le e.kind.toNat (by omega)
  refine Run.sr ?_
  refine RunL.boxA (xs := (cEdu e)) rfl (Wt.none rfl) rfl ?_; intro b1
  refine RunL.as rfl rfl ?_
  refine RunL.nil ?_
  refine Run.lendAll (Q := row b1 50 _) Lends.row (by first | ((repeat (first | (with_reducible exact F0 _) | apply F1)); done) | (repeat (first | exact F0 _ | apply F1))) (fun G1 hleG1 hrb1 => ?_)
  refine Run.sr ?_
  refine RunL.pure (Pure.fieldAddr rfl fo50_0) (Wt.none rfl) rfl rfl ?_
  first | refine RunL.load1 rfl (by first | ((repeat (first | (with_reducible exact F0 _) | apply F1)); done) | (repeat (first | exact F0 _ | apply F1))) (by rfl) agg3 (Wt.none rfl) rfl ?_ | refine RunL.load1R rfl (by assumption) (by rfl) agg3 (Wt.none rfl) rfl ?_
  refine RunL.call rfl rfl (by rfl) (by repeat (first | (with_reducible exact Take.nil _) | (apply Take.cons (by first | ((repeat (first | (with_reducible exact F0 _) | apply F1)); done) | (repeat (first | exact F0 _ | apply F1)))))) (Number_ctr (bs := []) (.inl ⟨rfl, rfl⟩) (Nat.le_refl _) (by decide) (z := e.kind) (by omega)) (Wt.none rfl) rfl ?_
  rintro _ _ ⟨a2, c2, rfl, hA_⟩
  replace hA_ := hA_.symm; subst hA_
  rw [List.nil_append]
  refine RunL.as rfl rfl ?_
  refine RunL.nil ?_
  refine Run.seq ?_
  refine Run.sr ?_
  refine RunL.pure (Pure.fieldAddr rfl fo50_1) (Wt.none rfl) rfl rfl ?_
  first | refine RunL.load1 rfl (by first | ((repeat (first | (with_reducible exact F0 _) | apply F1)); done) | (repeat (first | exact F0 _ | apply F1))) (by rfl) agg9 (Wt.none rfl) rfl ?_ | refine RunL.load1R rfl (by assumption) (by rfl) agg9 (Wt.none rfl) rfl ?_
  refine RunL.pure (Pure.fieldAddr rfl fo50_2) (Wt.none rfl) rfl rfl ?_
  first | refine RunL.load1 rfl (by first | ((repeat (first | (with_reducible exact F0 _) | apply F1)); done) | (repeat (first | exact F0 _ | apply F1))) (by rfl) agg9 (Wt.none rfl) rfl ?_ | refine RunL.load1R rfl (by assumption) (by rfl) agg9 (Wt.none rfl) rfl ?_
  refine RunL.pure (Pure.fieldAddr rfl fo50_3) (Wt.none rfl) rfl rfl ?_
  first | refine RunL.load1 rfl (by first | ((repeat (first | (with_reducible exact F0 _) | apply F1)); done) | (repeat (first | exact F0 _ | apply F1))) (by rfl) agg9 (Wt.none rfl) rfl ?_ | refine RunL.load1R rfl (by assumption) (by rfl) agg9 (Wt.none rfl) rfl ?_
  refine RunL.pure (Pure.fieldAddr rfl fo50_4) (Wt.none rfl) rfl rfl ?_
  first | refine RunL.load1 rfl (by first | ((repeat (first | (with_reducible exact F0 _) | apply F1)); done) | (repeat (first | exact F0 _ | apply F1))) (by rfl) agg9 (Wt.none rfl) rfl ?_ | refine RunL.load1R rfl (by assumption) (by rfl) agg9 (Wt.none rfl) rfl ?_
  refine RunL.lit (vals := [_, _, _, _]) (vs := (eduTexts e).map Value.string) und80 sz9 zz9 rfl rfl rfl rfl rfl rfl (by simp [Value.cells, bv, cEdu, cPrc]) rfl (Wt.none rfl) rfl ?_; intro b19
  refine RunL.pure (Pure.lenSl rfl rfl und80) (Wt.none rfl) rfl rfl ?_
  refine RunL.mv rfl rfl ?_
  refine RunL.nil ?_
  refine Run.lendAll (Q := Sl 9 1 (some ⟨b19, 0, none⟩) 4 4 ((eduTexts e).map Value.string)) (Lends.litRow (n := 4)) (by first | ((repeat (first | (with_reducible exact F0 _) | apply F1)); done) | (repeat (first | exact F0 _ | apply F1))) (fun Ghlt0 hleGhlt0 hlt0 => ?_)
  replace hrb1 := hrb1.mono hleGhlt0
  obtain ⟨postt, hlt⟩ := hlt0
  refine Run.block ?_
  refine Run.keep (.cons rfl (.cons rfl (.cons rfl (.cons rfl (.cons rfl (.nil))))) : Keep _ [1, 3, 19, 20, 21] _) ?_
  refine Run.loopF (F := F) (fun n e_ A => ∃ (i : Nat) (acc : List UInt8) (a : Option Addr) (c : Nat), i ≤ 4 ∧ acc = numN e.kind.toNat ++ ((eduTexts e).take i).flatMap txt ∧ acc.length ≤ 9 + 1009 * i ∧ n = 4 - i ∧ e_ = [(1, .pointer (some ⟨b1, 0, none⟩)), (3, .slice a acc.length c), (19, .slice (some ⟨b19, 0, none⟩) 4 4), (20, .int .i64 4), (21, .int .i64 (i : Nat))] ∧ A = Sl 5 1 a (acc).length c ((acc).map bv) :: F) (4) (by exact ⟨0, _, _, _, by omega, by simp, by omega, rfl, rfl, rfl⟩) (by repeat (first | (with_reducible exact Fin.done (by repeat (first | (with_reducible exact Rest.here) | apply Rest.there))) | (apply Fin.cons (by first | ((repeat (first | (with_reducible exact F0 _) | apply F1)); done) | (repeat (first | exact F0 _ | apply F1)))))) ?_
  rintro n _ _ ⟨i, acc, a, c, hi, hacc, hal, rfl, rfl, hA_⟩ ih
  replace hA_ := hA_.symm; subst hA_
  refine Run.sr ?_
  refine RunL.pure (Pure.lss rfl rfl) (Wt.none rfl) rfl rfl ?_
  refine RunL.nil ?_
  refine Run.seq ?_
  refine Run.cond rfl (fun h1 => ?_) (fun h1 => ?_)
  · try simp only [ZA, ZB, ZC, ZD, ZE, ZF, ZG, ZH, ZI, ZJ, ZK, ZL, ZM, ZN, ZO, ZP, ZQ, ZR] at h1
    obtain ⟨s, hsx⟩ := get_some (xs := eduTexts e) (i := i) (by show i < 4; omega)
    have hsz : s.size ≤ 1000 := by have := List.mem_of_getElem? hsx; simp only [eduTexts, List.mem_cons, List.not_mem_nil, or_false] at this; rcases this with rfl | rfl | rfl | rfl <;> assumption
    have htl := txt_len hsz
    refine Run.skip ?_
    refine Run.seq ?_
    refine Run.block ?_
    refine Run.sr ?_
    refine RunL.pure (Pure.indexAddr rfl rfl und80 sz9 (by omega) (by omega)) (Wt.none rfl) rfl rfl ?_
    refine RunL.load1R rfl hlt (elem1_at hsx) agg9 (Wt.none rfl) rfl ?_
    refine RunL.as rfl rfl ?_
    refine RunL.nil ?_
    refine Run.region ?_
    refine RunL.mv rfl rfl ?_
    refine RunL.mv rfl rfl ?_
    refine RunL.call rfl rfl (by rfl) (by repeat (first | (with_reducible exact Take.nil _) | (apply Take.cons (by first | ((repeat (first | (with_reducible exact F0 _) | apply F1)); done) | (repeat (first | exact F0 _ | apply F1)))))) (Ctr.lend (R := fun G => SlR G 5 1 _ _ _ ∧ _ ≤ _) Lends.Sl cb30 (fun G' hle hr => Text_ctr (bs := acc) hr.1 hr.2 (s := s) (by omega) (by omega))) (Wt.none rfl) rfl ?_
    rintro _ _ ⟨_, rfl, a3, c3, rfl, hA_⟩
    replace hA_ := hA_.symm; subst hA_
    rw [show acc ++ numN s.size ++ bl s = acc ++ txt s from by unfold txt; rw [List.append_assoc]]
    refine RunL.as rfl rfl ?_
    refine RunL.nil ?_
    refine Run.inBlock ?_
    refine Run.region ?_
    first | refine RunL.pure (Pure.addI rfl rfl (by omega)) (Wt.none rfl) rfl rfl ?_ | refine RunL.pure (Pure.add rfl rfl) (Wt.none rfl) rfl rfl ?_
    refine RunL.mv rfl rfl ?_
    refine RunL.nil ?_
    refine Run.keep (.cons rfl (.cons rfl (.cons rfl (.cons rfl (.cons rfl (.nil))))) : Keep _ [1, 3, 19, 20, 21] _) ?_
    refine Run.againF (F := F) ih (by exact ⟨i + 1, acc ++ txt s, _, _, by omega, by rw [hacc, List.take_add_one, hsx, List.append_assoc]; simp, by rw [List.length_append]; omega, rfl, rfl, rfl⟩) (by repeat (first | (with_reducible exact Fin.done (by repeat (first | (with_reducible exact Rest.here) | apply Rest.there))) | (apply Fin.cons (by first | ((repeat (first | (with_reducible exact F0 _) | apply F1)); done) | (repeat (first | exact F0 _ | apply F1)))))) ?_
    omega
  · try simp only [ZA, ZB, ZC, ZD, ZE, ZF, ZG, ZH, ZI, ZJ, ZK, ZL, ZM, ZN, ZO, ZP, ZQ, ZR] at h1
    have hfull : acc = numN e.kind.toNat ++ (eduTexts e).flatMap txt := by rw [hacc, List.take_of_length_le (by show 4 ≤ i; omega)]
    refine Run.exit rfl ?_
    refine Run.sr ?_
    refine RunL.mv rfl rfl ?_
    refine RunL.pure (Pure.fieldAddr rfl fo50_6) (Wt.none rfl) rfl rfl ?_
    first | refine RunL.load1 rfl (by first | ((repeat (first | (with_reducible exact F0 _) | apply F1)); done) | (repeat (first | exact F0 _ | apply F1))) (by rfl) agg4 (Wt.none rfl) rfl ?_ | refine RunL.load1R rfl (by assumption) (by rfl) agg4 (Wt.none rfl) rfl ?_
    refine RunL.call rfl rfl (by rfl) (by repeat (first | (with_reducible exact Take.nil _) | (apply Take.cons (by first | ((repeat (first | (with_reducible exact F0 _) | apply F1)); done) | (repeat (first | exact F0 _ | apply F1)))))) (Ctr.lend (R := fun G => SlR G 5 1 _ _ _ ∧ _ ≤ _) Lends.Sl cb29 (fun G' hle hr => Flag_ctr (bs := acc) hr.1 hr.2 (by omega) (is := e.typing))) (Wt.none rfl) rfl ?_
    rintro _ _ ⟨_, rfl, a4, c4, rfl, hA_⟩
    replace hA_ := hA_.symm; subst hA_
    refine RunL.as rfl rfl ?_
    refine RunL.nil ?_
    refine Run.seq ?_
    refine Run.sr ?_
    refine RunL.pure (Pure.fieldAddr rfl fo50_7) (Wt.none rfl) rfl rfl ?_
    first | refine RunL.load1 rfl (by first | ((repeat (first | (with_reducible exact F0 _) | apply F1)); done) | (repeat (first | exact F0 _ | apply F1))) (by rfl) agg3 (Wt.none rfl) rfl ?_ | refine RunL.load1R rfl (by assumption) (by rfl) agg3 (Wt.none rfl) rfl ?_
    refine RunL.pure (Pure.fieldAddr rfl fo50_8) (Wt.none rfl) rfl rfl ?_
    first | refine RunL.load1 rfl (by first | ((repeat (first | (with_reducible exact F0 _) | apply F1)); done) | (repeat (first | exact F0 _ | apply F1))) (by rfl) agg3 (Wt.none rfl) rfl ?_ | refine RunL.load1R rfl (by assumption) (by rfl) agg3 (Wt.none rfl) rfl ?_
    refine RunL.pure (Pure.fieldAddr rfl fo50_9) (Wt.none rfl) rfl rfl ?_
    first | refine RunL.load1 rfl (by first | ((repeat (first | (with_reducible exact F0 _) | apply F1)); done) | (repeat (first | exact F0 _ | apply F1))) (by rfl) agg3 (Wt.none rfl) rfl ?_ | refine RunL.load1R rfl (by assumption) (by rfl) agg3 (Wt.none rfl) rfl ?_
    refine RunL.pure (Pure.fieldAddr rfl fo50_10) (Wt.none rfl) rfl rfl ?_
    first | refine RunL.load1 rfl (by first | ((repeat (first | (with_reducible exact F0 _) | apply F1)); done) | (repeat (first | exact F0 _ | apply F1))) (by rfl) agg3 (Wt.none rfl) rfl ?_ | refine RunL.load1R rfl (by assumption) (by rfl) agg3 (Wt.none rfl) rfl ?_
    refine RunL.lit (vals := [_, _, _, _]) (vs := (eduNums e).map (Value.int .i64)) und92 sz3 zz3 rfl rfl rfl rfl rfl rfl (by simp [Value.cells, bv, cEdu, cPrc]) rfl (Wt.none rfl) rfl ?_; intro b41
    refine RunL.pure (Pure.lenSl rfl rfl und92) (Wt.none rfl) rfl rfl ?_
    refine RunL.mv rfl rfl ?_
    refine RunL.nil ?_
    refine Run.lendAll (Q := Sl 3 1 (some ⟨b41, 0, none⟩) 4 4 ((eduNums e).map (Value.int .i64))) (Lends.litRow (n := 4)) (by first | ((repeat (first | (with_reducible exact F0 _) | apply F1)); done) | (repeat (first | exact F0 _ | apply F1))) (fun Ghln0 hleGhln0 hln0 => ?_)
    replace hrb1 := hrb1.mono hleGhln0
    replace hlt := hlt.mono hleGhln0
    obtain ⟨postn, hln⟩ := hln0
    refine Run.block ?_
    refine Run.keep (.cons rfl (.cons rfl (.cons rfl (.cons rfl (.nil)))) : Keep _ [3, 41, 42, 43] _) ?_
    refine Run.loopF (F := F) (fun n e_ A => ∃ (i : Nat) (acc : List UInt8) (a : Option Addr) (c : Nat), i ≤ 4 ∧ acc = numN e.kind.toNat ++ (eduTexts e).flatMap txt ++ flg e.typing ++ ((eduNums e).take i).flatMap (fun z => numN z.toNat) ∧ acc.length ≤ 5000 + 9 * i ∧ n = 4 - i ∧ e_ = [(3, .slice a acc.length c), (41, .slice (some ⟨b41, 0, none⟩) 4 4), (42, .int .i64 4), (43, .int .i64 (i : Nat))] ∧ A = Sl 5 1 a (acc).length c ((acc).map bv) :: F) (4) (by exact ⟨0, _, _, _, by omega, by rw [hfull]; simp; rfl, by rw [List.length_append]; simp; omega, rfl, rfl, rfl⟩) (by repeat (first | (with_reducible exact Fin.done (by repeat (first | (with_reducible exact Rest.here) | apply Rest.there))) | (apply Fin.cons (by first | ((repeat (first | (with_reducible exact F0 _) | apply F1)); done) | (repeat (first | exact F0 _ | apply F1)))))) ?_
    rintro n _ _ ⟨i, acc, a, c, hi, hacc, hal, rfl, rfl, hA_⟩ ih
    replace hA_ := hA_.symm; subst hA_
    refine Run.sr ?_
    refine RunL.pure (Pure.lss rfl rfl) (Wt.none rfl) rfl rfl ?_
    refine RunL.nil ?_
    refine Run.seq ?_
    refine Run.cond rfl (fun h1 => ?_) (fun h1 => ?_)
    · try simp only [ZA, ZB, ZC, ZD, ZE, ZF, ZG, ZH, ZI, ZJ, ZK, ZL, ZM, ZN, ZO, ZP, ZQ, ZR] at h1
      obtain ⟨z, hz⟩ := get_some (xs := eduNums e) (i := i) (by show i < 4; omega)
      have hzw : -9223372036854775808 ≤ z ∧ z ≤ 9223372036854775807 := by have := List.mem_of_getElem? hz; simp only [eduNums, List.mem_cons, List.not_mem_nil, or_false] at this; rcases this with rfl | rfl | rfl | rfl <;> assumption
      have hzn := numN_le z.toNat (by omega)
      refine Run.skip ?_
      refine Run.seq ?_
      refine Run.block ?_
      refine Run.sr ?_
      refine RunL.pure (Pure.indexAddr rfl rfl und92 sz3 (by omega) (by omega)) (Wt.none rfl) rfl rfl ?_
      refine RunL.load1R rfl hln (elem1_at hz) agg3 (Wt.none rfl) rfl ?_
      refine RunL.as rfl rfl ?_
      refine RunL.nil ?_
      refine Run.region ?_
      refine RunL.mv rfl rfl ?_
      refine RunL.mv rfl rfl ?_
      refine RunL.call rfl rfl (by rfl) (by repeat (first | (with_reducible exact Take.nil _) | (apply Take.cons (by first | ((repeat (first | (with_reducible exact F0 _) | apply F1)); done) | (repeat (first | exact F0 _ | apply F1)))))) (Ctr.lend (R := fun G => SlR G 5 1 _ _ _ ∧ _ ≤ _) Lends.Sl cb31 (fun G' hle hr => Number_ctr (bs := acc) hr.1 hr.2 (by omega) (z := z) hzw)) (Wt.none rfl) rfl ?_
      rintro _ _ ⟨_, rfl, a3, c3, rfl, hA_⟩
      replace hA_ := hA_.symm; subst hA_
      refine RunL.as rfl rfl ?_
      refine RunL.nil ?_
      refine Run.inBlock ?_
      refine Run.region ?_
      first | refine RunL.pure (Pure.addI rfl rfl (by omega)) (Wt.none rfl) rfl rfl ?_ | refine RunL.pure (Pure.add rfl rfl) (Wt.none rfl) rfl rfl ?_
      refine RunL.mv rfl rfl ?_
      refine RunL.nil ?_
      refine Run.keep (.cons rfl (.cons rfl (.cons rfl (.cons rfl (.nil)))) : Keep _ [3, 41, 42, 43] _) ?_
      refine Run.againF (F := F) ih (by exact ⟨i + 1, acc ++ numN z.toNat, _, _, by omega, by rw [hacc, List.take_add_one, hz, List.append_assoc]; simp, by rw [List.length_append]; omega, rfl, rfl, rfl⟩) (by repeat (first | (with_reducible exact Fin.done (by repeat (first | (with_reducible exact Rest.here) | apply Rest.there))) | (apply Fin.cons (by first | ((repeat (first | (with_reducible exact F0 _) | apply F1)); done) | (repeat (first | exact F0 _ | apply F1)))))) ?_
      omega
    · try simp only [ZA, ZB, ZC, ZD, ZE, ZF, ZG, ZH, ZI, ZJ, ZK, ZL, ZM, ZN, ZO, ZP, ZQ, ZR] at h1
      refine Run.exit rfl ?_
      refine Run.sr ?_
      refine RunL.mv rfl rfl ?_
      refine RunL.as rfl rfl ?_
      refine RunL.nil ?_
      have hb : eduBytes e = acc := by rw [hacc, List.take_of_length_le (by show 4 ≤ i; omega)]; rfl
      exact Run.ret Try.func60 (res1 rfl rfl) (by exact ⟨_, _, by rw [hb], by rw [hb]⟩) (by repeat (first | (with_reducible exact Fin.done (by repeat (first | (with_reducible exact Rest.here) | apply Rest.there))) | (apply Fin.cons (by first | ((repeat (first | (with_reducible exact F0 _) | apply F1)); done) | (repeat (first | exact F0 _ | apply F1))))))

set_option maxRecDepth 100000 in
theorem rBytes_ctr {G : Gp} {e : Edu} (hs : eduSmall e) (ho : okEdu e) :
    Ctr Try.prog G 40 [.agg (cEdu e).toArray] [] (Fresh 5 (eduBytes e)) := by
  refine Ctr.intro Try.func40 rfl (by kernel_rfl) rfl (fun F => ?_)
  simp only [List.nil_append]
  obtain ⟨ok1, _, _, _, _, ok6, ok7, ok8, ok9⟩ := ho
  replace ok1 := wf_i64 ok1; replace ok6 := wf_i64 ok6; replace ok7 := wf_i64 ok7; replace ok8 := wf_i64 ok8; replace ok9 := wf_i64 ok9
  obtain ⟨hs1, hs2, hs3, hs4⟩ := hs
  have hn9 := numN_le e.kind.toNat (by omega)
  refine Run.sr ?_
  refine RunL.boxA (xs := (cEdu e)) rfl (Wt.none rfl) rfl ?_; intro b1
  refine RunL.as rfl rfl ?_
  refine RunL.nil ?_
  refine Run.lendAll (Q := row b1 50 _) Lends.row (by first | ((repeat (first | (with_reducible exact F0 _) | apply F1)); done) | (repeat (first | exact F0 _ | apply F1))) (fun G1 hleG1 hrb1 => ?_)
  refine Run.sr ?_
  refine RunL.pure (Pure.fieldAddr rfl fo50_0) (Wt.none rfl) rfl rfl ?_
  first | refine RunL.load1 rfl (by first | ((repeat (first | (with_reducible exact F0 _) | apply F1)); done) | (repeat (first | exact F0 _ | apply F1))) (by rfl) agg3 (Wt.none rfl) rfl ?_ | refine RunL.load1R rfl (by assumption) (by rfl) agg3 (Wt.none rfl) rfl ?_
  refine RunL.call rfl rfl (by rfl) (by repeat (first | (with_reducible exact Take.nil _) | (apply Take.cons (by first | ((repeat (first | (with_reducible exact F0 _) | apply F1)); done) | (repeat (first | exact F0 _ | apply F1)))))) (RNumber_ctr (z := e.kind) (by omega)) (Wt.none rfl) rfl ?_
  rintro _ _ ⟨a2, c2, rfl, hA_⟩
  replace hA_ := hA_.symm; subst hA_
  obtain ⟨acc0, hacc0, hal0⟩ : ∃ l, l = numN e.kind.toNat ∧ l.length ≤ 9 := ⟨_, rfl, by omega⟩
  rw [← hacc0]
  refine RunL.as rfl rfl ?_
  refine RunL.nil ?_
  refine Run.sr ?_
  refine RunL.mv rfl rfl ?_
  refine RunL.pure (Pure.fieldAddr rfl fo50_1) (Wt.none rfl) rfl rfl ?_
  first | refine RunL.load1 rfl (by first | ((repeat (first | (with_reducible exact F0 _) | apply F1)); done) | (repeat (first | exact F0 _ | apply F1))) (by rfl) agg9 (Wt.none rfl) rfl ?_ | refine RunL.load1R rfl (by assumption) (by rfl) agg9 (Wt.none rfl) rfl ?_
  refine RunL.call rfl rfl (by rfl) (by repeat (first | (with_reducible exact Take.nil _) | (apply Take.cons (by first | ((repeat (first | (with_reducible exact F0 _) | apply F1)); done) | (repeat (first | exact F0 _ | apply F1)))))) (RText_ctr (s := e.room) (by omega)) (Wt.none rfl) rfl ?_
  rintro _ _ ⟨an1, cn1, rfl, hA_⟩
  replace hA_ := hA_.symm; subst hA_
  rw [show numN e.room.size ++ bl e.room = txt e.room from rfl]
  have htl1 := txt_len (s := e.room) (by omega)
  refine RunL.append (n' := (acc0 ++ txt e.room).length) (cs' := ((acc0 ++ txt e.room).map bv)) rfl rfl (by first | ((repeat (first | (with_reducible exact F0 _) | apply F1)); done) | (repeat (first | exact F0 _ | apply F1))) rfl rfl und29 und29 rfl sz5 zz5 rfl by5 (by omega) (by omega) (fun w sw => (sw.find (p := Sl 5 1 an1 _ cn1 _) (by first | ((repeat (first | (with_reducible exact F0 _) | apply F1)); done) | (repeat (first | exact F0 _ | apply F1)))).src) (isOne_bv _) (by rw [List.length_append]) (by rw [List.map_append]) (Wt.none rfl) rfl ?_; intro ao1 co1
  obtain ⟨acc1, hacc1, hal1⟩ : ∃ l, l = acc0 ++ txt e.room ∧ l.length ≤ 1018 := ⟨_, rfl, by rw [List.length_append]; omega⟩
  rw [← hacc1]
  refine RunL.as rfl rfl ?_
  refine RunL.nil ?_
  refine Run.sr ?_
  refine RunL.mv rfl rfl ?_
  refine RunL.pure (Pure.fieldAddr rfl fo50_2) (Wt.none rfl) rfl rfl ?_
  first | refine RunL.load1 rfl (by first | ((repeat (first | (with_reducible exact F0 _) | apply F1)); done) | (repeat (first | exact F0 _ | apply F1))) (by rfl) agg9 (Wt.none rfl) rfl ?_ | refine RunL.load1R rfl (by assumption) (by rfl) agg9 (Wt.none rfl) rfl ?_
  refine RunL.call rfl rfl (by rfl) (by repeat (first | (with_reducible exact Take.nil _) | (apply Take.cons (by first | ((repeat (first | (with_reducible exact F0 _) | apply F1)); done) | (repeat (first | exact F0 _ | apply F1)))))) (RText_ctr (s := e.user) (by omega)) (Wt.none rfl) rfl ?_
  rintro _ _ ⟨an2, cn2, rfl, hA_⟩
  replace hA_ := hA_.symm; subst hA_
  rw [show numN e.user.size ++ bl e.user = txt e.user from rfl]
  have htl2 := txt_len (s := e.user) (by omega)
  refine RunL.append (n' := (acc1 ++ txt e.user).length) (cs' := ((acc1 ++ txt e.user).map bv)) rfl rfl (by first | ((repeat (first | (with_reducible exact F0 _) | apply F1)); done) | (repeat (first | exact F0 _ | apply F1))) rfl rfl und29 und29 rfl sz5 zz5 rfl by5 (by omega) (by omega) (fun w sw => (sw.find (p := Sl 5 1 an2 _ cn2 _) (by first | ((repeat (first | (with_reducible exact F0 _) | apply F1)); done) | (repeat (first | exact F0 _ | apply F1)))).src) (isOne_bv _) (by rw [List.length_append]) (by rw [List.map_append]) (Wt.none rfl) rfl ?_; intro ao2 co2
  obtain ⟨acc2, hacc2, hal2⟩ : ∃ l, l = acc1 ++ txt e.user ∧ l.length ≤ 2027 := ⟨_, rfl, by rw [List.length_append]; omega⟩
  rw [← hacc2]
  refine RunL.as rfl rfl ?_
  refine RunL.nil ?_
  refine Run.sr ?_
  refine RunL.mv rfl rfl ?_
  refine RunL.pure (Pure.fieldAddr rfl fo50_3) (Wt.none rfl) rfl rfl ?_
  first | refine RunL.load1 rfl (by first | ((repeat (first | (with_reducible exact F0 _) | apply F1)); done) | (repeat (first | exact F0 _ | apply F1))) (by rfl) agg9 (Wt.none rfl) rfl ?_ | refine RunL.load1R rfl (by assumption) (by rfl) agg9 (Wt.none rfl) rfl ?_
  refine RunL.call rfl rfl (by rfl) (by repeat (first | (with_reducible exact Take.nil _) | (apply Take.cons (by first | ((repeat (first | (with_reducible exact F0 _) | apply F1)); done) | (repeat (first | exact F0 _ | apply F1)))))) (RText_ctr (s := e.event) (by omega)) (Wt.none rfl) rfl ?_
  rintro _ _ ⟨an3, cn3, rfl, hA_⟩
  replace hA_ := hA_.symm; subst hA_
  rw [show numN e.event.size ++ bl e.event = txt e.event from rfl]
  have htl3 := txt_len (s := e.event) (by omega)
  refine RunL.append (n' := (acc2 ++ txt e.event).length) (cs' := ((acc2 ++ txt e.event).map bv)) rfl rfl (by first | ((repeat (first | (with_reducible exact F0 _) | apply F1)); done) | (repeat (first | exact F0 _ | apply F1))) rfl rfl und29 und29 rfl sz5 zz5 rfl by5 (by omega) (by omega) (fun w sw => (sw.find (p := Sl 5 1 an3 _ cn3 _) (by first | ((repeat (first | (with_reducible exact F0 _) | apply F1)); done) | (repeat (first | exact F0 _ | apply F1)))).src) (isOne_bv _) (by rw [List.length_append]) (by rw [List.map_append]) (Wt.none rfl) rfl ?_; intro ao3 co3
  obtain ⟨acc3, hacc3, hal3⟩ : ∃ l, l = acc2 ++ txt e.event ∧ l.length ≤ 3036 := ⟨_, rfl, by rw [List.length_append]; omega⟩
  rw [← hacc3]
  refine RunL.as rfl rfl ?_
  refine RunL.nil ?_
  refine Run.sr ?_
  refine RunL.mv rfl rfl ?_
  refine RunL.pure (Pure.fieldAddr rfl fo50_4) (Wt.none rfl) rfl rfl ?_
  first | refine RunL.load1 rfl (by first | ((repeat (first | (with_reducible exact F0 _) | apply F1)); done) | (repeat (first | exact F0 _ | apply F1))) (by rfl) agg9 (Wt.none rfl) rfl ?_ | refine RunL.load1R rfl (by assumption) (by rfl) agg9 (Wt.none rfl) rfl ?_
  refine RunL.call rfl rfl (by rfl) (by repeat (first | (with_reducible exact Take.nil _) | (apply Take.cons (by first | ((repeat (first | (with_reducible exact F0 _) | apply F1)); done) | (repeat (first | exact F0 _ | apply F1)))))) (RText_ctr (s := e.thread) (by omega)) (Wt.none rfl) rfl ?_
  rintro _ _ ⟨an4, cn4, rfl, hA_⟩
  replace hA_ := hA_.symm; subst hA_
  rw [show numN e.thread.size ++ bl e.thread = txt e.thread from rfl]
  have htl4 := txt_len (s := e.thread) (by omega)
  refine RunL.append (n' := (acc3 ++ txt e.thread).length) (cs' := ((acc3 ++ txt e.thread).map bv)) rfl rfl (by first | ((repeat (first | (with_reducible exact F0 _) | apply F1)); done) | (repeat (first | exact F0 _ | apply F1))) rfl rfl und29 und29 rfl sz5 zz5 rfl by5 (by omega) (by omega) (fun w sw => (sw.find (p := Sl 5 1 an4 _ cn4 _) (by first | ((repeat (first | (with_reducible exact F0 _) | apply F1)); done) | (repeat (first | exact F0 _ | apply F1)))).src) (isOne_bv _) (by rw [List.length_append]) (by rw [List.map_append]) (Wt.none rfl) rfl ?_; intro ao4 co4
  obtain ⟨acc4, hacc4, hal4⟩ : ∃ l, l = acc3 ++ txt e.thread ∧ l.length ≤ 4045 := ⟨_, rfl, by rw [List.length_append]; omega⟩
  rw [← hacc4]
  refine RunL.as rfl rfl ?_
  refine RunL.nil ?_
  refine Run.sr ?_
  refine RunL.mv rfl rfl ?_
  refine RunL.pure (Pure.fieldAddr rfl fo50_6) (Wt.none rfl) rfl rfl ?_
  first | refine RunL.load1 rfl (by first | ((repeat (first | (with_reducible exact F0 _) | apply F1)); done) | (repeat (first | exact F0 _ | apply F1))) (by rfl) agg4 (Wt.none rfl) rfl ?_ | refine RunL.load1R rfl (by assumption) (by rfl) agg4 (Wt.none rfl) rfl ?_
  refine RunL.call rfl rfl (by rfl) (by repeat (first | (with_reducible exact Take.nil _) | (apply Take.cons (by first | ((repeat (first | (with_reducible exact F0 _) | apply F1)); done) | (repeat (first | exact F0 _ | apply F1)))))) (RFlag_ctr (is := e.typing)) (Wt.none rfl) rfl ?_
  rintro _ _ ⟨an5, cn5, rfl, hA_⟩
  replace hA_ := hA_.symm; subst hA_
  rw [show [if e.typing = true then (1 : UInt8) else 0] = flg e.typing from rfl]
  have htl5 : (flg e.typing).length = 1 := rfl
  refine RunL.append (n' := (acc4 ++ flg e.typing).length) (cs' := ((acc4 ++ flg e.typing).map bv)) rfl rfl (by first | ((repeat (first | (with_reducible exact F0 _) | apply F1)); done) | (repeat (first | exact F0 _ | apply F1))) rfl rfl und29 und29 rfl sz5 zz5 rfl by5 (by omega) (by omega) (fun w sw => (sw.find (p := Sl 5 1 an5 _ cn5 _) (by first | ((repeat (first | (with_reducible exact F0 _) | apply F1)); done) | (repeat (first | exact F0 _ | apply F1)))).src) (isOne_bv _) (by rw [List.length_append]) (by rw [List.map_append]) (Wt.none rfl) rfl ?_; intro ao5 co5
  obtain ⟨acc5, hacc5, hal5⟩ : ∃ l, l = acc4 ++ flg e.typing ∧ l.length ≤ 5000 := ⟨_, rfl, by rw [List.length_append]; omega⟩
  rw [← hacc5]
  refine RunL.as rfl rfl ?_
  refine RunL.nil ?_
  refine Run.sr ?_
  refine RunL.mv rfl rfl ?_
  refine RunL.pure (Pure.fieldAddr rfl fo50_7) (Wt.none rfl) rfl rfl ?_
  first | refine RunL.load1 rfl (by first | ((repeat (first | (with_reducible exact F0 _) | apply F1)); done) | (repeat (first | exact F0 _ | apply F1))) (by rfl) agg3 (Wt.none rfl) rfl ?_ | refine RunL.load1R rfl (by assumption) (by rfl) agg3 (Wt.none rfl) rfl ?_
  refine RunL.call rfl rfl (by rfl) (by repeat (first | (with_reducible exact Take.nil _) | (apply Take.cons (by first | ((repeat (first | (with_reducible exact F0 _) | apply F1)); done) | (repeat (first | exact F0 _ | apply F1)))))) (RNumber_ctr (z := e.span) (by omega)) (Wt.none rfl) rfl ?_
  rintro _ _ ⟨an6, cn6, rfl, hA_⟩
  replace hA_ := hA_.symm; subst hA_
  have htl6 := numN_le e.span.toNat (by omega)
  refine RunL.append (n' := (acc5 ++ numN e.span.toNat).length) (cs' := ((acc5 ++ numN e.span.toNat).map bv)) rfl rfl (by first | ((repeat (first | (with_reducible exact F0 _) | apply F1)); done) | (repeat (first | exact F0 _ | apply F1))) rfl rfl und29 und29 rfl sz5 zz5 rfl by5 (by omega) (by omega) (fun w sw => (sw.find (p := Sl 5 1 an6 _ cn6 _) (by first | ((repeat (first | (with_reducible exact F0 _) | apply F1)); done) | (repeat (first | exact F0 _ | apply F1)))).src) (isOne_bv _) (by rw [List.length_append]) (by rw [List.map_append]) (Wt.none rfl) rfl ?_; intro ao6 co6
  obtain ⟨acc6, hacc6, hal6⟩ : ∃ l, l = acc5 ++ numN e.span.toNat ∧ l.length ≤ 5054 := ⟨_, rfl, by rw [List.length_append]; omega⟩
  rw [← hacc6]
  refine RunL.as rfl rfl ?_
  refine RunL.nil ?_
  refine Run.sr ?_
  refine RunL.mv rfl rfl ?_
  refine RunL.pure (Pure.fieldAddr rfl fo50_8) (Wt.none rfl) rfl rfl ?_
  first | refine RunL.load1 rfl (by first | ((repeat (first | (with_reducible exact F0 _) | apply F1)); done) | (repeat (first | exact F0 _ | apply F1))) (by rfl) agg3 (Wt.none rfl) rfl ?_ | refine RunL.load1R rfl (by assumption) (by rfl) agg3 (Wt.none rfl) rfl ?_
  refine RunL.call rfl rfl (by rfl) (by repeat (first | (with_reducible exact Take.nil _) | (apply Take.cons (by first | ((repeat (first | (with_reducible exact F0 _) | apply F1)); done) | (repeat (first | exact F0 _ | apply F1)))))) (RNumber_ctr (z := e.state) (by omega)) (Wt.none rfl) rfl ?_
  rintro _ _ ⟨an7, cn7, rfl, hA_⟩
  replace hA_ := hA_.symm; subst hA_
  have htl7 := numN_le e.state.toNat (by omega)
  refine RunL.append (n' := (acc6 ++ numN e.state.toNat).length) (cs' := ((acc6 ++ numN e.state.toNat).map bv)) rfl rfl (by first | ((repeat (first | (with_reducible exact F0 _) | apply F1)); done) | (repeat (first | exact F0 _ | apply F1))) rfl rfl und29 und29 rfl sz5 zz5 rfl by5 (by omega) (by omega) (fun w sw => (sw.find (p := Sl 5 1 an7 _ cn7 _) (by first | ((repeat (first | (with_reducible exact F0 _) | apply F1)); done) | (repeat (first | exact F0 _ | apply F1)))).src) (isOne_bv _) (by rw [List.length_append]) (by rw [List.map_append]) (Wt.none rfl) rfl ?_; intro ao7 co7
  obtain ⟨acc7, hacc7, hal7⟩ : ∃ l, l = acc6 ++ numN e.state.toNat ∧ l.length ≤ 5063 := ⟨_, rfl, by rw [List.length_append]; omega⟩
  rw [← hacc7]
  refine RunL.as rfl rfl ?_
  refine RunL.nil ?_
  refine Run.sr ?_
  refine RunL.mv rfl rfl ?_
  refine RunL.pure (Pure.fieldAddr rfl fo50_9) (Wt.none rfl) rfl rfl ?_
  first | refine RunL.load1 rfl (by first | ((repeat (first | (with_reducible exact F0 _) | apply F1)); done) | (repeat (first | exact F0 _ | apply F1))) (by rfl) agg3 (Wt.none rfl) rfl ?_ | refine RunL.load1R rfl (by assumption) (by rfl) agg3 (Wt.none rfl) rfl ?_
  refine RunL.call rfl rfl (by rfl) (by repeat (first | (with_reducible exact Take.nil _) | (apply Take.cons (by first | ((repeat (first | (with_reducible exact F0 _) | apply F1)); done) | (repeat (first | exact F0 _ | apply F1)))))) (RNumber_ctr (z := e.tick) (by omega)) (Wt.none rfl) rfl ?_
  rintro _ _ ⟨an8, cn8, rfl, hA_⟩
  replace hA_ := hA_.symm; subst hA_
  have htl8 := numN_le e.tick.toNat (by omega)
  refine RunL.append (n' := (acc7 ++ numN e.tick.toNat).length) (cs' := ((acc7 ++ numN e.tick.toNat).map bv)) rfl rfl (by first | ((repeat (first | (with_reducible exact F0 _) | apply F1)); done) | (repeat (first | exact F0 _ | apply F1))) rfl rfl und29 und29 rfl sz5 zz5 rfl by5 (by omega) (by omega) (fun w sw => (sw.find (p := Sl 5 1 an8 _ cn8 _) (by first | ((repeat (first | (with_reducible exact F0 _) | apply F1)); done) | (repeat (first | exact F0 _ | apply F1)))).src) (isOne_bv _) (by rw [List.length_append]) (by rw [List.map_append]) (Wt.none rfl) rfl ?_; intro ao8 co8
  obtain ⟨acc8, hacc8, hal8⟩ : ∃ l, l = acc7 ++ numN e.tick.toNat ∧ l.length ≤ 5072 := ⟨_, rfl, by rw [List.length_append]; omega⟩
  rw [← hacc8]
  refine RunL.as rfl rfl ?_
  refine RunL.nil ?_
  refine Run.sr ?_
  refine RunL.mv rfl rfl ?_
  refine RunL.pure (Pure.fieldAddr rfl fo50_10) (Wt.none rfl) rfl rfl ?_
  first | refine RunL.load1 rfl (by first | ((repeat (first | (with_reducible exact F0 _) | apply F1)); done) | (repeat (first | exact F0 _ | apply F1))) (by rfl) agg3 (Wt.none rfl) rfl ?_ | refine RunL.load1R rfl (by assumption) (by rfl) agg3 (Wt.none rfl) rfl ?_
  refine RunL.call rfl rfl (by rfl) (by repeat (first | (with_reducible exact Take.nil _) | (apply Take.cons (by first | ((repeat (first | (with_reducible exact F0 _) | apply F1)); done) | (repeat (first | exact F0 _ | apply F1)))))) (RNumber_ctr (z := e.stamp) (by omega)) (Wt.none rfl) rfl ?_
  rintro _ _ ⟨an9, cn9, rfl, hA_⟩
  replace hA_ := hA_.symm; subst hA_
  have htl9 := numN_le e.stamp.toNat (by omega)
  refine RunL.append (n' := (acc8 ++ numN e.stamp.toNat).length) (cs' := ((acc8 ++ numN e.stamp.toNat).map bv)) rfl rfl (by first | ((repeat (first | (with_reducible exact F0 _) | apply F1)); done) | (repeat (first | exact F0 _ | apply F1))) rfl rfl und29 und29 rfl sz5 zz5 rfl by5 (by omega) (by omega) (fun w sw => (sw.find (p := Sl 5 1 an9 _ cn9 _) (by first | ((repeat (first | (with_reducible exact F0 _) | apply F1)); done) | (repeat (first | exact F0 _ | apply F1)))).src) (isOne_bv _) (by rw [List.length_append]) (by rw [List.map_append]) (Wt.none rfl) rfl ?_; intro ao9 co9
  obtain ⟨acc9, hacc9, hal9⟩ : ∃ l, l = acc8 ++ numN e.stamp.toNat ∧ l.length ≤ 5081 := ⟨_, rfl, by rw [List.length_append]; omega⟩
  rw [← hacc9]
  refine RunL.as rfl rfl ?_
  refine RunL.nil ?_
  have hb : eduBytes e = acc9 := by rw [hacc9, hacc8, hacc7, hacc6, hacc5, hacc4, hacc3, hacc2, hacc1, hacc0]; simp [eduBytes, eduTexts, eduNums]
  exact Run.ret Try.func40 (res1 rfl rfl) (by exact ⟨_, _, by rw [hb], by rw [hb]⟩) (by repeat (first | (with_reducible exact Fin.done (by repeat (first | (with_reducible exact Rest.here) | apply Rest.there))) | (apply Fin.cons (by first | ((repeat (first | (with_reducible exact F0 _) | apply F1)); done) | (repeat (first | exact F0 _ | apply F1))))))

set_option maxRecDepth 100000 in
theorem Write_ctr {G : Gp} {e : Edu} (hs : eduSmall e) (ho : okEdu e) :
    Ctr Try.prog G 32 [.agg (cEdu e).toArray] [] (fun F v A => (eduMay e = true ∧ ∃ a c, v = .tuple #[.slice a (eduBytes e).length c, .int .i64 0] ∧ A = Sl 5 1 a (eduBytes e).length c ((eduBytes e).map bv) :: F) ∨ (eduMay e = false ∧ v = .tuple #[.slice none 0 0, .int .i64 1] ∧ A = F)) := by
  refine Ctr.intro Try.func32 rfl (by kernel_rfl) rfl (fun F => ?_)
  simp only [List.nil_append]
  refine Run.sr ?_
  refine RunL.boxA (xs := (cEdu e)) rfl (Wt.none rfl) rfl ?_; intro b1
  refine RunL.as rfl rfl ?_
  refine RunL.as rfl rfl ?_
  refine RunL.nil ?_
  refine Run.lendAll (Q := row b1 50 _) Lends.row (by first | ((repeat (first | (with_reducible exact F0 _) | apply F1)); done) | (repeat (first | exact F0 _ | apply F1))) (fun G1 hleG1 hrb1 => ?_)
  refine Run.seq ?_
  refine Run.sr ?_
  first | refine RunL.loadA (vs := (cEdu e)) rfl (by first | ((repeat (first | (with_reducible exact F0 _) | apply F1)); done) | (repeat (first | exact F0 _ | apply F1))) agg50 sz50 (by first | exact Nat.le_of_ble_eq_true rfl | (simp; done) | (simp; omega)) rfl (Wt.none rfl) rfl ?_ | refine RunL.loadNR (vs := (cEdu e)) rfl (by assumption) agg50 sz50 (by first | exact Nat.le_of_ble_eq_true rfl | (simp; done) | (simp; omega)) rfl (Wt.none rfl) rfl ?_
  refine RunL.call rfl rfl (by rfl) (by repeat (first | (with_reducible exact Take.nil _) | (apply Take.cons (by first | ((repeat (first | (with_reducible exact F0 _) | apply F1)); done) | (repeat (first | exact F0 _ | apply F1)))))) (May_ctr (by assumption)) (Wt.none rfl) rfl ?_
  rintro _ _ ⟨rfl, hA_⟩
  replace hA_ := hA_.symm; subst hA_
  refine RunL.pure (Pure.not rfl) (Wt.none rfl) rfl rfl ?_
  refine RunL.nil ?_
  refine Run.cond rfl (fun h1 => ?_) (fun h1 => ?_)
  · try simp only [ZA, ZB, ZC, ZD, ZE, ZF, ZG, ZH, ZI, ZJ, ZK, ZL, ZM, ZN, ZO, ZP, ZQ, ZR] at h1
    refine Run.sr ?_
    refine RunL.as rfl rfl ?_
    refine RunL.as rfl rfl ?_
    refine RunL.nil ?_
    exact Run.ret Try.func32 (res2 rfl rfl rfl) (by exact .inr ⟨h1, rfl, rfl⟩) (by repeat (first | (with_reducible exact Fin.done (by repeat (first | (with_reducible exact Rest.here) | apply Rest.there))) | (apply Fin.cons (by first | ((repeat (first | (with_reducible exact F0 _) | apply F1)); done) | (repeat (first | exact F0 _ | apply F1))))))
  · try simp only [ZA, ZB, ZC, ZD, ZE, ZF, ZG, ZH, ZI, ZJ, ZK, ZL, ZM, ZN, ZO, ZP, ZQ, ZR] at h1
    refine Run.skip ?_
    refine Run.sr ?_
    first | refine RunL.loadA (vs := (cEdu e)) rfl (by first | ((repeat (first | (with_reducible exact F0 _) | apply F1)); done) | (repeat (first | exact F0 _ | apply F1))) agg50 sz50 (by first | exact Nat.le_of_ble_eq_true rfl | (simp; done) | (simp; omega)) rfl (Wt.none rfl) rfl ?_ | refine RunL.loadNR (vs := (cEdu e)) rfl (by assumption) agg50 sz50 (by first | exact Nat.le_of_ble_eq_true rfl | (simp; done) | (simp; omega)) rfl (Wt.none rfl) rfl ?_
    refine RunL.call rfl rfl (by rfl) (by repeat (first | (with_reducible exact Take.nil _) | (apply Take.cons (by first | ((repeat (first | (with_reducible exact F0 _) | apply F1)); done) | (repeat (first | exact F0 _ | apply F1)))))) (laid_ctr hs ho) (Wt.none rfl) rfl ?_
    rintro _ _ ⟨a2, c2, rfl, hA_⟩
    replace hA_ := hA_.symm; subst hA_
    refine RunL.as rfl rfl ?_
    refine RunL.as rfl rfl ?_
    refine RunL.nil ?_
    exact Run.ret Try.func32 (res2 rfl rfl rfl) (by exact .inl ⟨h1, _, _, rfl, rfl⟩) (by repeat (first | (with_reducible exact Fin.done (by repeat (first | (with_reducible exact Rest.here) | apply Rest.there))) | (apply Fin.cons (by first | ((repeat (first | (with_reducible exact F0 _) | apply F1)); done) | (repeat (first | exact F0 _ | apply F1))))))

theorem WriteT_ctr {G : Gp} {e : Edu} (hs : eduSmall e) (ho : okEdu e) (h : eduMay e = true) : Ctr Try.prog G 32 [.agg (cEdu e).toArray] [] (fun F v A => ∃ a c, v = .tuple #[.slice a (eduBytes e).length c, .int .i64 0] ∧ A = Sl 5 1 a (eduBytes e).length c ((eduBytes e).map bv) :: F) := (Write_ctr hs ho).mono fun F v A q => by
  rcases q with q | q
  · exact q.2
  · rw [h] at q; cases q.1
theorem WriteF_ctr {G : Gp} {e : Edu} (hs : eduSmall e) (ho : okEdu e) (h : eduMay e = false) : Ctr Try.prog G 32 [.agg (cEdu e).toArray] [] (fun F v A => v = .tuple #[.slice none 0 0, .int .i64 1] ∧ A = F) := (Write_ctr hs ho).mono fun F v A q => by
  rcases q with q | q
  · rw [h] at q; cases q.1
  · exact q.2
set_option maxRecDepth 100000 in
theorem Good3_ctr {G : Gp} {e : Edu} (ho : okEdu e) :
    Ctr Try.prog G 57 [.agg (cEdu e).toArray] [] (fun F v A => v = .agg (cEdu (goodE e)).toArray ∧ A = F) := by
  refine Ctr.intro Try.func57 rfl (by kernel_rfl) rfl (fun F => ?_)
  simp only [List.nil_append]
  obtain ⟨ok1, okr, oku, oke, okt, ok6, ok7, ok8, ok9⟩ := ho
  replace ok1 := wf_i64 ok1; replace ok6 := wf_i64 ok6; replace ok7 := wf_i64 ok7; replace ok8 := wf_i64 ok8; replace ok9 := wf_i64 ok9
  have hk3 := around_lt (z := e.kind) (m := 3) (by decide)
  have hk9 := around_lt (z := e.tick) (m := 9) (by decide)
  have hk60 := around_lt (z := e.span) (m := 60) (by decide)
  refine Run.sr ?_
  refine RunL.boxA (xs := (cEdu e)) rfl (Wt.none rfl) rfl ?_; intro b1
  refine RunL.alloc zz50 (Wt.none rfl) rfl ?_; intro b2
  refine RunL.nil ?_
  refine Run.lendAll (Q := row b1 50 _) Lends.row (by first | ((repeat (first | (with_reducible exact F0 _) | apply F1)); done) | (repeat (first | exact F0 _ | apply F1))) (fun G1 hleG1 hrb1 => ?_)
  refine Run.seq ?_
  refine Run.cut (fun e_ A => ∃ b2 b3 : Nat, e_ = [(1, .pointer (some ⟨b1, 0, none⟩)), (2, .pointer (some ⟨b2, 0, none⟩)), (3, .pointer (some ⟨b3, 0, none⟩))] ∧ A = row b3 50 (cEdu (good0 e)) :: row b2 50 [(.int .i64 0), (.string .empty), (.string .empty), (.string .empty), (.string .empty), (.bool false), (.bool false), (.int .i64 0), (.int .i64 0), (.int .i64 0), (.int .i64 0)] :: F) (fun e A hM => ?_) (fun hk => ?_)
  · obtain ⟨b2, b3, rfl, hA_⟩ := hM
    replace hA_ := hA_.symm; subst hA_
    refine Run.seq ?_
    refine Run.sr ?_
    refine RunL.pure (Pure.fieldAddr rfl fo50_0) (Wt.none rfl) rfl rfl ?_
    first | refine RunL.load1 rfl (by first | ((repeat (first | (with_reducible exact F0 _) | apply F1)); done) | (repeat (first | exact F0 _ | apply F1))) (by rfl) agg3 (Wt.none rfl) rfl ?_ | refine RunL.load1R rfl (by assumption) (by rfl) agg3 (Wt.none rfl) rfl ?_
    refine RunL.nil ?_
    refine Run.block ?_
    refine Run.sr ?_
    refine RunL.pure (Pure.eql rfl rfl) (Wt.none rfl) rfl rfl ?_
    refine RunL.as rfl rfl ?_
    refine RunL.nil ?_
    refine Run.cond rfl (fun h1 => ?_) (fun h1 => ?_)
    · try simp only [ZA, ZB, ZC, ZD, ZE, ZF, ZG, ZH, ZI, ZJ, ZK, ZL, ZM, ZN, ZO, ZP, ZQ, ZR] at h1
      refine Run.sr ?_
      refine RunL.pure (Pure.fieldAddr rfl fo50_7) (Wt.none rfl) rfl rfl ?_
      first | refine RunL.load1 rfl (by first | ((repeat (first | (with_reducible exact F0 _) | apply F1)); done) | (repeat (first | exact F0 _ | apply F1))) (by rfl) agg3 (Wt.none rfl) rfl ?_ | refine RunL.load1R rfl (by assumption) (by rfl) agg3 (Wt.none rfl) rfl ?_
      refine RunL.call rfl rfl (by rfl) (by repeat (first | (with_reducible exact Take.nil _) | (apply Take.cons (by first | ((repeat (first | (with_reducible exact F0 _) | apply F1)); done) | (repeat (first | exact F0 _ | apply F1)))))) (RoomOf_ctr (z := e.span) (by omega)) (Wt.none rfl) rfl ?_
      rintro _ _ ⟨rfl, hA_⟩
      replace hA_ := hA_.symm; subst hA_
      refine RunL.pure (Pure.fieldAddr rfl fo50_1) (Wt.none rfl) rfl rfl ?_
      refine RunL.store1A (cs' := (cEdu ({ good0 e with room := roomOf e.span }))) rfl rfl (by first | ((repeat (first | (with_reducible exact F0 _) | apply F1)); done) | (repeat (first | exact F0 _ | apply F1))) sz9 (by rfl) (by first | exact Nat.le_of_ble_eq_true rfl | (simp; done) | (simp; omega)) rfl (Wt.none rfl) ?_
      refine RunL.nil ?_
      refine Run.seq ?_
      refine Run.regionD' (by kernel_rfl) (by kernel_rfl) (fun hok31 => ?_)
      refine RunD.pure (i := 0) hok31 rfl (by kernel_rfl) (Pure.fieldAddr rfl fo50_3) (Wt.none rfl) rfl rfl ?_
      refine RunD.load1R (i := 1) hok31 rfl (by kernel_rfl) rfl (by assumption) (by rfl) agg9 (Wt.none rfl) rfl ?_
      refine RunD.pure (i := 2) hok31 rfl (by kernel_rfl) (Pure.lenStr rfl rfl und9) (Wt.none rfl) rfl rfl ?_
      refine RunD.pure (i := 3) hok31 rfl (by kernel_rfl) (Pure.fieldAddr rfl fo50_9) (Wt.none rfl) rfl rfl ?_
      refine RunD.load1R (i := 4) hok31 rfl (by kernel_rfl) rfl (by assumption) (by rfl) agg3 (Wt.none rfl) rfl ?_
      refine RunD.one (i := 5) (by kernel_rfl) rfl ?_
      refine RunL.call rfl rfl (by rfl) (by repeat (first | (with_reducible exact Take.nil _) | (apply Take.cons (by first | ((repeat (first | (with_reducible exact F0 _) | apply F1)); done) | (repeat (first | exact F0 _ | apply F1)))))) (Around_ctr (z := e.tick) (by omega) (by decide)) (Wt.none rfl) rfl ?_
      rintro _ _ ⟨rfl, hA_⟩
      replace hA_ := hA_.symm; subst hA_
      refine RunL.nilD' ?_
      first | refine RunD.pure (i := 6) hok31 rfl (by kernel_rfl) (Pure.addI rfl rfl (by omega)) (Wt.none rfl) rfl rfl ?_ | refine RunD.pure (i := 6) hok31 rfl (by kernel_rfl) (Pure.add rfl rfl) (Wt.none rfl) rfl rfl ?_
      refine RunD.one (i := 7) (by kernel_rfl) rfl ?_
      refine RunL.call rfl rfl (by rfl) (by repeat (first | (with_reducible exact Take.nil _) | (apply Take.cons (by first | ((repeat (first | (with_reducible exact F0 _) | apply F1)); done) | (repeat (first | exact F0 _ | apply F1)))))) (EventOf_ctr (z := evNum e) (wrap_range _)) (Wt.none rfl) rfl ?_
      rintro _ _ ⟨rfl, hA_⟩
      replace hA_ := hA_.symm; subst hA_
      refine RunL.nilD' ?_
      refine RunD.pure (i := 8) hok31 rfl (by kernel_rfl) (Pure.fieldAddr rfl fo50_3) (Wt.none rfl) rfl rfl ?_
      refine RunD.one (i := 9) (by kernel_rfl) rfl ?_
      refine RunL.store1A (cs' := (cEdu ({ good0 e with room := roomOf e.span, event := eventOf (evNum e) }))) rfl rfl (by first | ((repeat (first | (with_reducible exact F0 _) | apply F1)); done) | (repeat (first | exact F0 _ | apply F1))) sz9 (by rfl) (by first | exact Nat.le_of_ble_eq_true rfl | (simp; done) | (simp; omega)) rfl (Wt.none rfl) ?_
      refine RunL.nilD' ?_
      refine RunD.nilR (by kernel_rfl) ?_
      refine Run.sr ?_
      refine RunL.pure (Pure.fieldAddr rfl fo50_4) (Wt.none rfl) rfl rfl ?_
      first | refine RunL.load1 rfl (by first | ((repeat (first | (with_reducible exact F0 _) | apply F1)); done) | (repeat (first | exact F0 _ | apply F1))) (by rfl) agg9 (Wt.none rfl) rfl ?_ | refine RunL.load1R rfl (by assumption) (by rfl) agg9 (Wt.none rfl) rfl ?_
      refine RunL.pure (Pure.lenStr rfl rfl und9) (Wt.none rfl) rfl rfl ?_
      refine RunL.call rfl rfl (by rfl) (by repeat (first | (with_reducible exact Take.nil _) | (apply Take.cons (by first | ((repeat (first | (with_reducible exact F0 _) | apply F1)); done) | (repeat (first | exact F0 _ | apply F1)))))) (ThreadOf_ctr (z := e.thread.size) (by omega)) (Wt.none rfl) rfl ?_
      rintro _ _ ⟨rfl, hA_⟩
      replace hA_ := hA_.symm; subst hA_
      refine RunL.pure (Pure.fieldAddr rfl fo50_4) (Wt.none rfl) rfl rfl ?_
      refine RunL.store1A (cs' := (cEdu ({ good0 e with room := roomOf e.span, event := eventOf (evNum e), thread := threadOf e.thread.size }))) rfl rfl (by first | ((repeat (first | (with_reducible exact F0 _) | apply F1)); done) | (repeat (first | exact F0 _ | apply F1))) sz9 (by rfl) (by first | exact Nat.le_of_ble_eq_true rfl | (simp; done) | (simp; omega)) rfl (Wt.none rfl) ?_
      refine RunL.nil ?_
      refine Run.region ?_
      refine RunL.pure (Pure.fieldAddr rfl fo50_5) (Wt.none rfl) rfl rfl ?_
      first | refine RunL.load1 rfl (by first | ((repeat (first | (with_reducible exact F0 _) | apply F1)); done) | (repeat (first | exact F0 _ | apply F1))) (by rfl) agg4 (Wt.none rfl) rfl ?_ | refine RunL.load1R rfl (by assumption) (by rfl) agg4 (Wt.none rfl) rfl ?_
      refine RunL.pure (Pure.fieldAddr rfl fo50_5) (Wt.none rfl) rfl rfl ?_
      refine RunL.store1A (cs' := (cEdu ({ good0 e with room := roomOf e.span, event := eventOf (evNum e), thread := threadOf e.thread.size, priv := e.priv }))) rfl rfl (by first | ((repeat (first | (with_reducible exact F0 _) | apply F1)); done) | (repeat (first | exact F0 _ | apply F1))) sz4 (by rfl) (by first | exact Nat.le_of_ble_eq_true rfl | (simp; done) | (simp; omega)) rfl (Wt.none rfl) ?_
      refine RunL.nil ?_
      refine Run.inBlock ?_
      refine Run.sr ?_
      first | refine RunL.loadA (vs := (cEdu ({ good0 e with room := roomOf e.span, event := eventOf (evNum e), thread := threadOf e.thread.size, priv := e.priv }))) rfl (by first | ((repeat (first | (with_reducible exact F0 _) | apply F1)); done) | (repeat (first | exact F0 _ | apply F1))) agg50 sz50 (by first | exact Nat.le_of_ble_eq_true rfl | (simp; done) | (simp; omega)) rfl (Wt.none rfl) rfl ?_ | refine RunL.loadNR (vs := (cEdu ({ good0 e with room := roomOf e.span, event := eventOf (evNum e), thread := threadOf e.thread.size, priv := e.priv }))) rfl (by assumption) agg50 sz50 (by first | exact Nat.le_of_ble_eq_true rfl | (simp; done) | (simp; omega)) rfl (Wt.none rfl) rfl ?_
      refine RunL.storeW (xs := (cEdu ({ good0 e with room := roomOf e.span, event := eventOf (evNum e), thread := threadOf e.thread.size, priv := e.priv }))) rfl rfl (by first | ((repeat (first | (with_reducible exact F0 _) | apply F1)); done) | (repeat (first | exact F0 _ | apply F1))) sz50 (by rfl) (by rfl) (by rfl) (Wt.none rfl) ?_
      refine RunL.nil ?_
      exact Run.ret Try.func57 (resV1 rfl (Rv.cellN (us := (cEdu ({ good0 e with room := roomOf e.span, event := eventOf (evNum e), thread := threadOf e.thread.size, priv := e.priv }))) rfl (by first | ((repeat (first | (with_reducible exact F0 _) | apply F1)); done) | (repeat (first | exact F0 _ | apply F1))) agg50 sz50 (by first | exact Nat.le_of_ble_eq_true rfl | (simp; done) | (simp; omega)) rfl)) (by exact ⟨by rw [show goodE e = { good0 e with room := roomOf e.span, event := eventOf (evNum e), thread := threadOf e.thread.size, priv := e.priv } from by unfold goodE; rw [if_pos h1]], rfl⟩) (by repeat (first | (with_reducible exact Fin.done (by repeat (first | (with_reducible exact Rest.here) | apply Rest.there))) | (apply Fin.cons (by first | ((repeat (first | (with_reducible exact F0 _) | apply F1)); done) | (repeat (first | exact F0 _ | apply F1))))))
    · try simp only [ZA, ZB, ZC, ZD, ZE, ZF, ZG, ZH, ZI, ZJ, ZK, ZL, ZM, ZN, ZO, ZP, ZQ, ZR] at h1
      refine Run.sr ?_
      refine RunL.pure (Pure.eql rfl rfl) (Wt.none rfl) rfl rfl ?_
      refine RunL.as rfl rfl ?_
      refine RunL.nil ?_
      refine Run.cond rfl (fun h2 => ?_) (fun h2 => ?_)
      · try simp only [ZA, ZB, ZC, ZD, ZE, ZF, ZG, ZH, ZI, ZJ, ZK, ZL, ZM, ZN, ZO, ZP, ZQ, ZR] at h2
        refine Run.sr ?_
        refine RunL.pure (Pure.fieldAddr rfl fo50_7) (Wt.none rfl) rfl rfl ?_
        first | refine RunL.load1 rfl (by first | ((repeat (first | (with_reducible exact F0 _) | apply F1)); done) | (repeat (first | exact F0 _ | apply F1))) (by rfl) agg3 (Wt.none rfl) rfl ?_ | refine RunL.load1R rfl (by assumption) (by rfl) agg3 (Wt.none rfl) rfl ?_
        refine RunL.call rfl rfl (by rfl) (by repeat (first | (with_reducible exact Take.nil _) | (apply Take.cons (by first | ((repeat (first | (with_reducible exact F0 _) | apply F1)); done) | (repeat (first | exact F0 _ | apply F1)))))) (RoomOf_ctr (z := e.span) (by omega)) (Wt.none rfl) rfl ?_
        rintro _ _ ⟨rfl, hA_⟩
        replace hA_ := hA_.symm; subst hA_
        refine RunL.pure (Pure.fieldAddr rfl fo50_1) (Wt.none rfl) rfl rfl ?_
        refine RunL.store1A (cs' := (cEdu ({ good0 e with room := roomOf e.span }))) rfl rfl (by first | ((repeat (first | (with_reducible exact F0 _) | apply F1)); done) | (repeat (first | exact F0 _ | apply F1))) sz9 (by rfl) (by first | exact Nat.le_of_ble_eq_true rfl | (simp; done) | (simp; omega)) rfl (Wt.none rfl) ?_
        refine RunL.nil ?_
        refine Run.sr ?_
        refine RunL.pure (Pure.fieldAddr rfl fo50_6) (Wt.none rfl) rfl rfl ?_
        first | refine RunL.load1 rfl (by first | ((repeat (first | (with_reducible exact F0 _) | apply F1)); done) | (repeat (first | exact F0 _ | apply F1))) (by rfl) agg4 (Wt.none rfl) rfl ?_ | refine RunL.load1R rfl (by assumption) (by rfl) agg4 (Wt.none rfl) rfl ?_
        refine RunL.pure (Pure.fieldAddr rfl fo50_6) (Wt.none rfl) rfl rfl ?_
        refine RunL.store1A (cs' := (cEdu ({ good0 e with room := roomOf e.span, typing := e.typing }))) rfl rfl (by first | ((repeat (first | (with_reducible exact F0 _) | apply F1)); done) | (repeat (first | exact F0 _ | apply F1))) sz4 (by rfl) (by first | exact Nat.le_of_ble_eq_true rfl | (simp; done) | (simp; omega)) rfl (Wt.none rfl) ?_
        refine RunL.nil ?_
        refine Run.sr ?_
        refine RunL.pure (Pure.fieldAddr rfl fo50_6) (Wt.none rfl) rfl rfl ?_
        first | refine RunL.load1 rfl (by first | ((repeat (first | (with_reducible exact F0 _) | apply F1)); done) | (repeat (first | exact F0 _ | apply F1))) (by rfl) agg4 (Wt.none rfl) rfl ?_ | refine RunL.load1R rfl (by assumption) (by rfl) agg4 (Wt.none rfl) rfl ?_
        refine RunL.nil ?_
        refine Run.cond rfl (fun h3 => ?_) (fun h3 => ?_)
        · try simp only [ZA, ZB, ZC, ZD, ZE, ZF, ZG, ZH, ZI, ZJ, ZK, ZL, ZM, ZN, ZO, ZP, ZQ, ZR] at h3
          refine Run.region ?_
          refine RunL.pure (Pure.fieldAddr rfl fo50_7) (Wt.none rfl) rfl rfl ?_
          first | refine RunL.load1 rfl (by first | ((repeat (first | (with_reducible exact F0 _) | apply F1)); done) | (repeat (first | exact F0 _ | apply F1))) (by rfl) agg3 (Wt.none rfl) rfl ?_ | refine RunL.load1R rfl (by assumption) (by rfl) agg3 (Wt.none rfl) rfl ?_
          refine RunL.call rfl rfl (by rfl) (by repeat (first | (with_reducible exact Take.nil _) | (apply Take.cons (by first | ((repeat (first | (with_reducible exact F0 _) | apply F1)); done) | (repeat (first | exact F0 _ | apply F1)))))) (Around_ctr (z := e.span) (by omega) (by decide)) (Wt.none rfl) rfl ?_
          rintro _ _ ⟨rfl, hA_⟩
          replace hA_ := hA_.symm; subst hA_
          first | refine RunL.pure (Pure.addI rfl rfl (by omega)) (Wt.none rfl) rfl rfl ?_ | refine RunL.pure (Pure.add rfl rfl) (Wt.none rfl) rfl rfl ?_
          refine RunL.pure (Pure.fieldAddr rfl fo50_7) (Wt.none rfl) rfl rfl ?_
          refine RunL.store1A (cs' := (cEdu ({ good0 e with room := roomOf e.span, typing := e.typing, span := 1 + around e.span 60 }))) rfl rfl (by first | ((repeat (first | (with_reducible exact F0 _) | apply F1)); done) | (repeat (first | exact F0 _ | apply F1))) sz3 (by rfl) (by first | exact Nat.le_of_ble_eq_true rfl | (simp; done) | (simp; omega)) rfl (Wt.none rfl) ?_
          refine RunL.nil ?_
          refine Run.inBlock ?_
          refine Run.sr ?_
          first | refine RunL.loadA (vs := (cEdu ({ good0 e with room := roomOf e.span, typing := e.typing, span := 1 + around e.span 60 }))) rfl (by first | ((repeat (first | (with_reducible exact F0 _) | apply F1)); done) | (repeat (first | exact F0 _ | apply F1))) agg50 sz50 (by first | exact Nat.le_of_ble_eq_true rfl | (simp; done) | (simp; omega)) rfl (Wt.none rfl) rfl ?_ | refine RunL.loadNR (vs := (cEdu ({ good0 e with room := roomOf e.span, typing := e.typing, span := 1 + around e.span 60 }))) rfl (by assumption) agg50 sz50 (by first | exact Nat.le_of_ble_eq_true rfl | (simp; done) | (simp; omega)) rfl (Wt.none rfl) rfl ?_
          refine RunL.storeW (xs := (cEdu ({ good0 e with room := roomOf e.span, typing := e.typing, span := 1 + around e.span 60 }))) rfl rfl (by first | ((repeat (first | (with_reducible exact F0 _) | apply F1)); done) | (repeat (first | exact F0 _ | apply F1))) sz50 (by rfl) (by rfl) (by rfl) (Wt.none rfl) ?_
          refine RunL.nil ?_
          exact Run.ret Try.func57 (resV1 rfl (Rv.cellN (us := (cEdu ({ good0 e with room := roomOf e.span, typing := e.typing, span := 1 + around e.span 60 }))) rfl (by first | ((repeat (first | (with_reducible exact F0 _) | apply F1)); done) | (repeat (first | exact F0 _ | apply F1))) agg50 sz50 (by first | exact Nat.le_of_ble_eq_true rfl | (simp; done) | (simp; omega)) rfl)) (by exact ⟨by rw [show goodE e = { good0 e with room := roomOf e.span, typing := e.typing, span := 1 + around e.span 60 } from by unfold goodE; rw [if_neg h1, if_pos h2, if_pos h3]], rfl⟩) (by repeat (first | (with_reducible exact Fin.done (by repeat (first | (with_reducible exact Rest.here) | apply Rest.there))) | (apply Fin.cons (by first | ((repeat (first | (with_reducible exact F0 _) | apply F1)); done) | (repeat (first | exact F0 _ | apply F1))))))
        · try simp only [ZA, ZB, ZC, ZD, ZE, ZF, ZG, ZH, ZI, ZJ, ZK, ZL, ZM, ZN, ZO, ZP, ZQ, ZR] at h3
          refine Run.skip ?_
          refine Run.inBlock ?_
          refine Run.sr ?_
          first | refine RunL.loadA (vs := (cEdu ({ good0 e with room := roomOf e.span, typing := e.typing }))) rfl (by first | ((repeat (first | (with_reducible exact F0 _) | apply F1)); done) | (repeat (first | exact F0 _ | apply F1))) agg50 sz50 (by first | exact Nat.le_of_ble_eq_true rfl | (simp; done) | (simp; omega)) rfl (Wt.none rfl) rfl ?_ | refine RunL.loadNR (vs := (cEdu ({ good0 e with room := roomOf e.span, typing := e.typing }))) rfl (by assumption) agg50 sz50 (by first | exact Nat.le_of_ble_eq_true rfl | (simp; done) | (simp; omega)) rfl (Wt.none rfl) rfl ?_
          refine RunL.storeW (xs := (cEdu ({ good0 e with room := roomOf e.span, typing := e.typing }))) rfl rfl (by first | ((repeat (first | (with_reducible exact F0 _) | apply F1)); done) | (repeat (first | exact F0 _ | apply F1))) sz50 (by rfl) (by rfl) (by rfl) (Wt.none rfl) ?_
          refine RunL.nil ?_
          exact Run.ret Try.func57 (resV1 rfl (Rv.cellN (us := (cEdu ({ good0 e with room := roomOf e.span, typing := e.typing }))) rfl (by first | ((repeat (first | (with_reducible exact F0 _) | apply F1)); done) | (repeat (first | exact F0 _ | apply F1))) agg50 sz50 (by first | exact Nat.le_of_ble_eq_true rfl | (simp; done) | (simp; omega)) rfl)) (by exact ⟨by rw [show goodE e = { good0 e with room := roomOf e.span, typing := e.typing } from by unfold goodE; rw [if_neg h1, if_pos h2, if_neg (by rw [h3]; decide)]; rfl], rfl⟩) (by repeat (first | (with_reducible exact Fin.done (by repeat (first | (with_reducible exact Rest.here) | apply Rest.there))) | (apply Fin.cons (by first | ((repeat (first | (with_reducible exact F0 _) | apply F1)); done) | (repeat (first | exact F0 _ | apply F1))))))
      · try simp only [ZA, ZB, ZC, ZD, ZE, ZF, ZG, ZH, ZI, ZJ, ZK, ZL, ZM, ZN, ZO, ZP, ZQ, ZR] at h2
        refine Run.region ?_
        refine RunL.pure (Pure.fieldAddr rfl fo50_7) (Wt.none rfl) rfl rfl ?_
        first | refine RunL.load1 rfl (by first | ((repeat (first | (with_reducible exact F0 _) | apply F1)); done) | (repeat (first | exact F0 _ | apply F1))) (by rfl) agg3 (Wt.none rfl) rfl ?_ | refine RunL.load1R rfl (by assumption) (by rfl) agg3 (Wt.none rfl) rfl ?_
        refine RunL.call rfl rfl (by rfl) (by repeat (first | (with_reducible exact Take.nil _) | (apply Take.cons (by first | ((repeat (first | (with_reducible exact F0 _) | apply F1)); done) | (repeat (first | exact F0 _ | apply F1)))))) (Around_ctr (z := e.span) (by omega) (by decide)) (Wt.none rfl) rfl ?_
        rintro _ _ ⟨rfl, hA_⟩
        replace hA_ := hA_.symm; subst hA_
        refine RunL.pure (Pure.fieldAddr rfl fo50_8) (Wt.none rfl) rfl rfl ?_
        refine RunL.store1A (cs' := (cEdu ({ good0 e with state := around e.span 3 }))) rfl rfl (by first | ((repeat (first | (with_reducible exact F0 _) | apply F1)); done) | (repeat (first | exact F0 _ | apply F1))) sz3 (by rfl) (by first | exact Nat.le_of_ble_eq_true rfl | (simp; done) | (simp; omega)) rfl (Wt.none rfl) ?_
        refine RunL.nil ?_
        refine Run.inBlock ?_
        refine Run.sr ?_
        first | refine RunL.loadA (vs := (cEdu ({ good0 e with state := around e.span 3 }))) rfl (by first | ((repeat (first | (with_reducible exact F0 _) | apply F1)); done) | (repeat (first | exact F0 _ | apply F1))) agg50 sz50 (by first | exact Nat.le_of_ble_eq_true rfl | (simp; done) | (simp; omega)) rfl (Wt.none rfl) rfl ?_ | refine RunL.loadNR (vs := (cEdu ({ good0 e with state := around e.span 3 }))) rfl (by assumption) agg50 sz50 (by first | exact Nat.le_of_ble_eq_true rfl | (simp; done) | (simp; omega)) rfl (Wt.none rfl) rfl ?_
        refine RunL.storeW (xs := (cEdu ({ good0 e with state := around e.span 3 }))) rfl rfl (by first | ((repeat (first | (with_reducible exact F0 _) | apply F1)); done) | (repeat (first | exact F0 _ | apply F1))) sz50 (by rfl) (by rfl) (by rfl) (Wt.none rfl) ?_
        refine RunL.nil ?_
        exact Run.ret Try.func57 (resV1 rfl (Rv.cellN (us := (cEdu ({ good0 e with state := around e.span 3 }))) rfl (by first | ((repeat (first | (with_reducible exact F0 _) | apply F1)); done) | (repeat (first | exact F0 _ | apply F1))) agg50 sz50 (by first | exact Nat.le_of_ble_eq_true rfl | (simp; done) | (simp; omega)) rfl)) (by exact ⟨by rw [show goodE e = { good0 e with state := around e.span 3 } from by unfold goodE; rw [if_neg h1, if_neg h2]], rfl⟩) (by repeat (first | (with_reducible exact Fin.done (by repeat (first | (with_reducible exact Rest.here) | apply Rest.there))) | (apply Fin.cons (by first | ((repeat (first | (with_reducible exact F0 _) | apply F1)); done) | (repeat (first | exact F0 _ | apply F1))))))
  · skip
    refine Run.regionD' (by kernel_rfl) (by kernel_rfl) (fun hok144 => ?_)
    refine RunD.pure (i := 0) hok144 rfl (by kernel_rfl) (Pure.fieldAddr rfl fo50_0) (Wt.none rfl) rfl rfl ?_
    refine RunD.load1R (i := 1) hok144 rfl (by kernel_rfl) rfl (by assumption) (by rfl) agg3 (Wt.none rfl) rfl ?_
    refine RunD.pure (i := 4) hok144 rfl (by kernel_rfl) (Pure.fieldAddr rfl fo50_8) (Wt.none rfl) rfl rfl ?_
    refine RunD.load1R (i := 5) hok144 rfl (by kernel_rfl) rfl (by assumption) (by rfl) agg3 (Wt.none rfl) rfl ?_
    refine RunD.pure (i := 7) hok144 rfl (by kernel_rfl) (Pure.fieldAddr rfl fo50_9) (Wt.none rfl) rfl rfl ?_
    refine RunD.load1R (i := 8) hok144 rfl (by kernel_rfl) rfl (by assumption) (by rfl) agg3 (Wt.none rfl) rfl ?_
    refine RunD.pure (i := 10) hok144 rfl (by kernel_rfl) (Pure.fieldAddr rfl fo50_10) (Wt.none rfl) rfl rfl ?_
    refine RunD.load1R (i := 11) hok144 rfl (by kernel_rfl) rfl (by assumption) (by rfl) agg3 (Wt.none rfl) rfl ?_
    refine RunD.two (i := 2) (j := 14) (by kernel_rfl) rfl rfl ?_ ?_
    · skip
      refine RunL.call rfl rfl (by rfl) (by repeat (first | (with_reducible exact Take.nil _) | (apply Take.cons (by first | ((repeat (first | (with_reducible exact F0 _) | apply F1)); done) | (repeat (first | exact F0 _ | apply F1)))))) (Around_ctr (z := e.kind) (by omega) (by decide)) (Wt.none rfl) rfl ?_
      rintro _ _ ⟨rfl, hA_⟩
      replace hA_ := hA_.symm; subst hA_
      refine RunL.nilD' ?_
      first | refine RunD.pure (i := 3) hok144 rfl (by kernel_rfl) (Pure.addI rfl rfl (by omega)) (Wt.none rfl) rfl rfl ?_ | refine RunD.pure (i := 3) hok144 rfl (by kernel_rfl) (Pure.add rfl rfl) (Wt.none rfl) rfl rfl ?_
      refine RunD.two (i := 6) (j := 14) (by kernel_rfl) rfl rfl ?_ ?_
      · skip
        refine RunL.call rfl rfl (by rfl) (by repeat (first | (with_reducible exact Take.nil _) | (apply Take.cons (by first | ((repeat (first | (with_reducible exact F0 _) | apply F1)); done) | (repeat (first | exact F0 _ | apply F1)))))) (UserOf_ctr (z := e.state) (by omega)) (Wt.none rfl) rfl ?_
        rintro _ _ ⟨rfl, hA_⟩
        replace hA_ := hA_.symm; subst hA_
        refine RunL.nilD' ?_
        refine RunD.two (i := 9) (j := 14) (by kernel_rfl) rfl rfl ?_ ?_
        · skip
          refine RunL.call rfl rfl (by rfl) (by repeat (first | (with_reducible exact Take.nil _) | (apply Take.cons (by first | ((repeat (first | (with_reducible exact F0 _) | apply F1)); done) | (repeat (first | exact F0 _ | apply F1)))))) (Around_ctr (z := e.tick) (by omega) (by decide)) (Wt.none rfl) rfl ?_
          rintro _ _ ⟨rfl, hA_⟩
          replace hA_ := hA_.symm; subst hA_
          refine RunL.nilD' ?_
          refine RunD.two (i := 12) (j := 14) (by kernel_rfl) rfl rfl ?_ ?_
          · skip
            refine RunL.call rfl rfl (by rfl) (by repeat (first | (with_reducible exact Take.nil _) | (apply Take.cons (by first | ((repeat (first | (with_reducible exact F0 _) | apply F1)); done) | (repeat (first | exact F0 _ | apply F1)))))) (Around_ctr (z := e.stamp) (by omega) (by decide)) (Wt.none rfl) rfl ?_
            rintro _ _ ⟨rfl, hA_⟩
            replace hA_ := hA_.symm; subst hA_
            refine RunL.nilD' ?_
            refine RunD.pure (i := 13) hok144 rfl (by kernel_rfl) (Pure.buildL (ps := [(0, _), (2, _), (9, _), (10, _)]) (zs := [(.int .i64 0), (.string .empty), (.string .empty), (.string .empty), (.string .empty), (.bool false), (.bool false), (.int .i64 0), (.int .i64 0), (.int .i64 0), (.int .i64 0)]) (xs := (cEdu (good0 e))) pl50 rfl rfl rfl rfl) (Wt.none rfl) rfl rfl ?_
            refine RunD.one (i := 14) (by kernel_rfl) rfl ?_
            · skip
              refine RunL.alloc zz50 (Wt.none rfl) rfl ?_; intro b3
              refine RunL.nilD' ?_
              refine RunD.one (i := 15) (by kernel_rfl) rfl ?_
              · skip
                refine RunL.storeW (xs := (cEdu (good0 e))) rfl rfl (by first | ((repeat (first | (with_reducible exact F0 _) | apply F1)); done) | (repeat (first | exact F0 _ | apply F1))) sz50 (by rfl) (by rfl) (by rfl) (Wt.none rfl) ?_
                refine RunL.nilD' ?_
                refine RunD.nilR (by kernel_rfl) ?_
                refine Run.keep (.cons rfl (.cons rfl (.cons rfl (.nil))) : Keep _ [1, 2, 3] _) ?_
                exact Run.meetF (F := F) hk (by exact ⟨b2, b3, rfl, rfl⟩) (by repeat (first | (with_reducible exact Fin.done (by repeat (first | (with_reducible exact Rest.here) | apply Rest.there))) | (apply Fin.cons (by first | ((repeat (first | (with_reducible exact F0 _) | apply F1)); done) | (repeat (first | exact F0 _ | apply F1))))))
          · skip
            refine RunL.alloc zz50 (Wt.none rfl) rfl ?_; intro b3
            refine RunL.nilD' ?_
            refine RunD.one (i := 12) (by kernel_rfl) rfl ?_
            · skip
              refine RunL.call rfl rfl (by rfl) (by repeat (first | (with_reducible exact Take.nil _) | (apply Take.cons (by first | ((repeat (first | (with_reducible exact F0 _) | apply F1)); done) | (repeat (first | exact F0 _ | apply F1)))))) (Around_ctr (z := e.stamp) (by omega) (by decide)) (Wt.none rfl) rfl ?_
              rintro _ _ ⟨rfl, hA_⟩
              replace hA_ := hA_.symm; subst hA_
              refine RunL.nilD' ?_
              refine RunD.pure (i := 13) hok144 rfl (by kernel_rfl) (Pure.buildL (ps := [(0, _), (2, _), (9, _), (10, _)]) (zs := [(.int .i64 0), (.string .empty), (.string .empty), (.string .empty), (.string .empty), (.bool false), (.bool false), (.int .i64 0), (.int .i64 0), (.int .i64 0), (.int .i64 0)]) (xs := (cEdu (good0 e))) pl50 rfl rfl rfl rfl) (Wt.none rfl) rfl rfl ?_
              refine RunD.one (i := 15) (by kernel_rfl) rfl ?_
              · skip
                refine RunL.storeW (xs := (cEdu (good0 e))) rfl rfl (by first | ((repeat (first | (with_reducible exact F0 _) | apply F1)); done) | (repeat (first | exact F0 _ | apply F1))) sz50 (by rfl) (by rfl) (by rfl) (Wt.none rfl) ?_
                refine RunL.nilD' ?_
                refine RunD.nilR (by kernel_rfl) ?_
                refine Run.keep (.cons rfl (.cons rfl (.cons rfl (.nil))) : Keep _ [1, 2, 3] _) ?_
                exact Run.meetF (F := F) hk (by exact ⟨b2, b3, rfl, rfl⟩) (by repeat (first | (with_reducible exact Fin.done (by repeat (first | (with_reducible exact Rest.here) | apply Rest.there))) | (apply Fin.cons (by first | ((repeat (first | (with_reducible exact F0 _) | apply F1)); done) | (repeat (first | exact F0 _ | apply F1))))))
        · skip
          refine RunL.alloc zz50 (Wt.none rfl) rfl ?_; intro b3
          refine RunL.nilD' ?_
          refine RunD.one (i := 9) (by kernel_rfl) rfl ?_
          · skip
            refine RunL.call rfl rfl (by rfl) (by repeat (first | (with_reducible exact Take.nil _) | (apply Take.cons (by first | ((repeat (first | (with_reducible exact F0 _) | apply F1)); done) | (repeat (first | exact F0 _ | apply F1)))))) (Around_ctr (z := e.tick) (by omega) (by decide)) (Wt.none rfl) rfl ?_
            rintro _ _ ⟨rfl, hA_⟩
            replace hA_ := hA_.symm; subst hA_
            refine RunL.nilD' ?_
            refine RunD.one (i := 12) (by kernel_rfl) rfl ?_
            · skip
              refine RunL.call rfl rfl (by rfl) (by repeat (first | (with_reducible exact Take.nil _) | (apply Take.cons (by first | ((repeat (first | (with_reducible exact F0 _) | apply F1)); done) | (repeat (first | exact F0 _ | apply F1)))))) (Around_ctr (z := e.stamp) (by omega) (by decide)) (Wt.none rfl) rfl ?_
              rintro _ _ ⟨rfl, hA_⟩
              replace hA_ := hA_.symm; subst hA_
              refine RunL.nilD' ?_
              refine RunD.pure (i := 13) hok144 rfl (by kernel_rfl) (Pure.buildL (ps := [(0, _), (2, _), (9, _), (10, _)]) (zs := [(.int .i64 0), (.string .empty), (.string .empty), (.string .empty), (.string .empty), (.bool false), (.bool false), (.int .i64 0), (.int .i64 0), (.int .i64 0), (.int .i64 0)]) (xs := (cEdu (good0 e))) pl50 rfl rfl rfl rfl) (Wt.none rfl) rfl rfl ?_
              refine RunD.one (i := 15) (by kernel_rfl) rfl ?_
              · skip
                refine RunL.storeW (xs := (cEdu (good0 e))) rfl rfl (by first | ((repeat (first | (with_reducible exact F0 _) | apply F1)); done) | (repeat (first | exact F0 _ | apply F1))) sz50 (by rfl) (by rfl) (by rfl) (Wt.none rfl) ?_
                refine RunL.nilD' ?_
                refine RunD.nilR (by kernel_rfl) ?_
                refine Run.keep (.cons rfl (.cons rfl (.cons rfl (.nil))) : Keep _ [1, 2, 3] _) ?_
                exact Run.meetF (F := F) hk (by exact ⟨b2, b3, rfl, rfl⟩) (by repeat (first | (with_reducible exact Fin.done (by repeat (first | (with_reducible exact Rest.here) | apply Rest.there))) | (apply Fin.cons (by first | ((repeat (first | (with_reducible exact F0 _) | apply F1)); done) | (repeat (first | exact F0 _ | apply F1))))))
      · skip
        refine RunL.alloc zz50 (Wt.none rfl) rfl ?_; intro b3
        refine RunL.nilD' ?_
        refine RunD.one (i := 6) (by kernel_rfl) rfl ?_
        · skip
          refine RunL.call rfl rfl (by rfl) (by repeat (first | (with_reducible exact Take.nil _) | (apply Take.cons (by first | ((repeat (first | (with_reducible exact F0 _) | apply F1)); done) | (repeat (first | exact F0 _ | apply F1)))))) (UserOf_ctr (z := e.state) (by omega)) (Wt.none rfl) rfl ?_
          rintro _ _ ⟨rfl, hA_⟩
          replace hA_ := hA_.symm; subst hA_
          refine RunL.nilD' ?_
          refine RunD.one (i := 9) (by kernel_rfl) rfl ?_
          · skip
            refine RunL.call rfl rfl (by rfl) (by repeat (first | (with_reducible exact Take.nil _) | (apply Take.cons (by first | ((repeat (first | (with_reducible exact F0 _) | apply F1)); done) | (repeat (first | exact F0 _ | apply F1)))))) (Around_ctr (z := e.tick) (by omega) (by decide)) (Wt.none rfl) rfl ?_
            rintro _ _ ⟨rfl, hA_⟩
            replace hA_ := hA_.symm; subst hA_
            refine RunL.nilD' ?_
            refine RunD.one (i := 12) (by kernel_rfl) rfl ?_
            · skip
              refine RunL.call rfl rfl (by rfl) (by repeat (first | (with_reducible exact Take.nil _) | (apply Take.cons (by first | ((repeat (first | (with_reducible exact F0 _) | apply F1)); done) | (repeat (first | exact F0 _ | apply F1)))))) (Around_ctr (z := e.stamp) (by omega) (by decide)) (Wt.none rfl) rfl ?_
              rintro _ _ ⟨rfl, hA_⟩
              replace hA_ := hA_.symm; subst hA_
              refine RunL.nilD' ?_
              refine RunD.pure (i := 13) hok144 rfl (by kernel_rfl) (Pure.buildL (ps := [(0, _), (2, _), (9, _), (10, _)]) (zs := [(.int .i64 0), (.string .empty), (.string .empty), (.string .empty), (.string .empty), (.bool false), (.bool false), (.int .i64 0), (.int .i64 0), (.int .i64 0), (.int .i64 0)]) (xs := (cEdu (good0 e))) pl50 rfl rfl rfl rfl) (Wt.none rfl) rfl rfl ?_
              refine RunD.one (i := 15) (by kernel_rfl) rfl ?_
              · skip
                refine RunL.storeW (xs := (cEdu (good0 e))) rfl rfl (by first | ((repeat (first | (with_reducible exact F0 _) | apply F1)); done) | (repeat (first | exact F0 _ | apply F1))) sz50 (by rfl) (by rfl) (by rfl) (Wt.none rfl) ?_
                refine RunL.nilD' ?_
                refine RunD.nilR (by kernel_rfl) ?_
                refine Run.keep (.cons rfl (.cons rfl (.cons rfl (.nil))) : Keep _ [1, 2, 3] _) ?_
                exact Run.meetF (F := F) hk (by exact ⟨b2, b3, rfl, rfl⟩) (by repeat (first | (with_reducible exact Fin.done (by repeat (first | (with_reducible exact Rest.here) | apply Rest.there))) | (apply Fin.cons (by first | ((repeat (first | (with_reducible exact F0 _) | apply F1)); done) | (repeat (first | exact F0 _ | apply F1))))))
    · skip
      refine RunL.alloc zz50 (Wt.none rfl) rfl ?_; intro b3
      refine RunL.nilD' ?_
      refine RunD.one (i := 2) (by kernel_rfl) rfl ?_
      · skip
        refine RunL.call rfl rfl (by rfl) (by repeat (first | (with_reducible exact Take.nil _) | (apply Take.cons (by first | ((repeat (first | (with_reducible exact F0 _) | apply F1)); done) | (repeat (first | exact F0 _ | apply F1)))))) (Around_ctr (z := e.kind) (by omega) (by decide)) (Wt.none rfl) rfl ?_
        rintro _ _ ⟨rfl, hA_⟩
        replace hA_ := hA_.symm; subst hA_
        refine RunL.nilD' ?_
        first | refine RunD.pure (i := 3) hok144 rfl (by kernel_rfl) (Pure.addI rfl rfl (by omega)) (Wt.none rfl) rfl rfl ?_ | refine RunD.pure (i := 3) hok144 rfl (by kernel_rfl) (Pure.add rfl rfl) (Wt.none rfl) rfl rfl ?_
        refine RunD.one (i := 6) (by kernel_rfl) rfl ?_
        · skip
          refine RunL.call rfl rfl (by rfl) (by repeat (first | (with_reducible exact Take.nil _) | (apply Take.cons (by first | ((repeat (first | (with_reducible exact F0 _) | apply F1)); done) | (repeat (first | exact F0 _ | apply F1)))))) (UserOf_ctr (z := e.state) (by omega)) (Wt.none rfl) rfl ?_
          rintro _ _ ⟨rfl, hA_⟩
          replace hA_ := hA_.symm; subst hA_
          refine RunL.nilD' ?_
          refine RunD.one (i := 9) (by kernel_rfl) rfl ?_
          · skip
            refine RunL.call rfl rfl (by rfl) (by repeat (first | (with_reducible exact Take.nil _) | (apply Take.cons (by first | ((repeat (first | (with_reducible exact F0 _) | apply F1)); done) | (repeat (first | exact F0 _ | apply F1)))))) (Around_ctr (z := e.tick) (by omega) (by decide)) (Wt.none rfl) rfl ?_
            rintro _ _ ⟨rfl, hA_⟩
            replace hA_ := hA_.symm; subst hA_
            refine RunL.nilD' ?_
            refine RunD.one (i := 12) (by kernel_rfl) rfl ?_
            · skip
              refine RunL.call rfl rfl (by rfl) (by repeat (first | (with_reducible exact Take.nil _) | (apply Take.cons (by first | ((repeat (first | (with_reducible exact F0 _) | apply F1)); done) | (repeat (first | exact F0 _ | apply F1)))))) (Around_ctr (z := e.stamp) (by omega) (by decide)) (Wt.none rfl) rfl ?_
              rintro _ _ ⟨rfl, hA_⟩
              replace hA_ := hA_.symm; subst hA_
              refine RunL.nilD' ?_
              refine RunD.pure (i := 13) hok144 rfl (by kernel_rfl) (Pure.buildL (ps := [(0, _), (2, _), (9, _), (10, _)]) (zs := [(.int .i64 0), (.string .empty), (.string .empty), (.string .empty), (.string .empty), (.bool false), (.bool false), (.int .i64 0), (.int .i64 0), (.int .i64 0), (.int .i64 0)]) (xs := (cEdu (good0 e))) pl50 rfl rfl rfl rfl) (Wt.none rfl) rfl rfl ?_
              refine RunD.one (i := 15) (by kernel_rfl) rfl ?_
              · skip
                refine RunL.storeW (xs := (cEdu (good0 e))) rfl rfl (by first | ((repeat (first | (with_reducible exact F0 _) | apply F1)); done) | (repeat (first | exact F0 _ | apply F1))) sz50 (by rfl) (by rfl) (by rfl) (Wt.none rfl) ?_
                refine RunL.nilD' ?_
                refine RunD.nilR (by kernel_rfl) ?_
                refine Run.keep (.cons rfl (.cons rfl (.cons rfl (.nil))) : Keep _ [1, 2, 3] _) ?_
                exact Run.meetF (F := F) hk (by exact ⟨b2, b3, rfl, rfl⟩) (by repeat (first | (with_reducible exact Fin.done (by repeat (first | (with_reducible exact Rest.here) | apply Rest.there))) | (apply Fin.cons (by first | ((repeat (first | (with_reducible exact F0 _) | apply F1)); done) | (repeat (first | exact F0 _ | apply F1))))))

end Go.Proofs.Ytbgjfpaigndbmaa
