/- How keys and positions stand. -/
import Derived.Test.YtaeacdhilekcbaaR2
set_option linter.unusedVariables false
set_option linter.unusedSimpArgs false
namespace Go.Proofs.Ytaeacdhilekcbaa
open Go Csl
theorem und75 : Try.prog.underlying 75 = some (Go.TypeDesc.slice 3) := Try.underlying75
theorem sz3 : sizeIs Try.prog 3 = some 1 := by kernel_rfl
theorem cb35 : Callable Try.prog 35 := ⟨_, Try.func35, by kernel_rfl, by kernel_rfl⟩
theorem fo26_0 : fieldOff Try.prog 26 0 = some 0 := by kernel_rfl
theorem fo26_1 : fieldOff Try.prog 26 1 = some 1 := by kernel_rfl
theorem zz3 : zeroIs Try.prog 3 = some (.int .i64 0) := by kernel_rfl
theorem fo36_0 : fieldOff Try.prog 36 0 = some 0 := by kernel_rfl
theorem fo36_1 : fieldOff Try.prog 36 1 = some 1 := by kernel_rfl
theorem fo36_2 : fieldOff Try.prog 36 2 = some 2 := by kernel_rfl
theorem fo36_3 : fieldOff Try.prog 36 3 = some 3 := by kernel_rfl
theorem zz36 : zeroIs Try.prog 36 = some (.agg #[(.string .empty), (.string .empty), (.string .empty), (.bool false)]) := by kernel_rfl
theorem fo24_0 : fieldOff Try.prog 24 0 = some 0 := by kernel_rfl
theorem fo24_1 : fieldOff Try.prog 24 1 = some 1 := by kernel_rfl
theorem fo24_2 : fieldOff Try.prog 24 2 = some 2 := by kernel_rfl
theorem fo24_3 : fieldOff Try.prog 24 3 = some 3 := by kernel_rfl

set_option maxRecDepth 100000 in
theorem Or_ctr {G : Gp} {a : Option Addr} {zs : List Int} {cap : Nat} (h : SlR G 75 1 a zs.length (zs.map (Value.int .i64))) (hb : zs.length ≤ 1000000) :
    Ctr Try.prog G 35 [.slice a zs.length cap] [] (fun F v A => v = .int .i64 (orL zs) ∧ A = F) := by
  refine Ctr.intro Try.func35 rfl (by kernel_rfl) rfl (fun F => ?_)
  simp only [List.nil_append]
  refine Run.sr ?_
  refine RunL.as rfl rfl ?_
  refine RunL.nil ?_
  refine Run.sr ?_
  refine RunL.as rfl rfl ?_
  refine RunL.nil ?_
  refine Run.seq ?_
  refine Run.sr ?_
  refine RunL.mv rfl rfl ?_
  refine RunL.pure (Pure.lenSl rfl rfl und75) (Wt.none rfl) rfl rfl ?_
  refine RunL.mv rfl rfl ?_
  refine RunL.nil ?_
  refine Run.block ?_
  refine Run.keep (.cons rfl (.cons rfl (.cons rfl (.cons rfl (.nil)))) : Keep _ [3, 6, 7, 8] _) ?_
  refine Run.loopR (fun n e A => ∃ (i : Nat), i ≤ zs.length ∧ orL zs = orL (zs.drop i) ∧ n = zs.length - i ∧ e = [(3, .int .i64 0), (6, .slice a zs.length cap), (7, .int .i64 (zs.length : Nat)), (8, .int .i64 (i : Nat))] ∧ A = F) (zs.length) ⟨0, Nat.zero_le _, rfl, rfl, rfl, rfl⟩ ?_
  rintro n _ _ ⟨i, hi, ho, rfl, rfl, rfl⟩ ih
  refine Run.sr ?_
  refine RunL.pure (Pure.lss rfl rfl) (Wt.none rfl) rfl rfl ?_
  refine RunL.nil ?_
  refine Run.seq ?_
  refine Run.cond rfl (fun h1 => ?_) (fun h1 => ?_)
  · try simp only [ZA, ZB, ZC, ZD, ZE, ZF, ZG, ZH, ZI, ZJ, ZK, ZL, ZM, ZN, ZO, ZP, ZQ, ZR] at h1
    obtain ⟨b, T', pre, post, rfl, hro⟩ := h.open1 (show 0 < zs.length by omega)
    obtain ⟨x, hx⟩ := get_some (xs := zs) (i := i) (by omega)
    have hd : zs.drop i = x :: zs.drop (i + 1) := by rw [List.drop_eq_getElem_cons (by omega)]; congr 1; rw [List.getElem?_eq_getElem (by omega)] at hx; exact Option.some.inj hx
    refine Run.skip ?_
    refine Run.seq ?_
    refine Run.block ?_
    refine Run.sr ?_
    refine RunL.pure (Pure.indexAddr rfl rfl und75 sz3 (by omega) (by omega)) (Wt.none rfl) rfl rfl ?_
    refine RunL.load1R rfl hro (elem1_at hx) agg3 (Wt.none rfl) rfl ?_
    refine RunL.as rfl rfl ?_
    refine RunL.nil ?_
    refine Run.sr ?_
    refine RunL.mv rfl rfl ?_
    refine RunL.mv rfl rfl ?_
    refine RunL.pure (Pure.neq rfl rfl) (Wt.none rfl) rfl rfl ?_
    refine RunL.nil ?_
    refine Run.cond rfl (fun h2 => ?_) (fun h2 => ?_)
    · try simp only [ZA, ZB, ZC, ZD, ZE, ZF, ZG, ZH, ZI, ZJ, ZK, ZL, ZM, ZN, ZO, ZP, ZQ, ZR] at h2
      refine Run.sr ?_
      refine RunL.mv rfl rfl ?_
      refine RunL.as rfl rfl ?_
      refine RunL.nil ?_
      exact Run.ret Try.func35 (res1 rfl rfl) (by exact ⟨by rw [ho, hd, orL, orI, if_pos h2], rfl⟩) (by repeat (first | (with_reducible exact Fin.done (by repeat (first | (with_reducible exact Rest.here) | apply Rest.there))) | (apply Fin.cons (by first | ((repeat (first | (with_reducible exact F0 _) | apply F1)); done) | (repeat (first | exact F0 _ | apply F1))))))
    · try simp only [ZA, ZB, ZC, ZD, ZE, ZF, ZG, ZH, ZI, ZJ, ZK, ZL, ZM, ZN, ZO, ZP, ZQ, ZR] at h2
      refine Run.skip ?_
      refine Run.inBlock ?_
      refine Run.region ?_
      first | refine RunL.pure (Pure.addI rfl rfl (by omega)) (Wt.none rfl) rfl rfl ?_ | refine RunL.pure (Pure.add rfl rfl) (Wt.none rfl) rfl rfl ?_
      refine RunL.mv rfl rfl ?_
      refine RunL.nil ?_
      refine Run.keep (.cons rfl (.cons rfl (.cons rfl (.cons rfl (.nil)))) : Keep _ [3, 6, 7, 8] _) ?_
      refine ih _ _ _ ?_ ⟨i + 1, by omega, by rw [ho, hd, orL, orI, if_neg (by omega)], rfl, rfl, rfl⟩
      omega
  · try simp only [ZA, ZB, ZC, ZD, ZE, ZF, ZG, ZH, ZI, ZJ, ZK, ZL, ZM, ZN, ZO, ZP, ZQ, ZR] at h1
    refine Run.exit rfl ?_
    refine Run.sr ?_
    refine RunL.mv rfl rfl ?_
    refine RunL.as rfl rfl ?_
    refine RunL.nil ?_
    exact Run.ret Try.func35 (res1 rfl rfl) (by exact ⟨by rw [ho, List.drop_of_length_le (by omega)]; rfl, rfl⟩) (by repeat (first | (with_reducible exact Fin.done (by repeat (first | (with_reducible exact Rest.here) | apply Rest.there))) | (apply Fin.cons (by first | ((repeat (first | (with_reducible exact F0 _) | apply F1)); done) | (repeat (first | exact F0 _ | apply F1))))))

set_option maxRecDepth 100000 in
theorem dagCompare_ctr {G : Gp} {p q : Pos} :
    Ctr Try.prog G 34 [.agg (cPos p).toArray, .agg (cPos q).toArray] [] (fun F v A => v = .int .i64 (cmpPos p q) ∧ A = F) := by
  refine Ctr.intro Try.func34 rfl (by kernel_rfl) rfl (fun F => ?_)
  simp only [List.nil_append]
  refine Run.sr ?_
  refine RunL.boxA (xs := (cPos p)) rfl (Wt.none rfl) rfl ?_; intro b2
  refine RunL.boxA (xs := (cPos q)) rfl (Wt.none rfl) rfl ?_; intro b3
  refine RunL.as rfl rfl ?_
  refine RunL.nil ?_
  refine Run.seq ?_
  refine Run.regionD' (by kernel_rfl) (by kernel_rfl) (fun hok6 => ?_)
  refine RunD.lend (Q := row b2 26 _) Lends.row (by first | ((repeat (first | (with_reducible exact F0 _) | apply F1)); done) | (repeat (first | exact F0 _ | apply F1))) ?_; intro g1 hleg1 hb1 backg1
  refine RunD.lend (Q := row b3 26 _) Lends.row (by first | ((repeat (first | (with_reducible exact F0 _) | apply F1)); done) | (repeat (first | exact F0 _ | apply F1))) ?_; intro g2 hleg2 hb2 backg2
  have hb1 := hb1.mono hleg2
  refine RunD.pure (i := 0) hok6 rfl (by kernel_rfl) (Pure.fieldAddr rfl fo26_0) (Wt.none rfl) rfl rfl ?_
  refine RunD.load1R (i := 1) hok6 rfl (by kernel_rfl) rfl (by assumption) (by rfl) agg3 (Wt.none rfl) rfl ?_
  refine RunD.pure (i := 2) hok6 rfl (by kernel_rfl) (Pure.fieldAddr rfl fo26_0) (Wt.none rfl) rfl rfl ?_
  refine RunD.load1R (i := 3) hok6 rfl (by kernel_rfl) rfl (by assumption) (by rfl) agg3 (Wt.none rfl) rfl ?_
  refine RunD.pure (i := 5) hok6 rfl (by kernel_rfl) (Pure.fieldAddr rfl fo26_1) (Wt.none rfl) rfl rfl ?_
  refine RunD.load1R (i := 6) hok6 rfl (by kernel_rfl) rfl (by assumption) (by rfl) agg9 (Wt.none rfl) rfl ?_
  refine RunD.pure (i := 7) hok6 rfl (by kernel_rfl) (Pure.fieldAddr rfl fo26_1) (Wt.none rfl) rfl rfl ?_
  refine RunD.load1R (i := 8) hok6 rfl (by kernel_rfl) rfl (by assumption) (by rfl) agg9 (Wt.none rfl) rfl ?_
  refine RunD.one (i := 4) (by kernel_rfl) rfl ?_
  refine RunL.call rfl rfl (by rfl) (by repeat (first | (with_reducible exact Take.nil _) | (apply Take.cons (by first | ((repeat (first | (with_reducible exact F0 _) | apply F1)); done) | (repeat (first | exact F0 _ | apply F1)))))) (cmpI_ctr) (Wt.none rfl) rfl ?_
  rintro _ _ ⟨rfl, hA_⟩
  replace hA_ := hA_.symm; subst hA_
  refine RunL.nilD' ?_
  refine RunD.one (i := 9) (by kernel_rfl) rfl ?_
  refine RunL.call rfl rfl (by rfl) (by repeat (first | (with_reducible exact Take.nil _) | (apply Take.cons (by first | ((repeat (first | (with_reducible exact F0 _) | apply F1)); done) | (repeat (first | exact F0 _ | apply F1)))))) (cmpS_ctr) (Wt.none rfl) rfl ?_
  rintro _ _ ⟨rfl, hA_⟩
  replace hA_ := hA_.symm; subst hA_
  refine RunL.nilD' ?_
  refine RunD.one (i := 10) (by kernel_rfl) rfl ?_
  refine RunL.lit (vals := [_, _]) (vs := [_, _]) und75 sz3 zz3 rfl rfl rfl rfl rfl rfl (by simp [Value.cells, bv, cK, cM, cPos]) rfl (Wt.none rfl) rfl ?_; intro b15
  refine RunL.nilD' ?_
  refine RunD.one (i := 11) (by kernel_rfl) rfl ?_
  refine RunL.call rfl rfl (by rfl) (by repeat (first | (with_reducible exact Take.nil _) | (apply Take.cons (by first | ((repeat (first | (with_reducible exact F0 _) | apply F1)); done) | (repeat (first | exact F0 _ | apply F1)))))) (Ctr.lend (R := fun G => SlR G 3 1 _ _ _ ∧ _ ≤ _) Lends.Sl cb35 (fun G' hle hr => Or_ctr (zs := [cmpI p.depth q.depth, cmpS p.id q.id]) hr.1 (by simp))) (Wt.none rfl) rfl ?_
  rintro _ _ ⟨_, rfl, rfl, hA_⟩
  replace hA_ := hA_.symm; subst hA_
  refine RunL.nilD' ?_
  refine RunD.pure (i := 12) hok6 rfl (by kernel_rfl) (Pure.assign rfl) (Wt.none rfl) rfl rfl ?_
  refine RunD.nilB (by kernel_rfl) (fun w sw => backg1 _ _ (backg2 _ _ (sw))) ?_
  exact Run.ret Try.func34 (res1 rfl rfl) (by exact ⟨by simp only [orL, orI_zero]; rfl, rfl⟩) (by repeat (first | (with_reducible exact Fin.done (by repeat (first | (with_reducible exact Rest.here) | apply Rest.there))) | (apply Fin.cons (by first | ((repeat (first | (with_reducible exact F0 _) | apply F1)); done) | (repeat (first | exact F0 _ | apply F1))))))

set_option maxRecDepth 100000 in
theorem number_ctr {G : Gp} {b : Bool} :
    Ctr Try.prog G 38 [.bool b] [] (fun F v A => v = .int .i64 (numB b) ∧ A = F) := by
  refine Ctr.intro Try.func38 rfl (by kernel_rfl) rfl (fun F => ?_)
  simp only [List.nil_append]
  refine Run.sr ?_
  refine RunL.as rfl rfl ?_
  refine RunL.nil ?_
  refine Run.seq ?_
  refine Run.sr ?_
  refine RunL.mv rfl rfl ?_
  refine RunL.nil ?_
  refine Run.cond rfl (fun h1 => ?_) (fun h1 => ?_)
  · try simp only [ZA, ZB, ZC, ZD, ZE, ZF, ZG, ZH, ZI, ZJ, ZK, ZL, ZM, ZN, ZO, ZP, ZQ, ZR] at h1
    refine Run.sr ?_
    refine RunL.as rfl rfl ?_
    refine RunL.nil ?_
    exact Run.ret Try.func38 (res1 rfl rfl) (by exact ⟨by subst h1; rfl, rfl⟩) (by repeat (first | (with_reducible exact Fin.done (by repeat (first | (with_reducible exact Rest.here) | apply Rest.there))) | (apply Fin.cons (by first | ((repeat (first | (with_reducible exact F0 _) | apply F1)); done) | (repeat (first | exact F0 _ | apply F1))))))
  · try simp only [ZA, ZB, ZC, ZD, ZE, ZF, ZG, ZH, ZI, ZJ, ZK, ZL, ZM, ZN, ZO, ZP, ZQ, ZR] at h1
    refine Run.skip ?_
    refine Run.sr ?_
    refine RunL.as rfl rfl ?_
    refine RunL.nil ?_
    exact Run.ret Try.func38 (res1 rfl rfl) (by exact ⟨by subst h1; rfl, rfl⟩) (by repeat (first | (with_reducible exact Fin.done (by repeat (first | (with_reducible exact Rest.here) | apply Rest.there))) | (apply Fin.cons (by first | ((repeat (first | (with_reducible exact F0 _) | apply F1)); done) | (repeat (first | exact F0 _ | apply F1))))))

set_option maxRecDepth 100000 in
theorem Compare_ctr {G : Gp} {p q : K} :
    Ctr Try.prog G 20 [.agg (cK p).toArray, .agg (cK q).toArray] [] (fun F v A => v = .int .i64 (cmpK p q) ∧ A = F) := by
  refine Ctr.intro Try.func20 rfl (by kernel_rfl) rfl (fun F => ?_)
  simp only [List.nil_append]
  refine Run.sr ?_
  refine RunL.boxA (xs := (cK p)) rfl (Wt.none rfl) rfl ?_; intro b2
  refine RunL.boxA (xs := (cK q)) rfl (Wt.none rfl) rfl ?_; intro b3
  refine RunL.as rfl rfl ?_
  refine RunL.nil ?_
  refine Run.seq ?_
  refine Run.regionD' (by kernel_rfl) (by kernel_rfl) (fun hok6 => ?_)
  refine RunD.lend (Q := row b2 36 _) Lends.row (by first | ((repeat (first | (with_reducible exact F0 _) | apply F1)); done) | (repeat (first | exact F0 _ | apply F1))) ?_; intro g1 hleg1 hb1 backg1
  refine RunD.lend (Q := row b3 36 _) Lends.row (by first | ((repeat (first | (with_reducible exact F0 _) | apply F1)); done) | (repeat (first | exact F0 _ | apply F1))) ?_; intro g2 hleg2 hb2 backg2
  have hb1 := hb1.mono hleg2
  refine RunD.pure (i := 0) hok6 rfl (by kernel_rfl) (Pure.fieldAddr rfl fo36_0) (Wt.none rfl) rfl rfl ?_
  refine RunD.load1R (i := 1) hok6 rfl (by kernel_rfl) rfl (by assumption) (by rfl) agg9 (Wt.none rfl) rfl ?_
  refine RunD.pure (i := 2) hok6 rfl (by kernel_rfl) (Pure.fieldAddr rfl fo36_0) (Wt.none rfl) rfl rfl ?_
  refine RunD.load1R (i := 3) hok6 rfl (by kernel_rfl) rfl (by assumption) (by rfl) agg9 (Wt.none rfl) rfl ?_
  refine RunD.pure (i := 5) hok6 rfl (by kernel_rfl) (Pure.fieldAddr rfl fo36_1) (Wt.none rfl) rfl rfl ?_
  refine RunD.load1R (i := 6) hok6 rfl (by kernel_rfl) rfl (by assumption) (by rfl) agg9 (Wt.none rfl) rfl ?_
  refine RunD.pure (i := 7) hok6 rfl (by kernel_rfl) (Pure.fieldAddr rfl fo36_1) (Wt.none rfl) rfl rfl ?_
  refine RunD.load1R (i := 8) hok6 rfl (by kernel_rfl) rfl (by assumption) (by rfl) agg9 (Wt.none rfl) rfl ?_
  refine RunD.pure (i := 10) hok6 rfl (by kernel_rfl) (Pure.fieldAddr rfl fo36_2) (Wt.none rfl) rfl rfl ?_
  refine RunD.load1R (i := 11) hok6 rfl (by kernel_rfl) rfl (by assumption) (by rfl) agg9 (Wt.none rfl) rfl ?_
  refine RunD.pure (i := 12) hok6 rfl (by kernel_rfl) (Pure.fieldAddr rfl fo36_2) (Wt.none rfl) rfl rfl ?_
  refine RunD.load1R (i := 13) hok6 rfl (by kernel_rfl) rfl (by assumption) (by rfl) agg9 (Wt.none rfl) rfl ?_
  refine RunD.pure (i := 15) hok6 rfl (by kernel_rfl) (Pure.fieldAddr rfl fo36_3) (Wt.none rfl) rfl rfl ?_
  refine RunD.load1R (i := 16) hok6 rfl (by kernel_rfl) rfl (by assumption) (by rfl) agg4 (Wt.none rfl) rfl ?_
  refine RunD.pure (i := 18) hok6 rfl (by kernel_rfl) (Pure.fieldAddr rfl fo36_3) (Wt.none rfl) rfl rfl ?_
  refine RunD.load1R (i := 19) hok6 rfl (by kernel_rfl) rfl (by assumption) (by rfl) agg4 (Wt.none rfl) rfl ?_
  refine RunD.one (i := 4) (by kernel_rfl) rfl ?_
  refine RunL.call rfl rfl (by rfl) (by repeat (first | (with_reducible exact Take.nil _) | (apply Take.cons (by first | ((repeat (first | (with_reducible exact F0 _) | apply F1)); done) | (repeat (first | exact F0 _ | apply F1)))))) (cmpS_ctr) (Wt.none rfl) rfl ?_
  rintro _ _ ⟨rfl, hA_⟩
  replace hA_ := hA_.symm; subst hA_
  refine RunL.nilD' ?_
  refine RunD.one (i := 9) (by kernel_rfl) rfl ?_
  refine RunL.call rfl rfl (by rfl) (by repeat (first | (with_reducible exact Take.nil _) | (apply Take.cons (by first | ((repeat (first | (with_reducible exact F0 _) | apply F1)); done) | (repeat (first | exact F0 _ | apply F1)))))) (cmpS_ctr) (Wt.none rfl) rfl ?_
  rintro _ _ ⟨rfl, hA_⟩
  replace hA_ := hA_.symm; subst hA_
  refine RunL.nilD' ?_
  refine RunD.one (i := 14) (by kernel_rfl) rfl ?_
  refine RunL.call rfl rfl (by rfl) (by repeat (first | (with_reducible exact Take.nil _) | (apply Take.cons (by first | ((repeat (first | (with_reducible exact F0 _) | apply F1)); done) | (repeat (first | exact F0 _ | apply F1)))))) (cmpS_ctr) (Wt.none rfl) rfl ?_
  rintro _ _ ⟨rfl, hA_⟩
  replace hA_ := hA_.symm; subst hA_
  refine RunL.nilD' ?_
  refine RunD.one (i := 17) (by kernel_rfl) rfl ?_
  refine RunL.call rfl rfl (by rfl) (by repeat (first | (with_reducible exact Take.nil _) | (apply Take.cons (by first | ((repeat (first | (with_reducible exact F0 _) | apply F1)); done) | (repeat (first | exact F0 _ | apply F1)))))) (number_ctr) (Wt.none rfl) rfl ?_
  rintro _ _ ⟨rfl, hA_⟩
  replace hA_ := hA_.symm; subst hA_
  refine RunL.nilD' ?_
  refine RunD.one (i := 20) (by kernel_rfl) rfl ?_
  refine RunL.call rfl rfl (by rfl) (by repeat (first | (with_reducible exact Take.nil _) | (apply Take.cons (by first | ((repeat (first | (with_reducible exact F0 _) | apply F1)); done) | (repeat (first | exact F0 _ | apply F1)))))) (number_ctr) (Wt.none rfl) rfl ?_
  rintro _ _ ⟨rfl, hA_⟩
  replace hA_ := hA_.symm; subst hA_
  refine RunL.nilD' ?_
  refine RunD.one (i := 21) (by kernel_rfl) rfl ?_
  refine RunL.call rfl rfl (by rfl) (by repeat (first | (with_reducible exact Take.nil _) | (apply Take.cons (by first | ((repeat (first | (with_reducible exact F0 _) | apply F1)); done) | (repeat (first | exact F0 _ | apply F1)))))) (cmpI_ctr) (Wt.none rfl) rfl ?_
  rintro _ _ ⟨rfl, hA_⟩
  replace hA_ := hA_.symm; subst hA_
  refine RunL.nilD' ?_
  refine RunD.one (i := 22) (by kernel_rfl) rfl ?_
  refine RunL.lit (vals := [_, _, _, _]) (vs := [_, _, _, _]) und75 sz3 zz3 rfl rfl rfl rfl rfl rfl (by simp [Value.cells, bv, cK, cM, cPos]) rfl (Wt.none rfl) rfl ?_; intro b27
  refine RunL.nilD' ?_
  refine RunD.one (i := 23) (by kernel_rfl) rfl ?_
  refine RunL.call rfl rfl (by rfl) (by repeat (first | (with_reducible exact Take.nil _) | (apply Take.cons (by first | ((repeat (first | (with_reducible exact F0 _) | apply F1)); done) | (repeat (first | exact F0 _ | apply F1)))))) (Ctr.lend (R := fun G => SlR G 3 1 _ _ _ ∧ _ ≤ _) Lends.Sl cb35 (fun G' hle hr => Or_ctr (zs := [cmpS p.room q.room, cmpS p.user q.user, cmpS p.thread q.thread, cmpI (numB p.priv) (numB q.priv)]) hr.1 (by simp))) (Wt.none rfl) rfl ?_
  rintro _ _ ⟨_, rfl, rfl, hA_⟩
  replace hA_ := hA_.symm; subst hA_
  refine RunL.nilD' ?_
  refine RunD.pure (i := 24) hok6 rfl (by kernel_rfl) (Pure.assign rfl) (Wt.none rfl) rfl rfl ?_
  refine RunD.nilB (by kernel_rfl) (fun w sw => backg1 _ _ (backg2 _ _ (sw))) ?_
  exact Run.ret Try.func20 (res1 rfl rfl) (by exact ⟨by simp only [orL, orI_zero]; rfl, rfl⟩) (by repeat (first | (with_reducible exact Fin.done (by repeat (first | (with_reducible exact Rest.here) | apply Rest.there))) | (apply Fin.cons (by first | ((repeat (first | (with_reducible exact F0 _) | apply F1)); done) | (repeat (first | exact F0 _ | apply F1))))))

set_option maxRecDepth 100000 in
theorem of_ctr {G : Gp} {k : K} :
    Ctr Try.prog G 13 [.agg (cK k).toArray] [] (fun F v A => v = .agg (cK k).toArray ∧ A = F) := by
  refine Ctr.intro Try.func13 rfl (by kernel_rfl) rfl (fun F => ?_)
  simp only [List.nil_append]
  refine Run.sr ?_
  refine RunL.boxA (xs := (cK k)) rfl (Wt.none rfl) rfl ?_; intro b1
  refine RunL.alloc zz36 (Wt.none rfl) rfl ?_; intro b2
  refine RunL.nil ?_
  refine Run.sr ?_
  first | refine RunL.loadA (vs := (cK k)) rfl (by first | ((repeat (first | (with_reducible exact F0 _) | apply F1)); done) | (repeat (first | exact F0 _ | apply F1))) agg24 sz24 (by first | exact Nat.le_of_ble_eq_true rfl | (simp; done) | (simp; omega)) rfl (Wt.none rfl) rfl ?_ | refine RunL.loadNR (vs := (cK k)) rfl (by assumption) agg24 sz24 (by first | exact Nat.le_of_ble_eq_true rfl | (simp; done) | (simp; omega)) rfl (Wt.none rfl) rfl ?_
  refine RunL.storeW (xs := (cK k)) rfl rfl (by first | ((repeat (first | (with_reducible exact F0 _) | apply F1)); done) | (repeat (first | exact F0 _ | apply F1))) sz36 (by rfl) (by rfl) (by rfl) (Wt.none rfl) ?_
  refine RunL.nil ?_
  exact Run.ret Try.func13 (resV1 rfl (Rv.cellN (us := (cK k)) rfl (by first | ((repeat (first | (with_reducible exact F0 _) | apply F1)); done) | (repeat (first | exact F0 _ | apply F1))) agg36 sz36 (by first | exact Nat.le_of_ble_eq_true rfl | (simp; done) | (simp; omega)) rfl)) (by exact ⟨rfl, rfl⟩) (by repeat (first | (with_reducible exact Fin.done (by repeat (first | (with_reducible exact Rest.here) | apply Rest.there))) | (apply Fin.cons (by first | ((repeat (first | (with_reducible exact F0 _) | apply F1)); done) | (repeat (first | exact F0 _ | apply F1))))))

set_option maxRecDepth 100000 in
theorem beforePos_ctr {G : Gp} {p q : Pos} :
    Ctr Try.prog G 19 [.agg (cPos p).toArray, .agg (cPos q).toArray] [] (fun F v A => v = .bool (beforePos p q) ∧ A = F) := by
  refine Ctr.intro Try.func19 rfl (by kernel_rfl) rfl (fun F => ?_)
  simp only [List.nil_append]
  refine Run.sr ?_
  refine RunL.boxA (xs := (cPos p)) rfl (Wt.none rfl) rfl ?_; intro b2
  refine RunL.boxA (xs := (cPos q)) rfl (Wt.none rfl) rfl ?_; intro b3
  refine RunL.as rfl rfl ?_
  refine RunL.nil ?_
  refine Run.sr ?_
  refine RunL.pure (Pure.fieldAddr rfl fo26_0) (Wt.none rfl) rfl rfl ?_
  first | refine RunL.load1 rfl (by first | ((repeat (first | (with_reducible exact F0 _) | apply F1)); done) | (repeat (first | exact F0 _ | apply F1))) (by rfl) agg3 (Wt.none rfl) rfl ?_ | refine RunL.load1R rfl (by assumption) (by rfl) agg3 (Wt.none rfl) rfl ?_
  refine RunL.pure (Pure.fieldAddr rfl fo26_0) (Wt.none rfl) rfl rfl ?_
  first | refine RunL.load1 rfl (by first | ((repeat (first | (with_reducible exact F0 _) | apply F1)); done) | (repeat (first | exact F0 _ | apply F1))) (by rfl) agg3 (Wt.none rfl) rfl ?_ | refine RunL.load1R rfl (by assumption) (by rfl) agg3 (Wt.none rfl) rfl ?_
  refine RunL.pure (Pure.lss rfl rfl) (Wt.none rfl) rfl rfl ?_
  refine RunL.mv rfl rfl ?_
  refine RunL.split (d := 10) rfl (fun h1 => ?_) (fun h1 => ?_)
  · try simp only [ZA, ZB, ZC, ZD, ZE, ZF, ZG, ZH, ZI, ZJ, ZK, ZL, ZM, ZN, ZO, ZP, ZQ, ZR] at h1
    refine RunL.not (Wt.no rfl rfl rfl) rfl rfl ?_
    refine RunL.not (Wt.no rfl rfl rfl) rfl rfl ?_
    refine RunL.not (Wt.no rfl rfl rfl) rfl rfl ?_
    refine RunL.not (Wt.no rfl rfl rfl) rfl rfl ?_
    refine RunL.not (Wt.no rfl rfl rfl) rfl rfl ?_
    refine RunL.not (Wt.no rfl rfl rfl) rfl rfl ?_
    refine RunL.not (Wt.un rfl rfl rfl) rfl rfl ?_
    refine RunL.not (Wt.un rfl rfl rfl) rfl rfl ?_
    refine RunL.not (Wt.un rfl rfl rfl) rfl rfl ?_
    refine RunL.not (Wt.un rfl rfl rfl) rfl rfl ?_
    refine RunL.not (Wt.un rfl rfl rfl) rfl rfl ?_
    refine RunL.not (Wt.no rfl rfl rfl) rfl rfl ?_
    refine RunL.pure (Pure.pickT rfl rfl) (Wt.none rfl) rfl rfl ?_
    refine RunL.as rfl rfl ?_
    refine RunL.nil ?_
    exact Run.ret Try.func19 (res1 rfl rfl) (by exact ⟨by simp [beforePos, h1], rfl⟩) (by repeat (first | (with_reducible exact Fin.done (by repeat (first | (with_reducible exact Rest.here) | apply Rest.there))) | (apply Fin.cons (by first | ((repeat (first | (with_reducible exact F0 _) | apply F1)); done) | (repeat (first | exact F0 _ | apply F1))))))
  · try simp only [ZA, ZB, ZC, ZD, ZE, ZF, ZG, ZH, ZI, ZJ, ZK, ZL, ZM, ZN, ZO, ZP, ZQ, ZR] at h1
    refine RunL.pure (Pure.fieldAddr rfl fo26_0) (Wt.yes rfl rfl rfl) rfl rfl ?_
    first | refine RunL.load1 rfl (by first | ((repeat (first | (with_reducible exact F0 _) | apply F1)); done) | (repeat (first | exact F0 _ | apply F1))) (by rfl) agg3 (Wt.yes rfl rfl rfl) rfl ?_ | refine RunL.load1R rfl (by assumption) (by rfl) agg3 (Wt.yes rfl rfl rfl) rfl ?_
    refine RunL.pure (Pure.fieldAddr rfl fo26_0) (Wt.yes rfl rfl rfl) rfl rfl ?_
    first | refine RunL.load1 rfl (by first | ((repeat (first | (with_reducible exact F0 _) | apply F1)); done) | (repeat (first | exact F0 _ | apply F1))) (by rfl) agg3 (Wt.yes rfl rfl rfl) rfl ?_ | refine RunL.load1R rfl (by assumption) (by rfl) agg3 (Wt.yes rfl rfl rfl) rfl ?_
    refine RunL.pure (Pure.eql rfl rfl) (Wt.yes rfl rfl rfl) rfl rfl ?_
    refine RunL.pure (Pure.move rfl) (Wt.yes rfl rfl rfl) rfl rfl ?_
    refine RunL.split (d := 16) rfl (fun h2 => ?_) (fun h2 => ?_)
    · try simp only [ZA, ZB, ZC, ZD, ZE, ZF, ZG, ZH, ZI, ZJ, ZK, ZL, ZM, ZN, ZO, ZP, ZQ, ZR] at h2
      refine RunL.pure (Pure.fieldAddr rfl fo26_1) (Wt.yes rfl rfl rfl) rfl rfl ?_
      first | refine RunL.load1 rfl (by first | ((repeat (first | (with_reducible exact F0 _) | apply F1)); done) | (repeat (first | exact F0 _ | apply F1))) (by rfl) agg9 (Wt.yes rfl rfl rfl) rfl ?_ | refine RunL.load1R rfl (by assumption) (by rfl) agg9 (Wt.yes rfl rfl rfl) rfl ?_
      refine RunL.pure (Pure.fieldAddr rfl fo26_1) (Wt.yes rfl rfl rfl) rfl rfl ?_
      first | refine RunL.load1 rfl (by first | ((repeat (first | (with_reducible exact F0 _) | apply F1)); done) | (repeat (first | exact F0 _ | apply F1))) (by rfl) agg9 (Wt.yes rfl rfl rfl) rfl ?_ | refine RunL.load1R rfl (by assumption) (by rfl) agg9 (Wt.yes rfl rfl rfl) rfl ?_
      refine RunL.pure (Pure.slss rfl rfl) (Wt.yes rfl rfl rfl) rfl rfl ?_
      refine RunL.pure (Pure.pickT rfl rfl) (Wt.yes rfl rfl rfl) rfl rfl ?_
      refine RunL.pure (Pure.pickF rfl rfl) (Wt.none rfl) rfl rfl ?_
      refine RunL.as rfl rfl ?_
      refine RunL.nil ?_
      exact Run.ret Try.func19 (res1 rfl rfl) (by exact ⟨by simp [beforePos, h2], rfl⟩) (by repeat (first | (with_reducible exact Fin.done (by repeat (first | (with_reducible exact Rest.here) | apply Rest.there))) | (apply Fin.cons (by first | ((repeat (first | (with_reducible exact F0 _) | apply F1)); done) | (repeat (first | exact F0 _ | apply F1))))))
    · try simp only [ZA, ZB, ZC, ZD, ZE, ZF, ZG, ZH, ZI, ZJ, ZK, ZL, ZM, ZN, ZO, ZP, ZQ, ZR] at h2
      refine RunL.not (Wt.no rfl rfl rfl) rfl rfl ?_
      refine RunL.not (Wt.no rfl rfl rfl) rfl rfl ?_
      refine RunL.not (Wt.no rfl rfl rfl) rfl rfl ?_
      refine RunL.not (Wt.no rfl rfl rfl) rfl rfl ?_
      refine RunL.not (Wt.no rfl rfl rfl) rfl rfl ?_
      refine RunL.pure (Pure.pickF rfl rfl) (Wt.yes rfl rfl rfl) rfl rfl ?_
      refine RunL.pure (Pure.pickF rfl rfl) (Wt.none rfl) rfl rfl ?_
      refine RunL.as rfl rfl ?_
      refine RunL.nil ?_
      exact Run.ret Try.func19 (res1 rfl rfl) (by exact ⟨by have : ¬ p.depth < q.depth := (by omega); simp [beforePos, h2, this], rfl⟩) (by repeat (first | (with_reducible exact Fin.done (by repeat (first | (with_reducible exact Rest.here) | apply Rest.there))) | (apply Fin.cons (by first | ((repeat (first | (with_reducible exact F0 _) | apply F1)); done) | (repeat (first | exact F0 _ | apply F1))))))

set_option maxRecDepth 100000 in
theorem beforeK_ctr {G : Gp} {p q : K} :
    Ctr Try.prog G 21 [.agg (cK p).toArray, .agg (cK q).toArray] [] (fun F v A => v = .bool (beforeK p q) ∧ A = F) := by
  refine Ctr.intro Try.func21 rfl (by kernel_rfl) rfl (fun F => ?_)
  simp only [List.nil_append]
  refine Run.sr ?_
  refine RunL.boxA (xs := (cK p)) rfl (Wt.none rfl) rfl ?_; intro b2
  refine RunL.boxA (xs := (cK q)) rfl (Wt.none rfl) rfl ?_; intro b3
  refine RunL.as rfl rfl ?_
  refine RunL.nil ?_
  refine Run.seq ?_
  refine Run.sr ?_
  refine RunL.pure (Pure.fieldAddr rfl fo24_0) (Wt.none rfl) rfl rfl ?_
  first | refine RunL.load1 rfl (by first | ((repeat (first | (with_reducible exact F0 _) | apply F1)); done) | (repeat (first | exact F0 _ | apply F1))) (by rfl) agg9 (Wt.none rfl) rfl ?_ | refine RunL.load1R rfl (by assumption) (by rfl) agg9 (Wt.none rfl) rfl ?_
  refine RunL.pure (Pure.fieldAddr rfl fo24_0) (Wt.none rfl) rfl rfl ?_
  first | refine RunL.load1 rfl (by first | ((repeat (first | (with_reducible exact F0 _) | apply F1)); done) | (repeat (first | exact F0 _ | apply F1))) (by rfl) agg9 (Wt.none rfl) rfl ?_ | refine RunL.load1R rfl (by assumption) (by rfl) agg9 (Wt.none rfl) rfl ?_
  refine RunL.pure (Pure.sneq rfl rfl) (Wt.none rfl) rfl rfl ?_
  refine RunL.nil ?_
  refine Run.cond rfl (fun h1 => ?_) (fun h1 => ?_)
  · try simp only [ZA, ZB, ZC, ZD, ZE, ZF, ZG, ZH, ZI, ZJ, ZK, ZL, ZM, ZN, ZO, ZP, ZQ, ZR] at h1
    refine Run.sr ?_
    refine RunL.pure (Pure.fieldAddr rfl fo24_0) (Wt.none rfl) rfl rfl ?_
    first | refine RunL.load1 rfl (by first | ((repeat (first | (with_reducible exact F0 _) | apply F1)); done) | (repeat (first | exact F0 _ | apply F1))) (by rfl) agg9 (Wt.none rfl) rfl ?_ | refine RunL.load1R rfl (by assumption) (by rfl) agg9 (Wt.none rfl) rfl ?_
    refine RunL.pure (Pure.fieldAddr rfl fo24_0) (Wt.none rfl) rfl rfl ?_
    first | refine RunL.load1 rfl (by first | ((repeat (first | (with_reducible exact F0 _) | apply F1)); done) | (repeat (first | exact F0 _ | apply F1))) (by rfl) agg9 (Wt.none rfl) rfl ?_ | refine RunL.load1R rfl (by assumption) (by rfl) agg9 (Wt.none rfl) rfl ?_
    refine RunL.pure (Pure.slss rfl rfl) (Wt.none rfl) rfl rfl ?_
    refine RunL.as rfl rfl ?_
    refine RunL.nil ?_
    exact Run.ret Try.func21 (res1 rfl rfl) (by exact ⟨by rw [beforeK, if_pos (fun e => h1 (by rw [e]))], rfl⟩) (by repeat (first | (with_reducible exact Fin.done (by repeat (first | (with_reducible exact Rest.here) | apply Rest.there))) | (apply Fin.cons (by first | ((repeat (first | (with_reducible exact F0 _) | apply F1)); done) | (repeat (first | exact F0 _ | apply F1))))))
  · try simp only [ZA, ZB, ZC, ZD, ZE, ZF, ZG, ZH, ZI, ZJ, ZK, ZL, ZM, ZN, ZO, ZP, ZQ, ZR] at h1
    replace h1 := bl_inj h1
    refine Run.skip ?_
    refine Run.seq ?_
    refine Run.sr ?_
    refine RunL.pure (Pure.fieldAddr rfl fo24_1) (Wt.none rfl) rfl rfl ?_
    first | refine RunL.load1 rfl (by first | ((repeat (first | (with_reducible exact F0 _) | apply F1)); done) | (repeat (first | exact F0 _ | apply F1))) (by rfl) agg9 (Wt.none rfl) rfl ?_ | refine RunL.load1R rfl (by assumption) (by rfl) agg9 (Wt.none rfl) rfl ?_
    refine RunL.pure (Pure.fieldAddr rfl fo24_1) (Wt.none rfl) rfl rfl ?_
    first | refine RunL.load1 rfl (by first | ((repeat (first | (with_reducible exact F0 _) | apply F1)); done) | (repeat (first | exact F0 _ | apply F1))) (by rfl) agg9 (Wt.none rfl) rfl ?_ | refine RunL.load1R rfl (by assumption) (by rfl) agg9 (Wt.none rfl) rfl ?_
    refine RunL.pure (Pure.sneq rfl rfl) (Wt.none rfl) rfl rfl ?_
    refine RunL.nil ?_
    refine Run.cond rfl (fun h2 => ?_) (fun h2 => ?_)
    · try simp only [ZA, ZB, ZC, ZD, ZE, ZF, ZG, ZH, ZI, ZJ, ZK, ZL, ZM, ZN, ZO, ZP, ZQ, ZR] at h2
      refine Run.sr ?_
      refine RunL.pure (Pure.fieldAddr rfl fo24_1) (Wt.none rfl) rfl rfl ?_
      first | refine RunL.load1 rfl (by first | ((repeat (first | (with_reducible exact F0 _) | apply F1)); done) | (repeat (first | exact F0 _ | apply F1))) (by rfl) agg9 (Wt.none rfl) rfl ?_ | refine RunL.load1R rfl (by assumption) (by rfl) agg9 (Wt.none rfl) rfl ?_
      refine RunL.pure (Pure.fieldAddr rfl fo24_1) (Wt.none rfl) rfl rfl ?_
      first | refine RunL.load1 rfl (by first | ((repeat (first | (with_reducible exact F0 _) | apply F1)); done) | (repeat (first | exact F0 _ | apply F1))) (by rfl) agg9 (Wt.none rfl) rfl ?_ | refine RunL.load1R rfl (by assumption) (by rfl) agg9 (Wt.none rfl) rfl ?_
      refine RunL.pure (Pure.slss rfl rfl) (Wt.none rfl) rfl rfl ?_
      refine RunL.as rfl rfl ?_
      refine RunL.nil ?_
      exact Run.ret Try.func21 (res1 rfl rfl) (by exact ⟨by rw [beforeK, if_neg (fun e => e h1), if_pos (fun e => h2 (by rw [e]))], rfl⟩) (by repeat (first | (with_reducible exact Fin.done (by repeat (first | (with_reducible exact Rest.here) | apply Rest.there))) | (apply Fin.cons (by first | ((repeat (first | (with_reducible exact F0 _) | apply F1)); done) | (repeat (first | exact F0 _ | apply F1))))))
    · try simp only [ZA, ZB, ZC, ZD, ZE, ZF, ZG, ZH, ZI, ZJ, ZK, ZL, ZM, ZN, ZO, ZP, ZQ, ZR] at h2
      replace h2 := bl_inj h2
      refine Run.skip ?_
      refine Run.seq ?_
      refine Run.sr ?_
      refine RunL.pure (Pure.fieldAddr rfl fo24_2) (Wt.none rfl) rfl rfl ?_
      first | refine RunL.load1 rfl (by first | ((repeat (first | (with_reducible exact F0 _) | apply F1)); done) | (repeat (first | exact F0 _ | apply F1))) (by rfl) agg9 (Wt.none rfl) rfl ?_ | refine RunL.load1R rfl (by assumption) (by rfl) agg9 (Wt.none rfl) rfl ?_
      refine RunL.pure (Pure.fieldAddr rfl fo24_2) (Wt.none rfl) rfl rfl ?_
      first | refine RunL.load1 rfl (by first | ((repeat (first | (with_reducible exact F0 _) | apply F1)); done) | (repeat (first | exact F0 _ | apply F1))) (by rfl) agg9 (Wt.none rfl) rfl ?_ | refine RunL.load1R rfl (by assumption) (by rfl) agg9 (Wt.none rfl) rfl ?_
      refine RunL.pure (Pure.sneq rfl rfl) (Wt.none rfl) rfl rfl ?_
      refine RunL.nil ?_
      refine Run.cond rfl (fun h3 => ?_) (fun h3 => ?_)
      · try simp only [ZA, ZB, ZC, ZD, ZE, ZF, ZG, ZH, ZI, ZJ, ZK, ZL, ZM, ZN, ZO, ZP, ZQ, ZR] at h3
        refine Run.sr ?_
        refine RunL.pure (Pure.fieldAddr rfl fo24_2) (Wt.none rfl) rfl rfl ?_
        first | refine RunL.load1 rfl (by first | ((repeat (first | (with_reducible exact F0 _) | apply F1)); done) | (repeat (first | exact F0 _ | apply F1))) (by rfl) agg9 (Wt.none rfl) rfl ?_ | refine RunL.load1R rfl (by assumption) (by rfl) agg9 (Wt.none rfl) rfl ?_
        refine RunL.pure (Pure.fieldAddr rfl fo24_2) (Wt.none rfl) rfl rfl ?_
        first | refine RunL.load1 rfl (by first | ((repeat (first | (with_reducible exact F0 _) | apply F1)); done) | (repeat (first | exact F0 _ | apply F1))) (by rfl) agg9 (Wt.none rfl) rfl ?_ | refine RunL.load1R rfl (by assumption) (by rfl) agg9 (Wt.none rfl) rfl ?_
        refine RunL.pure (Pure.slss rfl rfl) (Wt.none rfl) rfl rfl ?_
        refine RunL.as rfl rfl ?_
        refine RunL.nil ?_
        exact Run.ret Try.func21 (res1 rfl rfl) (by exact ⟨by rw [beforeK, if_neg (fun e => e h1), if_neg (fun e => e h2), if_pos (fun e => h3 (by rw [e]))], rfl⟩) (by repeat (first | (with_reducible exact Fin.done (by repeat (first | (with_reducible exact Rest.here) | apply Rest.there))) | (apply Fin.cons (by first | ((repeat (first | (with_reducible exact F0 _) | apply F1)); done) | (repeat (first | exact F0 _ | apply F1))))))
      · try simp only [ZA, ZB, ZC, ZD, ZE, ZF, ZG, ZH, ZI, ZJ, ZK, ZL, ZM, ZN, ZO, ZP, ZQ, ZR] at h3
        replace h3 := bl_inj h3
        refine Run.skip ?_
        refine Run.sr ?_
        refine RunL.pure (Pure.fieldAddr rfl fo24_3) (Wt.none rfl) rfl rfl ?_
        first | refine RunL.load1 rfl (by first | ((repeat (first | (with_reducible exact F0 _) | apply F1)); done) | (repeat (first | exact F0 _ | apply F1))) (by rfl) agg4 (Wt.none rfl) rfl ?_ | refine RunL.load1R rfl (by assumption) (by rfl) agg4 (Wt.none rfl) rfl ?_
        refine RunL.pure (Pure.not rfl) (Wt.none rfl) rfl rfl ?_
        refine RunL.mv rfl rfl ?_
        refine RunL.split (d := 38) rfl (fun h4 => ?_) (fun h4 => ?_)
        · try simp only [ZA, ZB, ZC, ZD, ZE, ZF, ZG, ZH, ZI, ZJ, ZK, ZL, ZM, ZN, ZO, ZP, ZQ, ZR] at h4
          refine RunL.pure (Pure.fieldAddr rfl fo24_3) (Wt.yes rfl rfl rfl) rfl rfl ?_
          first | refine RunL.load1 rfl (by first | ((repeat (first | (with_reducible exact F0 _) | apply F1)); done) | (repeat (first | exact F0 _ | apply F1))) (by rfl) agg4 (Wt.yes rfl rfl rfl) rfl ?_ | refine RunL.load1R rfl (by assumption) (by rfl) agg4 (Wt.yes rfl rfl rfl) rfl ?_
          refine RunL.pure (Pure.pickT rfl rfl) (Wt.none rfl) rfl rfl ?_
          refine RunL.as rfl rfl ?_
          refine RunL.nil ?_
          exact Run.ret Try.func21 (res1 rfl rfl) (by exact ⟨by rw [beforeK, if_neg (fun e => e h1), if_neg (fun e => e h2), if_neg (fun e => e h3), h4]; rfl, rfl⟩) (by repeat (first | (with_reducible exact Fin.done (by repeat (first | (with_reducible exact Rest.here) | apply Rest.there))) | (apply Fin.cons (by first | ((repeat (first | (with_reducible exact F0 _) | apply F1)); done) | (repeat (first | exact F0 _ | apply F1))))))
        · try simp only [ZA, ZB, ZC, ZD, ZE, ZF, ZG, ZH, ZI, ZJ, ZK, ZL, ZM, ZN, ZO, ZP, ZQ, ZR] at h4
          refine RunL.not (Wt.no rfl rfl rfl) rfl rfl ?_
          refine RunL.not (Wt.no rfl rfl rfl) rfl rfl ?_
          refine RunL.pure (Pure.pickF rfl rfl) (Wt.none rfl) rfl rfl ?_
          refine RunL.as rfl rfl ?_
          refine RunL.nil ?_
          exact Run.ret Try.func21 (res1 rfl rfl) (by exact ⟨by rw [beforeK, if_neg (fun e => e h1), if_neg (fun e => e h2), if_neg (fun e => e h3), h4]; rfl, rfl⟩) (by repeat (first | (with_reducible exact Fin.done (by repeat (first | (with_reducible exact Rest.here) | apply Rest.there))) | (apply Fin.cons (by first | ((repeat (first | (with_reducible exact F0 _) | apply F1)); done) | (repeat (first | exact F0 _ | apply F1))))))

end Go.Proofs.Ytaeacdhilekcbaa
