/- Heaps: up. -/
import Derived.Test.YtppamndllgojnaaH3
set_option linter.unusedVariables false
set_option linter.unusedSimpArgs false
set_option linter.unusedSectionVars false
namespace Go.Proofs.Ytppamndllgojnaa
open Go Csl
theorem zz45 : zeroIs Try.prog 45 = some (.agg #[(.int .i64 0), (.string .empty)]) := by kernel_rfl

set_option maxHeartbeats 2000000 in
set_option maxRecDepth 100000 in
theorem up_ctr {G : Gp} {p : Nat} {l0 : List E} {at_ : List (ByteArray × Int)} {i0 : Nat} {en : E} (hi : l0[i0]? = some en) (hu : HpUp l0 i0) (hk : KyD l0) (hx : Ix l0 at_ (· = en.key)) (hn : KN at_) (hb : l0.length ≤ 1000) :
    Ctr Try.prog G 27 [.pointer (some ⟨p, 0, none⟩), .int .i64 (i0 : Nat)] [HqA p l0 at_] (fun F v A => ∃ V at', v = .tuple #[] ∧ V.Perm l0 ∧ HpOk V ∧ Ix V at' (fun _ => False) ∧ KN at' ∧ A = HqA p V at' :: F) := by
  refine Ctr.intro Try.func27 rfl (by kernel_rfl) rfl (fun F => ?_)
  simp only [List.cons_append, List.nil_append]
  have hi0 := (List.getElem?_eq_some_iff.1 hi).1
  have hset0 : l0.set i0 en = l0 := set_same0 hi
  refine Run.openA (by first | ((repeat (first | (with_reducible exact F0 _) | apply F1)); done) | (repeat (first | exact F0 _ | apply F1))) ?_; intro a cap r
  refine Run.openSl (a := a) (n := (l0).length) (by first | ((repeat (first | (with_reducible exact F0 _) | apply F1)); done) | (repeat (first | exact F0 _ | apply F1))) (by omega) ?_; rintro b2 pre2 post2 rfl hsl1 hsl2 hsl3
  refine Run.sr ?_
  refine RunL.mv rfl rfl ?_
  refine RunL.pure (Pure.nilCheck rfl) (Wt.none rfl) rfl rfl ?_
  refine RunL.pure (Pure.fieldAddr rfl fo60_0) (Wt.none rfl) rfl rfl ?_
  first | refine RunL.load1 rfl (by first | ((repeat (first | (with_reducible exact F0 _) | apply F1)); done) | (repeat (first | exact F0 _ | apply F1))) (by rfl) agg53 (Wt.none rfl) rfl ?_ | refine RunL.load1R rfl (by assumption) (by rfl) agg53 (Wt.none rfl) rfl ?_
  refine RunL.mv rfl rfl ?_
  refine RunL.pure (Pure.indexAddr rfl rfl und53 sz45 (by omega) (by omega)) (Wt.none rfl) rfl rfl ?_
  refine RunL.loadA (vs := (cE en)) rfl (by first | ((repeat (first | (with_reducible exact F0 _) | apply F1)); done) | (repeat (first | exact F0 _ | apply F1))) agg45 sz45 (elemN_len (f := cE) (sz := 2) (j := 0) (n := 2) (fun _ _ => rfl) hi (by decide)) ((elemN_at (f := cE) (sz := 2) (j := 0) (n := 2) (fun _ _ => rfl) hi (by decide)).trans rfl) (Wt.none rfl) rfl ?_
  refine RunL.alloc zz45 (Wt.none rfl) rfl ?_; intro b4
  refine RunL.storeW (xs := (cE en)) rfl rfl (by first | ((repeat (first | (with_reducible exact F0 _) | apply F1)); done) | (repeat (first | exact F0 _ | apply F1))) sz45 (by rfl) (by rfl) (by rfl) (Wt.none rfl) ?_
  refine RunL.mkSl (b := b2) (pre := pre2) (post := post2) (sz := 2) (cs := (l0).flatMap cE) (n := (l0).length) (by first | ((repeat (first | (with_reducible exact F0 _) | apply F1)); done) | (repeat (first | exact F0 _ | apply F1))) hsl1 (by simpa using hsl2) (by simpa using hsl3) ?_
  refine RunL.mkA (l0) (by repeat (first | (with_reducible exact Take.nil _) | (apply Take.cons (by first | ((repeat (first | (with_reducible exact F0 _) | apply F1)); done) | (repeat (first | exact F0 _ | apply F1)))))) (by simp) ?_
  refine RunL.nil ?_
  refine Run.seq ?_
  refine Run.block ?_
  refine Run.keep (.cons rfl (.cons rfl (.cons rfl (.nil))) : Keep _ [0, 1, 4] _) ?_
  refine Run.loopF (F := F) (fun n e A => ∃ (i : Nat) (l : List E) (at' : List (ByteArray × Int)), i < l.length ∧ l.length ≤ 1000 ∧ HpUp (l.set i en) i ∧ (l.set i en).Perm l0 ∧ Ix (l.set i en) at' (· = en.key) ∧ KN at' ∧ n = i + 1 ∧ e = [(0, .pointer (some ⟨p, 0, none⟩)), (1, .int .i64 (i : Nat)), (4, .pointer (some ⟨b4, 0, none⟩))] ∧ A = HqA p l at' :: row b4 45 (cE en) :: F) (i0 + 1) (by exact ⟨i0, l0, at_, hi0, hb, by rw [hset0]; exact hu, by rw [hset0], by rw [hset0]; exact hx, hn, rfl, rfl, rfl⟩) (by repeat (first | (with_reducible exact Fin.done (by repeat (first | (with_reducible exact Rest.here) | apply Rest.there))) | (apply Fin.cons (by first | ((repeat (first | (with_reducible exact F0 _) | apply F1)); done) | (repeat (first | exact F0 _ | apply F1)))))) ?_
  rintro n _ _ ⟨i, l, at', hil, hb', hup, hperm, hix, hka, rfl, rfl, hA_⟩ ih
  replace hA_ := hA_.symm; subst hA_
  refine Run.openA (by first | ((repeat (first | (with_reducible exact F0 _) | apply F1)); done) | (repeat (first | exact F0 _ | apply F1))) ?_; intro a cap r
  refine Run.seq ?_
  refine Run.seq ?_
  refine Run.regionD' (by kernel_rfl) (by kernel_rfl) (fun hok22 => ?_)
  refine RunD.lend (Q := row b4 45 _) Lends.row (by first | ((repeat (first | (with_reducible exact F0 _) | apply F1)); done) | (repeat (first | exact F0 _ | apply F1))) ?_; intro gl1 hlegl1 hl1 backgl1
  refine RunD.lend (Q := row p 60 _) Lends.row (by first | ((repeat (first | (with_reducible exact F0 _) | apply F1)); done) | (repeat (first | exact F0 _ | apply F1))) ?_; intro g1 hleg1 hg1 backg1
  try (replace hl1 := hl1.mono hleg1)
  refine RunD.lend (Q := Sl 45 2 a (l).length cap _) Lends.Sl (by first | ((repeat (first | (with_reducible exact F0 _) | apply F1)); done) | (repeat (first | exact F0 _ | apply F1))) ?_; intro g2 hleg2 hg2 backg2
  try (replace hl1 := hl1.mono hleg2)
  try (replace hg1 := hg1.mono hleg2)
  refine RunD.pure (i := 0) hok22 rfl (by kernel_rfl) (Pure.move rfl) (Wt.none rfl) rfl rfl ?_
  refine RunD.pure (i := 1) hok22 rfl (by kernel_rfl) (Pure.gtr rfl rfl) (Wt.none rfl) rfl rfl ?_
  refine RunD.pure (i := 2) hok22 rfl (by kernel_rfl) (Pure.move rfl) (Wt.none rfl) rfl rfl ?_
  refine RunD.split (d := 14) rfl (fun h3 => ?_) (fun h3 => ?_)
  · try simp only [ZA, ZB, ZC, ZD, ZE, ZF, ZG, ZH, ZI, ZJ, ZK, ZL, ZM, ZN, ZO, ZP, ZQ, ZR] at h3
    have hpl : up1 i < l.length := by unfold up1; omega
    obtain ⟨x, hxp⟩ := get_some hpl
    obtain ⟨bb, TT, pre, post, rfl, hro⟩ := hg2.1.open1 (show 0 < (l).length by omega)
    refine RunD.loadNR (vs := (cE en)) (i := 3) hok22 rfl (by kernel_rfl) rfl (by assumption) agg45 sz45 (by first | exact Nat.le_of_ble_eq_true rfl | (simp; done) | (simp; omega)) rfl (Wt.yes rfl rfl rfl) rfl ?_
    refine RunD.pure (i := 4) hok22 rfl (by kernel_rfl) (Pure.move rfl) (Wt.yes rfl rfl rfl) rfl rfl ?_
    refine RunD.pure (i := 5) hok22 rfl (by kernel_rfl) (Pure.nilCheck rfl) (Wt.yes rfl rfl rfl) rfl rfl ?_
    refine RunD.pure (i := 6) hok22 rfl (by kernel_rfl) (Pure.fieldAddr rfl fo60_0) (Wt.yes rfl rfl rfl) rfl rfl ?_
    refine RunD.load1R (i := 7) hok22 rfl (by kernel_rfl) rfl (by assumption) (by rfl) agg53 (Wt.yes rfl rfl rfl) rfl ?_
    refine RunD.pure (i := 8) hok22 rfl (by kernel_rfl) (Pure.move rfl) (Wt.yes rfl rfl rfl) rfl rfl ?_
    first | refine RunD.pure (i := 9) hok22 rfl (by kernel_rfl) (Pure.subI rfl rfl (by omega)) (Wt.yes rfl rfl rfl) rfl rfl ?_ | refine RunD.pure (i := 9) hok22 rfl (by kernel_rfl) (Pure.sub rfl rfl) (Wt.yes rfl rfl rfl) rfl rfl ?_
    first | refine RunD.pure (i := 10) hok22 rfl (by kernel_rfl) (Pure.quoI rfl rfl (by omega) (by omega) (by omega)) (Wt.yes rfl rfl rfl) rfl rfl ?_ | refine RunD.pure (i := 10) hok22 rfl (by kernel_rfl) (Pure.quo rfl rfl (by omega)) (Wt.yes rfl rfl rfl) rfl rfl ?_
    refine RunD.pure (i := 11) hok22 rfl (by kernel_rfl) (Pure.indexAddr rfl rfl und53 sz45 (by omega) (by omega)) (Wt.yes rfl rfl rfl) rfl rfl ?_
    refine RunD.loadNR (vs := (cE x)) (i := 12) hok22 rfl (by kernel_rfl) rfl hro agg45 sz45 (elemN_len (f := cE) (sz := 2) (j := 0) (n := 2) (fun _ _ => rfl) (show l[(((i : Int) - 1) / 2).toNat]? = some x from by rw [show (((i : Int) - 1) / 2).toNat = up1 i from by unfold up1; omega]; exact hxp) (by decide)) ((elemN_at (f := cE) (sz := 2) (j := 0) (n := 2) (fun _ _ => rfl) (show l[(((i : Int) - 1) / 2).toNat]? = some x from by rw [show (((i : Int) - 1) / 2).toNat = up1 i from by unfold up1; omega]; exact hxp) (by decide)).trans rfl) (Wt.yes rfl rfl rfl) rfl ?_
    refine RunD.one (i := 13) (by kernel_rfl) rfl ?_
    refine RunL.call rfl rfl (by rfl) (by repeat (first | (with_reducible exact Take.nil _) | (apply Take.cons (by first | ((repeat (first | (with_reducible exact F0 _) | apply F1)); done) | (repeat (first | exact F0 _ | apply F1)))))) (ahead_ctr) (Wt.yes rfl rfl rfl) rfl ?_
    rintro _ _ ⟨rfl, hA_⟩
    replace hA_ := hA_.symm; subst hA_
    refine RunL.nilD' ?_
    refine RunD.pure (i := 14) hok22 rfl (by kernel_rfl) (Pure.lss rfl rfl) (Wt.yes rfl rfl rfl) rfl rfl ?_
    refine RunD.pure (i := 15) hok22 rfl (by kernel_rfl) (Pure.pickT rfl rfl) (Wt.none rfl) rfl rfl ?_
    refine RunD.nilB (by kernel_rfl) (fun w sw => backgl1 _ _ (backg1 _ _ (backg2 _ _ (sw)))) ?_
    refine Run.cond rfl (fun h4 => ?_) (fun h4 => ?_)
    · try simp only [ZA, ZB, ZC, ZD, ZE, ZF, ZG, ZH, ZI, ZJ, ZK, ZL, ZM, ZN, ZO, ZP, ZQ, ZR] at h4
      refine Run.openSl (a := some ⟨bb, pre.length, none⟩) (n := l.length) (by first | ((repeat (first | (with_reducible exact F0 _) | apply F1)); done) | (repeat (first | exact F0 _ | apply F1))) (by omega) ?_; rintro b2 pre2 post2 ha2 hsl1 hsl2 hsl3
      obtain ⟨rfl, hpl2⟩ : bb = b2 ∧ pre.length = pre2.length := by injection ha2 with ha2; injection ha2 with h1 h2; exact ⟨h1, h2⟩
      rw [hpl2]
      refine Run.skip ?_
      refine Run.block ?_
      refine Run.sr ?_
      refine RunL.mv rfl rfl ?_
      refine RunL.mv rfl rfl ?_
      refine RunL.mv rfl rfl ?_
      refine RunL.pure (Pure.nilCheck rfl) (Wt.none rfl) rfl rfl ?_
      refine RunL.pure (Pure.fieldAddr rfl fo60_0) (Wt.none rfl) rfl rfl ?_
      first | refine RunL.load1 rfl (by first | ((repeat (first | (with_reducible exact F0 _) | apply F1)); done) | (repeat (first | exact F0 _ | apply F1))) (by rfl) agg53 (Wt.none rfl) rfl ?_ | refine RunL.load1R rfl (by assumption) (by rfl) agg53 (Wt.none rfl) rfl ?_
      refine RunL.mv rfl rfl ?_
      first | refine RunL.pure (Pure.subI rfl rfl (by omega)) (Wt.none rfl) rfl rfl ?_ | refine RunL.pure (Pure.sub rfl rfl) (Wt.none rfl) rfl rfl ?_
      first | refine RunL.pure (Pure.quoI rfl rfl (by omega) (by omega) (by omega)) (Wt.none rfl) rfl rfl ?_ | refine RunL.pure (Pure.quo rfl rfl (by omega)) (Wt.none rfl) rfl rfl ?_
      refine RunL.pure (Pure.indexAddr rfl rfl und53 sz45 (by omega) (by omega)) (Wt.none rfl) rfl rfl ?_
      refine RunL.loadA (vs := (cE x)) rfl (by first | ((repeat (first | (with_reducible exact F0 _) | apply F1)); done) | (repeat (first | exact F0 _ | apply F1))) agg45 sz45 (elemN_len (f := cE) (sz := 2) (j := 0) (n := 2) (fun _ _ => rfl) (show l[(((i : Int) - 1) / 2).toNat]? = some x from by rw [show (((i : Int) - 1) / 2).toNat = up1 i from by unfold up1; omega]; exact hxp) (by decide)) ((elemN_at (f := cE) (sz := 2) (j := 0) (n := 2) (fun _ _ => rfl) (show l[(((i : Int) - 1) / 2).toNat]? = some x from by rw [show (((i : Int) - 1) / 2).toNat = up1 i from by unfold up1; omega]; exact hxp) (by decide)).trans rfl) (Wt.none rfl) rfl ?_
      refine RunL.mkSl (b := bb) (pre := pre2) (post := post2) (sz := 2) (cs := (l).flatMap cE) (n := (l).length) (by first | ((repeat (first | (with_reducible exact F0 _) | apply F1)); done) | (repeat (first | exact F0 _ | apply F1))) hsl1 (by simpa using hsl2) (by simpa using hsl3) ?_
      refine RunL.mkA (l) (by repeat (first | (with_reducible exact Take.nil _) | (apply Take.cons (by first | ((repeat (first | (with_reducible exact F0 _) | apply F1)); done) | (repeat (first | exact F0 _ | apply F1)))))) (by simp) ?_
      refine RunL.call rfl rfl (by rfl) (by repeat (first | (with_reducible exact Take.nil _) | (apply Take.cons (by first | ((repeat (first | (with_reducible exact F0 _) | apply F1)); done) | (repeat (first | exact F0 _ | apply F1)))))) (set_ctr hil (by omega)) (Wt.none rfl) rfl ?_
      rintro _ _ ⟨rfl, hA_⟩
      replace hA_ := hA_.symm; subst hA_
      refine RunL.nil ?_
      refine Run.region ?_
      refine RunL.mv rfl rfl ?_
      first | refine RunL.pure (Pure.subI rfl rfl (by omega)) (Wt.none rfl) rfl rfl ?_ | refine RunL.pure (Pure.sub rfl rfl) (Wt.none rfl) rfl rfl ?_
      first | refine RunL.pure (Pure.quoI rfl rfl (by omega) (by omega) (by omega)) (Wt.none rfl) rfl rfl ?_ | refine RunL.pure (Pure.quo rfl rfl (by omega)) (Wt.none rfl) rfl rfl ?_
      refine RunL.as rfl rfl ?_
      refine RunL.nil ?_
      refine Run.inBlock ?_
      rw [show ((i : Int) - 1) / 2 = ((up1 i : Nat) : Int) from by unfold up1; omega]
      refine Run.keep (.cons rfl (.cons rfl (.cons rfl (.nil))) : Keep _ [0, 1, 4] _) ?_
      refine Run.againF (F := F) ih (by exact ⟨up1 i, l.set i x, mput x.key (i : Int) at', by simp; omega, by simpa using hb', hup.move hil (by omega) hxp (by omega), (hole_perm hil hxp (by unfold up1; omega)).trans hperm, hix.move hil hxp (by unfold up1; omega) (hk.perm hperm.symm), hka.mput, rfl, rfl, rfl⟩) (by repeat (first | (with_reducible exact Fin.done (by repeat (first | (with_reducible exact Rest.here) | apply Rest.there))) | (apply Fin.cons (by first | ((repeat (first | (with_reducible exact F0 _) | apply F1)); done) | (repeat (first | exact F0 _ | apply F1)))))) ?_
      unfold up1; omega
    · try simp only [ZA, ZB, ZC, ZD, ZE, ZF, ZG, ZH, ZI, ZJ, ZK, ZL, ZM, ZN, ZO, ZP, ZQ, ZR] at h4
      refine Run.mkA (l) (by repeat (first | (with_reducible exact Take.nil _) | (apply Take.cons (by first | ((repeat (first | (with_reducible exact F0 _) | apply F1)); done) | (repeat (first | exact F0 _ | apply F1)))))) (by simp) ?_
      refine Run.exit rfl ?_
      refine Run.region ?_
      refine RunL.mv rfl rfl ?_
      refine RunL.mv rfl rfl ?_
      first | refine RunL.loadA (vs := (cE en)) rfl (by first | ((repeat (first | (with_reducible exact F0 _) | apply F1)); done) | (repeat (first | exact F0 _ | apply F1))) agg45 sz45 (by first | exact Nat.le_of_ble_eq_true rfl | (simp; done) | (simp; omega)) rfl (Wt.none rfl) rfl ?_ | refine RunL.loadNR (vs := (cE en)) rfl (by assumption) agg45 sz45 (by first | exact Nat.le_of_ble_eq_true rfl | (simp; done) | (simp; omega)) rfl (Wt.none rfl) rfl ?_
      refine RunL.call rfl rfl (by rfl) (by repeat (first | (with_reducible exact Take.nil _) | (apply Take.cons (by first | ((repeat (first | (with_reducible exact F0 _) | apply F1)); done) | (repeat (first | exact F0 _ | apply F1)))))) (set_ctr hil (by omega)) (Wt.none rfl) rfl ?_
      rintro _ _ ⟨rfl, hA_⟩
      replace hA_ := hA_.symm; subst hA_
      refine RunL.nil ?_
      exact Run.fin Try.func27 (res0 rfl) (by exact ⟨_, _, rfl, hperm, hup.done (by rw [List.getElem?_set, if_pos rfl, if_pos hil]) (.inr (fun y hy => by rw [List.getElem?_set, if_neg (by unfold up1; omega), hxp] at hy; cases hy; omega)), hix.done hil (hk.perm hperm.symm), hka.mput, rfl⟩) (by repeat (first | (with_reducible exact Fin.done (by repeat (first | (with_reducible exact Rest.here) | apply Rest.there))) | (apply Fin.cons (by first | ((repeat (first | (with_reducible exact F0 _) | apply F1)); done) | (repeat (first | exact F0 _ | apply F1))))))
  · try simp only [ZA, ZB, ZC, ZD, ZE, ZF, ZG, ZH, ZI, ZJ, ZK, ZL, ZM, ZN, ZO, ZP, ZQ, ZR] at h3
    refine RunD.not (i := 3) hok22 rfl (by kernel_rfl) rfl rfl (Wt.no rfl rfl rfl) ?_
    refine RunD.not (i := 4) hok22 rfl (by kernel_rfl) rfl rfl (Wt.no rfl rfl rfl) ?_
    refine RunD.not (i := 5) hok22 rfl (by kernel_rfl) rfl rfl (Wt.no rfl rfl rfl) ?_
    refine RunD.not (i := 6) hok22 rfl (by kernel_rfl) rfl rfl (Wt.no rfl rfl rfl) ?_
    refine RunD.not (i := 7) hok22 rfl (by kernel_rfl) rfl rfl (Wt.no rfl rfl rfl) ?_
    refine RunD.not (i := 8) hok22 rfl (by kernel_rfl) rfl rfl (Wt.no rfl rfl rfl) ?_
    refine RunD.not (i := 9) hok22 rfl (by kernel_rfl) rfl rfl (Wt.no rfl rfl rfl) ?_
    refine RunD.not (i := 10) hok22 rfl (by kernel_rfl) rfl rfl (Wt.no rfl rfl rfl) ?_
    refine RunD.not (i := 11) hok22 rfl (by kernel_rfl) rfl rfl (Wt.no rfl rfl rfl) ?_
    refine RunD.not (i := 12) hok22 rfl (by kernel_rfl) rfl rfl (Wt.no rfl rfl rfl) ?_
    refine RunD.not (i := 13) hok22 rfl (by kernel_rfl) rfl rfl (Wt.no rfl rfl rfl) ?_
    refine RunD.not (i := 14) hok22 rfl (by kernel_rfl) rfl rfl (Wt.no rfl rfl rfl) ?_
    refine RunD.pure (i := 15) hok22 rfl (by kernel_rfl) (Pure.pickF rfl rfl) (Wt.none rfl) rfl rfl ?_
    refine RunD.nilB (by kernel_rfl) (fun w sw => backgl1 _ _ (backg1 _ _ (backg2 _ _ (sw)))) ?_
    refine Run.condF rfl ?_
    refine Run.exit rfl ?_
    refine Run.mkA (l) (by repeat (first | (with_reducible exact Take.nil _) | (apply Take.cons (by first | ((repeat (first | (with_reducible exact F0 _) | apply F1)); done) | (repeat (first | exact F0 _ | apply F1)))))) (by simp) ?_
    refine Run.region ?_
    refine RunL.mv rfl rfl ?_
    refine RunL.mv rfl rfl ?_
    first | refine RunL.loadA (vs := (cE en)) rfl (by first | ((repeat (first | (with_reducible exact F0 _) | apply F1)); done) | (repeat (first | exact F0 _ | apply F1))) agg45 sz45 (by first | exact Nat.le_of_ble_eq_true rfl | (simp; done) | (simp; omega)) rfl (Wt.none rfl) rfl ?_ | refine RunL.loadNR (vs := (cE en)) rfl (by assumption) agg45 sz45 (by first | exact Nat.le_of_ble_eq_true rfl | (simp; done) | (simp; omega)) rfl (Wt.none rfl) rfl ?_
    refine RunL.call rfl rfl (by rfl) (by repeat (first | (with_reducible exact Take.nil _) | (apply Take.cons (by first | ((repeat (first | (with_reducible exact F0 _) | apply F1)); done) | (repeat (first | exact F0 _ | apply F1)))))) (set_ctr hil (by omega)) (Wt.none rfl) rfl ?_
    rintro _ _ ⟨rfl, hA_⟩
    replace hA_ := hA_.symm; subst hA_
    refine RunL.nil ?_
    exact Run.fin Try.func27 (res0 rfl) (by exact ⟨_, _, rfl, hperm, hup.done (by rw [List.getElem?_set, if_pos rfl, if_pos hil]) (.inl (by omega)), hix.done hil (hk.perm hperm.symm), hka.mput, rfl⟩) (by repeat (first | (with_reducible exact Fin.done (by repeat (first | (with_reducible exact Rest.here) | apply Rest.there))) | (apply Fin.cons (by first | ((repeat (first | (with_reducible exact F0 _) | apply F1)); done) | (repeat (first | exact F0 _ | apply F1))))))

end Go.Proofs.Ytppamndllgojnaa
