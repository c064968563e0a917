/- Heaps: down. -/
import Derived.Test.YtppamndllgojnaaH4
set_option linter.unusedVariables false
set_option linter.unusedSimpArgs false
set_option linter.unusedSectionVars false
namespace Go.Proofs.Ytppamndllgojnaa
open Go Csl


set_option maxHeartbeats 4000000 in
set_option maxRecDepth 100000 in
theorem down_ctr {G : Gp} {p : Nat} {l0 : List E} {at_ : List (ByteArray × Int)} {i0 : Nat} {en : E} (hi : l0[i0]? = some en) (hd : HpDn l0 i0) (hk : KyD l0) (hx : Ix l0 at_ (· = en.key)) (hn : KN at_) (hb : l0.length ≤ 1000) :
    Ctr Try.prog G 32 [.pointer (some ⟨p, 0, none⟩), .int .i64 (i0 : Nat)] [HqA p l0 at_] (fun F v A => ∃ j V at', v = .tuple #[] ∧ V.Perm l0 ∧ V[j]? = some en ∧ HpUp V j ∧ Ix V at' (fun _ => False) ∧ KN at' ∧ A = HqA p V at' :: F) := by
  refine Ctr.intro Try.func32 rfl (by kernel_rfl) rfl (fun F => ?_)
  simp only [List.cons_append, List.nil_append]
  have hi0 := (List.getElem?_eq_some_iff.1 hi).1
  have hset0 : l0.set i0 en = l0 := set_same0 hi
  refine Run.openA (by first | ((repeat (first | (with_reducible exact F0 _) | apply F1)); done) | (repeat (first | exact F0 _ | apply F1))) ?_; intro a cap r
  refine Run.openSl (a := a) (n := (l0).length) (by first | ((repeat (first | (with_reducible exact F0 _) | apply F1)); done) | (repeat (first | exact F0 _ | apply F1))) (by omega) ?_; rintro b2 pre2 post2 rfl hsl1 hsl2 hsl3
  refine Run.sr ?_
  refine RunL.mv rfl rfl ?_
  refine RunL.pure (Pure.nilCheck rfl) (Wt.none rfl) rfl rfl ?_
  refine RunL.pure (Pure.fieldAddr rfl fo60_0) (Wt.none rfl) rfl rfl ?_
  first | refine RunL.load1 rfl (by first | ((repeat (first | (with_reducible exact F0 _) | apply F1)); done) | (repeat (first | exact F0 _ | apply F1))) (by rfl) agg53 (Wt.none rfl) rfl ?_ | refine RunL.load1R rfl (by assumption) (by rfl) agg53 (Wt.none rfl) rfl ?_
  refine RunL.mv rfl rfl ?_
  refine RunL.pure (Pure.indexAddr rfl rfl und53 sz45 (by omega) (by omega)) (Wt.none rfl) rfl rfl ?_
  refine RunL.loadA (vs := (cE en)) rfl (by first | ((repeat (first | (with_reducible exact F0 _) | apply F1)); done) | (repeat (first | exact F0 _ | apply F1))) agg45 sz45 (elemN_len (f := cE) (sz := 2) (j := 0) (n := 2) (fun _ _ => rfl) hi (by decide)) ((elemN_at (f := cE) (sz := 2) (j := 0) (n := 2) (fun _ _ => rfl) hi (by decide)).trans rfl) (Wt.none rfl) rfl ?_
  refine RunL.alloc zz45 (Wt.none rfl) rfl ?_; intro b4
  refine RunL.storeW (xs := (cE en)) rfl rfl (by first | ((repeat (first | (with_reducible exact F0 _) | apply F1)); done) | (repeat (first | exact F0 _ | apply F1))) sz45 (by rfl) (by rfl) (by rfl) (Wt.none rfl) ?_
  refine RunL.mkSl (b := b2) (pre := pre2) (post := post2) (sz := 2) (cs := (l0).flatMap cE) (n := (l0).length) (by first | ((repeat (first | (with_reducible exact F0 _) | apply F1)); done) | (repeat (first | exact F0 _ | apply F1))) hsl1 (by simpa using hsl2) (by simpa using hsl3) ?_
  refine RunL.mkA (l0) (by repeat (first | (with_reducible exact Take.nil _) | (apply Take.cons (by first | ((repeat (first | (with_reducible exact F0 _) | apply F1)); done) | (repeat (first | exact F0 _ | apply F1)))))) (by simp) ?_
  refine RunL.nil ?_
  refine Run.seq ?_
  refine Run.block ?_
  refine Run.keep (.cons rfl (.cons rfl (.cons rfl (.nil))) : Keep _ [0, 1, 4] _) ?_
  refine Run.loopF (F := F) (fun n e A => ∃ (i : Nat) (l : List E) (at' : List (ByteArray × Int)), i < l.length ∧ l.length ≤ 1000 ∧ HpDn (l.set i en) i ∧ (l.set i en).Perm l0 ∧ Ix (l.set i en) at' (· = en.key) ∧ KN at' ∧ n = l.length - i ∧ e = [(0, .pointer (some ⟨p, 0, none⟩)), (1, .int .i64 (i : Nat)), (4, .pointer (some ⟨b4, 0, none⟩))] ∧ A = HqA p l at' :: row b4 45 (cE en) :: F) (l0.length - i0) (by exact ⟨i0, l0, at_, hi0, hb, by rw [hset0]; exact hd, by rw [hset0], by rw [hset0]; exact hx, hn, rfl, rfl, rfl⟩) (by repeat (first | (with_reducible exact Fin.done (by repeat (first | (with_reducible exact Rest.here) | apply Rest.there))) | (apply Fin.cons (by first | ((repeat (first | (with_reducible exact F0 _) | apply F1)); done) | (repeat (first | exact F0 _ | apply F1)))))) ?_
  rintro n _ _ ⟨i, l, at', hil, hb', hdn, hperm, hix, hka, rfl, rfl, hA_⟩ ih
  replace hA_ := hA_.symm; subst hA_
  refine Run.openA (by first | ((repeat (first | (with_reducible exact F0 _) | apply F1)); done) | (repeat (first | exact F0 _ | apply F1))) ?_; intro a cap r
  refine Run.openSl (a := a) (n := (l).length) (by first | ((repeat (first | (with_reducible exact F0 _) | apply F1)); done) | (repeat (first | exact F0 _ | apply F1))) (by omega) ?_; rintro b2 pre2 post2 rfl hsl1 hsl2 hsl3
  refine Run.block ?_
  refine Run.sr ?_
  refine RunL.mv rfl rfl ?_
  first | refine RunL.pure (Pure.mulI rfl rfl (by omega)) (Wt.none rfl) rfl rfl ?_ | refine RunL.pure (Pure.mul rfl rfl) (Wt.none rfl) rfl rfl ?_
  first | refine RunL.pure (Pure.addI rfl rfl (by omega)) (Wt.none rfl) rfl rfl ?_ | refine RunL.pure (Pure.add rfl rfl) (Wt.none rfl) rfl rfl ?_
  refine RunL.as rfl rfl ?_
  refine RunL.nil ?_
  refine Run.seq ?_
  refine Run.seq ?_
  refine Run.regionD' (by kernel_rfl) (by kernel_rfl) (fun hok30 => ?_)
  refine RunD.lend (Q := row p 60 _) Lends.row (by first | ((repeat (first | (with_reducible exact F0 _) | apply F1)); done) | (repeat (first | exact F0 _ | apply F1))) ?_; intro g1 hleg1 hg1 backg1
  refine RunD.lend (Q := row b2 45 _) Lends.row (by first | ((repeat (first | (with_reducible exact F0 _) | apply F1)); done) | (repeat (first | exact F0 _ | apply F1))) ?_; intro g2 hleg2 hg2 backg2
  try (replace hg1 := hg1.mono hleg2)
  refine RunD.pure (i := 0) hok30 rfl (by kernel_rfl) (Pure.move rfl) (Wt.none rfl) rfl rfl ?_
  first | refine RunD.pure (i := 1) hok30 rfl (by kernel_rfl) (Pure.addI rfl rfl (by omega)) (Wt.none rfl) rfl rfl ?_ | refine RunD.pure (i := 1) hok30 rfl (by kernel_rfl) (Pure.add rfl rfl) (Wt.none rfl) rfl rfl ?_
  refine RunD.pure (i := 2) hok30 rfl (by kernel_rfl) (Pure.move rfl) (Wt.none rfl) rfl rfl ?_
  refine RunD.pure (i := 3) hok30 rfl (by kernel_rfl) (Pure.nilCheck rfl) (Wt.none rfl) rfl rfl ?_
  refine RunD.pure (i := 4) hok30 rfl (by kernel_rfl) (Pure.fieldAddr rfl fo60_0) (Wt.none rfl) rfl rfl ?_
  refine RunD.load1R (i := 5) hok30 rfl (by kernel_rfl) rfl (by assumption) (by rfl) agg53 (Wt.none rfl) rfl ?_
  refine RunD.pure (i := 6) hok30 rfl (by kernel_rfl) (Pure.lenSl rfl rfl und53) (Wt.none rfl) rfl rfl ?_
  refine RunD.pure (i := 7) hok30 rfl (by kernel_rfl) (Pure.lss rfl rfl) (Wt.none rfl) rfl rfl ?_
  refine RunD.pure (i := 8) hok30 rfl (by kernel_rfl) (Pure.move rfl) (Wt.none rfl) rfl rfl ?_
  refine RunD.split (d := 24) rfl (fun h5 => ?_) (fun h5 => ?_)
  · try simp only [ZA, ZB, ZC, ZD, ZE, ZF, ZG, ZH, ZI, ZJ, ZK, ZL, ZM, ZN, ZO, ZP, ZQ, ZR] at h5
    obtain ⟨x1, hx1⟩ := get_some (xs := l) (i := 2 * i + 1) (by omega)
    obtain ⟨x2, hx2⟩ := get_some (xs := l) (i := 2 * i + 2) (by omega)
    refine RunD.pure (i := 9) hok30 rfl (by kernel_rfl) (Pure.move rfl) (Wt.yes rfl rfl rfl) rfl rfl ?_
    refine RunD.pure (i := 10) hok30 rfl (by kernel_rfl) (Pure.nilCheck rfl) (Wt.yes rfl rfl rfl) rfl rfl ?_
    refine RunD.pure (i := 11) hok30 rfl (by kernel_rfl) (Pure.fieldAddr rfl fo60_0) (Wt.yes rfl rfl rfl) rfl rfl ?_
    refine RunD.load1R (i := 12) hok30 rfl (by kernel_rfl) rfl (by assumption) (by rfl) agg53 (Wt.yes rfl rfl rfl) rfl ?_
    refine RunD.pure (i := 13) hok30 rfl (by kernel_rfl) (Pure.move rfl) (Wt.yes rfl rfl rfl) rfl rfl ?_
    first | refine RunD.pure (i := 14) hok30 rfl (by kernel_rfl) (Pure.addI rfl rfl (by omega)) (Wt.yes rfl rfl rfl) rfl rfl ?_ | refine RunD.pure (i := 14) hok30 rfl (by kernel_rfl) (Pure.add rfl rfl) (Wt.yes rfl rfl rfl) rfl rfl ?_
    refine RunD.pure (i := 15) hok30 rfl (by kernel_rfl) (Pure.indexAddr rfl rfl und53 sz45 (by omega) (by omega)) (Wt.yes rfl rfl rfl) rfl rfl ?_
    refine RunD.loadNR (vs := (cE x2)) (i := 16) hok30 rfl (by kernel_rfl) rfl hg2 agg45 sz45 (elemN_len (f := cE) (sz := 2) (j := 0) (n := 2) (fun _ _ => rfl) (show l[(2 * (i : Int) + 1 + 1).toNat]? = some x2 from by rw [show (2 * (i : Int) + 1 + 1).toNat = 2 * i + 2 from by omega]; exact hx2) (by decide)) ((elemN_at (f := cE) (sz := 2) (j := 0) (n := 2) (fun _ _ => rfl) (show l[(2 * (i : Int) + 1 + 1).toNat]? = some x2 from by rw [show (2 * (i : Int) + 1 + 1).toNat = 2 * i + 2 from by omega]; exact hx2) (by decide)).trans rfl) (Wt.yes rfl rfl rfl) rfl ?_
    refine RunD.pure (i := 17) hok30 rfl (by kernel_rfl) (Pure.move rfl) (Wt.yes rfl rfl rfl) rfl rfl ?_
    refine RunD.pure (i := 18) hok30 rfl (by kernel_rfl) (Pure.nilCheck rfl) (Wt.yes rfl rfl rfl) rfl rfl ?_
    refine RunD.pure (i := 19) hok30 rfl (by kernel_rfl) (Pure.fieldAddr rfl fo60_0) (Wt.yes rfl rfl rfl) rfl rfl ?_
    refine RunD.load1R (i := 20) hok30 rfl (by kernel_rfl) rfl (by assumption) (by rfl) agg53 (Wt.yes rfl rfl rfl) rfl ?_
    refine RunD.pure (i := 21) hok30 rfl (by kernel_rfl) (Pure.move rfl) (Wt.yes rfl rfl rfl) rfl rfl ?_
    refine RunD.pure (i := 22) hok30 rfl (by kernel_rfl) (Pure.indexAddr rfl rfl und53 sz45 (by omega) (by omega)) (Wt.yes rfl rfl rfl) rfl rfl ?_
    refine RunD.loadNR (vs := (cE x1)) (i := 23) hok30 rfl (by kernel_rfl) rfl hg2 agg45 sz45 (elemN_len (f := cE) (sz := 2) (j := 0) (n := 2) (fun _ _ => rfl) (show l[(2 * (i : Int) + 1).toNat]? = some x1 from by rw [show (2 * (i : Int) + 1).toNat = 2 * i + 1 from by omega]; exact hx1) (by decide)) ((elemN_at (f := cE) (sz := 2) (j := 0) (n := 2) (fun _ _ => rfl) (show l[(2 * (i : Int) + 1).toNat]? = some x1 from by rw [show (2 * (i : Int) + 1).toNat = 2 * i + 1 from by omega]; exact hx1) (by decide)).trans rfl) (Wt.yes rfl rfl rfl) rfl ?_
    refine RunD.one (i := 24) (by kernel_rfl) rfl ?_
    refine RunL.call rfl rfl (by rfl) (by repeat (first | (with_reducible exact Take.nil _) | (apply Take.cons (by first | ((repeat (first | (with_reducible exact F0 _) | apply F1)); done) | (repeat (first | exact F0 _ | apply F1)))))) (ahead_ctr) (Wt.yes rfl rfl rfl) rfl ?_
    rintro _ _ ⟨rfl, hA_⟩
    replace hA_ := hA_.symm; subst hA_
    refine RunL.nilD' ?_
    refine RunD.pure (i := 25) hok30 rfl (by kernel_rfl) (Pure.lss rfl rfl) (Wt.yes rfl rfl rfl) rfl rfl ?_
    refine RunD.pure (i := 26) hok30 rfl (by kernel_rfl) (Pure.pickT rfl rfl) (Wt.none rfl) rfl rfl ?_
    refine RunD.nilB (by kernel_rfl) (fun w sw => backg1 _ _ (backg2 _ _ (sw))) ?_
    refine Run.cond rfl (fun h6 => ?_) (fun h6 => ?_)
    · try simp only [ZA, ZB, ZC, ZD, ZE, ZF, ZG, ZH, ZI, ZJ, ZK, ZL, ZM, ZN, ZO, ZP, ZQ, ZR] at h6
      have hles : Lesser l i (2 * i + 2) := Lesser.snd hx1 hx2 h6
      refine Run.region ?_
      refine RunL.mv rfl rfl ?_
      first | refine RunL.pure (Pure.addI rfl rfl (by omega)) (Wt.none rfl) rfl rfl ?_ | refine RunL.pure (Pure.add rfl rfl) (Wt.none rfl) rfl rfl ?_
      refine RunL.as rfl rfl ?_
      refine RunL.nil ?_
      rw [show (2 * (i : Int) + 1 + 1) = ((2 * i + 2 : Nat) : Int) from by omega]
      refine Run.seq ?_
      refine Run.seq ?_
      refine Run.regionD' (by kernel_rfl) (by kernel_rfl) (fun hok81 => ?_)
      refine RunD.lend (Q := row b4 45 _) Lends.row (by first | ((repeat (first | (with_reducible exact F0 _) | apply F1)); done) | (repeat (first | exact F0 _ | apply F1))) ?_; intro gl1 hlegl1 hl1 backgl1
      refine RunD.lend (Q := row p 60 _) Lends.row (by first | ((repeat (first | (with_reducible exact F0 _) | apply F1)); done) | (repeat (first | exact F0 _ | apply F1))) ?_; intro g1 hleg1 hg1 backg1
      try (replace hl1 := hl1.mono hleg1)
      refine RunD.lend (Q := row b2 45 _) Lends.row (by first | ((repeat (first | (with_reducible exact F0 _) | apply F1)); done) | (repeat (first | exact F0 _ | apply F1))) ?_; intro g2 hleg2 hg2 backg2
      try (replace hl1 := hl1.mono hleg2)
      try (replace hg1 := hg1.mono hleg2)
      refine RunD.pure (i := 0) hok81 rfl (by kernel_rfl) (Pure.move rfl) (Wt.none rfl) rfl rfl ?_
      refine RunD.pure (i := 1) hok81 rfl (by kernel_rfl) (Pure.move rfl) (Wt.none rfl) rfl rfl ?_
      refine RunD.pure (i := 2) hok81 rfl (by kernel_rfl) (Pure.nilCheck rfl) (Wt.none rfl) rfl rfl ?_
      refine RunD.pure (i := 3) hok81 rfl (by kernel_rfl) (Pure.fieldAddr rfl fo60_0) (Wt.none rfl) rfl rfl ?_
      refine RunD.load1R (i := 4) hok81 rfl (by kernel_rfl) rfl (by assumption) (by rfl) agg53 (Wt.none rfl) rfl ?_
      refine RunD.pure (i := 5) hok81 rfl (by kernel_rfl) (Pure.lenSl rfl rfl und53) (Wt.none rfl) rfl rfl ?_
      refine RunD.pure (i := 6) hok81 rfl (by kernel_rfl) (Pure.geq rfl rfl) (Wt.none rfl) rfl rfl ?_
      refine RunD.pure (i := 7) hok81 rfl (by kernel_rfl) (Pure.move rfl) (Wt.none rfl) rfl rfl ?_
      refine RunD.split (d := 52) rfl (fun h7 => ?_) (fun h7 => ?_)
      · try simp only [ZA, ZB, ZC, ZD, ZE, ZF, ZG, ZH, ZI, ZJ, ZK, ZL, ZM, ZN, ZO, ZP, ZQ, ZR] at h7
        refine RunD.not (i := 8) hok81 rfl (by kernel_rfl) rfl rfl (Wt.no rfl rfl rfl) ?_
        refine RunD.not (i := 9) hok81 rfl (by kernel_rfl) rfl rfl (Wt.no rfl rfl rfl) ?_
        refine RunD.not (i := 10) hok81 rfl (by kernel_rfl) rfl rfl (Wt.no rfl rfl rfl) ?_
        refine RunD.not (i := 11) hok81 rfl (by kernel_rfl) rfl rfl (Wt.no rfl rfl rfl) ?_
        refine RunD.not (i := 12) hok81 rfl (by kernel_rfl) rfl rfl (Wt.no rfl rfl rfl) ?_
        refine RunD.not (i := 13) hok81 rfl (by kernel_rfl) rfl rfl (Wt.no rfl rfl rfl) ?_
        refine RunD.not (i := 14) hok81 rfl (by kernel_rfl) rfl rfl (Wt.no rfl rfl rfl) ?_
        refine RunD.not (i := 15) hok81 rfl (by kernel_rfl) rfl rfl (Wt.no rfl rfl rfl) ?_
        refine RunD.not (i := 16) hok81 rfl (by kernel_rfl) rfl rfl (Wt.no rfl rfl rfl) ?_
        refine RunD.not (i := 17) hok81 rfl (by kernel_rfl) rfl rfl (Wt.no rfl rfl rfl) ?_
        refine RunD.pure (i := 18) hok81 rfl (by kernel_rfl) (Pure.pickT rfl rfl) (Wt.none rfl) rfl rfl ?_
        refine RunD.nilB (by kernel_rfl) (fun w sw => backgl1 _ _ (backg1 _ _ (backg2 _ _ (sw)))) ?_
        refine Run.condT rfl ?_
        refine Run.exit rfl ?_
        refine Run.mkSl (b := b2) (pre := pre2) (post := post2) (sz := 2) (cs := (l).flatMap cE) (n := (l).length) (by first | ((repeat (first | (with_reducible exact F0 _) | apply F1)); done) | (repeat (first | exact F0 _ | apply F1))) hsl1 (by simpa using hsl2) (by simpa using hsl3) ?_
        refine Run.mkA (l) (by repeat (first | (with_reducible exact Take.nil _) | (apply Take.cons (by first | ((repeat (first | (with_reducible exact F0 _) | apply F1)); done) | (repeat (first | exact F0 _ | apply F1)))))) (by simp) ?_
        refine Run.region ?_
        refine RunL.mv rfl rfl ?_
        refine RunL.mv rfl rfl ?_
        first | refine RunL.loadA (vs := (cE en)) rfl (by first | ((repeat (first | (with_reducible exact F0 _) | apply F1)); done) | (repeat (first | exact F0 _ | apply F1))) agg45 sz45 (by first | exact Nat.le_of_ble_eq_true rfl | (simp; done) | (simp; omega)) rfl (Wt.none rfl) rfl ?_ | refine RunL.loadNR (vs := (cE en)) rfl (by assumption) agg45 sz45 (by first | exact Nat.le_of_ble_eq_true rfl | (simp; done) | (simp; omega)) rfl (Wt.none rfl) rfl ?_
        refine RunL.call rfl rfl (by rfl) (by repeat (first | (with_reducible exact Take.nil _) | (apply Take.cons (by first | ((repeat (first | (with_reducible exact F0 _) | apply F1)); done) | (repeat (first | exact F0 _ | apply F1)))))) (set_ctr hil (by omega)) (Wt.none rfl) rfl ?_
        rintro _ _ ⟨rfl, hA_⟩
        replace hA_ := hA_.symm; subst hA_
        refine RunL.nil ?_
        exact Run.fin Try.func32 (res0 rfl) (by exact ⟨i, _, _, rfl, hperm, by rw [List.getElem?_set, if_pos rfl, if_pos hil], hdn.done (fun j y hj hu hy => by obtain ⟨x', h1, h2⟩ := hles.2.2 j y hj hu hy; have := (List.getElem?_eq_some_iff.1 h1).1; omega), hix.done hil (hk.perm hperm.symm), hka.mput, rfl⟩) (by repeat (first | (with_reducible exact Fin.done (by repeat (first | (with_reducible exact Rest.here) | apply Rest.there))) | (apply Fin.cons (by first | ((repeat (first | (with_reducible exact F0 _) | apply F1)); done) | (repeat (first | exact F0 _ | apply F1))))))
      · try simp only [ZA, ZB, ZC, ZD, ZE, ZF, ZG, ZH, ZI, ZJ, ZK, ZL, ZM, ZN, ZO, ZP, ZQ, ZR] at h7
        obtain ⟨xk, hxk⟩ := get_some (xs := l) (i := 2 * i + 2) (by omega)
        refine RunD.loadNR (vs := (cE en)) (i := 8) hok81 rfl (by kernel_rfl) rfl (by assumption) agg45 sz45 (by first | exact Nat.le_of_ble_eq_true rfl | (simp; done) | (simp; omega)) rfl (Wt.yes rfl rfl rfl) rfl ?_
        refine RunD.pure (i := 9) hok81 rfl (by kernel_rfl) (Pure.move rfl) (Wt.yes rfl rfl rfl) rfl rfl ?_
        refine RunD.pure (i := 10) hok81 rfl (by kernel_rfl) (Pure.nilCheck rfl) (Wt.yes rfl rfl rfl) rfl rfl ?_
        refine RunD.pure (i := 11) hok81 rfl (by kernel_rfl) (Pure.fieldAddr rfl fo60_0) (Wt.yes rfl rfl rfl) rfl rfl ?_
        refine RunD.load1R (i := 12) hok81 rfl (by kernel_rfl) rfl (by assumption) (by rfl) agg53 (Wt.yes rfl rfl rfl) rfl ?_
        refine RunD.pure (i := 13) hok81 rfl (by kernel_rfl) (Pure.move rfl) (Wt.yes rfl rfl rfl) rfl rfl ?_
        refine RunD.pure (i := 14) hok81 rfl (by kernel_rfl) (Pure.indexAddr rfl rfl und53 sz45 (by omega) (by omega)) (Wt.yes rfl rfl rfl) rfl rfl ?_
        refine RunD.loadNR (vs := (cE xk)) (i := 15) hok81 rfl (by kernel_rfl) rfl hg2 agg45 sz45 (elemN_len (f := cE) (sz := 2) (j := 0) (n := 2) (fun _ _ => rfl) hxk (by decide)) ((elemN_at (f := cE) (sz := 2) (j := 0) (n := 2) (fun _ _ => rfl) hxk (by decide)).trans rfl) (Wt.yes rfl rfl rfl) rfl ?_
        refine RunD.one (i := 16) (by kernel_rfl) rfl ?_
        refine RunL.call rfl rfl (by rfl) (by repeat (first | (with_reducible exact Take.nil _) | (apply Take.cons (by first | ((repeat (first | (with_reducible exact F0 _) | apply F1)); done) | (repeat (first | exact F0 _ | apply F1)))))) (ahead_ctr) (Wt.yes rfl rfl rfl) rfl ?_
        rintro _ _ ⟨rfl, hA_⟩
        replace hA_ := hA_.symm; subst hA_
        refine RunL.nilD' ?_
        refine RunD.pure (i := 17) hok81 rfl (by kernel_rfl) (Pure.lss rfl rfl) (Wt.yes rfl rfl rfl) rfl rfl ?_
        refine RunD.pure (i := 18) hok81 rfl (by kernel_rfl) (Pure.pickF rfl rfl) (Wt.none rfl) rfl rfl ?_
        refine RunD.nilB (by kernel_rfl) (fun w sw => backgl1 _ _ (backg1 _ _ (backg2 _ _ (sw)))) ?_
        refine Run.cond rfl (fun h8 => ?_) (fun h8 => ?_)
        · try simp only [ZA, ZB, ZC, ZD, ZE, ZF, ZG, ZH, ZI, ZJ, ZK, ZL, ZM, ZN, ZO, ZP, ZQ, ZR] at h8
          refine Run.exit rfl ?_
          refine Run.mkSl (b := b2) (pre := pre2) (post := post2) (sz := 2) (cs := (l).flatMap cE) (n := (l).length) (by first | ((repeat (first | (with_reducible exact F0 _) | apply F1)); done) | (repeat (first | exact F0 _ | apply F1))) hsl1 (by simpa using hsl2) (by simpa using hsl3) ?_
          refine Run.mkA (l) (by repeat (first | (with_reducible exact Take.nil _) | (apply Take.cons (by first | ((repeat (first | (with_reducible exact F0 _) | apply F1)); done) | (repeat (first | exact F0 _ | apply F1)))))) (by simp) ?_
          refine Run.region ?_
          refine RunL.mv rfl rfl ?_
          refine RunL.mv rfl rfl ?_
          first | refine RunL.loadA (vs := (cE en)) rfl (by first | ((repeat (first | (with_reducible exact F0 _) | apply F1)); done) | (repeat (first | exact F0 _ | apply F1))) agg45 sz45 (by first | exact Nat.le_of_ble_eq_true rfl | (simp; done) | (simp; omega)) rfl (Wt.none rfl) rfl ?_ | refine RunL.loadNR (vs := (cE en)) rfl (by assumption) agg45 sz45 (by first | exact Nat.le_of_ble_eq_true rfl | (simp; done) | (simp; omega)) rfl (Wt.none rfl) rfl ?_
          refine RunL.call rfl rfl (by rfl) (by repeat (first | (with_reducible exact Take.nil _) | (apply Take.cons (by first | ((repeat (first | (with_reducible exact F0 _) | apply F1)); done) | (repeat (first | exact F0 _ | apply F1)))))) (set_ctr hil (by omega)) (Wt.none rfl) rfl ?_
          rintro _ _ ⟨rfl, hA_⟩
          replace hA_ := hA_.symm; subst hA_
          refine RunL.nil ?_
          exact Run.fin Try.func32 (res0 rfl) (by exact ⟨i, _, _, rfl, hperm, by rw [List.getElem?_set, if_pos rfl, if_pos hil], hdn.done (fun j y hj hu hy => by obtain ⟨x', h1, h2⟩ := hles.2.2 j y hj hu hy; rw [hxk] at h1; cases h1; exact cmpE_le_trans (by omega) h2), hix.done hil (hk.perm hperm.symm), hka.mput, rfl⟩) (by repeat (first | (with_reducible exact Fin.done (by repeat (first | (with_reducible exact Rest.here) | apply Rest.there))) | (apply Fin.cons (by first | ((repeat (first | (with_reducible exact F0 _) | apply F1)); done) | (repeat (first | exact F0 _ | apply F1))))))
        · try simp only [ZA, ZB, ZC, ZD, ZE, ZF, ZG, ZH, ZI, ZJ, ZK, ZL, ZM, ZN, ZO, ZP, ZQ, ZR] at h8
          refine Run.skip ?_
          refine Run.sr ?_
          refine RunL.mv rfl rfl ?_
          refine RunL.mv rfl rfl ?_
          refine RunL.mv rfl rfl ?_
          refine RunL.pure (Pure.nilCheck rfl) (Wt.none rfl) rfl rfl ?_
          refine RunL.pure (Pure.fieldAddr rfl fo60_0) (Wt.none rfl) rfl rfl ?_
          first | refine RunL.load1 rfl (by first | ((repeat (first | (with_reducible exact F0 _) | apply F1)); done) | (repeat (first | exact F0 _ | apply F1))) (by rfl) agg53 (Wt.none rfl) rfl ?_ | refine RunL.load1R rfl (by assumption) (by rfl) agg53 (Wt.none rfl) rfl ?_
          refine RunL.mv rfl rfl ?_
          refine RunL.pure (Pure.indexAddr rfl rfl und53 sz45 (by omega) (by omega)) (Wt.none rfl) rfl rfl ?_
          refine RunL.loadA (vs := (cE xk)) rfl (by first | ((repeat (first | (with_reducible exact F0 _) | apply F1)); done) | (repeat (first | exact F0 _ | apply F1))) agg45 sz45 (elemN_len (f := cE) (sz := 2) (j := 0) (n := 2) (fun _ _ => rfl) hxk (by decide)) ((elemN_at (f := cE) (sz := 2) (j := 0) (n := 2) (fun _ _ => rfl) hxk (by decide)).trans rfl) (Wt.none rfl) rfl ?_
          refine RunL.mkSl (b := b2) (pre := pre2) (post := post2) (sz := 2) (cs := (l).flatMap cE) (n := (l).length) (by first | ((repeat (first | (with_reducible exact F0 _) | apply F1)); done) | (repeat (first | exact F0 _ | apply F1))) hsl1 (by simpa using hsl2) (by simpa using hsl3) ?_
          refine RunL.mkA (l) (by repeat (first | (with_reducible exact Take.nil _) | (apply Take.cons (by first | ((repeat (first | (with_reducible exact F0 _) | apply F1)); done) | (repeat (first | exact F0 _ | apply F1)))))) (by simp) ?_
          refine RunL.call rfl rfl (by rfl) (by repeat (first | (with_reducible exact Take.nil _) | (apply Take.cons (by first | ((repeat (first | (with_reducible exact F0 _) | apply F1)); done) | (repeat (first | exact F0 _ | apply F1)))))) (set_ctr hil (by omega)) (Wt.none rfl) rfl ?_
          rintro _ _ ⟨rfl, hA_⟩
          replace hA_ := hA_.symm; subst hA_
          refine RunL.nil ?_
          refine Run.region ?_
          refine RunL.mv rfl rfl ?_
          refine RunL.as rfl rfl ?_
          refine RunL.nil ?_
          refine Run.inBlock ?_
          refine Run.keep (.cons rfl (.cons rfl (.cons rfl (.nil))) : Keep _ [0, 1, 4] _) ?_
          refine Run.againF (F := F) ih (by exact ⟨2 * i + 2, l.set i xk, mput xk.key (i : Int) at', by simp; omega, by simpa using hb', hdn.move hil hles.2.1 hles.1 hxk (fun j y hj hu hy => by obtain ⟨x', h1, h2⟩ := hles.2.2 j y hj hu hy; rw [hxk] at h1; cases h1; exact h2), (hole_perm hil hxk (by omega)).trans hperm, hix.move hil hxk (by omega) (hk.perm hperm.symm), hka.mput, rfl, rfl, rfl⟩) (by repeat (first | (with_reducible exact Fin.done (by repeat (first | (with_reducible exact Rest.here) | apply Rest.there))) | (apply Fin.cons (by first | ((repeat (first | (with_reducible exact F0 _) | apply F1)); done) | (repeat (first | exact F0 _ | apply F1)))))) ?_
          have := hles.2.1; have := hles.1; unfold up1 at *; simp; omega
    · try simp only [ZA, ZB, ZC, ZD, ZE, ZF, ZG, ZH, ZI, ZJ, ZK, ZL, ZM, ZN, ZO, ZP, ZQ, ZR] at h6
      have hles : Lesser l i (2 * i + 1) := Lesser.fst hx1 hx2 (by omega)
      refine Run.skip ?_
      rw [show (2 * (i : Int) + 1) = ((2 * i + 1 : Nat) : Int) from by omega]
      refine Run.seq ?_
      refine Run.seq ?_
      refine Run.regionD' (by kernel_rfl) (by kernel_rfl) (fun hok187 => ?_)
      refine RunD.lend (Q := row b4 45 _) Lends.row (by first | ((repeat (first | (with_reducible exact F0 _) | apply F1)); done) | (repeat (first | exact F0 _ | apply F1))) ?_; intro gl2 hlegl2 hl2 backgl2
      refine RunD.lend (Q := row p 60 _) Lends.row (by first | ((repeat (first | (with_reducible exact F0 _) | apply F1)); done) | (repeat (first | exact F0 _ | apply F1))) ?_; intro g1 hleg1 hg1 backg1
      try (replace hl2 := hl2.mono hleg1)
      refine RunD.lend (Q := row b2 45 _) Lends.row (by first | ((repeat (first | (with_reducible exact F0 _) | apply F1)); done) | (repeat (first | exact F0 _ | apply F1))) ?_; intro g2 hleg2 hg2 backg2
      try (replace hl2 := hl2.mono hleg2)
      try (replace hg1 := hg1.mono hleg2)
      refine RunD.pure (i := 0) hok187 rfl (by kernel_rfl) (Pure.move rfl) (Wt.none rfl) rfl rfl ?_
      refine RunD.pure (i := 1) hok187 rfl (by kernel_rfl) (Pure.move rfl) (Wt.none rfl) rfl rfl ?_
      refine RunD.pure (i := 2) hok187 rfl (by kernel_rfl) (Pure.nilCheck rfl) (Wt.none rfl) rfl rfl ?_
      refine RunD.pure (i := 3) hok187 rfl (by kernel_rfl) (Pure.fieldAddr rfl fo60_0) (Wt.none rfl) rfl rfl ?_
      refine RunD.load1R (i := 4) hok187 rfl (by kernel_rfl) rfl (by assumption) (by rfl) agg53 (Wt.none rfl) rfl ?_
      refine RunD.pure (i := 5) hok187 rfl (by kernel_rfl) (Pure.lenSl rfl rfl und53) (Wt.none rfl) rfl rfl ?_
      refine RunD.pure (i := 6) hok187 rfl (by kernel_rfl) (Pure.geq rfl rfl) (Wt.none rfl) rfl rfl ?_
      refine RunD.pure (i := 7) hok187 rfl (by kernel_rfl) (Pure.move rfl) (Wt.none rfl) rfl rfl ?_
      refine RunD.split (d := 52) rfl (fun h7 => ?_) (fun h7 => ?_)
      · try simp only [ZA, ZB, ZC, ZD, ZE, ZF, ZG, ZH, ZI, ZJ, ZK, ZL, ZM, ZN, ZO, ZP, ZQ, ZR] at h7
        refine RunD.not (i := 8) hok187 rfl (by kernel_rfl) rfl rfl (Wt.no rfl rfl rfl) ?_
        refine RunD.not (i := 9) hok187 rfl (by kernel_rfl) rfl rfl (Wt.no rfl rfl rfl) ?_
        refine RunD.not (i := 10) hok187 rfl (by kernel_rfl) rfl rfl (Wt.no rfl rfl rfl) ?_
        refine RunD.not (i := 11) hok187 rfl (by kernel_rfl) rfl rfl (Wt.no rfl rfl rfl) ?_
        refine RunD.not (i := 12) hok187 rfl (by kernel_rfl) rfl rfl (Wt.no rfl rfl rfl) ?_
        refine RunD.not (i := 13) hok187 rfl (by kernel_rfl) rfl rfl (Wt.no rfl rfl rfl) ?_
        refine RunD.not (i := 14) hok187 rfl (by kernel_rfl) rfl rfl (Wt.no rfl rfl rfl) ?_
        refine RunD.not (i := 15) hok187 rfl (by kernel_rfl) rfl rfl (Wt.no rfl rfl rfl) ?_
        refine RunD.not (i := 16) hok187 rfl (by kernel_rfl) rfl rfl (Wt.no rfl rfl rfl) ?_
        refine RunD.not (i := 17) hok187 rfl (by kernel_rfl) rfl rfl (Wt.no rfl rfl rfl) ?_
        refine RunD.pure (i := 18) hok187 rfl (by kernel_rfl) (Pure.pickT rfl rfl) (Wt.none rfl) rfl rfl ?_
        refine RunD.nilB (by kernel_rfl) (fun w sw => backgl2 _ _ (backg1 _ _ (backg2 _ _ (sw)))) ?_
        refine Run.condT rfl ?_
        refine Run.exit rfl ?_
        refine Run.mkSl (b := b2) (pre := pre2) (post := post2) (sz := 2) (cs := (l).flatMap cE) (n := (l).length) (by first | ((repeat (first | (with_reducible exact F0 _) | apply F1)); done) | (repeat (first | exact F0 _ | apply F1))) hsl1 (by simpa using hsl2) (by simpa using hsl3) ?_
        refine Run.mkA (l) (by repeat (first | (with_reducible exact Take.nil _) | (apply Take.cons (by first | ((repeat (first | (with_reducible exact F0 _) | apply F1)); done) | (repeat (first | exact F0 _ | apply F1)))))) (by simp) ?_
        refine Run.region ?_
        refine RunL.mv rfl rfl ?_
        refine RunL.mv rfl rfl ?_
        first | refine RunL.loadA (vs := (cE en)) rfl (by first | ((repeat (first | (with_reducible exact F0 _) | apply F1)); done) | (repeat (first | exact F0 _ | apply F1))) agg45 sz45 (by first | exact Nat.le_of_ble_eq_true rfl | (simp; done) | (simp; omega)) rfl (Wt.none rfl) rfl ?_ | refine RunL.loadNR (vs := (cE en)) rfl (by assumption) agg45 sz45 (by first | exact Nat.le_of_ble_eq_true rfl | (simp; done) | (simp; omega)) rfl (Wt.none rfl) rfl ?_
        refine RunL.call rfl rfl (by rfl) (by repeat (first | (with_reducible exact Take.nil _) | (apply Take.cons (by first | ((repeat (first | (with_reducible exact F0 _) | apply F1)); done) | (repeat (first | exact F0 _ | apply F1)))))) (set_ctr hil (by omega)) (Wt.none rfl) rfl ?_
        rintro _ _ ⟨rfl, hA_⟩
        replace hA_ := hA_.symm; subst hA_
        refine RunL.nil ?_
        exact Run.fin Try.func32 (res0 rfl) (by exact ⟨i, _, _, rfl, hperm, by rw [List.getElem?_set, if_pos rfl, if_pos hil], hdn.done (fun j y hj hu hy => by obtain ⟨x', h1, h2⟩ := hles.2.2 j y hj hu hy; have := (List.getElem?_eq_some_iff.1 h1).1; omega), hix.done hil (hk.perm hperm.symm), hka.mput, rfl⟩) (by repeat (first | (with_reducible exact Fin.done (by repeat (first | (with_reducible exact Rest.here) | apply Rest.there))) | (apply Fin.cons (by first | ((repeat (first | (with_reducible exact F0 _) | apply F1)); done) | (repeat (first | exact F0 _ | apply F1))))))
      · try simp only [ZA, ZB, ZC, ZD, ZE, ZF, ZG, ZH, ZI, ZJ, ZK, ZL, ZM, ZN, ZO, ZP, ZQ, ZR] at h7
        obtain ⟨xk, hxk⟩ := get_some (xs := l) (i := 2 * i + 1) (by omega)
        refine RunD.loadNR (vs := (cE en)) (i := 8) hok187 rfl (by kernel_rfl) rfl (by assumption) agg45 sz45 (by first | exact Nat.le_of_ble_eq_true rfl | (simp; done) | (simp; omega)) rfl (Wt.yes rfl rfl rfl) rfl ?_
        refine RunD.pure (i := 9) hok187 rfl (by kernel_rfl) (Pure.move rfl) (Wt.yes rfl rfl rfl) rfl rfl ?_
        refine RunD.pure (i := 10) hok187 rfl (by kernel_rfl) (Pure.nilCheck rfl) (Wt.yes rfl rfl rfl) rfl rfl ?_
        refine RunD.pure (i := 11) hok187 rfl (by kernel_rfl) (Pure.fieldAddr rfl fo60_0) (Wt.yes rfl rfl rfl) rfl rfl ?_
        refine RunD.load1R (i := 12) hok187 rfl (by kernel_rfl) rfl (by assumption) (by rfl) agg53 (Wt.yes rfl rfl rfl) rfl ?_
        refine RunD.pure (i := 13) hok187 rfl (by kernel_rfl) (Pure.move rfl) (Wt.yes rfl rfl rfl) rfl rfl ?_
        refine RunD.pure (i := 14) hok187 rfl (by kernel_rfl) (Pure.indexAddr rfl rfl und53 sz45 (by omega) (by omega)) (Wt.yes rfl rfl rfl) rfl rfl ?_
        refine RunD.loadNR (vs := (cE xk)) (i := 15) hok187 rfl (by kernel_rfl) rfl hg2 agg45 sz45 (elemN_len (f := cE) (sz := 2) (j := 0) (n := 2) (fun _ _ => rfl) hxk (by decide)) ((elemN_at (f := cE) (sz := 2) (j := 0) (n := 2) (fun _ _ => rfl) hxk (by decide)).trans rfl) (Wt.yes rfl rfl rfl) rfl ?_
        refine RunD.one (i := 16) (by kernel_rfl) rfl ?_
        refine RunL.call rfl rfl (by rfl) (by repeat (first | (with_reducible exact Take.nil _) | (apply Take.cons (by first | ((repeat (first | (with_reducible exact F0 _) | apply F1)); done) | (repeat (first | exact F0 _ | apply F1)))))) (ahead_ctr) (Wt.yes rfl rfl rfl) rfl ?_
        rintro _ _ ⟨rfl, hA_⟩
        replace hA_ := hA_.symm; subst hA_
        refine RunL.nilD' ?_
        refine RunD.pure (i := 17) hok187 rfl (by kernel_rfl) (Pure.lss rfl rfl) (Wt.yes rfl rfl rfl) rfl rfl ?_
        refine RunD.pure (i := 18) hok187 rfl (by kernel_rfl) (Pure.pickF rfl rfl) (Wt.none rfl) rfl rfl ?_
        refine RunD.nilB (by kernel_rfl) (fun w sw => backgl2 _ _ (backg1 _ _ (backg2 _ _ (sw)))) ?_
        refine Run.cond rfl (fun h8 => ?_) (fun h8 => ?_)
        · try simp only [ZA, ZB, ZC, ZD, ZE, ZF, ZG, ZH, ZI, ZJ, ZK, ZL, ZM, ZN, ZO, ZP, ZQ, ZR] at h8
          refine Run.exit rfl ?_
          refine Run.mkSl (b := b2) (pre := pre2) (post := post2) (sz := 2) (cs := (l).flatMap cE) (n := (l).length) (by first | ((repeat (first | (with_reducible exact F0 _) | apply F1)); done) | (repeat (first | exact F0 _ | apply F1))) hsl1 (by simpa using hsl2) (by simpa using hsl3) ?_
          refine Run.mkA (l) (by repeat (first | (with_reducible exact Take.nil _) | (apply Take.cons (by first | ((repeat (first | (with_reducible exact F0 _) | apply F1)); done) | (repeat (first | exact F0 _ | apply F1)))))) (by simp) ?_
          refine Run.region ?_
          refine RunL.mv rfl rfl ?_
          refine RunL.mv rfl rfl ?_
          first | refine RunL.loadA (vs := (cE en)) rfl (by first | ((repeat (first | (with_reducible exact F0 _) | apply F1)); done) | (repeat (first | exact F0 _ | apply F1))) agg45 sz45 (by first | exact Nat.le_of_ble_eq_true rfl | (simp; done) | (simp; omega)) rfl (Wt.none rfl) rfl ?_ | refine RunL.loadNR (vs := (cE en)) rfl (by assumption) agg45 sz45 (by first | exact Nat.le_of_ble_eq_true rfl | (simp; done) | (simp; omega)) rfl (Wt.none rfl) rfl ?_
          refine RunL.call rfl rfl (by rfl) (by repeat (first | (with_reducible exact Take.nil _) | (apply Take.cons (by first | ((repeat (first | (with_reducible exact F0 _) | apply F1)); done) | (repeat (first | exact F0 _ | apply F1)))))) (set_ctr hil (by omega)) (Wt.none rfl) rfl ?_
          rintro _ _ ⟨rfl, hA_⟩
          replace hA_ := hA_.symm; subst hA_
          refine RunL.nil ?_
          exact Run.fin Try.func32 (res0 rfl) (by exact ⟨i, _, _, rfl, hperm, by rw [List.getElem?_set, if_pos rfl, if_pos hil], hdn.done (fun j y hj hu hy => by obtain ⟨x', h1, h2⟩ := hles.2.2 j y hj hu hy; rw [hxk] at h1; cases h1; exact cmpE_le_trans (by omega) h2), hix.done hil (hk.perm hperm.symm), hka.mput, rfl⟩) (by repeat (first | (with_reducible exact Fin.done (by repeat (first | (with_reducible exact Rest.here) | apply Rest.there))) | (apply Fin.cons (by first | ((repeat (first | (with_reducible exact F0 _) | apply F1)); done) | (repeat (first | exact F0 _ | apply F1))))))
        · try simp only [ZA, ZB, ZC, ZD, ZE, ZF, ZG, ZH, ZI, ZJ, ZK, ZL, ZM, ZN, ZO, ZP, ZQ, ZR] at h8
          refine Run.skip ?_
          refine Run.sr ?_
          refine RunL.mv rfl rfl ?_
          refine RunL.mv rfl rfl ?_
          refine RunL.mv rfl rfl ?_
          refine RunL.pure (Pure.nilCheck rfl) (Wt.none rfl) rfl rfl ?_
          refine RunL.pure (Pure.fieldAddr rfl fo60_0) (Wt.none rfl) rfl rfl ?_
          first | refine RunL.load1 rfl (by first | ((repeat (first | (with_reducible exact F0 _) | apply F1)); done) | (repeat (first | exact F0 _ | apply F1))) (by rfl) agg53 (Wt.none rfl) rfl ?_ | refine RunL.load1R rfl (by assumption) (by rfl) agg53 (Wt.none rfl) rfl ?_
          refine RunL.mv rfl rfl ?_
          refine RunL.pure (Pure.indexAddr rfl rfl und53 sz45 (by omega) (by omega)) (Wt.none rfl) rfl rfl ?_
          refine RunL.loadA (vs := (cE xk)) rfl (by first | ((repeat (first | (with_reducible exact F0 _) | apply F1)); done) | (repeat (first | exact F0 _ | apply F1))) agg45 sz45 (elemN_len (f := cE) (sz := 2) (j := 0) (n := 2) (fun _ _ => rfl) hxk (by decide)) ((elemN_at (f := cE) (sz := 2) (j := 0) (n := 2) (fun _ _ => rfl) hxk (by decide)).trans rfl) (Wt.none rfl) rfl ?_
          refine RunL.mkSl (b := b2) (pre := pre2) (post := post2) (sz := 2) (cs := (l).flatMap cE) (n := (l).length) (by first | ((repeat (first | (with_reducible exact F0 _) | apply F1)); done) | (repeat (first | exact F0 _ | apply F1))) hsl1 (by simpa using hsl2) (by simpa using hsl3) ?_
          refine RunL.mkA (l) (by repeat (first | (with_reducible exact Take.nil _) | (apply Take.cons (by first | ((repeat (first | (with_reducible exact F0 _) | apply F1)); done) | (repeat (first | exact F0 _ | apply F1)))))) (by simp) ?_
          refine RunL.call rfl rfl (by rfl) (by repeat (first | (with_reducible exact Take.nil _) | (apply Take.cons (by first | ((repeat (first | (with_reducible exact F0 _) | apply F1)); done) | (repeat (first | exact F0 _ | apply F1)))))) (set_ctr hil (by omega)) (Wt.none rfl) rfl ?_
          rintro _ _ ⟨rfl, hA_⟩
          replace hA_ := hA_.symm; subst hA_
          refine RunL.nil ?_
          refine Run.region ?_
          refine RunL.mv rfl rfl ?_
          refine RunL.as rfl rfl ?_
          refine RunL.nil ?_
          refine Run.inBlock ?_
          refine Run.keep (.cons rfl (.cons rfl (.cons rfl (.nil))) : Keep _ [0, 1, 4] _) ?_
          refine Run.againF (F := F) ih (by exact ⟨2 * i + 1, l.set i xk, mput xk.key (i : Int) at', by simp; omega, by simpa using hb', hdn.move hil hles.2.1 hles.1 hxk (fun j y hj hu hy => by obtain ⟨x', h1, h2⟩ := hles.2.2 j y hj hu hy; rw [hxk] at h1; cases h1; exact h2), (hole_perm hil hxk (by omega)).trans hperm, hix.move hil hxk (by omega) (hk.perm hperm.symm), hka.mput, rfl, rfl, rfl⟩) (by repeat (first | (with_reducible exact Fin.done (by repeat (first | (with_reducible exact Rest.here) | apply Rest.there))) | (apply Fin.cons (by first | ((repeat (first | (with_reducible exact F0 _) | apply F1)); done) | (repeat (first | exact F0 _ | apply F1)))))) ?_
          have := hles.2.1; have := hles.1; unfold up1 at *; simp; omega
  · try simp only [ZA, ZB, ZC, ZD, ZE, ZF, ZG, ZH, ZI, ZJ, ZK, ZL, ZM, ZN, ZO, ZP, ZQ, ZR] at h5
    have hles : Lesser l i (2 * i + 1) := Lesser.one (by omega)
    refine RunD.not (i := 9) hok30 rfl (by kernel_rfl) rfl rfl (Wt.no rfl rfl rfl) ?_
    refine RunD.not (i := 10) hok30 rfl (by kernel_rfl) rfl rfl (Wt.no rfl rfl rfl) ?_
    refine RunD.not (i := 11) hok30 rfl (by kernel_rfl) rfl rfl (Wt.no rfl rfl rfl) ?_
    refine RunD.not (i := 12) hok30 rfl (by kernel_rfl) rfl rfl (Wt.no rfl rfl rfl) ?_
    refine RunD.not (i := 13) hok30 rfl (by kernel_rfl) rfl rfl (Wt.no rfl rfl rfl) ?_
    refine RunD.not (i := 14) hok30 rfl (by kernel_rfl) rfl rfl (Wt.no rfl rfl rfl) ?_
    refine RunD.not (i := 15) hok30 rfl (by kernel_rfl) rfl rfl (Wt.no rfl rfl rfl) ?_
    refine RunD.not (i := 16) hok30 rfl (by kernel_rfl) rfl rfl (Wt.no rfl rfl rfl) ?_
    refine RunD.not (i := 17) hok30 rfl (by kernel_rfl) rfl rfl (Wt.no rfl rfl rfl) ?_
    refine RunD.not (i := 18) hok30 rfl (by kernel_rfl) rfl rfl (Wt.no rfl rfl rfl) ?_
    refine RunD.not (i := 19) hok30 rfl (by kernel_rfl) rfl rfl (Wt.no rfl rfl rfl) ?_
    refine RunD.not (i := 20) hok30 rfl (by kernel_rfl) rfl rfl (Wt.no rfl rfl rfl) ?_
    refine RunD.not (i := 21) hok30 rfl (by kernel_rfl) rfl rfl (Wt.no rfl rfl rfl) ?_
    refine RunD.not (i := 22) hok30 rfl (by kernel_rfl) rfl rfl (Wt.no rfl rfl rfl) ?_
    refine RunD.not (i := 23) hok30 rfl (by kernel_rfl) rfl rfl (Wt.no rfl rfl rfl) ?_
    refine RunD.not (i := 24) hok30 rfl (by kernel_rfl) rfl rfl (Wt.no rfl rfl rfl) ?_
    refine RunD.not (i := 25) hok30 rfl (by kernel_rfl) rfl rfl (Wt.no rfl rfl rfl) ?_
    refine RunD.pure (i := 26) hok30 rfl (by kernel_rfl) (Pure.pickF rfl rfl) (Wt.none rfl) rfl rfl ?_
    refine RunD.nilB (by kernel_rfl) (fun w sw => backg1 _ _ (backg2 _ _ (sw))) ?_
    refine Run.condF rfl ?_
    refine Run.skip ?_
    rw [show (2 * (i : Int) + 1) = ((2 * i + 1 : Nat) : Int) from by omega]
    refine Run.seq ?_
    refine Run.seq ?_
    refine Run.regionD' (by kernel_rfl) (by kernel_rfl) (fun hok313 => ?_)
    refine RunD.lend (Q := row b4 45 _) Lends.row (by first | ((repeat (first | (with_reducible exact F0 _) | apply F1)); done) | (repeat (first | exact F0 _ | apply F1))) ?_; intro gl3 hlegl3 hl3 backgl3
    refine RunD.lend (Q := row p 60 _) Lends.row (by first | ((repeat (first | (with_reducible exact F0 _) | apply F1)); done) | (repeat (first | exact F0 _ | apply F1))) ?_; intro g1 hleg1 hg1 backg1
    try (replace hl3 := hl3.mono hleg1)
    refine RunD.lend (Q := row b2 45 _) Lends.row (by first | ((repeat (first | (with_reducible exact F0 _) | apply F1)); done) | (repeat (first | exact F0 _ | apply F1))) ?_; intro g2 hleg2 hg2 backg2
    try (replace hl3 := hl3.mono hleg2)
    try (replace hg1 := hg1.mono hleg2)
    refine RunD.pure (i := 0) hok313 rfl (by kernel_rfl) (Pure.move rfl) (Wt.none rfl) rfl rfl ?_
    refine RunD.pure (i := 1) hok313 rfl (by kernel_rfl) (Pure.move rfl) (Wt.none rfl) rfl rfl ?_
    refine RunD.pure (i := 2) hok313 rfl (by kernel_rfl) (Pure.nilCheck rfl) (Wt.none rfl) rfl rfl ?_
    refine RunD.pure (i := 3) hok313 rfl (by kernel_rfl) (Pure.fieldAddr rfl fo60_0) (Wt.none rfl) rfl rfl ?_
    refine RunD.load1R (i := 4) hok313 rfl (by kernel_rfl) rfl (by assumption) (by rfl) agg53 (Wt.none rfl) rfl ?_
    refine RunD.pure (i := 5) hok313 rfl (by kernel_rfl) (Pure.lenSl rfl rfl und53) (Wt.none rfl) rfl rfl ?_
    refine RunD.pure (i := 6) hok313 rfl (by kernel_rfl) (Pure.geq rfl rfl) (Wt.none rfl) rfl rfl ?_
    refine RunD.pure (i := 7) hok313 rfl (by kernel_rfl) (Pure.move rfl) (Wt.none rfl) rfl rfl ?_
    refine RunD.split (d := 52) rfl (fun h7 => ?_) (fun h7 => ?_)
    · try simp only [ZA, ZB, ZC, ZD, ZE, ZF, ZG, ZH, ZI, ZJ, ZK, ZL, ZM, ZN, ZO, ZP, ZQ, ZR] at h7
      refine RunD.not (i := 8) hok313 rfl (by kernel_rfl) rfl rfl (Wt.no rfl rfl rfl) ?_
      refine RunD.not (i := 9) hok313 rfl (by kernel_rfl) rfl rfl (Wt.no rfl rfl rfl) ?_
      refine RunD.not (i := 10) hok313 rfl (by kernel_rfl) rfl rfl (Wt.no rfl rfl rfl) ?_
      refine RunD.not (i := 11) hok313 rfl (by kernel_rfl) rfl rfl (Wt.no rfl rfl rfl) ?_
      refine RunD.not (i := 12) hok313 rfl (by kernel_rfl) rfl rfl (Wt.no rfl rfl rfl) ?_
      refine RunD.not (i := 13) hok313 rfl (by kernel_rfl) rfl rfl (Wt.no rfl rfl rfl) ?_
      refine RunD.not (i := 14) hok313 rfl (by kernel_rfl) rfl rfl (Wt.no rfl rfl rfl) ?_
      refine RunD.not (i := 15) hok313 rfl (by kernel_rfl) rfl rfl (Wt.no rfl rfl rfl) ?_
      refine RunD.not (i := 16) hok313 rfl (by kernel_rfl) rfl rfl (Wt.no rfl rfl rfl) ?_
      refine RunD.not (i := 17) hok313 rfl (by kernel_rfl) rfl rfl (Wt.no rfl rfl rfl) ?_
      refine RunD.pure (i := 18) hok313 rfl (by kernel_rfl) (Pure.pickT rfl rfl) (Wt.none rfl) rfl rfl ?_
      refine RunD.nilB (by kernel_rfl) (fun w sw => backgl3 _ _ (backg1 _ _ (backg2 _ _ (sw)))) ?_
      refine Run.condT rfl ?_
      refine Run.exit rfl ?_
      refine Run.mkSl (b := b2) (pre := pre2) (post := post2) (sz := 2) (cs := (l).flatMap cE) (n := (l).length) (by first | ((repeat (first | (with_reducible exact F0 _) | apply F1)); done) | (repeat (first | exact F0 _ | apply F1))) hsl1 (by simpa using hsl2) (by simpa using hsl3) ?_
      refine Run.mkA (l) (by repeat (first | (with_reducible exact Take.nil _) | (apply Take.cons (by first | ((repeat (first | (with_reducible exact F0 _) | apply F1)); done) | (repeat (first | exact F0 _ | apply F1)))))) (by simp) ?_
      refine Run.region ?_
      refine RunL.mv rfl rfl ?_
      refine RunL.mv rfl rfl ?_
      first | refine RunL.loadA (vs := (cE en)) rfl (by first | ((repeat (first | (with_reducible exact F0 _) | apply F1)); done) | (repeat (first | exact F0 _ | apply F1))) agg45 sz45 (by first | exact Nat.le_of_ble_eq_true rfl | (simp; done) | (simp; omega)) rfl (Wt.none rfl) rfl ?_ | refine RunL.loadNR (vs := (cE en)) rfl (by assumption) agg45 sz45 (by first | exact Nat.le_of_ble_eq_true rfl | (simp; done) | (simp; omega)) rfl (Wt.none rfl) rfl ?_
      refine RunL.call rfl rfl (by rfl) (by repeat (first | (with_reducible exact Take.nil _) | (apply Take.cons (by first | ((repeat (first | (with_reducible exact F0 _) | apply F1)); done) | (repeat (first | exact F0 _ | apply F1)))))) (set_ctr hil (by omega)) (Wt.none rfl) rfl ?_
      rintro _ _ ⟨rfl, hA_⟩
      replace hA_ := hA_.symm; subst hA_
      refine RunL.nil ?_
      exact Run.fin Try.func32 (res0 rfl) (by exact ⟨i, _, _, rfl, hperm, by rw [List.getElem?_set, if_pos rfl, if_pos hil], hdn.done (fun j y hj hu hy => by obtain ⟨x', h1, h2⟩ := hles.2.2 j y hj hu hy; have := (List.getElem?_eq_some_iff.1 h1).1; omega), hix.done hil (hk.perm hperm.symm), hka.mput, rfl⟩) (by repeat (first | (with_reducible exact Fin.done (by repeat (first | (with_reducible exact Rest.here) | apply Rest.there))) | (apply Fin.cons (by first | ((repeat (first | (with_reducible exact F0 _) | apply F1)); done) | (repeat (first | exact F0 _ | apply F1))))))
    · try simp only [ZA, ZB, ZC, ZD, ZE, ZF, ZG, ZH, ZI, ZJ, ZK, ZL, ZM, ZN, ZO, ZP, ZQ, ZR] at h7
      obtain ⟨xk, hxk⟩ := get_some (xs := l) (i := 2 * i + 1) (by omega)
      refine RunD.loadNR (vs := (cE en)) (i := 8) hok313 rfl (by kernel_rfl) rfl (by assumption) agg45 sz45 (by first | exact Nat.le_of_ble_eq_true rfl | (simp; done) | (simp; omega)) rfl (Wt.yes rfl rfl rfl) rfl ?_
      refine RunD.pure (i := 9) hok313 rfl (by kernel_rfl) (Pure.move rfl) (Wt.yes rfl rfl rfl) rfl rfl ?_
      refine RunD.pure (i := 10) hok313 rfl (by kernel_rfl) (Pure.nilCheck rfl) (Wt.yes rfl rfl rfl) rfl rfl ?_
      refine RunD.pure (i := 11) hok313 rfl (by kernel_rfl) (Pure.fieldAddr rfl fo60_0) (Wt.yes rfl rfl rfl) rfl rfl ?_
      refine RunD.load1R (i := 12) hok313 rfl (by kernel_rfl) rfl (by assumption) (by rfl) agg53 (Wt.yes rfl rfl rfl) rfl ?_
      refine RunD.pure (i := 13) hok313 rfl (by kernel_rfl) (Pure.move rfl) (Wt.yes rfl rfl rfl) rfl rfl ?_
      refine RunD.pure (i := 14) hok313 rfl (by kernel_rfl) (Pure.indexAddr rfl rfl und53 sz45 (by omega) (by omega)) (Wt.yes rfl rfl rfl) rfl rfl ?_
      refine RunD.loadNR (vs := (cE xk)) (i := 15) hok313 rfl (by kernel_rfl) rfl hg2 agg45 sz45 (elemN_len (f := cE) (sz := 2) (j := 0) (n := 2) (fun _ _ => rfl) hxk (by decide)) ((elemN_at (f := cE) (sz := 2) (j := 0) (n := 2) (fun _ _ => rfl) hxk (by decide)).trans rfl) (Wt.yes rfl rfl rfl) rfl ?_
      refine RunD.one (i := 16) (by kernel_rfl) rfl ?_
      refine RunL.call rfl rfl (by rfl) (by repeat (first | (with_reducible exact Take.nil _) | (apply Take.cons (by first | ((repeat (first | (with_reducible exact F0 _) | apply F1)); done) | (repeat (first | exact F0 _ | apply F1)))))) (ahead_ctr) (Wt.yes rfl rfl rfl) rfl ?_
      rintro _ _ ⟨rfl, hA_⟩
      replace hA_ := hA_.symm; subst hA_
      refine RunL.nilD' ?_
      refine RunD.pure (i := 17) hok313 rfl (by kernel_rfl) (Pure.lss rfl rfl) (Wt.yes rfl rfl rfl) rfl rfl ?_
      refine RunD.pure (i := 18) hok313 rfl (by kernel_rfl) (Pure.pickF rfl rfl) (Wt.none rfl) rfl rfl ?_
      refine RunD.nilB (by kernel_rfl) (fun w sw => backgl3 _ _ (backg1 _ _ (backg2 _ _ (sw)))) ?_
      refine Run.cond rfl (fun h8 => ?_) (fun h8 => ?_)
      · try simp only [ZA, ZB, ZC, ZD, ZE, ZF, ZG, ZH, ZI, ZJ, ZK, ZL, ZM, ZN, ZO, ZP, ZQ, ZR] at h8
        refine Run.exit rfl ?_
        refine Run.mkSl (b := b2) (pre := pre2) (post := post2) (sz := 2) (cs := (l).flatMap cE) (n := (l).length) (by first | ((repeat (first | (with_reducible exact F0 _) | apply F1)); done) | (repeat (first | exact F0 _ | apply F1))) hsl1 (by simpa using hsl2) (by simpa using hsl3) ?_
        refine Run.mkA (l) (by repeat (first | (with_reducible exact Take.nil _) | (apply Take.cons (by first | ((repeat (first | (with_reducible exact F0 _) | apply F1)); done) | (repeat (first | exact F0 _ | apply F1)))))) (by simp) ?_
        refine Run.region ?_
        refine RunL.mv rfl rfl ?_
        refine RunL.mv rfl rfl ?_
        first | refine RunL.loadA (vs := (cE en)) rfl (by first | ((repeat (first | (with_reducible exact F0 _) | apply F1)); done) | (repeat (first | exact F0 _ | apply F1))) agg45 sz45 (by first | exact Nat.le_of_ble_eq_true rfl | (simp; done) | (simp; omega)) rfl (Wt.none rfl) rfl ?_ | refine RunL.loadNR (vs := (cE en)) rfl (by assumption) agg45 sz45 (by first | exact Nat.le_of_ble_eq_true rfl | (simp; done) | (simp; omega)) rfl (Wt.none rfl) rfl ?_
        refine RunL.call rfl rfl (by rfl) (by repeat (first | (with_reducible exact Take.nil _) | (apply Take.cons (by first | ((repeat (first | (with_reducible exact F0 _) | apply F1)); done) | (repeat (first | exact F0 _ | apply F1)))))) (set_ctr hil (by omega)) (Wt.none rfl) rfl ?_
        rintro _ _ ⟨rfl, hA_⟩
        replace hA_ := hA_.symm; subst hA_
        refine RunL.nil ?_
        exact Run.fin Try.func32 (res0 rfl) (by exact ⟨i, _, _, rfl, hperm, by rw [List.getElem?_set, if_pos rfl, if_pos hil], hdn.done (fun j y hj hu hy => by obtain ⟨x', h1, h2⟩ := hles.2.2 j y hj hu hy; rw [hxk] at h1; cases h1; exact cmpE_le_trans (by omega) h2), hix.done hil (hk.perm hperm.symm), hka.mput, rfl⟩) (by repeat (first | (with_reducible exact Fin.done (by repeat (first | (with_reducible exact Rest.here) | apply Rest.there))) | (apply Fin.cons (by first | ((repeat (first | (with_reducible exact F0 _) | apply F1)); done) | (repeat (first | exact F0 _ | apply F1))))))
      · try simp only [ZA, ZB, ZC, ZD, ZE, ZF, ZG, ZH, ZI, ZJ, ZK, ZL, ZM, ZN, ZO, ZP, ZQ, ZR] at h8
        refine Run.skip ?_
        refine Run.sr ?_
        refine RunL.mv rfl rfl ?_
        refine RunL.mv rfl rfl ?_
        refine RunL.mv rfl rfl ?_
        refine RunL.pure (Pure.nilCheck rfl) (Wt.none rfl) rfl rfl ?_
        refine RunL.pure (Pure.fieldAddr rfl fo60_0) (Wt.none rfl) rfl rfl ?_
        first | refine RunL.load1 rfl (by first | ((repeat (first | (with_reducible exact F0 _) | apply F1)); done) | (repeat (first | exact F0 _ | apply F1))) (by rfl) agg53 (Wt.none rfl) rfl ?_ | refine RunL.load1R rfl (by assumption) (by rfl) agg53 (Wt.none rfl) rfl ?_
        refine RunL.mv rfl rfl ?_
        refine RunL.pure (Pure.indexAddr rfl rfl und53 sz45 (by omega) (by omega)) (Wt.none rfl) rfl rfl ?_
        refine RunL.loadA (vs := (cE xk)) rfl (by first | ((repeat (first | (with_reducible exact F0 _) | apply F1)); done) | (repeat (first | exact F0 _ | apply F1))) agg45 sz45 (elemN_len (f := cE) (sz := 2) (j := 0) (n := 2) (fun _ _ => rfl) hxk (by decide)) ((elemN_at (f := cE) (sz := 2) (j := 0) (n := 2) (fun _ _ => rfl) hxk (by decide)).trans rfl) (Wt.none rfl) rfl ?_
        refine RunL.mkSl (b := b2) (pre := pre2) (post := post2) (sz := 2) (cs := (l).flatMap cE) (n := (l).length) (by first | ((repeat (first | (with_reducible exact F0 _) | apply F1)); done) | (repeat (first | exact F0 _ | apply F1))) hsl1 (by simpa using hsl2) (by simpa using hsl3) ?_
        refine RunL.mkA (l) (by repeat (first | (with_reducible exact Take.nil _) | (apply Take.cons (by first | ((repeat (first | (with_reducible exact F0 _) | apply F1)); done) | (repeat (first | exact F0 _ | apply F1)))))) (by simp) ?_
        refine RunL.call rfl rfl (by rfl) (by repeat (first | (with_reducible exact Take.nil _) | (apply Take.cons (by first | ((repeat (first | (with_reducible exact F0 _) | apply F1)); done) | (repeat (first | exact F0 _ | apply F1)))))) (set_ctr hil (by omega)) (Wt.none rfl) rfl ?_
        rintro _ _ ⟨rfl, hA_⟩
        replace hA_ := hA_.symm; subst hA_
        refine RunL.nil ?_
        refine Run.region ?_
        refine RunL.mv rfl rfl ?_
        refine RunL.as rfl rfl ?_
        refine RunL.nil ?_
        refine Run.inBlock ?_
        refine Run.keep (.cons rfl (.cons rfl (.cons rfl (.nil))) : Keep _ [0, 1, 4] _) ?_
        refine Run.againF (F := F) ih (by exact ⟨2 * i + 1, l.set i xk, mput xk.key (i : Int) at', by simp; omega, by simpa using hb', hdn.move hil hles.2.1 hles.1 hxk (fun j y hj hu hy => by obtain ⟨x', h1, h2⟩ := hles.2.2 j y hj hu hy; rw [hxk] at h1; cases h1; exact h2), (hole_perm hil hxk (by omega)).trans hperm, hix.move hil hxk (by omega) (hk.perm hperm.symm), hka.mput, rfl, rfl, rfl⟩) (by repeat (first | (with_reducible exact Fin.done (by repeat (first | (with_reducible exact Rest.here) | apply Rest.there))) | (apply Fin.cons (by first | ((repeat (first | (with_reducible exact F0 _) | apply F1)); done) | (repeat (first | exact F0 _ | apply F1)))))) ?_
        have := hles.2.1; have := hles.1; unfold up1 at *; simp; omega

end Go.Proofs.Ytppamndllgojnaa
