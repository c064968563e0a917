/- A mark put into a list. -/
import Derived.Test.YtaeacdhilekcbaaR6
set_option linter.unusedVariables false
set_option linter.unusedSimpArgs false
namespace Go.Proofs.Ytaeacdhilekcbaa
open Go Csl
theorem cb14 : Callable Try.prog 14 := ⟨_, Try.func14, by kernel_rfl, by kernel_rfl⟩
theorem by28 : bytesIs Try.prog 28 = some 80 := by kernel_rfl

theorem rGetO_ctr {G : Gp} {a : Option Addr} {tl : List (K × Pos)} {cap : Nat} {k : K} (hb : tl.length ≤ 1000000) : Ctr Try.prog G 14 [.slice a (ML tl).length cap, .agg (cK k).toArray] [Sl 28 6 a (ML tl).length cap ((ML tl).flatMap cM)] (fun F v A => ∃ z, v = .int .i64 z ∧ GetIs (ML tl) k z ∧ A = Sl 28 6 a (ML tl).length cap ((ML tl).flatMap cM) :: F) :=
  (Ctr.lend (Q := Sl 28 6 a (ML tl).length cap ((ML tl).flatMap cM)) (R := fun G => SlR G 28 6 a (ML tl).length ((ML tl).flatMap cM) ∧ (ML tl).length ≤ cap) Lends.Sl cb14 (fun G' hle hr => rGet_ctr hr.1 (by rw [ML_len]; exact hb))).mono (by rintro F v A ⟨A', rfl, h⟩; obtain ⟨z, rfl, hz, rfl⟩ := h; exact ⟨z, rfl, hz, rfl⟩)
set_option maxHeartbeats 2000000 in
set_option maxRecDepth 100000 in
theorem rPut_ctr {G : Gp} {a : Option Addr} {tl : List (K × Pos)} {cap : Nat} {k : K} {q : Pos} (hn : KN tl) (hb : tl.length ≤ 1000) :
    Ctr Try.prog G 25 [.slice a (ML tl).length cap, .agg (cK k).toArray, .agg (cPos q).toArray] [Sl 28 6 a (ML tl).length cap ((ML tl).flatMap cM)] (fun F v A => ∃ a' cap', v = .tuple #[.slice a' (ML (tput tl k q)).length cap', .bool (adopts tl k q)] ∧ A = Sl 28 6 a' (ML (tput tl k q)).length cap' ((ML (tput tl k q)).flatMap cM) :: F) := by
  refine Ctr.intro Try.func25 rfl (by kernel_rfl) rfl (fun F => ?_)
  simp only [List.cons_append, List.nil_append]
  have hlen := ML_len tl
  refine Run.sr ?_
  refine RunL.boxA (xs := (cK k)) rfl (Wt.none rfl) rfl ?_; intro b4
  refine RunL.boxA (xs := (cPos q)) rfl (Wt.none rfl) rfl ?_; intro b5
  refine RunL.as rfl rfl ?_
  refine RunL.as rfl rfl ?_
  refine RunL.nil ?_
  refine Run.lendAll (Q := row b4 24 _) Lends.row (by first | ((repeat (first | (with_reducible exact F0 _) | apply F1)); done) | (repeat (first | exact F0 _ | apply F1))) (fun G4 hleG4 hrb4 => ?_)
  refine Run.lendAll (Q := row b5 26 _) Lends.row (by first | ((repeat (first | (with_reducible exact F0 _) | apply F1)); done) | (repeat (first | exact F0 _ | apply F1))) (fun G5 hleG5 hrb5 => ?_)
  replace hrb4 := hrb4.mono hleG5
  refine Run.sr ?_
  refine RunL.mv rfl rfl ?_
  first | refine RunL.loadA (vs := (cK k)) rfl (by first | ((repeat (first | (with_reducible exact F0 _) | apply F1)); done) | (repeat (first | exact F0 _ | apply F1))) agg24 sz24 (by first | exact Nat.le_of_ble_eq_true rfl | (simp; done) | (simp; omega)) rfl (Wt.none rfl) rfl ?_ | refine RunL.loadNR (vs := (cK k)) rfl (by assumption) agg24 sz24 (by first | exact Nat.le_of_ble_eq_true rfl | (simp; done) | (simp; omega)) rfl (Wt.none rfl) rfl ?_
  refine RunL.call rfl rfl (by rfl) (by repeat (first | (with_reducible exact Take.nil _) | (apply Take.cons (by first | ((repeat (first | (with_reducible exact F0 _) | apply F1)); done) | (repeat (first | exact F0 _ | apply F1)))))) (rGetO_ctr (by omega)) (Wt.none rfl) rfl ?_
  rintro _ _ ⟨z, rfl, hz, hA_⟩
  replace hA_ := hA_.symm; subst hA_
  refine RunL.as rfl rfl ?_
  refine RunL.nil ?_
  refine Run.sr ?_
  refine RunL.as rfl rfl ?_
  refine RunL.nil ?_
  refine Run.seq ?_
  refine Run.sr ?_
  refine RunL.mv rfl rfl ?_
  refine RunL.pure (Pure.geq rfl rfl) (Wt.none rfl) rfl rfl ?_
  refine RunL.nil ?_
  refine Run.cond rfl (fun h1 => ?_) (fun h1 => ?_)
  · try simp only [ZA, ZB, ZC, ZD, ZE, ZF, ZG, ZH, ZI, ZJ, ZK, ZL, ZM, ZN, ZO, ZP, ZQ, ZR] at h1
    obtain ⟨i, m, rfl, hm, rfl⟩ : ∃ (i : Nat) (m : M), z = (i : Nat) ∧ (ML tl)[i]? = some m ∧ m.k = k := by
      rcases hz with ⟨h0, _⟩ | h0
      · omega
      · exact h0
    have hil := (List.getElem?_eq_some_iff.1 hm).1
    have hmg := ML_mget hn hm
    refine Run.seq ?_
    refine Run.regionD' (by kernel_rfl) (by kernel_rfl) (fun hok34 => ?_)
    refine RunD.lend (Q := Sl 28 6 a (ML tl).length cap ((ML tl).flatMap cM)) Lends.Sl (by first | ((repeat (first | (with_reducible exact F0 _) | apply F1)); done) | (repeat (first | exact F0 _ | apply F1))) ?_; intro g1 hleg1 hg1 backg1
    have hrb4_g1 := hrb4.mono hleg1
    have hrb5_g1 := hrb5.mono hleg1
    obtain ⟨b, T', pre, post, rfl, hro⟩ := hg1.1.open1 (show 0 < (ML tl).length by omega)
    refine RunD.pure (i := 0) hok34 rfl (by kernel_rfl) (Pure.move rfl) (Wt.none rfl) rfl rfl ?_
    refine RunD.pure (i := 1) hok34 rfl (by kernel_rfl) (Pure.move rfl) (Wt.none rfl) rfl rfl ?_
    refine RunD.pure (i := 2) hok34 rfl (by kernel_rfl) (Pure.indexAddr rfl rfl und22 sz28 (by omega) (by omega)) (Wt.none rfl) rfl rfl ?_
    refine RunD.pure (i := 3) hok34 rfl (by kernel_rfl) (Pure.fieldAddr rfl fo28_1) (Wt.none rfl) rfl rfl ?_
    refine RunD.loadNR (vs := (cPos m.pos)) (i := 4) hok34 rfl (by kernel_rfl) rfl hro agg26 sz26 (elemN_len (f := cM) (sz := 6) (j := 4) (n := 2) (fun _ _ => rfl) hm (by decide)) ((elemN_at (f := cM) (sz := 6) (j := 4) (n := 2) (fun _ _ => rfl) hm (by decide)).trans rfl) (Wt.none rfl) rfl ?_
    refine RunD.loadNR (vs := (cPos q)) (i := 5) hok34 rfl (by kernel_rfl) rfl (by assumption) agg26 sz26 (by first | exact Nat.le_of_ble_eq_true rfl | (simp; done) | (simp; omega)) rfl (Wt.none rfl) rfl ?_
    refine RunD.one (i := 6) (by kernel_rfl) rfl ?_
    refine RunL.call rfl rfl (by rfl) (by repeat (first | (with_reducible exact Take.nil _) | (apply Take.cons (by first | ((repeat (first | (with_reducible exact F0 _) | apply F1)); done) | (repeat (first | exact F0 _ | apply F1)))))) (beforePos_ctr (p := m.pos) (q := q)) (Wt.none rfl) rfl ?_
    rintro _ _ ⟨rfl, hA_⟩
    replace hA_ := hA_.symm; subst hA_
    refine RunL.nilD' ?_
    refine RunD.pure (i := 7) hok34 rfl (by kernel_rfl) (Pure.assign rfl) (Wt.none rfl) rfl rfl ?_
    refine RunD.nilB (by kernel_rfl) (fun w sw => backg1 _ _ (sw)) ?_
    refine Run.seq ?_
    refine Run.sr ?_
    refine RunL.mv rfl rfl ?_
    refine RunL.pure (Pure.not rfl) (Wt.none rfl) rfl rfl ?_
    refine RunL.nil ?_
    refine Run.cond rfl (fun h2 => ?_) (fun h2 => ?_)
    · try simp only [ZA, ZB, ZC, ZD, ZE, ZF, ZG, ZH, ZI, ZJ, ZK, ZL, ZM, ZN, ZO, ZP, ZQ, ZR] at h2
      refine Run.sr ?_
      refine RunL.mv rfl rfl ?_
      refine RunL.as rfl rfl ?_
      refine RunL.as rfl rfl ?_
      refine RunL.nil ?_
      have hnb : adopts tl m.k q = false := by rw [adopts_eq, hmg]; simp; have := beforePos_cmp (a := m.pos) (b := q); simp_all
      have tput_no : tput tl m.k q = tl := by rw [tput, hnb]; rfl
      exact Run.ret Try.func25 (res2 rfl rfl rfl) (by exact ⟨_, _, by rw [tput_no, hnb], by rw [tput_no]⟩) (by repeat (first | (with_reducible exact Fin.done (by repeat (first | (with_reducible exact Rest.here) | apply Rest.there))) | (apply Fin.cons (by first | ((repeat (first | (with_reducible exact F0 _) | apply F1)); done) | (repeat (first | exact F0 _ | apply F1))))))
    · try simp only [ZA, ZB, ZC, ZD, ZE, ZF, ZG, ZH, ZI, ZJ, ZK, ZL, ZM, ZN, ZO, ZP, ZQ, ZR] at h2
      have had : adopts tl m.k q = true := by rw [adopts_eq, hmg]; simp; have := beforePos_cmp (a := m.pos) (b := q); simp_all
      have hset := ML_set (q := q) hn hm
      refine Run.skip ?_
      refine Run.sr ?_
      refine RunL.mv rfl rfl ?_
      refine RunL.mv rfl rfl ?_
      refine RunL.append0 (m := (ML tl).length) rfl rfl rfl rfl und22 und22 rfl sz28 zz28 rfl by28 (by omega) (by omega) (fun w sw => sw.src) (Wt.none rfl) rfl ?_; intro a1 c1
      refine RunL.openSl (a := a1) (n := (ML tl).length) (by first | ((repeat (first | (with_reducible exact F0 _) | apply F1)); done) | (repeat (first | exact F0 _ | apply F1))) (by omega) ?_; rintro b2 pre2 post2 rfl hsl1 hsl2 hsl3
      refine RunL.as rfl rfl ?_
      refine RunL.nil ?_
      refine Run.sr ?_
      refine RunL.mv rfl rfl ?_
      refine RunL.mv rfl rfl ?_
      first | refine RunL.loadA (vs := (cPos q)) rfl (by first | ((repeat (first | (with_reducible exact F0 _) | apply F1)); done) | (repeat (first | exact F0 _ | apply F1))) agg26 sz26 (by first | exact Nat.le_of_ble_eq_true rfl | (simp; done) | (simp; omega)) rfl (Wt.none rfl) rfl ?_ | refine RunL.loadNR (vs := (cPos q)) rfl (by assumption) agg26 sz26 (by first | exact Nat.le_of_ble_eq_true rfl | (simp; done) | (simp; omega)) rfl (Wt.none rfl) rfl ?_
      refine RunL.pure (Pure.indexAddr rfl rfl und22 sz28 (by omega) (by omega)) (Wt.none rfl) rfl rfl ?_
      refine RunL.pure (Pure.fieldAddr rfl fo28_1) (Wt.none rfl) rfl rfl ?_
      refine RunL.storeA (xs := (cPos q)) rfl rfl (by first | ((repeat (first | (with_reducible exact F0 _) | apply F1)); done) | (repeat (first | exact F0 _ | apply F1))) sz26 (by rfl) (by rfl) (elemN_len (f := cM) (sz := 6) (j := 4) (n := 2) (fun _ _ => rfl) hm (by decide)) (setRange_el (f := cM) (sz := 6) (j := 4) (y := ⟨m.k, q⟩) (fun _ _ => rfl) hm (Nat.le_of_ble_eq_true rfl) rfl) (Wt.none rfl) ?_
      refine RunL.mkSl (b := b2) (pre := pre2) (post := post2) (sz := 6) (cs := ((ML tl).set i ⟨m.k, q⟩).flatMap cM) (n := ((ML tl).set i ⟨m.k, q⟩).length) (by first | ((repeat (first | (with_reducible exact F0 _) | apply F1)); done) | (repeat (first | exact F0 _ | apply F1))) (flatMap_length (fun _ _ => rfl)) (by simpa using hsl2) (by simpa using hsl3) ?_
      refine RunL.nil ?_
      refine Run.sr ?_
      refine RunL.mv rfl rfl ?_
      refine RunL.as rfl rfl ?_
      refine RunL.as rfl rfl ?_
      refine RunL.nil ?_
      rw [hset]
      exact Run.ret Try.func25 (res2 rfl rfl rfl) (by exact ⟨_, _, by rw [had, tput, had, if_pos rfl, ← hset, List.length_set], by rw [tput, had, if_pos rfl]⟩) (by repeat (first | (with_reducible exact Fin.done (by repeat (first | (with_reducible exact Rest.here) | apply Rest.there))) | (apply Fin.cons (by first | ((repeat (first | (with_reducible exact F0 _) | apply F1)); done) | (repeat (first | exact F0 _ | apply F1))))))
  · try simp only [ZA, ZB, ZC, ZD, ZE, ZF, ZG, ZH, ZI, ZJ, ZK, ZL, ZM, ZN, ZO, ZP, ZQ, ZR] at h1
    have hmg : mget k tl = none := by
      rcases hz with ⟨_, h0⟩ | ⟨i, m, h0, _⟩
      · exact ML_none h0
      · omega
    refine Run.skip ?_
    refine Run.sr ?_
    refine RunL.as rfl rfl ?_
    refine RunL.nil ?_
    refine Run.seq ?_
    refine Run.block ?_
    refine Run.keep (.cons rfl (.cons rfl (.cons rfl (.cons rfl (.cons rfl (.nil))))) : Keep _ [0, 4, 5, 9, 11] _) ?_
    refine Run.loopF (F := F) (fun n e A => ∃ (j : Nat), j ≤ (ML tl).length ∧ (∀ i m, i < j → (ML tl)[i]? = some m → beforeK m.k k = true) ∧ n = (ML tl).length - j ∧ e = [(0, .slice a (ML tl).length cap), (4, .pointer (some ⟨b4, 0, none⟩)), (5, .pointer (some ⟨b5, 0, none⟩)), (9, .slice none 0 0), (11, .int .i64 (j : Nat))] ∧ A = Sl 28 6 a (ML tl).length cap ((ML tl).flatMap cM) :: F) ((ML tl).length) (by exact ⟨0, by omega, fun j m hj => by omega, rfl, rfl, rfl⟩) (by repeat (first | (with_reducible exact Fin.done (by repeat (first | (with_reducible exact Rest.here) | apply Rest.there))) | (apply Fin.cons (by first | ((repeat (first | (with_reducible exact F0 _) | apply F1)); done) | (repeat (first | exact F0 _ | apply F1)))))) ?_
    rintro n _ _ ⟨j, hj, hpre, rfl, rfl, hA_⟩ ih
    replace hA_ := hA_.symm; subst hA_
    refine Run.seq ?_
    refine Run.seq ?_
    refine Run.regionD' (by kernel_rfl) (by kernel_rfl) (fun hok111 => ?_)
    refine RunD.lend (Q := Sl 28 6 a (ML tl).length cap ((ML tl).flatMap cM)) Lends.Sl (by first | ((repeat (first | (with_reducible exact F0 _) | apply F1)); done) | (repeat (first | exact F0 _ | apply F1))) ?_; intro g1 hleg1 hg1 backg1
    have hrb4_g1 := hrb4.mono hleg1
    have hrb5_g1 := hrb5.mono hleg1
    refine RunD.pure (i := 0) hok111 rfl (by kernel_rfl) (Pure.move rfl) (Wt.none rfl) rfl rfl ?_
    refine RunD.pure (i := 1) hok111 rfl (by kernel_rfl) (Pure.move rfl) (Wt.none rfl) rfl rfl ?_
    refine RunD.pure (i := 2) hok111 rfl (by kernel_rfl) (Pure.lenSl rfl rfl und22) (Wt.none rfl) rfl rfl ?_
    refine RunD.pure (i := 3) hok111 rfl (by kernel_rfl) (Pure.lss rfl rfl) (Wt.none rfl) rfl rfl ?_
    refine RunD.pure (i := 4) hok111 rfl (by kernel_rfl) (Pure.move rfl) (Wt.none rfl) rfl rfl ?_
    refine RunD.split (d := 40) rfl (fun h3 => ?_) (fun h3 => ?_)
    · try simp only [ZA, ZB, ZC, ZD, ZE, ZF, ZG, ZH, ZI, ZJ, ZK, ZL, ZM, ZN, ZO, ZP, ZQ, ZR] at h3
      obtain ⟨m, hm⟩ := get_some (xs := ML tl) (i := j) (by omega)
      obtain ⟨b, T', pre, post, rfl, hro⟩ := hg1.1.open1 (show 0 < (ML tl).length by omega)
      refine RunD.pure (i := 5) hok111 rfl (by kernel_rfl) (Pure.move rfl) (Wt.yes rfl rfl rfl) rfl rfl ?_
      refine RunD.pure (i := 6) hok111 rfl (by kernel_rfl) (Pure.move rfl) (Wt.yes rfl rfl rfl) rfl rfl ?_
      refine RunD.pure (i := 7) hok111 rfl (by kernel_rfl) (Pure.indexAddr rfl rfl und22 sz28 (by omega) (by omega)) (Wt.yes rfl rfl rfl) rfl rfl ?_
      refine RunD.pure (i := 8) hok111 rfl (by kernel_rfl) (Pure.fieldAddr rfl fo28_0) (Wt.yes rfl rfl rfl) rfl rfl ?_
      refine RunD.loadNR (vs := (cK m.k)) (i := 9) hok111 rfl (by kernel_rfl) rfl hro agg24 sz24 (elemN_len (f := cM) (sz := 6) (j := 0) (n := 4) (fun _ _ => rfl) hm (by decide)) ((elemN_at (f := cM) (sz := 6) (j := 0) (n := 4) (fun _ _ => rfl) hm (by decide)).trans rfl) (Wt.yes rfl rfl rfl) rfl ?_
      refine RunD.loadNR (vs := (cK k)) (i := 10) hok111 rfl (by kernel_rfl) rfl (by assumption) agg24 sz24 (by first | exact Nat.le_of_ble_eq_true rfl | (simp; done) | (simp; omega)) rfl (Wt.yes rfl rfl rfl) rfl ?_
      refine RunD.one (i := 11) (by kernel_rfl) rfl ?_
      refine RunL.call rfl rfl (by rfl) (by repeat (first | (with_reducible exact Take.nil _) | (apply Take.cons (by first | ((repeat (first | (with_reducible exact F0 _) | apply F1)); done) | (repeat (first | exact F0 _ | apply F1)))))) (beforeK_ctr (p := m.k) (q := k)) (Wt.yes rfl rfl rfl) rfl ?_
      rintro _ _ ⟨rfl, hA_⟩
      replace hA_ := hA_.symm; subst hA_
      refine RunL.nilD' ?_
      refine RunD.pure (i := 12) hok111 rfl (by kernel_rfl) (Pure.pickT rfl rfl) (Wt.none rfl) rfl rfl ?_
      refine RunD.nilB (by kernel_rfl) (fun w sw => backg1 _ _ (sw)) ?_
      refine Run.cond rfl (fun h4 => ?_) (fun h4 => ?_)
      · try simp only [ZA, ZB, ZC, ZD, ZE, ZF, ZG, ZH, ZI, ZJ, ZK, ZL, ZM, ZN, ZO, ZP, ZQ, ZR] at h4
        refine Run.skip ?_
        refine Run.block ?_
        refine Run.region ?_
        refine RunL.mv rfl rfl ?_
        first | refine RunL.pure (Pure.addI rfl rfl (by omega)) (Wt.none rfl) rfl rfl ?_ | refine RunL.pure (Pure.add rfl rfl) (Wt.none rfl) rfl rfl ?_
        refine RunL.as rfl rfl ?_
        refine RunL.nil ?_
        refine Run.inBlock ?_
        refine Run.keep (.cons rfl (.cons rfl (.cons rfl (.cons rfl (.cons rfl (.nil))))) : Keep _ [0, 4, 5, 9, 11] _) ?_
        refine Run.againF (F := F) ih (by exact ⟨j + 1, by omega, lt_succ_of hpre hm h4, rfl, rfl, rfl⟩) (by repeat (first | (with_reducible exact Fin.done (by repeat (first | (with_reducible exact Rest.here) | apply Rest.there))) | (apply Fin.cons (by first | ((repeat (first | (with_reducible exact F0 _) | apply F1)); done) | (repeat (first | exact F0 _ | apply F1)))))) ?_
        omega
      · try simp only [ZA, ZB, ZC, ZD, ZE, ZF, ZG, ZH, ZI, ZJ, ZK, ZL, ZM, ZN, ZO, ZP, ZQ, ZR] at h4
        have hstop : ∀ m, (ML tl)[j]? = some m → beforeK m.k k = false := by
          intro m' hm'
          rw [hm] at hm'; cases hm'; exact h4
        have hins := ML_ins (q := q) hn hmg hpre hstop
        have had : adopts tl k q = true := by rw [adopts_eq, hmg]; rfl
        refine Run.exit rfl ?_
        refine Run.sr ?_
        refine RunL.mv rfl rfl ?_
        refine RunL.mv rfl rfl ?_
        refine RunL.mv rfl rfl ?_
        refine RunL.pure (Pure.sliceTo rfl rfl und22 sz28 (by first | omega | (simp; done) | (simp; omega)) (by first | omega | (simp; done) | (simp; omega))) (Wt.none rfl) rfl rfl ?_
        refine RunL.append0 (m := j) rfl rfl rfl rfl und22 und22 rfl sz28 zz28 rfl by28 (by omega) (by omega) (fun w sw => (sw.find (p := Sl 28 6 _ (ML tl).length cap _) (by first | ((repeat (first | (with_reducible exact F0 _) | apply F1)); done) | (repeat (first | exact F0 _ | apply F1)))).srcTakeF j (fun _ _ => rfl) (by omega)) (Wt.none rfl) rfl ?_; intro a1 c1
        refine RunL.as rfl rfl ?_
        refine RunL.nil ?_
        refine Run.sr ?_
        refine RunL.mv rfl rfl ?_
        first | refine RunL.loadA (vs := (cK k)) rfl (by first | ((repeat (first | (with_reducible exact F0 _) | apply F1)); done) | (repeat (first | exact F0 _ | apply F1))) agg24 sz24 (by first | exact Nat.le_of_ble_eq_true rfl | (simp; done) | (simp; omega)) rfl (Wt.none rfl) rfl ?_ | refine RunL.loadNR (vs := (cK k)) rfl (by assumption) agg24 sz24 (by first | exact Nat.le_of_ble_eq_true rfl | (simp; done) | (simp; omega)) rfl (Wt.none rfl) rfl ?_
        first | refine RunL.loadA (vs := (cPos q)) rfl (by first | ((repeat (first | (with_reducible exact F0 _) | apply F1)); done) | (repeat (first | exact F0 _ | apply F1))) agg26 sz26 (by first | exact Nat.le_of_ble_eq_true rfl | (simp; done) | (simp; omega)) rfl (Wt.none rfl) rfl ?_ | refine RunL.loadNR (vs := (cPos q)) rfl (by assumption) agg26 sz26 (by first | exact Nat.le_of_ble_eq_true rfl | (simp; done) | (simp; omega)) rfl (Wt.none rfl) rfl ?_
        refine RunL.pure (Pure.buildL (ps := [(0, _), (1, _)]) (zs := [(.string .empty), (.string .empty), (.string .empty), (.bool false), (.int .i64 0), (.string .empty)]) (xs := (cM ((⟨k, q⟩ : M)))) pl28 rfl rfl rfl rfl) (Wt.none rfl) rfl rfl ?_
        refine RunL.lit (vals := [_]) (vs := ([⟨k, q⟩] : List M).flatMap cM) und22 sz28 zz28 rfl rfl rfl rfl rfl rfl (by simp [Value.cells, bv, cK, cM, cPos]) rfl (Wt.none rfl) rfl ?_; intro b60
        refine RunL.append (m := 1) (n' := ((ML tl).take j ++ [(⟨k, q⟩ : M)]).length) (cs' := ((ML tl).take j ++ [(⟨k, q⟩ : M)]).flatMap cM) rfl rfl (by first | ((repeat (first | (with_reducible exact F0 _) | apply F1)); done) | (repeat (first | exact F0 _ | apply F1))) rfl rfl und22 und22 rfl sz28 zz28 rfl by28 (by omega) (by omega) (fun w sw => sw.src) (isOne_flat (f := cM) (fun _ => rfl)) (by simp; omega) (by rw [flatMap_app]) (Wt.none rfl) rfl ?_; intro a2 c2
        refine RunL.as rfl rfl ?_
        refine RunL.nil ?_
        refine Run.sr ?_
        refine RunL.mv rfl rfl ?_
        refine RunL.mv rfl rfl ?_
        refine RunL.mv rfl rfl ?_
        refine RunL.pure (Pure.sliceFrom rfl rfl und22 sz28 (by first | omega | (simp; done) | (simp; omega)) (by first | omega | (simp; done) | (simp; omega))) (Wt.none rfl) rfl rfl ?_
        refine RunL.append (m := ((ML tl).length - j)) (n' := ((ML tl).take j ++ (⟨k, q⟩ : M) :: (ML tl).drop j).length) (cs' := ((ML tl).take j ++ (⟨k, q⟩ : M) :: (ML tl).drop j).flatMap cM) rfl rfl (by first | ((repeat (first | (with_reducible exact F0 _) | apply F1)); done) | (repeat (first | exact F0 _ | apply F1))) rfl rfl und22 und22 rfl sz28 zz28 rfl by28 (by simp; omega) (by simp; omega) (fun w sw => (sw.find (p := Sl 28 6 _ (ML tl).length cap _) (by first | ((repeat (first | (with_reducible exact F0 _) | apply F1)); done) | (repeat (first | exact F0 _ | apply F1)))).srcFromF j (fun _ _ => rfl) (by omega)) (isOne_flat (f := cM) (fun _ => rfl)) (by simp; omega) (by rw [← flatMap_app, List.append_assoc]; rfl) (Wt.none rfl) rfl ?_; intro a3 c3
        refine RunL.as rfl rfl ?_
        refine RunL.as rfl rfl ?_
        refine RunL.nil ?_
        rw [hins]
        exact Run.ret Try.func25 (res2 rfl rfl rfl) (by exact ⟨_, _, by rw [had, tput, had, if_pos rfl], by rw [tput, had, if_pos rfl]⟩) (by repeat (first | (with_reducible exact Fin.done (by repeat (first | (with_reducible exact Rest.here) | apply Rest.there))) | (apply Fin.cons (by first | ((repeat (first | (with_reducible exact F0 _) | apply F1)); done) | (repeat (first | exact F0 _ | apply F1))))))
    · try simp only [ZA, ZB, ZC, ZD, ZE, ZF, ZG, ZH, ZI, ZJ, ZK, ZL, ZM, ZN, ZO, ZP, ZQ, ZR] at h3
      have hstop : ∀ m, (ML tl)[j]? = some m → beforeK m.k k = false := by
        intro m' hm'
        have := (List.getElem?_eq_some_iff.1 hm').1; omega
      have hins := ML_ins (q := q) hn hmg hpre hstop
      have had : adopts tl k q = true := by rw [adopts_eq, hmg]; rfl
      refine RunD.not (i := 5) hok111 rfl (by kernel_rfl) rfl rfl (Wt.no rfl rfl rfl) ?_
      refine RunD.not (i := 6) hok111 rfl (by kernel_rfl) rfl rfl (Wt.no rfl rfl rfl) ?_
      refine RunD.not (i := 7) hok111 rfl (by kernel_rfl) rfl rfl (Wt.no rfl rfl rfl) ?_
      refine RunD.not (i := 8) hok111 rfl (by kernel_rfl) rfl rfl (Wt.no rfl rfl rfl) ?_
      refine RunD.not (i := 9) hok111 rfl (by kernel_rfl) rfl rfl (Wt.no rfl rfl rfl) ?_
      refine RunD.not (i := 10) hok111 rfl (by kernel_rfl) rfl rfl (Wt.no rfl rfl rfl) ?_
      refine RunD.not (i := 11) hok111 rfl (by kernel_rfl) rfl rfl (Wt.no rfl rfl rfl) ?_
      refine RunD.pure (i := 12) hok111 rfl (by kernel_rfl) (Pure.pickF rfl rfl) (Wt.none rfl) rfl rfl ?_
      refine RunD.nilB (by kernel_rfl) (fun w sw => backg1 _ _ (sw)) ?_
      refine Run.condF rfl ?_
      refine Run.exit rfl ?_
      refine Run.sr ?_
      refine RunL.mv rfl rfl ?_
      refine RunL.mv rfl rfl ?_
      refine RunL.mv rfl rfl ?_
      refine RunL.pure (Pure.sliceTo rfl rfl und22 sz28 (by first | omega | (simp; done) | (simp; omega)) (by first | omega | (simp; done) | (simp; omega))) (Wt.none rfl) rfl rfl ?_
      refine RunL.append0 (m := j) rfl rfl rfl rfl und22 und22 rfl sz28 zz28 rfl by28 (by omega) (by omega) (fun w sw => (sw.find (p := Sl 28 6 _ (ML tl).length cap _) (by first | ((repeat (first | (with_reducible exact F0 _) | apply F1)); done) | (repeat (first | exact F0 _ | apply F1)))).srcTakeF j (fun _ _ => rfl) (by omega)) (Wt.none rfl) rfl ?_; intro a1 c1
      refine RunL.as rfl rfl ?_
      refine RunL.nil ?_
      refine Run.sr ?_
      refine RunL.mv rfl rfl ?_
      first | refine RunL.loadA (vs := (cK k)) rfl (by first | ((repeat (first | (with_reducible exact F0 _) | apply F1)); done) | (repeat (first | exact F0 _ | apply F1))) agg24 sz24 (by first | exact Nat.le_of_ble_eq_true rfl | (simp; done) | (simp; omega)) rfl (Wt.none rfl) rfl ?_ | refine RunL.loadNR (vs := (cK k)) rfl (by assumption) agg24 sz24 (by first | exact Nat.le_of_ble_eq_true rfl | (simp; done) | (simp; omega)) rfl (Wt.none rfl) rfl ?_
      first | refine RunL.loadA (vs := (cPos q)) rfl (by first | ((repeat (first | (with_reducible exact F0 _) | apply F1)); done) | (repeat (first | exact F0 _ | apply F1))) agg26 sz26 (by first | exact Nat.le_of_ble_eq_true rfl | (simp; done) | (simp; omega)) rfl (Wt.none rfl) rfl ?_ | refine RunL.loadNR (vs := (cPos q)) rfl (by assumption) agg26 sz26 (by first | exact Nat.le_of_ble_eq_true rfl | (simp; done) | (simp; omega)) rfl (Wt.none rfl) rfl ?_
      refine RunL.pure (Pure.buildL (ps := [(0, _), (1, _)]) (zs := [(.string .empty), (.string .empty), (.string .empty), (.bool false), (.int .i64 0), (.string .empty)]) (xs := (cM ((⟨k, q⟩ : M)))) pl28 rfl rfl rfl rfl) (Wt.none rfl) rfl rfl ?_
      refine RunL.lit (vals := [_]) (vs := ([⟨k, q⟩] : List M).flatMap cM) und22 sz28 zz28 rfl rfl rfl rfl rfl rfl (by simp [Value.cells, bv, cK, cM, cPos]) rfl (Wt.none rfl) rfl ?_; intro b60
      refine RunL.append (m := 1) (n' := ((ML tl).take j ++ [(⟨k, q⟩ : M)]).length) (cs' := ((ML tl).take j ++ [(⟨k, q⟩ : M)]).flatMap cM) rfl rfl (by first | ((repeat (first | (with_reducible exact F0 _) | apply F1)); done) | (repeat (first | exact F0 _ | apply F1))) rfl rfl und22 und22 rfl sz28 zz28 rfl by28 (by omega) (by omega) (fun w sw => sw.src) (isOne_flat (f := cM) (fun _ => rfl)) (by simp; omega) (by rw [flatMap_app]) (Wt.none rfl) rfl ?_; intro a2 c2
      refine RunL.as rfl rfl ?_
      refine RunL.nil ?_
      refine Run.sr ?_
      refine RunL.mv rfl rfl ?_
      refine RunL.mv rfl rfl ?_
      refine RunL.mv rfl rfl ?_
      refine RunL.pure (Pure.sliceFrom rfl rfl und22 sz28 (by first | omega | (simp; done) | (simp; omega)) (by first | omega | (simp; done) | (simp; omega))) (Wt.none rfl) rfl rfl ?_
      refine RunL.append (m := ((ML tl).length - j)) (n' := ((ML tl).take j ++ (⟨k, q⟩ : M) :: (ML tl).drop j).length) (cs' := ((ML tl).take j ++ (⟨k, q⟩ : M) :: (ML tl).drop j).flatMap cM) rfl rfl (by first | ((repeat (first | (with_reducible exact F0 _) | apply F1)); done) | (repeat (first | exact F0 _ | apply F1))) rfl rfl und22 und22 rfl sz28 zz28 rfl by28 (by simp; omega) (by simp; omega) (fun w sw => (sw.find (p := Sl 28 6 _ (ML tl).length cap _) (by first | ((repeat (first | (with_reducible exact F0 _) | apply F1)); done) | (repeat (first | exact F0 _ | apply F1)))).srcFromF j (fun _ _ => rfl) (by omega)) (isOne_flat (f := cM) (fun _ => rfl)) (by simp; omega) (by rw [← flatMap_app, List.append_assoc]; rfl) (Wt.none rfl) rfl ?_; intro a3 c3
      refine RunL.as rfl rfl ?_
      refine RunL.as rfl rfl ?_
      refine RunL.nil ?_
      rw [hins]
      exact Run.ret Try.func25 (res2 rfl rfl rfl) (by exact ⟨_, _, by rw [had, tput, had, if_pos rfl], by rw [tput, had, if_pos rfl]⟩) (by repeat (first | (with_reducible exact Fin.done (by repeat (first | (with_reducible exact Rest.here) | apply Rest.there))) | (apply Fin.cons (by first | ((repeat (first | (with_reducible exact F0 _) | apply F1)); done) | (repeat (first | exact F0 _ | apply F1))))))

end Go.Proofs.Ytaeacdhilekcbaa
