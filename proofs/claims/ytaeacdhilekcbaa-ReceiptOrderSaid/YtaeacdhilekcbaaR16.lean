/- In whatever row marks are put. -/
import Derived.Test.YtaeacdhilekcbaaR15
set_option linter.unusedVariables false
set_option linter.unusedSimpArgs false
namespace Go.Proofs.Ytaeacdhilekcbaa
open Go Csl


set_option maxHeartbeats 4000000 in
set_option maxRecDepth 100000 in
theorem ReceiptOrder_ctr {G : Gp} {a : Option Addr} {l : List M} {cap : Nat} {z : Int} (h : SlR G 28 6 a l.length (l.flatMap cM)) (hok : ∀ m ∈ l, okM m) (hb : l.length ≤ 9223372036854775807) (hz : -9223372036854775808 ≤ z ∧ z ≤ 9223372036854775807) :
    Ctr Try.prog G 6 [.slice a l.length cap, .int .i64 z] [] (fun F v A => v = .bool true ∧ A = F) := by
  refine Ctr.intro Try.func6 rfl (by kernel_rfl) rfl (fun F => ?_)
  simp only [List.nil_append]
  refine Run.sr ?_
  refine RunL.as rfl rfl ?_
  refine RunL.nil ?_
  refine Run.sr ?_
  refine RunL.mv rfl rfl ?_
  refine RunL.call rfl rfl (by rfl) (by repeat (first | (with_reducible exact Take.nil _) | (apply Take.cons (by first | ((repeat (first | (with_reducible exact F0 _) | apply F1)); done) | (repeat (first | exact F0 _ | apply F1)))))) (fill_ctr h hok hb (by decide) (by decide)) (Wt.none rfl) rfl ?_
  rintro _ _ ⟨p, a', c', rfl, hA_⟩
  replace hA_ := hA_.symm; subst hA_
  have hkntl := fillT_KN (if true = true then goodM else fewM) (l.take (10 : Int).toNat)
  have hlntl := fillT_len (if true = true then goodM else fewM) (l.take (10 : Int).toNat)
  have hlmtl : (l.take (10 : Int).toNat).length ≤ 10 := by rw [List.length_take]; omega
  have hc1tl : C1 ((l.take (10 : Int).toNat).map goodM) (fillT (if true = true then goodM else fewM) (l.take (10 : Int).toNat)) := fillT_C1 goodM _
  have hc2tl : ∀ y_ ∈ (l.take (10 : Int).toNat).map goodM, C2 y_ (fillT (if true = true then goodM else fewM) (l.take (10 : Int).toNat)) := fillT_C2 goodM _
  generalize htl_ : fillT (if true = true then goodM else fewM) (l.take (10 : Int).toNat) = tl at *
  have hmltl := ML_len tl
  refine RunL.mv rfl rfl ?_
  refine RunL.pure (Pure.extract rfl rfl) (Wt.none rfl) rfl rfl ?_
  refine RunL.pure (Pure.extract rfl rfl) (Wt.none rfl) rfl rfl ?_
  refine RunL.as rfl rfl ?_
  refine RunL.as rfl rfl ?_
  refine RunL.nil ?_
  refine Run.sr ?_
  refine RunL.call rfl rfl (by rfl) (by repeat (first | (with_reducible exact Take.nil _) | (apply Take.cons (by first | ((repeat (first | (with_reducible exact F0 _) | apply F1)); done) | (repeat (first | exact F0 _ | apply F1)))))) (New_ctr) (Wt.none rfl) rfl ?_
  rintro _ _ ⟨p2, rfl, hA_⟩
  replace hA_ := hA_.symm; subst hA_
  refine RunL.as rfl rfl ?_
  refine RunL.nil ?_
  refine Run.sr ?_
  refine RunL.call rfl rfl (by rfl) (by repeat (first | (with_reducible exact Take.nil _) | (apply Take.cons (by first | ((repeat (first | (with_reducible exact F0 _) | apply F1)); done) | (repeat (first | exact F0 _ | apply F1)))))) (New_ctr) (Wt.none rfl) rfl ?_
  rintro _ _ ⟨p3, rfl, hA_⟩
  replace hA_ := hA_.symm; subst hA_
  skip
  skip
  refine RunL.as rfl rfl ?_
  refine RunL.nil ?_
  refine Run.seq ?_
  refine Run.sr ?_
  refine RunL.mv rfl rfl ?_
  refine RunL.pure (Pure.ptrEqNil rfl rfl und29) (Wt.none rfl) rfl rfl ?_
  refine RunL.mv rfl rfl ?_
  refine RunL.pure (Pure.move rfl) (Wt.yes rfl rfl rfl) rfl rfl ?_
  refine RunL.pure (Pure.ptrEqNil rfl rfl und29) (Wt.yes rfl rfl rfl) rfl rfl ?_
  refine RunL.pure (Pure.pickF rfl rfl) (Wt.none rfl) rfl rfl ?_
  refine RunL.mv rfl rfl ?_
  refine RunL.pure (Pure.move rfl) (Wt.yes rfl rfl rfl) rfl rfl ?_
  refine RunL.pure (Pure.ptrEqNil rfl rfl und29) (Wt.yes rfl rfl rfl) rfl rfl ?_
  refine RunL.pure (Pure.pickF rfl rfl) (Wt.none rfl) rfl rfl ?_
  refine RunL.nil ?_
  refine Run.condF rfl ?_
  refine Run.skip ?_
  refine Run.sr ?_
  refine RunL.mv rfl rfl ?_
  refine RunL.pure (Pure.lenSl rfl rfl und22) (Wt.none rfl) rfl rfl ?_
  refine RunL.pure (Pure.min2 rfl rfl) (Wt.none rfl) rfl rfl ?_
  refine RunL.as rfl rfl ?_
  refine RunL.nil ?_
  obtain ⟨k, hk, hkl, hk10, hkt⟩ : ∃ k : Nat, min (l.length : Int) 10 = k ∧ k ≤ l.length ∧ k ≤ 10 ∧ l.take (10 : Int).toNat = l.take k := by
    refine ⟨min l.length 10, by omega, by omega, by omega, ?_⟩
    rcases Nat.lt_or_ge l.length 10 with q | q
    · rw [Nat.min_eq_left (by omega), List.take_of_length_le (by omega), List.take_of_length_le (by omega)]
    · rw [Nat.min_eq_right q]; rfl
  rw [hk]
  rw [hkt] at hc1tl hc2tl
  generalize hms : (l.take k).map goodM = ms at *
  refine Run.seq ?_
  refine Run.sr ?_
  refine RunL.mv rfl rfl ?_
  first | refine RunL.pure (Pure.subI rfl rfl (by omega)) (Wt.none rfl) rfl rfl ?_ | refine RunL.pure (Pure.sub rfl rfl) (Wt.none rfl) rfl rfl ?_
  refine RunL.as rfl rfl ?_
  refine RunL.nil ?_
  refine Run.block ?_
  refine Run.keep (.cons rfl (.cons rfl (.cons rfl (.cons rfl (.cons rfl (.cons rfl (.cons rfl (.cons rfl (.nil)))))))) : Keep _ [0, 1, 5, 6, 7, 8, 9, 10] _) ?_
  refine Run.loopF (F := F) (fun n e A => ∃ (j : Nat) (tb : List (K × Pos)), j ≤ k ∧ KN tb ∧ tb.length ≤ k - j ∧ C1 ms tb ∧ (∀ x m, j ≤ x → x < k → l[x]? = some m → C2 (goodM m) tb) ∧ n = j + 1 ∧ e = [(0, .slice a l.length cap), (1, .int .i64 z), (5, .pointer (some ⟨p, 0, none⟩)), (6, .slice a' (ML tl).length c'), (7, .pointer (some ⟨p2, 0, none⟩)), (8, .pointer (some ⟨p3, 0, none⟩)), (9, .int .i64 (k : Nat)), (10, .int .i64 ((j : Int) - 1))] ∧ A = Tb p2 tb :: Tb p3 [] :: Tb p tl :: Sl 28 6 a' (ML tl).length c' ((ML tl).flatMap cM) :: F) (k + 1) (by exact ⟨k, [], Nat.le_refl _, List.nodup_nil, by simp, fun _ _ q => by simp [mget] at q, fun x m h1 h2 => by omega, rfl, rfl, rfl⟩) (by repeat (first | (with_reducible exact Fin.done (by repeat (first | (with_reducible exact Rest.here) | apply Rest.there))) | (apply Fin.cons (by first | ((repeat (first | (with_reducible exact F0 _) | apply F1)); done) | (repeat (first | exact F0 _ | apply F1)))))) ?_
  rintro n _ _ ⟨j, tb, hj, hnb, hlb, hcb, hcc, rfl, rfl, hA_⟩ ih
  replace hA_ := hA_.symm; subst hA_
  refine Run.seq ?_
  refine Run.sr ?_
  refine RunL.mv rfl rfl ?_
  refine RunL.pure (Pure.geq rfl rfl) (Wt.none rfl) rfl rfl ?_
  refine RunL.nil ?_
  refine Run.cond rfl (fun h1 => ?_) (fun h1 => ?_)
  · try simp only [ZA, ZB, ZC, ZD, ZE, ZF, ZG, ZH, ZI, ZJ, ZK, ZL, ZM, ZN, ZO, ZP, ZQ, ZR] at h1
    obtain ⟨j, rfl⟩ : ∃ x, j = x + 1 := ⟨j - 1, by omega⟩
    rw [show (((j + 1 : Nat) : Int) - 1) = (j : Int) from by omega]
    obtain ⟨m, hm⟩ := get_some (xs := l) (i := j) (by omega)
    obtain ⟨ba, Ta, prea, posta, rfl, hroa⟩ := h.open1 (show 0 < l.length by omega)
    have hmem : goodM m ∈ ms := by rw [← hms]; exact List.mem_map.2 ⟨m, List.mem_iff_getElem?.2 ⟨j, by rw [List.getElem?_take_of_lt (by omega)]; exact hm⟩, rfl⟩
    have hokm := hok m (List.mem_of_getElem? hm)
    refine Run.skip ?_
    refine Run.seq ?_
    refine Run.block ?_
    refine Run.sr ?_
    refine RunL.mv rfl rfl ?_
    refine RunL.mv rfl rfl ?_
    refine RunL.pure (Pure.indexAddr rfl rfl und22 sz28 (by omega) (by omega)) (Wt.none rfl) rfl rfl ?_
    refine RunL.loadNR (vs := (cM m)) rfl hroa agg28 sz28 (elemN_len (pre := prea) (post := posta) (f := cM) (sz := 6) (j := 0) (n := 6) (fun _ _ => rfl) hm (by decide)) ((elemN_at (pre := prea) (post := posta) (f := cM) (sz := 6) (j := 0) (n := 6) (fun _ _ => rfl) hm (by decide)).trans rfl) (Wt.none rfl) rfl ?_
    refine RunL.call rfl rfl (by rfl) (by repeat (first | (with_reducible exact Take.nil _) | (apply Take.cons (by first | ((repeat (first | (with_reducible exact F0 _) | apply F1)); done) | (repeat (first | exact F0 _ | apply F1)))))) (Good_ctr hokm) (Wt.none rfl) rfl ?_
    rintro _ _ ⟨rfl, hA_⟩
    replace hA_ := hA_.symm; subst hA_
    refine RunL.alloc zz28 (Wt.none rfl) rfl ?_; intro b11
    refine RunL.storeW (xs := (cM (goodM m))) rfl rfl (by first | ((repeat (first | (with_reducible exact F0 _) | apply F1)); done) | (repeat (first | exact F0 _ | apply F1))) sz28 (by rfl) (by rfl) (by rfl) (Wt.none rfl) ?_
    refine RunL.nil ?_
    refine Run.regionD' (by kernel_rfl) (by kernel_rfl) (fun hok102 => ?_)
    refine RunD.lend (Q := row b11 28 _) Lends.row (by first | ((repeat (first | (with_reducible exact F0 _) | apply F1)); done) | (repeat (first | exact F0 _ | apply F1))) ?_; intro gl1 hlegl1 hl1 backgl1
    have h_gl1 := h.mono hlegl1
    refine RunD.pure (i := 0) hok102 rfl (by kernel_rfl) (Pure.move rfl) (Wt.none rfl) rfl rfl ?_
    refine RunD.pure (i := 1) hok102 rfl (by kernel_rfl) (Pure.fieldAddr rfl fo28_0) (Wt.none rfl) rfl rfl ?_
    refine RunD.loadNR (vs := (cK ((goodM m).k))) (i := 2) hok102 rfl (by kernel_rfl) rfl (by assumption) agg24 sz24 (by first | exact Nat.le_of_ble_eq_true rfl | (simp; done) | (simp; omega)) rfl (Wt.none rfl) rfl ?_
    refine RunD.pure (i := 4) hok102 rfl (by kernel_rfl) (Pure.fieldAddr rfl fo28_1) (Wt.none rfl) rfl rfl ?_
    refine RunD.loadNR (vs := (cPos ((goodM m).pos))) (i := 5) hok102 rfl (by kernel_rfl) rfl (by assumption) agg26 sz26 (by first | exact Nat.le_of_ble_eq_true rfl | (simp; done) | (simp; omega)) rfl (Wt.none rfl) rfl ?_
    refine RunD.one (i := 3) (by kernel_rfl) rfl ?_
    refine RunL.call rfl rfl (by rfl) (by repeat (first | (with_reducible exact Take.nil _) | (apply Take.cons (by first | ((repeat (first | (with_reducible exact F0 _) | apply F1)); done) | (repeat (first | exact F0 _ | apply F1)))))) (of_ctr) (Wt.none rfl) rfl ?_
    rintro _ _ ⟨rfl, hA_⟩
    replace hA_ := hA_.symm; subst hA_
    refine RunL.nilD' ?_
    refine RunD.one (i := 6) (by kernel_rfl) rfl ?_
    refine RunL.call rfl rfl (by rfl) (by repeat (first | (with_reducible exact Take.nil _) | (apply Take.cons (by first | ((repeat (first | (with_reducible exact F0 _) | apply F1)); done) | (repeat (first | exact F0 _ | apply F1)))))) (Put_ctr (l := tb) (k := (goodM m).k) (q := (goodM m).pos)) (Wt.none rfl) rfl ?_
    rintro _ _ ⟨rfl, hA_⟩
    replace hA_ := hA_.symm; subst hA_
    refine RunL.nilD' ?_
    refine RunD.nilB (by kernel_rfl) (fun w sw => backgl1 _ _ (sw)) ?_
    refine Run.inBlock ?_
    refine Run.region ?_
    refine RunL.mv rfl rfl ?_
    first | refine RunL.pure (Pure.subI rfl rfl (by omega)) (Wt.none rfl) rfl rfl ?_ | refine RunL.pure (Pure.sub rfl rfl) (Wt.none rfl) rfl rfl ?_
    refine RunL.as rfl rfl ?_
    refine RunL.nil ?_
    refine Run.keep (.cons rfl (.cons rfl (.cons rfl (.cons rfl (.cons rfl (.cons rfl (.cons rfl (.cons rfl (.nil)))))))) : Keep _ [0, 1, 5, 6, 7, 8, 9, 10] _) ?_
    refine Run.againF (F := F) ih (by exact ⟨j, tput tb (goodM m).k (goodM m).pos, by omega, hnb.tput, by (have := tput_len (l := tb) (k := (goodM m).k) (q := (goodM m).pos); omega), hcb.tput hmem, fun x m' hx1 hx2 hx3 => by (rcases Nat.lt_or_ge j x with q | q; exact (hcc x m' (by omega) hx2 hx3).tput _ _; have : x = j := (by omega); subst this; rw [hm] at hx3; cases hx3; exact C2.self _ _), rfl, rfl, rfl⟩) (by repeat (first | (with_reducible exact Fin.done (by repeat (first | (with_reducible exact Rest.here) | apply Rest.there))) | (apply Fin.cons (by first | ((repeat (first | (with_reducible exact F0 _) | apply F1)); done) | (repeat (first | exact F0 _ | apply F1)))))) ?_
    omega
  · try simp only [ZA, ZB, ZC, ZD, ZE, ZF, ZG, ZH, ZI, ZJ, ZK, ZL, ZM, ZN, ZO, ZP, ZQ, ZR] at h1
    obtain rfl : j = 0 := by omega
    refine Run.exit rfl ?_
    refine Run.seq ?_
    refine Run.sr ?_
    refine RunL.as rfl rfl ?_
    refine RunL.nil ?_
    refine Run.block ?_
    refine Run.keep (.cons rfl (.cons rfl (.cons rfl (.cons rfl (.cons rfl (.cons rfl (.cons rfl (.cons rfl (.nil)))))))) : Keep _ [0, 1, 5, 6, 7, 8, 9, 12] _) ?_
    refine Run.loopF (F := F) (fun n e A => ∃ (i : Nat) (tc : List (K × Pos)), i ≤ 2 * k ∧ KN tc ∧ tc.length ≤ i ∧ C1 ms tc ∧ (∀ x m, x < i → l[((around z k).toNat + x) % k]? = some m → C2 (goodM m) tc) ∧ n = 2 * k - i ∧ e = [(0, .slice a l.length cap), (1, .int .i64 z), (5, .pointer (some ⟨p, 0, none⟩)), (6, .slice a' (ML tl).length c'), (7, .pointer (some ⟨p2, 0, none⟩)), (8, .pointer (some ⟨p3, 0, none⟩)), (9, .int .i64 (k : Nat)), (12, .int .i64 (i : Nat))] ∧ A = Tb p3 tc :: Tb p2 tb :: Tb p tl :: Sl 28 6 a' (ML tl).length c' ((ML tl).flatMap cM) :: F) (2 * k) (by exact ⟨0, [], by omega, List.nodup_nil, by simp, fun _ _ q => by simp [mget] at q, fun x m h1 => by omega, rfl, rfl, rfl⟩) (by repeat (first | (with_reducible exact Fin.done (by repeat (first | (with_reducible exact Rest.here) | apply Rest.there))) | (apply Fin.cons (by first | ((repeat (first | (with_reducible exact F0 _) | apply F1)); done) | (repeat (first | exact F0 _ | apply F1)))))) ?_
    rintro n _ _ ⟨i, tc, hi, hnc, hlc, hcc1, hcc2, rfl, rfl, hA_⟩ ih
    replace hA_ := hA_.symm; subst hA_
    refine Run.seq ?_
    refine Run.sr ?_
    refine RunL.mv rfl rfl ?_
    refine RunL.mv rfl rfl ?_
    first | refine RunL.pure (Pure.mulI rfl rfl (by omega)) (Wt.none rfl) rfl rfl ?_ | refine RunL.pure (Pure.mul rfl rfl) (Wt.none rfl) rfl rfl ?_
    refine RunL.pure (Pure.lss rfl rfl) (Wt.none rfl) rfl rfl ?_
    refine RunL.nil ?_
    refine Run.cond rfl (fun h3 => ?_) (fun h3 => ?_)
    · try simp only [ZA, ZB, ZC, ZD, ZE, ZF, ZG, ZH, ZI, ZJ, ZK, ZL, ZM, ZN, ZO, ZP, ZQ, ZR] at h3
      have hk0 : 0 < k := by omega
      have har := around_lt (z := z) (m := (k : Int)) (by omega)
      obtain ⟨m, hm⟩ := get_some (xs := l) (i := ((around z k).toNat + i) % k) (by have := Nat.mod_lt ((around z k).toNat + i) hk0; omega)
      obtain ⟨ba, Ta, prea, posta, rfl, hroa⟩ := h.open1 (show 0 < l.length by omega)
      have hmk := Nat.mod_lt ((around z k).toNat + i) hk0
      have hidx : ((around z k + (i : Int)) % (k : Int)).toNat = ((around z k).toNat + i) % k := by
        have : around z k + (i : Int) = (((around z k).toNat + i : Nat) : Int) := by omega
        rw [this, ← Int.natCast_emod]; exact Int.toNat_natCast _
      have hrm : (around z k + (i : Int)) % (k : Int) = ((((around z k).toNat + i) % k : Nat) : Int) := by
        have : around z k + (i : Int) = (((around z k).toNat + i : Nat) : Int) := by omega
        rw [this, ← Int.natCast_emod]
      have hmem : goodM m ∈ ms := by rw [← hms]; exact List.mem_map.2 ⟨m, List.mem_iff_getElem?.2 ⟨((around z k).toNat + i) % k, by rw [List.getElem?_take_of_lt (by omega)]; exact hm⟩, rfl⟩
      have hokm := hok m (List.mem_of_getElem? hm)
      refine Run.skip ?_
      refine Run.seq ?_
      refine Run.block ?_
      refine Run.sr ?_
      refine RunL.mv rfl rfl ?_
      refine RunL.mv rfl rfl ?_
      refine RunL.mv rfl rfl ?_
      refine RunL.call rfl rfl (by rfl) (by repeat (first | (with_reducible exact Take.nil _) | (apply Take.cons (by first | ((repeat (first | (with_reducible exact F0 _) | apply F1)); done) | (repeat (first | exact F0 _ | apply F1)))))) (Around_ctr hz (by omega)) (Wt.none rfl) rfl ?_
      rintro _ _ ⟨rfl, hA_⟩
      replace hA_ := hA_.symm; subst hA_
      refine RunL.mv rfl rfl ?_
      first | refine RunL.pure (Pure.addI rfl rfl (by omega)) (Wt.none rfl) rfl rfl ?_ | refine RunL.pure (Pure.add rfl rfl) (Wt.none rfl) rfl rfl ?_
      refine RunL.mv rfl rfl ?_
      first | refine RunL.pure (Pure.remI rfl rfl (by omega) (by omega)) (Wt.none rfl) rfl rfl ?_ | refine RunL.pure (Pure.rem rfl rfl (by omega)) (Wt.none rfl) rfl rfl ?_
      refine RunL.pure (Pure.indexAddr rfl rfl und22 sz28 (by omega) (by omega)) (Wt.none rfl) rfl rfl ?_
      refine RunL.loadNR (vs := (cM m)) rfl hroa agg28 sz28 (elemN_len (pre := prea) (post := posta) (f := cM) (sz := 6) (j := 0) (n := 6) (fun _ _ => rfl) (show l[((around z k + (i : Int)) % (k : Int)).toNat]? = some m from by rw [hidx]; exact hm) (by decide)) ((elemN_at (pre := prea) (post := posta) (f := cM) (sz := 6) (j := 0) (n := 6) (fun _ _ => rfl) (show l[((around z k + (i : Int)) % (k : Int)).toNat]? = some m from by rw [hidx]; exact hm) (by decide)).trans rfl) (Wt.none rfl) rfl ?_
      refine RunL.call rfl rfl (by rfl) (by repeat (first | (with_reducible exact Take.nil _) | (apply Take.cons (by first | ((repeat (first | (with_reducible exact F0 _) | apply F1)); done) | (repeat (first | exact F0 _ | apply F1)))))) (Good_ctr hokm) (Wt.none rfl) rfl ?_
      rintro _ _ ⟨rfl, hA_⟩
      replace hA_ := hA_.symm; subst hA_
      refine RunL.alloc zz28 (Wt.none rfl) rfl ?_; intro b13
      refine RunL.storeW (xs := (cM (goodM m))) rfl rfl (by first | ((repeat (first | (with_reducible exact F0 _) | apply F1)); done) | (repeat (first | exact F0 _ | apply F1))) sz28 (by rfl) (by rfl) (by rfl) (Wt.none rfl) ?_
      refine RunL.nil ?_
      refine Run.regionD' (by kernel_rfl) (by kernel_rfl) (fun hok186 => ?_)
      refine RunD.lend (Q := row b13 28 _) Lends.row (by first | ((repeat (first | (with_reducible exact F0 _) | apply F1)); done) | (repeat (first | exact F0 _ | apply F1))) ?_; intro gl2 hlegl2 hl2 backgl2
      have h_gl2 := h.mono hlegl2
      refine RunD.pure (i := 0) hok186 rfl (by kernel_rfl) (Pure.move rfl) (Wt.none rfl) rfl rfl ?_
      refine RunD.pure (i := 1) hok186 rfl (by kernel_rfl) (Pure.fieldAddr rfl fo28_0) (Wt.none rfl) rfl rfl ?_
      refine RunD.loadNR (vs := (cK ((goodM m).k))) (i := 2) hok186 rfl (by kernel_rfl) rfl (by assumption) agg24 sz24 (by first | exact Nat.le_of_ble_eq_true rfl | (simp; done) | (simp; omega)) rfl (Wt.none rfl) rfl ?_
      refine RunD.pure (i := 4) hok186 rfl (by kernel_rfl) (Pure.fieldAddr rfl fo28_1) (Wt.none rfl) rfl rfl ?_
      refine RunD.loadNR (vs := (cPos ((goodM m).pos))) (i := 5) hok186 rfl (by kernel_rfl) rfl (by assumption) agg26 sz26 (by first | exact Nat.le_of_ble_eq_true rfl | (simp; done) | (simp; omega)) rfl (Wt.none rfl) rfl ?_
      refine RunD.one (i := 3) (by kernel_rfl) rfl ?_
      refine RunL.call rfl rfl (by rfl) (by repeat (first | (with_reducible exact Take.nil _) | (apply Take.cons (by first | ((repeat (first | (with_reducible exact F0 _) | apply F1)); done) | (repeat (first | exact F0 _ | apply F1)))))) (of_ctr) (Wt.none rfl) rfl ?_
      rintro _ _ ⟨rfl, hA_⟩
      replace hA_ := hA_.symm; subst hA_
      refine RunL.nilD' ?_
      refine RunD.one (i := 6) (by kernel_rfl) rfl ?_
      refine RunL.call rfl rfl (by rfl) (by repeat (first | (with_reducible exact Take.nil _) | (apply Take.cons (by first | ((repeat (first | (with_reducible exact F0 _) | apply F1)); done) | (repeat (first | exact F0 _ | apply F1)))))) (Put_ctr (l := tc) (k := (goodM m).k) (q := (goodM m).pos)) (Wt.none rfl) rfl ?_
      rintro _ _ ⟨rfl, hA_⟩
      replace hA_ := hA_.symm; subst hA_
      refine RunL.nilD' ?_
      refine RunD.nilB (by kernel_rfl) (fun w sw => backgl2 _ _ (sw)) ?_
      refine Run.inBlock ?_
      refine Run.region ?_
      refine RunL.mv rfl rfl ?_
      first | refine RunL.pure (Pure.addI rfl rfl (by omega)) (Wt.none rfl) rfl rfl ?_ | refine RunL.pure (Pure.add rfl rfl) (Wt.none rfl) rfl rfl ?_
      refine RunL.as rfl rfl ?_
      refine RunL.nil ?_
      refine Run.keep (.cons rfl (.cons rfl (.cons rfl (.cons rfl (.cons rfl (.cons rfl (.cons rfl (.cons rfl (.nil)))))))) : Keep _ [0, 1, 5, 6, 7, 8, 9, 12] _) ?_
      refine Run.againF (F := F) ih (by exact ⟨i + 1, tput tc (goodM m).k (goodM m).pos, by omega, hnc.tput, by (have := tput_len (l := tc) (k := (goodM m).k) (q := (goodM m).pos); omega), hcc1.tput hmem, fun x m' hx1 hx3 => by (rcases Nat.lt_or_ge x i with q | q; exact (hcc2 x m' q hx3).tput _ _; have : x = i := (by omega); subst this; rw [hm] at hx3; cases hx3; exact C2.self _ _), rfl, rfl, rfl⟩) (by repeat (first | (with_reducible exact Fin.done (by repeat (first | (with_reducible exact Rest.here) | apply Rest.there))) | (apply Fin.cons (by first | ((repeat (first | (with_reducible exact F0 _) | apply F1)); done) | (repeat (first | exact F0 _ | apply F1)))))) ?_
      omega
    · try simp only [ZA, ZB, ZC, ZD, ZE, ZF, ZG, ZH, ZI, ZJ, ZK, ZL, ZM, ZN, ZO, ZP, ZQ, ZR] at h3
      have hB : ML tb = ML tl := by
        refine C12_eq (ms := ms) hnb hkntl hcb ?_ hc1tl hc2tl
        intro m hm; rw [← hms] at hm
        obtain ⟨m0, hm0, rfl⟩ := List.mem_map.1 hm
        obtain ⟨x, hx⟩ := List.mem_iff_getElem?.1 hm0
        have hxk : x < k := by have := (List.getElem?_eq_some_iff.1 hx).1; rw [List.length_take] at this; omega
        rw [List.getElem?_take_of_lt hxk] at hx
        exact hcc x m0 (by omega) hxk hx
      have hC : ML tc = ML tl := by
        refine C12_eq (ms := ms) hnc hkntl hcc1 ?_ hc1tl hc2tl
        intro m hm; rw [← hms] at hm
        obtain ⟨m0, hm0, rfl⟩ := List.mem_map.1 hm
        obtain ⟨x, hx⟩ := List.mem_iff_getElem?.1 hm0
        have hxk : x < k := by have := (List.getElem?_eq_some_iff.1 hx).1; rw [List.length_take] at this; omega
        rw [List.getElem?_take_of_lt hxk] at hx
        have har := around_lt (z := z) (m := (k : Int)) (by omega)
        obtain ⟨y, hy1, hy2⟩ := round_all (n := k) (s := (around z k).toNat) (by omega) hxk
        exact hcc2 y m0 (by omega) (by rw [hy2]; exact hx)
      refine Run.exit rfl ?_
      refine Run.sr ?_
      refine RunL.mv rfl rfl ?_
      refine RunL.call rfl rfl (by rfl) (by repeat (first | (with_reducible exact Take.nil _) | (apply Take.cons (by first | ((repeat (first | (with_reducible exact F0 _) | apply F1)); done) | (repeat (first | exact F0 _ | apply F1)))))) (AllO_ctr (p := p) hkntl (by omega)) (Wt.none rfl) rfl ?_
      rintro _ _ ⟨a2, c2, rfl, hA_⟩
      replace hA_ := hA_.symm; subst hA_
      refine RunL.mv rfl rfl ?_
      refine RunL.call rfl rfl (by rfl) (by repeat (first | (with_reducible exact Take.nil _) | (apply Take.cons (by first | ((repeat (first | (with_reducible exact F0 _) | apply F1)); done) | (repeat (first | exact F0 _ | apply F1)))))) (likeO_ctr (by omega)) (Wt.none rfl) rfl ?_
      rintro _ _ ⟨rfl, hA_⟩
      replace hA_ := hA_.symm; subst hA_
      refine RunL.mv rfl rfl ?_
      refine RunL.pure (Pure.move rfl) (Wt.yes rfl rfl rfl) rfl rfl ?_
      refine RunL.call rfl rfl (by rfl) (by repeat (first | (with_reducible exact Take.nil _) | (apply Take.cons (by first | ((repeat (first | (with_reducible exact F0 _) | apply F1)); done) | (repeat (first | exact F0 _ | apply F1)))))) (AllO_ctr (p := p2) hnb (by omega)) (Wt.yes rfl rfl rfl) rfl ?_
      rintro _ _ ⟨a3, c3, rfl, hA_⟩
      replace hA_ := hA_.symm; subst hA_
      rw [hB]
      refine RunL.pure (Pure.move rfl) (Wt.yes rfl rfl rfl) rfl rfl ?_
      refine RunL.call rfl rfl (by rfl) (by repeat (first | (with_reducible exact Take.nil _) | (apply Take.cons (by first | ((repeat (first | (with_reducible exact F0 _) | apply F1)); done) | (repeat (first | exact F0 _ | apply F1)))))) (likeO_ctr (by omega)) (Wt.yes rfl rfl rfl) rfl ?_
      rintro _ _ ⟨rfl, hA_⟩
      replace hA_ := hA_.symm; subst hA_
      refine RunL.pure (Pure.pickT rfl rfl) (Wt.none rfl) rfl rfl ?_
      refine RunL.mv rfl rfl ?_
      refine RunL.pure (Pure.move rfl) (Wt.yes rfl rfl rfl) rfl rfl ?_
      refine RunL.call rfl rfl (by rfl) (by repeat (first | (with_reducible exact Take.nil _) | (apply Take.cons (by first | ((repeat (first | (with_reducible exact F0 _) | apply F1)); done) | (repeat (first | exact F0 _ | apply F1)))))) (AllO_ctr (p := p3) hnc (by omega)) (Wt.yes rfl rfl rfl) rfl ?_
      rintro _ _ ⟨a4, c4, rfl, hA_⟩
      replace hA_ := hA_.symm; subst hA_
      rw [hC]
      refine RunL.pure (Pure.move rfl) (Wt.yes rfl rfl rfl) rfl rfl ?_
      refine RunL.call rfl rfl (by rfl) (by repeat (first | (with_reducible exact Take.nil _) | (apply Take.cons (by first | ((repeat (first | (with_reducible exact F0 _) | apply F1)); done) | (repeat (first | exact F0 _ | apply F1)))))) (likeO_ctr (by omega)) (Wt.yes rfl rfl rfl) rfl ?_
      rintro _ _ ⟨rfl, hA_⟩
      replace hA_ := hA_.symm; subst hA_
      refine RunL.pure (Pure.pickT rfl rfl) (Wt.none rfl) rfl rfl ?_
      refine RunL.mv rfl rfl ?_
      refine RunL.call rfl rfl (by rfl) (by repeat (first | (with_reducible exact Take.nil _) | (apply Take.cons (by first | ((repeat (first | (with_reducible exact F0 _) | apply F1)); done) | (repeat (first | exact F0 _ | apply F1)))))) (lives_ctr) (Wt.yes rfl rfl rfl) rfl ?_
      rintro _ _ ⟨rfl, hA_⟩
      replace hA_ := hA_.symm; subst hA_
      refine RunL.pure (Pure.pickT rfl rfl) (Wt.none rfl) rfl rfl ?_
      refine RunL.as rfl rfl ?_
      refine RunL.nil ?_
      exact Run.ret Try.func6 (res1 rfl rfl) (by exact ⟨rfl, rfl⟩) (by repeat (first | (with_reducible exact Fin.done (by repeat (first | (with_reducible exact Rest.here) | apply Rest.there))) | (apply Fin.cons (by first | ((repeat (first | (with_reducible exact F0 _) | apply F1)); done) | (repeat (first | exact F0 _ | apply F1))))))

end Go.Proofs.Ytaeacdhilekcbaa
