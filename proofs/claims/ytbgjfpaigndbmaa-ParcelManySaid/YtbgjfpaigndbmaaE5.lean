/- EDUs: plain laws. -/
import Derived.Test.YtbgjfpaigndbmaaE4
set_option linter.unusedVariables false
set_option linter.unusedSimpArgs false
set_option linter.unusedSectionVars false
namespace Go.Proofs.Ytbgjfpaigndbmaa
open Go Csl


namespace Csl
theorem i64_wf {n : Int} (h : -9223372036854775808 ≤ n ∧ n ≤ 9223372036854775807) : (Lit.int .i64 n).wf = true := by
  simp [Lit.wf, IntKind.min, IntKind.max, IntKind.signed, IntKind.bits]; omega
theorem room_named (z : Int) : namedB 33 (bl (roomOf z)) = true := by
  have h := around_lt (z := z) (m := 2) (by decide)
  unfold roomOf
  have : (around z 2).toNat = 0 ∨ (around z 2).toNat = 1 := by omega
  rcases this with q | q <;> rw [q] <;> decide +kernel
theorem user_named (z : Int) : namedB 64 (bl (userOf z)) = true := by
  have h := around_lt (z := z) (m := 9) (by decide)
  unfold userOf
  have : ∀ k : _root_.Fin 9, namedB 64 (bl (signOf ((k.val : Int) / 3) ++ serverOf ((k.val : Int) % 3))) = true := by decide +kernel
  have := this ⟨(around z 9).toNat, by omega⟩
  simpa [show (((around z 9).toNat : Nat) : Int) = around z 9 from by omega] using this
theorem event_named (z : Int) : eventB (bl (eventOf z)) = true := by
  have h := around_lt (z := z) (m := 9) (by decide)
  unfold eventOf
  have : ∀ k : _root_.Fin 9, eventB (bl ((⟨#[36, 101]⟩ : ByteArray) ++ digit (k.val : Int))) = true := by decide +kernel
  have := this ⟨(around z 9).toNat, by omega⟩
  simpa [show (((around z 9).toNat : Nat) : Int) = around z 9 from by omega] using this
theorem thread_named (z : Int) : threadB (bl (threadOf z)) = true := by
  unfold threadOf
  split
  · decide +kernel
  · split
    · decide +kernel
    · unfold threadB; simp [event_named]
theorem good_kind (e : Edu) : (good0 e).kind = 1 ∨ (good0 e).kind = 2 ∨ (good0 e).kind = 3 := by
  have h := around_lt (z := e.kind) (m := 3) (by decide)
  show 1 + around e.kind 3 = 1 ∨ 1 + around e.kind 3 = 2 ∨ 1 + around e.kind 3 = 3
  omega
theorem pub_may (e : Edu) : eduMay (pubE e) = true := by
  have h1 := around_lt (z := e.tick) (m := 100) (by decide)
  have h2 := around_lt (z := e.stamp) (m := 9) (by decide)
  have h3 := around_lt (z := e.span) (m := 60) (by decide)
  have h4 := around_lt (z := e.span) (m := 3) (by decide)
  rcases good_kind e with q | q | q
  · have : goodE e = { good0 e with room := roomOf e.span, event := eventOf (evNum e), thread := threadOf e.thread.size, priv := e.priv } := by unfold goodE; rw [if_pos q]
    unfold pubE; rw [this]
    have q1 : 1 + around e.kind 3 = 1 := q
    simp [eduMay, eduLocal, eduKind, good0, q1, user_named, room_named, event_named, thread_named, inR]; omega
  · have : goodE e = { good0 e with room := roomOf e.span, typing := e.typing, span := if e.typing then 1 + around e.span 60 else 0 } := by unfold goodE; rw [if_neg (by omega), if_pos q]
    unfold pubE; rw [this]
    have q1 : 1 + around e.kind 3 = 2 := q
    cases ht : e.typing <;> simp [eduMay, eduLocal, eduKind, good0, q1, user_named, room_named, inR, show bl ByteArray.empty = [] from rfl] <;> omega
  · have : goodE e = { good0 e with state := around e.span 3 } := by unfold goodE; rw [if_neg (by omega), if_neg (by omega)]
    unfold pubE; rw [this]
    have q1 : 1 + around e.kind 3 = 3 := q
    simp [eduMay, eduLocal, eduKind, good0, q1, user_named, inR, show bl ByteArray.empty = [] from rfl]; omega
theorem good_small (e : Edu) : (goodE e).room.size ≤ 5 ∧ (goodE e).user.size ≤ 5 ∧ (goodE e).event.size ≤ 5 ∧ (goodE e).thread.size ≤ 5 := by
  have h0 : ByteArray.empty.size = 0 := rfl
  have hr := roomOf_size e.span
  have hu := userOf_size e.state
  have he := eventOf_size (evNum e)
  have ht := threadOf_size e.thread.size
  unfold goodE good0
  split
  · simp only; omega
  · split
    · simp only; omega
    · simp only; omega
theorem good_nums (e : Edu) : (1 ≤ (goodE e).kind ∧ (goodE e).kind ≤ 3) ∧ (0 ≤ (goodE e).span ∧ (goodE e).span ≤ 60) ∧ (0 ≤ (goodE e).state ∧ (goodE e).state ≤ 2) ∧ (0 ≤ (goodE e).tick ∧ (goodE e).tick ≤ 99) ∧ (0 ≤ (goodE e).stamp ∧ (goodE e).stamp ≤ 8) := by
  have h0 := around_lt (z := e.kind) (m := 3) (by decide)
  have h1 := around_lt (z := e.tick) (m := 100) (by decide)
  have h2 := around_lt (z := e.stamp) (m := 9) (by decide)
  have h3 := around_lt (z := e.span) (m := 60) (by decide)
  have h4 := around_lt (z := e.span) (m := 3) (by decide)
  unfold goodE good0
  split
  · simp only; omega
  · split
    · simp only; split <;> omega
    · simp only; omega
theorem good_ok (e : Edu) : okEdu (goodE e) := by
  obtain ⟨s1, s2, s3, s4⟩ := good_small e
  obtain ⟨n1, n2, n3, n4, n5⟩ := good_nums e
  exact ⟨i64_wf (by omega), by omega, by omega, by omega, by omega, i64_wf (by omega), i64_wf (by omega), i64_wf (by omega), i64_wf (by omega)⟩
theorem goodE_small (e : Edu) : eduSmall (goodE e) := by obtain ⟨s1, s2, s3, s4⟩ := good_small e; exact ⟨by omega, by omega, by omega, by omega⟩
theorem pub_ok (e : Edu) : okEdu (pubE e) := good_ok e
theorem pub_small (e : Edu) : eduSmall (pubE e) := goodE_small e
theorem few_ok {e : Edu} (h : okEdu e) : okEdu (fewE e) := by
  obtain ⟨h1, _, _, _, _, h2⟩ := h
  have q := fun s => cut_size s 40
  have := q e.room; have := q e.user; have := q e.event; have := q e.thread
  exact ⟨h1, by show (cut _ _).size ≤ _; omega, by show (cut _ _).size ≤ _; omega, by show (cut _ _).size ≤ _; omega, by show (cut _ _).size ≤ _; omega, h2⟩
theorem few_small (e : Edu) : eduSmall (fewE e) := by
  have q := fun s => cut_size s 40
  have := q e.room; have := q e.user; have := q e.event; have := q e.thread
  exact ⟨by show (cut _ _).size ≤ _; omega, by show (cut _ _).size ≤ _; omega, by show (cut _ _).size ≤ _; omega, by show (cut _ _).size ≤ _; omega⟩
/-! Which bytes are which EDU's -/
def rdE (most : Int) (bs : List UInt8) : Edu × Int :=
  let k := rdNum bs 0; let r := rdText most k.2.1 k.2.2; let u := rdText most r.2.1 r.2.2; let v := rdText most u.2.1 u.2.2; let t := rdText most v.2.1 v.2.2
  let f := rdFlag t.2.1 t.2.2; let sp := rdNum f.2.1 f.2.2; let st := rdNum sp.2.1 sp.2.2; let ti := rdNum st.2.1 st.2.2; let sm := rdNum ti.2.1 ti.2.2
  (⟨k.1, mkS r.1, mkS u.1, mkS v.1, mkS t.1, false, f.1, sp.1, st.1, ti.1, sm.1⟩, rdEnd sm.2.1 sm.2.2)
def zeroE : Edu := ⟨0, .empty, .empty, .empty, .empty, false, false, 0, 0, 0, 0⟩
def finE (q : Edu × Int) : Edu × Int := if q.2 = 0 ∧ eduMay q.1 = true then (q.1, 0) else (zeroE, 2)
structure NumsOk (e : Edu) : Prop where
  k : 0 ≤ e.kind ∧ e.kind ≤ 9223372036854775807
  sp : 0 ≤ e.span ∧ e.span ≤ 9223372036854775807
  st : 0 ≤ e.state ∧ e.state ≤ 9223372036854775807
  ti : 0 ≤ e.tick ∧ e.tick ≤ 9223372036854775807
  sm : 0 ≤ e.stamp ∧ e.stamp ≤ 9223372036854775807
theorem rdText_txt {s : ByteArray} {m : List UInt8} {most : Int} (h : (s.size : Int) ≤ most) (h2 : s.size ≤ 9223372036854775807) : rdText most (txt s ++ m) 0 = (bl s, m, 0) := by
  unfold txt; rw [← bl_length]; exact rdText_put (by rw [bl_length]; exact h) (by rw [bl_length]; exact h2)
theorem rdNum_int {z : Int} (h : 0 ≤ z ∧ z ≤ 9223372036854775807) (m : List UInt8) : rdNum (numN z.toNat ++ m) 0 = (z, m, 0) := by
  rw [rdNum_put (by omega)]; rw [show ((z.toNat : Nat) : Int) = z from by omega]
theorem rdE_bytes {e : Edu} {most : Int} (hp : e.priv = false) (hn : NumsOk e) (hs : eduSmall e) (hm : (e.room.size : Int) ≤ most ∧ (e.user.size : Int) ≤ most ∧ (e.event.size : Int) ≤ most ∧ (e.thread.size : Int) ≤ most) : rdE most (eduBytes e) = (e, 0) := by
  obtain ⟨m1, m2, m3, m4⟩ := hm
  obtain ⟨s1, s2, s3, s4⟩ := hs
  have e0 : eduBytes e = numN e.kind.toNat ++ (txt e.room ++ (txt e.user ++ (txt e.event ++ (txt e.thread ++ ((if e.typing then 1 else 0) :: (numN e.span.toNat ++ (numN e.state.toNat ++ (numN e.tick.toNat ++ (numN e.stamp.toNat ++ []))))))))) := by
    simp [eduBytes, eduTexts, eduNums, flg]
  unfold rdE
  rw [e0, rdNum_int hn.k]
  simp only
  rw [rdText_txt m1 (by omega)]; simp only
  rw [rdText_txt m2 (by omega)]; simp only
  rw [rdText_txt m3 (by omega)]; simp only
  rw [rdText_txt m4 (by omega)]; simp only
  rw [rdFlag_put]; simp only
  rw [rdNum_int hn.sp]; simp only
  rw [rdNum_int hn.st]; simp only
  rw [rdNum_int hn.ti]; simp only
  rw [rdNum_int hn.sm]; simp only
  rw [mkS_bl, mkS_bl, mkS_bl, mkS_bl, ← hp]
  rfl
theorem eduBytes_inj {x y : Edu} (hx : x.priv = false) (hy : y.priv = false) (nx : NumsOk x) (ny : NumsOk y) (sx : eduSmall x) (sy : eduSmall y) : eduBytes x = eduBytes y ↔ x = y := by
  refine ⟨fun h => ?_, fun h => by rw [h]⟩
  obtain ⟨a1, a2, a3, a4⟩ := id sx
  obtain ⟨b1, b2, b3, b4⟩ := id sy
  have h1 := rdE_bytes (most := 1000) hx nx sx (by omega)
  have h2 := rdE_bytes (most := 1000) hy ny sy (by omega)
  rw [h, h2] at h1
  exact (Prod.mk.inj h1).1.symm
theorem pub_nums (e : Edu) : NumsOk (pubE e) := by
  obtain ⟨n1, n2, n3, n4, n5⟩ := good_nums e
  exact ⟨⟨by show 0 ≤ (goodE e).kind; omega, by show (goodE e).kind ≤ _; omega⟩, ⟨by show 0 ≤ (goodE e).span; omega, by show (goodE e).span ≤ _; omega⟩, ⟨by show 0 ≤ (goodE e).state; omega, by show (goodE e).state ≤ _; omega⟩, ⟨by show 0 ≤ (goodE e).tick; omega, by show (goodE e).tick ≤ _; omega⟩, ⟨by show 0 ≤ (goodE e).stamp; omega, by show (goodE e).stamp ≤ _; omega⟩⟩
theorem pub_inj (a b : Edu) : eduBytes (pubE a) = eduBytes (pubE b) ↔ pubE a = pubE b := eduBytes_inj rfl rfl (pub_nums a) (pub_nums b) (pub_small a) (pub_small b)
/-! The order -/
theorem cmpB_law0 (x y : List UInt8) : cmpB x y = 0 ↔ x = y := by
  unfold cmpB; rw [cmpS_law.eq0]; exact ⟨fun h => by have := congrArg bl h; rwa [bl_mkS, bl_mkS] at this, fun h => by rw [h]⟩
theorem edCmp_anti (x y : Edu) : edCmp y x = - edCmp x y := by
  have h1 := cmpI_law.anti x.stamp y.stamp; have h2 := cmpS_law.anti (mkS (eduBytes x)) (mkS (eduBytes y))
  unfold edCmp cmpB orI; rw [h1, h2]; split <;> split <;> omega
theorem edCmp_zero {x y : Edu} : edCmp x y = 0 ↔ x.stamp = y.stamp ∧ eduBytes x = eduBytes y := by
  have h1 := cmpI_law.eq0 x.stamp y.stamp; have h2 := cmpB_law0 (eduBytes x) (eduBytes y)
  unfold edCmp orI
  by_cases q : cmpI x.stamp y.stamp = 0
  · rw [if_neg (by omega), h2]; exact ⟨fun h => ⟨h1.1 q, h⟩, fun h => h.2⟩
  · rw [if_pos q]; exact ⟨fun h => absurd h q, fun h => absurd (h1.2 h.1) q⟩
theorem edCmp_trans {x y z : Edu} (h1 : edCmp x y ≤ 0) (h2 : edCmp y z ≤ 0) : edCmp x z ≤ 0 := by
  have hb : cmpB (eduBytes x) (eduBytes y) ≤ 0 → cmpB (eduBytes y) (eduBytes z) ≤ 0 → cmpB (eduBytes x) (eduBytes z) ≤ 0 := cmpS_law.trans _ _ _
  unfold edCmp orI cmpI at *
  by_cases a1 : x.stamp < y.stamp <;> by_cases a2 : y.stamp < x.stamp <;> by_cases b1 : y.stamp < z.stamp <;> by_cases b2 : z.stamp < y.stamp <;> by_cases c1 : x.stamp < z.stamp <;> by_cases c2 : z.stamp < x.stamp <;> first | omega | (simp [a1, a2, b1, b2, c1, c2] at h1 h2 ⊢; first | done | exact hb h1 h2 | omega)
theorem edCmp_stamp {x y : Edu} (h : y.stamp < x.stamp) : 0 < edCmp x y := by
  have : cmpI x.stamp y.stamp = 1 := by unfold cmpI; rw [if_neg (by omega), if_pos h]
  unfold edCmp orI; rw [this, if_pos (by decide)]; decide
theorem may_len {k : Nat} {l : List UInt8} (h : mayB k l = true) : l.length ≤ 16 := by
  unfold mayB at h; simp only [Bool.and_eq_true, decide_eq_true_eq] at h; exact h.2.2
theorem named_len {sg : UInt8} {l : List UInt8} (h : namedB sg l = true) : l.length ≤ 34 := by
  cases l with
  | nil => simp
  | cons c r =>
    unfold namedB serverB at h
    simp only [Bool.and_eq_true, decide_eq_true_eq] at h
    obtain ⟨_, h1, h2, h3, _⟩ := h
    have h4 := colI_lt h1
    have a := may_len h2; have b := may_len h3
    simp only [List.length_take, List.length_drop, List.length_cons] at a b ⊢
    omega
theorem event_len {l : List UInt8} (h : eventB l = true) : l.length ≤ 34 := by
  cases l with
  | nil => simp
  | cons c r => unfold eventB at h; simp only [Bool.and_eq_true, decide_eq_true_eq] at h; have := may_len h.2; simp; omega
theorem thread_len {l : List UInt8} (h : threadB l = true) : l.length ≤ 34 := by
  unfold threadB at h
  simp only [Bool.or_eq_true, decide_eq_true_eq] at h
  rcases h with rfl | rfl | h
  · simp
  · decide
  · exact event_len h
theorem may_lens {e : Edu} (h : eduMay e = true) : (bl e.room).length ≤ 34 ∧ (bl e.user).length ≤ 34 ∧ (bl e.event).length ≤ 34 ∧ (bl e.thread).length ≤ 34 := by
  unfold eduMay eduLocal at h
  simp only [Bool.and_eq_true] at h
  obtain ⟨⟨hu, _, _, hk⟩, _⟩ := h
  have h0 : ([] : List UInt8).length ≤ 34 := by simp
  unfold eduKind at hk
  split at hk
  · simp only [Bool.and_eq_true] at hk; exact ⟨named_len hk.1, named_len hu, event_len hk.2.1, thread_len hk.2.2.1⟩
  · split at hk
    · simp only [Bool.and_eq_true, decide_eq_true_eq] at hk; exact ⟨named_len hk.1, named_len hu, by rw [hk.2.2.1]; exact h0, by rw [hk.2.2.2.1]; exact h0⟩
    · split at hk
      · simp only [Bool.and_eq_true, decide_eq_true_eq] at hk; exact ⟨by rw [hk.1]; exact h0, named_len hu, by rw [hk.2.1]; exact h0, by rw [hk.2.2.1]; exact h0⟩
      · cases hk
theorem rdNum_err {bs : List UInt8} {er : Int} (h : er ≠ 0) : (rdNum bs er).2.2 = er := by unfold rdNum; rw [if_pos h]
theorem rdText_err {m : Int} {bs : List UInt8} {er : Int} (h : er ≠ 0) : (rdText m bs er).2.2 = er := by unfold rdText; simp only; rw [if_pos (by rw [rdNum_err h]; exact h), rdNum_err h]
theorem rdFlag_err {bs : List UInt8} {er : Int} (h : er ≠ 0) : (rdFlag bs er).2.2 = er := by unfold rdFlag; rw [if_pos h]
theorem rdEnd_err {bs : List UInt8} {er : Int} (h : er ≠ 0) : rdEnd bs er ≠ 0 := by unfold rdEnd; rw [if_neg (fun q => h q.1)]; exact h
/-- A text of at most 34 bytes or of at most 1000: told alike, or longer than 34, or refused by both. -/
theorem rdText_two (bs : List UInt8) (er : Int) : rdText 34 bs er = rdText 1000 bs er ∨ ((rdText 34 bs er).2.2 ≠ 0 ∧ ((rdText 1000 bs er).2.2 ≠ 0 ∨ 34 < (rdText 1000 bs er).1.length)) := by
  unfold rdText
  simp only
  by_cases h : (rdNum bs er).2.2 ≠ 0
  · left; rw [if_pos h, if_pos h]
  · rw [if_neg h, if_neg h]
    by_cases h1 : (rdNum bs er).1 > 34
    · right
      rw [if_pos h1]
      refine ⟨by decide, ?_⟩
      by_cases h2 : (rdNum bs er).1 > 1000
      · left; rw [if_pos h2]; decide
      · rw [if_neg h2]
        by_cases h3 : (rdNum bs er).1 > (rdNum bs er).2.1.length
        · left; rw [if_pos h3]; decide
        · right; rw [if_neg h3]; simp only [List.length_take]; omega
    · left; rw [if_neg h1, if_neg (show ¬ (rdNum bs er).1 > 1000 by omega)]
def KeepOk (bs : List UInt8) (er : Int) : Prop := (er ≠ 0 → bs = []) ∧ bs.length ≤ 1000000
theorem rdNum_keep {bs : List UInt8} {er : Int} (h : KeepOk bs er) : KeepOk (rdNum bs er).2.1 (rdNum bs er).2.2 := ⟨(rdNum_inv h.1).1, Nat.le_trans (rdNum_inv h.1).2.1 h.2⟩
theorem rdText_keep {m : Int} {bs : List UInt8} {er : Int} (h : KeepOk bs er) : KeepOk (rdText m bs er).2.1 (rdText m bs er).2.2 := ⟨(rdText_inv h.1).1, Nat.le_trans (rdText_inv h.1).2 h.2⟩
theorem rdFlag_keep {bs : List UInt8} {er : Int} (h : KeepOk bs er) : KeepOk (rdFlag bs er).2.1 (rdFlag bs er).2.2 := ⟨(rdFlag_inv h.1).1, Nat.le_trans (rdFlag_inv h.1).2 h.2⟩
theorem rdText_most {m : Int} {bs : List UInt8} {er : Int} (h0 : 0 ≤ m) : ((rdText m bs er).1.length : Int) ≤ m := by
  unfold rdText; simp only
  split
  · simpa using h0
  · split
    · simpa using h0
    · split
      · simpa using h0
      · simp only [List.length_take]; omega
def partE (k : Int) (ts : List ByteArray) : Edu := ⟨k, ts.getD 0 .empty, ts.getD 1 .empty, ts.getD 2 .empty, ts.getD 3 .empty, false, false, 0, 0, 0, 0⟩
def partN (E : Edu) (zs : List Int) : Edu := { E with span := zs.getD 0 0, state := zs.getD 1 0, tick := zs.getD 2 0, stamp := zs.getD 3 0 }
def tailN (E : Edu) (zs : List Int) : Nat → List UInt8 → Int → Edu × Int
  | 0, bs, er => (partN E zs, rdEnd bs er)
  | n + 1, bs, er => tailN E (zs ++ [(rdNum bs er).1]) n (rdNum bs er).2.1 (rdNum bs er).2.2
theorem part_small {k : Int} {ts : List ByteArray} (h : ∀ s ∈ ts, s.size ≤ 34) : eduSmall (partE k ts) := by
  have : ∀ i : Nat, (ts.getD i .empty).size ≤ 34 := fun i => getD_size h
  exact ⟨by have := this 0; show (ts.getD 0 .empty).size ≤ 1000; omega, by have := this 1; show (ts.getD 1 .empty).size ≤ 1000; omega, by have := this 2; show (ts.getD 2 .empty).size ≤ 1000; omega, by have := this 3; show (ts.getD 3 .empty).size ≤ 1000; omega⟩
def tailE (most : Int) (k : Int) (ts : List ByteArray) : Nat → List UInt8 → Int → Edu × Int
  | 0, bs, er => let f := rdFlag bs er; let sp := rdNum f.2.1 f.2.2; let st := rdNum sp.2.1 sp.2.2; let ti := rdNum st.2.1 st.2.2; let sm := rdNum ti.2.1 ti.2.2
    (⟨k, ts.getD 0 .empty, ts.getD 1 .empty, ts.getD 2 .empty, ts.getD 3 .empty, false, f.1, sp.1, st.1, ti.1, sm.1⟩, rdEnd sm.2.1 sm.2.2)
  | n + 1, bs, er => let q := rdText most bs er; tailE most k (ts ++ [mkS q.1]) n q.2.1 q.2.2
theorem rdE_tail (most : Int) (bs : List UInt8) : rdE most bs = tailE most (rdNum bs 0).1 [] 4 (rdNum bs 0).2.1 (rdNum bs 0).2.2 := rfl
theorem tailE_err (most : Int) (k : Int) : ∀ (n : Nat) (ts : List ByteArray) (bs : List UInt8) (er : Int), er ≠ 0 → (tailE most k ts n bs er).2 ≠ 0
  | 0, ts, bs, er, h => by
    unfold tailE; simp only
    apply rdEnd_err
    rw [rdNum_err, rdNum_err, rdNum_err, rdNum_err, rdFlag_err h] <;> (repeat (first | exact h | rw [rdNum_err] | rw [rdFlag_err])) <;> exact h
  | n + 1, ts, bs, er, h => by
    unfold tailE; exact tailE_err most k n _ _ _ (by rw [rdText_err h]; exact h)
theorem tailE_texts (most : Int) (k : Int) : ∀ (n : Nat) (ts : List ByteArray) (bs : List UInt8) (er : Int), ts.length + n = 4 → ∀ i, i < ts.length → ∀ s, ts[i]? = some s → 34 < (bl s).length → eduMay (tailE most k ts n bs er).1 = false
  | 0, ts, bs, er, hn, i, hi, s, hs, hl => by
    cases hm : eduMay (tailE most k ts 0 bs er).1 with
    | false => rfl
    | true =>
      have h4 := may_lens hm
      unfold tailE at h4
      simp only [List.getD_eq_getElem?_getD] at h4
      have : i = 0 ∨ i = 1 ∨ i = 2 ∨ i = 3 := by omega
      rcases this with rfl | rfl | rfl | rfl <;> (rw [hs] at h4; simp only [Option.getD_some] at h4; omega)
  | n + 1, ts, bs, er, hn, i, hi, s, hs, hl => by
    unfold tailE
    exact tailE_texts most k n _ _ _ (by simp; omega) i (by simp; omega) s (by rw [List.getElem?_append_left hi]; exact hs) hl
theorem finE_no {q : Edu × Int} (h : q.2 ≠ 0 ∨ eduMay q.1 = false) : finE q = (zeroE, 2) := by
  unfold finE; rw [if_neg]; rintro ⟨h1, h2⟩; rcases h with h | h
  · exact h h1
  · rw [h] at h2; cases h2
theorem tailE_two (k : Int) : ∀ (n : Nat) (ts : List ByteArray) (bs : List UInt8) (er : Int), ts.length + n = 4 → finE (tailE 34 k ts n bs er) = finE (tailE 1000 k ts n bs er)
  | 0, ts, bs, er, hn => rfl
  | n + 1, ts, bs, er, hn => by
    rcases rdText_two bs er with h | ⟨h1, h2⟩
    · have ih := tailE_two k n (ts ++ [mkS (rdText 1000 bs er).1]) (rdText 1000 bs er).2.1 (rdText 1000 bs er).2.2 (by simp; omega)
      unfold tailE
      simp only [h]
      exact ih
    · rw [finE_no (.inl (by unfold tailE; exact tailE_err 34 k n _ _ _ h1))]
      symm
      apply finE_no
      unfold tailE
      rcases h2 with h2 | h2
      · exact .inl (tailE_err 1000 k n _ _ _ h2)
      · exact .inr (tailE_texts 1000 k n _ _ _ (by simp; omega) ts.length (by simp) _ (by rw [List.getElem?_append_right (Nat.le_refl _), Nat.sub_self]; rfl) (by rw [bl_mkS]; exact h2))
theorem tailE_step (most k : Int) (ts : List ByteArray) (n : Nat) (bs : List UInt8) (er : Int) : tailE most k ts (n + 1) bs er = tailE most k (ts ++ [mkS (rdText most bs er).1]) n (rdText most bs er).2.1 (rdText most bs er).2.2 := rfl
theorem tailE_zero (most k : Int) (ts : List ByteArray) (bs : List UInt8) (er : Int) : tailE most k ts 0 bs er = tailN { partE k ts with typing := (rdFlag bs er).1 } [] 4 (rdFlag bs er).2.1 (rdFlag bs er).2.2 := rfl
theorem tailN_step (E : Edu) (zs : List Int) (n : Nat) (bs : List UInt8) (er : Int) : tailN E zs (n + 1) bs er = tailN E (zs ++ [(rdNum bs er).1]) n (rdNum bs er).2.1 (rdNum bs er).2.2 := rfl
theorem rdE_two (bs : List UInt8) : finE (rdE 34 bs) = finE (rdE 1000 bs) := by rw [rdE_tail, rdE_tail]; exact tailE_two _ 4 [] _ _ rfl
end Csl


end Go.Proofs.Ytbgjfpaigndbmaa
