/- Tables put together. -/
import Derived.Test.YtaeacdhilekcbaaR13
set_option linter.unusedVariables false
set_option linter.unusedSimpArgs false
namespace Go.Proofs.Ytaeacdhilekcbaa
open Go Csl


namespace Csl
def C1 (ms : List M) (t : List (K × Pos)) : Prop := ∀ k q, mget k t = some q → (⟨k, q⟩ : M) ∈ ms
def C2 (m : M) (t : List (K × Pos)) : Prop := ∃ q, mget m.k t = some q ∧ cmpPos m.pos q ≤ 0
theorem cmpPos_refl (q : Pos) : cmpPos q q = 0 := (cmpPos_law.eq0 q q).2 rfl
theorem C1.tput {ms : List M} {t : List (K × Pos)} {m : M} (h : C1 ms t) (hm : m ∈ ms) : C1 ms (tput t m.k m.pos) := by
  intro k q hq
  unfold Csl.tput at hq
  split at hq
  · rw [mget_mput] at hq
    split at hq
    · rename_i hk; cases hq; subst hk; exact hm
    · exact h k q hq
  · exact h k q hq
theorem C1.mono {ms ms' : List M} {t : List (K × Pos)} (h : C1 ms t) (hs : ∀ m ∈ ms, m ∈ ms') : C1 ms' t := fun k q hq => hs _ (h k q hq)
theorem C2.tput {m : M} {t : List (K × Pos)} (h : C2 m t) (k : K) (q : Pos) : C2 m (tput t k q) := by
  obtain ⟨q0, h1, h2⟩ := h
  unfold Csl.tput
  split
  · rename_i ha
    unfold C2
    rw [mget_mput]
    split
    · rename_i hk
      refine ⟨q, rfl, ?_⟩
      unfold adopts at ha
      rw [← hk, h1] at ha
      simp only [decide_eq_true_eq] at ha
      exact cmpPos_law.trans _ _ _ h2 (by omega)
    · exact ⟨q0, h1, h2⟩
  · exact ⟨q0, h1, h2⟩
theorem C2.self (m : M) (t : List (K × Pos)) : C2 m (Csl.tput t m.k m.pos) := by
  unfold Csl.tput
  split
  · exact ⟨m.pos, by rw [mget_mput, if_pos rfl], by rw [cmpPos_refl]; exact Int.le_refl _⟩
  · rename_i ha
    unfold adopts at ha
    cases hq : mget m.k t with
    | none => rw [hq] at ha; simp at ha
    | some o =>
      rw [hq] at ha
      simp only [decide_eq_true_eq] at ha
      have := cmpPos_law.anti o m.pos
      exact ⟨o, hq, by omega⟩
/-- Marks put one by one. -/
def mergeT (t : List (K × Pos)) (ms : List M) : List (K × Pos) := ms.foldl (fun t m => tput t m.k m.pos) t
def mergeN (t : List (K × Pos)) : List M → Nat
  | [] => 0
  | m :: ms => (if adopts t m.k m.pos = true then 1 else 0) + mergeN (tput t m.k m.pos) ms
theorem mergeT_succ (t : List (K × Pos)) {l : List M} {i : Nat} {m : M} (h : l[i]? = some m) : mergeT t (l.take (i + 1)) = tput (mergeT t (l.take i)) m.k m.pos := by
  unfold mergeT; rw [List.take_add_one, h, List.foldl_append]; rfl
theorem mergeN_app : ∀ (ms : List M) (t : List (K × Pos)) (m : M), mergeN t (ms ++ [m]) = mergeN t ms + (if adopts (mergeT t ms) m.k m.pos = true then 1 else 0)
  | [], t, m => by simp only [List.nil_append, mergeN, Nat.add_zero, Nat.zero_add]; rfl
  | x :: ms, t, m => by
    rw [List.cons_append, mergeN, mergeN, mergeN_app ms _ m]
    have : mergeT t (x :: ms) = mergeT (tput t x.k x.pos) ms := rfl
    rw [this]; omega
theorem mergeN_succ (t : List (K × Pos)) {l : List M} {i : Nat} {m : M} (h : l[i]? = some m) : mergeN t (l.take (i + 1)) = mergeN t (l.take i) + (if adopts (mergeT t (l.take i)) m.k m.pos = true then 1 else 0) := by
  rw [List.take_add_one, h]; exact mergeN_app _ _ _
theorem mergeN_le : ∀ (ms : List M) (t : List (K × Pos)), mergeN t ms ≤ ms.length
  | [], t => Nat.le_refl _
  | m :: ms, t => by have := mergeN_le ms (tput t m.k m.pos); rw [mergeN, List.length_cons]; split <;> omega
theorem mergeT_KN : ∀ (ms : List M) {t : List (K × Pos)}, KN t → KN (mergeT t ms)
  | [], _, h => h
  | m :: ms, t, h => mergeT_KN ms (h.tput (k := m.k) (q := m.pos))
theorem mergeT_len : ∀ (ms : List M) (t : List (K × Pos)), (mergeT t ms).length ≤ t.length + ms.length
  | [], t => Nat.le_refl _
  | m :: ms, t => by
    have h1 := mergeT_len ms (tput t m.k m.pos); have h2 := tput_len (l := t) (k := m.k) (q := m.pos)
    have : mergeT t (m :: ms) = mergeT (tput t m.k m.pos) ms := rfl
    rw [this, List.length_cons]; omega
theorem mergeT_C1 {ms0 : List M} : ∀ (ms : List M) {t : List (K × Pos)}, C1 ms0 t → (∀ m ∈ ms, m ∈ ms0) → C1 ms0 (mergeT t ms)
  | [], _, h, _ => h
  | m :: ms, t, h, hs => mergeT_C1 ms (h.tput (hs m (by simp))) fun x hx => hs x (by simp [hx])
theorem mergeT_C2 {x : M} : ∀ (ms : List M) {t : List (K × Pos)}, C2 x t → C2 x (mergeT t ms)
  | [], _, h => h
  | m :: ms, t, h => mergeT_C2 ms (h.tput _ _)
theorem mergeT_C2s : ∀ (ms : List M) (t : List (K × Pos)), ∀ x ∈ ms, C2 x (mergeT t ms)
  | m :: ms, t, x, hx => by
    rcases List.mem_cons.1 hx with rfl | hx
    · exact mergeT_C2 ms (C2.self x t)
    · exact mergeT_C2s ms _ x hx
/-- Two tables of the same marks are one. -/
theorem C12_eq {ms : List M} {t t' : List (K × Pos)} (hn : KN t) (hn' : KN t') (a1 : C1 ms t) (a2 : ∀ m ∈ ms, C2 m t) (b1 : C1 ms t') (b2 : ∀ m ∈ ms, C2 m t') : ML t = ML t' := by
  have key : ∀ {t t' : List (K × Pos)}, C1 ms t → (∀ m ∈ ms, C2 m t) → C1 ms t' → (∀ m ∈ ms, C2 m t') → ∀ k q, mget k t = some q → mget k t' = some q := by
    intro t t' a1 a2 b1 b2 k q hq
    obtain ⟨q', h1, h2⟩ := b2 _ (a1 k q hq)
    simp only at h1 h2
    obtain ⟨q'', h3, h4⟩ := a2 _ (b1 k q' h1)
    simp only at h3 h4
    rw [hq] at h3; cases h3
    have e : q = q' := by
      have := cmpPos_law.anti q q'
      exact (cmpPos_law.eq0 q q').1 (by omega)
    rw [h1, e]
  unfold ML
  rw [srt_congr cmpK_law hn (perm_of_mget hn hn' fun k => ?_)]
  cases h : mget k t with
  | some q => exact (key a1 a2 b1 b2 k q h).symm
  | none =>
    cases h' : mget k t' with
    | none => rfl
    | some q => rw [key b1 b2 a1 a2 k q h'] at h; cases h
theorem mem_ML {t : List (K × Pos)} (hn : KN t) {m : M} : m ∈ ML t ↔ mget m.k t = some m.pos := by
  unfold ML
  rw [List.mem_map]
  constructor
  · rintro ⟨x, hx, rfl⟩; exact mget_of_mem hn ((srt_perm t).mem_iff.1 hx)
  · intro h; exact ⟨(m.k, m.pos), (srt_perm t).mem_iff.2 (mget_mem h), rfl⟩
theorem C1_ML {t : List (K × Pos)} (hn : KN t) : C1 (ML t) t := fun k q h => (mem_ML hn).2 h
theorem C2_ML {t : List (K × Pos)} (hn : KN t) : ∀ m ∈ ML t, C2 m t := fun m hm => ⟨m.pos, (mem_ML hn).1 hm, by rw [cmpPos_refl]; exact Int.le_refl _⟩
theorem mergeN_zero : ∀ (ms : List M) {t : List (K × Pos)}, (∀ m ∈ ms, C2 m t) → mergeN t ms = 0 ∧ mergeT t ms = t
  | [], t, _ => ⟨rfl, rfl⟩
  | m :: ms, t, h => by
    obtain ⟨q, h1, h2⟩ := h m (by simp)
    have ha : adopts t m.k m.pos = false := by
      unfold adopts; rw [h1]; have := cmpPos_law.anti m.pos q; simp; omega
    have ht : tput t m.k m.pos = t := by unfold Csl.tput; rw [ha]; rfl
    have ih := mergeN_zero ms (t := t) fun x hx => h x (by simp [hx])
    have e : mergeT t (m :: ms) = mergeT (tput t m.k m.pos) ms := rfl
    rw [mergeN, e, ht, ha]; simp [ih]
/-- The second table, with all of the first put in, is the first with all of the second. -/
theorem merge_back {a b : List (K × Pos)} (ha : KN a) (hb : KN b) : ML (mergeT b (ML (mergeT a (ML b)))) = ML (mergeT a (ML b)) := by
  have hw := mergeT_KN (ML b) ha
  have hr := mergeT_KN (ML (mergeT a (ML b))) hb
  refine C12_eq (ms := ML a ++ ML b) hr hw ?_ ?_ ?_ ?_
  · refine mergeT_C1 _ ((C1_ML hb).mono fun m hm => List.mem_append_right _ hm) fun m hm => ?_
    have := mergeT_C1 (ms0 := ML a ++ ML b) (ML b) ((C1_ML ha).mono fun m hm => List.mem_append_left _ hm) (fun m hm => List.mem_append_right _ hm)
    exact this _ _ ((mem_ML hw).1 hm)
  · intro m hm
    have h2 : C2 m (mergeT a (ML b)) := by
      rcases List.mem_append.1 hm with h | h
      · exact mergeT_C2 _ (C2_ML ha m h)
      · exact mergeT_C2s _ _ m h
    obtain ⟨q, h3, h4⟩ := h2
    obtain ⟨q', h5, h6⟩ := mergeT_C2s (ML (mergeT a (ML b))) b ⟨m.k, q⟩ ((mem_ML hw).2 h3)
    exact ⟨q', h5, cmpPos_law.trans _ _ _ h4 h6⟩
  · exact mergeT_C1 _ ((C1_ML ha).mono fun m hm => List.mem_append_left _ hm) (fun m hm => List.mem_append_right _ hm)
  · intro m hm
    rcases List.mem_append.1 hm with h | h
    · exact mergeT_C2 _ (C2_ML ha m h)
    · exact mergeT_C2s _ _ m h
theorem merge_again {a b : List (K × Pos)} (ha : KN a) (hb : KN b) : mergeN (mergeT a (ML b)) (ML b) = 0 ∧ mergeT (mergeT a (ML b)) (ML b) = mergeT a (ML b) :=
  mergeN_zero _ fun m hm => mergeT_C2s _ _ m hm
theorem fillT_merge (g : M → M) (l : List M) : fillT g l = mergeT [] (l.map g) := by
  unfold fillT mergeT; rw [List.foldl_map]
theorem fillT_C1 (g : M → M) (l : List M) : C1 (l.map g) (fillT g l) := by
  rw [fillT_merge]; exact mergeT_C1 _ (fun k q h => by simp [mget] at h) (fun _ h => h)
theorem fillT_C2 (g : M → M) (l : List M) : ∀ m ∈ l.map g, C2 m (fillT g l) := by
  rw [fillT_merge]; exact mergeT_C2s _ _
/-- Twice round. -/
theorem round_all {n s : Nat} (hs : s < n) {j : Nat} (hj : j < n) : ∃ i, i < 2 * n ∧ (s + i) % n = j := by
  refine ⟨j + n - s, by omega, ?_⟩
  rw [show s + (j + n - s) = j + n from by omega, Nat.add_mod_right, Nat.mod_eq_of_lt hj]
end Csl

set_option maxHeartbeats 2000000 in
set_option maxRecDepth 100000 in
theorem Merge_ctr {G : Gp} {p u : Nat} {tl tu : List (K × Pos)} (hn : KN tu) (hb : tu.length ≤ 1000) :
    Ctr Try.prog G 26 [.pointer (some ⟨p, 0, none⟩), .pointer (some ⟨u, 0, none⟩)] [Tb p tl, Tb u tu] (fun F v A => v = .int .i64 (mergeN tl (ML tu) : Nat) ∧ A = Tb p (mergeT tl (ML tu)) :: Tb u tu :: F) := by
  refine Ctr.intro Try.func26 rfl (by kernel_rfl) rfl (fun F => ?_)
  simp only [List.cons_append, List.nil_append]
  have hml := ML_len tu
  refine Run.sr ?_
  refine RunL.as rfl rfl ?_
  refine RunL.nil ?_
  refine Run.sr ?_
  refine RunL.as rfl rfl ?_
  refine RunL.nil ?_
  refine Run.seq ?_
  refine Run.sr ?_
  refine RunL.mv rfl rfl ?_
  refine RunL.call rfl rfl (by rfl) (by repeat (first | (with_reducible exact Take.nil _) | (apply Take.cons (by first | ((repeat (first | (with_reducible exact F0 _) | apply F1)); done) | (repeat (first | exact F0 _ | apply F1)))))) (AllO_ctr hn hb) (Wt.none rfl) rfl ?_
  rintro _ _ ⟨a1, c1, rfl, hA_⟩
  replace hA_ := hA_.symm; subst hA_
  refine RunL.pure (Pure.lenSl rfl rfl und51) (Wt.none rfl) rfl rfl ?_
  refine RunL.mv rfl rfl ?_
  refine RunL.nil ?_
  refine Run.lendAll (Q := Sl 69 6 a1 (ML tu).length c1 ((ML tu).flatMap cM)) Lends.Sl (by first | ((repeat (first | (with_reducible exact F0 _) | apply F1)); done) | (repeat (first | exact F0 _ | apply F1))) (fun GhA hleGhA hA => ?_)
  obtain ⟨hA, hAc⟩ := hA
  refine Run.block ?_
  refine Run.keep (.cons rfl (.cons rfl (.cons rfl (.cons rfl (.cons rfl (.nil))))) : Keep _ [0, 5, 9, 10, 11] _) ?_
  refine Run.loopF (F := F) (fun n e A => ∃ i : Nat, i ≤ (ML tu).length ∧ n = (ML tu).length - i ∧ e = [(0, .pointer (some ⟨p, 0, none⟩)), (5, .int .i64 (mergeN tl ((ML tu).take i) : Nat)), (9, .slice a1 (ML tu).length c1), (10, .int .i64 ((ML tu).length : Nat)), (11, .int .i64 (i : Nat))] ∧ A = Tb p (mergeT tl ((ML tu).take i)) :: Tb u tu :: F) ((ML tu).length) (by exact ⟨0, by omega, rfl, rfl, rfl⟩) (by repeat (first | (with_reducible exact Fin.done (by repeat (first | (with_reducible exact Rest.here) | apply Rest.there))) | (apply Fin.cons (by first | ((repeat (first | (with_reducible exact F0 _) | apply F1)); done) | (repeat (first | exact F0 _ | apply F1)))))) ?_
  rintro n _ _ ⟨i, hi, rfl, rfl, hA_⟩ ih
  replace hA_ := hA_.symm; subst hA_
  refine Run.sr ?_
  refine RunL.pure (Pure.lss rfl rfl) (Wt.none rfl) rfl rfl ?_
  refine RunL.nil ?_
  refine Run.seq ?_
  refine Run.cond rfl (fun h1 => ?_) (fun h1 => ?_)
  · try simp only [ZA, ZB, ZC, ZD, ZE, ZF, ZG, ZH, ZI, ZJ, ZK, ZL, ZM, ZN, ZO, ZP, ZQ, ZR] at h1
    obtain ⟨m, hm⟩ := get_some (xs := ML tu) (i := i) (by omega)
    obtain ⟨ba, Ta, prea, posta, rfl, hroa⟩ := hA.open1 (show 0 < (ML tu).length by omega)
    have hN := mergeN_le ((ML tu).take i) tl
    have hN2 : ((ML tu).take i).length ≤ i := by rw [List.length_take]; omega
    have hS := mergeN_succ tl hm
    have hT := mergeT_succ tl hm
    refine Run.skip ?_
    refine Run.seq ?_
    refine Run.block ?_
    refine Run.sr ?_
    refine RunL.pure (Pure.indexAddr rfl rfl und51 sz69 (by omega) (by omega)) (Wt.none rfl) rfl rfl ?_
    refine RunL.loadNR (vs := (cM m)) rfl hroa agg69 sz69 (elemN_len (pre := prea) (post := posta) (f := cM) (sz := 6) (j := 0) (n := 6) (fun _ _ => rfl) hm (by decide)) ((elemN_at (pre := prea) (post := posta) (f := cM) (sz := 6) (j := 0) (n := 6) (fun _ _ => rfl) hm (by decide)).trans rfl) (Wt.none rfl) rfl ?_
    refine RunL.alloc zz69 (Wt.none rfl) rfl ?_; intro b7
    refine RunL.storeW (xs := (cM m)) rfl rfl (by first | ((repeat (first | (with_reducible exact F0 _) | apply F1)); done) | (repeat (first | exact F0 _ | apply F1))) sz69 (by rfl) (by rfl) (by rfl) (Wt.none rfl) ?_
    refine RunL.nil ?_
    refine Run.region ?_
    refine RunL.mv rfl rfl ?_
    refine RunL.mv rfl rfl ?_
    refine RunL.pure (Pure.fieldAddr rfl fo69_0) (Wt.none rfl) rfl rfl ?_
    first | refine RunL.loadA (vs := (cK m.k)) rfl (by first | ((repeat (first | (with_reducible exact F0 _) | apply F1)); done) | (repeat (first | exact F0 _ | apply F1))) agg36 sz36 (by first | exact Nat.le_of_ble_eq_true rfl | (simp; done) | (simp; omega)) rfl (Wt.none rfl) rfl ?_ | refine RunL.loadNR (vs := (cK m.k)) rfl (by assumption) agg36 sz36 (by first | exact Nat.le_of_ble_eq_true rfl | (simp; done) | (simp; omega)) rfl (Wt.none rfl) rfl ?_
    refine RunL.pure (Pure.fieldAddr rfl fo69_1) (Wt.none rfl) rfl rfl ?_
    first | refine RunL.loadA (vs := (cPos m.pos)) rfl (by first | ((repeat (first | (with_reducible exact F0 _) | apply F1)); done) | (repeat (first | exact F0 _ | apply F1))) agg26 sz26 (by first | exact Nat.le_of_ble_eq_true rfl | (simp; done) | (simp; omega)) rfl (Wt.none rfl) rfl ?_ | refine RunL.loadNR (vs := (cPos m.pos)) rfl (by assumption) agg26 sz26 (by first | exact Nat.le_of_ble_eq_true rfl | (simp; done) | (simp; omega)) rfl (Wt.none rfl) rfl ?_
    refine RunL.call rfl rfl (by rfl) (by repeat (first | (with_reducible exact Take.nil _) | (apply Take.cons (by first | ((repeat (first | (with_reducible exact F0 _) | apply F1)); done) | (repeat (first | exact F0 _ | apply F1)))))) (Put_ctr (l := mergeT tl ((ML tu).take i)) (k := m.k) (q := m.pos)) (Wt.none rfl) rfl ?_
    rintro _ _ ⟨rfl, hA_⟩
    replace hA_ := hA_.symm; subst hA_
    refine RunL.call rfl rfl (by rfl) (by repeat (first | (with_reducible exact Take.nil _) | (apply Take.cons (by first | ((repeat (first | (with_reducible exact F0 _) | apply F1)); done) | (repeat (first | exact F0 _ | apply F1)))))) (number_ctr) (Wt.none rfl) rfl ?_
    rintro _ _ ⟨rfl, hA_⟩
    replace hA_ := hA_.symm; subst hA_
    have hnb : 0 ≤ numB (adopts (mergeT tl ((ML tu).take i)) m.k m.pos) ∧ numB (adopts (mergeT tl ((ML tu).take i)) m.k m.pos) ≤ 1 := by unfold numB; split <;> omega
    have hE : ((mergeN tl ((ML tu).take i) : Nat) : Int) + numB (adopts (mergeT tl ((ML tu).take i)) m.k m.pos) = ((mergeN tl ((ML tu).take (i + 1)) : Nat) : Int) := by rw [hS]; unfold numB; split <;> simp_all
    first | refine RunL.pure (Pure.addI rfl rfl (by omega)) (Wt.none rfl) rfl rfl ?_ | refine RunL.pure (Pure.add rfl rfl) (Wt.none rfl) rfl rfl ?_
    refine RunL.as rfl rfl ?_
    refine RunL.nil ?_
    refine Run.inBlock ?_
    refine Run.region ?_
    first | refine RunL.pure (Pure.addI rfl rfl (by omega)) (Wt.none rfl) rfl rfl ?_ | refine RunL.pure (Pure.add rfl rfl) (Wt.none rfl) rfl rfl ?_
    refine RunL.mv rfl rfl ?_
    refine RunL.nil ?_
    rw [hE, ← hT]
    refine Run.keep (.cons rfl (.cons rfl (.cons rfl (.cons rfl (.cons rfl (.nil))))) : Keep _ [0, 5, 9, 10, 11] _) ?_
    refine Run.againF (F := F) ih (by exact ⟨i + 1, by omega, rfl, rfl, rfl⟩) (by repeat (first | (with_reducible exact Fin.done (by repeat (first | (with_reducible exact Rest.here) | apply Rest.there))) | (apply Fin.cons (by first | ((repeat (first | (with_reducible exact F0 _) | apply F1)); done) | (repeat (first | exact F0 _ | apply F1)))))) ?_
    omega
  · try simp only [ZA, ZB, ZC, ZD, ZE, ZF, ZG, ZH, ZI, ZJ, ZK, ZL, ZM, ZN, ZO, ZP, ZQ, ZR] at h1
    refine Run.exit rfl ?_
    refine Run.sr ?_
    refine RunL.mv rfl rfl ?_
    refine RunL.as rfl rfl ?_
    refine RunL.nil ?_
    rw [show ((ML tu).take i) = ML tu from List.take_of_length_le (by omega)]
    exact Run.ret Try.func26 (res1 rfl rfl) (by exact ⟨rfl, rfl⟩) (by repeat (first | (with_reducible exact Fin.done (by repeat (first | (with_reducible exact Rest.here) | apply Rest.there))) | (apply Fin.cons (by first | ((repeat (first | (with_reducible exact F0 _) | apply F1)); done) | (repeat (first | exact F0 _ | apply F1))))))

end Go.Proofs.Ytaeacdhilekcbaa
