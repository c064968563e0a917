/- Any order: what is built. -/
import Derived.Test.YtaaondbmkibkkaaGreatQ6
set_option linter.unusedVariables false
set_option linter.unusedSimpArgs false
set_option linter.unusedSectionVars false
namespace Go.Proofs.YtaaondbmkibkkaaGreat
open Go Csl
theorem cb29 : Callable Tryz.prog 29 := ⟨_, Tryz.func29, by kernel_rfl, by kernel_rfl⟩

namespace Csl
theorem Good.nd {room : ByteArray} {l : EL} (h : Good room l) : l.Nodup := List.Pairwise.of_map _ (fun a b h q => h (by rw [q])) h.nodup
theorem Good.same {room : ByteArray} {l : EL} (h : Good room l) {u v : Evt} (hu : u ∈ l) (hv : v ∈ l) (e : u.id = v.id) : u = v := by
  have h1 := h.get hu; have h2 := h.get hv; rw [e, h2] at h1; exact (Option.some.inj h1).symm
/-- A thread's root is of the list. -/
theorem Good.root {room : ByteArray} {l : EL} (h : Good room l) {i : Nat} {v : Evt} (hv : l[i]? = some v) (ht : v.thread ≠ .empty) : ∃ (j : Nat) (r : Evt), j < i ∧ l[j]? = some r ∧ r.id = v.thread ∧ r.thread = .empty ∧ r.does = 0 := by
  rcases thrRc_zero.1 (addRc_zero.1 (h i v hv)).2.2.2.2 with q | ⟨r, h1, h2, h3⟩
  · exact absurd q ht
  · obtain ⟨hm, e⟩ := get_of h1
    obtain ⟨j, hj⟩ := List.getElem?_of_mem hm
    have hi : j < i := by
      rcases Nat.lt_or_ge j i with q | q
      · exact q
      · rw [List.getElem?_eq_none (by simp; omega)] at hj; cases hj
    rw [List.getElem?_take, if_pos hi] at hj
    exact ⟨j, r, hi, hj, e, h2, h3⟩
section
variable {room : ByteArray} {k l : EL}
theorem rc_sub (hk : Good room k) (hl : Good room l) (hs : ∀ v ∈ k, v ∈ l) {v : Evt} (hv : v ∈ l) : addRc room k v = 0 ∨ addRc room k v = 4 ∨ addRc room k v = 9 := by
  obtain ⟨h1, h2⟩ := hl.mem hv
  by_cases h3 : k.has v.id = true
  · exact .inr (.inr (addRc_9 h1 h2 h3))
  · have h3' : k.has v.id = false := by simpa using h3
    by_cases h4 : v.ps.any (fun p => !k.has p) = true
    · exact .inr (.inl (addRc_4 h1 h2 h3' h4))
    · have h4' : v.ps.any (fun p => !k.has p) = false := by simpa using h4
      rw [addRc_thr h1 h2 h3' h4']
      by_cases h5 : v.thread = .empty
      · exact .inl (thrRc_zero.2 (.inl h5))
      · cases hg : k.get v.thread with
        | none => exact .inr (.inl (thr_none h5 hg))
        | some r =>
          obtain ⟨hr, he⟩ := get_of hg
          obtain ⟨i, hi⟩ := List.getElem?_of_mem hv
          obtain ⟨j, r', hj, hr', he', ht, hd⟩ := hl.root hi h5
          obtain rfl : r = r' := hl.same (hs r hr) (List.mem_of_getElem? hr') (he.trans he'.symm)
          exact .inl (thrRc_zero.2 (.inr ⟨r, hg, ht, hd⟩))
/-- All that stands ahead is there: then it is there behind that. -/
theorem rc_ready (hk : Good room k) (hl : Good room l) (hs : ∀ v ∈ k, v ∈ l) {i : Nat} {v : Evt} (hv : l[i]? = some v) (hr : ∀ (j : Nat) (u : Evt), j < i → l[j]? = some u → u ∈ k) : v ∈ addL room k v := by
  have hvm := List.mem_of_getElem? hv
  obtain ⟨h1, h2⟩ := hl.mem hvm
  by_cases h3 : k.has v.id = true
  · rw [addL_no (by rw [addRc_9 h1 h2 h3]; decide)]
    obtain ⟨u, hu, e⟩ := has_iff.1 h3
    rw [← hl.same (hs u hu) hvm e]; exact hu
  · have h3' : k.has v.id = false := by simpa using h3
    have h0 : addRc room k v = 0 := by
      refine addRc_zero.2 ⟨h1, h2, h3', fun p hp => ?_, ?_⟩
      · obtain ⟨j, u, hj, hu, rfl⟩ := hl.parent hv hp
        exact has_mem (hr j u hj hu)
      · by_cases h5 : v.thread = .empty
        · exact thrRc_zero.2 (.inl h5)
        · obtain ⟨j, r, hj, hr', he, ht, hd⟩ := hl.root hv h5
          exact thrRc_zero.2 (.inr ⟨r, by rw [← he]; exact hk.get (hr j r hj hr'), ht, hd⟩)
    rw [addL_ok h0]; simp
theorem sub_add (hs : ∀ v ∈ k, v ∈ l) {v : Evt} (hv : v ∈ l) : ∀ u ∈ addL room k v, u ∈ l := by
  unfold addL; split
  · intro u hu
    rcases List.mem_append.1 hu with hu | hu
    · exact hs u hu
    · obtain rfl := List.mem_singleton.1 hu; exact hv
  · exact hs
theorem mem_add {u v : Evt} (hu : u ∈ k) : u ∈ addL room k v := by
  unfold addL; split
  · exact List.mem_append.2 (.inl hu)
  · exact hu
theorem perm_of_sub (hk : Good room k) (hl : Good room l) (h1 : ∀ v ∈ k, v ∈ l) (h2 : ∀ v ∈ l, v ∈ k) : k.Perm l := (List.perm_ext_iff_of_nodup hk.nd hl.nd).2 fun a => ⟨h1 a, h2 a⟩
end

theorem depth_sub {room room' : ByteArray} {k l : EL} (hk : Good room' k) (hl : Good room l) (hs : ∀ v ∈ k, v ∈ l) : ∀ v ∈ k, depthOf k v.id = depthOf l v.id := by
  have key : ∀ (i : Nat) (v : Evt), k[i]? = some v → depthOf k v.id = depthOf l v.id := by
    intro i
    induction i using Nat.strongRecOn with
    | ind i ih =>
      intro v hv
      have hvk := List.mem_of_getElem? hv
      rw [hk.depth hvk, hl.depth (hs v hvk)]
      apply addDepth_congr
      intro p hps
      obtain ⟨j, u, hj, hu, rfl⟩ := hk.parent hv hps
      exact ih j hj u hu
  intro v hv
  obtain ⟨i, hi⟩ := List.getElem?_of_mem hv
  exact key i v hi
theorem subN {α : Type} {k l : List α} : k.Nodup → (∀ v ∈ k, v ∈ l) → k.length ≤ l.length := by
  induction k generalizing l with
  | nil => intro _ _; exact Nat.zero_le _
  | cons x k ih =>
    intro hn hs
    obtain ⟨hx, hk⟩ := List.nodup_cons.1 hn
    obtain ⟨s, t, rfl⟩ := List.append_of_mem (hs x List.mem_cons_self)
    have := ih (l := s ++ t) hk fun v hv => by
      have h1 := hs v (List.mem_cons_of_mem _ hv)
      simp only [List.mem_append, List.mem_cons] at h1 ⊢
      rcases h1 with h1 | h1 | h1
      · exact .inl h1
      · subst h1; exact absurd hv hx
      · exact .inr h1
    simp only [List.length_cons, List.length_append] at this ⊢; omega
/-! ### What a view knows, of what there is -/
def InW (W vg : VG) : Prop := ∀ r, Good r (vg r) ∧ ∀ v ∈ vg r, v ∈ W r
section
variable {W vg : VG} {rs : List Edu}
theorem InW.pos (hW : ∀ r, Good r (W r)) (h : InW W vg) {r id : ByteArray} (hh : (vg r).has id = true) : posAt (vg r) id = posAt (W r) id := by
  obtain ⟨v, hv, rfl⟩ := has_iff.1 hh
  have hw := (h r).2 v hv
  unfold posAt; rw [has_mem hv, has_mem hw, if_pos rfl, if_pos rfl, depth_sub (h r).1 (hW r) (h r).2 v hv]
theorem InW.fits (hW : ∀ r, Good r (W r)) (h : InW W vg) {r id th : ByteArray} (hh : (vg r).has id = true) : fitsI (vg r) id th = fitsI (W r) id th := by
  obtain ⟨v, hv, rfl⟩ := has_iff.1 hh
  unfold fitsI; rw [(h r).1.get hv, (hW r).get ((h r).2 v hv)]
def rFit (W : VG) (e : Edu) : Int := fitsI (W e.room) e.event e.thread
def rPos (W : VG) (e : Edu) : Pos := posAt (W e.room) e.event
theorem InW.put (hW : ∀ r, Good r (W r)) (h : InW W vg) {e : Edu} (q : fitsI (vg e.room) e.event e.thread = 0) : rFit W e = 0 ∧ posAt (vg e.room) e.event = rPos W e := by
  have hh := fits_has q
  exact ⟨by unfold rFit; rw [← h.fits hW hh]; exact q, h.pos hW hh⟩
/-- All marks are of receipts that fit. -/
def Sound (W : VG) (rs : List Edu) (tl : List (K × Pos)) : Prop := ∀ k q, mget k tl = some q → ∃ r ∈ rs, kOf r = k ∧ rFit W r = 0 ∧ q = rPos W r
/-- A receipt's mark is not ahead of it. -/
def Has (W : VG) (tl : List (K × Pos)) (r : Edu) : Prop := ∃ q, mget (kOf r) tl = some q ∧ ¬ cmpPos q (rPos W r) < 0
theorem mget_tput {l : List (K × Pos)} {k k' : K} {q : Pos} : mget k' (tput l k q) = if k' = k then some (if adopts l k q then q else (mget k l).getD noPos) else mget k' l := by
  by_cases h : k' = k
  · subst h; rw [if_pos rfl, tput_get]
  · rw [if_neg h]; unfold tput; split
    · rw [mget_mput, if_neg h]
    · rfl
theorem adopts_no {l : List (K × Pos)} {k : K} {q : Pos} (h : adopts l k q = false) : ∃ o, mget k l = some o ∧ ¬ cmpPos o q < 0 := by
  unfold adopts at h
  cases hm : mget k l with
  | none => rw [hm] at h; cases h
  | some o => rw [hm] at h; exact ⟨o, rfl, by simpa using h⟩
theorem adopts_yes {l : List (K × Pos)} {k : K} {q o : Pos} (h : adopts l k q = true) (hm : mget k l = some o) : cmpPos o q < 0 := by
  unfold adopts at h; rw [hm] at h; simpa using h
theorem Sound.put {tl : List (K × Pos)} (h : Sound W rs tl) {r : Edu} (hr : r ∈ rs) (hf : rFit W r = 0) : Sound W rs (tput tl (kOf r) (rPos W r)) := fun k q hq => by
  rw [mget_tput] at hq
  by_cases hk : k = kOf r
  · rw [if_pos hk] at hq
    cases had : adopts tl (kOf r) (rPos W r) with
    | true => rw [had, if_pos rfl] at hq; exact ⟨r, hr, hk.symm, hf, (Option.some.inj hq).symm⟩
    | false =>
      rw [had, if_neg (by decide)] at hq
      obtain ⟨o, ho, _⟩ := adopts_no had
      rw [ho] at hq
      exact h k q (by rw [hk, ho]; exact hq)
  · rw [if_neg hk] at hq; exact h k q hq
theorem Has.put {tl : List (K × Pos)} {r : Edu} (h : Has W tl r) (k : K) (q : Pos) : Has W (tput tl k q) r := by
  obtain ⟨o, ho, hn⟩ := h
  unfold Has; rw [mget_tput]
  by_cases hk : kOf r = k
  · rw [if_pos hk]
    cases had : adopts tl k q with
    | true =>
      have := adopts_yes had (by rw [← hk]; exact ho)
      exact ⟨q, by rw [if_pos rfl], fun z => hn (cmpPos_law.ltTrans this z)⟩
    | false => exact ⟨o, by rw [if_neg (by decide), ← hk, ho]; rfl, hn⟩
  · rw [if_neg hk]; exact ⟨o, ho, hn⟩
theorem Has.self (tl : List (K × Pos)) (r : Edu) : Has W (tput tl (kOf r) (rPos W r)) r := by
  unfold Has; rw [mget_tput, if_pos rfl]
  cases had : adopts tl (kOf r) (rPos W r) with
  | true => exact ⟨_, by rw [if_pos rfl], by rw [(cmpPos_law.eq0 _ _).2 rfl]; decide⟩
  | false =>
    obtain ⟨o, ho, hn⟩ := adopts_no had
    exact ⟨o, by rw [if_neg (by decide), ho]; rfl, hn⟩
theorem join_half {t1 t2 : List (K × Pos)} (h1 : Sound W rs t1) (h2 : ∀ r ∈ rs, rFit W r = 0 → Has W t2 r) {k : K} {q : Pos} (h : mget k t1 = some q) : ∃ q', mget k t2 = some q' ∧ ¬ cmpPos q' q < 0 := by
  obtain ⟨r, hr, rfl, hf, rfl⟩ := h1 k q h
  exact h2 r hr hf
theorem join_one {t1 t2 : List (K × Pos)} (h1 : Sound W rs t1) (g1 : ∀ r ∈ rs, rFit W r = 0 → Has W t1 r) (h2 : Sound W rs t2) (g2 : ∀ r ∈ rs, rFit W r = 0 → Has W t2 r) (k : K) : mget k t1 = mget k t2 := by
  cases e1 : mget k t1 with
  | some q =>
    obtain ⟨q', e2, n2⟩ := join_half h1 g2 e1
    obtain ⟨q'', e3, n3⟩ := join_half h2 g1 e2
    rw [e1] at e3; cases e3
    rw [e2]
    by_cases hq : q = q'
    · rw [hq]
    · exact absurd (cmpPos_law.lt_of n3 hq) n2
  | none =>
    cases e2 : mget k t2 with
    | none => rfl
    | some q =>
      obtain ⟨q', e3, _⟩ := join_half h2 g1 e2
      rw [e1] at e3; cases e3
theorem ML_eq {t1 t2 : List (K × Pos)} (n1 : KN t1) (n2 : KN t2) (h : ∀ k, mget k t1 = mget k t2) : ML t1 = ML t2 := by
  unfold ML; congr 1
  exact srt_eq cmpK_law (srt_sd cmpK_law n1) ((srt_perm t1).trans (perm_of_mget n1 n2 h))
/-- What holds of marks, whatever came. -/
structure Inv (W : VG) (rs : List Edu) (vg : VG) (s : MS) : Prop where
  view : InW W vg
  kn : KN s.tl
  lost : s.lost = 0
  nd : s.es.Nodup
  sub : ∀ e ∈ s.es, e ∈ rs
  snd : Sound W rs s.tl
theorem Inv.zero (hW : InW W vg) : Inv W rs vg ⟨[], [], 0⟩ := ⟨hW, List.nodup_nil, rfl, List.nodup_nil, (fun e he => by cases he), fun k q h => by cases h⟩
theorem Inv.short {s : MS} (h : Inv W rs vg s) : s.es.length ≤ rs.length := subN h.nd h.sub
theorem Inv.small {s : MS} (h : Inv W rs vg s) : s.tl.length ≤ rs.length := by
  have := subN (k := s.tl.map (fun x : K × Pos => x.1)) (l := rs.map kOf) h.kn (fun k hk => by
    cases hm : mget k s.tl with
    | none => exact absurd hk (mget_none.1 hm)
    | some q => obtain ⟨r, hr, e, _⟩ := h.snd k q hm; exact List.mem_map.2 ⟨r, hr, e⟩)
  simpa using this
theorem Inv.ok {s : MS} (h : Inv W rs vg s) (hs : ∀ e ∈ rs, eduSmall e) : s.ok rs.length := ⟨h.kn, h.small, h.short, fun e he => hs e (h.sub e he), by rw [h.lost]; decide, by rw [h.lost]; omega⟩
theorem Inv.put (hW : ∀ r, Good r (W r)) (hn : rs.length ≤ 900) {s : MS} (h : Inv W rs vg s) {e : Edu} (he : e ∈ rs) : Inv W rs vg (mPut 1000 vg s e).1 := by
  by_cases hk : e.kind = 1 ∧ eduLocal e = true
  · by_cases q : fitsI (vg e.room) e.event e.thread = 4
    · rw [mPut_park hk q]
      have hsh := h.short
      by_cases hin : e ∈ s.es
      · have hL : pputL 1000 s.es e = s.es := if_pos hin
        have hN : pputN 1000 s.es e s.lost = s.lost := if_pos hin
        exact ⟨h.view, h.kn, by show pputN 1000 s.es e s.lost = 0; rw [hN, h.lost], by show (pputL 1000 s.es e).Nodup; rw [hL]; exact h.nd, (fun x hx => h.sub x (by have hx' : x ∈ pputL 1000 s.es e := hx; rw [hL] at hx'; exact hx')), h.snd⟩
      · have hc : (((s.es ++ [e]).length : Nat) : Int) ≤ 1000 := by rw [List.length_append, List.length_singleton]; omega
        have hL : pputL 1000 s.es e = s.es ++ [e] := by unfold pputL; rw [if_neg hin, if_pos hc]
        have hN : pputN 1000 s.es e s.lost = s.lost := by unfold pputN; rw [if_neg hin, if_pos hc]
        refine ⟨h.view, h.kn, by show pputN 1000 s.es e s.lost = 0; rw [hN, h.lost], ?_, ?_, h.snd⟩
        · show (pputL 1000 s.es e).Nodup
          rw [hL, List.nodup_append]
          exact ⟨h.nd, by simp, fun a ha b hb e' => by obtain rfl := List.mem_singleton.1 hb; subst e'; exact hin ha⟩
        · intro x hx
          have hx' : x ∈ pputL 1000 s.es e := hx
          rw [hL] at hx'
          rcases List.mem_append.1 hx' with hx' | hx'
          · exact h.sub x hx'
          · obtain rfl := List.mem_singleton.1 hx'; exact he
    · by_cases q0 : fitsI (vg e.room) e.event e.thread = 0
      · rw [mPut_in hk q0]
        obtain ⟨hf, hp⟩ := h.view.put hW q0
        refine ⟨h.view, h.kn.tput, h.lost, h.nd, h.sub, ?_⟩
        show Sound W rs (tput s.tl (kOf e) (posAt (vg e.room) e.event))
        rw [hp]; exact h.snd.put he hf
      · rw [mPut_bad hk q q0]; exact h
  · rw [mPut_arg hk]; exact h
theorem Has.mPut {s : MS} {e r : Edu} (h : Has W s.tl r) : Has W (mPut 1000 vg s e).1.tl r := by
  rcases mPut_cases (most := 1000) (vg := vg) (s := s) (e := e) with ⟨_, e1⟩ | ⟨_, _, e1, _⟩
  · rw [e1]; exact h
  · rw [e1]; exact h.put _ _
theorem Inv.take {s : MS} (h : Inv W rs vg s) (room event : ByteArray) : Inv W rs vg (mTake s room event) := ⟨h.view, h.kn, h.lost, h.nd.sublist List.filter_sublist, fun e he => h.sub e (List.mem_filter.1 he).1, h.snd⟩
theorem Inv.fold (hW : ∀ r, Good r (W r)) (hn : rs.length ≤ 900) : ∀ (l : List Edu) (q : MS × List K), (∀ e ∈ l, e ∈ rs) → Inv W rs vg q.1 → Inv W rs vg (l.foldl (arrS 1000 vg) q).1
  | [], _, _, h => h
  | e :: l, q, hl, h => Inv.fold hW hn l _ (fun x hx => hl x (List.mem_cons_of_mem _ hx)) (h.put hW hn (hl e List.mem_cons_self))
theorem Has.fold {r : Edu} : ∀ (l : List Edu) (q : MS × List K), Has W q.1.tl r → Has W (l.foldl (arrS 1000 vg) q).1.tl r
  | [], _, h => h
  | e :: l, q, h => Has.fold l _ h.mPut
theorem Inv.arr (hW : ∀ r, Good r (W r)) (hn : rs.length ≤ 900) {s : MS} (h : Inv W rs vg s) (room event : ByteArray) : Inv W rs vg (mArr 1000 vg s room event).1 := by
  unfold mArr; split
  · exact Inv.fold hW hn _ _ (fun e he => h.sub e (List.mem_filter.1 he).1) (h.take room event)
  · exact h
theorem Has.arr {s : MS} {r : Edu} (h : Has W s.tl r) (room event : ByteArray) : Has W (mArr 1000 vg s room event).1.tl r := by
  unfold mArr; split
  · exact Has.fold _ _ h
  · exact h
end
/-- One event, or one receipt, more. -/
def stepO (evs : EL) (rs : List Edu) (q : VL × MS) (k : Nat) : VL × MS := match evs[k]? with
  | some e => if addRc e.room (vget q.1 e.room) e = 0 then (vaddL q.1 e, (mArr 1000 (vget (vaddL q.1 e)) q.2 e.room e.id).1) else q
  | none => match rs[k - evs.length]? with
    | some r => (q.1, (mPut 1000 (vget q.1) q.2 r).1)
    | none => q
def runO (evs : EL) (rs : List Edu) (all : List Nat) : VL × MS := all.foldl (stepO evs rs) ([], ⟨[], [], 0⟩)
theorem runO_succ {evs : EL} {rs : List Edu} {all : List Nat} {i k : Nat} (h : all[i]? = some k) : runO evs rs (all.take (i + 1)) = stepO evs rs (runO evs rs (all.take i)) k := by
  unfold runO; rw [List.take_add_one, h, List.foldl_append]; rfl
section
variable {W : VG} {evs : EL} {rs : List Edu}
theorem step_ev {q : VL × MS} {k : Nat} {e : Evt} (h : evs[k]? = some e) : stepO evs rs q k = if addRc e.room (vget q.1 e.room) e = 0 then (vaddL q.1 e, (mArr 1000 (vget (vaddL q.1 e)) q.2 e.room e.id).1) else q := by unfold stepO; rw [h]
theorem step_rc {q : VL × MS} {k : Nat} {r : Edu} (h : evs.length ≤ k) (hr : rs[k - evs.length]? = some r) : stepO evs rs q k = (q.1, (mPut 1000 (vget q.1) q.2 r).1) := by unfold stepO; rw [List.getElem?_eq_none h, hr]
theorem InW.vadd (hW : ∀ r, Good r (W r)) {vl : VL} (h : InW W (vget vl)) {e : Evt} (he : e ∈ W e.room) : InW W (vget (vaddL vl e)) := fun r => by
  rw [vget_add]; split
  · rename_i hr; subst hr; exact ⟨(h _).1.add, sub_add (h _).2 he⟩
  · exact h r
def Stp (W : VG) (evs : EL) (rs : List Edu) (q : VL × MS) : Prop := Inv W rs (vget q.1) q.2
theorem Stp.step (hW : ∀ r, Good r (W r)) (hE : ∀ e ∈ evs, e ∈ W e.room) (hn : rs.length ≤ 900) {q : VL × MS} (h : Stp W evs rs q) (k : Nat) : Stp W evs rs (stepO evs rs q k) := by
  unfold stepO
  split
  · rename_i e he
    split
    · have hv := InW.vadd hW (vl := q.1) h.view (hE e (List.mem_of_getElem? he))
      exact Inv.arr hW hn (vg := vget (vaddL q.1 e)) ⟨hv, h.kn, h.lost, h.nd, h.sub, h.snd⟩ _ _
    · exact h
  · split
    · rename_i r hr; exact Inv.put hW hn h (List.mem_of_getElem? hr)
    · exact h
theorem Stp.fold (hW : ∀ r, Good r (W r)) (hE : ∀ e ∈ evs, e ∈ W e.room) (hn : rs.length ≤ 900) : ∀ (all : List Nat) (q : VL × MS), Stp W evs rs q → Stp W evs rs (all.foldl (stepO evs rs) q)
  | [], _, h => h
  | k :: all, q, h => Stp.fold hW hE hn all _ (h.step hW hE hn k)
theorem Stp.zero : Stp W evs rs ([], ⟨[], [], 0⟩) := Inv.zero fun r => ⟨Good.nil r, fun v hv => by cases hv⟩
theorem view_keeps {q : VL × MS} {k : Nat} {v : Evt} {r : ByteArray} (h : v ∈ vget q.1 r) : v ∈ vget (stepO evs rs q k).1 r := by
  unfold stepO
  split
  · rename_i e he
    split
    · show v ∈ vget (vaddL q.1 e) r
      rw [vget_add]; split
      · rename_i hr; subst hr; exact mem_add h
      · exact h
    · exact h
  · split <;> exact h
theorem views_keep {v : Evt} {r : ByteArray} : ∀ (all : List Nat) {q : VL × MS}, v ∈ vget q.1 r → v ∈ vget (all.foldl (stepO evs rs) q).1 r
  | [], _, h => h
  | k :: all, _, h => views_keep all (view_keeps h)
theorem has_keeps {q : VL × MS} {k : Nat} {r : Edu} (h : Has W q.2.tl r) : Has W (stepO evs rs q k).2.tl r := by
  unfold stepO
  split
  · split
    · exact h.arr _ _
    · exact h
  · split
    · exact h.mPut
    · exact h
theorem has_keep {r : Edu} : ∀ (all : List Nat) {q : VL × MS}, Has W q.2.tl r → Has W (all.foldl (stepO evs rs) q).2.tl r
  | [], _, h => h
  | k :: all, _, h => has_keep all (has_keeps h)
/-- A round of all: all events are known, all receipts have been put. -/
theorem round (hW : ∀ r, Good r (W r)) (hE : ∀ e ∈ evs, e ∈ W e.room) (hn : rs.length ≤ 900) (hWE : ∀ r, ∀ v ∈ W r, v ∈ evs)
    (hord : ∀ (k : Nat) (e : Evt), evs[k]? = some e → ∃ i, (W e.room)[i]? = some e ∧ ∀ (j : Nat) (u : Evt), j < i → (W e.room)[j]? = some u → ∃ k' : Nat, k' < k ∧ evs[k']? = some u) (hrk : ∀ r ∈ rs, r.kind = 1 ∧ eduLocal r = true)
    {q : VL × MS} (h : Stp W evs rs q) : ∀ n, n ≤ evs.length + rs.length →
      (∀ k e, k < n → evs[k]? = some e → e ∈ vget ((List.range n).foldl (stepO evs rs) q).1 e.room) ∧ (∀ k r, k + evs.length < n → rs[k]? = some r → rFit W r = 0 → Has W ((List.range n).foldl (stepO evs rs) q).2.tl r)
  | 0, _ => ⟨fun k e hk => absurd hk (Nat.not_lt_zero _), fun k r hk => absurd hk (Nat.not_lt_zero _)⟩
  | n + 1, hle => by
    obtain ⟨h1, h2⟩ := round hW hE hn hWE hord hrk h n (by omega)
    have hs := h.fold hW hE hn (List.range n)
    rw [List.range_succ, List.foldl_append]
    generalize (List.range n).foldl (stepO evs rs) q = q1 at h1 h2 hs
    simp only [List.foldl_cons, List.foldl_nil]
    refine ⟨fun k e hk he => ?_, fun k r hk hr hf => ?_⟩
    · rcases Nat.lt_or_ge k n with hlt | hge
      · exact view_keeps (h1 k e hlt he)
      · obtain rfl : k = n := by omega
        have hem := hE e (List.mem_of_getElem? he)
        obtain ⟨i, hi, hj⟩ := hord k e he
        have hroom : ∀ u ∈ W e.room, u.room = e.room := fun u hu => ((hW e.room).mem hu).2
        have hr := rc_ready (hs.view e.room).1 (hW e.room) (hs.view e.room).2 hi (fun j u hlt hu => by
          obtain ⟨k', hk', hu'⟩ := hj j u hlt hu
          have := h1 k' u hk' hu'
          rw [hroom u (List.mem_of_getElem? hu)] at this; exact this)
        rw [step_ev he]
        split
        · rename_i h0
          show e ∈ vget (vaddL q1.1 e) e.room
          rw [vget_add, if_pos rfl]; exact hr
        · rename_i h0
          rw [addL_no h0] at hr; exact hr
    · rcases Nat.lt_or_ge (k + evs.length) n with hlt | hge
      · exact has_keeps (h2 k r hlt hr hf)
      · obtain rfl : n = k + evs.length := by omega
        rw [step_rc (by omega) (by rw [Nat.add_sub_cancel]; exact hr)]
        have hall : ∀ v ∈ W r.room, v ∈ vget q1.1 r.room := fun v hv => by
          obtain ⟨k', hk'⟩ := List.getElem?_of_mem (hWE _ v hv)
          have hlt := (List.getElem?_eq_some_iff.1 hk').1
          have := h1 k' v (by omega) hk'
          rw [((hW r.room).mem hv).2] at this; exact this
        have hhas : (vget q1.1 r.room).has r.event = true := by
          obtain ⟨v, hv, e⟩ := has_iff.1 (fits_has hf)
          exact has_iff.2 ⟨v, hall v hv, e⟩
        have h0 : fitsI (vget q1.1 r.room) r.event r.thread = 0 := by rw [InW.fits hW hs.view hhas]; exact hf
        rw [mPut_in (hrk r (List.mem_of_getElem? hr)) h0]
        show Has W (tput q1.2.tl (kOf r) (posAt (vget q1.1 r.room) r.event)) r
        rw [InW.pos hW hs.view hhas]; exact Has.self _ _
/-! ### What is built of events -/
def buildV (ys : ES) : VL := ys.foldl (fun vl y => vaddL vl y.1) []
theorem buildV_step {ys : ES} {i : Nat} {v : Evt} {sv : Sli} (h : ys[i]? = some (v, sv)) : buildV (ys.take (i + 1)) = vaddL (buildV (ys.take i)) v := by
  unfold buildV; rw [List.take_add_one, h, List.foldl_append]; rfl
theorem vadd_congr {a b : VL} (h : ∀ r, vget a r = vget b r) (v : Evt) (r : ByteArray) : vget (vaddL a v) r = vget (vaddL b v) r := by
  rw [vget_add, vget_add, h v.room, h r]
theorem buildV_len (ys : ES) : ∀ (i : Nat) (r : ByteArray), (vget (buildV (ys.take i)) r).length ≤ i
  | 0, r => Nat.zero_le _
  | i + 1, r => by
    have h := buildV_len ys i r
    cases hy : ys[i]? with
    | none =>
      have hl : ys.length ≤ i := List.getElem?_eq_none_iff.1 hy
      rw [List.take_of_length_le (by omega)] at h ⊢
      omega
    | some y => rw [buildV_step (v := y.1) (sv := y.2) hy]; have := vadd_len (vl := buildV (ys.take i)) (v := y.1) r; omega
/-- The document's table. -/
def foldS (W : VG) (t : List (K × Pos)) (e : Edu) : List (K × Pos) := if fitsI (W e.room) e.event e.thread = 0 then tput t (kOf e) (posAt (W e.room) e.event) else t
def foldR (W : VG) (l : List Edu) : List (K × Pos) := l.foldl (foldS W) []
theorem foldR_succ {l : List Edu} {i : Nat} {e : Edu} (h : l[i]? = some e) : foldR W (l.take (i + 1)) = foldS W (foldR W (l.take i)) e := by
  unfold foldR; rw [List.take_add_one, h, List.foldl_append]; rfl
theorem foldR_all {l : List Edu} (hl : ∀ e ∈ l, e ∈ rs) : ∀ i, i ≤ l.length → KN (foldR W (l.take i)) ∧ Sound W rs (foldR W (l.take i)) ∧ (foldR W (l.take i)).length ≤ i ∧ ∀ k e, k < i → l[k]? = some e → rFit W e = 0 → Has W (foldR W (l.take i)) e
  | 0, _ => ⟨List.nodup_nil, (fun k q h => by cases h), Nat.zero_le _, fun k e hk => absurd hk (Nat.not_lt_zero _)⟩
  | i + 1, hi => by
    obtain ⟨h1, h2, h3, h4⟩ := foldR_all hl i (by omega)
    obtain ⟨e, he⟩ := get_some (xs := l) (i := i) (by omega)
    rw [foldR_succ he]
    unfold foldS
    by_cases hf : fitsI (W e.room) e.event e.thread = 0
    · rw [if_pos hf]
      refine ⟨h1.tput, h2.put (hl e (List.mem_of_getElem? he)) hf, Nat.le_trans tput_len (by omega), fun k r hk hr hfr => ?_⟩
      rcases Nat.lt_or_ge k i with hlt | hge
      · exact (h4 k r hlt hr hfr).put _ _
      · obtain rfl : k = i := by omega
        rw [he] at hr; cases hr; exact Has.self _ _
    · rw [if_neg hf]
      refine ⟨h1, h2, by omega, fun k r hk hr hfr => ?_⟩
      rcases Nat.lt_or_ge k i with hlt | hge
      · exact h4 k r hlt hr hfr
      · obtain rfl : k = i := by omega
        rw [he] at hr; cases hr; exact absurd hfr hf
theorem foldR_ok (l : List Edu) (i : Nat) : KN (foldR W (l.take i)) ∧ (foldR W (l.take i)).length ≤ l.length := by
  obtain ⟨h1, _, h3, _⟩ := foldR_all (W := W) (rs := l.take i) (l := l.take i) (fun e he => he) _ (Nat.le_refl _)
  rw [List.take_length] at h1 h3
  exact ⟨h1, Nat.le_trans h3 (by rw [List.length_take]; omega)⟩
/-- Whatever came first: with two rounds of all at the end the table is the document's, and none was lost. -/
theorem order_law (hW : ∀ r, Good r (W r)) (hE : ∀ e ∈ evs, e ∈ W e.room) (hn : rs.length ≤ 900) (hWE : ∀ r, ∀ v ∈ W r, v ∈ evs)
    (hord : ∀ (k : Nat) (e : Evt), evs[k]? = some e → ∃ i, (W e.room)[i]? = some e ∧ ∀ (j : Nat) (u : Evt), j < i → (W e.room)[j]? = some u → ∃ k' : Nat, k' < k ∧ evs[k']? = some u) (hrk : ∀ r ∈ rs, r.kind = 1 ∧ eduLocal r = true) (pre : List Nat) :
    (runO evs rs (pre ++ List.range (evs.length + rs.length) ++ List.range (evs.length + rs.length))).2.lost = 0 ∧ ML (runO evs rs (pre ++ List.range (evs.length + rs.length) ++ List.range (evs.length + rs.length))).2.tl = ML (foldR W rs) := by
  have hz := (Stp.zero (W := W) (evs := evs) (rs := rs)).fold hW hE hn pre
  have hr := (round hW hE hn hWE hord hrk hz (evs.length + rs.length) (Nat.le_refl _)).2
  have h1 := hz.fold hW hE hn (List.range (evs.length + rs.length))
  have h2 := h1.fold hW hE hn (List.range (evs.length + rs.length))
  unfold runO
  rw [List.foldl_append, List.foldl_append]
  obtain ⟨g1, g2, _, g4⟩ := foldR_all (W := W) (rs := rs) (l := rs) (fun e he => he) rs.length (Nat.le_refl _)
  rw [List.take_length] at g1 g2 g4
  refine ⟨h2.lost, ML_eq h2.kn g1 (join_one h2.snd (fun r hm hf => ?_) g2 (fun r hm hf => ?_))⟩
  · obtain ⟨k, hk⟩ := List.getElem?_of_mem hm
    have := (List.getElem?_eq_some_iff.1 hk).1
    exact has_keep _ (hr k r (by omega) hk hf)
  · obtain ⟨k, hk⟩ := List.getElem?_of_mem hm
    exact g4 k r (List.getElem?_eq_some_iff.1 hk).1 hk hf
end
end Csl

namespace Csl
theorem fold_made {room : ByteArray} {l : EL} (hg : Good room l) {vl0 : VL} (h0 : vget vl0 room = []) : ∀ i, i ≤ l.length → ∀ r, vget ((l.take i).foldl vaddL vl0) r = if r = room then l.take i else vget vl0 r
  | 0, _, r => by
    show vget vl0 r = _
    split
    · rename_i h; rw [h, h0]; rfl
    · rfl
  | i + 1, hi, r => by
    obtain ⟨u, hu⟩ := get_some (xs := l) (i := i) (by omega)
    have ih := fold_made hg h0 i (by omega)
    have hr := (hg.mem (List.mem_of_getElem? hu)).2
    rw [List.take_add_one, hu, List.foldl_append]
    show vget (vaddL ((l.take i).foldl vaddL vl0) u) r = _
    rw [vget_add, hr]
    split
    · rename_i h; rw [ih room, if_pos rfl, addL_ok (hg i u hu)]; rfl
    · rename_i h; rw [ih r, if_neg h]
def R0 : ByteArray := ⟨#[33, 114, 58, 115, 49]⟩
def R1 : ByteArray := ⟨#[33, 113, 58, 115, 50]⟩
theorem R_ne : R1 ≠ R0 := by decide
def allW (xa xb : List GX) : VG := fun r => if r = R1 then madeL R1 xb else if r = R0 then madeL R0 xa else []
theorem world {xa xb : List GX} {ys : ES} (h : ys.map (·.1) = evsL xa xb) : vget (buildV ys) = allW xa xb := by
  have ga : Good R0 (madeL R0 xa) := madeL_good (by decide +kernel) xa
  have gb : Good R1 (madeL R1 xb) := madeL_good (by decide +kernel) xb
  have e : buildV ys = (madeL R1 xb).foldl vaddL ((madeL R0 xa).foldl vaddL []) := by
    rw [← List.foldl_append]
    show ys.foldl (fun vl y => vaddL vl y.1) [] = (evsL xa xb).foldl vaddL []
    rw [← h, List.foldl_map]
  have fa := fold_made ga (vl0 := []) rfl (madeL R0 xa).length (Nat.le_refl _)
  rw [List.take_length] at fa
  have fb := fold_made gb (vl0 := (madeL R0 xa).foldl vaddL []) (by rw [fa, if_neg R_ne]; rfl) (madeL R1 xb).length (Nat.le_refl _)
  rw [List.take_length] at fb
  funext r
  rw [e, fb r, fa r]; rfl
section
variable {xa xb : List GX}
theorem allW_good : ∀ r, Good r (allW xa xb r) := fun r => by
  unfold allW; split
  · rename_i h; subst h; exact madeL_good (by decide +kernel) xb
  · split
    · rename_i h; subst h; exact madeL_good (by decide +kernel) xa
    · exact Good.nil r
theorem evs_room {e : Evt} (h : e ∈ evsL xa xb) : e ∈ allW xa xb e.room := by
  rcases List.mem_append.1 h with h | h
  · have hr : e.room = R0 := ((madeL_good (room := R0) (by decide +kernel) xa).mem h).2
    unfold allW; rw [hr, if_neg (fun q => R_ne q.symm), if_pos rfl]; exact h
  · have hr : e.room = R1 := ((madeL_good (room := R1) (by decide +kernel) xb).mem h).2
    unfold allW; rw [hr, if_pos rfl]; exact h
theorem allW_evs : ∀ r, ∀ v ∈ allW xa xb r, v ∈ evsL xa xb := fun r v hv => by
  unfold allW at hv; split at hv
  · exact List.mem_append.2 (.inr hv)
  · split at hv
    · exact List.mem_append.2 (.inl hv)
    · cases hv
theorem evs_order : ∀ (k : Nat) (e : Evt), (evsL xa xb)[k]? = some e → ∃ i, (allW xa xb e.room)[i]? = some e ∧ ∀ (j : Nat) (u : Evt), j < i → (allW xa xb e.room)[j]? = some u → ∃ k' : Nat, k' < k ∧ (evsL xa xb)[k']? = some u := fun k e he => by
  have hev : evsL xa xb = madeL R0 xa ++ madeL R1 xb := rfl
  rw [hev] at he ⊢
  rcases Nat.lt_or_ge k (madeL R0 xa).length with hk | hk
  · rw [List.getElem?_append_left hk] at he
    have hr : e.room = R0 := ((madeL_good (room := R0) (by decide +kernel) xa).mem (List.mem_of_getElem? he)).2
    have hw : allW xa xb e.room = madeL R0 xa := by unfold allW; rw [hr, if_neg (fun q => R_ne q.symm), if_pos rfl]
    rw [hw]
    exact ⟨k, he, fun j u hj hu => ⟨j, hj, by rw [List.getElem?_append_left (by omega)]; exact hu⟩⟩
  · rw [List.getElem?_append_right hk] at he
    have hr : e.room = R1 := ((madeL_good (room := R1) (by decide +kernel) xb).mem (List.mem_of_getElem? he)).2
    have hw : allW xa xb e.room = madeL R1 xb := by unfold allW; rw [hr, if_pos rfl]
    rw [hw]
    exact ⟨k - (madeL R0 xa).length, he, fun j u hj hu => ⟨j + (madeL R0 xa).length, by omega, by rw [List.getElem?_append_right (by omega), Nat.add_sub_cancel]; exact hu⟩⟩
end
theorem isOne_nats (l : List Nat) : ∀ u ∈ l.map (fun k : Nat => Value.int .i64 (k : Nat)), u.isOne = true := fun u hu => by
  obtain ⟨k, _, rfl⟩ := List.mem_map.1 hu; rfl
def rsL (l : List Edu) : List Edu := (l.take 8).map waitsE
theorem rsL_len (l : List Edu) : (rsL l).length ≤ 8 := by unfold rsL; rw [List.length_map, List.length_take]; omega
theorem rsL_kind {l : List Edu} : ∀ r ∈ rsL l, r.kind = 1 ∧ eduLocal r = true := fun r hr => by
  obtain ⟨x, _, rfl⟩ := List.mem_map.1 hr; exact waits_local x
theorem rsL_small {l : List Edu} : ∀ r ∈ rsL l, eduSmall r := fun r hr => by
  obtain ⟨x, _, rfl⟩ := List.mem_map.1 hr; exact waits_small x
def repR : Nat → Nat → List Nat
  | 0, _ => []
  | r + 1, n => repR r n ++ List.range n
theorem repR_len (n : Nat) : ∀ r, (repR r n).length = r * n
  | 0 => by simp [repR]
  | r + 1 => by unfold repR; rw [List.length_append, repR_len n r, List.length_range, Nat.add_mul, Nat.one_mul]
theorem order_all {xa xb : List GX} {rs : List Edu} (hn : rs.length ≤ 900) (hk : ∀ r ∈ rs, r.kind = 1 ∧ eduLocal r = true) (pre : List Nat) : (runO (evsL xa xb) rs (pre ++ repR 2 ((evsL xa xb).length + rs.length))).2.lost = 0 ∧ ML (runO (evsL xa xb) rs (pre ++ repR 2 ((evsL xa xb).length + rs.length))).2.tl = ML (foldR (allW xa xb) rs) := by
  have h := order_law (W := allW xa xb) (evs := evsL xa xb) (rs := rs) allW_good (fun e he => evs_room he) hn allW_evs evs_order hk pre
  rw [show pre ++ repR 2 ((evsL xa xb).length + rs.length) = pre ++ List.range ((evsL xa xb).length + rs.length) ++ List.range ((evsL xa xb).length + rs.length) from by simp [repR, List.append_assoc]]
  exact h
theorem order_st {xa xb : List GX} {rs : List Edu} (hn : rs.length ≤ 900) (all : List Nat) : Stp (allW xa xb) (evsL xa xb) rs (runO (evsL xa xb) rs all) := Stp.zero.fold allW_good (fun e he => evs_room he) hn all
theorem InW.len {xa xb : List GX} {vg : VG} (h : InW (allW xa xb) vg) (r : ByteArray) : (vg r).length ≤ 18 := by
  have h1 := subN (h r).1.nd (fun v hv => allW_evs r v ((h r).2 v hv))
  have := evs_len xa xb
  omega
end Csl

set_option maxHeartbeats 1000000 in
set_option maxRecDepth 100000 in
theorem rBuild_ctr {G : Gp} {K : Hp} {ay : Option Addr} {cy : Nat} {ys : ES} (hys : SlR G 49 6 ay ys.length (ys.flatMap cES)) (hyn : ys.length ≤ 900) (hwf : ∀ y ∈ ys, evWf y.1) (hYK : ESok (gk K) ys) :
    Ctr Tryz.prog G 27 [.slice ay ys.length cy] [Pool K] (fun F v A => ∃ (K1 : Hp) (V : VV) (zs : ZV), Hp.le K K1 ∧ HasZ (gk K1) V zs ∧ zs.length ≤ ys.length ∧ (∀ r, vget (zs.map (fun z : DD × ByteArray × EL => z.2)) r = vget (buildV ys) r) ∧ v = .agg (cVV V).toArray ∧ A = Pool K1 :: F) := by
  refine Ctr.intro Tryz.func27 rfl (by kernel_rfl) rfl (fun F => ?_)
  simp only [List.cons_append, List.nil_append]
  refine sr' ?_
  refine RunL.alloc zz65 (Wt.none rfl) rfl ?_; intro b2
  refine nl' (sr' ?_)
  refine RunL.alloc zz65 (Wt.none rfl) rfl ?_; intro b3
  refine nl' (sq' (sr' (as' rfl (nl' (bl' ?_)))))
  refine kp' [0, 2, 3, 4] ?_
  refine lp' F (fun n e_ A => ∃ (i : Nat) (K1 : Hp) (V : VV) (zs : ZV), i ≤ ys.length ∧ (Hp.le K K1 ∧ HasZ (gk K1) V zs ∧ zs.length ≤ i ∧ (∀ r, vget (zs.map (fun z : DD × ByteArray × EL => z.2)) r = vget (buildV (ys.take i)) r)) ∧ n = ys.length - i ∧ e_ = [(0, .slice ay ys.length cy), (2, .pointer (some ⟨b2, 0, none⟩)), (3, .pointer (some ⟨b3, 0, none⟩)), (4, .int .i64 (i : Nat))] ∧ A = row b2 65 (cVV (⟨⟨none, 0, 0⟩⟩ : VV)) :: row b3 65 (cVV V) :: Pool K1 :: F) (ys.length) (by exact ⟨0, K, (⟨⟨none, 0, 0⟩⟩ : VV), [], by omega, ⟨Hp.le_refl _, ⟨rfl, .inl ⟨rfl, rfl⟩, Nat.le_refl _, fun z hz => by cases hz⟩, Nat.le_refl _, fun r => rfl⟩, rfl, rfl, rfl⟩) ?_
  rintro n _ _ ⟨i, K1, V, zs, hi, hF, rfl, rfl, hA_⟩ ih
  replace hA_ := hA_.symm; subst hA_
  refine sq' (sr' (mv' rfl (mv' rfl (pp' (Pure.lenSl rfl rfl und44) (pp' (Pure.lss rfl rfl) (nl' ?_))))))
  refine Run.cond rfl (fun c1 => ?_) (fun c1 => ?_)
  · try simp only [Z] at c1
    obtain ⟨y, hy⟩ := get_some (xs := ys) (i := i) (by omega)
    obtain ⟨v, sv⟩ := y
    have hym := List.mem_of_getElem? hy
    obtain ⟨be, Te, pree, poste, hpe, hroe⟩ := hys.open1 (show 0 < ys.length by omega)
    obtain ⟨hf1, hf2, hf3, hf4⟩ := hF
    have hbl := buildV_len ys i
    refine sk' (sq' (bl' (sq' ?_)))
    refine Run.cut (fun e_ A => ∃ (b5 : Nat) (K2 : Hp) (V2 : VV) (zs2 : ZV), (Hp.le K K2 ∧ HasZ (gk K2) V2 zs2 ∧ zs2.length ≤ i + 1 ∧ (∀ r, vget (zs2.map (fun z : DD × ByteArray × EL => z.2)) r = vget (buildV (ys.take (i + 1))) r)) ∧ e_ = [(0, .slice ay ys.length cy), (2, .pointer (some ⟨b2, 0, none⟩)), (3, .pointer (some ⟨b3, 0, none⟩)), (4, .int .i64 (i : Nat)), (5, .pointer (some ⟨b5, 0, none⟩))] ∧ A = row b2 65 (cVV (⟨⟨none, 0, 0⟩⟩ : VV)) :: row b3 65 (cVV V) :: row b5 65 (cVV V2) :: Pool K2 :: F) (fun e A hM => ?_) (fun hk => ?_)
    · obtain ⟨b5, K2, V2, zs2, hF2, rfl, hA_⟩ := hM
      replace hA_ := hA_.symm; subst hA_
      refine rg' (lA' (cVV V2) rfl agg65 sz65 ?_)
      refine sW' (cVV V2) rfl rfl sz65 ?_
      refine nl' (ib' (rg' (mv' rfl ?_)))
      first | refine RunL.pure (Pure.addI rfl rfl (by omega)) (Wt.none rfl) rfl rfl ?_ | refine RunL.pure (Pure.add rfl rfl) (Wt.none rfl) rfl rfl ?_
      refine as' rfl (nl' ?_)
      refine kp' [0, 2, 3, 4] ?_
      exact ag' F ih (by exact ⟨i + 1, K2, V2, zs2, by omega, hF2, rfl, rfl, rfl⟩)
    · skip
      refine Run.regionD' (by kernel_rfl) (by kernel_rfl) (fun hok51 => ?_)
      refine ld' (row b3 65 _) Lends.row ?_; intro gl1 hlegl1 hl1 backgl1
      have hys_gl1 := hys.mono hlegl1
      have hroe_gl1 := hroe.mono hlegl1
      refine RunD.loadNR (vs := (cVV V)) (i := 0) hok51 rfl (by kernel_rfl) rfl (by assumption) agg65 sz65 (by first | exact Nat.le_of_ble_eq_true rfl | (simp; done) | (simp; omega)) rfl (Wt.none rfl) rfl ?_
      refine dp' 1 hok51 rfl (Pure.move rfl) (dp' 2 hok51 rfl (Pure.move rfl) ?_)
      refine dp' 3 hok51 rfl (Pure.indexAddr (opvSl rfl hpe) rfl und44 sz49 (by omega) (by omega)) ?_
      refine RunD.loadNR (vs := (cEvn ((v.evn sv)))) (i := 4) hok51 rfl (by kernel_rfl) rfl hroe_gl1 agg49 sz49 (elemN_len (pre := pree) (post := poste) (f := cES) (sz := 6) (j := 0) (n := 6) (fun _ _ => rfl) hy (by decide)) ((elemN_at (pre := pree) (post := poste) (f := cES) (sz := 6) (j := 0) (n := 6) (fun _ _ => rfl) hy (by decide)).trans rfl) (Wt.none rfl) rfl ?_
      refine RunD.two (i := 5) (j := 9) (by kernel_rfl) rfl rfl ?_ ?_
      · skip
        refine ca' rfl rfl (s := rAddV_ctr (e := v.evn sv) (ps := v.ps) hf2 (by omega) (by rw [hf4]; exact Nat.le_trans (hbl _) (by omega)) ((hYK.hp (G' := gk K1) hf1) _ hym) (hwf _ hym)) (q := ?_)
        rintro _ _ ⟨K2, V2, zs2, hg1, hg2, hg3, hg4, rfl, hA_⟩
        replace hA_ := hA_.symm; subst hA_
        rw [ev_evn] at hg3
        refine RunL.nilD' ?_
        refine dp' 6 hok51 rfl (Pure.move rfl) (dp' 7 hok51 rfl (Pure.extract rfl rfl) (dp' 8 hok51 rfl (Pure.extract rfl rfl) ?_))
        refine RunD.one (i := 9) (by kernel_rfl) rfl ?_
        · skip
          refine RunL.alloc zz65 (Wt.none rfl) rfl ?_; intro b5
          refine RunL.nilD' ?_
          refine RunD.one (i := 10) (by kernel_rfl) rfl ?_
          · skip
            refine sW' (cVV V2) rfl rfl sz65 ?_
            refine RunL.nilD' ?_
            refine dp' 11 hok51 rfl (Pure.assign rfl) ?_
            refine RunD.nilB (by kernel_rfl) (fun w sw => backgl1 _ _ (sw)) ?_
            refine kp' [0, 2, 3, 4, 5] ?_
            exact me' F hk (by exact ⟨b5, K2, V2, zs2, ⟨hf1.trans hg1, hg2, by omega, fun r => by rw [hg3 r, buildV_step hy, vadd_congr hf4]⟩, rfl, rfl⟩)
      · skip
        refine RunL.alloc zz65 (Wt.none rfl) rfl ?_; intro b5
        refine RunL.nilD' ?_
        refine RunD.one (i := 5) (by kernel_rfl) rfl ?_
        · skip
          refine ca' rfl rfl (s := rAddV_ctr (e := v.evn sv) (ps := v.ps) hf2 (by omega) (by rw [hf4]; exact Nat.le_trans (hbl _) (by omega)) ((hYK.hp (G' := gk K1) hf1) _ hym) (hwf _ hym)) (q := ?_)
          rintro _ _ ⟨K2, V2, zs2, hg1, hg2, hg3, hg4, rfl, hA_⟩
          replace hA_ := hA_.symm; subst hA_
          rw [ev_evn] at hg3
          refine RunL.nilD' ?_
          refine dp' 6 hok51 rfl (Pure.move rfl) (dp' 7 hok51 rfl (Pure.extract rfl rfl) (dp' 8 hok51 rfl (Pure.extract rfl rfl) ?_))
          refine RunD.one (i := 10) (by kernel_rfl) rfl ?_
          · skip
            refine sW' (cVV V2) rfl rfl sz65 ?_
            refine RunL.nilD' ?_
            refine dp' 11 hok51 rfl (Pure.assign rfl) ?_
            refine RunD.nilB (by kernel_rfl) (fun w sw => backgl1 _ _ (sw)) ?_
            refine kp' [0, 2, 3, 4, 5] ?_
            exact me' F hk (by exact ⟨b5, K2, V2, zs2, ⟨hf1.trans hg1, hg2, by omega, fun r => by rw [hg3 r, buildV_step hy, vadd_congr hf4]⟩, rfl, rfl⟩)
  · try simp only [Z] at c1
    obtain rfl : i = ys.length := by omega
    rw [List.take_length] at hF
    refine ex' rfl (sr' (lA' (cVV V) rfl agg65 sz65 ?_))
    refine sW' (cVV V) rfl rfl sz65 ?_
    refine nl' ?_
    exact rt' Tryz.func27 (resV1 rfl (Rv.cellN (us := (cVV V)) rfl (by first | ((repeat (first | (with_reducible exact F0 _) | apply F1)); done) | (repeat (first | exact F0 _ | apply F1))) agg65 sz65 (by first | exact Nat.le_of_ble_eq_true rfl | (simp; done) | (simp; omega)) rfl)) (by exact ⟨K1, V, zs, hF.1, hF.2.1, hF.2.2.1, hF.2.2.2, rfl, rfl⟩)

set_option maxHeartbeats 1000000 in
set_option maxRecDepth 100000 in
theorem rFold_ctr {G : Gp} {V : VV} {zs : ZV} (hZ : HasZ G V zs) (hzb : zs.length ≤ 1000) (hb2 : ∀ r, ((vget (zs.map (fun z : DD × ByteArray × EL => z.2))) r).length ≤ 1000) {ar : Option Addr} {cr : Nat} {rs : List Edu} (hr : SlR G 23 11 ar rs.length (rs.flatMap cEdu)) (hrn : rs.length ≤ 900) :
    Ctr Tryz.prog G 26 [.agg (cVV V).toArray, .slice ar rs.length cr] [] (fun F v A => ∃ am cm, v = .slice am (ML (foldR (vget (zs.map (fun z : DD × ByteArray × EL => z.2))) rs)).length cm ∧ A = Sl 117 6 am (ML (foldR (vget (zs.map (fun z : DD × ByteArray × EL => z.2))) rs)).length cm ((ML (foldR (vget (zs.map (fun z : DD × ByteArray × EL => z.2))) rs)).flatMap cM) :: F) := by
  refine Ctr.intro Tryz.func26 rfl (by kernel_rfl) rfl (fun F => ?_)
  simp only [List.nil_append]
  refine Run.nilSl 117 6 ?_
  refine sr' ?_
  refine RunL.boxA (xs := (cVV V)) rfl (Wt.none rfl) rfl ?_; intro b2
  refine as' rfl (nl' ?_)
  refine la' (row b2 65 _) Lends.row fun G2 hleG2 hrb2 => ?_
  replace hZ := hZ.mono hleG2
  replace hr := hr.mono hleG2
  refine sr' (as' rfl (nl' (sq' (sr' (as' rfl (nl' (bl' ?_)))))))
  refine kp' [1, 2, 5, 6] ?_
  refine lp' F (fun n e_ A => ∃ (i : Nat) (am : Option Addr) (cm : Nat), i ≤ rs.length ∧ n = rs.length - i ∧ e_ = [(1, .slice ar rs.length cr), (2, .pointer (some ⟨b2, 0, none⟩)), (5, .slice am (ML (foldR (vget (zs.map (fun z : DD × ByteArray × EL => z.2))) (rs.take i))).length cm), (6, .int .i64 (i : Nat))] ∧ A = Sl 117 6 am (ML ((foldR (vget (zs.map (fun z : DD × ByteArray × EL => z.2))) (rs.take i)))).length cm ((ML ((foldR (vget (zs.map (fun z : DD × ByteArray × EL => z.2))) (rs.take i)))).flatMap cM) :: F) (rs.length) (by exact ⟨0, none, 0, by omega, rfl, rfl, rfl⟩) ?_
  rintro n _ _ ⟨i, am, cm, hi, rfl, rfl, hA_⟩ ih
  replace hA_ := hA_.symm; subst hA_
  refine sq' (sr' (mv' rfl (mv' rfl (pp' (Pure.lenSl rfl rfl und25) (pp' (Pure.lss rfl rfl) (nl' ?_))))))
  refine Run.cond rfl (fun c1 => ?_) (fun c1 => ?_)
  · try simp only [Z] at c1
    obtain ⟨x, hx⟩ := get_some (xs := rs) (i := i) (by omega)
    obtain ⟨bx, Tx, prex, postx, hpx, hrox⟩ := hr.open1 (show 0 < rs.length by omega)
    obtain ⟨hk1, hk3⟩ := foldR_ok (W := (vget (zs.map (fun z : DD × ByteArray × EL => z.2)))) rs i
    refine sk' (sq' (bl' (sq' ?_)))
    refine Run.regionD' (by kernel_rfl) (by kernel_rfl) (fun hok35 => ?_)
    refine RunD.loadNR (vs := (cVV V)) (i := 0) hok35 rfl (by kernel_rfl) rfl (by assumption) agg65 sz65 (by first | exact Nat.le_of_ble_eq_true rfl | (simp; done) | (simp; omega)) rfl (Wt.none rfl) rfl ?_
    refine dp' 1 hok35 rfl (Pure.move rfl) (dp' 2 hok35 rfl (Pure.move rfl) ?_)
    refine dp' 3 hok35 rfl (Pure.indexAddr (opvSl rfl hpx) rfl und25 sz23 (by omega) (by omega)) ?_
    refine dp' 4 hok35 rfl (Pure.fieldAddr rfl fo23_1) ?_
    refine RunD.load1R (i := 5) hok35 rfl (by kernel_rfl) rfl hrox ((elem_at (pre := prex) (post := postx) (f := cEdu) (sz := 11) (j := 1) (fun _ _ => rfl) hx (by decide)).trans rfl) agg9 (Wt.none rfl) rfl ?_
    refine dp' 6 hok35 rfl (Pure.move rfl) (dp' 7 hok35 rfl (Pure.move rfl) ?_)
    refine dp' 8 hok35 rfl (Pure.indexAddr (opvSl rfl hpx) rfl und25 sz23 (by omega) (by omega)) ?_
    refine dp' 9 hok35 rfl (Pure.fieldAddr rfl fo23_3) ?_
    refine RunD.load1R (i := 10) hok35 rfl (by kernel_rfl) rfl hrox ((elem_at (pre := prex) (post := postx) (f := cEdu) (sz := 11) (j := 3) (fun _ _ => rfl) hx (by decide)).trans rfl) agg9 (Wt.none rfl) rfl ?_
    refine dp' 11 hok35 rfl (Pure.move rfl) (dp' 12 hok35 rfl (Pure.move rfl) ?_)
    refine dp' 13 hok35 rfl (Pure.indexAddr (opvSl rfl hpx) rfl und25 sz23 (by omega) (by omega)) ?_
    refine dp' 14 hok35 rfl (Pure.fieldAddr rfl fo23_4) ?_
    refine RunD.load1R (i := 15) hok35 rfl (by kernel_rfl) rfl hrox ((elem_at (pre := prex) (post := postx) (f := cEdu) (sz := 11) (j := 4) (fun _ _ => rfl) hx (by decide)).trans rfl) agg9 (Wt.none rfl) rfl ?_
    refine RunD.one (i := 16) (by kernel_rfl) rfl ?_
    refine ca' rfl rfl (s := rFitsV_ctr (room := x.room) (id := x.event) (thread := x.thread) hZ hzb (hb2 _)) (q := ?_)
    rintro _ _ ⟨rfl, hA_⟩
    replace hA_ := hA_.symm; subst hA_
    refine RunL.nilD' ?_
    refine dp' 17 hok35 rfl (Pure.assign rfl) ?_
    refine RunD.nilR (by kernel_rfl) ?_
    refine sr' (mv' rfl (pp' (Pure.eql rfl rfl) (nl' ?_)))
    refine Run.cond rfl (fun h4 => ?_) (fun h4 => ?_)
    · try simp only [Z] at h4
      refine sq' ?_
      refine Run.cut (fun e_ A => ∃ b8 : Nat, e_ = [(1, .slice ar rs.length cr), (2, .pointer (some ⟨b2, 0, none⟩)), (5, .slice am (ML (foldR (vget (zs.map (fun z : DD × ByteArray × EL => z.2))) (rs.take i))).length cm), (6, .int .i64 (i : Nat)), (8, .pointer (some ⟨b8, 0, none⟩))] ∧ A = row b8 69 (cPos (posAt ((vget (zs.map (fun z : DD × ByteArray × EL => z.2))) x.room) x.event)) :: Sl 117 6 am (ML ((foldR (vget (zs.map (fun z : DD × ByteArray × EL => z.2))) (rs.take i)))).length cm ((ML ((foldR (vget (zs.map (fun z : DD × ByteArray × EL => z.2))) (rs.take i)))).flatMap cM) :: F) (fun e A hM => ?_) (fun hk => ?_)
      · obtain ⟨b8, rfl, hA_⟩ := hM
        replace hA_ := hA_.symm; subst hA_
        refine sq' ?_
        refine Run.regionD' (by kernel_rfl) (by kernel_rfl) (fun hok70 => ?_)
        refine ld' (row b8 69 _) Lends.row ?_; intro gl1 hlegl1 hl1 backgl1
        have hZ_gl1 := hZ.mono hlegl1
        have hr_gl1 := hr.mono hlegl1
        have hrb2_gl1 := hrb2.mono hlegl1
        have hrox_gl1 := hrox.mono hlegl1
        refine dp' 0 hok70 rfl (Pure.move rfl) (dp' 1 hok70 rfl (Pure.move rfl) (dp' 2 hok70 rfl (Pure.move rfl) ?_))
        refine dp' 3 hok70 rfl (Pure.indexAddr (opvSl rfl hpx) rfl und25 sz23 (by omega) (by omega)) ?_
        refine RunD.loadNR (vs := (cEdu x)) (i := 4) hok70 rfl (by kernel_rfl) rfl hrox_gl1 agg23 sz23 (elemN_len (pre := prex) (post := postx) (f := cEdu) (sz := 11) (j := 0) (n := 11) (fun _ _ => rfl) hx (by decide)) ((elemN_at (pre := prex) (post := postx) (f := cEdu) (sz := 11) (j := 0) (n := 11) (fun _ _ => rfl) hx (by decide)).trans rfl) (Wt.none rfl) rfl ?_
        refine RunD.loadNR (vs := (cPos ((posAt ((vget (zs.map (fun z : DD × ByteArray × EL => z.2))) x.room) x.event)))) (i := 6) hok70 rfl (by kernel_rfl) rfl (by assumption) agg69 sz69 (by first | exact Nat.le_of_ble_eq_true rfl | (simp; done) | (simp; omega)) rfl (Wt.none rfl) rfl ?_
        refine RunD.one (i := 5) (by kernel_rfl) rfl ?_
        refine ca' rfl rfl (s := rOfM_ctr (e := x)) (q := ?_)
        rintro _ _ ⟨rfl, hA_⟩
        replace hA_ := hA_.symm; subst hA_
        refine RunL.nilD' ?_
        refine RunD.one (i := 7) (by kernel_rfl) rfl ?_
        refine ca' rfl rfl (s := rPut_ctr (k := kOf x) (q := (posAt ((vget (zs.map (fun z : DD × ByteArray × EL => z.2))) x.room) x.event)) hk1 (by omega)) (q := ?_)
        rintro _ _ ⟨a2, c2, rfl, hA_⟩
        replace hA_ := hA_.symm; subst hA_
        refine RunL.nilD' ?_
        refine dp' 8 hok70 rfl (Pure.move rfl) (dp' 9 hok70 rfl (Pure.extract rfl rfl) (dp' 10 hok70 rfl (Pure.extract rfl rfl) (dp' 11 hok70 rfl (Pure.assign rfl) (dp' 12 hok70 rfl (Pure.assign rfl) ?_))))
        refine RunD.nilB (by kernel_rfl) (fun w sw => backgl1 _ _ (sw)) ?_
        refine rg' (mv' rfl (as' rfl (nl' (ib' (rg' (mv' rfl ?_))))))
        first | refine RunL.pure (Pure.addI rfl rfl (by omega)) (Wt.none rfl) rfl rfl ?_ | refine RunL.pure (Pure.add rfl rfl) (Wt.none rfl) rfl rfl ?_
        refine as' rfl (nl' ?_)
        have hq : (foldR (vget (zs.map (fun z : DD × ByteArray × EL => z.2))) (rs.take (i + 1))) = tput (foldR (vget (zs.map (fun z : DD × ByteArray × EL => z.2))) (rs.take i)) (kOf x) (posAt ((vget (zs.map (fun z : DD × ByteArray × EL => z.2))) x.room) x.event) := by rw [foldR_succ hx, foldS, if_pos h4]
        rw [← hq]
        refine kp' [1, 2, 5, 6] ?_
        exact ag' F ih (by exact ⟨i + 1, a2, c2, by omega, rfl, rfl, rfl⟩)
      · skip
        refine Run.regionD' (by kernel_rfl) (by kernel_rfl) (fun hok114 => ?_)
        refine RunD.loadNR (vs := (cVV V)) (i := 0) hok114 rfl (by kernel_rfl) rfl (by assumption) agg65 sz65 (by first | exact Nat.le_of_ble_eq_true rfl | (simp; done) | (simp; omega)) rfl (Wt.none rfl) rfl ?_
        refine dp' 1 hok114 rfl (Pure.move rfl) (dp' 2 hok114 rfl (Pure.move rfl) ?_)
        refine dp' 3 hok114 rfl (Pure.indexAddr (opvSl rfl hpx) rfl und25 sz23 (by omega) (by omega)) ?_
        refine dp' 4 hok114 rfl (Pure.fieldAddr rfl fo23_1) ?_
        refine RunD.load1R (i := 5) hok114 rfl (by kernel_rfl) rfl hrox ((elem_at (pre := prex) (post := postx) (f := cEdu) (sz := 11) (j := 1) (fun _ _ => rfl) hx (by decide)).trans rfl) agg9 (Wt.none rfl) rfl ?_
        refine dp' 6 hok114 rfl (Pure.move rfl) (dp' 7 hok114 rfl (Pure.move rfl) ?_)
        refine dp' 8 hok114 rfl (Pure.indexAddr (opvSl rfl hpx) rfl und25 sz23 (by omega) (by omega)) ?_
        refine dp' 9 hok114 rfl (Pure.fieldAddr rfl fo23_3) ?_
        refine RunD.load1R (i := 10) hok114 rfl (by kernel_rfl) rfl hrox ((elem_at (pre := prex) (post := postx) (f := cEdu) (sz := 11) (j := 3) (fun _ _ => rfl) hx (by decide)).trans rfl) agg9 (Wt.none rfl) rfl ?_
        refine RunD.two (i := 11) (j := 15) (by kernel_rfl) rfl rfl ?_ ?_
        · skip
          refine ca' rfl rfl (s := rPositionV_ctr (room := x.room) (id := x.event) hZ hzb (hb2 _)) (q := ?_)
          rintro _ _ ⟨rfl, hA_⟩
          replace hA_ := hA_.symm; subst hA_
          refine RunL.nilD' ?_
          refine dp' 12 hok114 rfl (Pure.move rfl) (dp' 13 hok114 rfl (Pure.extract rfl rfl) (dp' 14 hok114 rfl (Pure.extract rfl rfl) ?_))
          refine RunD.one (i := 15) (by kernel_rfl) rfl ?_
          · skip
            refine RunL.alloc zz69 (Wt.none rfl) rfl ?_; intro b8
            refine RunL.nilD' ?_
            refine RunD.one (i := 16) (by kernel_rfl) rfl ?_
            · skip
              refine sW' (cPos ((posAt ((vget (zs.map (fun z : DD × ByteArray × EL => z.2))) x.room) x.event))) rfl rfl sz69 ?_
              refine RunL.nilD' ?_
              refine dp' 17 hok114 rfl (Pure.assign rfl) ?_
              refine RunD.nilR (by kernel_rfl) ?_
              refine kp' [1, 2, 5, 6, 8] ?_
              exact me' F hk (by exact ⟨b8, rfl, rfl⟩)
        · skip
          refine RunL.alloc zz69 (Wt.none rfl) rfl ?_; intro b8
          refine RunL.nilD' ?_
          refine RunD.one (i := 11) (by kernel_rfl) rfl ?_
          · skip
            refine ca' rfl rfl (s := rPositionV_ctr (room := x.room) (id := x.event) hZ hzb (hb2 _)) (q := ?_)
            rintro _ _ ⟨rfl, hA_⟩
            replace hA_ := hA_.symm; subst hA_
            refine RunL.nilD' ?_
            refine dp' 12 hok114 rfl (Pure.move rfl) (dp' 13 hok114 rfl (Pure.extract rfl rfl) (dp' 14 hok114 rfl (Pure.extract rfl rfl) ?_))
            refine RunD.one (i := 16) (by kernel_rfl) rfl ?_
            · skip
              refine sW' (cPos ((posAt ((vget (zs.map (fun z : DD × ByteArray × EL => z.2))) x.room) x.event))) rfl rfl sz69 ?_
              refine RunL.nilD' ?_
              refine dp' 17 hok114 rfl (Pure.assign rfl) ?_
              refine RunD.nilR (by kernel_rfl) ?_
              refine kp' [1, 2, 5, 6, 8] ?_
              exact me' F hk (by exact ⟨b8, rfl, rfl⟩)
    · try simp only [Z] at h4
      refine sk' (ib' (rg' (mv' rfl ?_)))
      first | refine RunL.pure (Pure.addI rfl rfl (by omega)) (Wt.none rfl) rfl rfl ?_ | refine RunL.pure (Pure.add rfl rfl) (Wt.none rfl) rfl rfl ?_
      refine as' rfl (nl' ?_)
      have hq : (foldR (vget (zs.map (fun z : DD × ByteArray × EL => z.2))) (rs.take (i + 1))) = (foldR (vget (zs.map (fun z : DD × ByteArray × EL => z.2))) (rs.take i)) := by rw [foldR_succ hx, foldS, if_neg h4]
      rw [← hq]
      refine kp' [1, 2, 5, 6] ?_
      exact ag' F ih (by exact ⟨i + 1, am, cm, by omega, rfl, rfl, rfl⟩)
  · try simp only [Z] at c1
    refine ex' rfl (sr' (mv' rfl (as' rfl (nl' ?_))))
    have hti : rs.take i = rs := List.take_of_length_le (by omega)
    rw [hti]
    exact rt' Tryz.func26 (res1 rfl rfl) (by exact ⟨am, cm, rfl, rfl⟩)

end Go.Proofs.YtaaondbmkibkkaaGreat
