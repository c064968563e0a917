/- Marks. -/
import Derived.Test.YtaaondbmkibkkaaGreatP3
set_option linter.unusedVariables false
set_option linter.unusedSimpArgs false
set_option linter.unusedSectionVars false
namespace Go.Proofs.YtaaondbmkibkkaaGreat
open Go Csl
theorem pl60 : placesOf Tryz.prog 60 = some ([(0, 1), (1, 1)], (.agg #[(.pointer none), (.pointer none)])) := by kernel_rfl
theorem pl34 : placesOf Tryz.prog 34 = some ([(0, 1), (1, 1), (2, 1), (3, 1)], (.agg #[(.string .empty), (.string .empty), (.string .empty), (.bool false)])) := by kernel_rfl
theorem zz33 : zeroIs Tryz.prog 33 = some (.agg #[(.string .empty), (.string .empty), (.string .empty), (.bool false)]) := by kernel_rfl
theorem pl33 : placesOf Tryz.prog 33 = some ([(0, 1), (1, 1), (2, 1), (3, 1)], (.agg #[(.string .empty), (.string .empty), (.string .empty), (.bool false)])) := by kernel_rfl
theorem fo60_1 : fieldOff Tryz.prog 60 1 = some 1 := by kernel_rfl
theorem agg58 : isAggOf Tryz.prog 58 = some false := by kernel_rfl
theorem fo60_0 : fieldOff Tryz.prog 60 0 = some 0 := by kernel_rfl
theorem agg57 : isAggOf Tryz.prog 57 = some false := by kernel_rfl

namespace Csl
structure MS where
  tl : List (K × Pos)
  es : List Edu
  lost : Int
def kOf (e : Edu) : K := ⟨e.room, e.user, e.thread, e.priv⟩
abbrev VG := ByteArray → EL
/-- What is put: the marks, whether a mark went on, and what is told. -/
def mPut (most : Int) (vg : VG) (s : MS) (e : Edu) : MS × Bool × Int :=
  if e.kind = 1 ∧ eduLocal e = true then
    if fitsI (vg e.room) e.event e.thread = 4 then (⟨s.tl, pputL most s.es e, pputN most s.es e s.lost⟩, false, 0)
    else if fitsI (vg e.room) e.event e.thread = 0 then (⟨tput s.tl (kOf e) (posAt (vg e.room) e.event), s.es, s.lost⟩, adopts s.tl (kOf e) (posAt (vg e.room) e.event), 0)
    else (s, false, fitsI (vg e.room) e.event e.thread)
  else (s, false, 1)
section
variable {most : Int} {vg : VG} {s : MS} {e : Edu}
theorem mPut_arg (h : ¬ (e.kind = 1 ∧ eduLocal e = true)) : mPut most vg s e = (s, false, 1) := if_neg h
theorem mPut_park (h : e.kind = 1 ∧ eduLocal e = true) (q : fitsI (vg e.room) e.event e.thread = 4) : mPut most vg s e = (⟨s.tl, pputL most s.es e, pputN most s.es e s.lost⟩, false, 0) := by unfold mPut; rw [if_pos h, if_pos q]
theorem mPut_in (h : e.kind = 1 ∧ eduLocal e = true) (q : fitsI (vg e.room) e.event e.thread = 0) : mPut most vg s e = (⟨tput s.tl (kOf e) (posAt (vg e.room) e.event), s.es, s.lost⟩, adopts s.tl (kOf e) (posAt (vg e.room) e.event), 0) := by unfold mPut; rw [if_pos h, if_neg (by rw [q]; decide), if_pos q]
theorem mPut_bad (h : e.kind = 1 ∧ eduLocal e = true) (q : fitsI (vg e.room) e.event e.thread ≠ 4) (q0 : fitsI (vg e.room) e.event e.thread ≠ 0) : mPut most vg s e = (s, false, fitsI (vg e.room) e.event e.thread) := by unfold mPut; rw [if_pos h, if_neg q, if_neg q0]
theorem pputL_len {most : Int} {es : List Edu} {e : Edu} : (pputL most es e).length ≤ es.length + 1 := by
  unfold pputL; split
  · omega
  · split
    · simp
    · simp
theorem pputL_mem {most : Int} {es : List Edu} {e x : Edu} (h : x ∈ pputL most es e) : x ∈ es ∨ x = e := by
  unfold pputL at h; split at h
  · exact .inl h
  · split at h
    · simpa using h
    · have := List.mem_of_mem_drop h; simpa using this
theorem pputN_le {most : Int} {es : List Edu} {e : Edu} {n : Int} : n ≤ pputN most es e n ∧ pputN most es e n ≤ n + 1 := by
  unfold pputN; split
  · omega
  · split <;> omega
def MS.small (s : MS) : Prop := ∀ e ∈ s.es, eduSmall e
def MS.ok (s : MS) (n : Nat) : Prop := KN s.tl ∧ s.tl.length ≤ n ∧ s.es.length ≤ n ∧ s.small ∧ 0 ≤ s.lost ∧ s.lost ≤ n
theorem MS.ok0 (n : Nat) : MS.ok ⟨[], [], 0⟩ n := ⟨List.nodup_nil, Nat.zero_le _, Nat.zero_le _, (fun e h => by cases h), by show (0 : Int) ≤ 0; omega, by show (0 : Int) ≤ _; omega⟩
theorem mPut_ok {n : Nat} (h : s.ok n) (hs : eduSmall e) : (mPut most vg s e).1.ok (n + 1) := by
  obtain ⟨h1, h2, h3, h4, h5, h6⟩ := h
  by_cases hk : e.kind = 1 ∧ eduLocal e = true
  · by_cases q : fitsI (vg e.room) e.event e.thread = 4
    · rw [mPut_park hk q]
      have hp := pputN_le (most := most) (es := s.es) (e := e) (n := s.lost)
      have hq := pputL_len (most := most) (es := s.es) (e := e)
      refine ⟨h1, by show s.tl.length ≤ _; omega, by show (pputL most s.es e).length ≤ _; omega, fun x hx => ?_, by show 0 ≤ pputN most s.es e s.lost; omega, by show pputN most s.es e s.lost ≤ _; omega⟩
      rcases pputL_mem hx with hx | rfl
      · exact h4 x hx
      · exact hs
    · by_cases q0 : fitsI (vg e.room) e.event e.thread = 0
      · rw [mPut_in hk q0]
        have hl := tput_len (l := s.tl) (k := kOf e) (q := posAt (vg e.room) e.event)
        exact ⟨h1.tput, by show (tput s.tl _ _).length ≤ _; omega, by show s.es.length ≤ _; omega, h4, h5, by show s.lost ≤ _; omega⟩
      · rw [mPut_bad hk q q0]; exact ⟨h1, by show s.tl.length ≤ _; omega, by show s.es.length ≤ _; omega, h4, h5, by show s.lost ≤ _; omega⟩
  · rw [mPut_arg hk]; exact ⟨h1, by show s.tl.length ≤ _; omega, by show s.es.length ≤ _; omega, h4, h5, by show s.lost ≤ _; omega⟩
theorem MS.ok.mono {n m : Nat} (h : s.ok n) (q : n ≤ m) : s.ok m := ⟨h.1, Nat.le_trans h.2.1 q, Nat.le_trans h.2.2.1 q, h.2.2.2.1, h.2.2.2.2.1, by have := h.2.2.2.2.2; omega⟩
end
/-- What waited, put. -/
def arrS (most : Int) (vg : VG) (q : MS × List K) (e : Edu) : MS × List K := ((mPut most vg q.1 e).1, if (mPut most vg q.1 e).2.1 = true ∧ kOf e ∉ q.2 then q.2 ++ [kOf e] else q.2)
def mTake (s : MS) (room event : ByteArray) : MS := ⟨s.tl, s.es.filter (fun y => !takesB room event y), s.lost⟩
def arrF (most : Int) (vg : VG) (s : MS) (l : List Edu) : MS × List K := l.foldl (arrS most vg) (s, [])
def mArr (most : Int) (vg : VG) (s : MS) (room event : ByteArray) : MS × List K := if (vg room).has event = true then arrF most vg (mTake s room event) (s.es.filter (takesB room event)) else (s, [])
section
variable {most : Int} {vg : VG} {s : MS} {e : Edu} {room event : ByteArray} {n : Nat}
theorem arrF_succ {l : List Edu} {i : Nat} (h : l[i]? = some e) : arrF most vg s (l.take (i + 1)) = arrS most vg (arrF most vg s (l.take i)) e := by
  unfold arrF; rw [List.take_add_one, h, List.foldl_append]; rfl
theorem arrF_ok {l : List Edu} (h : s.ok n) (hs : ∀ e ∈ l, eduSmall e) : ∀ i, i ≤ l.length → (arrF most vg s (l.take i)).1.ok (n + i) ∧ (arrF most vg s (l.take i)).2.length ≤ i
  | 0, _ => ⟨h, Nat.zero_le _⟩
  | i + 1, hi => by
    obtain ⟨e, he⟩ := get_some (xs := l) (i := i) (by omega)
    obtain ⟨h1, h2⟩ := arrF_ok h hs i (by omega)
    rw [arrF_succ he]
    refine ⟨mPut_ok h1 (hs e (List.mem_of_getElem? he)), ?_⟩
    unfold arrS; dsimp only; split
    · simp; omega
    · omega
theorem mArr_yes (h : (vg room).has event = true) : mArr most vg s room event = arrF most vg (mTake s room event) (s.es.filter (takesB room event)) := by unfold mArr; rw [if_pos h]
theorem mArr_no (h : (vg room).has event = false) : mArr most vg s room event = (s, []) := by unfold mArr; rw [if_neg (by rw [h]; decide)]
theorem has_more {l : List K} {k : Nat} {x : K} (h : x ∈ l.take k) : true = decide (x ∈ l.take (k + 1)) := by
  rw [decide_eq_true]; rw [List.take_add_one]; exact List.mem_append_left _ h
theorem has_succ {l : List K} {k : Nat} {x y : K} (h : l[k]? = some y) (hn : ¬ x ∈ l.take k) : decide (y = x) = decide (x ∈ l.take (k + 1)) := by
  rw [List.take_add_one, h]
  refine decide_eq_decide.2 ⟨fun q => by simp [q], fun q => ?_⟩
  rcases List.mem_append.1 q with q | q
  · exact absurd q hn
  · simpa [eq_comm] using q
theorem mTake_ok (h : s.ok n) : (mTake s room event).ok n := ⟨h.1, h.2.1, Nat.le_trans (List.length_filter_le _ _) h.2.2.1, fun e he => h.2.2.2.1 e (List.mem_filter.1 he).1, h.2.2.2.2.1, h.2.2.2.2.2⟩
theorem mArr_ok (h : s.ok n) : (mArr most vg s room event).1.ok (n + n) ∧ (mArr most vg s room event).2.length ≤ n := by
  unfold mArr; split
  · have h1 := arrF_ok (most := most) (vg := vg) (s := mTake s room event) (l := s.es.filter (takesB room event)) (mTake_ok h) (fun e he => h.2.2.2.1 e (List.mem_filter.1 he).1) _ (Nat.le_refl _)
    rw [List.take_length] at h1
    have h2 := Nat.le_trans (List.length_filter_le (takesB room event) s.es) h.2.2.1
    exact ⟨h1.1.mono (by omega), by omega⟩
  · exact ⟨h.mono (by omega), Nat.zero_le _⟩
end
/-- A receipt that waits. -/
def waitsE (e : Edu) : Edu := { goodE { e with kind := 0 } with event := eventOf e.stamp }
def evsL (xa xb : List GX) : EL := madeL ⟨#[33, 114, 58, 115, 49]⟩ xa ++ madeL ⟨#[33, 113, 58, 115, 50]⟩ xb
/-- Marks as a server keeps them. -/
def Mk (p : Nat) (most : Int) (s : MS) : HProp := Ex (fun _ : Nat × Nat => True) (fun x => [row p 60 [.pointer (some ⟨x.1, 0, none⟩), .pointer (some ⟨x.2, 0, none⟩)], Tb x.1 s.tl, Pk x.2 most s.es s.lost])
section
variable {c : Cx} {G : Gp} {ops : Array Oper} {kk : KT} {e : Env} {A A' : List HProp} {lo : List Oper} {st : List Item} {p pt pp : Nat} {most : Int} {s : MS}
theorem Run.openMk (hf : Find (Mk p most s) A A') (next : ∀ pt pp, Run c G st e (row p 60 [.pointer (some ⟨pt, 0, none⟩), .pointer (some ⟨pp, 0, none⟩)] :: Tb pt s.tl :: Pk pp most s.es s.lost :: A')) : Run c G st e A := Run.openEx hf fun x _ => next x.1 x.2
theorem RunL.openMk (hf : Find (Mk p most s) A A') (next : ∀ pt pp, RunL c G ops lo kk e (row p 60 [.pointer (some ⟨pt, 0, none⟩), .pointer (some ⟨pp, 0, none⟩)] :: Tb pt s.tl :: Pk pp most s.es s.lost :: A')) : RunL c G ops lo kk e A := RunL.openEx hf fun x _ => next x.1 x.2
theorem Run.mkMk (s : MS) (ht : Take [row p 60 [.pointer (some ⟨pt, 0, none⟩), .pointer (some ⟨pp, 0, none⟩)], Tb pt s.tl, Pk pp most s.es s.lost] A A') (next : Run c G st e (Mk p most s :: A')) : Run c G st e A := Run.mkEx (pt, pp) ht trivial next
theorem RunL.mkMk (s : MS) (ht : Take [row p 60 [.pointer (some ⟨pt, 0, none⟩), .pointer (some ⟨pp, 0, none⟩)], Tb pt s.tl, Pk pp most s.es s.lost] A A') (next : RunL c G ops lo kk e (Mk p most s :: A')) : RunL c G ops lo kk e A := RunL.mkEx (pt, pp) ht trivial next
end
/-- The reference's marks. -/
def sS (la : Option Addr) (lc : Nat) (pa : Option Addr) (pc : Nat) (most : Int) (s : MS) : SS := ⟨⟨la, (ML s.tl).length, lc⟩, ⟨most, ⟨pa, s.es.length, pc⟩, s.lost⟩⟩
end Csl

set_option maxHeartbeats 1000000 in
set_option maxRecDepth 100000 in
theorem NewM_ctr {G : Gp} {z : Int} :
    Ctr Tryz.prog G 10 [.int .i64 z] [] (fun F v A => (z < 1 ∨ 1000 < z) ∧ v = .tuple #[.pointer none, .int .i64 1] ∧ A = F ∨ (1 ≤ z ∧ z ≤ 1000) ∧ ∃ pm, v = .tuple #[.pointer (some ⟨pm, 0, none⟩), .int .i64 0] ∧ A = Mk pm z ⟨[], [], 0⟩ :: F) := by
  refine Ctr.intro Tryz.func10 rfl (by kernel_rfl) rfl (fun F => ?_)
  simp only [List.nil_append]
  refine sr' (as' rfl (as' rfl (nl' (sr' (mv' rfl ?_)))))
  refine ca' rfl rfl (s := NewP_ctr (z := z)) (q := ?_)
  rintro _ _ hN
  rcases hN with ⟨hz, rfl, hA_⟩ | ⟨hz, pp, rfl, hA_⟩
  · skip
    replace hA_ := hA_.symm; subst hA_
    refine mv' rfl (pp' (Pure.extract rfl rfl) (pp' (Pure.extract rfl rfl) (as' rfl (as' rfl (nl' (sq' (sr' (mv' rfl (pp' (Pure.neq rfl rfl) (nl' ?_))))))))))
    refine Run.cond rfl (fun hc1 => ?_) (fun hc1 => ?_)
    rotate_left
    · try simp only [Z] at hc1
      exfalso
      first | exact hc1 rfl | exact hc1 trivial | (simp at hc1; done)
    try simp only [Z] at hc1
    refine sr' (mv' rfl (as' rfl (as' rfl (nl' ?_))))
    exact rt' Tryz.func10 (res2 rfl rfl rfl) (by exact (.inl ⟨hz, rfl, rfl⟩))
  · skip
    replace hA_ := hA_.symm; subst hA_
    refine mv' rfl (pp' (Pure.extract rfl rfl) (pp' (Pure.extract rfl rfl) (as' rfl (as' rfl (nl' (sq' (sr' (mv' rfl (pp' (Pure.neq rfl rfl) (nl' ?_))))))))))
    refine Run.cond rfl (fun hc2 => ?_) (fun hc2 => ?_)
    · try simp only [Z] at hc2
      exfalso
      first | exact hc2 rfl | exact hc2 trivial | (simp at hc2; done)
    try simp only [Z] at hc2
    refine sk' (sr' ?_)
    refine ca' rfl rfl (s := NewT_ctr) (q := ?_)
    rintro _ _ ⟨pt, rfl, hA_⟩
    replace hA_ := hA_.symm; subst hA_
    refine mv' rfl (pp' (Pure.buildL (ps := [(0, _), (1, _)]) (zs := [(.pointer none), (.pointer none)]) (xs := [_, _]) pl60 rfl rfl rfl rfl) ?_)
    refine RunL.box rfl (Wt.none rfl) rfl ?_; intro b17
    refine as' rfl (as' rfl (nl' ?_))
    refine Run.mkMk (⟨[], [], 0⟩) (by repeat (first | (with_reducible exact Take.nil _) | (apply Take.cons (by first | ((repeat (first | (with_reducible exact F0 _) | apply F1)); done) | (repeat (first | exact F0 _ | apply F1)))))) ?_
    exact rt' Tryz.func10 (res2 rfl rfl rfl) (by exact (.inr ⟨hz, _, rfl, rfl⟩))

set_option maxHeartbeats 1000000 in
set_option maxRecDepth 100000 in
theorem OfM_ctr {G : Gp} {e : Edu} :
    Ctr Tryz.prog G 12 [.agg (cEdu e).toArray] [] (fun F v A => v = .agg (cK (kOf e)).toArray ∧ A = F) := by
  refine Ctr.intro Tryz.func12 rfl (by kernel_rfl) rfl (fun F => ?_)
  simp only [List.nil_append]
  refine sr' ?_
  refine RunL.boxA (xs := (cEdu e)) rfl (Wt.none rfl) rfl ?_; intro b1
  refine RunL.alloc zz34 (Wt.none rfl) rfl ?_; intro b2
  refine nl' ?_
  refine la' (row b1 23 _) Lends.row fun G1 hleG1 hrb1 => ?_
  refine sr' (pp' (Pure.fieldAddr rfl fo23_1) (l1' rfl agg9 ?_))
  refine pp' (Pure.fieldAddr rfl fo23_2) (l1' rfl agg9 ?_)
  refine pp' (Pure.fieldAddr rfl fo23_4) (l1' rfl agg9 ?_)
  refine pp' (Pure.fieldAddr rfl fo23_5) (l1' rfl agg4 ?_)
  refine pp' (Pure.buildL (ps := [(0, _), (1, _), (2, _), (3, _)]) (zs := [(.string .empty), (.string .empty), (.string .empty), (.bool false)]) (xs := (cK ((kOf e)))) pl34 rfl rfl rfl rfl) (sW' (cK ((kOf e))) rfl rfl sz34 ?_)
  refine nl' ?_
  exact rt' Tryz.func12 (resV1 rfl (Rv.cellN (us := (cK ((kOf e)))) rfl (by first | ((repeat (first | (with_reducible exact F0 _) | apply F1)); done) | (repeat (first | exact F0 _ | apply F1))) agg34 sz34 (by first | exact Nat.le_of_ble_eq_true rfl | (simp; done) | (simp; omega)) rfl)) (by exact ⟨rfl, rfl⟩)

set_option maxHeartbeats 1000000 in
set_option maxRecDepth 100000 in
theorem rOfM_ctr {G : Gp} {e : Edu} :
    Ctr Tryz.prog G 13 [.agg (cEdu e).toArray] [] (fun F v A => v = .agg (cK (kOf e)).toArray ∧ A = F) := by
  refine Ctr.intro Tryz.func13 rfl (by kernel_rfl) rfl (fun F => ?_)
  simp only [List.nil_append]
  refine sr' ?_
  refine RunL.boxA (xs := (cEdu e)) rfl (Wt.none rfl) rfl ?_; intro b1
  refine RunL.alloc zz33 (Wt.none rfl) rfl ?_; intro b2
  refine nl' ?_
  refine la' (row b1 23 _) Lends.row fun G1 hleG1 hrb1 => ?_
  refine sr' (pp' (Pure.fieldAddr rfl fo23_1) (l1' rfl agg9 ?_))
  refine pp' (Pure.fieldAddr rfl fo23_2) (l1' rfl agg9 ?_)
  refine pp' (Pure.fieldAddr rfl fo23_4) (l1' rfl agg9 ?_)
  refine pp' (Pure.fieldAddr rfl fo23_5) (l1' rfl agg4 ?_)
  refine pp' (Pure.buildL (ps := [(0, _), (1, _), (2, _), (3, _)]) (zs := [(.string .empty), (.string .empty), (.string .empty), (.bool false)]) (xs := (cK ((kOf e)))) pl33 rfl rfl rfl rfl) (sW' (cK ((kOf e))) rfl rfl sz33 ?_)
  refine nl' ?_
  exact rt' Tryz.func13 (resV1 rfl (Rv.cellN (us := (cK ((kOf e)))) rfl (by first | ((repeat (first | (with_reducible exact F0 _) | apply F1)); done) | (repeat (first | exact F0 _ | apply F1))) agg33 sz33 (by first | exact Nat.le_of_ble_eq_true rfl | (simp; done) | (simp; omega)) rfl)) (by exact ⟨rfl, rfl⟩)

set_option maxHeartbeats 1000000 in
set_option maxRecDepth 100000 in
theorem WaitsM_ctr {G : Gp} {pm : Nat} {most : Int} {s : MS} (hb : s.es.length ≤ 1000000) :
    Ctr Tryz.prog G 14 [.pointer (some ⟨pm, 0, none⟩)] [Mk pm most s] (fun F v A => ∃ a c, v = .slice a s.es.length c ∧ A = Sl 23 11 a (s.es).length c ((s.es).flatMap cEdu) :: Mk pm most s :: F) := by
  refine Ctr.intro Tryz.func14 rfl (by kernel_rfl) rfl (fun F => ?_)
  simp only [List.cons_append, List.nil_append]
  refine Run.openMk (by first | ((repeat (first | (with_reducible exact F0 _) | apply F1)); done) | (repeat (first | exact F0 _ | apply F1))) ?_; intro pt pp
  refine sr' (as' rfl (nl' (sr' (mv' rfl (pp' (Pure.nilCheck rfl) (pp' (Pure.fieldAddr rfl fo60_1) (l1' rfl agg58 ?_)))))))
  refine ca' rfl rfl (s := AllP_ctr hb) (q := ?_)
  rintro _ _ ⟨za, zc, rfl, hA_⟩
  replace hA_ := hA_.symm; subst hA_
  refine as' rfl (nl' ?_)
  refine Run.mkMk (s) (by repeat (first | (with_reducible exact Take.nil _) | (apply Take.cons (by first | ((repeat (first | (with_reducible exact F0 _) | apply F1)); done) | (repeat (first | exact F0 _ | apply F1)))))) ?_
  exact rt' Tryz.func14 (res1 rfl rfl) (by exact ⟨za, zc, rfl, rfl⟩)

set_option maxHeartbeats 1000000 in
set_option maxRecDepth 100000 in
theorem LostM_ctr {G : Gp} {pm : Nat} {most : Int} {s : MS} :
    Ctr Tryz.prog G 23 [.pointer (some ⟨pm, 0, none⟩)] [Mk pm most s] (fun F v A => v = .int .i64 s.lost ∧ A = Mk pm most s :: F) := by
  refine Ctr.intro Tryz.func23 rfl (by kernel_rfl) rfl (fun F => ?_)
  simp only [List.cons_append, List.nil_append]
  refine Run.openMk (by first | ((repeat (first | (with_reducible exact F0 _) | apply F1)); done) | (repeat (first | exact F0 _ | apply F1))) ?_; intro pt pp
  refine sr' (as' rfl (nl' (sr' (mv' rfl (pp' (Pure.nilCheck rfl) (pp' (Pure.fieldAddr rfl fo60_1) (l1' rfl agg58 ?_)))))))
  refine ca' rfl rfl (s := LostP_ctr) (q := ?_)
  rintro _ _ ⟨rfl, hA_⟩
  replace hA_ := hA_.symm; subst hA_
  refine as' rfl (nl' ?_)
  refine Run.mkMk (s) (by repeat (first | (with_reducible exact Take.nil _) | (apply Take.cons (by first | ((repeat (first | (with_reducible exact F0 _) | apply F1)); done) | (repeat (first | exact F0 _ | apply F1)))))) ?_
  exact rt' Tryz.func23 (res1 rfl rfl) (by exact ⟨rfl, rfl⟩)

set_option maxHeartbeats 1000000 in
set_option maxRecDepth 100000 in
theorem PutM_ctr {G : Gp} {pm : Nat} {most : Int} {s : MS} {pv : Nat} {vl : VL} {e : Edu} (h : VwR G pv vl) (hs : eduSmall e) (hb : s.es.length ≤ 100000) (hl : -1000000 ≤ s.lost ∧ s.lost ≤ 1000000) :
    Ctr Tryz.prog G 16 [.pointer (some ⟨pm, 0, none⟩), .pointer (some ⟨pv, 0, none⟩), .agg (cEdu e).toArray] [Mk pm most s] (fun F v A => v = .tuple #[.bool (mPut most (vget vl) s e).2.1, .int .i64 (mPut most (vget vl) s e).2.2] ∧ A = Mk pm most (mPut most (vget vl) s e).1 :: F) := by
  refine Ctr.intro Tryz.func16 rfl (by kernel_rfl) rfl (fun F => ?_)
  simp only [List.cons_append, List.nil_append]
  refine Run.openMk (by first | ((repeat (first | (with_reducible exact F0 _) | apply F1)); done) | (repeat (first | exact F0 _ | apply F1))) ?_; intro pt pp
  refine sr' ?_
  refine RunL.boxA (xs := (cEdu e)) rfl (Wt.none rfl) rfl ?_; intro b5
  refine as' rfl (as' rfl (nl' ?_))
  refine la' (row b5 23 _) Lends.row fun G5 hleG5 hrb5 => ?_
  replace h := h.mono hleG5
  refine sq' (sr' (pp' (Pure.fieldAddr rfl fo23_0) (l1' rfl agg3 ?_)))
  refine pp' (Pure.neq rfl rfl) (mv' rfl ?_)
  refine RunL.split (d := 14) rfl (fun h1 => ?_) (fun h1 => ?_)
  · try simp only [Z] at h1
    refine no' (no' (no' (pp' (Pure.pickT rfl rfl) (nl' (cT' (sr' (as' rfl (as' rfl (nl' ?_)))))))))
    refine Run.mkMk (s) (by repeat (first | (with_reducible exact Take.nil _) | (apply Take.cons (by first | ((repeat (first | (with_reducible exact F0 _) | apply F1)); done) | (repeat (first | exact F0 _ | apply F1)))))) ?_
    exact rt' Tryz.func16 (res2 rfl rfl rfl) (by exact ⟨by rw [mPut_arg (fun q => h1 q.1)], by rw [mPut_arg (fun q => h1 q.1)]⟩)
  · try simp only [Z] at h1
    refine lA' (cEdu e) rfl agg23 sz23 ?_
    refine ca' rfl rfl (s := Local_ctr (e := e) hs) (q := ?_)
    rintro _ _ ⟨rfl, hA_⟩
    replace hA_ := hA_.symm; subst hA_
    refine py' (Pure.not rfl) (pp' (Pure.pickF rfl rfl) (nl' ?_))
    refine Run.cond rfl (fun h2 => ?_) (fun h2 => ?_)
    · try simp only [Z] at h2
      refine sr' (as' rfl (as' rfl (nl' ?_)))
      refine Run.mkMk (s) (by repeat (first | (with_reducible exact Take.nil _) | (apply Take.cons (by first | ((repeat (first | (with_reducible exact F0 _) | apply F1)); done) | (repeat (first | exact F0 _ | apply F1)))))) ?_
      exact rt' Tryz.func16 (res2 rfl rfl rfl) (by exact ⟨by rw [mPut_arg (fun q => by simp_all)], by rw [mPut_arg (fun q => by simp_all)]⟩)
    · try simp only [Z] at h2
      have hk : e.kind = 1 ∧ eduLocal e = true := by simp_all
      refine sk' (sq' (sr' (mv' rfl (pp' (Pure.fieldAddr rfl fo23_1) (l1' rfl agg9 ?_)))))
      refine pp' (Pure.fieldAddr rfl fo23_3) (l1' rfl agg9 ?_)
      refine pp' (Pure.fieldAddr rfl fo23_4) (l1' rfl agg9 ?_)
      refine ca' rfl rfl (s := FitsV_ctr (room := e.room) (id := e.event) (thread := e.thread) h) (q := ?_)
      rintro _ _ ⟨rfl, hA_⟩
      replace hA_ := hA_.symm; subst hA_
      refine as' rfl (nl' (sr' (mv' rfl (nl' (bl' (sr' (pp' (Pure.eql rfl rfl) (as' rfl (nl' ?_)))))))))
      refine Run.cond rfl (fun h4 => ?_) (fun h4 => ?_)
      · try simp only [Z] at h4
        have he := mPut_park (most := most) (vg := vget vl) (s := s) hk h4
        refine sq' ?_
        refine Run.regionD' (by kernel_rfl) (by kernel_rfl) (fun hok72 => ?_)
        refine ld' (row pm 60 _) Lends.row ?_; intro gm hlegm hgm backgm
        have h_gm := h.mono hlegm
        have hrb5_gm := hrb5.mono hlegm
        refine dp' 0 hok72 rfl (Pure.move rfl) (dp' 1 hok72 rfl (Pure.nilCheck rfl) (dp' 2 hok72 rfl (Pure.fieldAddr rfl fo60_1) (dl' 3 hok72 rfl rfl agg58 ?_)))
        refine RunD.loadNR (vs := (cEdu e)) (i := 4) hok72 rfl (by kernel_rfl) rfl (by assumption) agg23 sz23 (by first | exact Nat.le_of_ble_eq_true rfl | (simp; done) | (simp; omega)) rfl (Wt.none rfl) rfl ?_
        refine RunD.one (i := 5) (by kernel_rfl) rfl ?_
        refine ca' rfl rfl (s := PutP_ctr (e := e) hb hl) (q := ?_)
        rintro _ _ ⟨u, b, rfl, hA_⟩
        replace hA_ := hA_.symm; subst hA_
        refine RunL.nilD' ?_
        refine RunD.nilB (by kernel_rfl) (fun w sw => backgm _ _ (sw)) ?_
        refine sr' (as' rfl (as' rfl (nl' ?_)))
        refine Run.mkMk (⟨s.tl, pputL most s.es e, pputN most s.es e s.lost⟩) (by repeat (first | (with_reducible exact Take.nil _) | (apply Take.cons (by first | ((repeat (first | (with_reducible exact F0 _) | apply F1)); done) | (repeat (first | exact F0 _ | apply F1)))))) ?_
        exact rt' Tryz.func16 (res2 rfl rfl rfl) (by exact ⟨by rw [he], by rw [he]⟩)
      · try simp only [Z] at h4
        refine sr' (pp' (Pure.eql rfl rfl) (as' rfl (nl' ?_)))
        refine Run.cond rfl (fun h0 => ?_) (fun h0 => ?_)
        · try simp only [Z] at h0
          have he := mPut_in (most := most) (vg := vget vl) (s := s) hk h0
          refine sk' (ib' (sr' (mv' rfl (pp' (Pure.fieldAddr rfl fo23_1) (l1' rfl agg9 ?_)))))
          refine pp' (Pure.fieldAddr rfl fo23_3) (l1' rfl agg9 ?_)
          refine ca' rfl rfl (s := PositionV_ctr (room := e.room) (id := e.event) h) (q := ?_)
          rintro _ _ ⟨rfl, hA_⟩
          replace hA_ := hA_.symm; subst hA_
          refine mv' rfl (pp' (Pure.extract rfl rfl) (pp' (Pure.extract rfl rfl) ?_))
          refine RunL.alloc zz69 (Wt.none rfl) rfl ?_; intro b9
          refine sW' (cPos ((posAt (vget vl e.room) e.event))) rfl rfl sz69 ?_
          refine as' rfl (nl' (sq' ?_))
          refine Run.regionD' (by kernel_rfl) (by kernel_rfl) (fun hok120 => ?_)
          refine ld' (row b9 69 _) Lends.row ?_; intro gl1 hlegl1 hl1 backgl1
          have h_gl1 := h.mono hlegl1
          have hrb5_gl1 := hrb5.mono hlegl1
          refine ld' (row pm 60 _) Lends.row ?_; intro gm hlegm hgm backgm
          try (replace hl1 := hl1.mono hlegm)
          have h_gm := h_gl1.mono hlegm
          have hrb5_gm := hrb5_gl1.mono hlegm
          refine dp' 0 hok120 rfl (Pure.move rfl) (dp' 1 hok120 rfl (Pure.nilCheck rfl) (dp' 2 hok120 rfl (Pure.fieldAddr rfl fo60_0) (dl' 3 hok120 rfl rfl agg57 ?_)))
          refine RunD.loadNR (vs := (cEdu e)) (i := 4) hok120 rfl (by kernel_rfl) rfl (by assumption) agg23 sz23 (by first | exact Nat.le_of_ble_eq_true rfl | (simp; done) | (simp; omega)) rfl (Wt.none rfl) rfl ?_
          refine RunD.loadNR (vs := (cPos ((posAt (vget vl e.room) e.event)))) (i := 6) hok120 rfl (by kernel_rfl) rfl (by assumption) agg69 sz69 (by first | exact Nat.le_of_ble_eq_true rfl | (simp; done) | (simp; omega)) rfl (Wt.none rfl) rfl ?_
          refine RunD.one (i := 5) (by kernel_rfl) rfl ?_
          refine ca' rfl rfl (s := OfM_ctr (e := e)) (q := ?_)
          rintro _ _ ⟨rfl, hA_⟩
          replace hA_ := hA_.symm; subst hA_
          refine RunL.nilD' ?_
          refine RunD.one (i := 7) (by kernel_rfl) rfl ?_
          refine ca' rfl rfl (s := PutT_ctr (k := kOf e) (q := posAt (vget vl e.room) e.event)) (q := ?_)
          rintro _ _ ⟨rfl, hA_⟩
          replace hA_ := hA_.symm; subst hA_
          refine RunL.nilD' ?_
          refine dp' 8 hok120 rfl (Pure.assign rfl) (dp' 9 hok120 rfl (Pure.assign rfl) ?_)
          refine RunD.nilB (by kernel_rfl) (fun w sw => backgl1 _ _ (backgm _ _ (sw))) ?_
          refine Run.mkMk (⟨tput s.tl (kOf e) (posAt (vget vl e.room) e.event), s.es, s.lost⟩) (by repeat (first | (with_reducible exact Take.nil _) | (apply Take.cons (by first | ((repeat (first | (with_reducible exact F0 _) | apply F1)); done) | (repeat (first | exact F0 _ | apply F1)))))) ?_
          exact rt' Tryz.func16 (res2 rfl rfl rfl) (by exact ⟨by rw [he], by rw [he]⟩)
        · try simp only [Z] at h0
          refine sr' (mv' rfl (as' rfl (as' rfl (nl' ?_))))
          refine Run.mkMk (s) (by repeat (first | (with_reducible exact Take.nil _) | (apply Take.cons (by first | ((repeat (first | (with_reducible exact F0 _) | apply F1)); done) | (repeat (first | exact F0 _ | apply F1)))))) ?_
          exact rt' Tryz.func16 (res2 rfl rfl rfl) (by exact ⟨by rw [mPut_bad hk h4 h0], by rw [mPut_bad hk h4 h0]⟩)

end Go.Proofs.YtaaondbmkibkkaaGreat
