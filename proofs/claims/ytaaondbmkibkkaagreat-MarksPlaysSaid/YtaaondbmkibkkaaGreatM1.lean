/- Made dags, plainly. -/
import Derived.Test.YtaaondbmkibkkaaGreatH0
set_option linter.unusedVariables false
set_option linter.unusedSimpArgs false
set_option linter.unusedSectionVars false
namespace Go.Proofs.YtaaondbmkibkkaaGreat
open Go Csl


namespace Csl
theorem i64_wf {n : Int} (h : -9223372036854775808 ≤ n ∧ n ≤ 9223372036854775807) : (Lit.int .i64 n).wf = true := by
  simp [Lit.wf, IntKind.min, IntKind.max, IntKind.signed, IntKind.bits]; omega
theorem room_named (z : Int) : namedB 33 (bl (roomOf z)) = true := by
  have h := around_lt (z := z) (m := 2) (by decide)
  unfold roomOf
  have : (around z 2).toNat = 0 ∨ (around z 2).toNat = 1 := by omega
  rcases this with q | q <;> rw [q] <;> decide +kernel
theorem user_named (z : Int) : namedB 64 (bl (userOf z)) = true := by
  have h := around_lt (z := z) (m := 9) (by decide)
  unfold userOf
  have : ∀ k : _root_.Fin 9, namedB 64 (bl (signOf ((k.val : Int) / 3) ++ serverOf ((k.val : Int) % 3))) = true := by decide +kernel
  have := this ⟨(around z 9).toNat, by omega⟩
  simpa [show (((around z 9).toNat : Nat) : Int) = around z 9 from by omega] using this
theorem event_named (z : Int) : eventB (bl (eventOf z)) = true := by
  have h := around_lt (z := z) (m := 9) (by decide)
  unfold eventOf
  have : ∀ k : _root_.Fin 9, eventB (bl ((⟨#[36, 101]⟩ : ByteArray) ++ digit (k.val : Int))) = true := by decide +kernel
  have := this ⟨(around z 9).toNat, by omega⟩
  simpa [show (((around z 9).toNat : Nat) : Int) = around z 9 from by omega] using this
theorem eventOf_inj {j k : Nat} (hj : j < 9) (hk : k < 9) (h : eventOf (j : Nat) = eventOf (k : Nat)) : j = k := by
  have : ∀ j k : _root_.Fin 9, eventOf (j.val : Int) = eventOf (k.val : Int) → j = k := by decide +kernel
  exact congrArg _root_.Fin.val (this ⟨j, hj⟩ ⟨k, hk⟩ h)
theorem eventOf_lt {j k : Nat} (hk : k < 9) (h : j < k) : Op.bytesLess (bl (eventOf (j : Nat))) (bl (eventOf (k : Nat))) = true := by
  have : ∀ j k : _root_.Fin 9, j < k → Op.bytesLess (bl (eventOf (j.val : Int))) (bl (eventOf (k.val : Int))) = true := by decide +kernel
  exact this ⟨j, by omega⟩ ⟨k, hk⟩ h
/-- What an event is made of, and the numbers of its parents. -/
abbrev GX := GG × List Int
def cGX (x : GX) : List Value := cGG x.1
def HasI (G : Gp) (s : Sli) (zs : List Int) : Prop := s.n = zs.length ∧ SlR G 3 1 s.a zs.length (zs.map (Value.int .i64)) ∧ ∀ z ∈ zs, (Lit.int .i64 z).wf = true
def GXok (G : Gp) (xs : List GX) : Prop := ∀ x ∈ xs, okGG x.1 ∧ HasI G x.1.par x.2
theorem HasI.mono {G G' : Gp} {s : Sli} {zs : List Int} (h : Gp.le G G') (q : HasI G s zs) : HasI G' s zs := ⟨q.1, q.2.1.mono h, q.2.2⟩
theorem GXok.mono {G G' : Gp} {xs : List GX} (h : Gp.le G G') (q : GXok G xs) : GXok G' xs := fun x hx => ⟨(q x hx).1, (q x hx).2.mono h⟩
def onB (i : Nat) (ps : List Int) (k : Nat) : Bool := ps.any fun p => decide (around p (i : Nat) = (k : Nat))
def onKs (i : Nat) (ps : List Int) : List Nat := (List.range i).filter (onB i ps)
def madePs (i : Nat) (x : GX) : List ByteArray := (onKs i (x.2.take 3)).map fun k => eventOf (k : Nat)
def madeThr (l : EL) (x : GX) : ByteArray := if around x.1.does 3 = 0 ∧ 0 < l.length then (match l[(around x.1.thread (2 * (l.length : Nat))).toNat]? with
  | some r => if r.does = 0 ∧ r.thread = .empty then eventOf (around x.1.thread (2 * (l.length : Nat))) else .empty
  | none => .empty) else .empty
def madeEv (room : ByteArray) (l : EL) (x : GX) : Evt := ⟨eventOf (l.length : Nat), room, madePs l.length x, madeThr l x, userOf x.1.user, around x.1.does 3⟩
def madeN (room : ByteArray) (xs : List GX) : EL := xs.foldl (fun l x => l ++ [madeEv room l x]) []
def madeL (room : ByteArray) (xs : List GX) : EL := madeN room (xs.take 9)
theorem madeN_snoc (room : ByteArray) (xs : List GX) (x : GX) : madeN room (xs ++ [x]) = madeN room xs ++ [madeEv room (madeN room xs) x] := by simp [madeN]
theorem madeN_next {room : ByteArray} {xs : List GX} {i : Nat} {x : GX} (h : xs[i]? = some x) : madeN room (xs.take (i + 1)) = madeN room (xs.take i) ++ [madeEv room (madeN room (xs.take i)) x] := by
  rw [List.take_add_one, h]; exact madeN_snoc _ _ _
theorem madeN_len (room : ByteArray) (xs : List GX) : (madeN room xs).length = xs.length := by
  refine snoc_ind (P := fun xs => (madeN room xs).length = xs.length) rfl (fun l x ih => ?_) xs
  rw [madeN_snoc, List.length_append, List.length_append, ih]; rfl
theorem nodup_filter_le {α : Type} {P : α → Nat → Bool} (hP : ∀ a j k, P a j = true → P a k = true → j = k) : ∀ (S : List α) (r : List Nat), r.Nodup → (r.filter fun k => S.any fun s => P s k).length ≤ S.length
  | [], r, h => by simp
  | a :: S, r, h => by
    have ih := nodup_filter_le hP S r h
    have h1 : (r.filter fun k => P a k).length ≤ 1 := by
      cases hq : r.filter fun k => P a k with
      | nil => simp
      | cons u t =>
        cases t with
        | nil => simp
        | cons v t =>
          exfalso
          have hn : (u :: v :: t).Nodup := hq ▸ List.Nodup.sublist List.filter_sublist h
          have hu : P a u = true := (List.mem_filter.1 (show u ∈ r.filter fun k => P a k from by rw [hq]; simp)).2
          have hv : P a v = true := (List.mem_filter.1 (show v ∈ r.filter fun k => P a k from by rw [hq]; simp)).2
          rw [hP a u v hu hv] at hn
          simp at hn
    have h2 : (r.filter fun k => (a :: S).any fun s => P s k).length ≤ (r.filter fun k => P a k).length + (r.filter fun k => S.any fun s => P s k).length := by
      clear h ih h1
      induction r with
      | nil => simp
      | cons k r ihr =>
        simp only [List.filter_cons, List.any_cons] at ihr ⊢
        cases P a k <;> cases (S.any fun s => P s k) <;> simp only [Bool.or_true, Bool.or_false, Bool.true_or, Bool.false_or, if_true, if_false, List.length_cons, Bool.false_eq_true] <;> omega
    simp only [List.length_cons]; omega
theorem onKs_len (i : Nat) (ps : List Int) : (onKs i ps).length ≤ ps.length :=
  nodup_filter_le (P := fun p k => decide (around p (i : Nat) = ((k : Nat) : Int))) (fun a j k h1 h2 => by simp only [decide_eq_true_eq] at h1 h2; omega) ps _ List.nodup_range
theorem onKs_lt {i : Nat} {ps : List Int} {k : Nat} (h : k ∈ onKs i ps) : k < i := List.mem_range.1 (List.mem_filter.1 h).1
theorem onKs_sorted (i : Nat) (ps : List Int) : (onKs i ps).Pairwise (· < ·) := List.Pairwise.filter _ List.pairwise_lt_range
def Mids (l : EL) : Prop := ∀ (j : Nat) (v : Evt), l[j]? = some v → v.id = eventOf (j : Nat)
theorem made_mids (room : ByteArray) (xs : List GX) : Mids (madeN room xs) := by
  refine snoc_ind (P := fun xs => Mids (madeN room xs)) (fun j v h => by simp [madeN] at h) (fun l x ih j v h => ?_) xs
  rw [madeN_snoc] at h
  rcases Nat.lt_trichotomy j (madeN room l).length with q | q | q
  · rw [List.getElem?_append_left q] at h; exact ih j v h
  · subst q; rw [List.getElem?_append_right (Nat.le_refl _), Nat.sub_self] at h; cases h; rfl
  · rw [List.getElem?_eq_none (by simp; omega)] at h; cases h
theorem parOk_made {i : Nat} {ps : List Int} {id : ByteArray} (hi : i < 9) (hid : id = eventOf (i : Nat)) (j : Nat) (hj : j < ((onKs i ps).map fun k => eventOf (k : Nat)).length) : parOk id ((onKs i ps).map fun k => eventOf (k : Nat)) j := by
  rw [List.length_map] at hj
  obtain ⟨k, hk⟩ : ∃ k, (onKs i ps)[j]? = some k := ⟨_, List.getElem?_eq_getElem hj⟩
  have hki := onKs_lt (List.mem_of_getElem? hk)
  refine ⟨eventOf (k : Nat), by rw [List.getElem?_map, hk]; rfl, event_named _, ?_, fun h0 => ?_⟩
  · rw [hid]; intro q
    have := eventOf_inj (by omega) hi q
    omega
  · obtain ⟨m, hm⟩ : ∃ m, (onKs i ps)[j - 1]? = some m := ⟨_, List.getElem?_eq_getElem (by omega)⟩
    refine ⟨eventOf (m : Nat), by rw [List.getElem?_map, hm]; rfl, eventOf_lt (by omega) ?_⟩
    obtain ⟨a1, b1⟩ := List.getElem?_eq_some_iff.1 hk
    obtain ⟨a2, b2⟩ := List.getElem?_eq_some_iff.1 hm
    have := List.pairwise_iff_getElem.1 (onKs_sorted i ps) (j - 1) j a2 a1 (by omega)
    rwa [b1, b2] at this
theorem madeThr_cases (l : EL) (x : GX) : madeThr l x = .empty ∨ ∃ (k : Nat) (r : Evt), around x.1.thread (2 * (l.length : Nat)) = (k : Nat) ∧ around x.1.does 3 = 0 ∧ l[k]? = some r ∧ r.does = 0 ∧ r.thread = .empty ∧ madeThr l x = eventOf (k : Nat) := by
  unfold madeThr
  split
  · rename_i h
    have hr := around_lt (z := x.1.thread) (m := 2 * (l.length : Nat)) (by omega)
    obtain ⟨k, hk⟩ : ∃ k : Nat, around x.1.thread (2 * (l.length : Nat)) = (k : Nat) := ⟨(around x.1.thread (2 * (l.length : Nat))).toNat, by omega⟩
    rw [hk, Int.toNat_natCast]
    cases hl : l[k]? with
    | none => exact .inl rfl
    | some r =>
      by_cases hq : r.does = 0 ∧ r.thread = .empty
      · exact .inr ⟨k, r, rfl, h.1, hl, hq.1, hq.2, by simp only [if_pos hq]⟩
      · exact .inl (by simp only [if_neg hq])
  · exact .inl rfl
theorem made_ok {room : ByteArray} {l : EL} {x : GX} (hl : l.length < 9) (hr : namedB 33 (bl room) = true) : evOk (madeEv room l x) = true := by
  have hd := around_lt (z := x.1.does) (m := 3) (by decide)
  have hps : (madePs l.length x).length ≤ 3 := by
    unfold madePs; rw [List.length_map]
    exact Nat.le_trans (onKs_len _ _) (by rw [List.length_take]; omega)
  refine evMay_yes ?_ ?_ ?_
  · unfold headOk
    simp only [Bool.and_eq_true, decide_eq_true_eq]
    refine ⟨⟨⟨⟨⟨event_named _, hr⟩, user_named _⟩, ?_⟩, ?_⟩, ?_⟩
    · show (madePs l.length x).length ≤ 4; omega
    · show 0 ≤ around x.1.does 3; omega
    · show around x.1.does 3 ≤ 2; omega
  · unfold thrOk
    simp only [Bool.or_eq_true, Bool.and_eq_true, decide_eq_true_eq]
    rcases madeThr_cases l x with h | ⟨k, r, h1, h2, h3, h4, h5, h6⟩
    · exact .inl h
    · refine .inr ⟨⟨?_, ?_⟩, h2⟩
      · show eventB (bl (madeThr l x)) = true
        rw [h6]; exact event_named _
      · show madeThr l x ≠ eventOf (l.length : Nat)
        rw [h6]; intro q
        have hk := (List.getElem?_eq_some_iff.1 h3).1
        have := eventOf_inj (by omega) hl q
        omega
  · intro j hj
    exact parOk_made hl rfl j hj
theorem made_rc {room : ByteArray} {l : EL} {x : GX} (hl : l.length < 9) (hr : namedB 33 (bl room) = true) (hm : Mids l) (hn : (l.map (·.id)).Nodup) : addRc room l (madeEv room l x) = 0 := by
  have hno : l.has (eventOf (l.length : Nat)) = false := has_no.2 fun v hv q => by
    obtain ⟨j, hj⟩ := List.getElem?_of_mem hv
    have hjl := (List.getElem?_eq_some_iff.1 hj).1
    rw [hm j v hj] at q
    have := eventOf_inj (by omega) hl q
    omega
  refine addRc_zero.2 ⟨made_ok hl hr, rfl, hno, fun p hp => ?_, ?_⟩
  · obtain ⟨k, hk, rfl⟩ := List.mem_map.1 hp
    have hki := onKs_lt hk
    have hv : l[k]? = some l[k] := List.getElem?_eq_getElem hki
    rw [← hm k _ hv]; exact has_mem (List.getElem_mem hki)
  · rcases madeThr_cases l x with h | ⟨k, r, h1, h2, h3, h4, h5, h6⟩
    · exact thrRc_zero.2 (.inl h)
    · refine thrRc_zero.2 (.inr ⟨r, ?_, h5, h4⟩)
      show l.get (madeThr l x) = some r
      rw [h6, ← hm k r h3]; exact get_eq hn (List.mem_of_getElem? h3)
theorem madeN_good {room : ByteArray} (hr : namedB 33 (bl room) = true) : ∀ (xs : List GX), xs.length ≤ 9 → Good room (madeN room xs) := by
  intro xs
  refine snoc_ind (P := fun xs => xs.length ≤ 9 → Good room (madeN room xs)) (fun _ => Good.nil _) (fun l x ih h => ?_) xs
  rw [List.length_append] at h
  have hg := ih (by simp at h; omega)
  rw [madeN_snoc]
  refine hg.snoc (made_rc ?_ hr (made_mids _ _) hg.nodup)
  rw [madeN_len]; simp at h; omega
theorem madeN_rc {room : ByteArray} (hr : namedB 33 (bl room) = true) {xs : List GX} {x : GX} (h : xs.length < 9) : addRc room (madeN room xs) (madeEv room (madeN room xs) x) = 0 :=
  made_rc (by rw [madeN_len]; exact h) hr (made_mids _ _) (madeN_good hr xs (by omega)).nodup
theorem madeL_good {room : ByteArray} (hr : namedB 33 (bl room) = true) (xs : List GX) : Good room (madeL room xs) := madeN_good hr _ (by rw [List.length_take]; omega)
theorem madeL_len (room : ByteArray) (xs : List GX) : (madeL room xs).length = min 9 xs.length := by unfold madeL; rw [madeN_len, List.length_take]
def onL (i : Nat) (ps : List Int) : List Bool := (List.range 9).map (onB i ps)
theorem onL_len (i : Nat) (ps : List Int) : (onL i ps).length = 9 := by simp [onL]
theorem onL_get {i k : Nat} {ps : List Int} (h : k < 9) : (onL i ps)[k]? = some (onB i ps k) := by unfold onL; rw [List.getElem?_map, List.getElem?_range h]; rfl
theorem onL_nil (i : Nat) : List.replicate 9 (Value.bool false) = (onL i []).map Value.bool := rfl
theorem onL_set {i j k : Nat} {ps : List Int} {p : Int} (hp : ps[j]? = some p) (hk : around p (i : Nat) = (k : Nat)) : (onL i (ps.take j)).set k true = onL i (ps.take (j + 1)) := by
  apply List.ext_getElem?
  intro m
  rcases Nat.lt_or_ge m 9 with q | q
  · rw [List.getElem?_set, onL_get q, onL_get q, List.take_add_one, hp]
    unfold onB
    rw [List.any_append]
    by_cases hm : k = m
    · subst hm; rw [if_pos rfl, if_pos (by rw [onL_len]; exact q)]; simp [hk]
    · rw [if_neg hm]
      have : ¬ (around p (i : Nat) = ((m : Nat) : Int)) := by rw [hk]; omega
      simp [this]
  · rw [List.getElem?_eq_none (by rw [List.length_set, onL_len]; exact q), List.getElem?_eq_none (by rw [onL_len]; exact q)]
def pk (i k : Nat) (ps : List Int) : List ByteArray := ((List.range k).filter (onB i ps)).map fun k => eventOf (k : Nat)
theorem pk_next (i k : Nat) (ps : List Int) : pk i (k + 1) ps = pk i k ps ++ (if onB i ps k = true then [eventOf (k : Nat)] else []) := by
  unfold pk; rw [List.range_succ, List.filter_append, List.map_append]; congr 1
  by_cases h : onB i ps k = true <;> simp [h]
theorem pk_len (i k : Nat) (ps : List Int) : (pk i k ps).length ≤ k := by
  unfold pk; rw [List.length_map]; exact Nat.le_trans (List.length_filter_le _ _) (by simp)
theorem pk_all (l : EL) (x : GX) : pk l.length l.length (x.2.take 3) = madePs l.length x := rfl
theorem thr_no1 {l : EL} {x : GX} (h : around x.1.does 3 ≠ 0) : madeThr l x = .empty := by unfold madeThr; rw [if_neg (fun q => h q.1)]
theorem thr_no2 {l : EL} {x : GX} (h : l.length = 0) : madeThr l x = .empty := by unfold madeThr; rw [if_neg (fun q => by omega)]
theorem thr_no3 {l : EL} {x : GX} {k : Nat} (hk : around x.1.thread (2 * (l.length : Nat)) = (k : Nat)) (h : l.length ≤ k) : madeThr l x = .empty := by
  unfold madeThr; split
  · rw [hk, Int.toNat_natCast, List.getElem?_eq_none h]
  · rfl
theorem thr_no4 {l : EL} {x : GX} {k : Nat} {r : Evt} (hk : around x.1.thread (2 * (l.length : Nat)) = (k : Nat)) (hr : l[k]? = some r) (h : ¬ (r.does = 0 ∧ r.thread = .empty)) : madeThr l x = .empty := by
  unfold madeThr; split
  · rw [hk, Int.toNat_natCast, hr]; simp only [if_neg h]
  · rfl
theorem thr_yes {l : EL} {x : GX} {k : Nat} {r : Evt} (h1 : around x.1.does 3 = 0) (h2 : 0 < l.length) (hk : around x.1.thread (2 * (l.length : Nat)) = (k : Nat)) (hr : l[k]? = some r) (h3 : r.does = 0) (h4 : r.thread = .empty) : madeThr l x = eventOf (k : Nat) := by
  unfold madeThr; rw [if_pos ⟨h1, h2⟩, hk, Int.toNat_natCast, hr]; simp only [if_pos (And.intro h3 h4)]
theorem evWf_of {v : Evt} (h1 : v.id.size ≤ 1000) (h2 : v.room.size ≤ 1000) (h3 : v.thread.size ≤ 1000) (h4 : v.user.size ≤ 1000) (h5 : -9223372036854775808 ≤ v.does ∧ v.does ≤ 9223372036854775807) (h6 : ∀ p ∈ v.ps, p.size ≤ 1000) (h7 : v.ps.length ≤ 1000) : evWf v :=
  ⟨⟨by show v.id.size ≤ _; omega, by show v.room.size ≤ _; omega, by show v.thread.size ≤ _; omega, by show v.user.size ≤ _; omega, i64_wf h5⟩, fun p hp => by have := h6 p hp; omega, h7⟩
theorem madeThr_size (l : EL) (x : GX) : (madeThr l x).size ≤ 1000 := by
  rcases madeThr_cases l x with h | ⟨k, r, _, _, _, _, _, h6⟩
  · rw [h]; exact Nat.zero_le _
  · rw [h6, eventOf_size]; omega
theorem made_wf {room : ByteArray} {l : EL} {x : GX} (hr : room.size ≤ 1000) (hl : l.length ≤ 9) : evWf (madeEv room l x) := by
  have hd := around_lt (z := x.1.does) (m := 3) (by decide)
  refine evWf_of ?_ hr (madeThr_size l x) ?_ ?_ ?_ ?_
  · show (eventOf _).size ≤ _; rw [eventOf_size]; omega
  · show (userOf _).size ≤ _; have := userOf_size x.1.user; omega
  · show _ ≤ around x.1.does 3 ∧ around x.1.does 3 ≤ _; omega
  · intro p hp
    obtain ⟨k, _, rfl⟩ := List.mem_map.1 hp
    rw [eventOf_size]; omega
  · show (madePs l.length x).length ≤ _
    unfold madePs; rw [List.length_map]
    exact Nat.le_trans (onKs_len _ _) (by rw [List.length_take]; omega)
theorem madeN_wf {room : ByteArray} (hr : room.size ≤ 1000) : ∀ (xs : List GX), xs.length ≤ 9 → ∀ v ∈ madeN room xs, evWf v := by
  intro xs
  refine snoc_ind (P := fun xs => xs.length ≤ 9 → ∀ v ∈ madeN room xs, evWf v) (fun _ v hv => by simp [madeN] at hv) (fun l x ih h v hv => ?_) xs
  rw [List.length_append] at h
  rw [madeN_snoc] at hv
  rcases List.mem_append.1 hv with hv | hv
  · exact ih (by simp at h; omega) v hv
  · obtain rfl := List.mem_singleton.1 hv
    exact made_wf hr (by rw [madeN_len]; simp at h; omega)
theorem madeL_wf {room : ByteArray} (hr : room.size ≤ 1000) (xs : List GX) : ∀ v ∈ madeL room xs, evWf v := madeN_wf hr _ (by rw [List.length_take]; omega)
end Csl


end Go.Proofs.YtaaondbmkibkkaaGreat
