/- Those that are not private. -/
import Derived.Test.YtaaondbmkibkkaaGreatK5
set_option linter.unusedVariables false
set_option linter.unusedSimpArgs false
set_option linter.unusedSectionVars false
namespace Go.Proofs.YtaaondbmkibkkaaGreat
open Go Csl


namespace Csl
section
variable {α : Type} {p : α → Bool} {xs l m : List α} {i j : Nat} {x : α}
theorem pf_none (h : ∀ x ∈ xs, p x = false) : xs.filter (fun x => !p x) = xs := by
  rw [List.filter_eq_self]; intro x hx; simp [h x hx]
theorem pf_first (hi : xs[i]? = some x) (hp : p x = true) (hn : ∀ j y, j < i → xs[j]? = some y → p y = false) : xs.take i = (xs.take (i + 1)).filter (fun x => !p x) := by
  rw [List.take_add_one, hi, List.filter_append]
  have : (xs.take i).filter (fun x => !p x) = xs.take i := by
    rw [List.filter_eq_self]; intro y hy
    obtain ⟨j, hj, e⟩ := List.getElem_of_mem hy
    rw [List.length_take] at hj
    rw [hn j y (by omega) (by rw [List.getElem?_eq_getElem (by omega)]; rw [List.getElem_take] at e; rw [e])]; rfl
  rw [this]; simp [hp]
theorem pf_step (hx : xs[j]? = some x) : (xs.take (j + 1)).filter (fun x => !p x) = (xs.take j).filter (fun x => !p x) ++ (if p x = true then [] else [x]) := by
  rw [List.take_add_one, hx, List.filter_append]
  cases q : p x <;> simp [q]
theorem pl_set_succ (h : i < l.length) : (l.set i x).take (i + 1) = l.take i ++ [x] := by
  rw [List.take_add_one, List.take_set_of_le (Nat.le_refl _), List.getElem?_set_self h]; rfl
theorem pl_drop_set (h : i < j) : (l.set i x).drop j = l.drop j := List.drop_set_of_lt h
theorem pl_drop_succ (h : l.drop j = m.drop j) : l.drop (j + 1) = m.drop (j + 1) := by rw [← List.drop_drop, ← List.drop_drop, h]
end
end Csl
namespace Csl
abbrev isPriv (m : M) : Bool := m.k.priv
end Csl

set_option maxRecDepth 100000 in
theorem PublicC_ctr {G : Gp} {x : M} :
    Ctr Tryz.prog G 71 [.agg (cM x).toArray] [] (fun F v A => v = .bool x.k.priv ∧ A = F) := by
  refine Ctr.intro Tryz.func71 rfl (by kernel_rfl) rfl (fun F => ?_)
  simp only [List.nil_append]
  refine sr' ?_
  refine RunL.boxA (xs := (cM x)) rfl (Wt.none rfl) rfl ?_; intro b1
  refine as' rfl (nl' ?_)
  refine la' (row b1 115 _) Lends.row fun G1 hleG1 hrb1 => ?_
  refine sr' (pp' (Pure.fieldAddr rfl fo115_0) (pp' (Pure.fieldAddr rfl fo34_3) (l1' rfl agg4 ?_)))
  refine as' rfl (nl' ?_)
  exact rt' Tryz.func71 (res1 rfl rfl) (by exact ⟨rfl, rfl⟩)

set_option maxRecDepth 100000 in
theorem IndexFunc_ctr {G : Gp} {a : Option Addr} {cap : Nat} {xs : List M}  (h : SlR G 115 6 a xs.length (xs.flatMap cM)) (hb : xs.length ≤ 1000000) :
    Ctr Tryz.prog G 107 [.slice a xs.length cap, .func (.func 71) #[] #[]] [] (fun F v A => ∃ r : Int, v = .int .i64 r ∧ ((r = -1 ∧ ∀ x ∈ xs, isPriv x = false) ∨ ∃ (i : Nat) (x : M), r = i ∧ xs[i]? = some x ∧ isPriv x = true ∧ ∀ j y, j < i → xs[j]? = some y → isPriv y = false) ∧ A = F) := by
  refine Ctr.intro Tryz.func107 rfl (by kernel_rfl) rfl (fun F => ?_)
  simp only [List.nil_append]
  refine sr' (as' rfl (nl' (sq' (sr' (mv' rfl (pp' (Pure.lenSl rfl rfl und55) (mv' rfl (nl' (bl' ?_)))))))))
  refine kp' [0, 1, 6, 7, 8] ?_
  refine lp' F (fun n e A => ∃ i : Nat, i ≤ xs.length ∧ (∀ j y, j < i → xs[j]? = some y → isPriv y = false) ∧ n = xs.length - i ∧ e = [(0, .slice a xs.length cap), (1, .func (.func 71) #[] #[]), (6, .slice a xs.length cap), (7, .int .i64 (xs.length : Nat)), (8, .int .i64 (i : Nat))] ∧ A = F) (xs.length) (by exact ⟨0, by omega, fun j y hj => absurd hj (Nat.not_lt_zero _), rfl, rfl, rfl⟩) ?_
  rintro n _ _ ⟨i, hi, hall, rfl, rfl, hA_⟩ ih
  replace hA_ := hA_.symm; subst hA_
  refine sr' (pp' (Pure.lss rfl rfl) (nl' (sq' ?_)))
  refine Run.cond rfl (fun h1 => ?_) (fun h1 => ?_)
  · try simp only [Z] at h1
    obtain ⟨x, hx⟩ := get_some (xs := xs) (i := i) (by omega)
    obtain ⟨bb, Tb, preb, postb, rfl, hro⟩ := h.open1 (show 0 < xs.length by omega)
    refine sk' (sq' (bl' (sr' (mv' rfl (as' rfl (nl' (sr' (mv' rfl (mv' rfl (mv' rfl ?_))))))))))
    refine pp' (Pure.indexAddr rfl rfl und55 sz115 (by omega) (by omega)) ?_
    refine RunL.loadNR (vs := (cM x)) rfl hro agg115 sz115 (elemN_len (pre := preb) (post := postb) (f := cM) (sz := 6) (j := 0) (n := 6) (fun _ _ => rfl) hx (by decide)) ((elemN_at (pre := preb) (post := postb) (f := cM) (sz := 6) (j := 0) (n := 6) (fun _ _ => rfl) hx (by decide)).trans rfl) (Wt.none rfl) rfl ?_
    refine ca' rfl rfl (s := PublicC_ctr (x := x)) (q := ?_)
    rintro _ _ ⟨rfl, hA_⟩
    replace hA_ := hA_.symm; subst hA_
    refine nl' ?_
    refine Run.cond rfl (fun h2 => ?_) (fun h2 => ?_)
    · try simp only [Z] at h2
      refine sr' (mv' rfl (as' rfl (nl' ?_)))
      exact rt' Tryz.func107 (res1 rfl rfl) (by exact ⟨_, rfl, .inr ⟨i, x, rfl, hx, h2, hall⟩, rfl⟩)
    · try simp only [Z] at h2
      refine sk' (ib' (rg' ?_))
      first | refine RunL.pure (Pure.addI rfl rfl (by omega)) (Wt.none rfl) rfl rfl ?_ | refine RunL.pure (Pure.add rfl rfl) (Wt.none rfl) rfl rfl ?_
      refine mv' rfl (nl' ?_)
      refine kp' [0, 1, 6, 7, 8] ?_
      exact ag' F ih (by exact ⟨i + 1, by omega, lt_succ_of hall hx h2, rfl, rfl, rfl⟩)
  · try simp only [Z] at h1
    refine ex' rfl (sr' (as' rfl (nl' ?_)))
    exact rt' Tryz.func107 (res1 rfl rfl) (by exact ⟨_, rfl, .inl ⟨rfl, all_of_lt hall (by omega)⟩, rfl⟩)

set_option maxHeartbeats 2000000 in
set_option maxRecDepth 100000 in
theorem DeleteFunc_ctr {G : Gp} {a : Option Addr} {cap : Nat} {xs : List M}  (hb : xs.length ≤ 1000000) (hc : xs.length ≤ cap) :
    Ctr Tryz.prog G 70 [.slice a xs.length cap, .func (.func 71) #[] #[]] [Sl 115 6 a xs.length cap ((xs).flatMap cM)] (fun F v A => v = .slice a (xs.filter (fun x => !isPriv x)).length cap ∧ A = Sl 115 6 a (xs.filter (fun x => !isPriv x)).length cap (((xs.filter (fun x => !isPriv x))).flatMap cM) :: F) := by
  refine Ctr.intro Tryz.func70 rfl (by kernel_rfl) rfl (fun F => ?_)
  simp only [List.cons_append, List.nil_append]
  refine sr' (as' rfl (nl' (sr' (mv' rfl (mv' rfl ?_)))))
  refine ca' rfl rfl (s := Ctr.lend (R := fun G => SlR G 115 6 _ _ _ ∧ _ ≤ _) Lends.Sl cb107 (fun G' hle hr' => IndexFunc_ctr hr'.1 hb)) (q := ?_)
  rintro _ _ ⟨_, rfl, r, rfl, hri, hA_⟩
  replace hA_ := hA_.symm; subst hA_
  refine as' rfl (nl' (sq' (sr' (mv' rfl (pp' (Pure.eql rfl rfl) (nl' ?_))))))
  refine Run.cond rfl (fun h0 => ?_) (fun h0 => ?_)
  · try simp only [Z] at h0
    refine sr' (mv' rfl (as' rfl (nl' ?_)))
    have hno : ∀ x ∈ xs, isPriv x = false := by
      rcases hri with ⟨_, q⟩ | ⟨i0, x0, q, _⟩
      · exact q
      · omega
    exact rt' Tryz.func70 (res1 rfl rfl) (by exact ⟨by rw [pf_none hno], by rw [pf_none hno]⟩)
  · try simp only [Z] at h0
    obtain ⟨i0, x0, rfl, hi0, hp0, hall0⟩ : ∃ (i : Nat) (x : M), r = i ∧ xs[i]? = some x ∧ isPriv x = true ∧ ∀ j y, j < i → xs[j]? = some y → isPriv y = false := by
      rcases hri with ⟨q, _⟩ | q
      · exact absurd q h0
      · exact q
    have hil := (List.getElem?_eq_some_iff.1 hi0).1
    refine sk' (sq' (sr' (mv' rfl ?_)))
    first | refine RunL.pure (Pure.addI rfl rfl (by omega)) (Wt.none rfl) rfl rfl ?_ | refine RunL.pure (Pure.add rfl rfl) (Wt.none rfl) rfl rfl ?_
    refine as' rfl (nl' (bl' ?_))
    refine kp' [0, 1, 5, 6] ?_
    refine lp' F (fun n e A => ∃ (j i : Nat) (L : List M), i < j ∧ j ≤ xs.length ∧ L.length = xs.length ∧ L.take i = (xs.take j).filter (fun x => !isPriv x) ∧ L.drop j = xs.drop j ∧ n = xs.length - j ∧ e = [(0, .slice a xs.length cap), (1, .func (.func 71) #[] #[]), (5, .int .i64 (i : Nat)), (6, .int .i64 (j : Nat))] ∧ A = Sl 115 6 a xs.length cap ((L).flatMap cM) :: F) (xs.length - (i0 + 1)) (by exact ⟨i0 + 1, i0, xs, by omega, by omega, rfl, pf_first hi0 hp0 hall0, rfl, rfl, rfl, rfl⟩) ?_
    rintro n _ _ ⟨j, i, L, hij, hj, hL, htk, hdr, rfl, rfl, hA_⟩ ih
    replace hA_ := hA_.symm; subst hA_
    refine sq' (sr' (mv' rfl (mv' rfl (pp' (Pure.lenSl rfl rfl und55) (pp' (Pure.lss rfl rfl) (nl' ?_))))))
    refine Run.cond rfl (fun h1 => ?_) (fun h1 => ?_)
    · try simp only [Z] at h1
      obtain ⟨x, hx⟩ := get_some (xs := xs) (i := j) (by omega)
      have hLx : L[j]? = some x := by have := congrArg (fun l => l[0]?) hdr; simp only [List.getElem?_drop, Nat.add_zero] at this; rw [this, hx]
      obtain ⟨y, hy⟩ := get_some (xs := L) (i := i) (by omega)
      have hstep := pf_step (p := isPriv) hx
      refine Run.openSl (a := a) (n := xs.length) (by first | ((repeat (first | (with_reducible exact F0 _) | apply F1)); done) | (repeat (first | exact F0 _ | apply F1))) (by omega) ?_; rintro b2 pre2 post2 rfl hsl1 hsl2 hsl3
      refine sk' (sq' (bl' (sr' (mv' rfl (mv' rfl ?_)))))
      refine pp' (Pure.indexAddr rfl rfl und55 sz115 (by omega) (by omega)) ?_
      refine RunL.loadA (vs := (cM x)) rfl (by first | ((repeat (first | (with_reducible exact F0 _) | apply F1)); done) | (repeat (first | exact F0 _ | apply F1))) agg115 sz115 (elemN_len (f := cM) (sz := 6) (j := 0) (n := 6) (fun _ _ => rfl) hLx (by decide)) ((elemN_at (f := cM) (sz := 6) (j := 0) (n := 6) (fun _ _ => rfl) hLx (by decide)).trans rfl) (Wt.none rfl) rfl ?_
      refine RunL.alloc zz115 (Wt.none rfl) rfl ?_; intro b7
      refine sW' (cM x) rfl rfl sz115 ?_
      refine nl' (sr' (mv' rfl (lA' (cM x) rfl agg115 sz115 ?_)))
      refine ca' rfl rfl (s := PublicC_ctr (x := x)) (q := ?_)
      rintro _ _ ⟨rfl, hA_⟩
      replace hA_ := hA_.symm; subst hA_
      refine pp' (Pure.not rfl) (nl' ?_)
      refine Run.cond rfl (fun h2 => ?_) (fun h2 => ?_)
      · try simp only [Z] at h2
        refine sr' (mv' rfl (mv' rfl (lA' (cM x) rfl agg115 sz115 ?_)))
        refine pp' (Pure.indexAddr rfl rfl und55 sz115 (by omega) (by omega)) ?_
        refine RunL.storeA (xs := (cM x)) rfl rfl (by first | ((repeat (first | (with_reducible exact F0 _) | apply F1)); done) | (repeat (first | exact F0 _ | apply F1))) sz115 (by rfl) (by rfl) (elemN_len (f := cM) (sz := 6) (j := 0) (n := 6) (fun _ _ => rfl) hy (by decide)) (setRange_el (f := cM) (sz := 6) (j := 0) (y := x) (fun _ _ => rfl) hy (Nat.le_of_ble_eq_true rfl) rfl) (Wt.none rfl) ?_
        refine nl' ?_
        refine Run.mkSl (b := b2) (pre := pre2) (post := post2) (sz := 6) (cs := ((L.set i x)).flatMap cM) (n := xs.length) (by first | ((repeat (first | (with_reducible exact F0 _) | apply F1)); done) | (repeat (first | exact F0 _ | apply F1))) (by rw [flatMap_length (f := cM) (sz := 6) (fun _ _ => rfl), List.length_set, hL]) hsl2 hsl3 ?_
        refine rg' (mv' rfl ?_)
        first | refine RunL.pure (Pure.addI rfl rfl (by omega)) (Wt.none rfl) rfl rfl ?_ | refine RunL.pure (Pure.add rfl rfl) (Wt.none rfl) rfl rfl ?_
        refine as' rfl (nl' (ib' (rg' (mv' rfl ?_))))
        first | refine RunL.pure (Pure.addI rfl rfl (by omega)) (Wt.none rfl) rfl rfl ?_ | refine RunL.pure (Pure.add rfl rfl) (Wt.none rfl) rfl rfl ?_
        refine as' rfl (nl' ?_)
        refine kp' [0, 1, 5, 6] ?_
        exact ag' F ih (by exact ⟨j + 1, i + 1, L.set i x, by omega, by omega, by rw [List.length_set, hL], by rw [hstep, if_neg (by simp_all), ← htk, pl_set_succ (by omega)], by rw [pl_drop_set (by omega), pl_drop_succ hdr], rfl, rfl, rfl⟩)
      · try simp only [Z] at h2
        refine sk' (ib' (rg' (mv' rfl ?_)))
        first | refine RunL.pure (Pure.addI rfl rfl (by omega)) (Wt.none rfl) rfl rfl ?_ | refine RunL.pure (Pure.add rfl rfl) (Wt.none rfl) rfl rfl ?_
        refine as' rfl (nl' ?_)
        refine Run.mkSl (b := b2) (pre := pre2) (post := post2) (sz := 6) (cs := (L).flatMap cM) (n := xs.length) (by first | ((repeat (first | (with_reducible exact F0 _) | apply F1)); done) | (repeat (first | exact F0 _ | apply F1))) hsl1 hsl2 hsl3 ?_
        refine kp' [0, 1, 5, 6] ?_
        exact ag' F ih (by exact ⟨j + 1, i, L, by omega, by omega, hL, by rw [hstep, if_pos (by simp_all), htk, List.append_nil], pl_drop_succ hdr, rfl, rfl, rfl⟩)
    · try simp only [Z] at h1
      refine ex' rfl (sr' (mv' rfl (mv' rfl ?_)))
      refine pp' (Pure.sliceFrom rfl rfl und55 sz115 (by first | omega | (simp; done) | (simp; omega)) (by first | omega | (simp; done) | (simp; omega))) ?_
      refine RunL.clearTail (T := 115) (sz := 6) (n := xs.length) (cap := cap) (i := i) (a := a) (cs := L.flatMap cM) (by first | rfl | (rw [Int.toNat_natCast]; rfl)) rfl (by first | ((repeat (first | (with_reducible exact F0 _) | apply F1)); done) | (repeat (first | exact F0 _ | apply F1))) und55 zz115 rfl (by decide) (by omega) (Wt.none rfl) ?_
      refine nl' (sr' (mv' rfl (mv' rfl ?_)))
      refine pp' (Pure.sliceTo rfl rfl und55 sz115 (by first | omega | (simp; done) | (simp; omega)) (by first | omega | (simp; done) | (simp; omega))) ?_
      refine as' rfl (nl' ?_)
      have hfl : L.take i = (xs.filter (fun x => !isPriv x)) := by rw [htk, List.take_of_length_le (by omega)]
      have hlen : (xs.filter (fun x => !isPriv x)).length = i := by rw [← hfl, List.length_take]; omega
      rw [Int.toNat_natCast, flatMap_takeN (f := cM) (sz := 6) (xs := L) (fun _ _ => rfl), hfl, ← hlen]
      exact rt' Tryz.func70 (res1 rfl rfl) (by exact ⟨rfl, rfl⟩)

end Go.Proofs.YtaaondbmkibkkaaGreat
