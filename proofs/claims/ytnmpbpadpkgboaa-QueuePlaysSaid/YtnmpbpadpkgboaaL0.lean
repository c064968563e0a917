/- The document's example. -/
import Derived.Test.YtnmpbpadpkgboaaR3
set_option linter.unusedVariables false
set_option linter.unusedSimpArgs false
set_option linter.unusedSectionVars false
namespace Go.Proofs.Ytnmpbpadpkgboaa
open Go Csl
theorem und24 : Try.prog.underlying 24 = some (Go.TypeDesc.pointer 64) := Try.underlying24

namespace Csl
def EB (i : Nat) : Edu := ⟨3, .empty, userOf (i : Nat), .empty, .empty, false, false, 0, 0, 0, (i : Nat)⟩
def LB (n i : Nat) : List Edu := ((List.range i).drop (i - n)).map EB
def bndG (N i : Nat) : Edu := if N + 1 ≤ i then EB (i - (N + 1)) else zeroE
theorem LB_len (n i : Nat) : (LB n i).length = min i n := by unfold LB; rw [List.length_map, List.length_drop, List.length_range]; omega
set_option maxRecDepth 100000 in
theorem bnd_put {N i : Nat} (hN : N < 5) (hi : i < 9) : putL ((N + 1 : Nat) : Int) ((i - (N + 1) : Nat) : Int) (LB (N + 1) i) (EB i) = (LB (N + 1) (i + 1), ((i + 1 - (N + 1) : Nat) : Int), bndG N i, decide (N + 1 ≤ i), 0) := by
  have : ∀ (n : _root_.Fin 5) (j : _root_.Fin 9), putL ((n.val + 1 : Nat) : Int) ((j.val - (n.val + 1) : Nat) : Int) (LB (n.val + 1) j.val) (EB j.val) = (LB (n.val + 1) (j.val + 1), ((j.val + 1 - (n.val + 1) : Nat) : Int), bndG n.val j.val, decide (n.val + 1 ≤ j.val), 0) := by decide +kernel
  exact this ⟨N, hN⟩ ⟨i, hi⟩
theorem EB_facts {i : Nat} (hi : i < 9) : eduSmall (EB i) ∧ okEdu (EB i) := by
  have h := userOf_size (i : Nat)
  have h0 : ByteArray.empty.size = 0 := rfl
  refine ⟨⟨by show ByteArray.empty.size ≤ 1000; omega, by show (userOf (i : Nat)).size ≤ 1000; omega, by show ByteArray.empty.size ≤ 1000; omega, by show ByteArray.empty.size ≤ 1000; omega⟩, ?_⟩
  exact ⟨i64_wf (by show -9223372036854775808 ≤ (3 : Int) ∧ (3 : Int) ≤ _; omega), by show ByteArray.empty.size ≤ _; omega, by show (userOf (i : Nat)).size ≤ _; omega, by show ByteArray.empty.size ≤ _; omega, by show ByteArray.empty.size ≤ _; omega, i64_wf (by show -9223372036854775808 ≤ (0 : Int) ∧ (0 : Int) ≤ _; omega), i64_wf (by show -9223372036854775808 ≤ (0 : Int) ∧ (0 : Int) ≤ _; omega), i64_wf (by show -9223372036854775808 ≤ (0 : Int) ∧ (0 : Int) ≤ _; omega), i64_wf (by show -9223372036854775808 ≤ ((i : Nat) : Int) ∧ ((i : Nat) : Int) ≤ _; omega)⟩
theorem LB_facts {n i : Nat} (hi : i < 9) : ∀ x ∈ LB n i, eduSmall x ∧ okEdu x := by
  intro x hx
  obtain ⟨j, hj, rfl⟩ := List.mem_map.1 hx
  have := List.mem_range.1 (List.mem_of_mem_drop hj)
  exact EB_facts (by omega)
end Csl

namespace Csl
theorem putL_cases {most lost : Int} {l : List Edu} {e : Edu} : (∃ er, putL most lost l e = (l, lost, zeroE, false, er)) ∨ putL most lost l e = (offK l (eKey e) ++ [e], lost, zeroE, false, 0) ∨ ∃ g, putL most lost l e = ((offK l (eKey e) ++ [e]).drop 1, lost + 1, g, true, 0) := by
  cases hm : eduMay e with
  | false => exact .inl ⟨1, putL_no hm⟩
  | true =>
    by_cases hold : ∃ old, l.find? (fun x => decide (eKey x = eKey e)) = some old ∧ edCmp e old ≤ 0
    · obtain ⟨old, h1, h2⟩ := hold; exact .inl ⟨0, putL_old hm h1 h2⟩
    · have hn : ∀ old, l.find? (fun x => decide (eKey x = eKey e)) = some old → ¬ edCmp e old ≤ 0 := fun old q hc => hold ⟨old, q, hc⟩
      by_cases hl : ((offK l (eKey e) ++ [e]).length : Int) ≤ most
      · exact .inr (.inl (putL_in hm hn hl))
      · exact .inr (.inr ⟨_, putL_past hm hn hl⟩)
theorem putL_facts {most lost : Int} {l : List Edu} {e : Edu} (h : ∀ x ∈ l, eduSmall x ∧ okEdu x) (hs : eduSmall e) (ho : okEdu e) : (∀ x ∈ (putL most lost l e).1, eduSmall x ∧ okEdu x) ∧ (putL most lost l e).1.length ≤ l.length + 1 ∧ (lost ≤ (putL most lost l e).2.1 ∧ (putL most lost l e).2.1 ≤ lost + 1) := by
  have h1 : ∀ x ∈ offK l (eKey e) ++ [e], eduSmall x ∧ okEdu x := by
    intro x hx
    rcases List.mem_append.1 hx with q | q
    · exact h x (List.mem_filter.1 q).1
    · obtain rfl := List.mem_singleton.1 q; exact ⟨hs, ho⟩
  have h2 : (offK l (eKey e) ++ [e]).length ≤ l.length + 1 := by rw [List.length_append]; exact Nat.add_le_add_right (offK_len _ _) 1
  rcases putL_cases (most := most) (lost := lost) (l := l) (e := e) with ⟨er, q⟩ | q | ⟨g, q⟩
  · rw [q]; exact ⟨h, Nat.le_succ _, ⟨Int.le_refl _, by show lost ≤ lost + 1; omega⟩⟩
  · rw [q]; exact ⟨h1, h2, ⟨Int.le_refl _, by show lost ≤ lost + 1; omega⟩⟩
  · rw [q]; exact ⟨fun x hx => h1 x (List.mem_of_mem_drop hx), by show ((offK l (eKey e) ++ [e]).drop 1).length ≤ _; rw [List.length_drop]; omega, ⟨by show lost ≤ lost + 1; omega, Int.le_refl _⟩⟩
theorem takes_step {l : List Edu} {t : Nat} {z : Int} (ht : t ≤ l.length) : l.take t ++ (l.drop t).take (takeN z (l.drop t)) = l.take (t + takeN z (l.drop t)) := by rw [List.take_add]
theorem takes_le {l : List Edu} {t : Nat} {z : Int} (ht : t ≤ l.length) : t + takeN z (l.drop t) ≤ l.length := by unfold takeN; rw [List.length_drop]; omega
theorem takes_rest {l : List Edu} {t : Nat} (h : l.length ≤ 10) : (l.drop t).drop (takeN 1000 (l.drop t)) = [] := by
  rw [List.drop_eq_nil_iff]; unfold takeN; rw [List.length_drop]; omega
theorem takes_all {l : List Edu} {t : Nat} (ht : t ≤ l.length) (h : l.length ≤ 10) : l.take t ++ (l.drop t).take (takeN 1000 (l.drop t)) = l := by
  rw [takes_step ht, List.take_of_length_le]; unfold takeN; rw [List.length_drop]; omega
end Csl

namespace Csl
theorem nodup_at {l : List Edu} {i j : Nat} {x y : Edu} (hn : (l.map eKey).Nodup) (hx : l[i]? = some x) (hy : l[j]? = some y) (h : eKey x = eKey y) : i = j := by
  obtain ⟨hi, rfl⟩ := List.getElem?_eq_some_iff.1 hx
  obtain ⟨hj, rfl⟩ := List.getElem?_eq_some_iff.1 hy
  exact (List.getElem_inj (h₀ := show i < (l.map eKey).length by rw [List.length_map]; exact hi) (h₁ := show j < (l.map eKey).length by rw [List.length_map]; exact hj) hn).1 (by rw [List.getElem_map, List.getElem_map]; exact h)
theorem cpy_in {l : List Edu} {j : Nat} {y : Edu} {k : Key} (h : l[j]? = some y) (hk : eKey y ≠ k) : offK (l.take (j + 1)) k = offK (l.take j) k ++ [y] := by
  unfold offK; rw [List.take_add_one, h, List.filter_append]; simp [hk]
theorem cpy_out {l : List Edu} {j : Nat} {y : Edu} {k : Key} (h : l[j]? = some y) (hk : eKey y = k) : offK (l.take (j + 1)) k = offK (l.take j) k := by
  unfold offK; rw [List.take_add_one, h, List.filter_append]; simp [hk]
end Csl

namespace Csl
def OwnE (y : Edu) : Prop := eduSmall y ∧ okEdu y ∧ eduMay y = true ∧ y.kind ≤ 3
theorem pub_own (x : Edu) : OwnE (pubE x) := ⟨pub_small x, pub_ok x, pub_may x, by have := (good_nums x).1.2; exact this⟩
def KeyInv (own l : List Edu) : Prop := (∀ x ∈ l, x ∈ own) ∧ ∀ e ∈ own, ∃ x, l.find? (fun y => decide (eKey y = eKey e)) = some x ∧ x ∈ own ∧ ∀ y ∈ own, eKey y = eKey e → edCmp y x ≤ 0
theorem keyInv_nil : KeyInv [] [] := ⟨(fun x hx => by cases hx), (fun x hx => by cases hx)⟩
theorem keyInv_ok {own l : List Edu} (h : KeyInv own l) (ho : ∀ y ∈ own, OwnE y) : ∀ y ∈ l, eduSmall y ∧ okEdu y := fun y hy => ⟨(ho y (h.1 y hy)).1, (ho y (h.1 y hy)).2.1⟩
theorem own_add {own : List Edu} (ho : ∀ y ∈ own, OwnE y) (x : Edu) : ∀ y ∈ own ++ [pubE x], OwnE y := by
  intro y hy
  rcases List.mem_append.1 hy with q | q
  · exact ho y q
  · obtain rfl := List.mem_singleton.1 q; exact pub_own x
theorem edCmp_self (x : Edu) : edCmp x x = 0 := edCmp_zero.2 ⟨rfl, rfl⟩
theorem find_off {l : List Edu} {k k' : Key} {e : Edu} (he : eKey e = k) (hk : k' ≠ k) : (offK l k ++ [e]).find? (fun y => decide (eKey y = k')) = l.find? (fun y => decide (eKey y = k')) := by
  rw [List.find?_append, offK, List.find?_filter]
  have h1 : ([e] : List Edu).find? (fun y => decide (eKey y = k')) = none := by rw [List.find?_eq_none]; intro x hx; obtain rfl := List.mem_singleton.1 hx; rw [he]; simpa using Ne.symm hk
  rw [h1, Option.or_none]
  congr 1; funext x
  by_cases q : eKey x = k'
  · subst q; simp [hk]
  · simp [q]
theorem find_new {l : List Edu} {e : Edu} : (offK l (eKey e) ++ [e]).find? (fun y => decide (eKey y = eKey e)) = some e := by
  have h1 : (offK l (eKey e)).find? (fun y => decide (eKey y = eKey e)) = none := by
    rw [List.find?_eq_none]; intro x hx; have := (List.mem_filter.1 hx).2; simpa using this
  rw [List.find?_append, h1]; simp
theorem keyInv_put {own l : List Edu} (h : KeyInv own l) (hn : (l.map eKey).Nodup) (ho : ∀ y ∈ own, OwnE y) (hl : l.length ≤ 100) (z : Edu) : KeyInv (own ++ [pubE z]) (putL 120 0 l (pubE z)).1 ∧ (putL 120 0 l (pubE z)).2.1 = 0 ∧ (putL 120 0 l (pubE z)).1.length ≤ l.length + 1 := by
  have hm := pub_may z
  generalize pubE z = e at hm
  by_cases hold : ∃ old, l.find? (fun x => decide (eKey x = eKey e)) = some old ∧ edCmp e old ≤ 0
  · obtain ⟨old, h1, h2⟩ := hold
    rw [putL_old hm h1 h2]
    have hom := List.mem_of_find?_eq_some h1
    have hok : eKey old = eKey e := by simpa using List.find?_some h1
    refine ⟨⟨fun x hx => List.mem_append_left _ (h.1 x hx), fun e' he' => ?_⟩, rfl, Nat.le_succ _⟩
    rcases List.mem_append.1 he' with q | q
    · obtain ⟨x, g1, g2, g3⟩ := h.2 e' q
      refine ⟨x, g1, List.mem_append_left _ g2, fun y hy hk => ?_⟩
      rcases List.mem_append.1 hy with q2 | q2
      · exact g3 y q2 hk
      · obtain rfl := List.mem_singleton.1 q2
        rw [← hk, h1] at g1; cases g1; exact h2
    · obtain rfl := List.mem_singleton.1 q
      obtain ⟨x, g1, g2, g3⟩ := h.2 old (h.1 old hom)
      rw [hok, h1] at g1; cases g1
      refine ⟨old, h1, List.mem_append_left _ g2, fun y hy hk => ?_⟩
      rcases List.mem_append.1 hy with q2 | q2
      · exact g3 y q2 (hk.trans hok.symm)
      · obtain rfl := List.mem_singleton.1 q2; exact h2
  · have hno : ∀ old, l.find? (fun x => decide (eKey x = eKey e)) = some old → ¬ edCmp e old ≤ 0 := fun old q hc => hold ⟨old, q, hc⟩
    have hlen : (offK l (eKey e) ++ [e]).length ≤ l.length + 1 := by rw [List.length_append]; exact Nat.add_le_add_right (offK_len _ _) 1
    rw [putL_in hm hno (by omega)]
    refine ⟨⟨fun x hx => ?_, fun e' he' => ?_⟩, rfl, hlen⟩
    · rcases List.mem_append.1 hx with q | q
      · exact List.mem_append_left _ (h.1 x (List.mem_filter.1 q).1)
      · exact List.mem_append_right _ q
    · by_cases hk : eKey e' = eKey e
      · refine ⟨e, by rw [hk]; exact find_new, List.mem_append_right _ List.mem_cons_self, fun y hy hky => ?_⟩
        rcases List.mem_append.1 hy with q | q
        · obtain ⟨x, g1, g2, g3⟩ := h.2 y q
          have h1 := g3 y q rfl
          have h2 := hno x (by rw [← hk, ← hky]; exact g1)
          have h3 := edCmp_anti e x
          exact edCmp_trans h1 (by omega)
        · obtain rfl := List.mem_singleton.1 q; rw [edCmp_self]; exact Int.le_refl _
      · rcases List.mem_append.1 he' with q | q
        · obtain ⟨x, g1, g2, g3⟩ := h.2 e' q
          refine ⟨x, by rw [find_off rfl hk]; exact g1, List.mem_append_left _ g2, fun y hy hky => ?_⟩
          rcases List.mem_append.1 hy with q2 | q2
          · exact g3 y q2 hky
          · obtain rfl := List.mem_singleton.1 q2; exact absurd hky.symm hk
        · obtain rfl := List.mem_singleton.1 q; exact absurd rfl hk
theorem at_none {l : List Edu} {j : Nat} {x : Edu} {r : Int} (hn : (l.map eKey).Nodup) (hx : l[j]? = some x) (h : AtOk (l.take j) (eKey x) r) (hr : 0 ≤ r) : False := by
  rcases h with ⟨rfl, _⟩ | ⟨i, y, rfl, hy, hk, _⟩
  · omega
  · rw [List.getElem?_take] at hy
    split at hy
    · have := nodup_at hn hy hx hk; omega
    · cases hy
theorem find_nine {own l : List Edu} (h : KeyInv own l) (ho : ∀ y ∈ own, OwnE y) : l.find? (fun x => decide (eKey x = (⟨9, .empty, .empty, .empty, false⟩ : Key))) = none := by
  rw [List.find?_eq_none]; intro x hx
  simp only [decide_eq_true_eq]
  intro q
  have h1 := (ho x (h.1 x hx)).2.2.2
  have h2 : x.kind = 9 := congrArg Key.kind q
  omega
end Csl

theorem qNewT_ctr {G : Gp} {z : Int} (h : 1 ≤ z ∧ z ≤ 120) : Ctr Try.prog G 10 [.int .i64 z] [] (fun F v A => ∃ p, v = .tuple #[.pointer (some ⟨p, 0, none⟩), .int .i64 0] ∧ A = Qu p z 0 [] :: F) := qNew_ctr.mono fun F v A q => by
  rcases q with ⟨_, q⟩ | ⟨q, _⟩
  · exact q
  · exact absurd h q
theorem PutX_ctr {G : Gp} {p : Nat} {most lost lost2 er : Int} {l l2 : List Edu} {e g : Edu} {is : Bool} (hP : putL most lost l e = (l2, lost2, g, is, er)) (hs : eduSmall e) (ho : okEdu e) (hz : ∀ x ∈ l, eduSmall x ∧ okEdu x) (hb : l.length ≤ 900) (hlo : 0 ≤ lost ∧ lost ≤ 1000000) : Ctr Try.prog G 12 [.pointer (some ⟨p, 0, none⟩), .agg (cEdu e).toArray] [Qu p most lost l] (fun F v A => v = .tuple #[.agg (cEdu g).toArray, .bool is, .int .i64 er] ∧ A = Qu p most lost2 l2 :: F) := by
  have := Put_ctr (G := G) (p := p) (most := most) hs ho hz hb hlo
  rw [hP] at this
  exact this
set_option maxHeartbeats 4000000 in
set_option maxRecDepth 100000 in
theorem lives_ctr {G : Gp} :
    Ctr Try.prog G 11 [] [] (fun F v A => v = .bool true ∧ A = F) := by
  refine Ctr.intro Try.func11 rfl (by kernel_rfl) rfl (fun F => ?_)
  simp only [List.nil_append]
  refine Run.sr ?_
  refine RunL.as rfl rfl ?_
  refine RunL.nil ?_
  refine Run.sr ?_
  refine RunL.call rfl rfl (by rfl) (by repeat (first | (with_reducible exact Take.nil _) | (apply Take.cons (by first | ((repeat (first | (with_reducible exact Find.here _) | apply Find.there)); done) | (repeat (first | exact Find.here _ | apply Find.there)))))) (qNewT_ctr (z := 3) (by decide)) (Wt.none rfl) rfl ?_
  rintro _ _ ⟨p, rfl, hA_⟩
  replace hA_ := hA_.symm; subst hA_
  refine RunL.mv rfl rfl ?_
  refine RunL.pure (Pure.extract rfl rfl) (Wt.none rfl) rfl rfl ?_
  refine RunL.pure (Pure.extract rfl rfl) (Wt.none rfl) rfl rfl ?_
  refine RunL.as rfl rfl ?_
  refine RunL.as rfl rfl ?_
  refine RunL.nil ?_
  refine Run.seq ?_
  refine Run.sr ?_
  refine RunL.mv rfl rfl ?_
  refine RunL.pure (Pure.ptrEqNil rfl rfl und24) (Wt.none rfl) rfl rfl ?_
  refine RunL.mv rfl rfl ?_
  refine RunL.pure (Pure.move rfl) (Wt.yes rfl rfl rfl) rfl rfl ?_
  refine RunL.pure (Pure.neq rfl rfl) (Wt.yes rfl rfl rfl) rfl rfl ?_
  refine RunL.pure (Pure.pickF rfl rfl) (Wt.none rfl) rfl rfl ?_
  refine RunL.nil ?_
  refine Run.cond rfl (fun hc1 => ?_) (fun hc1 => ?_)
  · try simp only [decide_eq_true_eq, decide_eq_false_iff_not, beq_iff_eq, beq_eq_false_iff_ne, bne_iff_ne, ne_eq, Bool.not_eq_true', Bool.not_eq_false', Bool.not_eq_true, Bool.not_eq_false, Int.not_lt, Int.not_le, Decidable.not_not, bne_eq_false_iff_eq, gt_iff_lt, ge_iff_le, Bool.or_eq_true, Bool.and_eq_true] at hc1
    exfalso
    first | (simp_all; done) | (simp_all; omega) | omega | grind
  try simp only [decide_eq_true_eq, decide_eq_false_iff_not, beq_iff_eq, beq_eq_false_iff_ne, bne_iff_ne, ne_eq, Bool.not_eq_true', Bool.not_eq_false', Bool.not_eq_true, Bool.not_eq_false, Int.not_lt, Int.not_le, Decidable.not_not, bne_eq_false_iff_eq, gt_iff_lt, ge_iff_le, Bool.or_eq_true, Bool.and_eq_true] at hc1
  refine Run.skip ?_
  refine Run.sr ?_
  refine RunL.pure (Pure.buildL (ps := [(0, _), (2, _), (10, _)]) (zs := [(.int .i64 0), (.string .empty), (.string .empty), (.string .empty), (.string .empty), (.bool false), (.bool false), (.int .i64 0), (.int .i64 0), (.int .i64 0), (.int .i64 0)]) (xs := (cEdu ((⟨3, .empty, ⟨#[64, 97, 58, 115]⟩, .empty, .empty, false, false, 0, 0, 0, 1⟩ : Edu)))) pl31 rfl rfl rfl rfl) (Wt.none rfl) rfl rfl ?_
  refine RunL.alloc zz31 (Wt.none rfl) rfl ?_; intro b3
  refine RunL.storeW (xs := (cEdu ((⟨3, .empty, ⟨#[64, 97, 58, 115]⟩, .empty, .empty, false, false, 0, 0, 0, 1⟩ : Edu)))) rfl rfl (by first | ((repeat (first | (with_reducible exact Find.here _) | apply Find.there)); done) | (repeat (first | exact Find.here _ | apply Find.there))) sz31 (by rfl) (by rfl) (by rfl) (Wt.none rfl) ?_
  refine RunL.nil ?_
  refine Run.sr ?_
  refine RunL.pure (Pure.buildL (ps := [(0, _), (2, _), (10, _), (8, _)]) (zs := [(.int .i64 0), (.string .empty), (.string .empty), (.string .empty), (.string .empty), (.bool false), (.bool false), (.int .i64 0), (.int .i64 0), (.int .i64 0), (.int .i64 0)]) (xs := (cEdu ((⟨3, .empty, ⟨#[64, 97, 58, 115]⟩, .empty, .empty, false, false, 0, 1, 0, 2⟩ : Edu)))) pl31 rfl rfl rfl rfl) (Wt.none rfl) rfl rfl ?_
  refine RunL.alloc zz31 (Wt.none rfl) rfl ?_; intro b4
  refine RunL.storeW (xs := (cEdu ((⟨3, .empty, ⟨#[64, 97, 58, 115]⟩, .empty, .empty, false, false, 0, 1, 0, 2⟩ : Edu)))) rfl rfl (by first | ((repeat (first | (with_reducible exact Find.here _) | apply Find.there)); done) | (repeat (first | exact Find.here _ | apply Find.there))) sz31 (by rfl) (by rfl) (by rfl) (Wt.none rfl) ?_
  refine RunL.nil ?_
  refine Run.sr ?_
  refine RunL.mv rfl rfl ?_
  first | refine RunL.loadA (vs := (cEdu ((⟨3, .empty, ⟨#[64, 97, 58, 115]⟩, .empty, .empty, false, false, 0, 0, 0, 1⟩ : Edu)))) rfl (by first | ((repeat (first | (with_reducible exact Find.here _) | apply Find.there)); done) | (repeat (first | exact Find.here _ | apply Find.there))) agg31 sz31 (by first | exact Nat.le_of_ble_eq_true rfl | (simp; done) | (simp; omega)) rfl (Wt.none rfl) rfl ?_ | refine RunL.loadNR (vs := (cEdu ((⟨3, .empty, ⟨#[64, 97, 58, 115]⟩, .empty, .empty, false, false, 0, 0, 0, 1⟩ : Edu)))) rfl (by assumption) agg31 sz31 (by first | exact Nat.le_of_ble_eq_true rfl | (simp; done) | (simp; omega)) rfl (Wt.none rfl) rfl ?_
  refine RunL.call rfl rfl (by rfl) (by repeat (first | (with_reducible exact Take.nil _) | (apply Take.cons (by first | ((repeat (first | (with_reducible exact Find.here _) | apply Find.there)); done) | (repeat (first | exact Find.here _ | apply Find.there)))))) (PutX_ctr (p := p) (most := 3) (lost := 0) (l := []) (e := (⟨3, .empty, ⟨#[64, 97, 58, 115]⟩, .empty, .empty, false, false, 0, 0, 0, 1⟩ : Edu)) (l2 := [(⟨3, .empty, ⟨#[64, 97, 58, 115]⟩, .empty, .empty, false, false, 0, 0, 0, 1⟩ : Edu)]) (lost2 := 0) (g := zeroE) (is := false) (er := 0) (by decide +kernel) ⟨by decide, by decide, by decide, by decide⟩ ⟨by decide, by decide, by decide, by decide, by decide, by decide, by decide, by decide, by decide⟩ (by intro x hx; simp only [List.mem_cons, List.not_mem_nil, or_false] at hx) (by decide) (by decide)) (Wt.none rfl) rfl ?_
  rintro _ _ ⟨rfl, hA_⟩
  replace hA_ := hA_.symm; subst hA_
  refine RunL.nil ?_
  refine Run.sr ?_
  refine RunL.mv rfl rfl ?_
  first | refine RunL.loadA (vs := (cEdu ((⟨3, .empty, ⟨#[64, 97, 58, 115]⟩, .empty, .empty, false, false, 0, 1, 0, 2⟩ : Edu)))) rfl (by first | ((repeat (first | (with_reducible exact Find.here _) | apply Find.there)); done) | (repeat (first | exact Find.here _ | apply Find.there))) agg31 sz31 (by first | exact Nat.le_of_ble_eq_true rfl | (simp; done) | (simp; omega)) rfl (Wt.none rfl) rfl ?_ | refine RunL.loadNR (vs := (cEdu ((⟨3, .empty, ⟨#[64, 97, 58, 115]⟩, .empty, .empty, false, false, 0, 1, 0, 2⟩ : Edu)))) rfl (by assumption) agg31 sz31 (by first | exact Nat.le_of_ble_eq_true rfl | (simp; done) | (simp; omega)) rfl (Wt.none rfl) rfl ?_
  refine RunL.call rfl rfl (by rfl) (by repeat (first | (with_reducible exact Take.nil _) | (apply Take.cons (by first | ((repeat (first | (with_reducible exact Find.here _) | apply Find.there)); done) | (repeat (first | exact Find.here _ | apply Find.there)))))) (PutX_ctr (p := p) (most := 3) (lost := 0) (l := [(⟨3, .empty, ⟨#[64, 97, 58, 115]⟩, .empty, .empty, false, false, 0, 0, 0, 1⟩ : Edu)]) (e := (⟨3, .empty, ⟨#[64, 97, 58, 115]⟩, .empty, .empty, false, false, 0, 1, 0, 2⟩ : Edu)) (l2 := [(⟨3, .empty, ⟨#[64, 97, 58, 115]⟩, .empty, .empty, false, false, 0, 1, 0, 2⟩ : Edu)]) (lost2 := 0) (g := zeroE) (is := false) (er := 0) (by decide +kernel) ⟨by decide, by decide, by decide, by decide⟩ ⟨by decide, by decide, by decide, by decide, by decide, by decide, by decide, by decide, by decide⟩ (by intro x hx; simp only [List.mem_cons, List.not_mem_nil, or_false] at hx; rcases hx with rfl; exact ⟨⟨by decide, by decide, by decide, by decide⟩, ⟨by decide, by decide, by decide, by decide, by decide, by decide, by decide, by decide, by decide⟩⟩) (by decide) (by decide)) (Wt.none rfl) rfl ?_
  rintro _ _ ⟨rfl, hA_⟩
  replace hA_ := hA_.symm; subst hA_
  refine RunL.nil ?_
  refine Run.sr ?_
  refine RunL.mv rfl rfl ?_
  first | refine RunL.loadA (vs := (cEdu ((⟨3, .empty, ⟨#[64, 97, 58, 115]⟩, .empty, .empty, false, false, 0, 0, 0, 1⟩ : Edu)))) rfl (by first | ((repeat (first | (with_reducible exact Find.here _) | apply Find.there)); done) | (repeat (first | exact Find.here _ | apply Find.there))) agg31 sz31 (by first | exact Nat.le_of_ble_eq_true rfl | (simp; done) | (simp; omega)) rfl (Wt.none rfl) rfl ?_ | refine RunL.loadNR (vs := (cEdu ((⟨3, .empty, ⟨#[64, 97, 58, 115]⟩, .empty, .empty, false, false, 0, 0, 0, 1⟩ : Edu)))) rfl (by assumption) agg31 sz31 (by first | exact Nat.le_of_ble_eq_true rfl | (simp; done) | (simp; omega)) rfl (Wt.none rfl) rfl ?_
  refine RunL.call rfl rfl (by rfl) (by repeat (first | (with_reducible exact Take.nil _) | (apply Take.cons (by first | ((repeat (first | (with_reducible exact Find.here _) | apply Find.there)); done) | (repeat (first | exact Find.here _ | apply Find.there)))))) (PutX_ctr (p := p) (most := 3) (lost := 0) (l := [(⟨3, .empty, ⟨#[64, 97, 58, 115]⟩, .empty, .empty, false, false, 0, 1, 0, 2⟩ : Edu)]) (e := (⟨3, .empty, ⟨#[64, 97, 58, 115]⟩, .empty, .empty, false, false, 0, 0, 0, 1⟩ : Edu)) (l2 := [(⟨3, .empty, ⟨#[64, 97, 58, 115]⟩, .empty, .empty, false, false, 0, 1, 0, 2⟩ : Edu)]) (lost2 := 0) (g := zeroE) (is := false) (er := 0) (by decide +kernel) ⟨by decide, by decide, by decide, by decide⟩ ⟨by decide, by decide, by decide, by decide, by decide, by decide, by decide, by decide, by decide⟩ (by intro x hx; simp only [List.mem_cons, List.not_mem_nil, or_false] at hx; rcases hx with rfl; exact ⟨⟨by decide, by decide, by decide, by decide⟩, ⟨by decide, by decide, by decide, by decide, by decide, by decide, by decide, by decide, by decide⟩⟩) (by decide) (by decide)) (Wt.none rfl) rfl ?_
  rintro _ _ ⟨rfl, hA_⟩
  replace hA_ := hA_.symm; subst hA_
  refine RunL.nil ?_
  refine Run.sr ?_
  refine RunL.mv rfl rfl ?_
  refine RunL.call rfl rfl (by rfl) (by repeat (first | (with_reducible exact Take.nil _) | (apply Take.cons (by first | ((repeat (first | (with_reducible exact Find.here _) | apply Find.there)); done) | (repeat (first | exact Find.here _ | apply Find.there)))))) (qAll_ctr (by decide)) (Wt.none rfl) rfl ?_
  rintro _ _ ⟨a, c, rfl, hA_⟩
  replace hA_ := hA_.symm; subst hA_
  refine RunL.as rfl rfl ?_
  refine RunL.nil ?_
  refine Run.openSl (T := 31) (a := a) (n := [(⟨3, .empty, ⟨#[64, 97, 58, 115]⟩, .empty, .empty, false, false, 0, 1, 0, 2⟩ : Edu)].length) (by first | ((repeat (first | (with_reducible exact Find.here _) | apply Find.there)); done) | (repeat (first | exact Find.here _ | apply Find.there))) (by decide) ?_; rintro b9 pre9 post9 rfl hsl1 hsl2 hsl3
  have hb1 : [(⟨3, .empty, ⟨#[64, 97, 58, 115]⟩, .empty, .empty, false, false, 0, 1, 0, 2⟩ : Edu)].length = 1 := rfl
  refine Run.seq ?_
  refine Run.regionD' (by kernel_rfl) (by kernel_rfl) (fun hok69 => ?_)
  refine RunD.lend (Q := row b4 31 _) Lends.row (by first | ((repeat (first | (with_reducible exact Find.here _) | apply Find.there)); done) | (repeat (first | exact Find.here _ | apply Find.there))) ?_; intro gl1 hlegl1 hl1 backgl1
  refine RunD.lend (Q := row b9 _ _) Lends.row (by first | ((repeat (first | (with_reducible exact Find.here _) | apply Find.there)); done) | (repeat (first | exact Find.here _ | apply Find.there))) ?_; intro g9 hleg9 hb9 backg9
  try (replace hl1 := hl1.mono hleg9)
  refine RunD.pure (i := 0) hok69 rfl (by kernel_rfl) (Pure.move rfl) (Wt.none rfl) rfl rfl ?_
  refine RunD.pure (i := 1) hok69 rfl (by kernel_rfl) (Pure.lenSl rfl rfl und37) (Wt.none rfl) rfl rfl ?_
  refine RunD.pure (i := 2) hok69 rfl (by kernel_rfl) (Pure.eql rfl rfl) (Wt.none rfl) rfl rfl ?_
  refine RunD.pure (i := 3) hok69 rfl (by kernel_rfl) (Pure.move rfl) (Wt.none rfl) rfl rfl ?_
  refine RunD.split (d := 32) rfl (fun hg2 => ?_) (fun hg2 => ?_)
  rotate_left
  · try simp only [decide_eq_true_eq, decide_eq_false_iff_not, beq_iff_eq, beq_eq_false_iff_ne, bne_iff_ne, ne_eq, Bool.not_eq_true', Bool.not_eq_false', Bool.not_eq_true, Bool.not_eq_false, Int.not_lt, Int.not_le, Decidable.not_not, bne_eq_false_iff_eq, gt_iff_lt, ge_iff_le, Bool.or_eq_true, Bool.and_eq_true] at hg2
    exfalso
    first | (simp_all; done) | (simp_all; omega) | omega | grind
  try simp only [decide_eq_true_eq, decide_eq_false_iff_not, beq_iff_eq, beq_eq_false_iff_ne, bne_iff_ne, ne_eq, Bool.not_eq_true', Bool.not_eq_false', Bool.not_eq_true, Bool.not_eq_false, Int.not_lt, Int.not_le, Decidable.not_not, bne_eq_false_iff_eq, gt_iff_lt, ge_iff_le, Bool.or_eq_true, Bool.and_eq_true] at hg2
  refine RunD.pure (i := 4) hok69 rfl (by kernel_rfl) (Pure.move rfl) (Wt.yes rfl rfl rfl) rfl rfl ?_
  refine RunD.pure (i := 5) hok69 rfl (by kernel_rfl) (Pure.indexAddr rfl rfl und37 sz31 (by omega) (by omega)) (Wt.yes rfl rfl rfl) rfl rfl ?_
  refine RunD.loadNR (vs := (cEdu ((⟨3, .empty, ⟨#[64, 97, 58, 115]⟩, .empty, .empty, false, false, 0, 1, 0, 2⟩ : Edu)))) (i := 6) hok69 rfl (by kernel_rfl) rfl hb9 agg31 sz31 (elemN_len (pre := pre9) (post := post9) (f := cEdu) (sz := 11) (j := 0) (n := 11) (fun _ _ => rfl) (show [(⟨3, .empty, ⟨#[64, 97, 58, 115]⟩, .empty, .empty, false, false, 0, 1, 0, 2⟩ : Edu)][0]? = some (⟨3, .empty, ⟨#[64, 97, 58, 115]⟩, .empty, .empty, false, false, 0, 1, 0, 2⟩ : Edu) from rfl) (by decide)) ((elemN_at (pre := pre9) (post := post9) (f := cEdu) (sz := 11) (j := 0) (n := 11) (fun _ _ => rfl) (show [(⟨3, .empty, ⟨#[64, 97, 58, 115]⟩, .empty, .empty, false, false, 0, 1, 0, 2⟩ : Edu)][0]? = some (⟨3, .empty, ⟨#[64, 97, 58, 115]⟩, .empty, .empty, false, false, 0, 1, 0, 2⟩ : Edu) from rfl) (by decide)).trans rfl) (Wt.yes rfl rfl rfl) rfl ?_
  refine RunD.loadNR (vs := (cEdu ((⟨3, .empty, ⟨#[64, 97, 58, 115]⟩, .empty, .empty, false, false, 0, 1, 0, 2⟩ : Edu)))) (i := 7) hok69 rfl (by kernel_rfl) rfl (by assumption) agg31 sz31 (by first | exact Nat.le_of_ble_eq_true rfl | (simp; done) | (simp; omega)) rfl (Wt.yes rfl rfl rfl) rfl ?_
  refine RunD.pure (i := 8) hok69 rfl (by kernel_rfl) (Pure.aeql rfl rfl eqg31 (eqv31 ((⟨3, .empty, ⟨#[64, 97, 58, 115]⟩, .empty, .empty, false, false, 0, 1, 0, 2⟩ : Edu)) ((⟨3, .empty, ⟨#[64, 97, 58, 115]⟩, .empty, .empty, false, false, 0, 1, 0, 2⟩ : Edu))) (by decide)) (Wt.yes rfl rfl rfl) rfl rfl ?_
  refine RunD.pure (i := 9) hok69 rfl (by kernel_rfl) (Pure.pickT rfl rfl) (Wt.none rfl) rfl rfl ?_
  refine RunD.pure (i := 10) hok69 rfl (by kernel_rfl) (Pure.assign rfl) (Wt.none rfl) rfl rfl ?_
  refine RunD.nilB (by kernel_rfl) (fun w sw => backgl1 _ _ (backg9 _ _ (sw))) ?_
  exact Run.ret Try.func11 (res1 rfl rfl) (by exact ⟨by rw [decide_eq_true rfl], rfl⟩) (by repeat (first | (with_reducible exact Fin.done (by repeat (first | (with_reducible exact Rest.here) | apply Rest.there))) | (apply Fin.cons (by first | ((repeat (first | (with_reducible exact Find.here _) | apply Find.there)); done) | (repeat (first | exact Find.here _ | apply Find.there))))))

end Go.Proofs.Ytnmpbpadpkgboaa
