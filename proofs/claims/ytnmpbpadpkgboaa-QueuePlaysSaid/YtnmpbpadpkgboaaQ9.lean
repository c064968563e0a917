/- Take. -/
import Derived.Test.YtnmpbpadpkgboaaQ8
set_option linter.unusedVariables false
set_option linter.unusedSimpArgs false
set_option linter.unusedSectionVars false
namespace Go.Proofs.Ytnmpbpadpkgboaa
open Go Csl


namespace Csl
def takeN (z : Int) (l : List Edu) : Nat := min (max z 0).toNat l.length
theorem takeN_len (z : Int) (l : List Edu) : (min (max z 0) (l.length : Int)).toNat = (l.take (takeN z l)).length := by rw [List.length_take]; unfold takeN; omega
theorem St.qu_nodup {G : Gp} {A : List HProp} {w : World} {p : Nat} {most lost : Int} {l : List Edu} (s : St G (Qu p most lost l :: A) w) : (l.map eKey).Nodup := by
  unfold Qu at s
  obtain ⟨x, hx, _⟩ := s.openEx
  exact hx.2.2.2
theorem drop_eq {l : List Edu} {i : Nat} {x : Edu} (h : l[i]? = some x) : l.drop i = x :: l.drop (i + 1) := by
  obtain ⟨hl, rfl⟩ := List.getElem?_eq_some_iff.1 h
  exact List.drop_eq_getElem_cons hl
theorem offK_drop {l : List Edu} {i : Nat} {x : Edu} (hn : (l.map eKey).Nodup) (h : l[i]? = some x) : offK (l.drop i) (eKey x) = l.drop (i + 1) := by
  rw [drop_eq h]
  apply offK_head
  rw [← drop_eq h, List.map_drop]
  exact hn.sublist (List.drop_sublist _ _)
def keepL (xs l : List Edu) (i : Nat) : List Edu := (l.take i).filter (fun x => decide (x ∈ xs)) ++ l.drop i
theorem keepL_zero (xs l : List Edu) : keepL xs l 0 = l := by simp [keepL]
theorem keepL_all (xs l : List Edu) : keepL xs l l.length = l.filter (fun x => decide (x ∈ xs)) := by simp [keepL]
theorem keepL_len (xs l : List Edu) (i : Nat) : (keepL xs l i).length ≤ l.length := by
  unfold keepL
  have := List.length_filter_le (fun x => decide (x ∈ xs)) (l.take i)
  rw [List.length_append, List.length_drop]
  rw [List.length_take] at this
  omega
theorem keepL_in {xs l : List Edu} {i : Nat} {x : Edu} (h : l[i]? = some x) (hx : x ∈ xs) : keepL xs l i = keepL xs l (i + 1) := by
  unfold keepL
  rw [List.take_add_one, h, List.filter_append, drop_eq h]
  simp [hx]
theorem keepL_out {xs l : List Edu} {i : Nat} {x : Edu} (hn : (l.map eKey).Nodup) (h : l[i]? = some x) (hx : x ∉ xs) : offK (keepL xs l i) (eKey x) = keepL xs l (i + 1) := by
  have h1 : offK (l.drop i) (eKey x) = l.drop (i + 1) := offK_drop hn h
  unfold keepL
  rw [List.take_add_one, h, List.filter_append]
  unfold offK at *
  rw [List.filter_append, h1]
  have h2 : ((l.take i).filter (fun x => decide (x ∈ xs))).filter (fun y => decide (eKey y ≠ eKey x)) = (l.take i).filter (fun x => decide (x ∈ xs)) := by
    rw [List.filter_eq_self]
    intro y hy
    have hy := (List.mem_filter.1 hy).1
    obtain ⟨j, hj, e⟩ := List.getElem_of_mem hy
    rw [List.length_take] at hj
    rw [List.getElem_take] at e
    simp only [decide_eq_true_eq]
    intro q
    have hi := (List.getElem?_eq_some_iff.1 h).1
    have := (List.getElem_inj (h₀ := show j < (l.map eKey).length by rw [List.length_map]; omega) (h₁ := show i < (l.map eKey).length by rw [List.length_map]; exact hi) hn).1 (by rw [List.getElem_map, List.getElem_map, e, (List.getElem?_eq_some_iff.1 h).2]; exact q)
    omega
  rw [h2]
  simp [hx]
end Csl

set_option maxHeartbeats 4000000 in
set_option maxRecDepth 100000 in
theorem Take_ctr {G : Gp} {p : Nat} {most lost : Int} {l : List Edu} {z : Int} (hb : l.length ≤ 900) :
    Ctr Try.prog G 23 [.pointer (some ⟨p, 0, none⟩), .int .i64 z] [Qu p most lost l] (fun F v A => ∃ a c, v = .slice a (l.take (takeN z l)).length c ∧ A = Sl 31 11 a (l.take (takeN z l)).length c (((l.take (takeN z l))).flatMap cEdu) :: Qu p most lost (l.drop (takeN z l)) :: F) := by
  refine Ctr.intro Try.func23 rfl (by kernel_rfl) rfl (fun F => ?_)
  simp only [List.cons_append, List.nil_append]
  refine Run.know (fun w s => (s.find (p := Qu p most lost (l)) (by first | ((repeat (first | (with_reducible exact Find.here _) | apply Find.there)); done) | (repeat (first | exact Find.here _ | apply Find.there)))).qu_nodup) ?_; intro hnd
  refine Run.sr ?_
  refine RunL.as rfl rfl ?_
  refine RunL.nil ?_
  refine Run.sr ?_
  refine RunL.mv rfl rfl ?_
  refine RunL.call rfl rfl (by rfl) (by repeat (first | (with_reducible exact Take.nil _) | (apply Take.cons (by first | ((repeat (first | (with_reducible exact Find.here _) | apply Find.there)); done) | (repeat (first | exact Find.here _ | apply Find.there)))))) (qAll_ctr (by omega)) (Wt.none rfl) rfl ?_
  rintro _ _ ⟨a, c, rfl, hA_⟩
  replace hA_ := hA_.symm; subst hA_
  refine RunL.as rfl rfl ?_
  refine RunL.nil ?_
  refine Run.slLen (T := 31) (sz := 11) (n := l.length) (by first | ((repeat (first | (with_reducible exact Find.here _) | apply Find.there)); done) | (repeat (first | exact Find.here _ | apply Find.there))) ?_; intro ⟨_, hcap⟩
  refine Run.sr ?_
  refine RunL.mv rfl rfl ?_
  refine RunL.mv rfl rfl ?_
  refine RunL.pure (Pure.max2 rfl rfl) (Wt.none rfl) rfl rfl ?_
  refine RunL.mv rfl rfl ?_
  refine RunL.pure (Pure.lenSl rfl rfl und37) (Wt.none rfl) rfl rfl ?_
  refine RunL.pure (Pure.min2 rfl rfl) (Wt.none rfl) rfl rfl ?_
  refine RunL.pure (Pure.sliceTo rfl rfl und37 sz31 (by first | omega | (simp; done) | (simp; omega)) (by first | omega | (simp; done) | (simp; omega))) (Wt.none rfl) rfl rfl ?_
  rw [show (min (max z 0) (l.length : Int)).toNat = (l.take (takeN z l)).length from takeN_len z l]
  refine RunL.toSlF (f := cEdu) (xs := l) (takeN z l) (fun _ _ => rfl) (by first | ((repeat (first | (with_reducible exact Find.here _) | apply Find.there)); done) | (repeat (first | exact Find.here _ | apply Find.there))) (Nat.min_le_right _ _) ?_
  refine RunL.as rfl rfl ?_
  refine RunL.nil ?_
  refine Run.seq ?_
  refine Run.sr ?_
  refine RunL.mv rfl rfl ?_
  refine RunL.pure (Pure.lenSl rfl rfl und37) (Wt.none rfl) rfl rfl ?_
  refine RunL.mv rfl rfl ?_
  refine RunL.nil ?_
  refine Run.block ?_
  refine Run.keep (.cons rfl (.cons rfl (.cons rfl (.cons rfl (.cons rfl (.nil))))) : Keep _ [0, 5, 17, 18, 19] _) ?_
  refine Run.loopF (F := F) (fun n e_ A => ∃ i : Nat, i ≤ (l.take (takeN z l)).length ∧ n = (l.take (takeN z l)).length - i ∧ e_ = [(0, .pointer (some ⟨p, 0, none⟩)), (5, .slice a (l.take (takeN z l)).length c), (17, .slice a (l.take (takeN z l)).length c), (18, .int .i64 ((l.take (takeN z l)).length : Nat)), (19, .int .i64 (i : Nat))] ∧ A = Sl 31 11 a (l.take (takeN z l)).length c (((l.take (takeN z l))).flatMap cEdu) :: Qu p most lost (l.drop i) :: F) ((l.take (takeN z l)).length) (by exact ⟨0, by omega, rfl, rfl, rfl⟩) (by repeat (first | (with_reducible exact Fin.done (by repeat (first | (with_reducible exact Rest.here) | apply Rest.there))) | (apply Fin.cons (by first | ((repeat (first | (with_reducible exact Find.here _) | apply Find.there)); done) | (repeat (first | exact Find.here _ | apply Find.there)))))) ?_
  rintro n _ _ ⟨i, hi, rfl, rfl, hA_⟩ ih
  replace hA_ := hA_.symm; subst hA_
  refine Run.sr ?_
  refine RunL.pure (Pure.lss rfl rfl) (Wt.none rfl) rfl rfl ?_
  refine RunL.nil ?_
  refine Run.seq ?_
  refine Run.cond rfl (fun h1 => ?_) (fun h1 => ?_)
  · try simp only [decide_eq_true_eq, decide_eq_false_iff_not, beq_iff_eq, beq_eq_false_iff_ne, bne_iff_ne, ne_eq, Bool.not_eq_true', Bool.not_eq_false', Bool.not_eq_true, Bool.not_eq_false, Int.not_lt, Int.not_le, Decidable.not_not, bne_eq_false_iff_eq, gt_iff_lt, ge_iff_le, Bool.or_eq_true, Bool.and_eq_true] at h1
    obtain ⟨x, hx⟩ := get_some (xs := (l.take (takeN z l))) (i := i) (by omega)
    have hyl : (l.take (takeN z l)).length ≤ 900 := by rw [List.length_take]; omega
    have hxl : l[i]? = some x := by rw [List.getElem?_take] at hx; split at hx; exact hx; cases hx
    refine Run.openSl (T := 31) (a := a) (n := (l.take (takeN z l)).length) (by first | ((repeat (first | (with_reducible exact Find.here _) | apply Find.there)); done) | (repeat (first | exact Find.here _ | apply Find.there))) (by omega) ?_; rintro b2 pre2 post2 rfl hsl1 hsl2 hsl3
    refine Run.skip ?_
    refine Run.seq ?_
    refine Run.block ?_
    refine Run.sr ?_
    refine RunL.pure (Pure.indexAddr rfl rfl und37 sz31 (by omega) (by omega)) (Wt.none rfl) rfl rfl ?_
    refine RunL.loadA (vs := (cEdu x)) rfl (by first | ((repeat (first | (with_reducible exact Find.here _) | apply Find.there)); done) | (repeat (first | exact Find.here _ | apply Find.there))) agg31 sz31 (elemN_len (f := cEdu) (sz := 11) (j := 0) (n := 11) (fun _ _ => rfl) hx (by decide)) ((elemN_at (f := cEdu) (sz := 11) (j := 0) (n := 11) (fun _ _ => rfl) hx (by decide)).trans rfl) (Wt.none rfl) rfl ?_
    refine RunL.alloc zz31 (Wt.none rfl) rfl ?_; intro b7
    refine RunL.storeW (xs := (cEdu x)) rfl rfl (by first | ((repeat (first | (with_reducible exact Find.here _) | apply Find.there)); done) | (repeat (first | exact Find.here _ | apply Find.there))) sz31 (by rfl) (by rfl) (by rfl) (Wt.none rfl) ?_
    refine RunL.nil ?_
    refine Run.mkSl (b := b2) (pre := pre2) (post := post2) (sz := 11) (cs := (l.take (takeN z l)).flatMap cEdu) (n := (l.take (takeN z l)).length) (by first | ((repeat (first | (with_reducible exact Find.here _) | apply Find.there)); done) | (repeat (first | exact Find.here _ | apply Find.there))) hsl1 hsl2 hsl3 ?_
    refine Run.region ?_
    refine RunL.mv rfl rfl ?_
    first | refine RunL.loadA (vs := (cEdu x)) rfl (by first | ((repeat (first | (with_reducible exact Find.here _) | apply Find.there)); done) | (repeat (first | exact Find.here _ | apply Find.there))) agg31 sz31 (by first | exact Nat.le_of_ble_eq_true rfl | (simp; done) | (simp; omega)) rfl (Wt.none rfl) rfl ?_ | refine RunL.loadNR (vs := (cEdu x)) rfl (by assumption) agg31 sz31 (by first | exact Nat.le_of_ble_eq_true rfl | (simp; done) | (simp; omega)) rfl (Wt.none rfl) rfl ?_
    refine RunL.call rfl rfl (by rfl) (by repeat (first | (with_reducible exact Take.nil _) | (apply Take.cons (by first | ((repeat (first | (with_reducible exact Find.here _) | apply Find.there)); done) | (repeat (first | exact Find.here _ | apply Find.there)))))) (Of_ctr (e := x)) (Wt.none rfl) rfl ?_
    rintro _ _ ⟨rfl, hA_⟩
    replace hA_ := hA_.symm; subst hA_
    refine RunL.call rfl rfl (by rfl) (by repeat (first | (with_reducible exact Take.nil _) | (apply Take.cons (by first | ((repeat (first | (with_reducible exact Find.here _) | apply Find.there)); done) | (repeat (first | exact Find.here _ | apply Find.there)))))) (qdrop_ctr (k := eKey x) (by rw [List.length_drop]; omega)) (Wt.none rfl) rfl ?_
    rintro _ _ ⟨rfl, hA_⟩
    replace hA_ := hA_.symm; subst hA_
    rw [offK_drop hnd hxl]
    refine RunL.nil ?_
    refine Run.inBlock ?_
    refine Run.region ?_
    first | refine RunL.pure (Pure.addI rfl rfl (by omega)) (Wt.none rfl) rfl rfl ?_ | refine RunL.pure (Pure.add rfl rfl) (Wt.none rfl) rfl rfl ?_
    refine RunL.mv rfl rfl ?_
    refine RunL.nil ?_
    refine Run.keep (.cons rfl (.cons rfl (.cons rfl (.cons rfl (.cons rfl (.nil))))) : Keep _ [0, 5, 17, 18, 19] _) ?_
    refine Run.againF (F := F) ih (by exact ⟨i + 1, by omega, rfl, rfl, rfl⟩) (by repeat (first | (with_reducible exact Fin.done (by repeat (first | (with_reducible exact Rest.here) | apply Rest.there))) | (apply Fin.cons (by first | ((repeat (first | (with_reducible exact Find.here _) | apply Find.there)); done) | (repeat (first | exact Find.here _ | apply Find.there)))))) ?_
    omega
  · try simp only [decide_eq_true_eq, decide_eq_false_iff_not, beq_iff_eq, beq_eq_false_iff_ne, bne_iff_ne, ne_eq, Bool.not_eq_true', Bool.not_eq_false', Bool.not_eq_true, Bool.not_eq_false, Int.not_lt, Int.not_le, Decidable.not_not, bne_eq_false_iff_eq, gt_iff_lt, ge_iff_le, Bool.or_eq_true, Bool.and_eq_true] at h1
    refine Run.exit rfl ?_
    refine Run.sr ?_
    refine RunL.mv rfl rfl ?_
    refine RunL.as rfl rfl ?_
    refine RunL.nil ?_
    obtain rfl : i = takeN z l := by have := takeN_len z l; unfold takeN at *; rw [List.length_take] at *; omega
    exact Run.ret Try.func23 (res1 rfl rfl) (by exact ⟨_, _, rfl, rfl⟩) (by repeat (first | (with_reducible exact Fin.done (by repeat (first | (with_reducible exact Rest.here) | apply Rest.there))) | (apply Fin.cons (by first | ((repeat (first | (with_reducible exact Find.here _) | apply Find.there)); done) | (repeat (first | exact Find.here _ | apply Find.there))))))

end Go.Proofs.Ytnmpbpadpkgboaa
