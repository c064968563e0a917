/- Tables of marks. -/
import Derived.Test.YtaeacdhilekcbaaR3
set_option linter.unusedVariables false
set_option linter.unusedSimpArgs false
namespace Go.Proofs.Ytaeacdhilekcbaa
open Go Csl
theorem zz28 : zeroIs Try.prog 28 = some (.agg #[(.string .empty), (.string .empty), (.string .empty), (.bool false), (.int .i64 0), (.string .empty)]) := by kernel_rfl
theorem fo28_0 : fieldOff Try.prog 28 0 = some 0 := by kernel_rfl
theorem fo28_1 : fieldOff Try.prog 28 1 = some 4 := by kernel_rfl
theorem pl24 : placesOf Try.prog 24 = some ([(0, 1), (1, 1), (2, 1), (3, 1)], (.agg #[(.string .empty), (.string .empty), (.string .empty), (.bool false)])) := by kernel_rfl
theorem pl26 : placesOf Try.prog 26 = some ([(0, 1), (1, 1)], (.agg #[(.int .i64 0), (.string .empty)])) := by kernel_rfl
theorem pl28 : placesOf Try.prog 28 = some ([(0, 4), (4, 2)], (.agg #[(.string .empty), (.string .empty), (.string .empty), (.bool false), (.int .i64 0), (.string .empty)])) := by kernel_rfl
theorem pl63 : placesOf Try.prog 63 = some ([(0, 1)], (.agg #[(.map none)])) := by kernel_rfl
theorem zz26 : zeroIs Try.prog 26 = some (.agg #[(.int .i64 0), (.string .empty)]) := by kernel_rfl
theorem fo63_0 : fieldOff Try.prog 63 0 = some 0 := by kernel_rfl
theorem agg61 : isAggOf Try.prog 61 = some false := by kernel_rfl
theorem und61 : Try.prog.underlying 61 = some (Go.TypeDesc.map 36 26) := Try.underlying61
theorem und29 : Try.prog.underlying 29 = some (Go.TypeDesc.pointer 63) := Try.underlying29
theorem pl36 : placesOf Try.prog 36 = some ([(0, 1), (1, 1), (2, 1), (3, 1)], (.agg #[(.string .empty), (.string .empty), (.string .empty), (.bool false)])) := by kernel_rfl

namespace Csl
def goodM (m : M) : M := ⟨⟨roomOf m.k.room.size, userOf m.k.user.size, threadOf m.k.thread.size, m.k.priv⟩, ⟨around m.pos.depth 4, eventOf m.pos.id.size⟩⟩
def fewM (m : M) : M := ⟨⟨cut m.k.room 6, cut m.k.user 6, cut m.k.thread 6, m.k.priv⟩, ⟨m.pos.depth, cut m.pos.id 6⟩⟩
section
variable {c : Cx} {G : Gp} {ops : Array Oper} {kk : KT} {e : Env} {A A' : List HProp} {lo : List Oper} {st : List Item} {p r : Nat} {l : List (K × Pos)}
theorem Run.openTb (hf : Find (Tb p l) A A') (next : ∀ r, Run c G st e (row p 63 [.map (some r)] :: Mp r (menc eK eP l) :: A')) : Run c G st e A := Run.openEx hf fun r _ => next r
theorem RunL.openTb (hf : Find (Tb p l) A A') (next : ∀ r, RunL c G ops lo kk e (row p 63 [.map (some r)] :: Mp r (menc eK eP l) :: A')) : RunL c G ops lo kk e A := RunL.openEx hf fun r _ => next r
theorem Run.mkTb (l : List (K × Pos)) (ht : Take [row p 63 [.map (some r)], Mp r (menc eK eP l)] A A') (next : Run c G st e (Tb p l :: A')) : Run c G st e A := Run.mkEx r ht trivial next
theorem RunL.mkTb (l : List (K × Pos)) (ht : Take [row p 63 [.map (some r)], Mp r (menc eK eP l)] A A') (next : RunL c G ops lo kk e (Tb p l :: A')) : RunL c G ops lo kk e A := RunL.mkEx r ht trivial next
end
theorem adopts_eq (l : List (K × Pos)) (k : K) (q : Pos) : adopts l k q = (!(mget k l).isSome || decide (cmpPos ((mget k l).getD noPos) q < 0)) := by
  unfold adopts; cases mget k l <;> simp
end Csl

set_option maxRecDepth 100000 in
theorem Good_ctr {G : Gp} {m : M} (hm : okM m) :
    Ctr Try.prog G 10 [.agg (cM m).toArray] [] (fun F v A => v = .agg (cM (goodM m)).toArray ∧ A = F) := by
  refine Ctr.intro Try.func10 rfl (by kernel_rfl) rfl (fun F => ?_)
  simp only [List.nil_append]
  obtain ⟨⟨hm1, hm2, hm3⟩, hm4, hm5⟩ := hm
  replace hm4 := wf_i64 hm4
  refine Run.sr ?_
  refine RunL.boxA (xs := (cM m)) rfl (Wt.none rfl) rfl ?_; intro b1
  refine RunL.alloc zz28 (Wt.none rfl) rfl ?_; intro b2
  refine RunL.nil ?_
  refine Run.seq ?_
  refine Run.regionD' (by kernel_rfl) (by kernel_rfl) (fun hok5 => ?_)
  refine RunD.lend (Q := row b1 28 _) Lends.row (by first | ((repeat (first | (with_reducible exact F0 _) | apply F1)); done) | (repeat (first | exact F0 _ | apply F1))) ?_; intro g1 hleg1 hb1 backg1
  refine RunD.pure (i := 0) hok5 rfl (by kernel_rfl) (Pure.fieldAddr rfl fo28_0) (Wt.none rfl) rfl rfl ?_
  refine RunD.pure (i := 1) hok5 rfl (by kernel_rfl) (Pure.fieldAddr rfl fo24_0) (Wt.none rfl) rfl rfl ?_
  refine RunD.load1R (i := 2) hok5 rfl (by kernel_rfl) rfl (by assumption) (by rfl) agg9 (Wt.none rfl) rfl ?_
  refine RunD.pure (i := 3) hok5 rfl (by kernel_rfl) (Pure.lenStr rfl rfl und9) (Wt.none rfl) rfl rfl ?_
  refine RunD.pure (i := 5) hok5 rfl (by kernel_rfl) (Pure.fieldAddr rfl fo28_0) (Wt.none rfl) rfl rfl ?_
  refine RunD.pure (i := 6) hok5 rfl (by kernel_rfl) (Pure.fieldAddr rfl fo24_1) (Wt.none rfl) rfl rfl ?_
  refine RunD.load1R (i := 7) hok5 rfl (by kernel_rfl) rfl (by assumption) (by rfl) agg9 (Wt.none rfl) rfl ?_
  refine RunD.pure (i := 8) hok5 rfl (by kernel_rfl) (Pure.lenStr rfl rfl und9) (Wt.none rfl) rfl rfl ?_
  refine RunD.pure (i := 10) hok5 rfl (by kernel_rfl) (Pure.fieldAddr rfl fo28_0) (Wt.none rfl) rfl rfl ?_
  refine RunD.pure (i := 11) hok5 rfl (by kernel_rfl) (Pure.fieldAddr rfl fo24_2) (Wt.none rfl) rfl rfl ?_
  refine RunD.load1R (i := 12) hok5 rfl (by kernel_rfl) rfl (by assumption) (by rfl) agg9 (Wt.none rfl) rfl ?_
  refine RunD.pure (i := 13) hok5 rfl (by kernel_rfl) (Pure.lenStr rfl rfl und9) (Wt.none rfl) rfl rfl ?_
  refine RunD.pure (i := 15) hok5 rfl (by kernel_rfl) (Pure.fieldAddr rfl fo28_0) (Wt.none rfl) rfl rfl ?_
  refine RunD.pure (i := 16) hok5 rfl (by kernel_rfl) (Pure.fieldAddr rfl fo24_3) (Wt.none rfl) rfl rfl ?_
  refine RunD.load1R (i := 17) hok5 rfl (by kernel_rfl) rfl (by assumption) (by rfl) agg4 (Wt.none rfl) rfl ?_
  refine RunD.pure (i := 19) hok5 rfl (by kernel_rfl) (Pure.fieldAddr rfl fo28_1) (Wt.none rfl) rfl rfl ?_
  refine RunD.pure (i := 20) hok5 rfl (by kernel_rfl) (Pure.fieldAddr rfl fo26_0) (Wt.none rfl) rfl rfl ?_
  refine RunD.load1R (i := 21) hok5 rfl (by kernel_rfl) rfl (by assumption) (by rfl) agg3 (Wt.none rfl) rfl ?_
  refine RunD.pure (i := 23) hok5 rfl (by kernel_rfl) (Pure.fieldAddr rfl fo28_1) (Wt.none rfl) rfl rfl ?_
  refine RunD.pure (i := 24) hok5 rfl (by kernel_rfl) (Pure.fieldAddr rfl fo26_1) (Wt.none rfl) rfl rfl ?_
  refine RunD.load1R (i := 25) hok5 rfl (by kernel_rfl) rfl (by assumption) (by rfl) agg9 (Wt.none rfl) rfl ?_
  refine RunD.pure (i := 26) hok5 rfl (by kernel_rfl) (Pure.lenStr rfl rfl und9) (Wt.none rfl) rfl rfl ?_
  refine RunD.one (i := 4) (by kernel_rfl) rfl ?_
  refine RunL.call rfl rfl (by rfl) (by repeat (first | (with_reducible exact Take.nil _) | (apply Take.cons (by first | ((repeat (first | (with_reducible exact F0 _) | apply F1)); done) | (repeat (first | exact F0 _ | apply F1)))))) (RoomOf_ctr (z := m.k.room.size) (by omega)) (Wt.none rfl) rfl ?_
  rintro _ _ ⟨rfl, hA_⟩
  replace hA_ := hA_.symm; subst hA_
  refine RunL.nilD' ?_
  refine RunD.one (i := 9) (by kernel_rfl) rfl ?_
  refine RunL.call rfl rfl (by rfl) (by repeat (first | (with_reducible exact Take.nil _) | (apply Take.cons (by first | ((repeat (first | (with_reducible exact F0 _) | apply F1)); done) | (repeat (first | exact F0 _ | apply F1)))))) (UserOf_ctr (z := m.k.user.size) (by omega)) (Wt.none rfl) rfl ?_
  rintro _ _ ⟨rfl, hA_⟩
  replace hA_ := hA_.symm; subst hA_
  refine RunL.nilD' ?_
  refine RunD.one (i := 14) (by kernel_rfl) rfl ?_
  refine RunL.call rfl rfl (by rfl) (by repeat (first | (with_reducible exact Take.nil _) | (apply Take.cons (by first | ((repeat (first | (with_reducible exact F0 _) | apply F1)); done) | (repeat (first | exact F0 _ | apply F1)))))) (ThreadOf_ctr (z := m.k.thread.size) (by omega)) (Wt.none rfl) rfl ?_
  rintro _ _ ⟨rfl, hA_⟩
  replace hA_ := hA_.symm; subst hA_
  refine RunL.nilD' ?_
  refine RunD.pure (i := 18) hok5 rfl (by kernel_rfl) (Pure.buildL (ps := [(0, _), (1, _), (2, _), (3, _)]) (zs := [(.string .empty), (.string .empty), (.string .empty), (.bool false)]) (xs := [_, _, _, _]) pl24 rfl rfl rfl rfl) (Wt.none rfl) rfl rfl ?_
  refine RunD.one (i := 22) (by kernel_rfl) rfl ?_
  refine RunL.call rfl rfl (by rfl) (by repeat (first | (with_reducible exact Take.nil _) | (apply Take.cons (by first | ((repeat (first | (with_reducible exact F0 _) | apply F1)); done) | (repeat (first | exact F0 _ | apply F1)))))) (Around_ctr hm4 (by decide)) (Wt.none rfl) rfl ?_
  rintro _ _ ⟨rfl, hA_⟩
  replace hA_ := hA_.symm; subst hA_
  refine RunL.nilD' ?_
  refine RunD.one (i := 27) (by kernel_rfl) rfl ?_
  refine RunL.call rfl rfl (by rfl) (by repeat (first | (with_reducible exact Take.nil _) | (apply Take.cons (by first | ((repeat (first | (with_reducible exact F0 _) | apply F1)); done) | (repeat (first | exact F0 _ | apply F1)))))) (EventOf_ctr (z := m.pos.id.size) (by omega)) (Wt.none rfl) rfl ?_
  rintro _ _ ⟨rfl, hA_⟩
  replace hA_ := hA_.symm; subst hA_
  refine RunL.nilD' ?_
  refine RunD.pure (i := 28) hok5 rfl (by kernel_rfl) (Pure.buildL (ps := [(0, _), (1, _)]) (zs := [(.int .i64 0), (.string .empty)]) (xs := [_, _]) pl26 rfl rfl rfl rfl) (Wt.none rfl) rfl rfl ?_
  refine RunD.pure (i := 29) hok5 rfl (by kernel_rfl) (Pure.buildL (ps := [(0, _), (1, _)]) (zs := [(.string .empty), (.string .empty), (.string .empty), (.bool false), (.int .i64 0), (.string .empty)]) (xs := [_, _, _, _, _, _]) pl28 rfl rfl rfl rfl) (Wt.none rfl) rfl rfl ?_
  refine RunD.one (i := 30) (by kernel_rfl) rfl ?_
  refine RunL.storeW (xs := (cM (goodM m))) rfl rfl (by first | ((repeat (first | (with_reducible exact F0 _) | apply F1)); done) | (repeat (first | exact F0 _ | apply F1))) sz28 (by rfl) (by rfl) (by rfl) (Wt.none rfl) ?_
  refine RunL.nilD' ?_
  refine RunD.nilB (by kernel_rfl) (fun w sw => backg1 _ _ (sw)) ?_
  exact Run.ret Try.func10 (resV1 rfl (Rv.cellN (us := (cM (goodM m))) rfl (by first | ((repeat (first | (with_reducible exact F0 _) | apply F1)); done) | (repeat (first | exact F0 _ | apply F1))) agg28 sz28 (by first | exact Nat.le_of_ble_eq_true rfl | (simp; done) | (simp; omega)) rfl)) (by exact ⟨rfl, rfl⟩) (by repeat (first | (with_reducible exact Fin.done (by repeat (first | (with_reducible exact Rest.here) | apply Rest.there))) | (apply Fin.cons (by first | ((repeat (first | (with_reducible exact F0 _) | apply F1)); done) | (repeat (first | exact F0 _ | apply F1))))))

set_option maxRecDepth 100000 in
theorem FewM_ctr {G : Gp} {m : M} :
    Ctr Try.prog G 11 [.agg (cM m).toArray] [] (fun F v A => v = .agg (cM (fewM m)).toArray ∧ A = F) := by
  refine Ctr.intro Try.func11 rfl (by kernel_rfl) rfl (fun F => ?_)
  simp only [List.nil_append]
  refine Run.sr ?_
  refine RunL.boxA (xs := (cM m)) rfl (Wt.none rfl) rfl ?_; intro b1
  refine RunL.alloc zz28 (Wt.none rfl) rfl ?_; intro b2
  refine RunL.nil ?_
  refine Run.sr ?_
  refine RunL.pure (Pure.fieldAddr rfl fo28_0) (Wt.none rfl) rfl rfl ?_
  refine RunL.pure (Pure.fieldAddr rfl fo24_0) (Wt.none rfl) rfl rfl ?_
  first | refine RunL.load1 rfl (by first | ((repeat (first | (with_reducible exact F0 _) | apply F1)); done) | (repeat (first | exact F0 _ | apply F1))) (by rfl) agg9 (Wt.none rfl) rfl ?_ | refine RunL.load1R rfl (by assumption) (by rfl) agg9 (Wt.none rfl) rfl ?_
  refine RunL.call rfl rfl (by rfl) (by repeat (first | (with_reducible exact Take.nil _) | (apply Take.cons (by first | ((repeat (first | (with_reducible exact F0 _) | apply F1)); done) | (repeat (first | exact F0 _ | apply F1)))))) (FewC_ctr (m := 6) (by decide) (by decide)) (Wt.none rfl) rfl ?_
  rintro _ _ ⟨rfl, hA_⟩
  replace hA_ := hA_.symm; subst hA_
  refine RunL.pure (Pure.fieldAddr rfl fo28_0) (Wt.none rfl) rfl rfl ?_
  refine RunL.pure (Pure.fieldAddr rfl fo24_0) (Wt.none rfl) rfl rfl ?_
  refine RunL.store1A (cs' := (cM ({ m with k.room := cut m.k.room 6 }))) rfl rfl (by first | ((repeat (first | (with_reducible exact F0 _) | apply F1)); done) | (repeat (first | exact F0 _ | apply F1))) sz9 (by rfl) (by first | exact Nat.le_of_ble_eq_true rfl | (simp; done) | (simp; omega)) rfl (Wt.none rfl) ?_
  refine RunL.nil ?_
  refine Run.sr ?_
  refine RunL.pure (Pure.fieldAddr rfl fo28_0) (Wt.none rfl) rfl rfl ?_
  refine RunL.pure (Pure.fieldAddr rfl fo24_1) (Wt.none rfl) rfl rfl ?_
  first | refine RunL.load1 rfl (by first | ((repeat (first | (with_reducible exact F0 _) | apply F1)); done) | (repeat (first | exact F0 _ | apply F1))) (by rfl) agg9 (Wt.none rfl) rfl ?_ | refine RunL.load1R rfl (by assumption) (by rfl) agg9 (Wt.none rfl) rfl ?_
  refine RunL.call rfl rfl (by rfl) (by repeat (first | (with_reducible exact Take.nil _) | (apply Take.cons (by first | ((repeat (first | (with_reducible exact F0 _) | apply F1)); done) | (repeat (first | exact F0 _ | apply F1)))))) (FewC_ctr (m := 6) (by decide) (by decide)) (Wt.none rfl) rfl ?_
  rintro _ _ ⟨rfl, hA_⟩
  replace hA_ := hA_.symm; subst hA_
  refine RunL.pure (Pure.fieldAddr rfl fo28_0) (Wt.none rfl) rfl rfl ?_
  refine RunL.pure (Pure.fieldAddr rfl fo24_1) (Wt.none rfl) rfl rfl ?_
  refine RunL.store1A (cs' := (cM ({ { m with k.room := cut m.k.room 6 } with k.user := cut m.k.user 6 }))) rfl rfl (by first | ((repeat (first | (with_reducible exact F0 _) | apply F1)); done) | (repeat (first | exact F0 _ | apply F1))) sz9 (by rfl) (by first | exact Nat.le_of_ble_eq_true rfl | (simp; done) | (simp; omega)) rfl (Wt.none rfl) ?_
  refine RunL.nil ?_
  refine Run.sr ?_
  refine RunL.pure (Pure.fieldAddr rfl fo28_0) (Wt.none rfl) rfl rfl ?_
  refine RunL.pure (Pure.fieldAddr rfl fo24_2) (Wt.none rfl) rfl rfl ?_
  first | refine RunL.load1 rfl (by first | ((repeat (first | (with_reducible exact F0 _) | apply F1)); done) | (repeat (first | exact F0 _ | apply F1))) (by rfl) agg9 (Wt.none rfl) rfl ?_ | refine RunL.load1R rfl (by assumption) (by rfl) agg9 (Wt.none rfl) rfl ?_
  refine RunL.call rfl rfl (by rfl) (by repeat (first | (with_reducible exact Take.nil _) | (apply Take.cons (by first | ((repeat (first | (with_reducible exact F0 _) | apply F1)); done) | (repeat (first | exact F0 _ | apply F1)))))) (FewC_ctr (m := 6) (by decide) (by decide)) (Wt.none rfl) rfl ?_
  rintro _ _ ⟨rfl, hA_⟩
  replace hA_ := hA_.symm; subst hA_
  refine RunL.pure (Pure.fieldAddr rfl fo28_0) (Wt.none rfl) rfl rfl ?_
  refine RunL.pure (Pure.fieldAddr rfl fo24_2) (Wt.none rfl) rfl rfl ?_
  refine RunL.store1A (cs' := (cM ({ { { m with k.room := cut m.k.room 6 } with k.user := cut m.k.user 6 } with k.thread := cut m.k.thread 6 }))) rfl rfl (by first | ((repeat (first | (with_reducible exact F0 _) | apply F1)); done) | (repeat (first | exact F0 _ | apply F1))) sz9 (by rfl) (by first | exact Nat.le_of_ble_eq_true rfl | (simp; done) | (simp; omega)) rfl (Wt.none rfl) ?_
  refine RunL.nil ?_
  refine Run.sr ?_
  refine RunL.pure (Pure.fieldAddr rfl fo28_1) (Wt.none rfl) rfl rfl ?_
  refine RunL.pure (Pure.fieldAddr rfl fo26_1) (Wt.none rfl) rfl rfl ?_
  first | refine RunL.load1 rfl (by first | ((repeat (first | (with_reducible exact F0 _) | apply F1)); done) | (repeat (first | exact F0 _ | apply F1))) (by rfl) agg9 (Wt.none rfl) rfl ?_ | refine RunL.load1R rfl (by assumption) (by rfl) agg9 (Wt.none rfl) rfl ?_
  refine RunL.call rfl rfl (by rfl) (by repeat (first | (with_reducible exact Take.nil _) | (apply Take.cons (by first | ((repeat (first | (with_reducible exact F0 _) | apply F1)); done) | (repeat (first | exact F0 _ | apply F1)))))) (FewC_ctr (m := 6) (by decide) (by decide)) (Wt.none rfl) rfl ?_
  rintro _ _ ⟨rfl, hA_⟩
  replace hA_ := hA_.symm; subst hA_
  refine RunL.pure (Pure.fieldAddr rfl fo28_1) (Wt.none rfl) rfl rfl ?_
  refine RunL.pure (Pure.fieldAddr rfl fo26_1) (Wt.none rfl) rfl rfl ?_
  refine RunL.store1A (cs' := (cM (fewM m))) rfl rfl (by first | ((repeat (first | (with_reducible exact F0 _) | apply F1)); done) | (repeat (first | exact F0 _ | apply F1))) sz9 (by rfl) (by first | exact Nat.le_of_ble_eq_true rfl | (simp; done) | (simp; omega)) rfl (Wt.none rfl) ?_
  refine RunL.nil ?_
  refine Run.sr ?_
  first | refine RunL.loadA (vs := (cM (fewM m))) rfl (by first | ((repeat (first | (with_reducible exact F0 _) | apply F1)); done) | (repeat (first | exact F0 _ | apply F1))) agg28 sz28 (by first | exact Nat.le_of_ble_eq_true rfl | (simp; done) | (simp; omega)) rfl (Wt.none rfl) rfl ?_ | refine RunL.loadNR (vs := (cM (fewM m))) rfl (by assumption) agg28 sz28 (by first | exact Nat.le_of_ble_eq_true rfl | (simp; done) | (simp; omega)) rfl (Wt.none rfl) rfl ?_
  refine RunL.storeW (xs := (cM (fewM m))) rfl rfl (by first | ((repeat (first | (with_reducible exact F0 _) | apply F1)); done) | (repeat (first | exact F0 _ | apply F1))) sz28 (by rfl) (by rfl) (by rfl) (Wt.none rfl) ?_
  refine RunL.nil ?_
  exact Run.ret Try.func11 (resV1 rfl (Rv.cellN (us := (cM (fewM m))) rfl (by first | ((repeat (first | (with_reducible exact F0 _) | apply F1)); done) | (repeat (first | exact F0 _ | apply F1))) agg28 sz28 (by first | exact Nat.le_of_ble_eq_true rfl | (simp; done) | (simp; omega)) rfl)) (by exact ⟨rfl, rfl⟩) (by repeat (first | (with_reducible exact Fin.done (by repeat (first | (with_reducible exact Rest.here) | apply Rest.there))) | (apply Fin.cons (by first | ((repeat (first | (with_reducible exact F0 _) | apply F1)); done) | (repeat (first | exact F0 _ | apply F1))))))

set_option maxRecDepth 100000 in
theorem New_ctr {G : Gp} :
    Ctr Try.prog G 16 [] [] (fun F v A => ∃ p, v = .pointer (some ⟨p, 0, none⟩) ∧ A = Tb p [] :: F) := by
  refine Ctr.intro Try.func16 rfl (by kernel_rfl) rfl (fun F => ?_)
  simp only [List.nil_append]
  refine Run.sr ?_
  refine RunL.as rfl rfl ?_
  refine RunL.nil ?_
  refine Run.sr ?_
  refine RunL.makeMap (Wt.none rfl) rfl ?_; intro b1
  refine RunL.pure (Pure.buildL (ps := [(0, _)]) (zs := [(.map none)]) (xs := [_]) pl63 rfl rfl rfl rfl) (Wt.none rfl) rfl rfl ?_
  refine RunL.box rfl (Wt.none rfl) rfl ?_; intro b3
  refine RunL.as rfl rfl ?_
  refine RunL.nil ?_
  refine Run.mkTb [] (by repeat (first | (with_reducible exact Take.nil _) | (apply Take.cons (by first | ((repeat (first | (with_reducible exact F0 _) | apply F1)); done) | (repeat (first | exact F0 _ | apply F1)))))) ?_
  exact Run.ret Try.func16 (res1 rfl rfl) (by exact ⟨_, rfl, rfl⟩) (by repeat (first | (with_reducible exact Fin.done (by repeat (first | (with_reducible exact Rest.here) | apply Rest.there))) | (apply Fin.cons (by first | ((repeat (first | (with_reducible exact F0 _) | apply F1)); done) | (repeat (first | exact F0 _ | apply F1))))))

set_option maxRecDepth 100000 in
theorem Get_ctr {G : Gp} {p : Nat} {k : K} {l : List (K × Pos)} (h : TbR G p l) :
    Ctr Try.prog G 12 [.pointer (some ⟨p, 0, none⟩), .agg (cK k).toArray] [] (fun F v A => v = .tuple #[.agg (cPos ((mget k l).getD noPos)).toArray, .bool (mget k l).isSome] ∧ A = F) := by
  refine Ctr.intro Try.func12 rfl (by kernel_rfl) rfl (fun F => ?_)
  simp only [List.nil_append]
  obtain ⟨r, hr, hmr⟩ := h
  refine Run.sr ?_
  refine RunL.boxA (xs := (cK k)) rfl (Wt.none rfl) rfl ?_; intro b3
  refine RunL.alloc zz26 (Wt.none rfl) rfl ?_; intro b4
  refine RunL.as rfl rfl ?_
  refine RunL.nil ?_
  refine Run.seq ?_
  refine Run.regionD' (by kernel_rfl) (by kernel_rfl) (fun hok6 => ?_)
  refine RunD.lend (Q := row b3 36 _) Lends.row (by first | ((repeat (first | (with_reducible exact F0 _) | apply F1)); done) | (repeat (first | exact F0 _ | apply F1))) ?_; intro g1 hleg1 hb1 backg1
  have hr := hr.mono hleg1
  have hmr := hmr.mono hleg1
  refine RunD.pure (i := 0) hok6 rfl (by kernel_rfl) (Pure.move rfl) (Wt.none rfl) rfl rfl ?_
  refine RunD.pure (i := 1) hok6 rfl (by kernel_rfl) (Pure.nilCheck rfl) (Wt.none rfl) rfl rfl ?_
  refine RunD.pure (i := 2) hok6 rfl (by kernel_rfl) (Pure.fieldAddr rfl fo63_0) (Wt.none rfl) rfl rfl ?_
  refine RunD.load1R (i := 3) hok6 rfl (by kernel_rfl) rfl (by assumption) (by rfl) agg61 (Wt.none rfl) rfl ?_
  refine RunD.loadNR (vs := (cK k)) (i := 4) hok6 rfl (by kernel_rfl) rfl (by assumption) agg36 sz36 (by first | exact Nat.le_of_ble_eq_true rfl | (simp; done) | (simp; omega)) rfl (Wt.none rfl) rfl ?_
  refine RunD.lookupR (k := k) (i := 5) hok6 rfl (by kernel_rfl) rfl rfl (by assumption) und61 zz26 key36 (Wt.none rfl) rfl ?_
  rw [mvalP]
  refine RunD.pure (i := 6) hok6 rfl (by kernel_rfl) (Pure.move rfl) (Wt.none rfl) rfl rfl ?_
  refine RunD.pure (i := 7) hok6 rfl (by kernel_rfl) (Pure.extract rfl rfl) (Wt.none rfl) rfl rfl ?_
  refine RunD.pure (i := 8) hok6 rfl (by kernel_rfl) (Pure.extract rfl rfl) (Wt.none rfl) rfl rfl ?_
  refine RunD.one (i := 9) (by kernel_rfl) rfl ?_
  refine RunL.alloc zz26 (Wt.none rfl) rfl ?_; intro b6
  refine RunL.nilD' ?_
  refine RunD.one (i := 10) (by kernel_rfl) rfl ?_
  refine RunL.storeW (xs := (cPos ((mget k l).getD noPos))) rfl rfl (by first | ((repeat (first | (with_reducible exact F0 _) | apply F1)); done) | (repeat (first | exact F0 _ | apply F1))) sz26 (by rfl) (by rfl) (by rfl) (Wt.none rfl) ?_
  refine RunL.nilD' ?_
  refine RunD.pure (i := 11) hok6 rfl (by kernel_rfl) (Pure.assign rfl) (Wt.none rfl) rfl rfl ?_
  refine RunD.nilB (by kernel_rfl) (fun w sw => backg1 _ _ (sw)) ?_
  refine Run.sr ?_
  first | refine RunL.loadA (vs := (cPos ((mget k l).getD noPos))) rfl (by first | ((repeat (first | (with_reducible exact F0 _) | apply F1)); done) | (repeat (first | exact F0 _ | apply F1))) agg26 sz26 (by first | exact Nat.le_of_ble_eq_true rfl | (simp; done) | (simp; omega)) rfl (Wt.none rfl) rfl ?_ | refine RunL.loadNR (vs := (cPos ((mget k l).getD noPos))) rfl (by assumption) agg26 sz26 (by first | exact Nat.le_of_ble_eq_true rfl | (simp; done) | (simp; omega)) rfl (Wt.none rfl) rfl ?_
  refine RunL.mv rfl rfl ?_
  refine RunL.storeW (xs := (cPos ((mget k l).getD noPos))) rfl rfl (by first | ((repeat (first | (with_reducible exact F0 _) | apply F1)); done) | (repeat (first | exact F0 _ | apply F1))) sz26 (by rfl) (by rfl) (by rfl) (Wt.none rfl) ?_
  refine RunL.as rfl rfl ?_
  refine RunL.nil ?_
  exact Run.ret Try.func12 (resV2 rfl (Rv.cellN (us := (cPos ((mget k l).getD noPos))) rfl (by first | ((repeat (first | (with_reducible exact F0 _) | apply F1)); done) | (repeat (first | exact F0 _ | apply F1))) agg26 sz26 (by first | exact Nat.le_of_ble_eq_true rfl | (simp; done) | (simp; omega)) rfl) (Rv.tmp rfl)) (by exact ⟨rfl, rfl⟩) (by repeat (first | (with_reducible exact Fin.done (by repeat (first | (with_reducible exact Rest.here) | apply Rest.there))) | (apply Fin.cons (by first | ((repeat (first | (with_reducible exact F0 _) | apply F1)); done) | (repeat (first | exact F0 _ | apply F1))))))

set_option maxRecDepth 100000 in
theorem Put_ctr {G : Gp} {p : Nat} {k : K} {q : Pos} {l : List (K × Pos)} :
    Ctr Try.prog G 18 [.pointer (some ⟨p, 0, none⟩), .agg (cK k).toArray, .agg (cPos q).toArray] [Tb p l] (fun F v A => v = .bool (adopts l k q) ∧ A = Tb p (tput l k q) :: F) := by
  refine Ctr.intro Try.func18 rfl (by kernel_rfl) rfl (fun F => ?_)
  simp only [List.cons_append, List.nil_append]
  refine Run.openTb (by first | ((repeat (first | (with_reducible exact F0 _) | apply F1)); done) | (repeat (first | exact F0 _ | apply F1))) ?_; intro r
  refine Run.sr ?_
  refine RunL.boxA (xs := (cK k)) rfl (Wt.none rfl) rfl ?_; intro b4
  refine RunL.boxA (xs := (cPos q)) rfl (Wt.none rfl) rfl ?_; intro b5
  refine RunL.as rfl rfl ?_
  refine RunL.nil ?_
  refine Run.seq ?_
  refine Run.regionD' (by kernel_rfl) (by kernel_rfl) (fun hok6 => ?_)
  refine RunD.lend (Q := row p 63 _) Lends.row (by first | ((repeat (first | (with_reducible exact F0 _) | apply F1)); done) | (repeat (first | exact F0 _ | apply F1))) ?_; intro g1 hleg1 hb1 backg1
  refine RunD.lend (Q := Mp r _) Lends.Mp (by first | ((repeat (first | (with_reducible exact F0 _) | apply F1)); done) | (repeat (first | exact F0 _ | apply F1))) ?_; intro g2 hleg2 hb2 backg2
  have hb1 := hb1.mono hleg2
  refine RunD.lend (Q := row b4 36 _) Lends.row (by first | ((repeat (first | (with_reducible exact F0 _) | apply F1)); done) | (repeat (first | exact F0 _ | apply F1))) ?_; intro g3 hleg3 hb3 backg3
  have hb1 := hb1.mono hleg3
  have hb2 := hb2.mono hleg3
  refine RunD.pure (i := 0) hok6 rfl (by kernel_rfl) (Pure.move rfl) (Wt.none rfl) rfl rfl ?_
  refine RunD.pure (i := 1) hok6 rfl (by kernel_rfl) (Pure.nilCheck rfl) (Wt.none rfl) rfl rfl ?_
  refine RunD.pure (i := 2) hok6 rfl (by kernel_rfl) (Pure.fieldAddr rfl fo63_0) (Wt.none rfl) rfl rfl ?_
  refine RunD.load1R (i := 3) hok6 rfl (by kernel_rfl) rfl (by assumption) (by rfl) agg61 (Wt.none rfl) rfl ?_
  refine RunD.loadNR (vs := (cK k)) (i := 4) hok6 rfl (by kernel_rfl) rfl (by assumption) agg36 sz36 (by first | exact Nat.le_of_ble_eq_true rfl | (simp; done) | (simp; omega)) rfl (Wt.none rfl) rfl ?_
  refine RunD.lookupR (k := k) (i := 5) hok6 rfl (by kernel_rfl) rfl rfl (by assumption) und61 zz26 key36 (Wt.none rfl) rfl ?_
  rw [mvalP]
  refine RunD.pure (i := 6) hok6 rfl (by kernel_rfl) (Pure.move rfl) (Wt.none rfl) rfl rfl ?_
  refine RunD.pure (i := 7) hok6 rfl (by kernel_rfl) (Pure.extract rfl rfl) (Wt.none rfl) rfl rfl ?_
  refine RunD.pure (i := 8) hok6 rfl (by kernel_rfl) (Pure.extract rfl rfl) (Wt.none rfl) rfl rfl ?_
  refine RunD.one (i := 9) (by kernel_rfl) rfl ?_
  refine RunL.alloc zz26 (Wt.none rfl) rfl ?_; intro b7
  refine RunL.nilD' ?_
  refine RunD.one (i := 10) (by kernel_rfl) rfl ?_
  refine RunL.storeW (xs := (cPos ((mget k l).getD noPos))) rfl rfl (by first | ((repeat (first | (with_reducible exact F0 _) | apply F1)); done) | (repeat (first | exact F0 _ | apply F1))) sz26 (by rfl) (by rfl) (by rfl) (Wt.none rfl) ?_
  refine RunL.nilD' ?_
  refine RunD.pure (i := 11) hok6 rfl (by kernel_rfl) (Pure.assign rfl) (Wt.none rfl) rfl rfl ?_
  refine RunD.nilB (by kernel_rfl) (fun w sw => backg1 _ _ (backg2 _ _ (backg3 _ _ (sw)))) ?_
  refine Run.seq ?_
  refine Run.sr ?_
  refine RunL.mv rfl rfl ?_
  refine RunL.mv rfl rfl ?_
  refine RunL.split (d := 19) rfl (fun hhas => ?_) (fun hhas => ?_)
  · try simp only [ZA, ZB, ZC, ZD, ZE, ZF, ZG, ZH, ZI, ZJ, ZK, ZL, ZM, ZN, ZO, ZP, ZQ, ZR] at hhas
    first | refine RunL.loadA (vs := (cPos ((mget k l).getD noPos))) rfl (by first | ((repeat (first | (with_reducible exact F0 _) | apply F1)); done) | (repeat (first | exact F0 _ | apply F1))) agg26 sz26 (by first | exact Nat.le_of_ble_eq_true rfl | (simp; done) | (simp; omega)) rfl (Wt.yes rfl rfl rfl) rfl ?_ | refine RunL.loadNR (vs := (cPos ((mget k l).getD noPos))) rfl (by assumption) agg26 sz26 (by first | exact Nat.le_of_ble_eq_true rfl | (simp; done) | (simp; omega)) rfl (Wt.yes rfl rfl rfl) rfl ?_
    first | refine RunL.loadA (vs := (cPos q)) rfl (by first | ((repeat (first | (with_reducible exact F0 _) | apply F1)); done) | (repeat (first | exact F0 _ | apply F1))) agg26 sz26 (by first | exact Nat.le_of_ble_eq_true rfl | (simp; done) | (simp; omega)) rfl (Wt.yes rfl rfl rfl) rfl ?_ | refine RunL.loadNR (vs := (cPos q)) rfl (by assumption) agg26 sz26 (by first | exact Nat.le_of_ble_eq_true rfl | (simp; done) | (simp; omega)) rfl (Wt.yes rfl rfl rfl) rfl ?_
    refine RunL.call rfl rfl (by rfl) (by repeat (first | (with_reducible exact Take.nil _) | (apply Take.cons (by first | ((repeat (first | (with_reducible exact F0 _) | apply F1)); done) | (repeat (first | exact F0 _ | apply F1)))))) (dagCompare_ctr (p := (mget k l).getD noPos) (q := q)) (Wt.yes rfl rfl rfl) rfl ?_
    rintro _ _ ⟨rfl, hA_⟩
    replace hA_ := hA_.symm; subst hA_
    refine RunL.pure (Pure.geq rfl rfl) (Wt.yes rfl rfl rfl) rfl rfl ?_
    refine RunL.pure (Pure.pickT rfl rfl) (Wt.none rfl) rfl rfl ?_
    refine RunL.nil ?_
    refine Run.cond rfl (fun hc => ?_) (fun hc => ?_)
    · try simp only [ZA, ZB, ZC, ZD, ZE, ZF, ZG, ZH, ZI, ZJ, ZK, ZL, ZM, ZN, ZO, ZP, ZQ, ZR] at hc
      refine Run.sr ?_
      refine RunL.as rfl rfl ?_
      refine RunL.nil ?_
      have had : adopts l k q = false := by rw [adopts_eq, hhas]; simp <;> omega
      refine Run.mkTb (l) (by repeat (first | (with_reducible exact Take.nil _) | (apply Take.cons (by first | ((repeat (first | (with_reducible exact F0 _) | apply F1)); done) | (repeat (first | exact F0 _ | apply F1)))))) ?_
      exact Run.ret Try.func18 (res1 rfl rfl) (by exact ⟨by rw [had], by rw [tput, had]; (try rfl)⟩) (by repeat (first | (with_reducible exact Fin.done (by repeat (first | (with_reducible exact Rest.here) | apply Rest.there))) | (apply Fin.cons (by first | ((repeat (first | (with_reducible exact F0 _) | apply F1)); done) | (repeat (first | exact F0 _ | apply F1))))))
    · try simp only [ZA, ZB, ZC, ZD, ZE, ZF, ZG, ZH, ZI, ZJ, ZK, ZL, ZM, ZN, ZO, ZP, ZQ, ZR] at hc
      refine Run.skip ?_
      refine Run.seq ?_
      refine Run.regionD' (by kernel_rfl) (by kernel_rfl) (fun hok56 => ?_)
      refine RunD.lend (Q := row p 63 _) Lends.row (by first | ((repeat (first | (with_reducible exact F0 _) | apply F1)); done) | (repeat (first | exact F0 _ | apply F1))) ?_; intro g1 hleg1 hb1 backg1
      refine RunD.lend (Q := row b4 36 _) Lends.row (by first | ((repeat (first | (with_reducible exact F0 _) | apply F1)); done) | (repeat (first | exact F0 _ | apply F1))) ?_; intro g2 hleg2 hb2 backg2
      have hb1 := hb1.mono hleg2
      refine RunD.lend (Q := row b5 26 _) Lends.row (by first | ((repeat (first | (with_reducible exact F0 _) | apply F1)); done) | (repeat (first | exact F0 _ | apply F1))) ?_; intro g3 hleg3 hb3 backg3
      have hb1 := hb1.mono hleg3
      have hb2 := hb2.mono hleg3
      refine RunD.pure (i := 0) hok56 rfl (by kernel_rfl) (Pure.move rfl) (Wt.none rfl) rfl rfl ?_
      refine RunD.pure (i := 1) hok56 rfl (by kernel_rfl) (Pure.nilCheck rfl) (Wt.none rfl) rfl rfl ?_
      refine RunD.pure (i := 2) hok56 rfl (by kernel_rfl) (Pure.fieldAddr rfl fo63_0) (Wt.none rfl) rfl rfl ?_
      refine RunD.load1R (i := 3) hok56 rfl (by kernel_rfl) rfl (by assumption) (by rfl) agg61 (Wt.none rfl) rfl ?_
      refine RunD.loadNR (vs := (cK k)) (i := 4) hok56 rfl (by kernel_rfl) rfl (by assumption) agg36 sz36 (by first | exact Nat.le_of_ble_eq_true rfl | (simp; done) | (simp; omega)) rfl (Wt.none rfl) rfl ?_
      refine RunD.loadNR (vs := (cPos q)) (i := 5) hok56 rfl (by kernel_rfl) rfl (by assumption) agg26 sz26 (by first | exact Nat.le_of_ble_eq_true rfl | (simp; done) | (simp; omega)) rfl (Wt.none rfl) rfl ?_
      refine RunD.one (i := 6) (by kernel_rfl) rfl ?_
      refine RunL.mapUpdate (k := k) (v := q) (ev := eP) rfl rfl rfl (by first | ((repeat (first | (with_reducible exact F0 _) | apply F1)); done) | (repeat (first | exact F0 _ | apply F1))) und61 key36 (Wt.none rfl) ?_
      refine RunL.nilD' ?_
      refine RunD.nilB (by kernel_rfl) (fun w sw => backg1 _ _ (backg2 _ _ (backg3 _ _ (sw)))) ?_
      refine Run.sr ?_
      refine RunL.as rfl rfl ?_
      refine RunL.nil ?_
      have had : adopts l k q = true := by rw [adopts_eq, hhas]; simp <;> omega
      refine Run.mkTb (mput k q l) (by repeat (first | (with_reducible exact Take.nil _) | (apply Take.cons (by first | ((repeat (first | (with_reducible exact F0 _) | apply F1)); done) | (repeat (first | exact F0 _ | apply F1)))))) ?_
      exact Run.ret Try.func18 (res1 rfl rfl) (by exact ⟨by rw [had], by rw [tput, if_pos had]⟩) (by repeat (first | (with_reducible exact Fin.done (by repeat (first | (with_reducible exact Rest.here) | apply Rest.there))) | (apply Fin.cons (by first | ((repeat (first | (with_reducible exact F0 _) | apply F1)); done) | (repeat (first | exact F0 _ | apply F1))))))
  · try simp only [ZA, ZB, ZC, ZD, ZE, ZF, ZG, ZH, ZI, ZJ, ZK, ZL, ZM, ZN, ZO, ZP, ZQ, ZR] at hhas
    refine RunL.not (Wt.no rfl rfl rfl) rfl rfl ?_
    refine RunL.not (Wt.no rfl rfl rfl) rfl rfl ?_
    refine RunL.not (Wt.no rfl rfl rfl) rfl rfl ?_
    refine RunL.not (Wt.no rfl rfl rfl) rfl rfl ?_
    refine RunL.pure (Pure.pickF rfl rfl) (Wt.none rfl) rfl rfl ?_
    refine RunL.nil ?_
    refine Run.condF rfl ?_
    refine Run.skip ?_
    refine Run.seq ?_
    refine Run.regionD' (by kernel_rfl) (by kernel_rfl) (fun hok89 => ?_)
    refine RunD.lend (Q := row p 63 _) Lends.row (by first | ((repeat (first | (with_reducible exact F0 _) | apply F1)); done) | (repeat (first | exact F0 _ | apply F1))) ?_; intro g1 hleg1 hb1 backg1
    refine RunD.lend (Q := row b4 36 _) Lends.row (by first | ((repeat (first | (with_reducible exact F0 _) | apply F1)); done) | (repeat (first | exact F0 _ | apply F1))) ?_; intro g2 hleg2 hb2 backg2
    have hb1 := hb1.mono hleg2
    refine RunD.lend (Q := row b5 26 _) Lends.row (by first | ((repeat (first | (with_reducible exact F0 _) | apply F1)); done) | (repeat (first | exact F0 _ | apply F1))) ?_; intro g3 hleg3 hb3 backg3
    have hb1 := hb1.mono hleg3
    have hb2 := hb2.mono hleg3
    refine RunD.pure (i := 0) hok89 rfl (by kernel_rfl) (Pure.move rfl) (Wt.none rfl) rfl rfl ?_
    refine RunD.pure (i := 1) hok89 rfl (by kernel_rfl) (Pure.nilCheck rfl) (Wt.none rfl) rfl rfl ?_
    refine RunD.pure (i := 2) hok89 rfl (by kernel_rfl) (Pure.fieldAddr rfl fo63_0) (Wt.none rfl) rfl rfl ?_
    refine RunD.load1R (i := 3) hok89 rfl (by kernel_rfl) rfl (by assumption) (by rfl) agg61 (Wt.none rfl) rfl ?_
    refine RunD.loadNR (vs := (cK k)) (i := 4) hok89 rfl (by kernel_rfl) rfl (by assumption) agg36 sz36 (by first | exact Nat.le_of_ble_eq_true rfl | (simp; done) | (simp; omega)) rfl (Wt.none rfl) rfl ?_
    refine RunD.loadNR (vs := (cPos q)) (i := 5) hok89 rfl (by kernel_rfl) rfl (by assumption) agg26 sz26 (by first | exact Nat.le_of_ble_eq_true rfl | (simp; done) | (simp; omega)) rfl (Wt.none rfl) rfl ?_
    refine RunD.one (i := 6) (by kernel_rfl) rfl ?_
    refine RunL.mapUpdate (k := k) (v := q) (ev := eP) rfl rfl rfl (by first | ((repeat (first | (with_reducible exact F0 _) | apply F1)); done) | (repeat (first | exact F0 _ | apply F1))) und61 key36 (Wt.none rfl) ?_
    refine RunL.nilD' ?_
    refine RunD.nilB (by kernel_rfl) (fun w sw => backg1 _ _ (backg2 _ _ (backg3 _ _ (sw)))) ?_
    refine Run.sr ?_
    refine RunL.as rfl rfl ?_
    refine RunL.nil ?_
    have had : adopts l k q = true := by rw [adopts_eq, hhas]; (try rfl)
    refine Run.mkTb (mput k q l) (by repeat (first | (with_reducible exact Take.nil _) | (apply Take.cons (by first | ((repeat (first | (with_reducible exact F0 _) | apply F1)); done) | (repeat (first | exact F0 _ | apply F1)))))) ?_
    exact Run.ret Try.func18 (res1 rfl rfl) (by exact ⟨by rw [had], by rw [tput, if_pos had]⟩) (by repeat (first | (with_reducible exact Fin.done (by repeat (first | (with_reducible exact Rest.here) | apply Rest.there))) | (apply Fin.cons (by first | ((repeat (first | (with_reducible exact F0 _) | apply F1)); done) | (repeat (first | exact F0 _ | apply F1))))))

set_option maxRecDepth 100000 in
theorem Len_ctr {G : Gp} {p : Nat} {l : List (K × Pos)} (h : TbR G p l) :
    Ctr Try.prog G 17 [.pointer (some ⟨p, 0, none⟩)] [] (fun F v A => v = .int .i64 l.length ∧ A = F) := by
  refine Ctr.intro Try.func17 rfl (by kernel_rfl) rfl (fun F => ?_)
  simp only [List.nil_append]
  obtain ⟨r, hr, hmr⟩ := h
  refine Run.sr ?_
  refine RunL.as rfl rfl ?_
  refine RunL.nil ?_
  refine Run.sr ?_
  refine RunL.mv rfl rfl ?_
  refine RunL.pure (Pure.nilCheck rfl) (Wt.none rfl) rfl rfl ?_
  refine RunL.pure (Pure.fieldAddr rfl fo63_0) (Wt.none rfl) rfl rfl ?_
  first | refine RunL.load1 rfl (by first | ((repeat (first | (with_reducible exact F0 _) | apply F1)); done) | (repeat (first | exact F0 _ | apply F1))) (by rfl) agg61 (Wt.none rfl) rfl ?_ | refine RunL.load1R rfl (by assumption) (by rfl) agg61 (Wt.none rfl) rfl ?_
  first | refine RunL.lenMap rfl rfl und61 (by first | ((repeat (first | (with_reducible exact F0 _) | apply F1)); done) | (repeat (first | exact F0 _ | apply F1))) (Wt.none rfl) rfl ?_ | refine RunL.lenMapR rfl rfl und61 (by assumption) (Wt.none rfl) rfl ?_
  refine RunL.as rfl rfl ?_
  refine RunL.nil ?_
  exact Run.ret Try.func17 (res1 rfl rfl) (by exact ⟨by simp [menc], rfl⟩) (by repeat (first | (with_reducible exact Fin.done (by repeat (first | (with_reducible exact Rest.here) | apply Rest.there))) | (apply Fin.cons (by first | ((repeat (first | (with_reducible exact F0 _) | apply F1)); done) | (repeat (first | exact F0 _ | apply F1))))))

set_option maxRecDepth 100000 in
theorem lives_ctr {G : Gp} :
    Ctr Try.prog G 15 [] [] (fun F v A => v = .bool true ∧ A = F) := by
  refine Ctr.intro Try.func15 rfl (by kernel_rfl) rfl (fun F => ?_)
  simp only [List.nil_append]
  refine Run.sr ?_
  refine RunL.as rfl rfl ?_
  refine RunL.nil ?_
  refine Run.sr ?_
  refine RunL.call rfl rfl (by rfl) (by repeat (first | (with_reducible exact Take.nil _) | (apply Take.cons (by first | ((repeat (first | (with_reducible exact F0 _) | apply F1)); done) | (repeat (first | exact F0 _ | apply F1)))))) (New_ctr) (Wt.none rfl) rfl ?_
  rintro _ _ ⟨p, rfl, hA_⟩
  replace hA_ := hA_.symm; subst hA_
  refine RunL.as rfl rfl ?_
  refine RunL.nil ?_
  refine Run.seq ?_
  refine Run.sr ?_
  refine RunL.mv rfl rfl ?_
  refine RunL.pure (Pure.ptrEqNil rfl rfl und29) (Wt.none rfl) rfl rfl ?_
  refine RunL.nil ?_
  refine Run.condF rfl ?_
  refine Run.skip ?_
  refine Run.sr ?_
  refine RunL.pure (Pure.buildL (ps := [(0, _), (1, _)]) (zs := [(.string .empty), (.string .empty), (.string .empty), (.bool false)]) (xs := [_, _, _, _]) pl36 rfl rfl rfl rfl) (Wt.none rfl) rfl rfl ?_
  refine RunL.alloc zz36 (Wt.none rfl) rfl ?_; intro b2
  refine RunL.storeW (xs := (cK (⟨⟨#[33, 114, 58, 115]⟩, ⟨#[64, 97, 58, 115]⟩, .empty, false⟩))) rfl rfl (by first | ((repeat (first | (with_reducible exact F0 _) | apply F1)); done) | (repeat (first | exact F0 _ | apply F1))) sz36 (by rfl) (by rfl) (by rfl) (Wt.none rfl) ?_
  refine RunL.nil ?_
  refine Run.sr ?_
  refine RunL.mv rfl rfl ?_
  first | refine RunL.loadA (vs := (cK (⟨⟨#[33, 114, 58, 115]⟩, ⟨#[64, 97, 58, 115]⟩, .empty, false⟩))) rfl (by first | ((repeat (first | (with_reducible exact F0 _) | apply F1)); done) | (repeat (first | exact F0 _ | apply F1))) agg36 sz36 (by first | exact Nat.le_of_ble_eq_true rfl | (simp; done) | (simp; omega)) rfl (Wt.none rfl) rfl ?_ | refine RunL.loadNR (vs := (cK (⟨⟨#[33, 114, 58, 115]⟩, ⟨#[64, 97, 58, 115]⟩, .empty, false⟩))) rfl (by assumption) agg36 sz36 (by first | exact Nat.le_of_ble_eq_true rfl | (simp; done) | (simp; omega)) rfl (Wt.none rfl) rfl ?_
  refine RunL.pure (Pure.buildL (ps := [(0, _), (1, _)]) (zs := [(.int .i64 0), (.string .empty)]) (xs := [_, _]) pl26 rfl rfl rfl rfl) (Wt.none rfl) rfl rfl ?_
  refine RunL.call rfl rfl (by rfl) (by repeat (first | (with_reducible exact Take.nil _) | (apply Take.cons (by first | ((repeat (first | (with_reducible exact F0 _) | apply F1)); done) | (repeat (first | exact F0 _ | apply F1)))))) (Put_ctr (l := []) (k := (⟨⟨#[33, 114, 58, 115]⟩, ⟨#[64, 97, 58, 115]⟩, .empty, false⟩ : K)) (q := (⟨2, ⟨#[36, 98]⟩⟩ : Pos))) (Wt.none rfl) rfl ?_
  rintro _ _ ⟨rfl, hA_⟩
  replace hA_ := hA_.symm; subst hA_
  refine RunL.as rfl rfl ?_
  refine RunL.nil ?_
  refine Run.sr ?_
  refine RunL.mv rfl rfl ?_
  first | refine RunL.loadA (vs := (cK (⟨⟨#[33, 114, 58, 115]⟩, ⟨#[64, 97, 58, 115]⟩, .empty, false⟩))) rfl (by first | ((repeat (first | (with_reducible exact F0 _) | apply F1)); done) | (repeat (first | exact F0 _ | apply F1))) agg36 sz36 (by first | exact Nat.le_of_ble_eq_true rfl | (simp; done) | (simp; omega)) rfl (Wt.none rfl) rfl ?_ | refine RunL.loadNR (vs := (cK (⟨⟨#[33, 114, 58, 115]⟩, ⟨#[64, 97, 58, 115]⟩, .empty, false⟩))) rfl (by assumption) agg36 sz36 (by first | exact Nat.le_of_ble_eq_true rfl | (simp; done) | (simp; omega)) rfl (Wt.none rfl) rfl ?_
  refine RunL.pure (Pure.buildL (ps := [(0, _), (1, _)]) (zs := [(.int .i64 0), (.string .empty)]) (xs := [_, _]) pl26 rfl rfl rfl rfl) (Wt.none rfl) rfl rfl ?_
  refine RunL.call rfl rfl (by rfl) (by repeat (first | (with_reducible exact Take.nil _) | (apply Take.cons (by first | ((repeat (first | (with_reducible exact F0 _) | apply F1)); done) | (repeat (first | exact F0 _ | apply F1)))))) (Put_ctr (l := tput [] (⟨⟨#[33, 114, 58, 115]⟩, ⟨#[64, 97, 58, 115]⟩, .empty, false⟩ : K) (⟨2, ⟨#[36, 98]⟩⟩ : Pos)) (k := (⟨⟨#[33, 114, 58, 115]⟩, ⟨#[64, 97, 58, 115]⟩, .empty, false⟩ : K)) (q := (⟨1, ⟨#[36, 97]⟩⟩ : Pos))) (Wt.none rfl) rfl ?_
  rintro _ _ ⟨rfl, hA_⟩
  replace hA_ := hA_.symm; subst hA_
  refine RunL.as rfl rfl ?_
  refine RunL.nil ?_
  refine Run.sr ?_
  refine RunL.mv rfl rfl ?_
  first | refine RunL.loadA (vs := (cK (⟨⟨#[33, 114, 58, 115]⟩, ⟨#[64, 97, 58, 115]⟩, .empty, false⟩))) rfl (by first | ((repeat (first | (with_reducible exact F0 _) | apply F1)); done) | (repeat (first | exact F0 _ | apply F1))) agg36 sz36 (by first | exact Nat.le_of_ble_eq_true rfl | (simp; done) | (simp; omega)) rfl (Wt.none rfl) rfl ?_ | refine RunL.loadNR (vs := (cK (⟨⟨#[33, 114, 58, 115]⟩, ⟨#[64, 97, 58, 115]⟩, .empty, false⟩))) rfl (by assumption) agg36 sz36 (by first | exact Nat.le_of_ble_eq_true rfl | (simp; done) | (simp; omega)) rfl (Wt.none rfl) rfl ?_
  refine RunL.pure (Pure.buildL (ps := [(0, _), (1, _)]) (zs := [(.int .i64 0), (.string .empty)]) (xs := [_, _]) pl26 rfl rfl rfl rfl) (Wt.none rfl) rfl rfl ?_
  refine RunL.call rfl rfl (by rfl) (by repeat (first | (with_reducible exact Take.nil _) | (apply Take.cons (by first | ((repeat (first | (with_reducible exact F0 _) | apply F1)); done) | (repeat (first | exact F0 _ | apply F1)))))) (Put_ctr (l := tput (tput [] (⟨⟨#[33, 114, 58, 115]⟩, ⟨#[64, 97, 58, 115]⟩, .empty, false⟩ : K) (⟨2, ⟨#[36, 98]⟩⟩ : Pos)) (⟨⟨#[33, 114, 58, 115]⟩, ⟨#[64, 97, 58, 115]⟩, .empty, false⟩ : K) (⟨1, ⟨#[36, 97]⟩⟩ : Pos)) (k := (⟨⟨#[33, 114, 58, 115]⟩, ⟨#[64, 97, 58, 115]⟩, .empty, false⟩ : K)) (q := (⟨2, ⟨#[36, 99]⟩⟩ : Pos))) (Wt.none rfl) rfl ?_
  rintro _ _ ⟨rfl, hA_⟩
  replace hA_ := hA_.symm; subst hA_
  refine RunL.as rfl rfl ?_
  refine RunL.nil ?_
  refine Run.sr ?_
  refine RunL.mv rfl rfl ?_
  refine RunL.mv rfl rfl ?_
  refine RunL.split (d := 23) rfl (fun hg => ?_) (fun hg => ?_)
  · try simp only [ZA, ZB, ZC, ZD, ZE, ZF, ZG, ZH, ZI, ZJ, ZK, ZL, ZM, ZN, ZO, ZP, ZQ, ZR] at hg
    refine RunL.pure (Pure.move rfl) (Wt.yes rfl rfl rfl) rfl rfl ?_
    refine RunL.pure (Pure.not rfl) (Wt.yes rfl rfl rfl) rfl rfl ?_
    refine RunL.pure (Pure.pickT rfl rfl) (Wt.none rfl) rfl rfl ?_
    refine RunL.mv rfl rfl ?_
    refine RunL.split (d := 27) rfl (fun hg => ?_) (fun hg => ?_)
    · try simp only [ZA, ZB, ZC, ZD, ZE, ZF, ZG, ZH, ZI, ZJ, ZK, ZL, ZM, ZN, ZO, ZP, ZQ, ZR] at hg
      refine RunL.pure (Pure.move rfl) (Wt.yes rfl rfl rfl) rfl rfl ?_
      refine RunL.pure (Pure.pickT rfl rfl) (Wt.none rfl) rfl rfl ?_
      refine RunL.as rfl rfl ?_
      refine RunL.nil ?_
      exact Run.ret Try.func15 (res1 rfl rfl) (by exact ⟨congrArg Value.bool (by decide +kernel), rfl⟩) (by repeat (first | (with_reducible exact Fin.done (by repeat (first | (with_reducible exact Rest.here) | apply Rest.there))) | (apply Fin.cons (by first | ((repeat (first | (with_reducible exact F0 _) | apply F1)); done) | (repeat (first | exact F0 _ | apply F1))))))
    · try simp only [ZA, ZB, ZC, ZD, ZE, ZF, ZG, ZH, ZI, ZJ, ZK, ZL, ZM, ZN, ZO, ZP, ZQ, ZR] at hg
      exfalso; exact absurd hg (by decide +kernel)
  · try simp only [ZA, ZB, ZC, ZD, ZE, ZF, ZG, ZH, ZI, ZJ, ZK, ZL, ZM, ZN, ZO, ZP, ZQ, ZR] at hg
    exfalso; exact absurd hg (by decide +kernel)

end Go.Proofs.Ytaeacdhilekcbaa
