/- All marks, sorted. -/
import Derived.Test.YtaeacdhilekcbaaR10
import Derived.Test.YtaeacdhilekcbaaCsl25
set_option linter.unusedVariables false
set_option linter.unusedSimpArgs false
namespace Go.Proofs.Ytaeacdhilekcbaa
open Go Csl
theorem fo69_0 : fieldOff Try.prog 69 0 = some 0 := by kernel_rfl
theorem cb40 : Callable Try.prog 40 := ⟨_, Try.func40, by kernel_rfl, by kernel_rfl⟩
theorem pl69 : placesOf Try.prog 69 = some ([(0, 4), (4, 2)], (.agg #[(.string .empty), (.string .empty), (.string .empty), (.bool false), (.int .i64 0), (.string .empty)])) := by kernel_rfl
theorem und51 : Try.prog.underlying 51 = some (Go.TypeDesc.slice 69) := Try.underlying51
theorem zz69 : zeroIs Try.prog 69 = some (.agg #[(.string .empty), (.string .empty), (.string .empty), (.bool false), (.int .i64 0), (.string .empty)]) := by kernel_rfl
theorem by69 : bytesIs Try.prog 69 = some 80 := by kernel_rfl
theorem cb24 : Callable Try.prog 24 := ⟨_, Try.func24, by kernel_rfl, by kernel_rfl⟩

namespace Csl
theorem LawCmp.swo {α β : Type} [Inhabited β] {c : α → α → Int} (h : LawCmp c) (f : β → α) : Go.Sort.SWO (Go.Proofs.ltOf fun x y => c (f x) (f y)) where
  irrefl x := by
    unfold Go.Proofs.ltOf; have := (h.eq0 (f x) (f x)).2 rfl; simp [this]
  trans x y z h1 h2 := by
    unfold Go.Proofs.ltOf at *; simp only [decide_eq_true_iff] at *; exact h.ltTrans h1 h2
  ntrans x y z h1 h2 := by
    unfold Go.Proofs.ltOf at *
    simp only [decide_eq_false_iff_not] at *
    have a1 := h.anti (f x) (f y); have a2 := h.anti (f y) (f z); have a3 := h.anti (f x) (f z)
    have := h.trans (f z) (f y) (f x) (by omega) (by omega)
    omega
instance : Inhabited M := ⟨⟨⟨.empty, .empty, .empty, false⟩, ⟨0, .empty⟩⟩⟩
theorem ML_sorted {tl : List (K × Pos)} (hn : KN tl) {ys : List M} (hp : ys.Perm (tl.map toM)) (hs : ys.Pairwise fun x y => Go.Proofs.ltOf (fun p q : M => cmpK p.k q.k) y x = false) : ys = ML tl := by
  have hnd : (ys.map (fun m : M => m.k)).Nodup := (hp.map (fun m : M => m.k)).nodup_iff.2 (by rw [List.map_map]; exact hn)
  have hne := List.pairwise_map.1 hnd
  have h1 : Sd cmpK (fun m : M => m.k) ys := (hs.and hne).imp fun {a b} q => by
    have q1 := q.1
    unfold Go.Proofs.ltOf at q1
    simp only [decide_eq_false_iff_not] at q1
    exact cmpK_law.lt_of q1 (Ne.symm q.2)
  have h2 : Sd cmpK (fun m : M => m.k) (ML tl) := by
    unfold ML Sd; rw [List.pairwise_map]; exact srt_sd cmpK_law hn
  exact h1.uniq cmpK_law h2 (hp.trans ((srt_perm tl).map toM).symm)
end Csl
def sortM_ren : Go.Shelf.Ren := ⟨fun | 6 => 39 | 15 => 48 | 14 => 47 | 28 => 58 | 29 => 59 | 20 => 50 | 21 => 51 | 22 => 52 | 23 => 53 | 24 => 54 | 25 => 55 | 26 => 56 | 27 => 57 | 46 => 60 | 47 => 61 | 48 => 62 | 49 => 63 | 50 => 64 | 57 => 65 | n => n, fun | 22 => 51 | 24 => 69 | 25 => 71 | 3 => 3 | 39 => 80 | 0 => 0 | 53 => 92 | 55 => 94 | 4 => 4 | 46 => 85 | 45 => 84 | 50 => 89 | 5 => 5 | 9 => 9 | 66 => 95 | 70 => 99 | 76 => 101 | 77 => 102 | n => n, fun n => n⟩
theorem sortM : Go.Proofs.SlLaysF0.n6 Try.prog sortM_ren where
  mixed := by kernel_rfl
  f6 := ⟨"slices.SortFunc[[]concourse/receipt.Mark,concourse/receipt.Mark]", by decide, Try.func39.trans (congrArg some (by kernel_rfl))⟩
  f14 := ⟨"slices.pdqsortCmpFunc[concourse/receipt.Mark]", by decide, Try.func47.trans (congrArg some (by kernel_rfl))⟩
  f15 := Try.func48.trans (congrArg some (by kernel_rfl))
  f20 := ⟨"slices.insertionSortCmpFunc[concourse/receipt.Mark]", by decide, Try.func50.trans (congrArg some (by kernel_rfl))⟩
  f21 := ⟨"slices.heapSortCmpFunc[concourse/receipt.Mark]", by decide, Try.func51.trans (congrArg some (by kernel_rfl))⟩
  f22 := ⟨"slices.breakPatternsCmpFunc[concourse/receipt.Mark]", by decide, Try.func52.trans (congrArg some (by kernel_rfl))⟩
  f23 := ⟨"slices.choosePivotCmpFunc[concourse/receipt.Mark]", by decide, Try.func53.trans (congrArg some (by kernel_rfl))⟩
  f24 := ⟨"slices.reverseRangeCmpFunc[concourse/receipt.Mark]", by decide, Try.func54.trans (congrArg some (by kernel_rfl))⟩
  f25 := ⟨"slices.partialInsertionSortCmpFunc[concourse/receipt.Mark]", by decide, Try.func55.trans (congrArg some (by kernel_rfl))⟩
  f26 := ⟨"slices.partitionEqualCmpFunc[concourse/receipt.Mark]", by decide, Try.func56.trans (congrArg some (by kernel_rfl))⟩
  f27 := ⟨"slices.partitionCmpFunc[concourse/receipt.Mark]", by decide, Try.func57.trans (congrArg some (by kernel_rfl))⟩
  f28 := Try.func58.trans (congrArg some (by kernel_rfl))
  f29 := Try.func59.trans (congrArg some (by kernel_rfl))
  f46 := ⟨"slices.siftDownCmpFunc[concourse/receipt.Mark]", by decide, Try.func60.trans (congrArg some (by kernel_rfl))⟩
  f47 := Try.func61.trans (congrArg some (by kernel_rfl))
  f48 := Try.func62.trans (congrArg some (by kernel_rfl))
  f49 := ⟨"slices.medianAdjacentCmpFunc[concourse/receipt.Mark]", by decide, Try.func63.trans (congrArg some (by kernel_rfl))⟩
  f50 := ⟨"slices.medianCmpFunc[concourse/receipt.Mark]", by decide, Try.func64.trans (congrArg some (by kernel_rfl))⟩
  f57 := ⟨"slices.order2CmpFunc[concourse/receipt.Mark]", by decide, Try.func65.trans (congrArg some (by kernel_rfl))⟩
  t0 := Try.underlying0
  a0 := Try.isAgg0
  z0 := Try.sizeOf0
  v0 := Try.zeroValue0
  t3 := Try.underlying3
  a3 := Try.isAgg3
  z3 := Try.sizeOf3
  v3 := Try.zeroValue3
  t4 := Try.underlying4
  a4 := Try.isAgg4
  z4 := Try.sizeOf4
  v4 := Try.zeroValue4
  t5 := Try.underlying5
  a5 := Try.isAgg5
  z5 := Try.sizeOf5
  v5 := Try.zeroValue5
  t9 := Try.underlying9
  a9 := Try.isAgg9
  z9 := Try.sizeOf9
  v9 := Try.zeroValue9
  t22 := Try.underlying51
  a22 := Try.isAgg51
  z22 := Try.sizeOf51
  v22 := Try.zeroValue51
  t25 := Try.underlying71
  a25 := Try.isAgg71
  z25 := Try.sizeOf71
  v25 := Try.zeroValue71
  t39 := Try.underlying80
  a39 := Try.isAgg80
  z39 := Try.sizeOf80
  v39 := Try.zeroValue80
  t45 := Try.underlying84
  a45 := Try.isAgg84
  z45 := Try.sizeOf84
  v45 := Try.zeroValue84
  t46 := Try.underlying85
  a46 := Try.isAgg85
  z46 := Try.sizeOf85
  v46 := Try.zeroValue85
  t50 := Try.underlying89
  a50 := Try.isAgg89
  z50 := Try.sizeOf89
  v50 := Try.zeroValue89
  t53 := Try.underlying92
  a53 := Try.isAgg92
  z53 := Try.sizeOf92
  v53 := Try.zeroValue92
  t55 := Try.underlying94
  a55 := Try.isAgg94
  z55 := Try.sizeOf94
  v55 := Try.zeroValue94
  t66 := Try.underlying95
  a66 := Try.isAgg95
  z66 := Try.sizeOf95
  v66 := Try.zeroValue95
  t70 := Try.underlying99
  a70 := Try.isAgg99
  z70 := Try.sizeOf99
  v70 := Try.zeroValue99
  t76 := Try.underlying101
  a76 := Try.isAgg101
  z76 := Try.sizeOf101
  v76 := Try.zeroValue101
  t77 := Try.underlying102
  a77 := Try.isAgg102
  z77 := Try.sizeOf102
  v77 := Try.zeroValue102
set_option maxRecDepth 100000 in
theorem AllC_ctr {G : Gp} {p q : M} :
    Ctr Try.prog G 40 [.agg (cM p).toArray, .agg (cM q).toArray] [] (fun F v A => v = .int .i64 (cmpK p.k q.k) ∧ A = F) := by
  refine Ctr.intro Try.func40 rfl (by kernel_rfl) rfl (fun F => ?_)
  simp only [List.nil_append]
  refine Run.sr ?_
  refine RunL.boxA (xs := (cM p)) rfl (Wt.none rfl) rfl ?_; intro b2
  refine RunL.boxA (xs := (cM q)) rfl (Wt.none rfl) rfl ?_; intro b3
  refine RunL.as rfl rfl ?_
  refine RunL.nil ?_
  refine Run.lendAll (Q := row b2 69 _) Lends.row (by first | ((repeat (first | (with_reducible exact F0 _) | apply F1)); done) | (repeat (first | exact F0 _ | apply F1))) (fun G2 hleG2 hrb2 => ?_)
  refine Run.lendAll (Q := row b3 69 _) Lends.row (by first | ((repeat (first | (with_reducible exact F0 _) | apply F1)); done) | (repeat (first | exact F0 _ | apply F1))) (fun G3 hleG3 hrb3 => ?_)
  replace hrb2 := hrb2.mono hleG3
  refine Run.sr ?_
  refine RunL.pure (Pure.fieldAddr rfl fo69_0) (Wt.none rfl) rfl rfl ?_
  first | refine RunL.loadA (vs := (cK p.k)) rfl (by first | ((repeat (first | (with_reducible exact F0 _) | apply F1)); done) | (repeat (first | exact F0 _ | apply F1))) agg36 sz36 (by first | exact Nat.le_of_ble_eq_true rfl | (simp; done) | (simp; omega)) rfl (Wt.none rfl) rfl ?_ | refine RunL.loadNR (vs := (cK p.k)) rfl (by assumption) agg36 sz36 (by first | exact Nat.le_of_ble_eq_true rfl | (simp; done) | (simp; omega)) rfl (Wt.none rfl) rfl ?_
  refine RunL.pure (Pure.fieldAddr rfl fo69_0) (Wt.none rfl) rfl rfl ?_
  first | refine RunL.loadA (vs := (cK q.k)) rfl (by first | ((repeat (first | (with_reducible exact F0 _) | apply F1)); done) | (repeat (first | exact F0 _ | apply F1))) agg36 sz36 (by first | exact Nat.le_of_ble_eq_true rfl | (simp; done) | (simp; omega)) rfl (Wt.none rfl) rfl ?_ | refine RunL.loadNR (vs := (cK q.k)) rfl (by assumption) agg36 sz36 (by first | exact Nat.le_of_ble_eq_true rfl | (simp; done) | (simp; omega)) rfl (Wt.none rfl) rfl ?_
  refine RunL.call rfl rfl (by rfl) (by repeat (first | (with_reducible exact Take.nil _) | (apply Take.cons (by first | ((repeat (first | (with_reducible exact F0 _) | apply F1)); done) | (repeat (first | exact F0 _ | apply F1)))))) (Compare_ctr (p := p.k) (q := q.k)) (Wt.none rfl) rfl ?_
  rintro _ _ ⟨rfl, hA_⟩
  replace hA_ := hA_.symm; subst hA_
  refine RunL.as rfl rfl ?_
  refine RunL.nil ?_
  exact Run.ret Try.func40 (res1 rfl rfl) (by exact ⟨rfl, rfl⟩) (by repeat (first | (with_reducible exact Fin.done (by repeat (first | (with_reducible exact Rest.here) | apply Rest.there))) | (apply Fin.cons (by first | ((repeat (first | (with_reducible exact F0 _) | apply F1)); done) | (repeat (first | exact F0 _ | apply F1))))))

theorem sortMarks_ctr {G : Gp} {a : Option Addr} {cap : Nat} {xs : List M} {tl : List (K × Pos)} (hp : xs.Perm (tl.map toM)) (hn : KN tl) (hb : xs.length ≤ 1000000) :
    Ctr Try.prog G 39 [.slice a xs.length cap, .func (.func 40) #[] #[]] [Sl 69 6 a xs.length cap (xs.flatMap cM)] (fun F v A => v = .tuple #[] ∧ A = Sl 69 6 a (ML tl).length cap ((ML tl).flatMap cM) :: F) :=
  (sortC (G := G) (a := a) (cap := cap) (T := 69) sortM agg69 sz69 cM (fun _ => rfl) (fun x v hv => isOne_flat (f := cM) (xs := [x]) (fun _ => rfl) v (by simpa using hv)) (fun p q : M => cmpK p.k q.k) (cmpK_law.swo (fun m : M => m.k)) (g := 40) (cb := []) cb40 (fun W _ p q => AllC_ctr) xs (by omega)).mono (by
    rintro F v A ⟨rfl, ys, h1, h2, rfl⟩
    have he := ML_sorted hn (h1.trans hp) h2
    subst he
    exact ⟨rfl, by rw [← h1.length_eq]⟩)
set_option maxHeartbeats 2000000 in
set_option maxRecDepth 100000 in
theorem All_ctr {G : Gp} {p : Nat} {tl : List (K × Pos)} (h : TbR G p tl) (hn : KN tl) (hb : tl.length ≤ 1000) :
    Ctr Try.prog G 24 [.pointer (some ⟨p, 0, none⟩)] [] (fun F v A => ∃ a cap, v = .slice a (ML tl).length cap ∧ A = Sl 69 6 a (ML tl).length cap ((ML tl).flatMap cM) :: F) := by
  refine Ctr.intro Try.func24 rfl (by kernel_rfl) rfl (fun F => ?_)
  simp only [List.nil_append]
  obtain ⟨r, hr, arr, clock, hmi, hmg⟩ := h
  refine Run.nilSl 69 6 ?_
  refine Run.sr ?_
  refine RunL.as rfl rfl ?_
  refine RunL.nil ?_
  refine Run.sr ?_
  refine RunL.as rfl rfl ?_
  refine RunL.nil ?_
  refine Run.seq ?_
  refine Run.sr ?_
  refine RunL.mv rfl rfl ?_
  refine RunL.pure (Pure.nilCheck rfl) (Wt.none rfl) rfl rfl ?_
  refine RunL.pure (Pure.fieldAddr rfl fo63_0) (Wt.none rfl) rfl rfl ?_
  first | refine RunL.load1 rfl (by first | ((repeat (first | (with_reducible exact F0 _) | apply F1)); done) | (repeat (first | exact F0 _ | apply F1))) (by rfl) agg61 (Wt.none rfl) rfl ?_ | refine RunL.load1R rfl (by assumption) (by rfl) agg61 (Wt.none rfl) rfl ?_
  refine RunL.rangeMap rfl hmi hmg und61 (Wt.none rfl) rfl ?_; intro r10
  refine RunL.nil ?_
  refine Run.block ?_
  refine Run.keep (.cons rfl (.cons rfl (.nil)) : Keep _ [3, 10] _) ?_
  refine Run.loopF (F := F) (fun n e A => ∃ (xs rest : List (K × Pos)) (last : Option (K × Pos)) (a' : Option Addr) (c' : Nat), (xs ++ rest).Perm tl ∧ n = rest.length ∧ e = [(3, .slice a' (xs.map toM).length c'), (10, .pointer (some ⟨r10, 0, none⟩))] ∧ A = MIt eK eP r10 r arr clock last rest :: Sl 69 6 a' (xs.map toM).length c' ((xs.map toM).flatMap cM) :: F) (tl.length) (by exact ⟨[], tl, none, none, 0, .refl _, rfl, rfl, rfl⟩) (by repeat (first | (with_reducible exact Fin.done (by repeat (first | (with_reducible exact Rest.here) | apply Rest.there))) | (apply Fin.cons (by first | ((repeat (first | (with_reducible exact F0 _) | apply F1)); done) | (repeat (first | exact F0 _ | apply F1)))))) ?_
  rintro n _ _ ⟨xs, rest, last, a', c', hp, rfl, rfl, hA_⟩ ih
  replace hA_ := hA_.symm; subst hA_
  have hlen := hp.length_eq
  rw [List.length_append] at hlen
  refine Run.sr ?_
  refine RunL.nextMap rfl hmi hmg (by first | ((repeat (first | (with_reducible exact F0 _) | apply F1)); done) | (repeat (first | exact F0 _ | apply F1))) (Wt.none rfl) rfl (fun hrest => ?_) (fun q rest2 hperm => ?_)
  · skip
    subst hrest
    rw [List.append_nil] at hp
    have hl2 : (xs.map toM).length = (ML tl).length := by rw [List.length_map, ML_len, hp.length_eq]
    refine RunL.pure (Pure.extract rfl rfl) (Wt.none rfl) rfl rfl ?_
    refine RunL.nil ?_
    refine Run.seq ?_
    refine Run.condF rfl ?_
    refine Run.exit rfl ?_
    refine Run.sr ?_
    refine RunL.mv rfl rfl ?_
    refine RunL.call rfl rfl (by rfl) (by repeat (first | (with_reducible exact Take.nil _) | (apply Take.cons (by first | ((repeat (first | (with_reducible exact F0 _) | apply F1)); done) | (repeat (first | exact F0 _ | apply F1)))))) (sortMarks_ctr (hp.map toM) hn (by rw [List.length_map, hp.length_eq]; omega)) (Wt.none rfl) rfl ?_
    rintro _ _ ⟨rfl, hA_⟩
    replace hA_ := hA_.symm; subst hA_
    refine RunL.nil ?_
    refine Run.sr ?_
    refine RunL.mv rfl rfl ?_
    refine RunL.as rfl rfl ?_
    refine RunL.nil ?_
    exact Run.ret Try.func24 (res1 rfl rfl) (by exact ⟨_, _, by rw [hl2], rfl⟩) (by repeat (first | (with_reducible exact Fin.done (by repeat (first | (with_reducible exact Rest.here) | apply Rest.there))) | (apply Fin.cons (by first | ((repeat (first | (with_reducible exact F0 _) | apply F1)); done) | (repeat (first | exact F0 _ | apply F1))))))
  · skip
    have hl3 := hperm.length_eq
    rw [List.length_cons] at hl3
    refine RunL.pure (Pure.extract rfl rfl) (Wt.none rfl) rfl rfl ?_
    refine RunL.nil ?_
    refine Run.seq ?_
    refine Run.condT rfl ?_
    refine Run.skip ?_
    refine Run.block ?_
    refine Run.sr ?_
    refine RunL.entryMap rfl hmi hmg (by first | ((repeat (first | (with_reducible exact F0 _) | apply F1)); done) | (repeat (first | exact F0 _ | apply F1))) (Wt.none rfl) rfl ?_
    refine RunL.pure (Pure.extract rfl rfl) (Wt.none rfl) rfl rfl ?_
    refine RunL.pure (Pure.extract rfl rfl) (Wt.none rfl) rfl rfl ?_
    refine RunL.alloc zz36 (Wt.none rfl) rfl ?_; intro b4
    refine RunL.alloc zz26 (Wt.none rfl) rfl ?_; intro b5
    refine RunL.storeW (xs := (cK q.1)) rfl rfl (by first | ((repeat (first | (with_reducible exact F0 _) | apply F1)); done) | (repeat (first | exact F0 _ | apply F1))) sz36 (by rfl) (by rfl) (by rfl) (Wt.none rfl) ?_
    refine RunL.storeW (xs := (cPos q.2)) rfl rfl (by first | ((repeat (first | (with_reducible exact F0 _) | apply F1)); done) | (repeat (first | exact F0 _ | apply F1))) sz26 (by rfl) (by rfl) (by rfl) (Wt.none rfl) ?_
    refine RunL.nil ?_
    refine Run.region ?_
    refine RunL.mv rfl rfl ?_
    first | refine RunL.loadA (vs := (cK q.1)) rfl (by first | ((repeat (first | (with_reducible exact F0 _) | apply F1)); done) | (repeat (first | exact F0 _ | apply F1))) agg36 sz36 (by first | exact Nat.le_of_ble_eq_true rfl | (simp; done) | (simp; omega)) rfl (Wt.none rfl) rfl ?_ | refine RunL.loadNR (vs := (cK q.1)) rfl (by assumption) agg36 sz36 (by first | exact Nat.le_of_ble_eq_true rfl | (simp; done) | (simp; omega)) rfl (Wt.none rfl) rfl ?_
    first | refine RunL.loadA (vs := (cPos q.2)) rfl (by first | ((repeat (first | (with_reducible exact F0 _) | apply F1)); done) | (repeat (first | exact F0 _ | apply F1))) agg26 sz26 (by first | exact Nat.le_of_ble_eq_true rfl | (simp; done) | (simp; omega)) rfl (Wt.none rfl) rfl ?_ | refine RunL.loadNR (vs := (cPos q.2)) rfl (by assumption) agg26 sz26 (by first | exact Nat.le_of_ble_eq_true rfl | (simp; done) | (simp; omega)) rfl (Wt.none rfl) rfl ?_
    refine RunL.pure (Pure.buildL (ps := [(0, _), (1, _)]) (zs := [(.string .empty), (.string .empty), (.string .empty), (.bool false), (.int .i64 0), (.string .empty)]) (xs := (cM (toM q))) pl69 rfl rfl rfl rfl) (Wt.none rfl) rfl rfl ?_
    refine RunL.lit (vals := [_]) (vs := ([toM q] : List M).flatMap cM) und51 sz69 zz69 rfl rfl rfl rfl rfl rfl (by simp [Value.cells, bv, cK, cM, cPos]) rfl (Wt.none rfl) rfl ?_; intro b20
    refine RunL.append (m := 1) (n' := ((xs ++ [q]).map toM).length) (cs' := ((xs ++ [q]).map toM).flatMap cM) rfl rfl (by first | ((repeat (first | (with_reducible exact F0 _) | apply F1)); done) | (repeat (first | exact F0 _ | apply F1))) rfl rfl und51 und51 rfl sz69 zz69 rfl by69 (by simp; omega) (by simp; omega) (fun w sw => sw.src) (isOne_flat (f := cM) (fun _ => rfl)) (by simp) (by rw [List.map_append, List.flatMap_append]; rfl) (Wt.none rfl) rfl ?_; intro a1 c1
    refine RunL.as rfl rfl ?_
    refine RunL.nil ?_
    refine Run.inBlock ?_
    refine Run.keep (.cons rfl (.cons rfl (.nil)) : Keep _ [3, 10] _) ?_
    refine Run.againF (F := F) ih (by exact ⟨xs ++ [q], rest2, some q, a1, c1, by rw [List.append_assoc]; exact (hperm.symm.append_left xs).trans hp, rfl, rfl, rfl⟩) (by repeat (first | (with_reducible exact Fin.done (by repeat (first | (with_reducible exact Rest.here) | apply Rest.there))) | (apply Fin.cons (by first | ((repeat (first | (with_reducible exact F0 _) | apply F1)); done) | (repeat (first | exact F0 _ | apply F1)))))) ?_
    omega

theorem AllO_ctr {G : Gp} {p : Nat} {tl : List (K × Pos)} (hn : KN tl) (hb : tl.length ≤ 1000) : Ctr Try.prog G 24 [.pointer (some ⟨p, 0, none⟩)] [Tb p tl] (fun F v A => ∃ a cap, v = .slice a (ML tl).length cap ∧ A = Tb p tl :: Sl 69 6 a (ML tl).length cap ((ML tl).flatMap cM) :: F) :=
  (Ctr.lend (Q := Tb p tl) (R := fun G => TbR G p tl) Lends.Tb cb24 (fun G' hle hr => All_ctr hr hn hb)).mono (by rintro F v A ⟨A', rfl, h⟩; obtain ⟨a, cap, rfl, rfl⟩ := h; exact ⟨a, cap, rfl, rfl⟩)
end Go.Proofs.Ytaeacdhilekcbaa
