/- All entries, sorted. -/
import Derived.Test.YtppamndllgojnaaR1
set_option linter.unusedVariables false
set_option linter.unusedSimpArgs false
set_option linter.unusedSectionVars false
namespace Go.Proofs.Ytppamndllgojnaa
open Go Csl
theorem cb35 : Callable Try.prog 35 := ⟨_, Try.func35, by kernel_rfl, by kernel_rfl⟩
theorem cb38 : Callable Try.prog 38 := ⟨_, Try.func38, by kernel_rfl, by kernel_rfl⟩

namespace Csl
theorem LawCmp.swo {α β : Type} [Inhabited β] {c : α → α → Int} (h : LawCmp c) (f : β → α) : Go.Sort.SWO (Go.Proofs.ltOf fun x y => c (f x) (f y)) where
  irrefl x := by
    unfold Go.Proofs.ltOf; have := (h.eq0 (f x) (f x)).2 rfl; simp [this]
  trans x y z h1 h2 := by
    unfold Go.Proofs.ltOf at *; simp only [decide_eq_true_iff] at *; exact h.ltTrans h1 h2
  ntrans x y z h1 h2 := by
    unfold Go.Proofs.ltOf at *
    simp only [decide_eq_false_iff_not] at *
    have a1 := h.anti (f x) (f y); have a2 := h.anti (f y) (f z); have a3 := h.anti (f x) (f z)
    have := h.trans (f z) (f y) (f x) (by omega) (by omega)
    omega
instance : Inhabited E := ⟨⟨0, .empty⟩⟩
theorem EL_sorted {tl : List (ByteArray × Int)} (hn : KN tl) {ys : List E} (hp : ys.Perm (tl.map toE)) (hs : ys.Pairwise fun x y => Go.Proofs.ltOf cmpE y x = false) : ys = EL tl := by
  have hnd : ys.Nodup := hp.nodup_iff.2 (by have := toE_nodup hn; rwa [List.map_id] at this)
  refine EL_eq ?_ hp
  refine (hs.and hnd).imp fun {a b} q => ?_
  have q1 := q.1
  unfold Go.Proofs.ltOf at q1
  simp only [decide_eq_false_iff_not] at q1
  exact cmpE_law.lt_of q1 (Ne.symm q.2)
end Csl
def sortE_ren : Go.Shelf.Ren := ⟨fun | 6 => 37 | 15 => 44 | 14 => 43 | 28 => 55 | 29 => 56 | 20 => 47 | 21 => 48 | 22 => 49 | 23 => 50 | 24 => 51 | 25 => 52 | 26 => 53 | 27 => 54 | 46 => 57 | 47 => 58 | 48 => 59 | 49 => 60 | 50 => 61 | 57 => 62 | n => n, fun | 22 => 53 | 24 => 45 | 25 => 68 | 3 => 3 | 39 => 77 | 0 => 0 | 53 => 87 | 55 => 89 | 4 => 4 | 46 => 81 | 45 => 80 | 50 => 48 | 5 => 5 | 9 => 9 | 66 => 90 | 70 => 94 | 76 => 96 | 77 => 97 | n => n, fun n => n⟩
theorem sortE : Go.Proofs.SlLaysF0.n6 Try.prog sortE_ren where
  mixed := by kernel_rfl
  f6 := ⟨"slices.SortFunc[[]concourse/heap.Entry,concourse/heap.Entry]", by decide, Try.func37.trans (congrArg some (by kernel_rfl))⟩
  f14 := ⟨"slices.pdqsortCmpFunc[concourse/heap.Entry]", by decide, Try.func43.trans (congrArg some (by kernel_rfl))⟩
  f15 := Try.func44.trans (congrArg some (by kernel_rfl))
  f20 := ⟨"slices.insertionSortCmpFunc[concourse/heap.Entry]", by decide, Try.func47.trans (congrArg some (by kernel_rfl))⟩
  f21 := ⟨"slices.heapSortCmpFunc[concourse/heap.Entry]", by decide, Try.func48.trans (congrArg some (by kernel_rfl))⟩
  f22 := ⟨"slices.breakPatternsCmpFunc[concourse/heap.Entry]", by decide, Try.func49.trans (congrArg some (by kernel_rfl))⟩
  f23 := ⟨"slices.choosePivotCmpFunc[concourse/heap.Entry]", by decide, Try.func50.trans (congrArg some (by kernel_rfl))⟩
  f24 := ⟨"slices.reverseRangeCmpFunc[concourse/heap.Entry]", by decide, Try.func51.trans (congrArg some (by kernel_rfl))⟩
  f25 := ⟨"slices.partialInsertionSortCmpFunc[concourse/heap.Entry]", by decide, Try.func52.trans (congrArg some (by kernel_rfl))⟩
  f26 := ⟨"slices.partitionEqualCmpFunc[concourse/heap.Entry]", by decide, Try.func53.trans (congrArg some (by kernel_rfl))⟩
  f27 := ⟨"slices.partitionCmpFunc[concourse/heap.Entry]", by decide, Try.func54.trans (congrArg some (by kernel_rfl))⟩
  f28 := Try.func55.trans (congrArg some (by kernel_rfl))
  f29 := Try.func56.trans (congrArg some (by kernel_rfl))
  f46 := ⟨"slices.siftDownCmpFunc[concourse/heap.Entry]", by decide, Try.func57.trans (congrArg some (by kernel_rfl))⟩
  f47 := Try.func58.trans (congrArg some (by kernel_rfl))
  f48 := Try.func59.trans (congrArg some (by kernel_rfl))
  f49 := ⟨"slices.medianAdjacentCmpFunc[concourse/heap.Entry]", by decide, Try.func60.trans (congrArg some (by kernel_rfl))⟩
  f50 := ⟨"slices.medianCmpFunc[concourse/heap.Entry]", by decide, Try.func61.trans (congrArg some (by kernel_rfl))⟩
  f57 := ⟨"slices.order2CmpFunc[concourse/heap.Entry]", by decide, Try.func62.trans (congrArg some (by kernel_rfl))⟩
  t0 := Try.underlying0
  a0 := Try.isAgg0
  z0 := Try.sizeOf0
  v0 := Try.zeroValue0
  t3 := Try.underlying3
  a3 := Try.isAgg3
  z3 := Try.sizeOf3
  v3 := Try.zeroValue3
  t4 := Try.underlying4
  a4 := Try.isAgg4
  z4 := Try.sizeOf4
  v4 := Try.zeroValue4
  t5 := Try.underlying5
  a5 := Try.isAgg5
  z5 := Try.sizeOf5
  v5 := Try.zeroValue5
  t9 := Try.underlying9
  a9 := Try.isAgg9
  z9 := Try.sizeOf9
  v9 := Try.zeroValue9
  t22 := Try.underlying53
  a22 := Try.isAgg53
  z22 := Try.sizeOf53
  v22 := Try.zeroValue53
  t25 := Try.underlying68
  a25 := Try.isAgg68
  z25 := Try.sizeOf68
  v25 := Try.zeroValue68
  t39 := Try.underlying77
  a39 := Try.isAgg77
  z39 := Try.sizeOf77
  v39 := Try.zeroValue77
  t45 := Try.underlying80
  a45 := Try.isAgg80
  z45 := Try.sizeOf80
  v45 := Try.zeroValue80
  t46 := Try.underlying81
  a46 := Try.isAgg81
  z46 := Try.sizeOf81
  v46 := Try.zeroValue81
  t50 := Try.underlying48
  a50 := Try.isAgg48
  z50 := Try.sizeOf48
  v50 := Try.zeroValue48
  t53 := Try.underlying87
  a53 := Try.isAgg87
  z53 := Try.sizeOf87
  v53 := Try.zeroValue87
  t55 := Try.underlying89
  a55 := Try.isAgg89
  z55 := Try.sizeOf89
  v55 := Try.zeroValue89
  t66 := Try.underlying90
  a66 := Try.isAgg90
  z66 := Try.sizeOf90
  v66 := Try.zeroValue90
  t70 := Try.underlying94
  a70 := Try.isAgg94
  z70 := Try.sizeOf94
  v70 := Try.zeroValue94
  t76 := Try.underlying96
  a76 := Try.isAgg96
  z76 := Try.sizeOf96
  v76 := Try.zeroValue96
  t77 := Try.underlying97
  a77 := Try.isAgg97
  z77 := Try.sizeOf97
  v77 := Try.zeroValue97
theorem sortE_ctr {G : Gp} {a : Option Addr} {cap : Nat} {xs : List E} {tl : List (ByteArray × Int)} (hp : xs.Perm (tl.map toE)) (hn : KN tl) (hb : xs.length ≤ 1000000) :
    Ctr Try.prog G 37 [.slice a xs.length cap, .func (.func 35) #[] #[]] [Sl 45 2 a xs.length cap (xs.flatMap cE)] (fun F v A => v = .tuple #[] ∧ A = Sl 45 2 a (EL tl).length cap ((EL tl).flatMap cE) :: F) :=
  (sortC (G := G) (a := a) (cap := cap) (T := 45) sortE agg45 sz45 cE (fun _ => rfl) (fun x v hv => isOne_flat (f := cE) (xs := [x]) (fun _ => rfl) v (by simpa using hv)) (fun p q : E => cmpE p q) (cmpE_law.swo (fun p : E => p)) (g := 35) (cb := []) cb35 (fun W _ p q => ahead_ctr) xs (by omega)).mono (by
    rintro F v A ⟨rfl, ys, h1, h2, rfl⟩
    have he := EL_sorted hn (h1.trans hp) h2
    subst he
    exact ⟨rfl, by rw [← h1.length_eq]⟩)
set_option maxRecDepth 100000 in
theorem SortedFunc_ctr {G : Gp} {gf : FuncId} {lb : Array Value} {xs : List E} (hseq : SeqC Try.prog G gf lb.toList (fun x : E => [.agg (cE x).toArray]) xs) (hcal : Callable Try.prog gf) (hb : xs.length ≤ 1000000) {tl : List (ByteArray × Int)} (hp : xs.Perm (tl.map toE)) (hn : KN tl) :
    Ctr Try.prog G 33 [.func (.func gf) #[] lb, .func (.func 35) #[] #[]] [] (fun F v A => ∃ a c, v = .slice a (EL tl).length c ∧ A = Sl 45 2 a (EL tl).length c ((EL tl).flatMap cE) :: F) := by
  refine Ctr.intro Try.func33 rfl (by kernel_rfl) rfl (fun F => ?_)
  simp only [List.nil_append]
  refine Run.sr ?_
  refine RunL.as rfl rfl ?_
  refine RunL.nil ?_
  refine Run.sr ?_
  refine RunL.mv rfl rfl ?_
  refine RunL.call rfl rfl (by rfl) (by repeat (first | (with_reducible exact Take.nil _) | (apply Take.cons (by first | ((repeat (first | (with_reducible exact F0 _) | apply F1)); done) | (repeat (first | exact F0 _ | apply F1)))))) (Collect_ctr hseq hcal hb) (Wt.none rfl) rfl ?_
  rintro _ _ ⟨a, c, rfl, hA_⟩
  replace hA_ := hA_.symm; subst hA_
  refine RunL.as rfl rfl ?_
  refine RunL.nil ?_
  refine Run.sr ?_
  refine RunL.mv rfl rfl ?_
  refine RunL.mv rfl rfl ?_
  refine RunL.call rfl rfl (by rfl) (by repeat (first | (with_reducible exact Take.nil _) | (apply Take.cons (by first | ((repeat (first | (with_reducible exact F0 _) | apply F1)); done) | (repeat (first | exact F0 _ | apply F1)))))) (sortE_ctr hp hn hb) (Wt.none rfl) rfl ?_
  rintro _ _ ⟨rfl, hA_⟩
  replace hA_ := hA_.symm; subst hA_
  rw [show xs.length = (EL tl).length from by rw [hp.length_eq, List.length_map, EL_len]]
  refine RunL.nil ?_
  refine Run.sr ?_
  refine RunL.mv rfl rfl ?_
  refine RunL.as rfl rfl ?_
  refine RunL.nil ?_
  exact Run.ret Try.func33 (res1 rfl rfl) (by exact ⟨a, c, rfl, rfl⟩) (by repeat (first | (with_reducible exact Fin.done (by repeat (first | (with_reducible exact Rest.here) | apply Rest.there))) | (apply Fin.cons (by first | ((repeat (first | (with_reducible exact F0 _) | apply F1)); done) | (repeat (first | exact F0 _ | apply F1))))))

set_option maxRecDepth 100000 in
theorem HAll_ctr {G : Gp} {p : Nat} {tl : List (ByteArray × Int)} (hb : tl.length ≤ 1000) :
    Ctr Try.prog G 25 [.pointer (some ⟨p, 0, none⟩)] [Hq p tl] (fun F v A => ∃ a c, v = .slice a (EL tl).length c ∧ A = Sl 45 2 a (EL tl).length c ((EL tl).flatMap cE) :: Hq p tl :: F) := by
  refine Ctr.intro Try.func25 rfl (by kernel_rfl) rfl (fun F => ?_)
  simp only [List.cons_append, List.nil_append]
  refine Run.openH (by first | ((repeat (first | (with_reducible exact F0 _) | apply F1)); done) | (repeat (first | exact F0 _ | apply F1))) ?_; intro V at_ hok
  have hVl : V.length ≤ 1000 := by rw [hok.perm.length_eq, List.length_map]; exact hb
  refine Run.openA (by first | ((repeat (first | (with_reducible exact F0 _) | apply F1)); done) | (repeat (first | exact F0 _ | apply F1))) ?_; intro a cap r
  refine Run.sr ?_
  refine RunL.as rfl rfl ?_
  refine RunL.nil ?_
  refine Run.sr ?_
  refine RunL.mv rfl rfl ?_
  refine RunL.pure (Pure.nilCheck rfl) (Wt.none rfl) rfl rfl ?_
  refine RunL.pure (Pure.fieldAddr rfl fo60_0) (Wt.none rfl) rfl rfl ?_
  first | refine RunL.load1 rfl (by first | ((repeat (first | (with_reducible exact F0 _) | apply F1)); done) | (repeat (first | exact F0 _ | apply F1))) (by rfl) agg53 (Wt.none rfl) rfl ?_ | refine RunL.load1R rfl (by assumption) (by rfl) agg53 (Wt.none rfl) rfl ?_
  refine RunL.call rfl rfl (by rfl) (by repeat (first | (with_reducible exact Take.nil _) | (apply Take.cons (by first | ((repeat (first | (with_reducible exact F0 _) | apply F1)); done) | (repeat (first | exact F0 _ | apply F1)))))) (Values_ctr) (Wt.none rfl) rfl ?_
  rintro _ _ ⟨bv, rfl, hA_⟩
  replace hA_ := hA_.symm; subst hA_
  refine RunL.lendB (Q := row bv 53 _) Lends.row (by first | ((repeat (first | (with_reducible exact F0 _) | apply F1)); done) | (repeat (first | exact F0 _ | apply F1))) (fun Ghbv hleGhbv hbv backGhbv => ?_)
  refine RunL.lendB (Q := Sl 45 2 a V.length cap _) Lends.Sl (by first | ((repeat (first | (with_reducible exact F0 _) | apply F1)); done) | (repeat (first | exact F0 _ | apply F1))) (fun Ghsv hleGhsv hsv backGhsv => ?_)
  have hbv_Ghsv := hbv.mono hleGhsv
  refine RunL.call rfl rfl (by rfl) (by repeat (first | (with_reducible exact Take.nil _) | (apply Take.cons (by first | ((repeat (first | (with_reducible exact F0 _) | apply F1)); done) | (repeat (first | exact F0 _ | apply F1)))))) (SortedFunc_ctr (ValuesSeq hbv_Ghsv hsv.1 (by omega)) cb38 (by omega) hok.perm hok.kn) (Wt.none rfl) rfl ?_
  rintro _ _ ⟨za, zc, rfl, hA_⟩
  replace hA_ := hA_.symm; subst hA_
  refine RunL.as rfl rfl ?_
  refine RunL.nil ?_
  refine Run.backB backGhsv ?_
  refine Run.backB backGhbv ?_
  refine Run.mkA (V) (by repeat (first | (with_reducible exact Take.nil _) | (apply Take.cons (by first | ((repeat (first | (with_reducible exact F0 _) | apply F1)); done) | (repeat (first | exact F0 _ | apply F1)))))) (by simp) ?_
  refine Run.mkH (hok) (by repeat (first | (with_reducible exact Take.nil _) | (apply Take.cons (by first | ((repeat (first | (with_reducible exact F0 _) | apply F1)); done) | (repeat (first | exact F0 _ | apply F1)))))) ?_
  exact Run.ret Try.func25 (res1 rfl rfl) (by exact ⟨za, zc, rfl, rfl⟩) (by repeat (first | (with_reducible exact Fin.done (by repeat (first | (with_reducible exact Rest.here) | apply Rest.there))) | (apply Fin.cons (by first | ((repeat (first | (with_reducible exact F0 _) | apply F1)); done) | (repeat (first | exact F0 _ | apply F1))))))

end Go.Proofs.Ytppamndllgojnaa
