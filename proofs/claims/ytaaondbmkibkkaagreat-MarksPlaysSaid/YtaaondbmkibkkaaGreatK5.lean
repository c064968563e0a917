/- All marks, sorted. -/
import Derived.Test.YtaaondbmkibkkaaGreatK4
set_option linter.unusedVariables false
set_option linter.unusedSimpArgs false
set_option linter.unusedSectionVars false
namespace Go.Proofs.YtaaondbmkibkkaaGreat
open Go Csl


namespace Csl
theorem tput_get {l : List (K × Pos)} {k : K} {q : Pos} : mget k (tput l k q) = some (if adopts l k q then q else (mget k l).getD noPos) := by
  unfold Csl.tput
  cases h : adopts l k q with
  | true => simp [mget_mput]
  | false =>
    rw [adopts_eq] at h
    cases hq : mget k l with
    | none => rw [hq] at h; simp at h
    | some o => simp [hq]
theorem tput_len1 {l : List (K × Pos)} {k : K} {q : Pos} : (tput l k q).length = if (mget k l).isSome then l.length else l.length + 1 := by
  unfold Csl.tput
  cases h : adopts l k q with
  | true => simp [mput_len]
  | false =>
    rw [adopts_eq] at h
    cases hq : mget k l with
    | none => rw [hq] at h; simp at h
    | some o => simp
end Csl

namespace Csl
instance : Inhabited M := ⟨⟨⟨.empty, .empty, .empty, false⟩, ⟨0, .empty⟩⟩⟩
theorem ML_sorted {tl : List (K × Pos)} (hn : KN tl) {ys : List M} (hp : ys.Perm (tl.map toM)) (hs : ys.Pairwise fun x y => Go.Proofs.ltOf (fun p q : M => cmpK p.k q.k) y x = false) : ys = ML tl := by
  have hnd : (ys.map (fun m : M => m.k)).Nodup := (hp.map (fun m : M => m.k)).nodup_iff.2 (by rw [List.map_map]; exact hn)
  have hne := List.pairwise_map.1 hnd
  have h1 : Sd cmpK (fun m : M => m.k) ys := (hs.and hne).imp fun {a b} q => by
    have q1 := q.1
    unfold Go.Proofs.ltOf at q1
    simp only [decide_eq_false_iff_not] at q1
    exact cmpK_law.lt_of q1 (Ne.symm q.2)
  have h2 : Sd cmpK (fun m : M => m.k) (ML tl) := by
    unfold ML Sd; rw [List.pairwise_map]; exact srt_sd cmpK_law hn
  exact h1.uniq cmpK_law h2 (hp.trans ((srt_perm tl).map toM).symm)
end Csl
def sortM_ren : Go.Shelf.Ren := ⟨fun | 6 => 59 | 15 => 97 | 14 => 96 | 28 => 128 | 29 => 129 | 20 => 120 | 21 => 121 | 22 => 122 | 23 => 123 | 24 => 124 | 25 => 125 | 26 => 126 | 27 => 127 | 46 => 137 | 47 => 138 | 48 => 139 | 49 => 140 | 50 => 141 | 57 => 146 | n => n, fun | 22 => 55 | 24 => 115 | 25 => 123 | 3 => 3 | 39 => 167 | 0 => 0 | 53 => 192 | 55 => 194 | 4 => 4 | 46 => 185 | 45 => 184 | 50 => 189 | 5 => 5 | 9 => 9 | 66 => 198 | 70 => 202 | 76 => 206 | 77 => 207 | n => n, fun n => n⟩
theorem sortM : Go.Proofs.SlLaysF0.n6 Tryz.prog sortM_ren where
  mixed := by kernel_rfl
  f6 := ⟨"slices.SortFunc[[]concourse/receipt.Mark,concourse/receipt.Mark]", by decide, Tryz.func59.trans (congrArg some (by kernel_rfl))⟩
  f14 := ⟨"slices.pdqsortCmpFunc[concourse/receipt.Mark]", by decide, Tryz.func96.trans (congrArg some (by kernel_rfl))⟩
  f15 := Tryz.func97.trans (congrArg some (by kernel_rfl))
  f20 := ⟨"slices.insertionSortCmpFunc[concourse/receipt.Mark]", by decide, Tryz.func120.trans (congrArg some (by kernel_rfl))⟩
  f21 := ⟨"slices.heapSortCmpFunc[concourse/receipt.Mark]", by decide, Tryz.func121.trans (congrArg some (by kernel_rfl))⟩
  f22 := ⟨"slices.breakPatternsCmpFunc[concourse/receipt.Mark]", by decide, Tryz.func122.trans (congrArg some (by kernel_rfl))⟩
  f23 := ⟨"slices.choosePivotCmpFunc[concourse/receipt.Mark]", by decide, Tryz.func123.trans (congrArg some (by kernel_rfl))⟩
  f24 := ⟨"slices.reverseRangeCmpFunc[concourse/receipt.Mark]", by decide, Tryz.func124.trans (congrArg some (by kernel_rfl))⟩
  f25 := ⟨"slices.partialInsertionSortCmpFunc[concourse/receipt.Mark]", by decide, Tryz.func125.trans (congrArg some (by kernel_rfl))⟩
  f26 := ⟨"slices.partitionEqualCmpFunc[concourse/receipt.Mark]", by decide, Tryz.func126.trans (congrArg some (by kernel_rfl))⟩
  f27 := ⟨"slices.partitionCmpFunc[concourse/receipt.Mark]", by decide, Tryz.func127.trans (congrArg some (by kernel_rfl))⟩
  f28 := Tryz.func128.trans (congrArg some (by kernel_rfl))
  f29 := Tryz.func129.trans (congrArg some (by kernel_rfl))
  f46 := ⟨"slices.siftDownCmpFunc[concourse/receipt.Mark]", by decide, Tryz.func137.trans (congrArg some (by kernel_rfl))⟩
  f47 := Tryz.func138.trans (congrArg some (by kernel_rfl))
  f48 := Tryz.func139.trans (congrArg some (by kernel_rfl))
  f49 := ⟨"slices.medianAdjacentCmpFunc[concourse/receipt.Mark]", by decide, Tryz.func140.trans (congrArg some (by kernel_rfl))⟩
  f50 := ⟨"slices.medianCmpFunc[concourse/receipt.Mark]", by decide, Tryz.func141.trans (congrArg some (by kernel_rfl))⟩
  f57 := ⟨"slices.order2CmpFunc[concourse/receipt.Mark]", by decide, Tryz.func146.trans (congrArg some (by kernel_rfl))⟩
  t0 := Tryz.underlying0
  a0 := Tryz.isAgg0
  z0 := Tryz.sizeOf0
  v0 := Tryz.zeroValue0
  t3 := Tryz.underlying3
  a3 := Tryz.isAgg3
  z3 := Tryz.sizeOf3
  v3 := Tryz.zeroValue3
  t4 := Tryz.underlying4
  a4 := Tryz.isAgg4
  z4 := Tryz.sizeOf4
  v4 := Tryz.zeroValue4
  t5 := Tryz.underlying5
  a5 := Tryz.isAgg5
  z5 := Tryz.sizeOf5
  v5 := Tryz.zeroValue5
  t9 := Tryz.underlying9
  a9 := Tryz.isAgg9
  z9 := Tryz.sizeOf9
  v9 := Tryz.zeroValue9
  t22 := Tryz.underlying55
  a22 := Tryz.isAgg55
  z22 := Tryz.sizeOf55
  v22 := Tryz.zeroValue55
  t25 := Tryz.underlying123
  a25 := Tryz.isAgg123
  z25 := Tryz.sizeOf123
  v25 := Tryz.zeroValue123
  t39 := Tryz.underlying167
  a39 := Tryz.isAgg167
  z39 := Tryz.sizeOf167
  v39 := Tryz.zeroValue167
  t45 := Tryz.underlying184
  a45 := Tryz.isAgg184
  z45 := Tryz.sizeOf184
  v45 := Tryz.zeroValue184
  t46 := Tryz.underlying185
  a46 := Tryz.isAgg185
  z46 := Tryz.sizeOf185
  v46 := Tryz.zeroValue185
  t50 := Tryz.underlying189
  a50 := Tryz.isAgg189
  z50 := Tryz.sizeOf189
  v50 := Tryz.zeroValue189
  t53 := Tryz.underlying192
  a53 := Tryz.isAgg192
  z53 := Tryz.sizeOf192
  v53 := Tryz.zeroValue192
  t55 := Tryz.underlying194
  a55 := Tryz.isAgg194
  z55 := Tryz.sizeOf194
  v55 := Tryz.zeroValue194
  t66 := Tryz.underlying198
  a66 := Tryz.isAgg198
  z66 := Tryz.sizeOf198
  v66 := Tryz.zeroValue198
  t70 := Tryz.underlying202
  a70 := Tryz.isAgg202
  z70 := Tryz.sizeOf202
  v70 := Tryz.zeroValue202
  t76 := Tryz.underlying206
  a76 := Tryz.isAgg206
  z76 := Tryz.sizeOf206
  v76 := Tryz.zeroValue206
  t77 := Tryz.underlying207
  a77 := Tryz.isAgg207
  z77 := Tryz.sizeOf207
  v77 := Tryz.zeroValue207
theorem GetO_ctr {G : Gp} {p : Nat} {k : K} {l : List (K × Pos)} : Ctr Tryz.prog G 28 [.pointer (some ⟨p, 0, none⟩), .agg (cK k).toArray] [Tb p l] (fun F v A => v = .tuple #[.agg (cPos ((mget k l).getD noPos)).toArray, .bool (mget k l).isSome] ∧ A = Tb p l :: F) :=
  (Ctr.lend (Q := Tb p l) (R := fun G => TbR G p l) Lends.Tb cb28 (fun G' hle hr => GetT_ctr hr)).mono (by rintro F v A ⟨A', rfl, h⟩; obtain ⟨rfl, rfl⟩ := h; exact ⟨rfl, rfl⟩)
set_option maxRecDepth 100000 in
theorem AllC_ctr {G : Gp} {p q : M} :
    Ctr Tryz.prog G 60 [.agg (cM p).toArray, .agg (cM q).toArray] [] (fun F v A => v = .int .i64 (cmpK p.k q.k) ∧ A = F) := by
  refine Ctr.intro Tryz.func60 rfl (by kernel_rfl) rfl (fun F => ?_)
  simp only [List.nil_append]
  refine sr' ?_
  refine RunL.boxA (xs := (cM p)) rfl (Wt.none rfl) rfl ?_; intro b2
  refine RunL.boxA (xs := (cM q)) rfl (Wt.none rfl) rfl ?_; intro b3
  refine as' rfl (nl' ?_)
  refine la' (row b2 115 _) Lends.row fun G2 hleG2 hrb2 => ?_
  refine la' (row b3 115 _) Lends.row fun G3 hleG3 hrb3 => ?_
  replace hrb2 := hrb2.mono hleG3
  refine sr' (pp' (Pure.fieldAddr rfl fo115_0) (lA' (cK p.k) rfl agg34 sz34 ?_))
  refine pp' (Pure.fieldAddr rfl fo115_0) (lA' (cK q.k) rfl agg34 sz34 ?_)
  refine ca' rfl rfl (s := Compare_ctr (p := p.k) (q := q.k)) (q := ?_)
  rintro _ _ ⟨rfl, hA_⟩
  replace hA_ := hA_.symm; subst hA_
  refine as' rfl (nl' ?_)
  exact rt' Tryz.func60 (res1 rfl rfl) (by exact ⟨rfl, rfl⟩)

theorem sortMarks_ctr {G : Gp} {a : Option Addr} {cap : Nat} {xs : List M} {tl : List (K × Pos)} (hp : xs.Perm (tl.map toM)) (hn : KN tl) (hb : xs.length ≤ 1000000) :
    Ctr Tryz.prog G 59 [.slice a xs.length cap, .func (.func 60) #[] #[]] [Sl 115 6 a xs.length cap (xs.flatMap cM)] (fun F v A => v = .tuple #[] ∧ A = Sl 115 6 a (ML tl).length cap ((ML tl).flatMap cM) :: F) :=
  (sortC (G := G) (a := a) (cap := cap) (T := 115) sortM agg115 sz115 cM (fun _ => rfl) (fun x v hv => isOne_flat (f := cM) (xs := [x]) (fun _ => rfl) v (by simpa using hv)) (fun p q : M => cmpK p.k q.k) (cmpK_law.swo (fun m : M => m.k)) (g := 60) (cb := []) cb60 (fun W _ p q => AllC_ctr) xs (by omega)).mono (by
    rintro F v A ⟨rfl, ys, h1, h2, rfl⟩
    have he := ML_sorted hn (h1.trans hp) h2
    subst he
    exact ⟨rfl, by rw [← h1.length_eq]⟩)
set_option maxHeartbeats 2000000 in
set_option maxRecDepth 100000 in
theorem All_ctr {G : Gp} {p : Nat} {tl : List (K × Pos)} (h : TbR G p tl) (hn : KN tl) (hb : tl.length ≤ 1000) :
    Ctr Tryz.prog G 25 [.pointer (some ⟨p, 0, none⟩)] [] (fun F v A => ∃ a cap, v = .slice a (ML tl).length cap ∧ A = Sl 115 6 a (ML tl).length cap ((ML tl).flatMap cM) :: F) := by
  refine Ctr.intro Tryz.func25 rfl (by kernel_rfl) rfl (fun F => ?_)
  simp only [List.nil_append]
  obtain ⟨r, hr, arr, clock, hmi, hmg⟩ := h
  refine Run.nilSl 115 6 ?_
  refine sr' (as' rfl (nl' (sr' (as' rfl (nl' (sq' (sr' (mv' rfl (pp' (Pure.nilCheck rfl) (pp' (Pure.fieldAddr rfl fo120_0) (l1' rfl agg118 ?_)))))))))))
  refine RunL.rangeMap rfl hmi hmg und118 (Wt.none rfl) rfl ?_; intro r10
  refine nl' (bl' ?_)
  refine kp' [3, 10] ?_
  refine lp' F (fun n e A => ∃ (xs rest : List (K × Pos)) (last : Option (K × Pos)) (a' : Option Addr) (c' : Nat), (xs ++ rest).Perm tl ∧ n = rest.length ∧ e = [(3, .slice a' (xs.map toM).length c'), (10, .pointer (some ⟨r10, 0, none⟩))] ∧ A = MIt eK eP r10 r arr clock last rest :: Sl 115 6 a' (xs.map toM).length c' ((xs.map toM).flatMap cM) :: F) (tl.length) (by exact ⟨[], tl, none, none, 0, .refl _, rfl, rfl, rfl⟩) ?_
  rintro n _ _ ⟨xs, rest, last, a', c', hp, rfl, rfl, hA_⟩ ih
  replace hA_ := hA_.symm; subst hA_
  have hlen := hp.length_eq
  rw [List.length_append] at hlen
  refine sr' ?_
  refine RunL.nextMap rfl hmi hmg (by first | ((repeat (first | (with_reducible exact F0 _) | apply F1)); done) | (repeat (first | exact F0 _ | apply F1))) (Wt.none rfl) rfl (fun hrest => ?_) (fun q rest2 hperm => ?_)
  · skip
    subst hrest
    rw [List.append_nil] at hp
    have hl2 : (xs.map toM).length = (ML tl).length := by rw [List.length_map, ML_len, hp.length_eq]
    refine pp' (Pure.extract rfl rfl) (nl' (sq' (cF' (ex' rfl (sr' (mv' rfl ?_))))))
    refine ca' rfl rfl (s := sortMarks_ctr (hp.map toM) hn (by rw [List.length_map, hp.length_eq]; omega)) (q := ?_)
    rintro _ _ ⟨rfl, hA_⟩
    replace hA_ := hA_.symm; subst hA_
    refine nl' (sr' (mv' rfl (as' rfl (nl' ?_))))
    exact rt' Tryz.func25 (res1 rfl rfl) (by exact ⟨_, _, by rw [hl2], rfl⟩)
  · skip
    have hl3 := hperm.length_eq
    rw [List.length_cons] at hl3
    refine pp' (Pure.extract rfl rfl) (nl' (sq' (cT' (sk' (bl' (sr' ?_))))))
    refine RunL.entryMap rfl hmi hmg (by first | ((repeat (first | (with_reducible exact F0 _) | apply F1)); done) | (repeat (first | exact F0 _ | apply F1))) (Wt.none rfl) rfl ?_
    refine pp' (Pure.extract rfl rfl) (pp' (Pure.extract rfl rfl) ?_)
    refine RunL.alloc zz34 (Wt.none rfl) rfl ?_; intro b4
    refine RunL.alloc zz69 (Wt.none rfl) rfl ?_; intro b5
    refine sW' (cK q.1) rfl rfl sz34 ?_
    refine sW' (cPos q.2) rfl rfl sz69 ?_
    refine nl' (rg' (mv' rfl (lA' (cK q.1) rfl agg34 sz34 ?_)))
    refine lA' (cPos q.2) rfl agg69 sz69 ?_
    refine pp' (Pure.buildL (ps := [(0, _), (1, _)]) (zs := [(.string .empty), (.string .empty), (.string .empty), (.bool false), (.int .i64 0), (.string .empty)]) (xs := (cM (toM q))) pl115 rfl rfl rfl rfl) ?_
    refine RunL.lit (vals := [_]) (vs := ([toM q] : List M).flatMap cM) und55 sz115 zz115 rfl rfl rfl rfl rfl rfl (by simp [Value.cells, bv, cDD, cEdu, cEvn, cGG, cK, cM, cNde, cPP, cPos, cSS, cVV]) rfl (Wt.none rfl) rfl ?_; intro b20
    refine RunL.append (m := 1) (n' := ((xs ++ [q]).map toM).length) (cs' := ((xs ++ [q]).map toM).flatMap cM) rfl rfl (by first | ((repeat (first | (with_reducible exact F0 _) | apply F1)); done) | (repeat (first | exact F0 _ | apply F1))) rfl rfl und55 und55 rfl sz115 zz115 rfl by115 (by simp; omega) (by simp; omega) (fun w sw => sw.src) (isOne_flat (f := cM) (fun _ => rfl)) (by simp) (by rw [List.map_append, List.flatMap_append]; rfl) (Wt.none rfl) rfl ?_; intro a1 c1
    refine as' rfl (nl' (ib' ?_))
    refine kp' [3, 10] ?_
    exact ag' F ih (by exact ⟨xs ++ [q], rest2, some q, a1, c1, by rw [List.append_assoc]; exact (hperm.symm.append_left xs).trans hp, rfl, rfl, rfl⟩)

theorem AllO_ctr {G : Gp} {p : Nat} {tl : List (K × Pos)} (hn : KN tl) (hb : tl.length ≤ 1000) : Ctr Tryz.prog G 25 [.pointer (some ⟨p, 0, none⟩)] [Tb p tl] (fun F v A => ∃ a cap, v = .slice a (ML tl).length cap ∧ A = Tb p tl :: Sl 115 6 a (ML tl).length cap ((ML tl).flatMap cM) :: F) :=
  (Ctr.lend (Q := Tb p tl) (R := fun G => TbR G p tl) Lends.Tb cb25 (fun G' hle hr => All_ctr hr hn hb)).mono (by rintro F v A ⟨A', rfl, h⟩; obtain ⟨a, cap, rfl, rfl⟩ := h; exact ⟨a, cap, rfl, rfl⟩)
end Go.Proofs.YtaaondbmkibkkaaGreat
