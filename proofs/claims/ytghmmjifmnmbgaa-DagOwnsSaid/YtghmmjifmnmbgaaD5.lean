/- What is told. -/
import Derived.Test.YtghmmjifmnmbgaaD4
set_option linter.unusedVariables false
set_option linter.unusedSimpArgs false
set_option linter.unusedSectionVars false
namespace Go.Proofs.Ytghmmjifmnmbgaa
open Go Csl

def sortP_ren : Go.Shelf.Ren := ⟨fun | 6 => 68 | 15 => 78 | 14 => 77 | 28 => 92 | 29 => 93 | 20 => 84 | 21 => 85 | 22 => 86 | 23 => 87 | 24 => 88 | 25 => 89 | 26 => 90 | 27 => 91 | 46 => 96 | 47 => 97 | 48 => 98 | 49 => 99 | 50 => 100 | 57 => 105 | n => n, fun | 22 => 96 | 24 => 39 | 25 => 42 | 3 => 3 | 39 => 105 | 0 => 0 | 53 => 117 | 55 => 119 | 4 => 4 | 46 => 110 | 45 => 109 | 50 => 114 | 5 => 5 | 9 => 9 | 66 => 120 | 70 => 124 | 76 => 127 | 77 => 128 | n => n, fun n => n⟩
theorem sortP : Go.Proofs.SlLaysF0.n6 Try.prog sortP_ren where
  mixed := by kernel_rfl
  f6 := ⟨"slices.SortFunc[[]concourse/api.Position,concourse/api.Position]", by decide, Try.func68.trans (congrArg some (by kernel_rfl))⟩
  f14 := ⟨"slices.pdqsortCmpFunc[concourse/api.Position]", by decide, Try.func77.trans (congrArg some (by kernel_rfl))⟩
  f15 := Try.func78.trans (congrArg some (by kernel_rfl))
  f20 := ⟨"slices.insertionSortCmpFunc[concourse/api.Position]", by decide, Try.func84.trans (congrArg some (by kernel_rfl))⟩
  f21 := ⟨"slices.heapSortCmpFunc[concourse/api.Position]", by decide, Try.func85.trans (congrArg some (by kernel_rfl))⟩
  f22 := ⟨"slices.breakPatternsCmpFunc[concourse/api.Position]", by decide, Try.func86.trans (congrArg some (by kernel_rfl))⟩
  f23 := ⟨"slices.choosePivotCmpFunc[concourse/api.Position]", by decide, Try.func87.trans (congrArg some (by kernel_rfl))⟩
  f24 := ⟨"slices.reverseRangeCmpFunc[concourse/api.Position]", by decide, Try.func88.trans (congrArg some (by kernel_rfl))⟩
  f25 := ⟨"slices.partialInsertionSortCmpFunc[concourse/api.Position]", by decide, Try.func89.trans (congrArg some (by kernel_rfl))⟩
  f26 := ⟨"slices.partitionEqualCmpFunc[concourse/api.Position]", by decide, Try.func90.trans (congrArg some (by kernel_rfl))⟩
  f27 := ⟨"slices.partitionCmpFunc[concourse/api.Position]", by decide, Try.func91.trans (congrArg some (by kernel_rfl))⟩
  f28 := Try.func92.trans (congrArg some (by kernel_rfl))
  f29 := Try.func93.trans (congrArg some (by kernel_rfl))
  f46 := ⟨"slices.siftDownCmpFunc[concourse/api.Position]", by decide, Try.func96.trans (congrArg some (by kernel_rfl))⟩
  f47 := Try.func97.trans (congrArg some (by kernel_rfl))
  f48 := Try.func98.trans (congrArg some (by kernel_rfl))
  f49 := ⟨"slices.medianAdjacentCmpFunc[concourse/api.Position]", by decide, Try.func99.trans (congrArg some (by kernel_rfl))⟩
  f50 := ⟨"slices.medianCmpFunc[concourse/api.Position]", by decide, Try.func100.trans (congrArg some (by kernel_rfl))⟩
  f57 := ⟨"slices.order2CmpFunc[concourse/api.Position]", by decide, Try.func105.trans (congrArg some (by kernel_rfl))⟩
  t0 := Try.underlying0
  a0 := Try.isAgg0
  z0 := Try.sizeOf0
  v0 := Try.zeroValue0
  t3 := Try.underlying3
  a3 := Try.isAgg3
  z3 := Try.sizeOf3
  v3 := Try.zeroValue3
  t4 := Try.underlying4
  a4 := Try.isAgg4
  z4 := Try.sizeOf4
  v4 := Try.zeroValue4
  t5 := Try.underlying5
  a5 := Try.isAgg5
  z5 := Try.sizeOf5
  v5 := Try.zeroValue5
  t9 := Try.underlying9
  a9 := Try.isAgg9
  z9 := Try.sizeOf9
  v9 := Try.zeroValue9
  t22 := Try.underlying96
  a22 := Try.isAgg96
  z22 := Try.sizeOf96
  v22 := Try.zeroValue96
  t25 := Try.underlying42
  a25 := Try.isAgg42
  z25 := Try.sizeOf42
  v25 := Try.zeroValue42
  t39 := Try.underlying105
  a39 := Try.isAgg105
  z39 := Try.sizeOf105
  v39 := Try.zeroValue105
  t45 := Try.underlying109
  a45 := Try.isAgg109
  z45 := Try.sizeOf109
  v45 := Try.zeroValue109
  t46 := Try.underlying110
  a46 := Try.isAgg110
  z46 := Try.sizeOf110
  v46 := Try.zeroValue110
  t50 := Try.underlying114
  a50 := Try.isAgg114
  z50 := Try.sizeOf114
  v50 := Try.zeroValue114
  t53 := Try.underlying117
  a53 := Try.isAgg117
  z53 := Try.sizeOf117
  v53 := Try.zeroValue117
  t55 := Try.underlying119
  a55 := Try.isAgg119
  z55 := Try.sizeOf119
  v55 := Try.zeroValue119
  t66 := Try.underlying120
  a66 := Try.isAgg120
  z66 := Try.sizeOf120
  v66 := Try.zeroValue120
  t70 := Try.underlying124
  a70 := Try.isAgg124
  z70 := Try.sizeOf124
  v70 := Try.zeroValue124
  t76 := Try.underlying127
  a76 := Try.isAgg127
  z76 := Try.sizeOf127
  v76 := Try.zeroValue127
  t77 := Try.underlying128
  a77 := Try.isAgg128
  z77 := Try.sizeOf128
  v77 := Try.zeroValue128
theorem PositionD_ctr {G : Gp} {p : Nat} {room : ByteArray} {l : EL} (h : DgR G p room l) {id : ByteArray} : Ctr Try.prog G 19 [.pointer (some ⟨p, 0, none⟩), .string id] [] (fun F v A => v = .tuple #[.agg (cPos (posAt l id)).toArray, .bool (l.has id)] ∧ A = F) := by
  obtain ⟨xs, hxl, hgd, hxk, hdr⟩ := h
  subst hxl
  have h := Position_ctr (id := id) hdr
  rw [nl_pos, XL.nl, nq_ids, idb_has] at h
  exact h
set_option maxHeartbeats 4000000 in
set_option maxRecDepth 100000 in
theorem EventD_ctr {G : Gp} {p : Nat} {room : ByteArray} {l : EL} (h : DgR G p room l) {id : ByteArray} :
    Ctr Try.prog G 26 [.pointer (some ⟨p, 0, none⟩), .string id] [] (fun F v A => (l.get id = none ∧ v = .tuple #[.agg (cEvn noEv).toArray, .bool false] ∧ A = F) ∨ ∃ u a1 c1, l.get id = some u ∧ v = .tuple #[.agg (cEvn (u.evn ⟨a1, u.ps.length, c1⟩)).toArray, .bool true] ∧ A = Sl 9 1 a1 u.ps.length c1 (u.ps.map Value.string) :: F) := by
  refine Ctr.intro Try.func26 rfl (by kernel_rfl) rfl (fun F => ?_)
  simp only [List.nil_append]
  obtain ⟨xs, hxl, hgd, hxk, hdr⟩ := h
  subst hxl
  refine Run.sr ?_
  refine RunL.alloc zz24 (Wt.none rfl) rfl ?_; intro b4
  refine RunL.as rfl rfl ?_
  refine RunL.nil ?_
  refine Run.seq ?_
  refine Run.sr ?_
  refine RunL.mv rfl rfl ?_
  refine RunL.mv rfl rfl ?_
  refine RunL.call rfl rfl (by rfl) (by repeat (first | (with_reducible exact Take.nil _) | (apply Take.cons (by first | ((repeat (first | (with_reducible exact F0 _) | apply F1)); done) | (repeat (first | exact F0 _ | apply F1)))))) (Has_ctr hdr) (Wt.none rfl) rfl ?_
  rintro _ _ ⟨rfl, hA_⟩
  replace hA_ := hA_.symm; subst hA_
  rw [show xs.nl.ids = xs.idb from nq_ids _ _ _]
  obtain ⟨r, hr, hmr, hrr⟩ := hdr
  rw [show xs.nl.ids = xs.idb from nq_ids _ _ _] at hmr
  cases hm : mget id xs.idb with
| none => ?_
| some b => ?_
  · skip
    refine RunL.pure (Pure.not rfl) (Wt.none rfl) rfl rfl ?_
    refine RunL.nil ?_
    refine Run.cond rfl (fun hc1 => ?_) (fun hc1 => ?_)
    rotate_left
    · try simp only [ZA, ZB, ZC, ZD, ZE, ZF, ZG, ZH, ZI, ZJ, ZK, ZL, ZM, ZN, ZO, ZP, ZQ, ZR] at hc1
      exfalso
      simp at hc1
    try simp only [ZA, ZB, ZC, ZD, ZE, ZF, ZG, ZH, ZI, ZJ, ZK, ZL, ZM, ZN, ZO, ZP, ZQ, ZR] at hc1
    refine Run.sr ?_
    refine RunL.pure (Pure.buildL (ps := []) (zs := [(.string .empty), (.string .empty), (.slice none 0 0), (.string .empty), (.string .empty), (.int .i64 0)]) (xs := (cEvn noEv)) pl24 rfl rfl rfl rfl) (Wt.none rfl) rfl rfl ?_
    refine RunL.storeW (xs := (cEvn noEv)) rfl rfl (by first | ((repeat (first | (with_reducible exact F0 _) | apply F1)); done) | (repeat (first | exact F0 _ | apply F1))) sz24 (by rfl) (by rfl) (by rfl) (Wt.none rfl) ?_
    refine RunL.as rfl rfl ?_
    refine RunL.nil ?_
    exact Run.ret Try.func26 (resV2 rfl (Rv.cellN (us := (cEvn noEv)) rfl (by first | ((repeat (first | (with_reducible exact F0 _) | apply F1)); done) | (repeat (first | exact F0 _ | apply F1))) agg24 sz24 (by first | exact Nat.le_of_ble_eq_true rfl | (simp; done) | (simp; omega)) rfl) (Rv.tmp rfl)) (by exact (.inl ⟨get_nil.2 (idb_none.1 hm), rfl, rfl⟩)) (by repeat (first | (with_reducible exact Fin.done (by repeat (first | (with_reducible exact Rest.here) | apply Rest.there))) | (apply Fin.cons (by first | ((repeat (first | (with_reducible exact F0 _) | apply F1)); done) | (repeat (first | exact F0 _ | apply F1))))))
  · skip
    refine RunL.pure (Pure.not rfl) (Wt.none rfl) rfl rfl ?_
    refine RunL.nil ?_
    refine Run.cond rfl (fun hc2 => ?_) (fun hc2 => ?_)
    · try simp only [ZA, ZB, ZC, ZD, ZE, ZF, ZG, ZH, ZI, ZJ, ZK, ZL, ZM, ZN, ZO, ZP, ZQ, ZR] at hc2
      exfalso
      simp at hc2
    try simp only [ZA, ZB, ZC, ZD, ZE, ZF, ZG, ZH, ZI, ZJ, ZK, ZL, ZM, ZN, ZO, ZP, ZQ, ZR] at hc2
    obtain ⟨s, x, t, hxs, hid, hbx, hget⟩ := idb_some hm
    have hxm : x ∈ xs := by rw [hxs]; simp
    have hq := hxk x hxm
    have hql := evOk_len (hgd.mem (List.mem_map.2 ⟨x, hxm, rfl⟩)).1
    have hro : Ro G b 70 [.string x.1.id, .string x.1.room, .slice x.2.2.a x.2.2.n x.2.2.c, .string x.1.thread, .string x.1.user, .int .i64 x.1.does, .int .i64 (depthOf xs.evs x.1.id), .bool (isPar xs.evs x.1.id)] := by
      have := nq_row hrr hxm
      simp only [nodeOf, memB, List.any_nil, Bool.or_false] at this
      rw [← hbx]; exact this
    refine Run.skip ?_
    refine Run.sr ?_
    refine RunL.mv rfl rfl ?_
    refine RunL.pure (Pure.nilCheck rfl) (Wt.none rfl) rfl rfl ?_
    refine RunL.pure (Pure.fieldAddr rfl fo74_1) (Wt.none rfl) rfl rfl ?_
    first | refine RunL.load1 rfl (by first | ((repeat (first | (with_reducible exact F0 _) | apply F1)); done) | (repeat (first | exact F0 _ | apply F1))) (by rfl) agg72 (Wt.none rfl) rfl ?_ | refine RunL.load1R rfl (by assumption) (by rfl) agg72 (Wt.none rfl) rfl ?_
    refine RunL.mv rfl rfl ?_
    first | refine RunL.lookup (k := id) rfl rfl (by first | ((repeat (first | (with_reducible exact F0 _) | apply F1)); done) | (repeat (first | exact F0 _ | apply F1))) und72 zz71 (KeyT.string und9) (Wt.none rfl) rfl ?_ | refine RunL.lookupR (k := id) rfl rfl (by assumption) und72 zz71 (KeyT.string und9) (Wt.none rfl) rfl ?_
    rw [hm]
    refine RunL.pure (Pure.nilCheck rfl) (Wt.none rfl) rfl rfl ?_
    refine RunL.pure (Pure.fieldAddr rfl fo70_0) (Wt.none rfl) rfl rfl ?_
    refine RunL.loadNR rfl hro agg24 sz24 (Nat.le_of_ble_eq_true rfl) (show _ = cEvn (x.1.evn x.2.2) from rfl) (Wt.none rfl) rfl ?_
    refine RunL.call rfl rfl (by rfl) (by repeat (first | (with_reducible exact Take.nil _) | (apply Take.cons (by first | ((repeat (first | (with_reducible exact F0 _) | apply F1)); done) | (repeat (first | exact F0 _ | apply F1)))))) (own_ctr (e := x.1.evn x.2.2) (ps := x.1.ps) hq (by omega)) (Wt.none rfl) rfl ?_
    rintro _ _ ⟨a1, c1, rfl, hA_⟩
    replace hA_ := hA_.symm; subst hA_
    refine RunL.storeW (xs := (cEvn ((x.1.evn ⟨a1, x.1.ps.length, c1⟩)))) rfl rfl (by first | ((repeat (first | (with_reducible exact F0 _) | apply F1)); done) | (repeat (first | exact F0 _ | apply F1))) sz24 (by rfl) (by rfl) (by rfl) (Wt.none rfl) ?_
    refine RunL.as rfl rfl ?_
    refine RunL.nil ?_
    exact Run.ret Try.func26 (resV2 rfl (Rv.cellN (us := (cEvn ((x.1.evn ⟨a1, x.1.ps.length, c1⟩)))) rfl (by first | ((repeat (first | (with_reducible exact F0 _) | apply F1)); done) | (repeat (first | exact F0 _ | apply F1))) agg24 sz24 (by first | exact Nat.le_of_ble_eq_true rfl | (simp; done) | (simp; omega)) rfl) (Rv.tmp rfl)) (by exact (.inr ⟨x.1, a1, c1, hget, rfl, rfl⟩)) (by repeat (first | (with_reducible exact Fin.done (by repeat (first | (with_reducible exact Rest.here) | apply Rest.there))) | (apply Fin.cons (by first | ((repeat (first | (with_reducible exact F0 _) | apply F1)); done) | (repeat (first | exact F0 _ | apply F1))))))

set_option maxHeartbeats 4000000 in
set_option maxRecDepth 100000 in
theorem LenD_ctr {G : Gp} {p : Nat} {room : ByteArray} {l : EL} (h : DgR G p room l) :
    Ctr Try.prog G 32 [.pointer (some ⟨p, 0, none⟩)] [] (fun F v A => v = .int .i64 (l.length : Nat) ∧ A = F) := by
  refine Ctr.intro Try.func32 rfl (by kernel_rfl) rfl (fun F => ?_)
  simp only [List.nil_append]
  obtain ⟨xs, hxl, hgd, hxk, hdr⟩ := h
  subst hxl
  obtain ⟨r, hr, hmr, hrr⟩ := hdr
  rw [show xs.nl.ids = xs.idb from nq_ids _ _ _] at hmr
  refine Run.sr ?_
  refine RunL.as rfl rfl ?_
  refine RunL.nil ?_
  refine Run.sr ?_
  refine RunL.mv rfl rfl ?_
  refine RunL.pure (Pure.nilCheck rfl) (Wt.none rfl) rfl rfl ?_
  refine RunL.pure (Pure.fieldAddr rfl fo74_1) (Wt.none rfl) rfl rfl ?_
  first | refine RunL.load1 rfl (by first | ((repeat (first | (with_reducible exact F0 _) | apply F1)); done) | (repeat (first | exact F0 _ | apply F1))) (by rfl) agg72 (Wt.none rfl) rfl ?_ | refine RunL.load1R rfl (by assumption) (by rfl) agg72 (Wt.none rfl) rfl ?_
  first | refine RunL.lenMap rfl rfl und72 (by first | ((repeat (first | (with_reducible exact F0 _) | apply F1)); done) | (repeat (first | exact F0 _ | apply F1))) (Wt.none rfl) rfl ?_ | refine RunL.lenMapR rfl rfl und72 (by assumption) (Wt.none rfl) rfl ?_
  refine RunL.as rfl rfl ?_
  refine RunL.nil ?_
  exact Run.ret Try.func32 (res1 rfl rfl) (by exact ⟨by rw [show (menc eS eN xs.idb).length = (XL.evs xs).length from by simp [menc, XL.idb, XL.evs]], rfl⟩) (by repeat (first | (with_reducible exact Fin.done (by repeat (first | (with_reducible exact Rest.here) | apply Rest.there))) | (apply Fin.cons (by first | ((repeat (first | (with_reducible exact F0 _) | apply F1)); done) | (repeat (first | exact F0 _ | apply F1))))))

set_option maxHeartbeats 4000000 in
set_option maxRecDepth 100000 in
theorem RoomD_ctr {G : Gp} {p : Nat} {room : ByteArray} {l : EL} (h : DgR G p room l) :
    Ctr Try.prog G 50 [.pointer (some ⟨p, 0, none⟩)] [] (fun F v A => v = .string room ∧ A = F) := by
  refine Ctr.intro Try.func50 rfl (by kernel_rfl) rfl (fun F => ?_)
  simp only [List.nil_append]
  obtain ⟨xs, hxl, hgd, hxk, hdr⟩ := h
  subst hxl
  obtain ⟨r, hr, hmr, hrr⟩ := hdr
  rw [show xs.nl.ids = xs.idb from nq_ids _ _ _] at hmr
  refine Run.sr ?_
  refine RunL.as rfl rfl ?_
  refine RunL.nil ?_
  refine Run.sr ?_
  refine RunL.mv rfl rfl ?_
  refine RunL.pure (Pure.nilCheck rfl) (Wt.none rfl) rfl rfl ?_
  refine RunL.pure (Pure.fieldAddr rfl fo74_0) (Wt.none rfl) rfl rfl ?_
  first | refine RunL.load1 rfl (by first | ((repeat (first | (with_reducible exact F0 _) | apply F1)); done) | (repeat (first | exact F0 _ | apply F1))) (by rfl) agg9 (Wt.none rfl) rfl ?_ | refine RunL.load1R rfl (by assumption) (by rfl) agg9 (Wt.none rfl) rfl ?_
  refine RunL.as rfl rfl ?_
  refine RunL.nil ?_
  exact Run.ret Try.func50 (res1 rfl rfl) (by exact ⟨rfl, rfl⟩) (by repeat (first | (with_reducible exact Fin.done (by repeat (first | (with_reducible exact Rest.here) | apply Rest.there))) | (apply Fin.cons (by first | ((repeat (first | (with_reducible exact F0 _) | apply F1)); done) | (repeat (first | exact F0 _ | apply F1))))))

set_option maxHeartbeats 4000000 in
set_option maxRecDepth 100000 in
theorem AllC_ctr {G : Gp} {b : Nat} {n : Nde} :
    Ctr Try.prog G 46 [.pointer (some ⟨b, 0, none⟩)] [] (fun F v A => v = .bool ((fun _ : Nde => true) n) ∧ A = F) := by
  refine Ctr.intro Try.func46 rfl (by kernel_rfl) rfl (fun F => ?_)
  simp only [List.nil_append]
  refine Run.sr ?_
  refine RunL.as rfl rfl ?_
  refine RunL.nil ?_
  refine Run.sr ?_
  refine RunL.as rfl rfl ?_
  refine RunL.nil ?_
  exact Run.ret Try.func46 (res1 rfl rfl) (by exact ⟨rfl, rfl⟩) (by repeat (first | (with_reducible exact Fin.done (by repeat (first | (with_reducible exact Rest.here) | apply Rest.there))) | (apply Fin.cons (by first | ((repeat (first | (with_reducible exact F0 _) | apply F1)); done) | (repeat (first | exact F0 _ | apply F1))))))

set_option maxHeartbeats 4000000 in
set_option maxRecDepth 100000 in
theorem HeadsC_ctr {G : Gp} {b : Nat} {n : Nde} (hn : Ro G b 70 (cNde n)) :
    Ctr Try.prog G 71 [.pointer (some ⟨b, 0, none⟩)] [] (fun F v A => v = .bool ((fun n : Nde => !n.parent) n) ∧ A = F) := by
  refine Ctr.intro Try.func71 rfl (by kernel_rfl) rfl (fun F => ?_)
  simp only [List.nil_append]
  refine Run.sr ?_
  refine RunL.as rfl rfl ?_
  refine RunL.nil ?_
  refine Run.sr ?_
  refine RunL.mv rfl rfl ?_
  refine RunL.pure (Pure.nilCheck rfl) (Wt.none rfl) rfl rfl ?_
  refine RunL.pure (Pure.fieldAddr rfl fo70_2) (Wt.none rfl) rfl rfl ?_
  refine RunL.load1R rfl hn (by rfl) agg4 (Wt.none rfl) rfl ?_
  refine RunL.pure (Pure.not rfl) (Wt.none rfl) rfl rfl ?_
  refine RunL.as rfl rfl ?_
  refine RunL.nil ?_
  exact Run.ret Try.func71 (res1 rfl rfl) (by exact ⟨rfl, rfl⟩) (by repeat (first | (with_reducible exact Fin.done (by repeat (first | (with_reducible exact Rest.here) | apply Rest.there))) | (apply Fin.cons (by first | ((repeat (first | (with_reducible exact F0 _) | apply F1)); done) | (repeat (first | exact F0 _ | apply F1))))))

theorem sortPos_ctr {G : Gp} {a : Option Addr} {cap : Nat} {xs : List Pos} (hn : xs.Nodup) (hb : xs.length ≤ 1000000) :
    Ctr Try.prog G 68 [.slice a xs.length cap, .func (.func 20) #[] #[]] [Sl 39 2 a xs.length cap ((xs).flatMap cPos)] (fun F v A => v = .tuple #[] ∧ A = Sl 39 2 a xs.length cap ((srt cmpPos (fun p => p) xs).flatMap cPos) :: F) :=
  (sortC (G := G) (a := a) (cap := cap) (T := 39) sortP agg39 sz39 cPos (fun _ => rfl) (fun x v hv => isOne_flat (f := cPos) (xs := [x]) (fun _ => rfl) v (by simpa using hv)) (fun p q : Pos => cmpPos p q) (cmpPos_law.swo (fun p : Pos => p)) (g := 20) (cb := []) cb20 (fun W _ p q => dagCompare_ctr) xs (by omega)).mono (by
    rintro F v A ⟨rfl, ys, h1, h2, rfl⟩
    have he := pos_sorted hn h1 h2
    subst he
    exact ⟨rfl, rfl⟩)
set_option maxHeartbeats 4000000 in
set_option maxRecDepth 100000 in
theorem ids_ctr {G : Gp} {p : Nat} {room : ByteArray} {xs : XL} {mt : Nde → Bool} {g : FuncId} (hgd : Csl.Good room xs.evs) (hdr : DagR G p room xs.nl) (hb : xs.length ≤ 1000000) (hf : ∀ (G' : Gp), Gp.le G G' → ∀ (b : Nat) (n : Nde), Ro G' b 70 (cNde n) → Ctr Try.prog G' g [.pointer (some ⟨b, 0, none⟩)] [] (fun F v A => v = .bool (mt n) ∧ A = F)) :
    Ctr Try.prog G 45 [.pointer (some ⟨p, 0, none⟩), .func (.func g) #[] #[]] [] (fun F v A => ∃ a cap, v = .slice a (idsOf xs.evs mt xs).length cap ∧ A = Sl 9 1 a ((idsOf xs.evs mt xs)).length cap (((idsOf xs.evs mt xs)).map Value.string) :: F) := by
  refine Ctr.intro Try.func45 rfl (by kernel_rfl) rfl (fun F => ?_)
  simp only [List.nil_append]
  obtain ⟨r, hr, ⟨arr, clock, hmi, hmg⟩, hrr⟩ := hdr
  rw [show xs.nl.ids = xs.idb from nq_ids _ _ _] at hmi
  have hmr : MpR G r (menc eS eN xs.idb) := ⟨arr, clock, hmi, hmg⟩
  refine Run.nilSl 39 2 ?_
  refine Run.sr ?_
  refine RunL.as rfl rfl ?_
  refine RunL.nil ?_
  refine Run.sr ?_
  refine RunL.as rfl rfl ?_
  refine RunL.nil ?_
  refine Run.seq ?_
  refine Run.sr ?_
  refine RunL.mv rfl rfl ?_
  refine RunL.pure (Pure.nilCheck rfl) (Wt.none rfl) rfl rfl ?_
  refine RunL.pure (Pure.fieldAddr rfl fo74_1) (Wt.none rfl) rfl rfl ?_
  first | refine RunL.load1 rfl (by first | ((repeat (first | (with_reducible exact F0 _) | apply F1)); done) | (repeat (first | exact F0 _ | apply F1))) (by rfl) agg72 (Wt.none rfl) rfl ?_ | refine RunL.load1R rfl (by assumption) (by rfl) agg72 (Wt.none rfl) rfl ?_
  refine RunL.rangeMap rfl hmi hmg und72 (Wt.none rfl) rfl ?_; intro r15
  refine RunL.nil ?_
  refine Run.block ?_
  refine Run.keep (.cons rfl (.cons rfl (.cons rfl (.nil))) : Keep _ [1, 5, 15] _) ?_
  refine Run.loopF (F := F) (fun n e A => ∃ (ds rs : XL) (last : Option (ByteArray × Nat)) (a' : Option Addr) (c' : Nat), (ds ++ rs).Perm xs ∧ n = rs.length ∧ e = [(1, .func (.func g) #[] #[]), (5, .slice a' (PS xs.evs mt ds).length c'), (15, .pointer (some ⟨r15, 0, none⟩))] ∧ A = MIt eS eN r15 r arr clock last rs.idb :: Sl 39 2 a' (PS xs.evs mt ds).length c' (((PS xs.evs mt ds)).flatMap cPos) :: F) (xs.length) (by exact ⟨[], xs, none, none, 0, .refl _, rfl, rfl, rfl⟩) (by repeat (first | (with_reducible exact Fin.done (by repeat (first | (with_reducible exact Rest.here) | apply Rest.there))) | (apply Fin.cons (by first | ((repeat (first | (with_reducible exact F0 _) | apply F1)); done) | (repeat (first | exact F0 _ | apply F1)))))) ?_
  rintro n _ _ ⟨ds, rs, last, a', c', hp, rfl, rfl, hA_⟩ ih
  replace hA_ := hA_.symm; subst hA_
  have hlen := hp.length_eq
  rw [List.length_append] at hlen
  refine Run.sr ?_
  refine RunL.nextMap rfl hmi hmg (by first | ((repeat (first | (with_reducible exact F0 _) | apply F1)); done) | (repeat (first | exact F0 _ | apply F1))) (Wt.none rfl) rfl (fun hrest => ?_) (fun q rest2 hperm => ?_)
  · skip
    have hrs : rs = [] := List.map_eq_nil_iff.1 hrest
    subst hrs
    rw [List.append_nil] at hp
    have hpl := (PS_perm (l := xs.evs) (mt := mt) hp).length_eq
    have hpn : (PS xs.evs mt ds).Nodup := (PS_perm (l := xs.evs) (mt := mt) hp).nodup_iff.2 (PS_nodup hgd.nodup)
    have hse : srt cmpPos (fun p => p) (PS xs.evs mt ds) = (srt cmpPos (fun p => p) (PS xs.evs mt xs)) := srt_congr cmpPos_law (by rw [List.map_id']; exact hpn) (PS_perm hp)
    have hsl : (srt cmpPos (fun p => p) (PS xs.evs mt xs)).length = (PS xs.evs mt ds).length := by rw [srt_len, hpl]
    have hil : (idsOf xs.evs mt xs).length = (srt cmpPos (fun p => p) (PS xs.evs mt xs)).length := by unfold idsOf; rw [List.length_map]
    have hds := hp.length_eq
    have hpd := PS_len (l := xs.evs) (mt := mt) (xs := ds)
    refine RunL.pure (Pure.extract rfl rfl) (Wt.none rfl) rfl rfl ?_
    refine RunL.nil ?_
    refine Run.seq ?_
    refine Run.condF rfl ?_
    refine Run.exit rfl ?_
    refine Run.sr ?_
    refine RunL.mv rfl rfl ?_
    refine RunL.call rfl rfl (by rfl) (by repeat (first | (with_reducible exact Take.nil _) | (apply Take.cons (by first | ((repeat (first | (with_reducible exact F0 _) | apply F1)); done) | (repeat (first | exact F0 _ | apply F1)))))) (sortPos_ctr hpn (by omega)) (Wt.none rfl) rfl ?_
    rintro _ _ ⟨rfl, hA_⟩
    replace hA_ := hA_.symm; subst hA_
    rw [hse]
    refine RunL.nil ?_
    refine Run.sr ?_
    refine RunL.as rfl rfl ?_
    refine RunL.nil ?_
    refine Run.nilSl 9 1 ?_
    skip
    refine Run.seq ?_
    refine Run.sr ?_
    refine RunL.mv rfl rfl ?_
    refine RunL.pure (Pure.lenSl rfl rfl und96) (Wt.none rfl) rfl rfl ?_
    refine RunL.mv rfl rfl ?_
    refine RunL.nil ?_
    refine Run.block ?_
    refine Run.keep (.cons rfl (.cons rfl (.cons rfl (.cons rfl (.nil)))) : Keep _ [8, 35, 36, 37] _) ?_
    refine Run.loopF (F := F) (fun n e A => ∃ (i : Nat) (a2 : Option Addr) (c2 : Nat), i ≤ (srt cmpPos (fun p => p) (PS xs.evs mt xs)).length ∧ n = (srt cmpPos (fun p => p) (PS xs.evs mt xs)).length - i ∧ e = [(8, .slice a2 i c2), (35, .slice a' (PS xs.evs mt ds).length c'), (36, .int .i64 ((PS xs.evs mt ds).length : Nat)), (37, .int .i64 (i : Nat))] ∧ A = Sl 9 1 a2 i c2 (((idsOf xs.evs mt xs).take i).map Value.string) :: Sl 39 2 a' (PS xs.evs mt ds).length c' (((srt cmpPos (fun p => p) (PS xs.evs mt xs))).flatMap cPos) :: F) ((srt cmpPos (fun p => p) (PS xs.evs mt xs)).length) (by exact ⟨0, none, 0, by omega, rfl, rfl, rfl⟩) (by repeat (first | (with_reducible exact Fin.done (by repeat (first | (with_reducible exact Rest.here) | apply Rest.there))) | (apply Fin.cons (by first | ((repeat (first | (with_reducible exact F0 _) | apply F1)); done) | (repeat (first | exact F0 _ | apply F1)))))) ?_
    rintro n _ _ ⟨i, a2, c2, hi, rfl, rfl, hA_⟩ ih
    replace hA_ := hA_.symm; subst hA_
    refine Run.sr ?_
    refine RunL.pure (Pure.lss rfl rfl) (Wt.none rfl) rfl rfl ?_
    refine RunL.nil ?_
    refine Run.seq ?_
    refine Run.cond rfl (fun h9 => ?_) (fun h9 => ?_)
    · try simp only [ZA, ZB, ZC, ZD, ZE, ZF, ZG, ZH, ZI, ZJ, ZK, ZL, ZM, ZN, ZO, ZP, ZQ, ZR] at h9
      obtain ⟨q, hq⟩ := get_some (xs := (srt cmpPos (fun p => p) (PS xs.evs mt xs))) (i := i) (by omega)
      have hqi : (idsOf xs.evs mt xs)[i]? = some q.id := by unfold idsOf; rw [List.getElem?_map, hq]; rfl
      refine Run.openSl (a := a') (n := (PS xs.evs mt ds).length) (by first | ((repeat (first | (with_reducible exact F0 _) | apply F1)); done) | (repeat (first | exact F0 _ | apply F1))) (by omega) ?_; rintro b2 pre2 post2 rfl hsl1 hsl2 hsl3
      refine Run.skip ?_
      refine Run.seq ?_
      refine Run.block ?_
      refine Run.sr ?_
      refine RunL.pure (Pure.indexAddr rfl rfl und96 sz39 (by omega) (by omega)) (Wt.none rfl) rfl rfl ?_
      refine RunL.loadA (vs := (cPos q)) rfl (by first | ((repeat (first | (with_reducible exact F0 _) | apply F1)); done) | (repeat (first | exact F0 _ | apply F1))) agg39 sz39 (elemN_len (f := cPos) (sz := 2) (j := 0) (n := 2) (fun _ _ => rfl) hq (by decide)) ((elemN_at (f := cPos) (sz := 2) (j := 0) (n := 2) (fun _ _ => rfl) hq (by decide)).trans rfl) (Wt.none rfl) rfl ?_
      refine RunL.alloc zz39 (Wt.none rfl) rfl ?_; intro b10
      refine RunL.storeW (xs := (cPos q)) rfl rfl (by first | ((repeat (first | (with_reducible exact F0 _) | apply F1)); done) | (repeat (first | exact F0 _ | apply F1))) sz39 (by rfl) (by rfl) (by rfl) (Wt.none rfl) ?_
      refine RunL.nil ?_
      refine Run.region ?_
      refine RunL.mv rfl rfl ?_
      refine RunL.pure (Pure.fieldAddr rfl fo39_1) (Wt.none rfl) rfl rfl ?_
      first | refine RunL.load1 rfl (by first | ((repeat (first | (with_reducible exact F0 _) | apply F1)); done) | (repeat (first | exact F0 _ | apply F1))) (by rfl) agg9 (Wt.none rfl) rfl ?_ | refine RunL.load1R rfl (by assumption) (by rfl) agg9 (Wt.none rfl) rfl ?_
      refine RunL.lit (vals := [_]) (vs := [_]) und22 sz9 zz9 rfl rfl rfl rfl rfl rfl (by simp [Value.cells, bv, cDD, cEvn, cGG, cNde, cPos]) rfl (Wt.none rfl) rfl ?_; intro b44
      refine RunL.append (m := 1) (n' := (i + 1)) (cs' := ((idsOf xs.evs mt xs).take (i + 1)).map Value.string) rfl rfl (by first | ((repeat (first | (with_reducible exact F0 _) | apply F1)); done) | (repeat (first | exact F0 _ | apply F1))) rfl rfl und22 und22 rfl sz9 zz9 rfl by9 (by omega) (by first | omega | (simp; omega)) (fun w sw => sw.src) (by simp [Value.isOne]) rfl (by rw [List.take_add_one, hqi, List.map_append]; rfl) (Wt.none rfl) rfl ?_; intro a3 c3
      refine RunL.as rfl rfl ?_
      refine RunL.nil ?_
      refine Run.inBlock ?_
      refine Run.mkSl (b := b2) (pre := pre2) (post := post2) (sz := 2) (cs := (srt cmpPos (fun p => p) (PS xs.evs mt xs)).flatMap cPos) (n := (PS xs.evs mt ds).length) (by first | ((repeat (first | (with_reducible exact F0 _) | apply F1)); done) | (repeat (first | exact F0 _ | apply F1))) hsl1 hsl2 hsl3 ?_
      refine Run.region ?_
      first | refine RunL.pure (Pure.addI rfl rfl (by omega)) (Wt.none rfl) rfl rfl ?_ | refine RunL.pure (Pure.add rfl rfl) (Wt.none rfl) rfl rfl ?_
      refine RunL.mv rfl rfl ?_
      refine RunL.nil ?_
      refine Run.keep (.cons rfl (.cons rfl (.cons rfl (.cons rfl (.nil)))) : Keep _ [8, 35, 36, 37] _) ?_
      refine Run.againF (F := F) ih (by exact ⟨i + 1, a3, c3, by omega, rfl, rfl, rfl⟩) (by repeat (first | (with_reducible exact Fin.done (by repeat (first | (with_reducible exact Rest.here) | apply Rest.there))) | (apply Fin.cons (by first | ((repeat (first | (with_reducible exact F0 _) | apply F1)); done) | (repeat (first | exact F0 _ | apply F1)))))) ?_
      omega
    · try simp only [ZA, ZB, ZC, ZD, ZE, ZF, ZG, ZH, ZI, ZJ, ZK, ZL, ZM, ZN, ZO, ZP, ZQ, ZR] at h9
      refine Run.exit rfl ?_
      refine Run.sr ?_
      refine RunL.mv rfl rfl ?_
      refine RunL.as rfl rfl ?_
      refine RunL.nil ?_
      obtain rfl : i = (srt cmpPos (fun p => p) (PS xs.evs mt xs)).length := by omega
      have hfi := hil
      rw [← hil, List.take_length]
      exact Run.ret Try.func45 (res1 rfl rfl) (by exact ⟨a2, c2, by rw [hfi], rfl⟩) (by repeat (first | (with_reducible exact Fin.done (by repeat (first | (with_reducible exact Rest.here) | apply Rest.there))) | (apply Fin.cons (by first | ((repeat (first | (with_reducible exact F0 _) | apply F1)); done) | (repeat (first | exact F0 _ | apply F1))))))
  · skip
    obtain ⟨rs', hp', he⟩ := perm_map_inv hperm
    obtain ⟨y, rs2, rfl, rfl, rfl⟩ := List.map_eq_cons_iff.1 he
    have hl3 := hp'.length_eq
    rw [List.length_cons] at hl3
    have hpl := PS_len (l := xs.evs) (mt := mt) (xs := ds)
    have hp2 : ((ds ++ [y]) ++ rs2).Perm xs := by rw [List.append_assoc]; exact (hp'.symm.append_left ds).trans hp
    have hym : y ∈ xs := hp2.mem_iff.1 (by simp)
    have hro := nq_row (l := xs.evs) (qs := []) hrr hym
    refine RunL.pure (Pure.extract rfl rfl) (Wt.none rfl) rfl rfl ?_
    refine RunL.nil ?_
    refine Run.seq ?_
    refine Run.condT rfl ?_
    refine Run.skip ?_
    refine Run.block ?_
    refine Run.sr ?_
    refine RunL.entryMap rfl hmi hmg (by first | ((repeat (first | (with_reducible exact F0 _) | apply F1)); done) | (repeat (first | exact F0 _ | apply F1))) (Wt.none rfl) rfl ?_
    refine RunL.pure (Pure.extract rfl rfl) (Wt.none rfl) rfl rfl ?_
    refine RunL.pure (Pure.extract rfl rfl) (Wt.none rfl) rfl rfl ?_
    refine RunL.as rfl rfl ?_
    refine RunL.as rfl rfl ?_
    refine RunL.nil ?_
    refine Run.sr ?_
    refine RunL.mv rfl rfl ?_
    refine RunL.mv rfl rfl ?_
    refine RunL.call rfl rfl (by rfl) (by repeat (first | (with_reducible exact Take.nil _) | (apply Take.cons (by first | ((repeat (first | (with_reducible exact F0 _) | apply F1)); done) | (repeat (first | exact F0 _ | apply F1)))))) (hf G (Gp.le_refl G) _ _ hro) (Wt.none rfl) rfl ?_
    rintro _ _ ⟨rfl, hA_⟩
    replace hA_ := hA_.symm; subst hA_
    refine RunL.nil ?_
    refine Run.cond rfl (fun h2 => ?_) (fun h2 => ?_)
    · try simp only [ZA, ZB, ZC, ZD, ZE, ZF, ZG, ZH, ZI, ZJ, ZK, ZL, ZM, ZN, ZO, ZP, ZQ, ZR] at h2
      refine Run.region ?_
      refine RunL.mv rfl rfl ?_
      refine RunL.mv rfl rfl ?_
      refine RunL.pure (Pure.nilCheck rfl) (Wt.none rfl) rfl rfl ?_
      refine RunL.pure (Pure.fieldAddr rfl fo70_1) (Wt.none rfl) rfl rfl ?_
      refine RunL.load1R rfl hro (by rfl) agg3 (Wt.none rfl) rfl ?_
      refine RunL.mv rfl rfl ?_
      refine RunL.pure (Pure.buildL (ps := [(0, _), (1, _)]) (zs := [(.int .i64 0), (.string .empty)]) (xs := (cPos ((posOf xs.evs y.1)))) pl39 rfl rfl rfl rfl) (Wt.none rfl) rfl rfl ?_
      refine RunL.lit (vals := [_]) (vs := ([(posOf xs.evs y.1)] : List Pos).flatMap cPos) und96 sz39 zz39 rfl rfl rfl rfl rfl rfl (by simp [Value.cells, bv, cDD, cEvn, cGG, cNde, cPos]) rfl (Wt.none rfl) rfl ?_; intro b31
      refine RunL.append (m := 1) (n' := (PS xs.evs mt (ds ++ [y])).length) (cs' := (PS xs.evs mt (ds ++ [y])).flatMap cPos) rfl rfl (by first | ((repeat (first | (with_reducible exact F0 _) | apply F1)); done) | (repeat (first | exact F0 _ | apply F1))) rfl rfl und96 und96 rfl sz39 zz39 rfl by39 (by first | omega | (simp; omega)) (by first | omega | (simp; omega)) (fun w sw => sw.src) (isOne_flat (f := cPos) (fun _ => rfl)) (by rw [PS_snoc, if_pos h2]; simp) (by rw [PS_snoc, if_pos h2, List.flatMap_append]) (Wt.none rfl) rfl ?_; intro a1 c1
      refine RunL.as rfl rfl ?_
      refine RunL.nil ?_
      refine Run.inBlock ?_
      refine Run.keep (.cons rfl (.cons rfl (.cons rfl (.nil))) : Keep _ [1, 5, 15] _) ?_
      refine Run.againF (F := F) ih (by exact ⟨ds ++ [y], rs2, some (y.1.id, y.2.1), a1, c1, hp2, rfl, rfl, rfl⟩) (by repeat (first | (with_reducible exact Fin.done (by repeat (first | (with_reducible exact Rest.here) | apply Rest.there))) | (apply Fin.cons (by first | ((repeat (first | (with_reducible exact F0 _) | apply F1)); done) | (repeat (first | exact F0 _ | apply F1)))))) ?_
      omega
    · try simp only [ZA, ZB, ZC, ZD, ZE, ZF, ZG, ZH, ZI, ZJ, ZK, ZL, ZM, ZN, ZO, ZP, ZQ, ZR] at h2
      refine Run.skip ?_
      refine Run.inBlock ?_
      rw [show PS xs.evs mt ds = PS xs.evs mt (ds ++ [y]) from by rw [PS_snoc, if_neg (by simp [h2]), List.append_nil]]
      refine Run.keep (.cons rfl (.cons rfl (.cons rfl (.nil))) : Keep _ [1, 5, 15] _) ?_
      refine Run.againF (F := F) ih (by exact ⟨ds ++ [y], rs2, some (y.1.id, y.2.1), a', c', hp2, rfl, rfl, rfl⟩) (by repeat (first | (with_reducible exact Fin.done (by repeat (first | (with_reducible exact Rest.here) | apply Rest.there))) | (apply Fin.cons (by first | ((repeat (first | (with_reducible exact F0 _) | apply F1)); done) | (repeat (first | exact F0 _ | apply F1)))))) ?_
      omega

end Go.Proofs.Ytghmmjifmnmbgaa
