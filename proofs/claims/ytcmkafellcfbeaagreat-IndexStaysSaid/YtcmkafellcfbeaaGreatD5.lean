/- What is told. -/
import Derived.Test.YtcmkafellcfbeaaGreatD4
set_option linter.unusedVariables false
set_option linter.unusedSimpArgs false
set_option linter.unusedSectionVars false
namespace Go.Proofs.YtcmkafellcfbeaaGreat
open Go Csl

def sortP_ren : Go.Shelf.Ren := ⟨fun | 6 => 63 | 15 => 73 | 14 => 72 | 28 => 94 | 29 => 95 | 20 => 86 | 21 => 87 | 22 => 88 | 23 => 89 | 24 => 90 | 25 => 91 | 26 => 92 | 27 => 93 | 46 => 105 | 47 => 106 | 48 => 107 | 49 => 108 | 50 => 109 | 57 => 120 | n => n, fun | 22 => 106 | 24 => 54 | 25 => 57 | 3 => 3 | 39 => 117 | 0 => 0 | 53 => 62 | 55 => 136 | 4 => 4 | 46 => 128 | 45 => 127 | 50 => 132 | 5 => 5 | 9 => 9 | 66 => 141 | 70 => 145 | 76 => 154 | 77 => 155 | n => n, fun n => n⟩
theorem sortP : Go.Proofs.SlLaysF0.n6 Tryz.prog sortP_ren where
  mixed := by kernel_rfl
  f6 := ⟨"slices.SortFunc[[]concourse/api.Position,concourse/api.Position]", by decide, Tryz.func63.trans (congrArg some (by kernel_rfl))⟩
  f14 := ⟨"slices.pdqsortCmpFunc[concourse/api.Position]", by decide, Tryz.func72.trans (congrArg some (by kernel_rfl))⟩
  f15 := Tryz.func73.trans (congrArg some (by kernel_rfl))
  f20 := ⟨"slices.insertionSortCmpFunc[concourse/api.Position]", by decide, Tryz.func86.trans (congrArg some (by kernel_rfl))⟩
  f21 := ⟨"slices.heapSortCmpFunc[concourse/api.Position]", by decide, Tryz.func87.trans (congrArg some (by kernel_rfl))⟩
  f22 := ⟨"slices.breakPatternsCmpFunc[concourse/api.Position]", by decide, Tryz.func88.trans (congrArg some (by kernel_rfl))⟩
  f23 := ⟨"slices.choosePivotCmpFunc[concourse/api.Position]", by decide, Tryz.func89.trans (congrArg some (by kernel_rfl))⟩
  f24 := ⟨"slices.reverseRangeCmpFunc[concourse/api.Position]", by decide, Tryz.func90.trans (congrArg some (by kernel_rfl))⟩
  f25 := ⟨"slices.partialInsertionSortCmpFunc[concourse/api.Position]", by decide, Tryz.func91.trans (congrArg some (by kernel_rfl))⟩
  f26 := ⟨"slices.partitionEqualCmpFunc[concourse/api.Position]", by decide, Tryz.func92.trans (congrArg some (by kernel_rfl))⟩
  f27 := ⟨"slices.partitionCmpFunc[concourse/api.Position]", by decide, Tryz.func93.trans (congrArg some (by kernel_rfl))⟩
  f28 := Tryz.func94.trans (congrArg some (by kernel_rfl))
  f29 := Tryz.func95.trans (congrArg some (by kernel_rfl))
  f46 := ⟨"slices.siftDownCmpFunc[concourse/api.Position]", by decide, Tryz.func105.trans (congrArg some (by kernel_rfl))⟩
  f47 := Tryz.func106.trans (congrArg some (by kernel_rfl))
  f48 := Tryz.func107.trans (congrArg some (by kernel_rfl))
  f49 := ⟨"slices.medianAdjacentCmpFunc[concourse/api.Position]", by decide, Tryz.func108.trans (congrArg some (by kernel_rfl))⟩
  f50 := ⟨"slices.medianCmpFunc[concourse/api.Position]", by decide, Tryz.func109.trans (congrArg some (by kernel_rfl))⟩
  f57 := ⟨"slices.order2CmpFunc[concourse/api.Position]", by decide, Tryz.func120.trans (congrArg some (by kernel_rfl))⟩
  t0 := Tryz.underlying0
  a0 := Tryz.isAgg0
  z0 := Tryz.sizeOf0
  v0 := Tryz.zeroValue0
  t3 := Tryz.underlying3
  a3 := Tryz.isAgg3
  z3 := Tryz.sizeOf3
  v3 := Tryz.zeroValue3
  t4 := Tryz.underlying4
  a4 := Tryz.isAgg4
  z4 := Tryz.sizeOf4
  v4 := Tryz.zeroValue4
  t5 := Tryz.underlying5
  a5 := Tryz.isAgg5
  z5 := Tryz.sizeOf5
  v5 := Tryz.zeroValue5
  t9 := Tryz.underlying9
  a9 := Tryz.isAgg9
  z9 := Tryz.sizeOf9
  v9 := Tryz.zeroValue9
  t22 := Tryz.underlying106
  a22 := Tryz.isAgg106
  z22 := Tryz.sizeOf106
  v22 := Tryz.zeroValue106
  t25 := Tryz.underlying57
  a25 := Tryz.isAgg57
  z25 := Tryz.sizeOf57
  v25 := Tryz.zeroValue57
  t39 := Tryz.underlying117
  a39 := Tryz.isAgg117
  z39 := Tryz.sizeOf117
  v39 := Tryz.zeroValue117
  t45 := Tryz.underlying127
  a45 := Tryz.isAgg127
  z45 := Tryz.sizeOf127
  v45 := Tryz.zeroValue127
  t46 := Tryz.underlying128
  a46 := Tryz.isAgg128
  z46 := Tryz.sizeOf128
  v46 := Tryz.zeroValue128
  t50 := Tryz.underlying132
  a50 := Tryz.isAgg132
  z50 := Tryz.sizeOf132
  v50 := Tryz.zeroValue132
  t53 := Tryz.underlying62
  a53 := Tryz.isAgg62
  z53 := Tryz.sizeOf62
  v53 := Tryz.zeroValue62
  t55 := Tryz.underlying136
  a55 := Tryz.isAgg136
  z55 := Tryz.sizeOf136
  v55 := Tryz.zeroValue136
  t66 := Tryz.underlying141
  a66 := Tryz.isAgg141
  z66 := Tryz.sizeOf141
  v66 := Tryz.zeroValue141
  t70 := Tryz.underlying145
  a70 := Tryz.isAgg145
  z70 := Tryz.sizeOf145
  v70 := Tryz.zeroValue145
  t76 := Tryz.underlying154
  a76 := Tryz.isAgg154
  z76 := Tryz.sizeOf154
  v76 := Tryz.zeroValue154
  t77 := Tryz.underlying155
  a77 := Tryz.isAgg155
  z77 := Tryz.sizeOf155
  v77 := Tryz.zeroValue155
theorem PositionD_ctr {G : Gp} {p : Nat} {room : ByteArray} {l : EL} (h : DgR G p room l) {id : ByteArray} : Ctr Tryz.prog G 27 [.pointer (some ⟨p, 0, none⟩), .string id] [] (fun F v A => v = .tuple #[.agg (cPos (posAt l id)).toArray, .bool (l.has id)] ∧ A = F) := by
  obtain ⟨xs, hxl, hgd, hxk, hdr⟩ := h
  subst hxl
  have h := Position_ctr (id := id) hdr
  rw [nl_pos, XL.nl, nq_ids, idb_has] at h
  exact h
set_option maxHeartbeats 4000000 in
set_option maxRecDepth 100000 in
theorem AllC_ctr {G : Gp} {b : Nat} {n : Nde} :
    Ctr Tryz.prog G 49 [.pointer (some ⟨b, 0, none⟩)] [] (fun F v A => v = .bool ((fun _ : Nde => true) n) ∧ A = F) := by
  refine Ctr.intro Tryz.func49 rfl (by kernel_rfl) rfl (fun F => ?_)
  simp only [List.nil_append]
  refine Run.sr ?_
  refine RunL.as rfl rfl ?_
  refine RunL.nil ?_
  refine Run.sr ?_
  refine RunL.as rfl rfl ?_
  refine RunL.nil ?_
  exact Run.ret Tryz.func49 (res1 rfl rfl) (by exact ⟨rfl, rfl⟩) (by repeat (first | (with_reducible exact Fin.done (by repeat (first | (with_reducible exact Rest.here) | apply Rest.there))) | (apply Fin.cons (by first | ((repeat (first | (with_reducible exact F0 _) | apply F1)); done) | (repeat (first | exact F0 _ | apply F1))))))

theorem sortPos_ctr {G : Gp} {a : Option Addr} {cap : Nat} {xs : List Pos} (hn : xs.Nodup) (hb : xs.length ≤ 1000000) :
    Ctr Tryz.prog G 63 [.slice a xs.length cap, .func (.func 28) #[] #[]] [Sl 54 2 a xs.length cap ((xs).flatMap cPos)] (fun F v A => v = .tuple #[] ∧ A = Sl 54 2 a xs.length cap ((srt cmpPos (fun p => p) xs).flatMap cPos) :: F) :=
  (sortC (G := G) (a := a) (cap := cap) (T := 54) sortP agg54 sz54 cPos (fun _ => rfl) (fun x v hv => isOne_flat (f := cPos) (xs := [x]) (fun _ => rfl) v (by simpa using hv)) (fun p q : Pos => cmpPos p q) (cmpPos_law.swo (fun p : Pos => p)) (g := 28) (cb := []) cb28 (fun W _ p q => dagCompare_ctr) xs (by omega)).mono (by
    rintro F v A ⟨rfl, ys, h1, h2, rfl⟩
    have he := pos_sorted hn h1 h2
    subst he
    exact ⟨rfl, rfl⟩)
set_option maxHeartbeats 4000000 in
set_option maxRecDepth 100000 in
theorem ids_ctr {G : Gp} {p : Nat} {room : ByteArray} {xs : XL} {mt : Nde → Bool} {g : FuncId} (hgd : Csl.Good room xs.evs) (hdr : DagR G p room xs.nl) (hb : xs.length ≤ 1000000) (hf : ∀ (G' : Gp), Gp.le G G' → ∀ (b : Nat) (n : Nde), Ro G' b 91 (cNde n) → Ctr Tryz.prog G' g [.pointer (some ⟨b, 0, none⟩)] [] (fun F v A => v = .bool (mt n) ∧ A = F)) :
    Ctr Tryz.prog G 48 [.pointer (some ⟨p, 0, none⟩), .func (.func g) #[] #[]] [] (fun F v A => ∃ a cap, v = .slice a (idsOf xs.evs mt xs).length cap ∧ A = Sl 9 1 a ((idsOf xs.evs mt xs)).length cap (((idsOf xs.evs mt xs)).map Value.string) :: F) := by
  refine Ctr.intro Tryz.func48 rfl (by kernel_rfl) rfl (fun F => ?_)
  simp only [List.nil_append]
  obtain ⟨r, hr, ⟨arr, clock, hmi, hmg⟩, hrr⟩ := hdr
  rw [show xs.nl.ids = xs.idb from nq_ids _ _ _] at hmi
  have hmr : MpR G r (menc eS eN xs.idb) := ⟨arr, clock, hmi, hmg⟩
  refine Run.nilSl 54 2 ?_
  refine Run.sr ?_
  refine RunL.as rfl rfl ?_
  refine RunL.nil ?_
  refine Run.sr ?_
  refine RunL.as rfl rfl ?_
  refine RunL.nil ?_
  refine Run.seq ?_
  refine Run.sr ?_
  refine RunL.mv rfl rfl ?_
  refine RunL.pure (Pure.nilCheck rfl) (Wt.none rfl) rfl rfl ?_
  refine RunL.pure (Pure.fieldAddr rfl fo85_1) (Wt.none rfl) rfl rfl ?_
  first | refine RunL.load1 rfl (by first | ((repeat (first | (with_reducible exact F0 _) | apply F1)); done) | (repeat (first | exact F0 _ | apply F1))) (by rfl) agg83 (Wt.none rfl) rfl ?_ | refine RunL.load1R rfl (by assumption) (by rfl) agg83 (Wt.none rfl) rfl ?_
  refine RunL.rangeMap rfl hmi hmg und83 (Wt.none rfl) rfl ?_; intro r15
  refine RunL.nil ?_
  refine Run.block ?_
  refine Run.keep (.cons rfl (.cons rfl (.cons rfl (.nil))) : Keep _ [1, 5, 15] _) ?_
  refine Run.loopF (F := F) (fun n e A => ∃ (ds rs : XL) (last : Option (ByteArray × Nat)) (a' : Option Addr) (c' : Nat), (ds ++ rs).Perm xs ∧ n = rs.length ∧ e = [(1, .func (.func g) #[] #[]), (5, .slice a' (PS xs.evs mt ds).length c'), (15, .pointer (some ⟨r15, 0, none⟩))] ∧ A = MIt eS eN r15 r arr clock last rs.idb :: Sl 54 2 a' (PS xs.evs mt ds).length c' (((PS xs.evs mt ds)).flatMap cPos) :: F) (xs.length) (by exact ⟨[], xs, none, none, 0, .refl _, rfl, rfl, rfl⟩) (by repeat (first | (with_reducible exact Fin.done (by repeat (first | (with_reducible exact Rest.here) | apply Rest.there))) | (apply Fin.cons (by first | ((repeat (first | (with_reducible exact F0 _) | apply F1)); done) | (repeat (first | exact F0 _ | apply F1)))))) ?_
  rintro n _ _ ⟨ds, rs, last, a', c', hp, rfl, rfl, hA_⟩ ih
  replace hA_ := hA_.symm; subst hA_
  have hlen := hp.length_eq
  rw [List.length_append] at hlen
  refine Run.sr ?_
  refine RunL.nextMap rfl hmi hmg (by first | ((repeat (first | (with_reducible exact F0 _) | apply F1)); done) | (repeat (first | exact F0 _ | apply F1))) (Wt.none rfl) rfl (fun hrest => ?_) (fun q rest2 hperm => ?_)
  · skip
    have hrs : rs = [] := List.map_eq_nil_iff.1 hrest
    subst hrs
    rw [List.append_nil] at hp
    have hpl := (PS_perm (l := xs.evs) (mt := mt) hp).length_eq
    have hpn : (PS xs.evs mt ds).Nodup := (PS_perm (l := xs.evs) (mt := mt) hp).nodup_iff.2 (PS_nodup hgd.nodup)
    have hse : srt cmpPos (fun p => p) (PS xs.evs mt ds) = (srt cmpPos (fun p => p) (PS xs.evs mt xs)) := srt_congr cmpPos_law (by rw [List.map_id']; exact hpn) (PS_perm hp)
    have hsl : (srt cmpPos (fun p => p) (PS xs.evs mt xs)).length = (PS xs.evs mt ds).length := by rw [srt_len, hpl]
    have hil : (idsOf xs.evs mt xs).length = (srt cmpPos (fun p => p) (PS xs.evs mt xs)).length := by unfold idsOf; rw [List.length_map]
    have hds := hp.length_eq
    have hpd := PS_len (l := xs.evs) (mt := mt) (xs := ds)
    refine RunL.pure (Pure.extract rfl rfl) (Wt.none rfl) rfl rfl ?_
    refine RunL.nil ?_
    refine Run.seq ?_
    refine Run.condF rfl ?_
    refine Run.exit rfl ?_
    refine Run.sr ?_
    refine RunL.mv rfl rfl ?_
    refine RunL.call rfl rfl (by rfl) (by repeat (first | (with_reducible exact Take.nil _) | (apply Take.cons (by first | ((repeat (first | (with_reducible exact F0 _) | apply F1)); done) | (repeat (first | exact F0 _ | apply F1)))))) (sortPos_ctr hpn (by omega)) (Wt.none rfl) rfl ?_
    rintro _ _ ⟨rfl, hA_⟩
    replace hA_ := hA_.symm; subst hA_
    rw [hse]
    refine RunL.nil ?_
    refine Run.sr ?_
    refine RunL.as rfl rfl ?_
    refine RunL.nil ?_
    refine Run.nilSl 9 1 ?_
    skip
    refine Run.seq ?_
    refine Run.sr ?_
    refine RunL.mv rfl rfl ?_
    refine RunL.pure (Pure.lenSl rfl rfl und106) (Wt.none rfl) rfl rfl ?_
    refine RunL.mv rfl rfl ?_
    refine RunL.nil ?_
    refine Run.block ?_
    refine Run.keep (.cons rfl (.cons rfl (.cons rfl (.cons rfl (.nil)))) : Keep _ [8, 35, 36, 37] _) ?_
    refine Run.loopF (F := F) (fun n e A => ∃ (i : Nat) (a2 : Option Addr) (c2 : Nat), i ≤ (srt cmpPos (fun p => p) (PS xs.evs mt xs)).length ∧ n = (srt cmpPos (fun p => p) (PS xs.evs mt xs)).length - i ∧ e = [(8, .slice a2 i c2), (35, .slice a' (PS xs.evs mt ds).length c'), (36, .int .i64 ((PS xs.evs mt ds).length : Nat)), (37, .int .i64 (i : Nat))] ∧ A = Sl 9 1 a2 i c2 (((idsOf xs.evs mt xs).take i).map Value.string) :: Sl 54 2 a' (PS xs.evs mt ds).length c' (((srt cmpPos (fun p => p) (PS xs.evs mt xs))).flatMap cPos) :: F) ((srt cmpPos (fun p => p) (PS xs.evs mt xs)).length) (by exact ⟨0, none, 0, by omega, rfl, rfl, rfl⟩) (by repeat (first | (with_reducible exact Fin.done (by repeat (first | (with_reducible exact Rest.here) | apply Rest.there))) | (apply Fin.cons (by first | ((repeat (first | (with_reducible exact F0 _) | apply F1)); done) | (repeat (first | exact F0 _ | apply F1)))))) ?_
    rintro n _ _ ⟨i, a2, c2, hi, rfl, rfl, hA_⟩ ih
    replace hA_ := hA_.symm; subst hA_
    refine Run.sr ?_
    refine RunL.pure (Pure.lss rfl rfl) (Wt.none rfl) rfl rfl ?_
    refine RunL.nil ?_
    refine Run.seq ?_
    refine Run.cond rfl (fun h9 => ?_) (fun h9 => ?_)
    · try simp only [ZA, ZB, ZC, ZD, ZE, ZF, ZG, ZH, ZI, ZJ, ZK, ZL, ZM, ZN, ZO, ZP, ZQ, ZR] at h9
      obtain ⟨q, hq⟩ := get_some (xs := (srt cmpPos (fun p => p) (PS xs.evs mt xs))) (i := i) (by omega)
      have hqi : (idsOf xs.evs mt xs)[i]? = some q.id := by unfold idsOf; rw [List.getElem?_map, hq]; rfl
      refine Run.openSl (a := a') (n := (PS xs.evs mt ds).length) (by first | ((repeat (first | (with_reducible exact F0 _) | apply F1)); done) | (repeat (first | exact F0 _ | apply F1))) (by omega) ?_; rintro b2 pre2 post2 rfl hsl1 hsl2 hsl3
      refine Run.skip ?_
      refine Run.seq ?_
      refine Run.block ?_
      refine Run.sr ?_
      refine RunL.pure (Pure.indexAddr rfl rfl und106 sz54 (by omega) (by omega)) (Wt.none rfl) rfl rfl ?_
      refine RunL.loadA (vs := (cPos q)) rfl (by first | ((repeat (first | (with_reducible exact F0 _) | apply F1)); done) | (repeat (first | exact F0 _ | apply F1))) agg54 sz54 (elemN_len (f := cPos) (sz := 2) (j := 0) (n := 2) (fun _ _ => rfl) hq (by decide)) ((elemN_at (f := cPos) (sz := 2) (j := 0) (n := 2) (fun _ _ => rfl) hq (by decide)).trans rfl) (Wt.none rfl) rfl ?_
      refine RunL.alloc zz54 (Wt.none rfl) rfl ?_; intro b10
      refine RunL.storeW (xs := (cPos q)) rfl rfl (by first | ((repeat (first | (with_reducible exact F0 _) | apply F1)); done) | (repeat (first | exact F0 _ | apply F1))) sz54 (by rfl) (by rfl) (by rfl) (Wt.none rfl) ?_
      refine RunL.nil ?_
      refine Run.region ?_
      refine RunL.mv rfl rfl ?_
      refine RunL.pure (Pure.fieldAddr rfl fo54_1) (Wt.none rfl) rfl rfl ?_
      first | refine RunL.load1 rfl (by first | ((repeat (first | (with_reducible exact F0 _) | apply F1)); done) | (repeat (first | exact F0 _ | apply F1))) (by rfl) agg9 (Wt.none rfl) rfl ?_ | refine RunL.load1R rfl (by assumption) (by rfl) agg9 (Wt.none rfl) rfl ?_
      refine RunL.lit (vals := [_]) (vs := [_]) und31 sz9 zz9 rfl rfl rfl rfl rfl rfl (by simp [Value.cells, bv, cDD, cEvn, cGG, cNde, cPos]) rfl (Wt.none rfl) rfl ?_; intro b44
      refine RunL.append (m := 1) (n' := (i + 1)) (cs' := ((idsOf xs.evs mt xs).take (i + 1)).map Value.string) rfl rfl (by first | ((repeat (first | (with_reducible exact F0 _) | apply F1)); done) | (repeat (first | exact F0 _ | apply F1))) rfl rfl und31 und31 rfl sz9 zz9 rfl by9 (by omega) (by first | omega | (simp; omega)) (fun w sw => sw.src) (by simp [Value.isOne]) rfl (by rw [List.take_add_one, hqi, List.map_append]; rfl) (Wt.none rfl) rfl ?_; intro a3 c3
      refine RunL.as rfl rfl ?_
      refine RunL.nil ?_
      refine Run.inBlock ?_
      refine Run.mkSl (b := b2) (pre := pre2) (post := post2) (sz := 2) (cs := (srt cmpPos (fun p => p) (PS xs.evs mt xs)).flatMap cPos) (n := (PS xs.evs mt ds).length) (by first | ((repeat (first | (with_reducible exact F0 _) | apply F1)); done) | (repeat (first | exact F0 _ | apply F1))) hsl1 hsl2 hsl3 ?_
      refine Run.region ?_
      first | refine RunL.pure (Pure.addI rfl rfl (by omega)) (Wt.none rfl) rfl rfl ?_ | refine RunL.pure (Pure.add rfl rfl) (Wt.none rfl) rfl rfl ?_
      refine RunL.mv rfl rfl ?_
      refine RunL.nil ?_
      refine Run.keep (.cons rfl (.cons rfl (.cons rfl (.cons rfl (.nil)))) : Keep _ [8, 35, 36, 37] _) ?_
      refine Run.againF (F := F) ih (by exact ⟨i + 1, a3, c3, by omega, rfl, rfl, rfl⟩) (by repeat (first | (with_reducible exact Fin.done (by repeat (first | (with_reducible exact Rest.here) | apply Rest.there))) | (apply Fin.cons (by first | ((repeat (first | (with_reducible exact F0 _) | apply F1)); done) | (repeat (first | exact F0 _ | apply F1)))))) ?_
      omega
    · try simp only [ZA, ZB, ZC, ZD, ZE, ZF, ZG, ZH, ZI, ZJ, ZK, ZL, ZM, ZN, ZO, ZP, ZQ, ZR] at h9
      refine Run.exit rfl ?_
      refine Run.sr ?_
      refine RunL.mv rfl rfl ?_
      refine RunL.as rfl rfl ?_
      refine RunL.nil ?_
      obtain rfl : i = (srt cmpPos (fun p => p) (PS xs.evs mt xs)).length := by omega
      have hfi := hil
      rw [← hil, List.take_length]
      exact Run.ret Tryz.func48 (res1 rfl rfl) (by exact ⟨a2, c2, by rw [hfi], rfl⟩) (by repeat (first | (with_reducible exact Fin.done (by repeat (first | (with_reducible exact Rest.here) | apply Rest.there))) | (apply Fin.cons (by first | ((repeat (first | (with_reducible exact F0 _) | apply F1)); done) | (repeat (first | exact F0 _ | apply F1))))))
  · skip
    obtain ⟨rs', hp', he⟩ := perm_map_inv hperm
    obtain ⟨y, rs2, rfl, rfl, rfl⟩ := List.map_eq_cons_iff.1 he
    have hl3 := hp'.length_eq
    rw [List.length_cons] at hl3
    have hpl := PS_len (l := xs.evs) (mt := mt) (xs := ds)
    have hp2 : ((ds ++ [y]) ++ rs2).Perm xs := by rw [List.append_assoc]; exact (hp'.symm.append_left ds).trans hp
    have hym : y ∈ xs := hp2.mem_iff.1 (by simp)
    have hro := nq_row (l := xs.evs) (qs := []) hrr hym
    refine RunL.pure (Pure.extract rfl rfl) (Wt.none rfl) rfl rfl ?_
    refine RunL.nil ?_
    refine Run.seq ?_
    refine Run.condT rfl ?_
    refine Run.skip ?_
    refine Run.block ?_
    refine Run.sr ?_
    refine RunL.entryMap rfl hmi hmg (by first | ((repeat (first | (with_reducible exact F0 _) | apply F1)); done) | (repeat (first | exact F0 _ | apply F1))) (Wt.none rfl) rfl ?_
    refine RunL.pure (Pure.extract rfl rfl) (Wt.none rfl) rfl rfl ?_
    refine RunL.pure (Pure.extract rfl rfl) (Wt.none rfl) rfl rfl ?_
    refine RunL.as rfl rfl ?_
    refine RunL.as rfl rfl ?_
    refine RunL.nil ?_
    refine Run.sr ?_
    refine RunL.mv rfl rfl ?_
    refine RunL.mv rfl rfl ?_
    refine RunL.call rfl rfl (by rfl) (by repeat (first | (with_reducible exact Take.nil _) | (apply Take.cons (by first | ((repeat (first | (with_reducible exact F0 _) | apply F1)); done) | (repeat (first | exact F0 _ | apply F1)))))) (hf G (Gp.le_refl G) _ _ hro) (Wt.none rfl) rfl ?_
    rintro _ _ ⟨rfl, hA_⟩
    replace hA_ := hA_.symm; subst hA_
    refine RunL.nil ?_
    refine Run.cond rfl (fun h2 => ?_) (fun h2 => ?_)
    · try simp only [ZA, ZB, ZC, ZD, ZE, ZF, ZG, ZH, ZI, ZJ, ZK, ZL, ZM, ZN, ZO, ZP, ZQ, ZR] at h2
      refine Run.region ?_
      refine RunL.mv rfl rfl ?_
      refine RunL.mv rfl rfl ?_
      refine RunL.pure (Pure.nilCheck rfl) (Wt.none rfl) rfl rfl ?_
      refine RunL.pure (Pure.fieldAddr rfl fo91_1) (Wt.none rfl) rfl rfl ?_
      refine RunL.load1R rfl hro (by rfl) agg3 (Wt.none rfl) rfl ?_
      refine RunL.mv rfl rfl ?_
      refine RunL.pure (Pure.buildL (ps := [(0, _), (1, _)]) (zs := [(.int .i64 0), (.string .empty)]) (xs := (cPos ((posOf xs.evs y.1)))) pl54 rfl rfl rfl rfl) (Wt.none rfl) rfl rfl ?_
      refine RunL.lit (vals := [_]) (vs := ([(posOf xs.evs y.1)] : List Pos).flatMap cPos) und106 sz54 zz54 rfl rfl rfl rfl rfl rfl (by simp [Value.cells, bv, cDD, cEvn, cGG, cNde, cPos]) rfl (Wt.none rfl) rfl ?_; intro b31
      refine RunL.append (m := 1) (n' := (PS xs.evs mt (ds ++ [y])).length) (cs' := (PS xs.evs mt (ds ++ [y])).flatMap cPos) rfl rfl (by first | ((repeat (first | (with_reducible exact F0 _) | apply F1)); done) | (repeat (first | exact F0 _ | apply F1))) rfl rfl und106 und106 rfl sz54 zz54 rfl by54 (by first | omega | (simp; omega)) (by first | omega | (simp; omega)) (fun w sw => sw.src) (isOne_flat (f := cPos) (fun _ => rfl)) (by rw [PS_snoc, if_pos h2]; simp) (by rw [PS_snoc, if_pos h2, List.flatMap_append]) (Wt.none rfl) rfl ?_; intro a1 c1
      refine RunL.as rfl rfl ?_
      refine RunL.nil ?_
      refine Run.inBlock ?_
      refine Run.keep (.cons rfl (.cons rfl (.cons rfl (.nil))) : Keep _ [1, 5, 15] _) ?_
      refine Run.againF (F := F) ih (by exact ⟨ds ++ [y], rs2, some (y.1.id, y.2.1), a1, c1, hp2, rfl, rfl, rfl⟩) (by repeat (first | (with_reducible exact Fin.done (by repeat (first | (with_reducible exact Rest.here) | apply Rest.there))) | (apply Fin.cons (by first | ((repeat (first | (with_reducible exact F0 _) | apply F1)); done) | (repeat (first | exact F0 _ | apply F1)))))) ?_
      omega
    · try simp only [ZA, ZB, ZC, ZD, ZE, ZF, ZG, ZH, ZI, ZJ, ZK, ZL, ZM, ZN, ZO, ZP, ZQ, ZR] at h2
      refine Run.skip ?_
      refine Run.inBlock ?_
      rw [show PS xs.evs mt ds = PS xs.evs mt (ds ++ [y]) from by rw [PS_snoc, if_neg (by simp [h2]), List.append_nil]]
      refine Run.keep (.cons rfl (.cons rfl (.cons rfl (.nil))) : Keep _ [1, 5, 15] _) ?_
      refine Run.againF (F := F) ih (by exact ⟨ds ++ [y], rs2, some (y.1.id, y.2.1), a', c', hp2, rfl, rfl, rfl⟩) (by repeat (first | (with_reducible exact Fin.done (by repeat (first | (with_reducible exact Rest.here) | apply Rest.there))) | (apply Fin.cons (by first | ((repeat (first | (with_reducible exact F0 _) | apply F1)); done) | (repeat (first | exact F0 _ | apply F1)))))) ?_
      omega

end Go.Proofs.YtcmkafellcfbeaaGreat
