/- An index is made. -/
import Derived.Test.YtcmkafellcfbeaaGreatY0
set_option linter.unusedVariables false
set_option linter.unusedSimpArgs false
set_option linter.unusedSectionVars false
namespace Go.Proofs.YtcmkafellcfbeaaGreat
open Go Csl
theorem fo73_2 : fieldOff Tryz.prog 73 2 = some 4 := by kernel_rfl
theorem sz71 : sizeIs Tryz.prog 71 = some 1 := by kernel_rfl
theorem fo73_0 : fieldOff Tryz.prog 73 0 = some 0 := by kernel_rfl
theorem und74 : Tryz.prog.underlying 74 = some (Go.TypeDesc.map 9 3) := Tryz.underlying74
theorem agg71 : isAggOf Tryz.prog 71 = some false := by kernel_rfl
theorem und71 : Tryz.prog.underlying 71 = some (Go.TypeDesc.map 9 74) := Tryz.underlying71
theorem zz74 : zeroIs Tryz.prog 74 = some (.map none) := by kernel_rfl
theorem fo70_2 : fieldOff Tryz.prog 70 2 = some 1 := by kernel_rfl
theorem fo70_1 : fieldOff Tryz.prog 70 1 = some 0 := by kernel_rfl
theorem fo73_1 : fieldOff Tryz.prog 73 1 = some 1 := by kernel_rfl
theorem pl73 : placesOf Tryz.prog 73 = some ([(0, 1), (1, 3), (4, 1)], (.agg #[(.slice none 0 0), (.int .u32 0), (.int .i32 0), (.int .u32 0), (.map none)])) := by kernel_rfl
theorem agg29 : isAggOf Tryz.prog 29 = some false := by kernel_rfl

set_option maxHeartbeats 4000000 in
set_option maxRecDepth 100000 in
theorem build_ctr0 {G : Gp} {p : Nat} {K : Hp} {room : ByteArray} {l : EL} {sl : Sli} {ys : ES} {x1 x2 x3 : Value} (hgd : Csl.Good room l) (hyl : ys.map (·.1) = allOf l) (hes0 : HasES (gk K) sl ys) (hb : sl.n ≤ 1000000) :
    Ctr Tryz.prog G 51 [.pointer (some ⟨p, 0, none⟩)] [row p 73 [.slice sl.a sl.n sl.c, x1, x2, x3, .map none], Pool K] (fun F v A => v = .tuple #[] ∧ ∃ (K1 : Hp) (m : Nat) (tbl : List (ByteArray × Nat)), Hp.le K K1 ∧ tbl.map (·.1) = (allOf l).map (·.id) ∧ TOk (gk K1) l tbl ∧ A = row p 73 [.slice sl.a sl.n sl.c, x1, x2, x3, .map (some m)] :: Mp m (menc eS eM tbl) :: Pool K1 :: F) := by
  refine Ctr.intro Tryz.func51 rfl (by kernel_rfl) rfl (fun F => ?_)
  simp only [List.cons_append, List.nil_append]
  have hdn := hes0.1
  have hyn := ES_len hyl
  refine Run.sr ?_
  refine RunL.mv rfl rfl ?_
  refine RunL.makeMap (Wt.none rfl) rfl ?_; intro b9
  refine RunL.pure (Pure.nilCheck rfl) (Wt.none rfl) rfl rfl ?_
  refine RunL.pure (Pure.fieldAddr rfl fo73_2) (Wt.none rfl) rfl rfl ?_
  refine RunL.store1 rfl rfl (by first | ((repeat (first | (with_reducible exact F0 _) | apply F1)); done) | (repeat (first | exact F0 _ | apply F1))) sz71 (by rfl) (by simp) (Wt.none rfl) ?_
  try simp only [List.set_cons_zero, List.set_cons_succ]
  refine RunL.nil ?_
  refine Run.sr ?_
  refine RunL.mv rfl rfl ?_
  refine RunL.pure (Pure.nilCheck rfl) (Wt.none rfl) rfl rfl ?_
  refine RunL.pure (Pure.fieldAddr rfl fo73_0) (Wt.none rfl) rfl rfl ?_
  first | refine RunL.load1 rfl (by first | ((repeat (first | (with_reducible exact F0 _) | apply F1)); done) | (repeat (first | exact F0 _ | apply F1))) (by rfl) agg24 (Wt.none rfl) rfl ?_ | refine RunL.load1R rfl (by assumption) (by rfl) agg24 (Wt.none rfl) rfl ?_
  refine RunL.pure (Pure.lenSl rfl rfl und24) (Wt.none rfl) rfl rfl ?_
  refine RunL.mv rfl rfl ?_
  refine RunL.nil ?_
  refine Run.block ?_
  refine Run.keep (.cons rfl (.cons rfl (.cons rfl (.cons rfl (.nil)))) : Keep _ [0, 15, 16, 17] _) ?_
  refine Run.loopF (F := F) (fun n e_ A => ∃ (i : Nat) (K1 : Hp) (tbl : List (ByteArray × Nat)), i ≤ (allOf l).length ∧ Hp.le K K1 ∧ tbl.map (·.1) = ((allOf l).take i).map (·.id) ∧ TOk (gk K1) l tbl ∧ n = (allOf l).length - i ∧ e_ = [(0, .pointer (some ⟨p, 0, none⟩)), (15, .slice sl.a sl.n sl.c), (16, .int .i64 (sl.n : Nat)), (17, .int .i64 (i : Nat))] ∧ A = row p 73 [.slice sl.a sl.n sl.c, x1, x2, x3, .map (some b9)] :: Mp b9 (menc eS eM tbl) :: Pool K1 :: F) ((allOf l).length) (by exact ⟨0, K, [], by omega, Hp.le_refl K, rfl, (fun x hx => by cases hx), rfl, rfl, rfl⟩) (by repeat (first | (with_reducible exact Fin.done (by repeat (first | (with_reducible exact Rest.here) | apply Rest.there))) | (apply Fin.cons (by first | ((repeat (first | (with_reducible exact F0 _) | apply F1)); done) | (repeat (first | exact F0 _ | apply F1)))))) ?_
  rintro n _ _ ⟨i, K1, tbl, hi, hle, htk, htok, rfl, rfl, hA_⟩ ih
  replace hA_ := hA_.symm; subst hA_
  refine Run.sr ?_
  refine RunL.pure (Pure.lss rfl rfl) (Wt.none rfl) rfl rfl ?_
  refine RunL.nil ?_
  refine Run.seq ?_
  refine Run.cond rfl (fun h1 => ?_) (fun h1 => ?_)
  · try simp only [ZA, ZB, ZC, ZD, ZE, ZF, ZG, ZH, ZI, ZJ, ZK, ZL, ZM, ZN, ZO, ZP, ZQ, ZR] at h1
    have ih0 := ih
    obtain ⟨v, hv⟩ := get_some (xs := (allOf l)) (i := i) (by omega)
    obtain ⟨s, hy⟩ := ES_get hyl hv
    have hym := List.mem_of_getElem? hy
    have hvl : v ∈ l := allOf_mem.1 (List.mem_of_getElem? hv)
    have hvb := evOk_len (hgd.mem hvl).1
    have hps0 := (HasES.hp (G' := gk K1) hes0 hle).2.2.2 _ hym
    refine Run.skip ?_
    refine Run.lendB (Q := Pool K1) Lends.Pool (by first | ((repeat (first | (with_reducible exact F0 _) | apply F1)); done) | (repeat (first | exact F0 _ | apply F1))) (fun gp hlegp hK backgp => ?_)
    have hes := HasES.hp (HasES.hp (G' := gk K1) hes0 hle) (G' := gp) hK
    obtain ⟨hdn, hds, hdc, hdk⟩ := id hes
    have hps := hdk _ hym
    have hpn : s.n = v.ps.length := hps.1
    obtain ⟨be, Te, pree, poste, hpe, hroe⟩ := hds.open1 (show 0 < ys.length by omega)
    refine Run.seq ?_
    refine Run.block ?_
    refine Run.sr ?_
    refine RunL.pure (Pure.indexAddr (opvSl rfl hpe) rfl und24 sz33 (by omega) (by omega)) (Wt.none rfl) rfl rfl ?_
    refine RunL.loadNR (vs := (cEvn ((v.evn s)))) rfl hroe agg33 sz33 (elemN_len (pre := pree) (post := poste) (f := cES) (sz := 6) (j := 0) (n := 6) (fun _ _ => rfl) hy (by decide)) ((elemN_at (pre := pree) (post := poste) (f := cES) (sz := 6) (j := 0) (n := 6) (fun _ _ => rfl) hy (by decide)).trans rfl) (Wt.none rfl) rfl ?_
    refine RunL.alloc zz33 (Wt.none rfl) rfl ?_; intro b3
    refine RunL.storeW (xs := (cEvn ((v.evn s)))) rfl rfl (by first | ((repeat (first | (with_reducible exact F0 _) | apply F1)); done) | (repeat (first | exact F0 _ | apply F1))) sz33 (by rfl) (by rfl) (by rfl) (Wt.none rfl) ?_
    refine RunL.nil ?_
    refine Run.sr ?_
    refine RunL.makeMap (Wt.none rfl) rfl ?_; intro b21
    refine RunL.as rfl rfl ?_
    refine RunL.nil ?_
    refine Run.seq ?_
    refine Run.sr ?_
    refine RunL.pure (Pure.fieldAddr rfl fo33_2) (Wt.none rfl) rfl rfl ?_
    first | refine RunL.load1 rfl (by first | ((repeat (first | (with_reducible exact F0 _) | apply F1)); done) | (repeat (first | exact F0 _ | apply F1))) (by rfl) agg31 (Wt.none rfl) rfl ?_ | refine RunL.load1R rfl (by assumption) (by rfl) agg31 (Wt.none rfl) rfl ?_
    refine RunL.pure (Pure.lenSl rfl rfl und31) (Wt.none rfl) rfl rfl ?_
    refine RunL.mv rfl rfl ?_
    refine RunL.nil ?_
    refine Run.block ?_
    refine Run.keep (.cons rfl (.cons rfl (.cons rfl (.cons rfl (.cons rfl (.cons rfl (.cons rfl (.cons rfl (.cons rfl (.nil))))))))) : Keep _ [0, 3, 4, 15, 16, 17, 23, 24, 25] _) ?_
    refine Run.loopF (F := F) (fun n e_ A => ∃ (j : Nat) (es : List (ByteArray × Int)), j ≤ v.ps.length ∧ AncM (fun a : ByteArray => (v.ps.take j).any fun q => decide (q = a) || ancOf l q a) es ∧ n = v.ps.length - j ∧ e_ = [(0, .pointer (some ⟨p, 0, none⟩)), (3, .pointer (some ⟨b3, 0, none⟩)), (4, .map (some b21)), (15, .slice sl.a sl.n sl.c), (16, .int .i64 (sl.n : Nat)), (17, .int .i64 (i : Nat)), (23, .slice s.a s.n s.c), (24, .int .i64 (s.n : Nat)), (25, .int .i64 (j : Nat))] ∧ A = Mp b21 (menc eS eI es) :: row b3 33 (cEvn (v.evn s)) :: row p 73 [.slice sl.a sl.n sl.c, x1, x2, x3, .map (some b9)] :: Mp b9 (menc eS eM tbl) :: F) (v.ps.length) (by exact ⟨0, [], by omega, AncM.nil, rfl, rfl, rfl⟩) (by repeat (first | (with_reducible exact Fin.done (by repeat (first | (with_reducible exact Rest.here) | apply Rest.there))) | (apply Fin.cons (by first | ((repeat (first | (with_reducible exact F0 _) | apply F1)); done) | (repeat (first | exact F0 _ | apply F1)))))) ?_
    rintro n _ _ ⟨j, es, hj, ha, rfl, rfl, hA_⟩ ih
    replace hA_ := hA_.symm; subst hA_
    refine Run.sr ?_
    refine RunL.pure (Pure.lss rfl rfl) (Wt.none rfl) rfl rfl ?_
    refine RunL.nil ?_
    refine Run.seq ?_
    refine Run.cond rfl (fun h2 => ?_) (fun h2 => ?_)
    · try simp only [ZA, ZB, ZC, ZD, ZE, ZF, ZG, ZH, ZI, ZJ, ZK, ZL, ZM, ZN, ZO, ZP, ZQ, ZR] at h2
      obtain ⟨q, hq⟩ := get_some (xs := v.ps) (i := j) (by omega)
      obtain ⟨bb, Tb, preb, postb, hpa, hro⟩ := hps.2.open1 (show 0 < v.ps.length by omega)
      obtain ⟨jq, uq, hjq, huq, hidq⟩ := allOf_ahead hgd hv (List.mem_of_getElem? hq)
      obtain ⟨rq, hmq, hrq⟩ := tbl_get (tbl := tbl) (x := q) (by rw [htk, ← hidq]; exact List.mem_map.2 ⟨uq, List.mem_of_getElem? (i := jq) (by rw [List.getElem?_take, if_pos hjq]; exact huq), rfl⟩)
      obtain ⟨eq_, hmr, hanc⟩ := htok _ hrq
      obtain ⟨arr, clock, hmi, hmg0⟩ := hmr
      have hmg : gp rq = some (.map arr clock) := hK _ _ hmg0
      have ih1 := ih
      refine Run.skip ?_
      refine Run.seq ?_
      refine Run.block ?_
      refine Run.sr ?_
      refine RunL.pure (Pure.indexAddr (opvSl rfl hpa) rfl und31 sz9 (by omega) (by omega)) (Wt.none rfl) rfl rfl ?_
      refine RunL.load1R rfl hro (elem1_at hq) agg9 (Wt.none rfl) rfl ?_
      refine RunL.as rfl rfl ?_
      refine RunL.nil ?_
      refine Run.sr ?_
      refine RunL.mv rfl rfl ?_
      refine RunL.mv rfl rfl ?_
      refine RunL.mapUpdate (k := q) (v := (1 : Int)) (ev := eI) rfl rfl rfl (by first | ((repeat (first | (with_reducible exact F0 _) | apply F1)); done) | (repeat (first | exact F0 _ | apply F1))) und74 (KeyT.string und9) (Wt.none rfl) ?_
      refine RunL.nil ?_
      refine Run.sr ?_
      refine RunL.mv rfl rfl ?_
      refine RunL.pure (Pure.nilCheck rfl) (Wt.none rfl) rfl rfl ?_
      refine RunL.pure (Pure.fieldAddr rfl fo73_2) (Wt.none rfl) rfl rfl ?_
      first | refine RunL.load1 rfl (by first | ((repeat (first | (with_reducible exact F0 _) | apply F1)); done) | (repeat (first | exact F0 _ | apply F1))) (by rfl) agg71 (Wt.none rfl) rfl ?_ | refine RunL.load1R rfl (by assumption) (by rfl) agg71 (Wt.none rfl) rfl ?_
      refine RunL.mv rfl rfl ?_
      first | refine RunL.lookup (k := q) rfl rfl (by first | ((repeat (first | (with_reducible exact F0 _) | apply F1)); done) | (repeat (first | exact F0 _ | apply F1))) und71 zz74 (KeyT.string und9) (Wt.none rfl) rfl ?_ | refine RunL.lookupR (k := q) rfl rfl (by assumption) und71 zz74 (KeyT.string und9) (Wt.none rfl) rfl ?_
      rw [hmq]
      refine RunL.rangeMap rfl hmi hmg und74 (Wt.none rfl) rfl ?_; intro r37
      refine RunL.nil ?_
      refine Run.block ?_
      refine Run.keep (.cons rfl (.cons rfl (.cons rfl (.cons rfl (.cons rfl (.cons rfl (.cons rfl (.cons rfl (.cons rfl (.cons rfl (.cons rfl (.nil))))))))))) : Keep _ [0, 3, 4, 6, 15, 16, 17, 23, 24, 25, 37] _) ?_
      refine Run.loopF (F := F) (fun n e_ A => ∃ (ds rs : List (ByteArray × Int)) (last : Option (ByteArray × Int)) (es : List (ByteArray × Int)), (ds ++ rs).Perm eq_ ∧ AncM (fun a : ByteArray => (((v.ps.take j).any fun q => decide (q = a) || ancOf l q a) || decide (a = q)) || memB a (ds.map (fun x : ByteArray × Int => x.1))) es ∧ n = rs.length ∧ e_ = [(0, .pointer (some ⟨p, 0, none⟩)), (3, .pointer (some ⟨b3, 0, none⟩)), (4, .map (some b21)), (6, .string q), (15, .slice sl.a sl.n sl.c), (16, .int .i64 (sl.n : Nat)), (17, .int .i64 (i : Nat)), (23, .slice s.a s.n s.c), (24, .int .i64 (s.n : Nat)), (25, .int .i64 (j : Nat)), (37, .pointer (some ⟨r37, 0, none⟩))] ∧ A = MIt eS eI r37 rq arr clock last rs :: Mp b21 (menc eS eI es) :: row b3 33 (cEvn (v.evn s)) :: row p 73 [.slice sl.a sl.n sl.c, x1, x2, x3, .map (some b9)] :: Mp b9 (menc eS eM tbl) :: F) (eq_.length) (by exact ⟨[], eq_, none, mput q 1 es, .refl _, (ha.put q).congr (fun a => by simp [memB]), rfl, rfl, rfl⟩) (by repeat (first | (with_reducible exact Fin.done (by repeat (first | (with_reducible exact Rest.here) | apply Rest.there))) | (apply Fin.cons (by first | ((repeat (first | (with_reducible exact F0 _) | apply F1)); done) | (repeat (first | exact F0 _ | apply F1)))))) ?_
      rintro n _ _ ⟨ds, rs, last, es, hp, ha, rfl, rfl, hA_⟩ ih
      replace hA_ := hA_.symm; subst hA_
      refine Run.sr ?_
      refine RunL.nextMap rfl hmi hmg (by first | ((repeat (first | (with_reducible exact F0 _) | apply F1)); done) | (repeat (first | exact F0 _ | apply F1))) (Wt.none rfl) rfl (fun hrest => ?_) (fun y rest2 hperm => ?_)
      · skip
        subst hrest
        rw [List.append_nil] at hp
        have ih := ih1
        refine RunL.pure (Pure.extract rfl rfl) (Wt.none rfl) rfl rfl ?_
        refine RunL.nil ?_
        refine Run.seq ?_
        refine Run.condF rfl ?_
        refine Run.exit rfl ?_
        refine Run.inBlock ?_
        refine Run.region ?_
        first | refine RunL.pure (Pure.addI rfl rfl (by omega)) (Wt.none rfl) rfl rfl ?_ | refine RunL.pure (Pure.add rfl rfl) (Wt.none rfl) rfl rfl ?_
        refine RunL.mv rfl rfl ?_
        refine RunL.nil ?_
        have hnext : ∀ a, (fun a : ByteArray => (((v.ps.take j).any fun q => decide (q = a) || ancOf l q a) || decide (a = q)) || memB a (ds.map (fun x : ByteArray × Int => x.1))) a = (fun a : ByteArray => (v.ps.take (j + 1)).any fun q => decide (q = a) || ancOf l q a) a := fun a => by
          have h1 : memB a (ds.map (fun x : ByteArray × Int => x.1)) = ancOf l q a := by rw [Bool.eq_iff_iff, memB_iff, (hp.map (fun x : ByteArray × Int => x.1)).mem_iff, hanc.keys]
          refine Eq.trans ?_ (anc_take hq).symm
          rw [show decide (q = a) = decide (a = q) from decide_eq_decide.2 eq_comm, ← h1]
          exact Bool.or_assoc _ _ _
        refine Run.keep (.cons rfl (.cons rfl (.cons rfl (.cons rfl (.cons rfl (.cons rfl (.cons rfl (.cons rfl (.cons rfl (.nil))))))))) : Keep _ [0, 3, 4, 15, 16, 17, 23, 24, 25] _) ?_
        refine Run.againF (F := F) ih (by exact ⟨j + 1, es, by omega, ha.congr hnext, rfl, rfl, rfl⟩) (by repeat (first | (with_reducible exact Fin.done (by repeat (first | (with_reducible exact Rest.here) | apply Rest.there))) | (apply Fin.cons (by first | ((repeat (first | (with_reducible exact F0 _) | apply F1)); done) | (repeat (first | exact F0 _ | apply F1)))))) ?_
        omega
      · skip
        have hlen := hperm.length_eq
        rw [List.length_cons] at hlen
        refine RunL.pure (Pure.extract rfl rfl) (Wt.none rfl) rfl rfl ?_
        refine RunL.nil ?_
        refine Run.seq ?_
        refine Run.condT rfl ?_
        refine Run.skip ?_
        refine Run.block ?_
        refine Run.sr ?_
        refine RunL.entryMap rfl hmi hmg (by first | ((repeat (first | (with_reducible exact F0 _) | apply F1)); done) | (repeat (first | exact F0 _ | apply F1))) (Wt.none rfl) rfl ?_
        refine RunL.pure (Pure.extract rfl rfl) (Wt.none rfl) rfl rfl ?_
        refine RunL.as rfl rfl ?_
        refine RunL.nil ?_
        refine Run.region ?_
        refine RunL.mv rfl rfl ?_
        refine RunL.mv rfl rfl ?_
        refine RunL.mapUpdate (k := y.1) (v := (1 : Int)) (ev := eI) rfl rfl rfl (by first | ((repeat (first | (with_reducible exact F0 _) | apply F1)); done) | (repeat (first | exact F0 _ | apply F1))) und74 (KeyT.string und9) (Wt.none rfl) ?_
        refine RunL.nil ?_
        refine Run.inBlock ?_
        refine Run.keep (.cons rfl (.cons rfl (.cons rfl (.cons rfl (.cons rfl (.cons rfl (.cons rfl (.cons rfl (.cons rfl (.cons rfl (.cons rfl (.nil))))))))))) : Keep _ [0, 3, 4, 6, 15, 16, 17, 23, 24, 25, 37] _) ?_
        refine Run.againF (F := F) ih (by exact ⟨ds ++ [y], rest2, some y, mput y.1 1 es, by rw [List.append_assoc]; exact (hperm.symm.append_left ds).trans hp, (ha.put y.1).congr (fun a => or_put), rfl, rfl, rfl⟩) (by repeat (first | (with_reducible exact Fin.done (by repeat (first | (with_reducible exact Rest.here) | apply Rest.there))) | (apply Fin.cons (by first | ((repeat (first | (with_reducible exact F0 _) | apply F1)); done) | (repeat (first | exact F0 _ | apply F1)))))) ?_
        omega
    · try simp only [ZA, ZB, ZC, ZD, ZE, ZF, ZG, ZH, ZI, ZJ, ZK, ZL, ZM, ZN, ZO, ZP, ZQ, ZR] at h2
      refine Run.exit rfl ?_
      obtain rfl : j = v.ps.length := by omega
      rw [List.take_length] at ha
      have han := ha.congr (g := ancOf l v.id) (fun a => (hgd.anc hvl a).symm)
      refine Run.backB backgp ?_
      refine Run.regionD' (by kernel_rfl) (by kernel_rfl) (fun hok160 => ?_)
      refine RunD.lend (Q := row b3 33 _) Lends.row (by first | ((repeat (first | (with_reducible exact F0 _) | apply F1)); done) | (repeat (first | exact F0 _ | apply F1))) ?_; intro gl1 hlegl1 hl1 backgl1
      refine RunD.lend (Q := row p 73 [.slice sl.a sl.n sl.c, x1, x2, x3, .map (some b9)]) Lends.row (by first | ((repeat (first | (with_reducible exact F0 _) | apply F1)); done) | (repeat (first | exact F0 _ | apply F1))) ?_; intro g1 hleg1 hr1 backg1
      try (replace hl1 := hl1.mono hleg1)
      refine RunD.pure (i := 0) hok160 rfl (by kernel_rfl) (Pure.move rfl) (Wt.none rfl) rfl rfl ?_
      refine RunD.pure (i := 1) hok160 rfl (by kernel_rfl) (Pure.nilCheck rfl) (Wt.none rfl) rfl rfl ?_
      refine RunD.pure (i := 2) hok160 rfl (by kernel_rfl) (Pure.fieldAddr rfl fo73_2) (Wt.none rfl) rfl rfl ?_
      refine RunD.load1R (i := 3) hok160 rfl (by kernel_rfl) rfl (by assumption) (by rfl) agg71 (Wt.none rfl) rfl ?_
      refine RunD.pure (i := 4) hok160 rfl (by kernel_rfl) (Pure.fieldAddr rfl fo33_0) (Wt.none rfl) rfl rfl ?_
      refine RunD.load1R (i := 5) hok160 rfl (by kernel_rfl) rfl (by assumption) (by rfl) agg9 (Wt.none rfl) rfl ?_
      refine RunD.pure (i := 6) hok160 rfl (by kernel_rfl) (Pure.move rfl) (Wt.none rfl) rfl rfl ?_
      refine RunD.one (i := 7) (by kernel_rfl) rfl ?_
      refine RunL.mapUpdate (k := v.id) (v := b21) (ev := eM) rfl rfl rfl (by first | ((repeat (first | (with_reducible exact F0 _) | apply F1)); done) | (repeat (first | exact F0 _ | apply F1))) und71 (KeyT.string und9) (Wt.none rfl) ?_
      refine RunL.nilD' ?_
      refine RunD.nilB (by kernel_rfl) (fun w sw => backgl1 _ _ (backg1 _ _ (sw))) ?_
      refine Run.inBlock ?_
      refine Run.poolMp (r := b21) (es := menc eS eI es) (by repeat (first | (with_reducible exact Take.nil _) | (apply Take.cons (by first | ((repeat (first | (with_reducible exact F0 _) | apply F1)); done) | (repeat (first | exact F0 _ | apply F1)))))) ?_; intro K2 hle2 hmp2
      have ih := ih0
      refine Run.region ?_
      first | refine RunL.pure (Pure.addI rfl rfl (by omega)) (Wt.none rfl) rfl rfl ?_ | refine RunL.pure (Pure.add rfl rfl) (Wt.none rfl) rfl rfl ?_
      refine RunL.mv rfl rfl ?_
      refine RunL.nil ?_
      rw [tbl_put (show v.id ∉ tbl.map (·.1) by rw [htk]; exact allOf_new hgd hv)]
      refine Run.keep (.cons rfl (.cons rfl (.cons rfl (.cons rfl (.nil)))) : Keep _ [0, 15, 16, 17] _) ?_
      refine Run.againF (F := F) ih (by exact ⟨i + 1, K2, tbl ++ [(v.id, b21)], by omega, hle.trans hle2, by rw [List.map_append, htk, List.take_add_one, hv, List.map_append]; rfl, (TOk.hp (G' := gk K2) htok hle2).snoc hmp2 han, rfl, rfl, rfl⟩) (by repeat (first | (with_reducible exact Fin.done (by repeat (first | (with_reducible exact Rest.here) | apply Rest.there))) | (apply Fin.cons (by first | ((repeat (first | (with_reducible exact F0 _) | apply F1)); done) | (repeat (first | exact F0 _ | apply F1)))))) ?_
      omega
  · try simp only [ZA, ZB, ZC, ZD, ZE, ZF, ZG, ZH, ZI, ZJ, ZK, ZL, ZM, ZN, ZO, ZP, ZQ, ZR] at h1
    refine Run.exit rfl ?_
    have hie : i = (allOf l).length := by omega
    exact Run.fin Tryz.func51 (res0 rfl) (by exact ⟨rfl, K1, b9, tbl, hle, by rw [htk, hie, List.take_length], htok, rfl⟩) (by repeat (first | (with_reducible exact Fin.done (by repeat (first | (with_reducible exact Rest.here) | apply Rest.there))) | (apply Fin.cons (by first | ((repeat (first | (with_reducible exact F0 _) | apply F1)); done) | (repeat (first | exact F0 _ | apply F1))))))

end Go.Proofs.YtcmkafellcfbeaaGreat
