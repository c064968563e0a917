/- What is added. -/
import Derived.Test.YtaaondbmkibkkaaGreatD2
set_option linter.unusedVariables false
set_option linter.unusedSimpArgs false
set_option linter.unusedSectionVars false
namespace Go.Proofs.YtaaondbmkibkkaaGreat
open Go Csl
theorem fo156_0 : fieldOff Tryz.prog 156 0 = some 0 := by kernel_rfl
theorem pl160 : placesOf Tryz.prog 160 = some ([(0, 6), (6, 1), (7, 1)], (.agg #[(.string .empty), (.string .empty), (.slice none 0 0), (.string .empty), (.string .empty), (.int .i64 0), (.int .i64 0), (.bool false)])) := by kernel_rfl
theorem fo160_2 : fieldOff Tryz.prog 160 2 = some 7 := by kernel_rfl
theorem sz4 : sizeIs Tryz.prog 4 = some 1 := by kernel_rfl

theorem HasD_ctr {G : Gp} {p : Nat} {room : ByteArray} {l : EL} (h : DgR G p room l) {id : ByteArray} : Ctr Tryz.prog G 89 [.pointer (some ⟨p, 0, none⟩), .string id] [] (fun F v A => v = .bool (l.has id) ∧ A = F) := by
  obtain ⟨xs, hxl, hgd, hxk, hdr⟩ := h
  have h := Has_ctr (id := id) hdr
  rw [XL.nl, nq_ids, idb_has, hxl] at h
  exact h
theorem NewD_ctr {G : Gp} {room : ByteArray} : Ctr Tryz.prog G 87 [.string room] [] (fun F v A => ∃ p, v = .pointer (some ⟨p, 0, none⟩) ∧ A = Dg p room [] :: F) := (New_ctr (room := room)).postSt (by
  rintro F v A w ⟨p, rfl, rfl⟩ s
  exact ⟨_, ⟨p, rfl, rfl⟩, St.mkEx (x := (Hp.empty, [])) ⟨rfl, Good.nil _, fun x hx => by cases hx⟩ (s.poolNew.perm (.swap _ _ _))⟩)
set_option maxHeartbeats 4000000 in
set_option maxRecDepth 100000 in
theorem Add_ctr {G : Gp} {p : Nat} {room : ByteArray} {l : EL} {e : Evn} {ps : List ByteArray} (hp : HasPs G e ps) (hw : evWf (e.ev ps)) (hl : l.length ≤ 1000000) :
    Ctr Tryz.prog G 55 [.pointer (some ⟨p, 0, none⟩), .agg (cEvn e).toArray] [Dg p room l] (fun F v A => v = .int .i64 (addRc room l (e.ev ps)) ∧ A = Dg p room (addL room l (e.ev ps)) :: F) := by
  refine Ctr.intro Tryz.func55 rfl (by kernel_rfl) rfl (fun F => ?_)
  simp only [List.cons_append, List.nil_append]
  refine Run.openDg (by first | ((repeat (first | (with_reducible exact F0 _) | apply F1)); done) | (repeat (first | exact F0 _ | apply F1))) ?_; intro K xs hxl hgd hxk; subst hxl
  have hpl : ps.length ≤ 1000 := hw.2.2
  have hn : e.par.n = ps.length := hp.1
  have hni : notIn xs.nl = fun x => !xs.evs.has x := by funext x; unfold notIn; rw [XL.nl, nq_ids, idb_has]
  refine sr' ?_
  refine RunL.box rfl (Wt.none rfl) rfl ?_; intro b2
  refine RunL.boxA (xs := (cEvn e)) rfl (Wt.none rfl) rfl ?_; intro b3
  refine as' rfl (nl' ?_)
  refine la' (row b3 49 _) Lends.row fun G3 hleG3 hrb3 => ?_
  replace hp := hp.mono hleG3
  refine la' (row b2 109 _) Lends.row fun Ghb2 hleGhb2 hb2 => ?_
  replace hp := hp.mono hleGhb2
  replace hrb3 := hrb3.mono hleGhb2
  refine lb' (DagA p room xs.nl) Lends.DagA fun gd hlegd hd backgd => ?_
  have hp_gd := hp.mono hlegd
  have hrb3_gd := hrb3.mono hlegd
  have hb2_gd := hb2.mono hlegd
  obtain ⟨r, hr, hmr, hrr⟩ := id hd
  refine sq' (bl' (sq' ?_))
  refine Run.regionD' (by kernel_rfl) (by kernel_rfl) (fun hok18 => ?_)
  refine RunD.loadNR (vs := (cEvn e)) (i := 0) hok18 rfl (by kernel_rfl) rfl (by assumption) agg49 sz49 (by first | exact Nat.le_of_ble_eq_true rfl | (simp; done) | (simp; omega)) rfl (Wt.none rfl) rfl ?_
  refine RunD.one (i := 1) (by kernel_rfl) rfl ?_
  refine ca' rfl rfl (s := dMay_ctr hp_gd (by omega) hw.1 hw.2.1) (q := ?_)
  rintro _ _ ⟨rfl, hA_⟩
  replace hA_ := hA_.symm; subst hA_
  refine RunL.nilD' ?_
  refine dp' 2 hok18 rfl (Pure.not rfl) (dp' 3 hok18 rfl (Pure.move rfl) ?_)
  refine RunD.split (d := 13) rfl (fun c0 => ?_) (fun c0 => ?_)
  · try simp only [Z] at c0
    refine dn' 4 hok18 rfl (dn' 5 hok18 rfl (dn' 6 hok18 rfl (dn' 7 hok18 rfl (dn' 8 hok18 rfl (dn' 9 hok18 rfl (dn' 10 hok18 rfl (dp' 11 hok18 rfl (Pure.pickT rfl rfl) (dp' 12 hok18 rfl (Pure.assign rfl) ?_))))))))
    refine RunD.nilR (by kernel_rfl) ?_
    refine cT' (sr' (as' rfl (nl' ?_)))
    have hrc : addRc room xs.evs (e.ev ps) = 1 := addRc_1 (.inl c0)
    refine Run.backB backgd ?_
    refine Run.mkDg K xs rfl hgd hxk (by repeat (first | (with_reducible exact Take.nil _) | (apply Take.cons (by first | ((repeat (first | (with_reducible exact F0 _) | apply F1)); done) | (repeat (first | exact F0 _ | apply F1)))))) ?_
    exact rt' Tryz.func55 (res1 rfl rfl) (by exact ⟨by rw [hrc], by rw [addL_no (by rw [hrc]; decide)]⟩)
  · try simp only [Z] at c0
    refine dp' 4 hok18 rfl (Pure.fieldAddr rfl fo49_1) (dl' 5 hok18 rfl rfl agg9 ?_)
    refine dl' 6 hok18 rfl rfl agg109 ?_
    refine dp' 7 hok18 rfl (Pure.nilCheck rfl) (dp' 8 hok18 rfl (Pure.fieldAddr rfl fo156_0) (dl' 9 hok18 rfl rfl agg9 ?_))
    refine dp' 10 hok18 rfl (Pure.sneq rfl rfl) (dp' 11 hok18 rfl (Pure.pickF rfl rfl) (dp' 12 hok18 rfl (Pure.assign rfl) ?_))
    refine RunD.nilR (by kernel_rfl) ?_
    refine Run.cond rfl (fun c1 => ?_) (fun c1 => ?_)
    · try simp only [Z] at c1
      refine sr' (as' rfl (nl' ?_))
      have hrc : addRc room xs.evs (e.ev ps) = 1 := addRc_1 (.inr fun q => c1 (by rw [show e.room = room from q]))
      refine Run.backB backgd ?_
      refine Run.mkDg K xs rfl hgd hxk (by repeat (first | (with_reducible exact Take.nil _) | (apply Take.cons (by first | ((repeat (first | (with_reducible exact F0 _) | apply F1)); done) | (repeat (first | exact F0 _ | apply F1)))))) ?_
      exact rt' Tryz.func55 (res1 rfl rfl) (by exact ⟨by rw [hrc], by rw [addL_no (by rw [hrc]; decide)]⟩)
    · try simp only [Z] at c1
      have hok : evOk (e.ev ps) = true := c0
      have hroom : (e.ev ps).room = room := bl_inj c1
      refine sr' (l1' rfl agg109 ?_)
      refine pp' (Pure.fieldAddr rfl fo49_0) (l1' rfl agg9 ?_)
      refine ca' rfl rfl (s := Has_ctr hd) (q := ?_)
      rintro _ _ ⟨rfl, hA_⟩
      replace hA_ := hA_.symm; subst hA_
      rw [show xs.nl.ids = xs.idb from nq_ids _ _ _, idb_has]
      refine as' rfl (nl' ?_)
      refine Run.cond rfl (fun c2 => ?_) (fun c2 => ?_)
      · try simp only [Z] at c2
        refine sr' (as' rfl (nl' ?_))
        have hrc : addRc room xs.evs (e.ev ps) = 9 := addRc_9 hok hroom c2
        refine Run.backB backgd ?_
        refine Run.mkDg K xs rfl hgd hxk (by repeat (first | (with_reducible exact Take.nil _) | (apply Take.cons (by first | ((repeat (first | (with_reducible exact F0 _) | apply F1)); done) | (repeat (first | exact F0 _ | apply F1)))))) ?_
        exact rt' Tryz.func55 (res1 rfl rfl) (by exact ⟨by rw [hrc], by rw [addL_no (by rw [hrc]; decide)]⟩)
      · try simp only [Z] at c2
        have hhas : EL.has xs.evs (e.ev ps).id = false := c2
        refine sr' (pp' (Pure.fieldAddr rfl fo49_2) (l1' rfl agg47 ?_))
        refine pp' (Pure.makeFunc rfl rfl) ?_
        rw [hn]
        refine ca' rfl rfl (s := ContainsT_ctr (xs := ps) hd hb2_gd hp_gd.2 (by omega)) (q := ?_)
        rintro _ _ ⟨rfl, hA_⟩
        replace hA_ := hA_.symm; subst hA_
        rw [hni]
        refine as' rfl (nl' ?_)
        refine Run.cond rfl (fun c3 => ?_) (fun c3 => ?_)
        · try simp only [Z] at c3
          refine sr' (as' rfl (nl' ?_))
          have hrc : addRc room xs.evs (e.ev ps) = 4 := addRc_4 hok hroom hhas c3
          refine Run.backB backgd ?_
          refine Run.mkDg K xs rfl hgd hxk (by repeat (first | (with_reducible exact Take.nil _) | (apply Take.cons (by first | ((repeat (first | (with_reducible exact F0 _) | apply F1)); done) | (repeat (first | exact F0 _ | apply F1)))))) ?_
          exact rt' Tryz.func55 (res1 rfl rfl) (by exact ⟨by rw [hrc], by rw [addL_no (by rw [hrc]; decide)]⟩)
        · try simp only [Z] at c3
          have hpar : (e.ev ps).ps.any (fun p => !EL.has xs.evs p) = false := c3
          have hall : ∀ p ∈ ps, EL.has xs.evs p = true := fun p hp' => by have := List.any_eq_false.1 hpar p hp'; simpa using this
          refine sk' (ib' (sq' (sr' (pp' (Pure.fieldAddr rfl fo49_3) (l1' rfl agg9 ?_)))))
          refine pp' (Pure.sneq rfl rfl) (nl' ?_)
          refine Run.cut (fun e_ A => thrRc xs.evs (e.ev ps) = 0 ∧ e_ = [(2, .pointer (some ⟨b2, 0, none⟩)), (3, .pointer (some ⟨b3, 0, none⟩)), (4, .int .i64 0)] ∧ A = Pool K :: F) (fun e A hM => ?_) (fun hk => ?_)
          · obtain ⟨hthr, rfl, hA_⟩ := hM
            replace hA_ := hA_.symm; subst hA_
            refine Run.backB backgd ?_
            skip
            refine sr' (lA' (cEvn e) rfl agg49 sz49 ?_)
            refine ca' rfl rfl (s := own_ctr (e := e) (ps := ps) hp (by omega)) (q := ?_)
            rintro _ _ ⟨a1, c1, rfl, hA_⟩
            replace hA_ := hA_.symm; subst hA_
            refine pp' (Pure.buildL (ps := [(0, _)]) (zs := [(.string .empty), (.string .empty), (.slice none 0 0), (.string .empty), (.string .empty), (.int .i64 0), (.int .i64 0), (.bool false)]) (xs := (cNde ((⟨({ e with par := ⟨a1, ps.length, c1⟩ } : Evn), 0, false⟩ : Nde)))) pl160 rfl rfl rfl rfl) ?_
            refine RunL.boxA (xs := (cNde ((⟨({ e with par := ⟨a1, ps.length, c1⟩ } : Evn), 0, false⟩ : Nde)))) rfl (Wt.none rfl) rfl ?_; intro b61
            refine as' rfl (nl' (sq' (sr' (pp' (Pure.fieldAddr rfl fo49_2) (l1' rfl agg47 ?_)))))
            refine pp' (Pure.lenSl rfl rfl und47) (mv' rfl (nl' ?_))
            refine Run.openDag (by first | ((repeat (first | (with_reducible exact F0 _) | apply F1)); done) | (repeat (first | exact F0 _ | apply F1))) ?_; intro r; rw [show xs.nl.ids = xs.idb from nq_ids _ _ _]
            refine bl' ?_
            refine kp' [2, 3, 6, 63, 64, 65] ?_
            refine lp' F (fun n e_ A => ∃ (i : Nat), i ≤ ps.length ∧ n = ps.length - i ∧ e_ = [(2, .pointer (some ⟨b2, 0, none⟩)), (3, .pointer (some ⟨b3, 0, none⟩)), (6, .pointer (some ⟨b61, 0, none⟩)), (63, .slice e.par.a e.par.n e.par.c), (64, .int .i64 (e.par.n : Nat)), (65, .int .i64 (i : Nat))] ∧ A = row b61 160 (cNde (⟨({ e with par := ⟨a1, ps.length, c1⟩ } : Evn), addDepth (depthOf xs.evs) (ps.take i), false⟩ : Nde)) :: row p 156 [.string room, .map (some r)] :: Mp r (menc eS eN xs.idb) :: Csl.Rows 160 (xs.nq xs.evs (ps.take i)).rows :: Sl 9 1 a1 ps.length c1 (ps.map Value.string) :: Pool K :: F) (ps.length) (by exact ⟨0, by omega, rfl, rfl, rfl⟩) ?_
            rintro n _ _ ⟨i, hi, rfl, rfl, hA_⟩ ih
            replace hA_ := hA_.symm; subst hA_
            refine sr' (pp' (Pure.lss rfl rfl) (nl' (sq' ?_)))
            refine Run.cond rfl (fun hi1 => ?_) (fun hi1 => ?_)
            · try simp only [Z] at hi1
              obtain ⟨q, hx⟩ := get_some (xs := ps) (i := i) (by omega)
              obtain ⟨bb, Tb, preb, postb, hpa, hro⟩ := hp.2.open1 (show 0 < ps.length by omega)
              have hqh := hall q (List.mem_of_getElem? hx)
              obtain ⟨b, hm⟩ : ∃ b, mget q xs.idb = some b := by
                rw [← idb_has] at hqh
                exact Option.isSome_iff_exists.1 hqh
              obtain ⟨s, x, t, hxs, hid, hbx, hget⟩ := idb_some (show mget q xs.idb = some b from hm)
              have hxm : x ∈ xs := by rw [hxs]; simp
              have hqd := depthOf_bounds xs.evs x.1.id
              have hlen : xs.evs.length ≤ 1000000 := hl
              refine sk' (sq' (bl' (sr' ?_)))
              refine pp' (Pure.indexAddr (opvSl rfl hpa) rfl und47 sz9 (by omega) (by omega)) ?_
              refine RunL.load1R rfl hro (elem1_at hx) agg9 (Wt.none rfl) rfl ?_
              refine as' rfl (nl' (sq' ?_))
              refine Run.regionD' (by kernel_rfl) (by kernel_rfl) (fun hok174 => ?_)
              refine ld' (row p 156 [.string room, .map (some r)]) Lends.row ?_; intro g1 hleg1 hr1 backg1
              have hp_g1 := hp.mono hleg1
              have hrb3_g1 := hrb3.mono hleg1
              have hb2_g1 := hb2.mono hleg1
              refine ld' (Mp r (menc eS eN xs.idb)) Lends.Mp ?_; intro g2 hleg2 hmr1 backg2
              try (replace hr1 := hr1.mono hleg2)
              have hp_g2 := hp_g1.mono hleg2
              have hrb3_g2 := hrb3_g1.mono hleg2
              have hb2_g2 := hb2_g1.mono hleg2
              refine ld' (Csl.Rows 160 (xs.nq xs.evs (ps.take i)).rows) Lends.Rows ?_; intro g3 hleg3 hrr1 backg3
              try (replace hr1 := hr1.mono hleg3)
              try (replace hmr1 := hmr1.mono hleg3)
              have hp_g3 := hp_g2.mono hleg3
              have hrb3_g3 := hrb3_g2.mono hleg3
              have hb2_g3 := hb2_g2.mono hleg3
              refine dp' 0 hok174 rfl (Pure.move rfl) (dp' 1 hok174 rfl (Pure.move rfl) (dp' 2 hok174 rfl (Pure.nilCheck rfl) (dp' 3 hok174 rfl (Pure.fieldAddr rfl fo160_1) (dl' 5 hok174 rfl rfl agg109 ?_))))
              refine dp' 6 hok174 rfl (Pure.nilCheck rfl) (dp' 7 hok174 rfl (Pure.fieldAddr rfl fo156_1) (dl' 8 hok174 rfl rfl agg154 ?_))
              refine dp' 9 hok174 rfl (Pure.move rfl) ?_
              refine RunD.lookupR (k := q) (i := 10) hok174 rfl (by kernel_rfl) rfl rfl (by assumption) und154 zz158 (KeyT.string und9) (Wt.none rfl) rfl ?_
              rw [hm]
              have hro2 : Ro g3 b 160 [.string x.1.id, .string x.1.room, .slice x.2.2.a x.2.2.n x.2.2.c, .string x.1.thread, .string x.1.user, .int .i64 x.1.does, .int .i64 (depthOf xs.evs x.1.id), .bool (isPar xs.evs x.1.id || memB x.1.id (ps.take i))] := by rw [← hbx]; exact nq_row hrr1 hxm
              refine dp' 11 hok174 rfl (Pure.nilCheck rfl) (dp' 12 hok174 rfl (Pure.fieldAddr rfl fo160_1) ?_)
              refine RunD.load1R (i := 13) hok174 rfl (by kernel_rfl) rfl hro2 (by rfl) agg3 (Wt.none rfl) rfl ?_
              first | refine RunD.pure (i := 14) hok174 rfl (by kernel_rfl) (Pure.addI rfl rfl (by omega)) (Wt.none rfl) rfl rfl ?_ | refine RunD.pure (i := 14) hok174 rfl (by kernel_rfl) (Pure.add rfl rfl) (Wt.none rfl) rfl rfl ?_
              refine RunD.one (i := 4) (by kernel_rfl) rfl ?_
              refine l1' rfl agg3 ?_
              refine RunL.nilD' ?_
              refine dp' 15 hok174 rfl (Pure.max2 rfl rfl) (dp' 16 hok174 rfl (Pure.nilCheck rfl) (dp' 17 hok174 rfl (Pure.fieldAddr rfl fo160_1) ?_))
              refine RunD.one (i := 18) (by kernel_rfl) rfl ?_
              refine RunL.store1A (cs' := (cNde ((⟨({ e with par := ⟨a1, ps.length, c1⟩ } : Evn), max (addDepth (depthOf xs.evs) (ps.take i)) (depthOf xs.evs x.1.id + 1), false⟩ : Nde)))) rfl rfl (by first | ((repeat (first | (with_reducible exact F0 _) | apply F1)); done) | (repeat (first | exact F0 _ | apply F1))) sz3 (by rfl) (by first | exact Nat.le_of_ble_eq_true rfl | (simp; done) | (simp; omega)) rfl (Wt.none rfl) ?_
              refine RunL.nilD' ?_
              refine RunD.nilB (by kernel_rfl) (fun w sw => backg1 _ _ (backg2 _ _ (backg3 _ _ (sw)))) ?_
              refine rg' (l1' rfl agg109 ?_)
              refine pp' (Pure.nilCheck rfl) (pp' (Pure.fieldAddr rfl fo156_1) (l1' rfl agg154 ?_))
              refine mv' rfl ?_
              first | refine RunL.lookup (k := q) rfl rfl (by first | ((repeat (first | (with_reducible exact F0 _) | apply F1)); done) | (repeat (first | exact F0 _ | apply F1))) und154 zz158 (KeyT.string und9) (Wt.none rfl) rfl ?_ | refine RunL.lookupR (k := q) rfl rfl (by assumption) und154 zz158 (KeyT.string und9) (Wt.none rfl) rfl ?_
              rw [hm]
              refine RunL.rowsPeel (s := (XL.nq s xs.evs (ps.take i)).rows) (t := (XL.nq t xs.evs (ps.take i)).rows) (x := (b, cNde (⟨x.1.evn x.2.2, depthOf xs.evs x.1.id, isPar xs.evs x.1.id || memB x.1.id (ps.take i)⟩ : Nde))) _ (by first | ((repeat (first | (with_reducible exact F0 _) | apply F1)); done) | (repeat (first | exact F0 _ | apply F1))) (by rw [hxs, ← hbx]; exact nq_rows) ?_
              refine pp' (Pure.nilCheck rfl) (pp' (Pure.fieldAddr rfl fo160_2) ?_)
              refine RunL.store1 rfl rfl (by first | ((repeat (first | (with_reducible exact F0 _) | apply F1)); done) | (repeat (first | exact F0 _ | apply F1))) sz4 (by rfl) (Nat.le_of_ble_eq_true rfl) (Wt.none rfl) ?_
              try simp only [List.set_cons_zero, List.set_cons_succ]
              refine nl' (ib' ?_)
              refine Run.asRow (cNde (⟨x.1.evn x.2.2, depthOf xs.evs x.1.id, true⟩ : Nde)) (by first | ((repeat (first | (with_reducible exact F0 _) | apply F1)); done) | (repeat (first | exact F0 _ | apply F1))) rfl ?_
              refine Run.rowsBack (xs.nq xs.evs (ps.take i ++ [x.1.id])).rows (by repeat (first | (with_reducible exact Take.nil _) | (apply Take.cons (by first | ((repeat (first | (with_reducible exact F0 _) | apply F1)); done) | (repeat (first | exact F0 _ | apply F1)))))) (by rw [hxs, ← hbx]; exact (nq_flag (by rw [← hxs]; exact hgd.nodup)).symm) ?_
              refine rg' ?_
              first | refine RunL.pure (Pure.addI rfl rfl (by omega)) (Wt.none rfl) rfl rfl ?_ | refine RunL.pure (Pure.add rfl rfl) (Wt.none rfl) rfl rfl ?_
              refine mv' rfl (nl' ?_)
              subst hid
              rw [← addDepth_take hx, show ps.take i ++ [x.1.id] = ps.take (i + 1) from by rw [List.take_add_one, hx]; rfl]
              refine kp' [2, 3, 6, 63, 64, 65] ?_
              exact ag' F ih (by exact ⟨i + 1, by omega, rfl, rfl, rfl⟩)
            · try simp only [Z] at hi1
              obtain rfl : i = ps.length := by omega
              rw [List.take_length]
              refine ex' rfl (sq' ?_)
              refine Run.regionD' (by kernel_rfl) (by kernel_rfl) (fun hok247 => ?_)
              refine ld' (row p 156 [.string room, .map (some r)]) Lends.row ?_; intro g1 hleg1 hr1 backg1
              have hp_g1 := hp.mono hleg1
              have hrb3_g1 := hrb3.mono hleg1
              have hb2_g1 := hb2.mono hleg1
              refine dl' 0 hok247 rfl rfl agg109 ?_
              refine dp' 1 hok247 rfl (Pure.nilCheck rfl) (dp' 2 hok247 rfl (Pure.fieldAddr rfl fo156_1) (dl' 3 hok247 rfl rfl agg154 ?_))
              refine dp' 4 hok247 rfl (Pure.fieldAddr rfl fo49_0) (dl' 5 hok247 rfl rfl agg9 ?_)
              refine dp' 6 hok247 rfl (Pure.move rfl) ?_
              refine RunD.one (i := 7) (by kernel_rfl) rfl ?_
              refine RunL.mapUpdate (k := e.id) (v := b61) (ev := eN) rfl rfl rfl (by first | ((repeat (first | (with_reducible exact F0 _) | apply F1)); done) | (repeat (first | exact F0 _ | apply F1))) und154 (KeyT.string und9) (Wt.none rfl) ?_
              refine RunL.nilD' ?_
              refine RunD.nilB (by kernel_rfl) (fun w sw => backg1 _ _ (sw)) ?_
              refine sr' (as' rfl (nl' ?_))
              have hrc : addRc room xs.evs (e.ev ps) = 0 := (addRc_thr hok hroom hhas hpar).trans hthr
              have hnl := nl_snoc (b := b61) (s := ⟨a1, ps.length, c1⟩) hgd hrc
              have hrw : (XL.nl (xs ++ [((e.ev ps), b61, (⟨a1, ps.length, c1⟩ : Sli))])).rows = (xs.nq xs.evs ps).rows ++ [(b61, cNde (⟨({ e with par := ⟨a1, ps.length, c1⟩ } : Evn), addDepth (depthOf xs.evs) ps, false⟩ : Nde))] := by rw [hnl]; unfold NL.rows; rw [List.map_append]; rfl
              have hiw : (XL.nl (xs ++ [((e.ev ps), b61, (⟨a1, ps.length, c1⟩ : Sli))])).ids = xs.idb ++ [(e.id, b61)] := by rw [XL.nl, nq_ids]; unfold XL.idb; rw [List.map_append]; rfl
              rw [mput_idb (show xs.evs.has e.id = false from hhas)]
              refine Run.rowsSnoc (b := b61) (T := 160) _ (by repeat (first | (with_reducible exact Take.nil _) | (apply Take.cons (by first | ((repeat (first | (with_reducible exact F0 _) | apply F1)); done) | (repeat (first | exact F0 _ | apply F1)))))) ?_
              refine Run.poolSl (by repeat (first | (with_reducible exact Take.nil _) | (apply Take.cons (by first | ((repeat (first | (with_reducible exact F0 _) | apply F1)); done) | (repeat (first | exact F0 _ | apply F1)))))) ?_; intro K' hle hsl
              refine Run.mkDag (r := r) (room := room) (p := p) (XL.nl (xs ++ [((e.ev ps), b61, (⟨a1, ps.length, c1⟩ : Sli))])) (by rw [hrw, hiw]; exact (by repeat (first | (with_reducible exact Take.nil _) | (apply Take.cons (by first | ((repeat (first | (with_reducible exact F0 _) | apply F1)); done) | (repeat (first | exact F0 _ | apply F1))))))) ?_
              refine Run.mkDg K' (xs ++ [((e.ev ps), b61, (⟨a1, ps.length, c1⟩ : Sli))]) (by simp [XL.evs]) (hgd.snoc hrc) (fun y hy => by
                rcases List.mem_append.1 hy with hy | hy
                · exact (hxk y hy).hp hle
                · obtain rfl := List.mem_singleton.1 hy; exact ⟨rfl, hsl⟩) (by repeat (first | (with_reducible exact Take.nil _) | (apply Take.cons (by first | ((repeat (first | (with_reducible exact F0 _) | apply F1)); done) | (repeat (first | exact F0 _ | apply F1)))))) ?_
              exact rt' Tryz.func55 (res1 rfl rfl) (by exact ⟨by rw [hrc], by rw [addL_ok hrc]⟩)
          · skip
            refine Run.cond rfl (fun c4 => ?_) (fun c4 => ?_)
            · try simp only [Z] at c4
              have ht' : (e.ev ps).thread ≠ .empty := fun q => c4 (by rw [show e.thread = .empty from q]; rfl)
              refine sq' ?_
              refine Run.regionD' (by kernel_rfl) (by kernel_rfl) (fun hok284 => ?_)
              refine dl' 0 hok284 rfl rfl agg109 ?_
              refine dp' 1 hok284 rfl (Pure.nilCheck rfl) (dp' 2 hok284 rfl (Pure.fieldAddr rfl fo156_1) (dl' 3 hok284 rfl rfl agg154 ?_))
              refine dp' 4 hok284 rfl (Pure.fieldAddr rfl fo49_3) (dl' 5 hok284 rfl rfl agg9 ?_)
              refine RunD.lookupR (k := e.thread) (i := 6) hok284 rfl (by kernel_rfl) rfl rfl (by assumption) und154 zz158 (KeyT.string und9) (Wt.none rfl) rfl ?_
              cases hm : mget e.thread xs.nl.ids with
| none => ?_
| some b => ?_
              · skip
                refine dp' 7 hok284 rfl (Pure.assign rfl) ?_
                refine RunD.nilR (by kernel_rfl) ?_
                refine sq' (sr' (mv' rfl (pp' (Pure.ptrEqNil0 rfl rfl und158) (nl' (cT' (sr' (as' rfl (nl' ?_))))))))
                have hrc : addRc room xs.evs (e.ev ps) = 4 := (addRc_thr hok hroom hhas hpar).trans (thr_none ht' (get_nil.2 (idb_none.1 (by rw [← hm]; exact congrArg _ (nq_ids _ _ _).symm))))
                refine Run.backB backgd ?_
                refine Run.mkDg K xs rfl hgd hxk (by repeat (first | (with_reducible exact Take.nil _) | (apply Take.cons (by first | ((repeat (first | (with_reducible exact F0 _) | apply F1)); done) | (repeat (first | exact F0 _ | apply F1)))))) ?_
                exact rt' Tryz.func55 (res1 rfl rfl) (by exact ⟨by rw [hrc], by rw [addL_no (by rw [hrc]; decide)]⟩)
              · skip
                rw [show xs.nl.ids = xs.idb from nq_ids _ _ _] at hm
                obtain ⟨s, x, t, hxs, hid, hbx, hget⟩ := idb_some (show mget e.thread xs.idb = some b from hm)
                have hxm : x ∈ xs := by rw [hxs]; simp
                have hro2 : Ro gd b 160 [.string x.1.id, .string x.1.room, .slice x.2.2.a x.2.2.n x.2.2.c, .string x.1.thread, .string x.1.user, .int .i64 x.1.does, .int .i64 (depthOf xs.evs x.1.id), .bool (isPar xs.evs x.1.id || memB x.1.id [])] := by rw [← hbx]; exact nq_row hrr hxm
                refine dp' 7 hok284 rfl (Pure.assign rfl) ?_
                refine RunD.nilR (by kernel_rfl) ?_
                refine sq' (sr' (mv' rfl (pp' (Pure.ptrEqNil rfl rfl und158) (nl' (cF' (sk' (sr' (mv' rfl (pp' (Pure.nilCheck rfl) (pp' (Pure.fieldAddr rfl fo160_0) (pp' (Pure.fieldAddr rfl fo49_3) ?_)))))))))))
                refine RunL.load1R rfl hro2 (by rfl) agg9 (Wt.none rfl) rfl ?_
                refine pp' (Pure.sneq rfl rfl) (mv' rfl ?_)
                refine RunL.split (d := 50) rfl (fun c5 => ?_) (fun c5 => ?_)
                · try simp only [Z] at c5
                  refine no' (no' (no' (no' (no' (no' (pp' (Pure.pickT rfl rfl) (nl' (cT' (sr' (as' rfl (nl' ?_)))))))))))
                  have hrc : addRc room xs.evs (e.ev ps) = 7 := (addRc_thr hok hroom hhas hpar).trans (thr_bad ht' (r := x.1) hget (Or.inl (fun q => c5 (by rw [show x.1.thread = .empty from q]; rfl))))
                  refine Run.backB backgd ?_
                  refine Run.mkDg K xs rfl hgd hxk (by repeat (first | (with_reducible exact Take.nil _) | (apply Take.cons (by first | ((repeat (first | (with_reducible exact F0 _) | apply F1)); done) | (repeat (first | exact F0 _ | apply F1)))))) ?_
                  exact rt' Tryz.func55 (res1 rfl rfl) (by exact ⟨by rw [hrc], by rw [addL_no (by rw [hrc]; decide)]⟩)
                · try simp only [Z] at c5
                  refine py' (Pure.move rfl) (py' (Pure.nilCheck rfl) (py' (Pure.fieldAddr rfl fo160_0) (py' (Pure.fieldAddr rfl fo49_5) ?_)))
                  refine RunL.load1R rfl hro2 (by rfl) agg3 (Wt.yes rfl rfl rfl) rfl ?_
                  refine py' (Pure.neq rfl rfl) (pp' (Pure.pickF rfl rfl) (nl' ?_))
                  refine Run.cond rfl (fun c6 => ?_) (fun c6 => ?_)
                  · try simp only [Z] at c6
                    refine sr' (as' rfl (nl' ?_))
                    have hrc : addRc room xs.evs (e.ev ps) = 7 := (addRc_thr hok hroom hhas hpar).trans (thr_bad ht' (r := x.1) hget (Or.inr c6))
                    refine Run.backB backgd ?_
                    refine Run.mkDg K xs rfl hgd hxk (by repeat (first | (with_reducible exact Take.nil _) | (apply Take.cons (by first | ((repeat (first | (with_reducible exact F0 _) | apply F1)); done) | (repeat (first | exact F0 _ | apply F1)))))) ?_
                    exact rt' Tryz.func55 (res1 rfl rfl) (by exact ⟨by rw [hrc], by rw [addL_no (by rw [hrc]; decide)]⟩)
                  · try simp only [Z] at c6
                    refine sk' ?_
                    refine kp' [2, 3, 4] ?_
                    exact me' F hk (by exact ⟨thrRc_zero.2 (Or.inr ⟨x.1, hget, bl_inj c5, c6⟩), rfl, rfl⟩)
            · try simp only [Z] at c4
              refine sk' ?_
              refine kp' [2, 3, 4] ?_
              exact me' F hk (by exact ⟨thrRc_zero.2 (Or.inl (bl_inj c4)), rfl, rfl⟩)

end Go.Proofs.YtaaondbmkibkkaaGreat
