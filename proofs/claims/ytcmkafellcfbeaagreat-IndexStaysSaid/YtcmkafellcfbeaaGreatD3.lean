/- What is added. -/
import Derived.Test.YtcmkafellcfbeaaGreatD2
set_option linter.unusedVariables false
set_option linter.unusedSimpArgs false
set_option linter.unusedSectionVars false
namespace Go.Proofs.YtcmkafellcfbeaaGreat
open Go Csl
theorem fo85_0 : fieldOff Tryz.prog 85 0 = some 0 := by kernel_rfl
theorem pl91 : placesOf Tryz.prog 91 = some ([(0, 6), (6, 1), (7, 1)], (.agg #[(.string .empty), (.string .empty), (.slice none 0 0), (.string .empty), (.string .empty), (.int .i64 0), (.int .i64 0), (.bool false)])) := by kernel_rfl
theorem fo91_2 : fieldOff Tryz.prog 91 2 = some 7 := by kernel_rfl
theorem sz4 : sizeIs Tryz.prog 4 = some 1 := by kernel_rfl
theorem fo91_0 : fieldOff Tryz.prog 91 0 = some 0 := by kernel_rfl
theorem cb28 : Callable Tryz.prog 28 := ⟨_, Tryz.func28, by kernel_rfl, by kernel_rfl⟩
theorem und106 : Tryz.prog.underlying 106 = some (Go.TypeDesc.slice 54) := Tryz.underlying106
theorem by54 : bytesIs Tryz.prog 54 = some 24 := by kernel_rfl
theorem by33 : bytesIs Tryz.prog 33 = some 96 := by kernel_rfl

theorem HasD_ctr {G : Gp} {p : Nat} {room : ByteArray} {l : EL} (h : DgR G p room l) {id : ByteArray} : Ctr Tryz.prog G 36 [.pointer (some ⟨p, 0, none⟩), .string id] [] (fun F v A => v = .bool (l.has id) ∧ A = F) := by
  obtain ⟨xs, hxl, hgd, hxk, hdr⟩ := h
  have h := Has_ctr (id := id) hdr
  rw [XL.nl, nq_ids, idb_has, hxl] at h
  exact h
theorem NewD_ctr {G : Gp} {room : ByteArray} : Ctr Tryz.prog G 19 [.string room] [] (fun F v A => ∃ p, v = .pointer (some ⟨p, 0, none⟩) ∧ A = Dg p room [] :: F) := (New_ctr (room := room)).postSt (by
  rintro F v A w ⟨p, rfl, rfl⟩ s
  exact ⟨_, ⟨p, rfl, rfl⟩, St.mkEx (x := (Hp.empty, [])) ⟨rfl, Good.nil _, fun x hx => by cases hx⟩ (s.poolNew.perm (.swap _ _ _))⟩)
set_option maxHeartbeats 4000000 in
set_option maxRecDepth 100000 in
theorem Add_ctr {G : Gp} {p : Nat} {room : ByteArray} {l : EL} {e : Evn} {ps : List ByteArray} (hp : HasPs G e ps) (hw : evWf (e.ev ps)) (hl : l.length ≤ 1000000) :
    Ctr Tryz.prog G 21 [.pointer (some ⟨p, 0, none⟩), .agg (cEvn e).toArray] [Dg p room l] (fun F v A => v = .int .i64 (addRc room l (e.ev ps)) ∧ A = Dg p room (addL room l (e.ev ps)) :: F) := by
  refine Ctr.intro Tryz.func21 rfl (by kernel_rfl) rfl (fun F => ?_)
  simp only [List.cons_append, List.nil_append]
  refine Run.openDg (by first | ((repeat (first | (with_reducible exact F0 _) | apply F1)); done) | (repeat (first | exact F0 _ | apply F1))) ?_; intro K xs hxl hgd hxk; subst hxl
  have hpl : ps.length ≤ 1000 := hw.2.2
  have hn : e.par.n = ps.length := hp.1
  have hni : notIn xs.nl = fun x => !xs.evs.has x := by funext x; unfold notIn; rw [XL.nl, nq_ids, idb_has]
  refine Run.sr ?_
  refine RunL.box rfl (Wt.none rfl) rfl ?_; intro b2
  refine RunL.boxA (xs := (cEvn e)) rfl (Wt.none rfl) rfl ?_; intro b3
  refine RunL.as rfl rfl ?_
  refine RunL.nil ?_
  refine Run.lendAll (Q := row b3 33 _) Lends.row (by first | ((repeat (first | (with_reducible exact F0 _) | apply F1)); done) | (repeat (first | exact F0 _ | apply F1))) (fun G3 hleG3 hrb3 => ?_)
  replace hp := hp.mono hleG3
  refine Run.lendAll (Q := row b2 23 _) Lends.row (by first | ((repeat (first | (with_reducible exact F0 _) | apply F1)); done) | (repeat (first | exact F0 _ | apply F1))) (fun Ghb2 hleGhb2 hb2 => ?_)
  replace hp := hp.mono hleGhb2
  replace hrb3 := hrb3.mono hleGhb2
  refine Run.lendB (Q := DagA p room xs.nl) Lends.DagA (by first | ((repeat (first | (with_reducible exact F0 _) | apply F1)); done) | (repeat (first | exact F0 _ | apply F1))) (fun gd hlegd hd backgd => ?_)
  have hp_gd := hp.mono hlegd
  have hrb3_gd := hrb3.mono hlegd
  have hb2_gd := hb2.mono hlegd
  obtain ⟨r, hr, hmr, hrr⟩ := id hd
  refine Run.seq ?_
  refine Run.block ?_
  refine Run.seq ?_
  refine Run.regionD' (by kernel_rfl) (by kernel_rfl) (fun hok18 => ?_)
  refine RunD.loadNR (vs := (cEvn e)) (i := 0) hok18 rfl (by kernel_rfl) rfl (by assumption) agg33 sz33 (by first | exact Nat.le_of_ble_eq_true rfl | (simp; done) | (simp; omega)) rfl (Wt.none rfl) rfl ?_
  refine RunD.one (i := 1) (by kernel_rfl) rfl ?_
  refine RunL.call rfl rfl (by rfl) (by repeat (first | (with_reducible exact Take.nil _) | (apply Take.cons (by first | ((repeat (first | (with_reducible exact F0 _) | apply F1)); done) | (repeat (first | exact F0 _ | apply F1)))))) (dMay_ctr hp_gd (by omega) hw.1 hw.2.1) (Wt.none rfl) rfl ?_
  rintro _ _ ⟨rfl, hA_⟩
  replace hA_ := hA_.symm; subst hA_
  refine RunL.nilD' ?_
  refine RunD.pure (i := 2) hok18 rfl (by kernel_rfl) (Pure.not rfl) (Wt.none rfl) rfl rfl ?_
  refine RunD.pure (i := 3) hok18 rfl (by kernel_rfl) (Pure.move rfl) (Wt.none rfl) rfl rfl ?_
  refine RunD.split (d := 13) rfl (fun c0 => ?_) (fun c0 => ?_)
  · try simp only [ZA, ZB, ZC, ZD, ZE, ZF, ZG, ZH, ZI, ZJ, ZK, ZL, ZM, ZN, ZO, ZP, ZQ, ZR] at c0
    refine RunD.not (i := 4) hok18 rfl (by kernel_rfl) rfl rfl (Wt.no rfl rfl rfl) ?_
    refine RunD.not (i := 5) hok18 rfl (by kernel_rfl) rfl rfl (Wt.no rfl rfl rfl) ?_
    refine RunD.not (i := 6) hok18 rfl (by kernel_rfl) rfl rfl (Wt.no rfl rfl rfl) ?_
    refine RunD.not (i := 7) hok18 rfl (by kernel_rfl) rfl rfl (Wt.no rfl rfl rfl) ?_
    refine RunD.not (i := 8) hok18 rfl (by kernel_rfl) rfl rfl (Wt.no rfl rfl rfl) ?_
    refine RunD.not (i := 9) hok18 rfl (by kernel_rfl) rfl rfl (Wt.no rfl rfl rfl) ?_
    refine RunD.not (i := 10) hok18 rfl (by kernel_rfl) rfl rfl (Wt.no rfl rfl rfl) ?_
    refine RunD.pure (i := 11) hok18 rfl (by kernel_rfl) (Pure.pickT rfl rfl) (Wt.none rfl) rfl rfl ?_
    refine RunD.pure (i := 12) hok18 rfl (by kernel_rfl) (Pure.assign rfl) (Wt.none rfl) rfl rfl ?_
    refine RunD.nilR (by kernel_rfl) ?_
    refine Run.condT rfl ?_
    refine Run.sr ?_
    refine RunL.as rfl rfl ?_
    refine RunL.nil ?_
    have hrc : addRc room xs.evs (e.ev ps) = 1 := addRc_1 (.inl c0)
    refine Run.backB backgd ?_
    refine Run.mkDg K xs rfl hgd hxk (by repeat (first | (with_reducible exact Take.nil _) | (apply Take.cons (by first | ((repeat (first | (with_reducible exact F0 _) | apply F1)); done) | (repeat (first | exact F0 _ | apply F1)))))) ?_
    exact Run.ret Tryz.func21 (res1 rfl rfl) (by exact ⟨by rw [hrc], by rw [addL_no (by rw [hrc]; decide)]⟩) (by repeat (first | (with_reducible exact Fin.done (by repeat (first | (with_reducible exact Rest.here) | apply Rest.there))) | (apply Fin.cons (by first | ((repeat (first | (with_reducible exact F0 _) | apply F1)); done) | (repeat (first | exact F0 _ | apply F1))))))
  · try simp only [ZA, ZB, ZC, ZD, ZE, ZF, ZG, ZH, ZI, ZJ, ZK, ZL, ZM, ZN, ZO, ZP, ZQ, ZR] at c0
    refine RunD.pure (i := 4) hok18 rfl (by kernel_rfl) (Pure.fieldAddr rfl fo33_1) (Wt.yes rfl rfl rfl) rfl rfl ?_
    refine RunD.load1R (i := 5) hok18 rfl (by kernel_rfl) rfl (by assumption) (by rfl) agg9 (Wt.yes rfl rfl rfl) rfl ?_
    refine RunD.load1R (i := 6) hok18 rfl (by kernel_rfl) rfl (by assumption) (by rfl) agg23 (Wt.yes rfl rfl rfl) rfl ?_
    refine RunD.pure (i := 7) hok18 rfl (by kernel_rfl) (Pure.nilCheck rfl) (Wt.yes rfl rfl rfl) rfl rfl ?_
    refine RunD.pure (i := 8) hok18 rfl (by kernel_rfl) (Pure.fieldAddr rfl fo85_0) (Wt.yes rfl rfl rfl) rfl rfl ?_
    refine RunD.load1R (i := 9) hok18 rfl (by kernel_rfl) rfl (by assumption) (by rfl) agg9 (Wt.yes rfl rfl rfl) rfl ?_
    refine RunD.pure (i := 10) hok18 rfl (by kernel_rfl) (Pure.sneq rfl rfl) (Wt.yes rfl rfl rfl) rfl rfl ?_
    refine RunD.pure (i := 11) hok18 rfl (by kernel_rfl) (Pure.pickF rfl rfl) (Wt.none rfl) rfl rfl ?_
    refine RunD.pure (i := 12) hok18 rfl (by kernel_rfl) (Pure.assign rfl) (Wt.none rfl) rfl rfl ?_
    refine RunD.nilR (by kernel_rfl) ?_
    refine Run.cond rfl (fun c1 => ?_) (fun c1 => ?_)
    · try simp only [ZA, ZB, ZC, ZD, ZE, ZF, ZG, ZH, ZI, ZJ, ZK, ZL, ZM, ZN, ZO, ZP, ZQ, ZR] at c1
      refine Run.sr ?_
      refine RunL.as rfl rfl ?_
      refine RunL.nil ?_
      have hrc : addRc room xs.evs (e.ev ps) = 1 := addRc_1 (.inr fun q => c1 (by rw [show e.room = room from q]))
      refine Run.backB backgd ?_
      refine Run.mkDg K xs rfl hgd hxk (by repeat (first | (with_reducible exact Take.nil _) | (apply Take.cons (by first | ((repeat (first | (with_reducible exact F0 _) | apply F1)); done) | (repeat (first | exact F0 _ | apply F1)))))) ?_
      exact Run.ret Tryz.func21 (res1 rfl rfl) (by exact ⟨by rw [hrc], by rw [addL_no (by rw [hrc]; decide)]⟩) (by repeat (first | (with_reducible exact Fin.done (by repeat (first | (with_reducible exact Rest.here) | apply Rest.there))) | (apply Fin.cons (by first | ((repeat (first | (with_reducible exact F0 _) | apply F1)); done) | (repeat (first | exact F0 _ | apply F1))))))
    · try simp only [ZA, ZB, ZC, ZD, ZE, ZF, ZG, ZH, ZI, ZJ, ZK, ZL, ZM, ZN, ZO, ZP, ZQ, ZR] at c1
      have hok : evOk (e.ev ps) = true := c0
      have hroom : (e.ev ps).room = room := bl_inj c1
      refine Run.sr ?_
      first | refine RunL.load1 rfl (by first | ((repeat (first | (with_reducible exact F0 _) | apply F1)); done) | (repeat (first | exact F0 _ | apply F1))) (by rfl) agg23 (Wt.none rfl) rfl ?_ | refine RunL.load1R rfl (by assumption) (by rfl) agg23 (Wt.none rfl) rfl ?_
      refine RunL.pure (Pure.fieldAddr rfl fo33_0) (Wt.none rfl) rfl rfl ?_
      first | refine RunL.load1 rfl (by first | ((repeat (first | (with_reducible exact F0 _) | apply F1)); done) | (repeat (first | exact F0 _ | apply F1))) (by rfl) agg9 (Wt.none rfl) rfl ?_ | refine RunL.load1R rfl (by assumption) (by rfl) agg9 (Wt.none rfl) rfl ?_
      refine RunL.call rfl rfl (by rfl) (by repeat (first | (with_reducible exact Take.nil _) | (apply Take.cons (by first | ((repeat (first | (with_reducible exact F0 _) | apply F1)); done) | (repeat (first | exact F0 _ | apply F1)))))) (Has_ctr hd) (Wt.none rfl) rfl ?_
      rintro _ _ ⟨rfl, hA_⟩
      replace hA_ := hA_.symm; subst hA_
      rw [show xs.nl.ids = xs.idb from nq_ids _ _ _, idb_has]
      refine RunL.as rfl rfl ?_
      refine RunL.nil ?_
      refine Run.cond rfl (fun c2 => ?_) (fun c2 => ?_)
      · try simp only [ZA, ZB, ZC, ZD, ZE, ZF, ZG, ZH, ZI, ZJ, ZK, ZL, ZM, ZN, ZO, ZP, ZQ, ZR] at c2
        refine Run.sr ?_
        refine RunL.as rfl rfl ?_
        refine RunL.nil ?_
        have hrc : addRc room xs.evs (e.ev ps) = 9 := addRc_9 hok hroom c2
        refine Run.backB backgd ?_
        refine Run.mkDg K xs rfl hgd hxk (by repeat (first | (with_reducible exact Take.nil _) | (apply Take.cons (by first | ((repeat (first | (with_reducible exact F0 _) | apply F1)); done) | (repeat (first | exact F0 _ | apply F1)))))) ?_
        exact Run.ret Tryz.func21 (res1 rfl rfl) (by exact ⟨by rw [hrc], by rw [addL_no (by rw [hrc]; decide)]⟩) (by repeat (first | (with_reducible exact Fin.done (by repeat (first | (with_reducible exact Rest.here) | apply Rest.there))) | (apply Fin.cons (by first | ((repeat (first | (with_reducible exact F0 _) | apply F1)); done) | (repeat (first | exact F0 _ | apply F1))))))
      · try simp only [ZA, ZB, ZC, ZD, ZE, ZF, ZG, ZH, ZI, ZJ, ZK, ZL, ZM, ZN, ZO, ZP, ZQ, ZR] at c2
        have hhas : EL.has xs.evs (e.ev ps).id = false := c2
        refine Run.sr ?_
        refine RunL.pure (Pure.fieldAddr rfl fo33_2) (Wt.none rfl) rfl rfl ?_
        first | refine RunL.load1 rfl (by first | ((repeat (first | (with_reducible exact F0 _) | apply F1)); done) | (repeat (first | exact F0 _ | apply F1))) (by rfl) agg31 (Wt.none rfl) rfl ?_ | refine RunL.load1R rfl (by assumption) (by rfl) agg31 (Wt.none rfl) rfl ?_
        refine RunL.pure (Pure.makeFunc rfl rfl) (Wt.none rfl) rfl rfl ?_
        rw [hn]
        refine RunL.call rfl rfl (by rfl) (by repeat (first | (with_reducible exact Take.nil _) | (apply Take.cons (by first | ((repeat (first | (with_reducible exact F0 _) | apply F1)); done) | (repeat (first | exact F0 _ | apply F1)))))) (ContainsT_ctr (xs := ps) hd hb2_gd hp_gd.2 (by omega)) (Wt.none rfl) rfl ?_
        rintro _ _ ⟨rfl, hA_⟩
        replace hA_ := hA_.symm; subst hA_
        rw [hni]
        refine RunL.as rfl rfl ?_
        refine RunL.nil ?_
        refine Run.cond rfl (fun c3 => ?_) (fun c3 => ?_)
        · try simp only [ZA, ZB, ZC, ZD, ZE, ZF, ZG, ZH, ZI, ZJ, ZK, ZL, ZM, ZN, ZO, ZP, ZQ, ZR] at c3
          refine Run.sr ?_
          refine RunL.as rfl rfl ?_
          refine RunL.nil ?_
          have hrc : addRc room xs.evs (e.ev ps) = 4 := addRc_4 hok hroom hhas c3
          refine Run.backB backgd ?_
          refine Run.mkDg K xs rfl hgd hxk (by repeat (first | (with_reducible exact Take.nil _) | (apply Take.cons (by first | ((repeat (first | (with_reducible exact F0 _) | apply F1)); done) | (repeat (first | exact F0 _ | apply F1)))))) ?_
          exact Run.ret Tryz.func21 (res1 rfl rfl) (by exact ⟨by rw [hrc], by rw [addL_no (by rw [hrc]; decide)]⟩) (by repeat (first | (with_reducible exact Fin.done (by repeat (first | (with_reducible exact Rest.here) | apply Rest.there))) | (apply Fin.cons (by first | ((repeat (first | (with_reducible exact F0 _) | apply F1)); done) | (repeat (first | exact F0 _ | apply F1))))))
        · try simp only [ZA, ZB, ZC, ZD, ZE, ZF, ZG, ZH, ZI, ZJ, ZK, ZL, ZM, ZN, ZO, ZP, ZQ, ZR] at c3
          have hpar : (e.ev ps).ps.any (fun p => !EL.has xs.evs p) = false := c3
          have hall : ∀ p ∈ ps, EL.has xs.evs p = true := fun p hp' => by have := List.any_eq_false.1 hpar p hp'; simpa using this
          refine Run.skip ?_
          refine Run.inBlock ?_
          refine Run.seq ?_
          refine Run.sr ?_
          refine RunL.pure (Pure.fieldAddr rfl fo33_3) (Wt.none rfl) rfl rfl ?_
          first | refine RunL.load1 rfl (by first | ((repeat (first | (with_reducible exact F0 _) | apply F1)); done) | (repeat (first | exact F0 _ | apply F1))) (by rfl) agg9 (Wt.none rfl) rfl ?_ | refine RunL.load1R rfl (by assumption) (by rfl) agg9 (Wt.none rfl) rfl ?_
          refine RunL.pure (Pure.sneq rfl rfl) (Wt.none rfl) rfl rfl ?_
          refine RunL.nil ?_
          refine Run.cut (fun e_ A => thrRc xs.evs (e.ev ps) = 0 ∧ e_ = [(2, .pointer (some ⟨b2, 0, none⟩)), (3, .pointer (some ⟨b3, 0, none⟩)), (4, .int .i64 0)] ∧ A = Pool K :: F) (fun e A hM => ?_) (fun hk => ?_)
          · obtain ⟨hthr, rfl, hA_⟩ := hM
            replace hA_ := hA_.symm; subst hA_
            refine Run.backB backgd ?_
            skip
            refine Run.sr ?_
            first | refine RunL.loadA (vs := (cEvn e)) rfl (by first | ((repeat (first | (with_reducible exact F0 _) | apply F1)); done) | (repeat (first | exact F0 _ | apply F1))) agg33 sz33 (by first | exact Nat.le_of_ble_eq_true rfl | (simp; done) | (simp; omega)) rfl (Wt.none rfl) rfl ?_ | refine RunL.loadNR (vs := (cEvn e)) rfl (by assumption) agg33 sz33 (by first | exact Nat.le_of_ble_eq_true rfl | (simp; done) | (simp; omega)) rfl (Wt.none rfl) rfl ?_
            refine RunL.call rfl rfl (by rfl) (by repeat (first | (with_reducible exact Take.nil _) | (apply Take.cons (by first | ((repeat (first | (with_reducible exact F0 _) | apply F1)); done) | (repeat (first | exact F0 _ | apply F1)))))) (own_ctr (e := e) (ps := ps) hp (by omega)) (Wt.none rfl) rfl ?_
            rintro _ _ ⟨a1, c1, rfl, hA_⟩
            replace hA_ := hA_.symm; subst hA_
            refine RunL.pure (Pure.buildL (ps := [(0, _)]) (zs := [(.string .empty), (.string .empty), (.slice none 0 0), (.string .empty), (.string .empty), (.int .i64 0), (.int .i64 0), (.bool false)]) (xs := (cNde ((⟨({ e with par := ⟨a1, ps.length, c1⟩ } : Evn), 0, false⟩ : Nde)))) pl91 rfl rfl rfl rfl) (Wt.none rfl) rfl rfl ?_
            refine RunL.boxA (xs := (cNde ((⟨({ e with par := ⟨a1, ps.length, c1⟩ } : Evn), 0, false⟩ : Nde)))) rfl (Wt.none rfl) rfl ?_; intro b61
            refine RunL.as rfl rfl ?_
            refine RunL.nil ?_
            refine Run.seq ?_
            refine Run.sr ?_
            refine RunL.pure (Pure.fieldAddr rfl fo33_2) (Wt.none rfl) rfl rfl ?_
            first | refine RunL.load1 rfl (by first | ((repeat (first | (with_reducible exact F0 _) | apply F1)); done) | (repeat (first | exact F0 _ | apply F1))) (by rfl) agg31 (Wt.none rfl) rfl ?_ | refine RunL.load1R rfl (by assumption) (by rfl) agg31 (Wt.none rfl) rfl ?_
            refine RunL.pure (Pure.lenSl rfl rfl und31) (Wt.none rfl) rfl rfl ?_
            refine RunL.mv rfl rfl ?_
            refine RunL.nil ?_
            refine Run.openDag (by first | ((repeat (first | (with_reducible exact F0 _) | apply F1)); done) | (repeat (first | exact F0 _ | apply F1))) ?_; intro r; rw [show xs.nl.ids = xs.idb from nq_ids _ _ _]
            refine Run.block ?_
            refine Run.keep (.cons rfl (.cons rfl (.cons rfl (.cons rfl (.cons rfl (.cons rfl (.nil)))))) : Keep _ [2, 3, 6, 63, 64, 65] _) ?_
            refine Run.loopF (F := F) (fun n e_ A => ∃ (i : Nat), i ≤ ps.length ∧ n = ps.length - i ∧ e_ = [(2, .pointer (some ⟨b2, 0, none⟩)), (3, .pointer (some ⟨b3, 0, none⟩)), (6, .pointer (some ⟨b61, 0, none⟩)), (63, .slice e.par.a e.par.n e.par.c), (64, .int .i64 (e.par.n : Nat)), (65, .int .i64 (i : Nat))] ∧ A = row b61 91 (cNde (⟨({ e with par := ⟨a1, ps.length, c1⟩ } : Evn), addDepth (depthOf xs.evs) (ps.take i), false⟩ : Nde)) :: row p 85 [.string room, .map (some r)] :: Mp r (menc eS eN xs.idb) :: Csl.Rows 91 (xs.nq xs.evs (ps.take i)).rows :: Sl 9 1 a1 ps.length c1 (ps.map Value.string) :: Pool K :: F) (ps.length) (by exact ⟨0, by omega, rfl, rfl, rfl⟩) (by repeat (first | (with_reducible exact Fin.done (by repeat (first | (with_reducible exact Rest.here) | apply Rest.there))) | (apply Fin.cons (by first | ((repeat (first | (with_reducible exact F0 _) | apply F1)); done) | (repeat (first | exact F0 _ | apply F1)))))) ?_
            rintro n _ _ ⟨i, hi, rfl, rfl, hA_⟩ ih
            replace hA_ := hA_.symm; subst hA_
            refine Run.sr ?_
            refine RunL.pure (Pure.lss rfl rfl) (Wt.none rfl) rfl rfl ?_
            refine RunL.nil ?_
            refine Run.seq ?_
            refine Run.cond rfl (fun hi1 => ?_) (fun hi1 => ?_)
            · try simp only [ZA, ZB, ZC, ZD, ZE, ZF, ZG, ZH, ZI, ZJ, ZK, ZL, ZM, ZN, ZO, ZP, ZQ, ZR] at hi1
              obtain ⟨q, hx⟩ := get_some (xs := ps) (i := i) (by omega)
              obtain ⟨bb, Tb, preb, postb, hpa, hro⟩ := hp.2.open1 (show 0 < ps.length by omega)
              have hqh := hall q (List.mem_of_getElem? hx)
              obtain ⟨b, hm⟩ : ∃ b, mget q xs.idb = some b := by
                rw [← idb_has] at hqh
                exact Option.isSome_iff_exists.1 hqh
              obtain ⟨s, x, t, hxs, hid, hbx, hget⟩ := idb_some (show mget q xs.idb = some b from hm)
              have hxm : x ∈ xs := by rw [hxs]; simp
              have hqd := depthOf_bounds xs.evs x.1.id
              have hlen : xs.evs.length ≤ 1000000 := hl
              refine Run.skip ?_
              refine Run.seq ?_
              refine Run.block ?_
              refine Run.sr ?_
              refine RunL.pure (Pure.indexAddr (opvSl rfl hpa) rfl und31 sz9 (by omega) (by omega)) (Wt.none rfl) rfl rfl ?_
              refine RunL.load1R rfl hro (elem1_at hx) agg9 (Wt.none rfl) rfl ?_
              refine RunL.as rfl rfl ?_
              refine RunL.nil ?_
              refine Run.seq ?_
              refine Run.regionD' (by kernel_rfl) (by kernel_rfl) (fun hok174 => ?_)
              refine RunD.lend (Q := row p 85 [.string room, .map (some r)]) Lends.row (by first | ((repeat (first | (with_reducible exact F0 _) | apply F1)); done) | (repeat (first | exact F0 _ | apply F1))) ?_; intro g1 hleg1 hr1 backg1
              have hp_g1 := hp.mono hleg1
              have hrb3_g1 := hrb3.mono hleg1
              have hb2_g1 := hb2.mono hleg1
              refine RunD.lend (Q := Mp r (menc eS eN xs.idb)) Lends.Mp (by first | ((repeat (first | (with_reducible exact F0 _) | apply F1)); done) | (repeat (first | exact F0 _ | apply F1))) ?_; intro g2 hleg2 hmr1 backg2
              try (replace hr1 := hr1.mono hleg2)
              have hp_g2 := hp_g1.mono hleg2
              have hrb3_g2 := hrb3_g1.mono hleg2
              have hb2_g2 := hb2_g1.mono hleg2
              refine RunD.lend (Q := Csl.Rows 91 (xs.nq xs.evs (ps.take i)).rows) Lends.Rows (by first | ((repeat (first | (with_reducible exact F0 _) | apply F1)); done) | (repeat (first | exact F0 _ | apply F1))) ?_; intro g3 hleg3 hrr1 backg3
              try (replace hr1 := hr1.mono hleg3)
              try (replace hmr1 := hmr1.mono hleg3)
              have hp_g3 := hp_g2.mono hleg3
              have hrb3_g3 := hrb3_g2.mono hleg3
              have hb2_g3 := hb2_g2.mono hleg3
              refine RunD.pure (i := 0) hok174 rfl (by kernel_rfl) (Pure.move rfl) (Wt.none rfl) rfl rfl ?_
              refine RunD.pure (i := 1) hok174 rfl (by kernel_rfl) (Pure.move rfl) (Wt.none rfl) rfl rfl ?_
              refine RunD.pure (i := 2) hok174 rfl (by kernel_rfl) (Pure.nilCheck rfl) (Wt.none rfl) rfl rfl ?_
              refine RunD.pure (i := 3) hok174 rfl (by kernel_rfl) (Pure.fieldAddr rfl fo91_1) (Wt.none rfl) rfl rfl ?_
              refine RunD.load1R (i := 5) hok174 rfl (by kernel_rfl) rfl (by assumption) (by rfl) agg23 (Wt.none rfl) rfl ?_
              refine RunD.pure (i := 6) hok174 rfl (by kernel_rfl) (Pure.nilCheck rfl) (Wt.none rfl) rfl rfl ?_
              refine RunD.pure (i := 7) hok174 rfl (by kernel_rfl) (Pure.fieldAddr rfl fo85_1) (Wt.none rfl) rfl rfl ?_
              refine RunD.load1R (i := 8) hok174 rfl (by kernel_rfl) rfl (by assumption) (by rfl) agg83 (Wt.none rfl) rfl ?_
              refine RunD.pure (i := 9) hok174 rfl (by kernel_rfl) (Pure.move rfl) (Wt.none rfl) rfl rfl ?_
              refine RunD.lookupR (k := q) (i := 10) hok174 rfl (by kernel_rfl) rfl rfl (by assumption) und83 zz89 (KeyT.string und9) (Wt.none rfl) rfl ?_
              rw [hm]
              have hro2 : Ro g3 b 91 [.string x.1.id, .string x.1.room, .slice x.2.2.a x.2.2.n x.2.2.c, .string x.1.thread, .string x.1.user, .int .i64 x.1.does, .int .i64 (depthOf xs.evs x.1.id), .bool (isPar xs.evs x.1.id || memB x.1.id (ps.take i))] := by rw [← hbx]; exact nq_row hrr1 hxm
              refine RunD.pure (i := 11) hok174 rfl (by kernel_rfl) (Pure.nilCheck rfl) (Wt.none rfl) rfl rfl ?_
              refine RunD.pure (i := 12) hok174 rfl (by kernel_rfl) (Pure.fieldAddr rfl fo91_1) (Wt.none rfl) rfl rfl ?_
              refine RunD.load1R (i := 13) hok174 rfl (by kernel_rfl) rfl hro2 (by rfl) agg3 (Wt.none rfl) rfl ?_
              first | refine RunD.pure (i := 14) hok174 rfl (by kernel_rfl) (Pure.addI rfl rfl (by omega)) (Wt.none rfl) rfl rfl ?_ | refine RunD.pure (i := 14) hok174 rfl (by kernel_rfl) (Pure.add rfl rfl) (Wt.none rfl) rfl rfl ?_
              refine RunD.one (i := 4) (by kernel_rfl) rfl ?_
              first | refine RunL.load1 rfl (by first | ((repeat (first | (with_reducible exact F0 _) | apply F1)); done) | (repeat (first | exact F0 _ | apply F1))) (by rfl) agg3 (Wt.none rfl) rfl ?_ | refine RunL.load1R rfl (by assumption) (by rfl) agg3 (Wt.none rfl) rfl ?_
              refine RunL.nilD' ?_
              refine RunD.pure (i := 15) hok174 rfl (by kernel_rfl) (Pure.max2 rfl rfl) (Wt.none rfl) rfl rfl ?_
              refine RunD.pure (i := 16) hok174 rfl (by kernel_rfl) (Pure.nilCheck rfl) (Wt.none rfl) rfl rfl ?_
              refine RunD.pure (i := 17) hok174 rfl (by kernel_rfl) (Pure.fieldAddr rfl fo91_1) (Wt.none rfl) rfl rfl ?_
              refine RunD.one (i := 18) (by kernel_rfl) rfl ?_
              refine RunL.store1A (cs' := (cNde ((⟨({ e with par := ⟨a1, ps.length, c1⟩ } : Evn), max (addDepth (depthOf xs.evs) (ps.take i)) (depthOf xs.evs x.1.id + 1), false⟩ : Nde)))) rfl rfl (by first | ((repeat (first | (with_reducible exact F0 _) | apply F1)); done) | (repeat (first | exact F0 _ | apply F1))) sz3 (by rfl) (by first | exact Nat.le_of_ble_eq_true rfl | (simp; done) | (simp; omega)) rfl (Wt.none rfl) ?_
              refine RunL.nilD' ?_
              refine RunD.nilB (by kernel_rfl) (fun w sw => backg1 _ _ (backg2 _ _ (backg3 _ _ (sw)))) ?_
              refine Run.region ?_
              first | refine RunL.load1 rfl (by first | ((repeat (first | (with_reducible exact F0 _) | apply F1)); done) | (repeat (first | exact F0 _ | apply F1))) (by rfl) agg23 (Wt.none rfl) rfl ?_ | refine RunL.load1R rfl (by assumption) (by rfl) agg23 (Wt.none rfl) rfl ?_
              refine RunL.pure (Pure.nilCheck rfl) (Wt.none rfl) rfl rfl ?_
              refine RunL.pure (Pure.fieldAddr rfl fo85_1) (Wt.none rfl) rfl rfl ?_
              first | refine RunL.load1 rfl (by first | ((repeat (first | (with_reducible exact F0 _) | apply F1)); done) | (repeat (first | exact F0 _ | apply F1))) (by rfl) agg83 (Wt.none rfl) rfl ?_ | refine RunL.load1R rfl (by assumption) (by rfl) agg83 (Wt.none rfl) rfl ?_
              refine RunL.mv rfl rfl ?_
              first | refine RunL.lookup (k := q) rfl rfl (by first | ((repeat (first | (with_reducible exact F0 _) | apply F1)); done) | (repeat (first | exact F0 _ | apply F1))) und83 zz89 (KeyT.string und9) (Wt.none rfl) rfl ?_ | refine RunL.lookupR (k := q) rfl rfl (by assumption) und83 zz89 (KeyT.string und9) (Wt.none rfl) rfl ?_
              rw [hm]
              refine RunL.rowsPeel (s := (XL.nq s xs.evs (ps.take i)).rows) (t := (XL.nq t xs.evs (ps.take i)).rows) (x := (b, cNde (⟨x.1.evn x.2.2, depthOf xs.evs x.1.id, isPar xs.evs x.1.id || memB x.1.id (ps.take i)⟩ : Nde))) _ (by first | ((repeat (first | (with_reducible exact F0 _) | apply F1)); done) | (repeat (first | exact F0 _ | apply F1))) (by rw [hxs, ← hbx]; exact nq_rows) ?_
              refine RunL.pure (Pure.nilCheck rfl) (Wt.none rfl) rfl rfl ?_
              refine RunL.pure (Pure.fieldAddr rfl fo91_2) (Wt.none rfl) rfl rfl ?_
              refine RunL.store1 rfl rfl (by first | ((repeat (first | (with_reducible exact F0 _) | apply F1)); done) | (repeat (first | exact F0 _ | apply F1))) sz4 (by rfl) (Nat.le_of_ble_eq_true rfl) (Wt.none rfl) ?_
              try simp only [List.set_cons_zero, List.set_cons_succ]
              refine RunL.nil ?_
              refine Run.inBlock ?_
              refine Run.asRow (cNde (⟨x.1.evn x.2.2, depthOf xs.evs x.1.id, true⟩ : Nde)) (by first | ((repeat (first | (with_reducible exact F0 _) | apply F1)); done) | (repeat (first | exact F0 _ | apply F1))) rfl ?_
              refine Run.rowsBack (xs.nq xs.evs (ps.take i ++ [x.1.id])).rows (by repeat (first | (with_reducible exact Take.nil _) | (apply Take.cons (by first | ((repeat (first | (with_reducible exact F0 _) | apply F1)); done) | (repeat (first | exact F0 _ | apply F1)))))) (by rw [hxs, ← hbx]; exact (nq_flag (by rw [← hxs]; exact hgd.nodup)).symm) ?_
              refine Run.region ?_
              first | refine RunL.pure (Pure.addI rfl rfl (by omega)) (Wt.none rfl) rfl rfl ?_ | refine RunL.pure (Pure.add rfl rfl) (Wt.none rfl) rfl rfl ?_
              refine RunL.mv rfl rfl ?_
              refine RunL.nil ?_
              subst hid
              rw [← addDepth_take hx, show ps.take i ++ [x.1.id] = ps.take (i + 1) from by rw [List.take_add_one, hx]; rfl]
              refine Run.keep (.cons rfl (.cons rfl (.cons rfl (.cons rfl (.cons rfl (.cons rfl (.nil)))))) : Keep _ [2, 3, 6, 63, 64, 65] _) ?_
              refine Run.againF (F := F) ih (by exact ⟨i + 1, by omega, rfl, rfl, rfl⟩) (by repeat (first | (with_reducible exact Fin.done (by repeat (first | (with_reducible exact Rest.here) | apply Rest.there))) | (apply Fin.cons (by first | ((repeat (first | (with_reducible exact F0 _) | apply F1)); done) | (repeat (first | exact F0 _ | apply F1)))))) ?_
              omega
            · try simp only [ZA, ZB, ZC, ZD, ZE, ZF, ZG, ZH, ZI, ZJ, ZK, ZL, ZM, ZN, ZO, ZP, ZQ, ZR] at hi1
              obtain rfl : i = ps.length := by omega
              rw [List.take_length]
              refine Run.exit rfl ?_
              refine Run.seq ?_
              refine Run.regionD' (by kernel_rfl) (by kernel_rfl) (fun hok247 => ?_)
              refine RunD.lend (Q := row p 85 [.string room, .map (some r)]) Lends.row (by first | ((repeat (first | (with_reducible exact F0 _) | apply F1)); done) | (repeat (first | exact F0 _ | apply F1))) ?_; intro g1 hleg1 hr1 backg1
              have hp_g1 := hp.mono hleg1
              have hrb3_g1 := hrb3.mono hleg1
              have hb2_g1 := hb2.mono hleg1
              refine RunD.load1R (i := 0) hok247 rfl (by kernel_rfl) rfl (by assumption) (by rfl) agg23 (Wt.none rfl) rfl ?_
              refine RunD.pure (i := 1) hok247 rfl (by kernel_rfl) (Pure.nilCheck rfl) (Wt.none rfl) rfl rfl ?_
              refine RunD.pure (i := 2) hok247 rfl (by kernel_rfl) (Pure.fieldAddr rfl fo85_1) (Wt.none rfl) rfl rfl ?_
              refine RunD.load1R (i := 3) hok247 rfl (by kernel_rfl) rfl (by assumption) (by rfl) agg83 (Wt.none rfl) rfl ?_
              refine RunD.pure (i := 4) hok247 rfl (by kernel_rfl) (Pure.fieldAddr rfl fo33_0) (Wt.none rfl) rfl rfl ?_
              refine RunD.load1R (i := 5) hok247 rfl (by kernel_rfl) rfl (by assumption) (by rfl) agg9 (Wt.none rfl) rfl ?_
              refine RunD.pure (i := 6) hok247 rfl (by kernel_rfl) (Pure.move rfl) (Wt.none rfl) rfl rfl ?_
              refine RunD.one (i := 7) (by kernel_rfl) rfl ?_
              refine RunL.mapUpdate (k := e.id) (v := b61) (ev := eN) rfl rfl rfl (by first | ((repeat (first | (with_reducible exact F0 _) | apply F1)); done) | (repeat (first | exact F0 _ | apply F1))) und83 (KeyT.string und9) (Wt.none rfl) ?_
              refine RunL.nilD' ?_
              refine RunD.nilB (by kernel_rfl) (fun w sw => backg1 _ _ (sw)) ?_
              refine Run.sr ?_
              refine RunL.as rfl rfl ?_
              refine RunL.nil ?_
              have hrc : addRc room xs.evs (e.ev ps) = 0 := (addRc_thr hok hroom hhas hpar).trans hthr
              have hnl := nl_snoc (b := b61) (s := ⟨a1, ps.length, c1⟩) hgd hrc
              have hrw : (XL.nl (xs ++ [((e.ev ps), b61, (⟨a1, ps.length, c1⟩ : Sli))])).rows = (xs.nq xs.evs ps).rows ++ [(b61, cNde (⟨({ e with par := ⟨a1, ps.length, c1⟩ } : Evn), addDepth (depthOf xs.evs) ps, false⟩ : Nde))] := by rw [hnl]; unfold NL.rows; rw [List.map_append]; rfl
              have hiw : (XL.nl (xs ++ [((e.ev ps), b61, (⟨a1, ps.length, c1⟩ : Sli))])).ids = xs.idb ++ [(e.id, b61)] := by rw [XL.nl, nq_ids]; unfold XL.idb; rw [List.map_append]; rfl
              rw [mput_idb (show xs.evs.has e.id = false from hhas)]
              refine Run.rowsSnoc (b := b61) (T := 91) _ (by repeat (first | (with_reducible exact Take.nil _) | (apply Take.cons (by first | ((repeat (first | (with_reducible exact F0 _) | apply F1)); done) | (repeat (first | exact F0 _ | apply F1)))))) ?_
              refine Run.poolSl (by repeat (first | (with_reducible exact Take.nil _) | (apply Take.cons (by first | ((repeat (first | (with_reducible exact F0 _) | apply F1)); done) | (repeat (first | exact F0 _ | apply F1)))))) ?_; intro K' hle hsl
              refine Run.mkDag (r := r) (room := room) (p := p) (XL.nl (xs ++ [((e.ev ps), b61, (⟨a1, ps.length, c1⟩ : Sli))])) (by rw [hrw, hiw]; exact (by repeat (first | (with_reducible exact Take.nil _) | (apply Take.cons (by first | ((repeat (first | (with_reducible exact F0 _) | apply F1)); done) | (repeat (first | exact F0 _ | apply F1))))))) ?_
              refine Run.mkDg K' (xs ++ [((e.ev ps), b61, (⟨a1, ps.length, c1⟩ : Sli))]) (by simp [XL.evs]) (hgd.snoc hrc) (fun y hy => by
                rcases List.mem_append.1 hy with hy | hy
                · exact (hxk y hy).hp hle
                · obtain rfl := List.mem_singleton.1 hy; exact ⟨rfl, hsl⟩) (by repeat (first | (with_reducible exact Take.nil _) | (apply Take.cons (by first | ((repeat (first | (with_reducible exact F0 _) | apply F1)); done) | (repeat (first | exact F0 _ | apply F1)))))) ?_
              exact Run.ret Tryz.func21 (res1 rfl rfl) (by exact ⟨by rw [hrc], by rw [addL_ok hrc]⟩) (by repeat (first | (with_reducible exact Fin.done (by repeat (first | (with_reducible exact Rest.here) | apply Rest.there))) | (apply Fin.cons (by first | ((repeat (first | (with_reducible exact F0 _) | apply F1)); done) | (repeat (first | exact F0 _ | apply F1))))))
          · skip
            refine Run.cond rfl (fun c4 => ?_) (fun c4 => ?_)
            · try simp only [ZA, ZB, ZC, ZD, ZE, ZF, ZG, ZH, ZI, ZJ, ZK, ZL, ZM, ZN, ZO, ZP, ZQ, ZR] at c4
              have ht' : (e.ev ps).thread ≠ .empty := fun q => c4 (by rw [show e.thread = .empty from q]; rfl)
              refine Run.seq ?_
              refine Run.regionD' (by kernel_rfl) (by kernel_rfl) (fun hok284 => ?_)
              refine RunD.load1R (i := 0) hok284 rfl (by kernel_rfl) rfl (by assumption) (by rfl) agg23 (Wt.none rfl) rfl ?_
              refine RunD.pure (i := 1) hok284 rfl (by kernel_rfl) (Pure.nilCheck rfl) (Wt.none rfl) rfl rfl ?_
              refine RunD.pure (i := 2) hok284 rfl (by kernel_rfl) (Pure.fieldAddr rfl fo85_1) (Wt.none rfl) rfl rfl ?_
              refine RunD.load1R (i := 3) hok284 rfl (by kernel_rfl) rfl (by assumption) (by rfl) agg83 (Wt.none rfl) rfl ?_
              refine RunD.pure (i := 4) hok284 rfl (by kernel_rfl) (Pure.fieldAddr rfl fo33_3) (Wt.none rfl) rfl rfl ?_
              refine RunD.load1R (i := 5) hok284 rfl (by kernel_rfl) rfl (by assumption) (by rfl) agg9 (Wt.none rfl) rfl ?_
              refine RunD.lookupR (k := e.thread) (i := 6) hok284 rfl (by kernel_rfl) rfl rfl (by assumption) und83 zz89 (KeyT.string und9) (Wt.none rfl) rfl ?_
              cases hm : mget e.thread xs.nl.ids with
| none => ?_
| some b => ?_
              · skip
                refine RunD.pure (i := 7) hok284 rfl (by kernel_rfl) (Pure.assign rfl) (Wt.none rfl) rfl rfl ?_
                refine RunD.nilR (by kernel_rfl) ?_
                refine Run.seq ?_
                refine Run.sr ?_
                refine RunL.mv rfl rfl ?_
                refine RunL.pure (Pure.ptrEqNil0 rfl rfl und89) (Wt.none rfl) rfl rfl ?_
                refine RunL.nil ?_
                refine Run.condT rfl ?_
                refine Run.sr ?_
                refine RunL.as rfl rfl ?_
                refine RunL.nil ?_
                have hrc : addRc room xs.evs (e.ev ps) = 4 := (addRc_thr hok hroom hhas hpar).trans (thr_none ht' (get_nil.2 (idb_none.1 (by rw [← hm]; exact congrArg _ (nq_ids _ _ _).symm))))
                refine Run.backB backgd ?_
                refine Run.mkDg K xs rfl hgd hxk (by repeat (first | (with_reducible exact Take.nil _) | (apply Take.cons (by first | ((repeat (first | (with_reducible exact F0 _) | apply F1)); done) | (repeat (first | exact F0 _ | apply F1)))))) ?_
                exact Run.ret Tryz.func21 (res1 rfl rfl) (by exact ⟨by rw [hrc], by rw [addL_no (by rw [hrc]; decide)]⟩) (by repeat (first | (with_reducible exact Fin.done (by repeat (first | (with_reducible exact Rest.here) | apply Rest.there))) | (apply Fin.cons (by first | ((repeat (first | (with_reducible exact F0 _) | apply F1)); done) | (repeat (first | exact F0 _ | apply F1))))))
              · skip
                rw [show xs.nl.ids = xs.idb from nq_ids _ _ _] at hm
                obtain ⟨s, x, t, hxs, hid, hbx, hget⟩ := idb_some (show mget e.thread xs.idb = some b from hm)
                have hxm : x ∈ xs := by rw [hxs]; simp
                have hro2 : Ro gd b 91 [.string x.1.id, .string x.1.room, .slice x.2.2.a x.2.2.n x.2.2.c, .string x.1.thread, .string x.1.user, .int .i64 x.1.does, .int .i64 (depthOf xs.evs x.1.id), .bool (isPar xs.evs x.1.id || memB x.1.id [])] := by rw [← hbx]; exact nq_row hrr hxm
                refine RunD.pure (i := 7) hok284 rfl (by kernel_rfl) (Pure.assign rfl) (Wt.none rfl) rfl rfl ?_
                refine RunD.nilR (by kernel_rfl) ?_
                refine Run.seq ?_
                refine Run.sr ?_
                refine RunL.mv rfl rfl ?_
                refine RunL.pure (Pure.ptrEqNil rfl rfl und89) (Wt.none rfl) rfl rfl ?_
                refine RunL.nil ?_
                refine Run.condF rfl ?_
                refine Run.skip ?_
                refine Run.sr ?_
                refine RunL.mv rfl rfl ?_
                refine RunL.pure (Pure.nilCheck rfl) (Wt.none rfl) rfl rfl ?_
                refine RunL.pure (Pure.fieldAddr rfl fo91_0) (Wt.none rfl) rfl rfl ?_
                refine RunL.pure (Pure.fieldAddr rfl fo33_3) (Wt.none rfl) rfl rfl ?_
                refine RunL.load1R rfl hro2 (by rfl) agg9 (Wt.none rfl) rfl ?_
                refine RunL.pure (Pure.sneq rfl rfl) (Wt.none rfl) rfl rfl ?_
                refine RunL.mv rfl rfl ?_
                refine RunL.split (d := 50) rfl (fun c5 => ?_) (fun c5 => ?_)
                · try simp only [ZA, ZB, ZC, ZD, ZE, ZF, ZG, ZH, ZI, ZJ, ZK, ZL, ZM, ZN, ZO, ZP, ZQ, ZR] at c5
                  refine RunL.not (Wt.no rfl rfl rfl) rfl rfl ?_
                  refine RunL.not (Wt.no rfl rfl rfl) rfl rfl ?_
                  refine RunL.not (Wt.no rfl rfl rfl) rfl rfl ?_
                  refine RunL.not (Wt.no rfl rfl rfl) rfl rfl ?_
                  refine RunL.not (Wt.no rfl rfl rfl) rfl rfl ?_
                  refine RunL.not (Wt.no rfl rfl rfl) rfl rfl ?_
                  refine RunL.pure (Pure.pickT rfl rfl) (Wt.none rfl) rfl rfl ?_
                  refine RunL.nil ?_
                  refine Run.condT rfl ?_
                  refine Run.sr ?_
                  refine RunL.as rfl rfl ?_
                  refine RunL.nil ?_
                  have hrc : addRc room xs.evs (e.ev ps) = 7 := (addRc_thr hok hroom hhas hpar).trans (thr_bad ht' (r := x.1) hget (Or.inl (fun q => c5 (by rw [show x.1.thread = .empty from q]; rfl))))
                  refine Run.backB backgd ?_
                  refine Run.mkDg K xs rfl hgd hxk (by repeat (first | (with_reducible exact Take.nil _) | (apply Take.cons (by first | ((repeat (first | (with_reducible exact F0 _) | apply F1)); done) | (repeat (first | exact F0 _ | apply F1)))))) ?_
                  exact Run.ret Tryz.func21 (res1 rfl rfl) (by exact ⟨by rw [hrc], by rw [addL_no (by rw [hrc]; decide)]⟩) (by repeat (first | (with_reducible exact Fin.done (by repeat (first | (with_reducible exact Rest.here) | apply Rest.there))) | (apply Fin.cons (by first | ((repeat (first | (with_reducible exact F0 _) | apply F1)); done) | (repeat (first | exact F0 _ | apply F1))))))
                · try simp only [ZA, ZB, ZC, ZD, ZE, ZF, ZG, ZH, ZI, ZJ, ZK, ZL, ZM, ZN, ZO, ZP, ZQ, ZR] at c5
                  refine RunL.pure (Pure.move rfl) (Wt.yes rfl rfl rfl) rfl rfl ?_
                  refine RunL.pure (Pure.nilCheck rfl) (Wt.yes rfl rfl rfl) rfl rfl ?_
                  refine RunL.pure (Pure.fieldAddr rfl fo91_0) (Wt.yes rfl rfl rfl) rfl rfl ?_
                  refine RunL.pure (Pure.fieldAddr rfl fo33_5) (Wt.yes rfl rfl rfl) rfl rfl ?_
                  refine RunL.load1R rfl hro2 (by rfl) agg3 (Wt.yes rfl rfl rfl) rfl ?_
                  refine RunL.pure (Pure.neq rfl rfl) (Wt.yes rfl rfl rfl) rfl rfl ?_
                  refine RunL.pure (Pure.pickF rfl rfl) (Wt.none rfl) rfl rfl ?_
                  refine RunL.nil ?_
                  refine Run.cond rfl (fun c6 => ?_) (fun c6 => ?_)
                  · try simp only [ZA, ZB, ZC, ZD, ZE, ZF, ZG, ZH, ZI, ZJ, ZK, ZL, ZM, ZN, ZO, ZP, ZQ, ZR] at c6
                    refine Run.sr ?_
                    refine RunL.as rfl rfl ?_
                    refine RunL.nil ?_
                    have hrc : addRc room xs.evs (e.ev ps) = 7 := (addRc_thr hok hroom hhas hpar).trans (thr_bad ht' (r := x.1) hget (Or.inr c6))
                    refine Run.backB backgd ?_
                    refine Run.mkDg K xs rfl hgd hxk (by repeat (first | (with_reducible exact Take.nil _) | (apply Take.cons (by first | ((repeat (first | (with_reducible exact F0 _) | apply F1)); done) | (repeat (first | exact F0 _ | apply F1)))))) ?_
                    exact Run.ret Tryz.func21 (res1 rfl rfl) (by exact ⟨by rw [hrc], by rw [addL_no (by rw [hrc]; decide)]⟩) (by repeat (first | (with_reducible exact Fin.done (by repeat (first | (with_reducible exact Rest.here) | apply Rest.there))) | (apply Fin.cons (by first | ((repeat (first | (with_reducible exact F0 _) | apply F1)); done) | (repeat (first | exact F0 _ | apply F1))))))
                  · try simp only [ZA, ZB, ZC, ZD, ZE, ZF, ZG, ZH, ZI, ZJ, ZK, ZL, ZM, ZN, ZO, ZP, ZQ, ZR] at c6
                    refine Run.skip ?_
                    refine Run.keep (.cons rfl (.cons rfl (.cons rfl (.nil))) : Keep _ [2, 3, 4] _) ?_
                    exact Run.meetF (F := F) hk (by exact ⟨thrRc_zero.2 (Or.inr ⟨x.1, hget, bl_inj c5, c6⟩), rfl, rfl⟩) (by repeat (first | (with_reducible exact Fin.done (by repeat (first | (with_reducible exact Rest.here) | apply Rest.there))) | (apply Fin.cons (by first | ((repeat (first | (with_reducible exact F0 _) | apply F1)); done) | (repeat (first | exact F0 _ | apply F1))))))
            · try simp only [ZA, ZB, ZC, ZD, ZE, ZF, ZG, ZH, ZI, ZJ, ZK, ZL, ZM, ZN, ZO, ZP, ZQ, ZR] at c4
              refine Run.skip ?_
              refine Run.keep (.cons rfl (.cons rfl (.cons rfl (.nil))) : Keep _ [2, 3, 4] _) ?_
              exact Run.meetF (F := F) hk (by exact ⟨thrRc_zero.2 (Or.inl (bl_inj c4)), rfl, rfl⟩) (by repeat (first | (with_reducible exact Fin.done (by repeat (first | (with_reducible exact Rest.here) | apply Rest.there))) | (apply Fin.cons (by first | ((repeat (first | (with_reducible exact F0 _) | apply F1)); done) | (repeat (first | exact F0 _ | apply F1))))))

end Go.Proofs.YtcmkafellcfbeaaGreat
