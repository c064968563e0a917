/- The layer lay: calls and rounds. -/
import Derived.Test.YtgfdgekhjnegcaaL6
set_option linter.unusedVariables false
set_option linter.unusedSimpArgs false
namespace Go.Proofs.Ytgfdgekhjnegcaa
open Go Csl
theorem und45 : Try.prog.underlying 45 = some (Go.TypeDesc.slice 46) := Try.underlying45
theorem sz46 : sizeIs Try.prog 46 = some 2 := by kernel_rfl
theorem und46 : Try.prog.underlying 46 = some (Go.TypeDesc.array 2 3) := Try.underlying46
theorem und4 : Try.prog.underlying 4 = some Go.TypeDesc.bool := Try.underlying4
theorem cb29 : Callable Try.prog 29 := ⟨_, Try.func29, by kernel_rfl, by kernel_rfl⟩
theorem und48 : Try.prog.underlying 48 = some (Go.TypeDesc.slice 3) := Try.underlying48
theorem und49 : Try.prog.underlying 49 = some (Go.TypeDesc.slice 9) := Try.underlying49
theorem und50 : Try.prog.underlying 50 = some (Go.TypeDesc.slice 4) := Try.underlying50
theorem sz9 : sizeIs Try.prog 9 = some 1 := by kernel_rfl
theorem agg9 : isAggOf Try.prog 9 = some false := by kernel_rfl
theorem sz4 : sizeIs Try.prog 4 = some 1 := by kernel_rfl
theorem agg4 : isAggOf Try.prog 4 = some false := by kernel_rfl
set_option maxRecDepth 100000 in
theorem LayReads_ctr {G : Gp} {a a2 : Option Addr} {bs : List UInt8} {cap cap2 : Nat} {cs : List (Int × Int)} (h : SlR G 5 1 a bs.length (bs.map bv)) (hc : bs.length ≤ cap) (hcs : SlR G 46 2 a2 cs.length (cs.flatMap pairCells)) (hpo : ∀ p ∈ cs, PairOk p) :
    Ctr Try.prog G 7 [.slice a bs.length cap, .slice a2 cs.length cap2] [] (fun F v A => v = .bool true ∧ A = F) := by
  refine Ctr.intro Try.func7 rfl (by kernel_rfl) rfl (fun F => ?_)
  simp only [List.nil_append]
  refine Run.sr ?_
  refine RunL.as rfl rfl ?_
  refine RunL.nil ?_
  refine Run.sr ?_
  refine RunL.mv rfl rfl ?_
  refine RunL.call rfl rfl (by rfl) (by repeat (first | (with_reducible exact Take.nil _) | (apply Take.cons (by first | ((repeat (first | (with_reducible exact Find.here _) | apply Find.there)); done) | (repeat (first | exact Find.here _ | apply Find.there)))))) (few_ctr h hc (m := 40) (by decide) (by decide)) (Wt.none rfl) rfl ?_
  rintro _ _ ⟨a3, c3, rfl, rfl⟩
  have h40 : (bs.take (40 : Int).toNat).length ≤ 40 := by rw [List.length_take]; omega
  generalize bs.take (40 : Int).toNat = ms at *
  refine RunL.as rfl rfl ?_
  refine RunL.nil ?_
  refine Run.sr ?_
  refine RunL.mv rfl rfl ?_
  refine RunL.call rfl rfl (by rfl) (by repeat (first | (with_reducible exact Take.nil _) | (apply Take.cons (by first | ((repeat (first | (with_reducible exact Find.here _) | apply Find.there)); done) | (repeat (first | exact Find.here _ | apply Find.there)))))) (Ctr.lend (R := fun G => SlR G 5 1 _ _ _ ∧ _ ≤ _) Lends.Sl cb19 (fun G' hle hr => Read_ctr hr.1 (by omega))) (Wt.none rfl) rfl ?_
  rintro _ _ ⟨_, rfl, r, rfl, rfl⟩
  refine RunL.as rfl rfl ?_
  refine RunL.nil ?_
  refine Run.seq ?_
  refine Run.sr ?_
  refine RunL.mv rfl rfl ?_
  refine RunL.pure (Pure.ptrEqNil rfl rfl und33) (Wt.none rfl) rfl rfl ?_
  refine RunL.nil ?_
  refine Run.condF rfl ?_
  refine Run.skip ?_
  refine Run.sr ?_
  refine RunL.mv rfl rfl ?_
  refine RunL.pure (Pure.build (ps := [(0, _)]) pl41 rfl rfl rfl) (Wt.none rfl) rfl rfl ?_
  refine RunL.box rfl (Wt.none rfl) rfl ?_; intro q
  refine RunL.mkRg (B := ms) (I := 0) (bs := ms) (er := 0) (by repeat (first | (with_reducible exact Take.nil _) | (apply Take.cons (by first | ((repeat (first | (with_reducible exact Find.here _) | apply Find.there)); done) | (repeat (first | exact Find.here _ | apply Find.there)))))) ⟨by omega, rfl, by omega⟩ ?_
  refine RunL.as rfl rfl ?_
  refine RunL.nil ?_
  refine Run.seq ?_
  refine Run.sr ?_
  refine RunL.as rfl rfl ?_
  refine RunL.nil ?_
  refine Run.block ?_
  refine Run.keep (.cons rfl (.cons rfl (.cons rfl (.cons rfl (.nil)))) : Keep _ [1, 6, 7, 8] _) ?_
  refine Run.fit (F := F) (A2 := Rd r _ _ :: Rg q _ _ :: F) (by repeat (first | (with_reducible exact Fin.done (by repeat (first | (with_reducible exact Rest.here) | apply Rest.there))) | (apply Fin.cons (by first | ((repeat (first | (with_reducible exact Find.here _) | apply Find.there)); done) | (repeat (first | exact Find.here _ | apply Find.there)))))) ?_
  refine Run.loopR (fun n e A => ∃ (bs : List UInt8) (er i : Int), (er ≠ 0 → bs = []) ∧ bs.length ≤ 40 ∧ 0 ≤ i ∧ n = (8 - i).toNat ∧ e = [(1, .slice a2 cs.length cap2), (6, .pointer (some ⟨r, 0, none⟩)), (7, .pointer (some ⟨q, 0, none⟩)), (8, .int .i64 i)] ∧ A = Rd r bs er :: Rg q bs er :: F) (8) ⟨_, 0, 0, fun h => absurd rfl h, by omega, by omega, rfl, rfl, rfl⟩ ?_
  rintro n _ _ ⟨bs, er, i, hbe, hbl, hi0, rfl, rfl, rfl⟩ ih
  refine Run.seq ?_
  refine Run.sr ?_
  refine RunL.mv rfl rfl ?_
  refine RunL.mv rfl rfl ?_
  refine RunL.pure (Pure.lenSl rfl rfl und45) (Wt.none rfl) rfl rfl ?_
  refine RunL.pure (Pure.lss rfl rfl) (Wt.none rfl) rfl rfl ?_
  refine RunL.mv rfl rfl ?_
  refine RunL.split (d := 23) rfl (fun hil => ?_) (fun hil => ?_)
  · try simp only [decide_eq_true_eq, decide_eq_false_iff_not, beq_iff_eq, beq_eq_false_iff_ne, bne_iff_ne, ne_eq, Bool.not_eq_true', Bool.not_eq_false', Bool.not_eq_true, Bool.not_eq_false, Int.not_lt, Int.not_le, Decidable.not_not, bne_eq_false_iff_eq, gt_iff_lt, ge_iff_le, Bool.or_eq_true, Bool.and_eq_true] at hil
    refine RunL.pure (Pure.move rfl) (Wt.yes rfl rfl rfl) rfl rfl ?_
    refine RunL.pure (Pure.lss rfl rfl) (Wt.yes rfl rfl rfl) rfl rfl ?_
    refine RunL.pure (Pure.pickT rfl rfl) (Wt.none rfl) rfl rfl ?_
    refine RunL.nil ?_
    refine Run.cond rfl (fun hi8 => ?_) (fun hi8 => ?_)
    · try simp only [decide_eq_true_eq, decide_eq_false_iff_not, beq_iff_eq, beq_eq_false_iff_ne, bne_iff_ne, ne_eq, Bool.not_eq_true', Bool.not_eq_false', Bool.not_eq_true, Bool.not_eq_false, Int.not_lt, Int.not_le, Decidable.not_not, bne_eq_false_iff_eq, gt_iff_lt, ge_iff_le, Bool.or_eq_true, Bool.and_eq_true] at hi8
      obtain ⟨b, T', pre, post, rfl, hro0⟩ := hcs.open1 (show 0 < cs.length by omega)
      obtain ⟨pr, hpr⟩ := get_some (xs := cs) (i := i.toNat) (by omega)
      obtain ⟨hp1, hp2⟩ := hpo pr (List.mem_of_getElem? hpr)
      replace hp1 := wf_i64 hp1
      replace hp2 := wf_i64 hp2
      refine Run.skip ?_
      refine Run.seq ?_
      refine Run.block ?_
      refine Run.seq ?_
      refine Run.sr ?_
      refine RunL.mv rfl rfl ?_
      refine RunL.mv rfl rfl ?_
      refine RunL.pure (Pure.indexAddr rfl rfl und45 sz46 (by omega) (by omega)) (Wt.none rfl) rfl rfl ?_
      refine RunL.pure (Pure.indexAddrArr rfl rfl und46 sz3 (by omega) (by omega)) (Wt.none rfl) rfl rfl ?_
      refine RunL.load1R rfl hro0 (by exact (show _ = some (.int .i64 pr.1) from elem_at (f := pairCells) (fun _ _ => rfl) hpr (j := 0) (by decide))) agg3 (Wt.none rfl) rfl ?_
      refine RunL.call rfl rfl (by rfl) (by repeat (first | (with_reducible exact Take.nil _) | (apply Take.cons (by first | ((repeat (first | (with_reducible exact Find.here _) | apply Find.there)); done) | (repeat (first | exact Find.here _ | apply Find.there)))))) (Around_ctr hp1 (by decide)) (Wt.none rfl) rfl ?_
      rintro _ _ ⟨rfl, rfl⟩
      refine RunL.nil ?_
      refine Run.cut (fun e A => ∃ (bs : List UInt8) (er : Int), (er ≠ 0 → bs = []) ∧ bs.length ≤ 40 ∧ e = [(1, .slice (some ⟨b, pre.length, none⟩) cs.length cap2), (6, .pointer (some ⟨r, 0, none⟩)), (7, .pointer (some ⟨q, 0, none⟩)), (8, .int .i64 i)] ∧ A = Rd r bs er :: Rg q bs er :: F) (fun e A hM => ?_) (fun hk => ?_)
      · obtain ⟨bs, er, hbe, hbl, rfl, rfl⟩ := hM
        refine Run.seq ?_
        refine Run.regionD' (by kernel_rfl) (by kernel_rfl) (fun hok76 => ?_)
        refine RunD.lend (Q := Rd r _ _) Lends.Rd (by first | ((repeat (first | (with_reducible exact Find.here _) | apply Find.there)); done) | (repeat (first | exact Find.here _ | apply Find.there))) ?_; intro g1 hleg1 hr1 backg1
        refine RunD.lend (Q := Rg q _ _) Lends.Rg (by first | ((repeat (first | (with_reducible exact Find.here _) | apply Find.there)); done) | (repeat (first | exact Find.here _ | apply Find.there))) ?_; intro g2 hleg2 hr2 backg2
        obtain ⟨ar, capr, hro⟩ := hr1
        obtain ⟨ag, capg, Bg, Ig, hok, hrg⟩ := hr2
        replace hro := hro.mono hleg2
        refine RunD.pure (i := 0) hok76 rfl (by kernel_rfl) (Pure.move rfl) (Wt.none rfl) rfl rfl ?_
        refine RunD.pure (i := 2) hok76 rfl (by kernel_rfl) (Pure.move rfl) (Wt.none rfl) rfl rfl ?_
        refine RunD.pure (i := 3) hok76 rfl (by kernel_rfl) (Pure.nilCheck rfl) (Wt.none rfl) rfl rfl ?_
        refine RunD.pure (i := 4) hok76 rfl (by kernel_rfl) (Pure.fieldAddr rfl fo41_2) (Wt.none rfl) rfl rfl ?_
        refine RunD.load1R (i := 5) hok76 rfl (by kernel_rfl) rfl (by assumption) (by rfl) agg36 (Wt.none rfl) rfl ?_
        refine RunD.one (i := 1) (by kernel_rfl) rfl ?_
        refine RunL.call rfl rfl (by rfl) (by repeat (first | (with_reducible exact Take.nil _) | (apply Take.cons (by first | ((repeat (first | (with_reducible exact Find.here _) | apply Find.there)); done) | (repeat (first | exact Find.here _ | apply Find.there)))))) (RdErrno_ctr hro) (Wt.none rfl) rfl ?_
        rintro _ _ ⟨rfl, rfl⟩
        refine RunL.nilD' ?_
        refine RunD.pure (i := 6) hok76 rfl (by kernel_rfl) (Pure.neq rfl rfl) (Wt.none rfl) rfl rfl ?_
        refine RunD.pure (i := 7) hok76 rfl (by kernel_rfl) (Pure.move rfl) (Wt.none rfl) rfl rfl ?_
        refine RunD.split (d := 86) rfl (fun hx => ?_) (fun hx => ?_)
        · try simp only [decide_eq_true_eq, decide_eq_false_iff_not, beq_iff_eq, beq_eq_false_iff_ne, bne_iff_ne, ne_eq, Bool.not_eq_true', Bool.not_eq_false', Bool.not_eq_true, Bool.not_eq_false, Int.not_lt, Int.not_le, Decidable.not_not, bne_eq_false_iff_eq, gt_iff_lt, ge_iff_le, Bool.or_eq_true, Bool.and_eq_true] at hx
          exfalso; simp at hx
        · try simp only [decide_eq_true_eq, decide_eq_false_iff_not, beq_iff_eq, beq_eq_false_iff_ne, bne_iff_ne, ne_eq, Bool.not_eq_true', Bool.not_eq_false', Bool.not_eq_true, Bool.not_eq_false, Int.not_lt, Int.not_le, Decidable.not_not, bne_eq_false_iff_eq, gt_iff_lt, ge_iff_le, Bool.or_eq_true, Bool.and_eq_true] at hx
          refine RunD.pure (i := 8) hok76 rfl (by kernel_rfl) (Pure.move rfl) (Wt.yes rfl rfl rfl) rfl rfl ?_
          refine RunD.pure (i := 10) hok76 rfl (by kernel_rfl) (Pure.move rfl) (Wt.yes rfl rfl rfl) rfl rfl ?_
          refine RunD.one (i := 9) (by kernel_rfl) rfl ?_
          refine RunL.call rfl rfl (by rfl) (by repeat (first | (with_reducible exact Take.nil _) | (apply Take.cons (by first | ((repeat (first | (with_reducible exact Find.here _) | apply Find.there)); done) | (repeat (first | exact Find.here _ | apply Find.there)))))) (RdLeft_ctr hro) (Wt.yes rfl rfl rfl) rfl ?_
          rintro _ _ ⟨rfl, rfl⟩
          refine RunL.nilD' ?_
          refine RunD.one (i := 11) (by kernel_rfl) rfl ?_
          refine RunL.call rfl rfl (by rfl) (by repeat (first | (with_reducible exact Take.nil _) | (apply Take.cons (by first | ((repeat (first | (with_reducible exact Find.here _) | apply Find.there)); done) | (repeat (first | exact Find.here _ | apply Find.there)))))) (RgLeft_ctr hok hrg) (Wt.yes rfl rfl rfl) rfl ?_
          rintro _ _ ⟨rfl, rfl⟩
          refine RunL.nilD' ?_
          refine RunD.pure (i := 12) hok76 rfl (by kernel_rfl) (Pure.neq rfl rfl) (Wt.yes rfl rfl rfl) rfl rfl ?_
          refine RunD.pure (i := 13) hok76 rfl (by kernel_rfl) (Pure.pickF rfl rfl) (Wt.none rfl) rfl rfl ?_
          refine RunD.pure (i := 14) hok76 rfl (by kernel_rfl) (Pure.move rfl) (Wt.none rfl) rfl rfl ?_
          refine RunD.split (d := 93) rfl (fun hx => ?_) (fun hx => ?_)
          · try simp only [decide_eq_true_eq, decide_eq_false_iff_not, beq_iff_eq, beq_eq_false_iff_ne, bne_iff_ne, ne_eq, Bool.not_eq_true', Bool.not_eq_false', Bool.not_eq_true, Bool.not_eq_false, Int.not_lt, Int.not_le, Decidable.not_not, bne_eq_false_iff_eq, gt_iff_lt, ge_iff_le, Bool.or_eq_true, Bool.and_eq_true] at hx
            exfalso; simp at hx
          · try simp only [decide_eq_true_eq, decide_eq_false_iff_not, beq_iff_eq, beq_eq_false_iff_ne, bne_iff_ne, ne_eq, Bool.not_eq_true', Bool.not_eq_false', Bool.not_eq_true, Bool.not_eq_false, Int.not_lt, Int.not_le, Decidable.not_not, bne_eq_false_iff_eq, gt_iff_lt, ge_iff_le, Bool.or_eq_true, Bool.and_eq_true] at hx
            refine RunD.pure (i := 15) hok76 rfl (by kernel_rfl) (Pure.move rfl) (Wt.yes rfl rfl rfl) rfl rfl ?_
            refine RunD.pure (i := 17) hok76 rfl (by kernel_rfl) (Pure.move rfl) (Wt.yes rfl rfl rfl) rfl rfl ?_
            refine RunD.one (i := 16) (by kernel_rfl) rfl ?_
            refine RunL.call rfl rfl (by rfl) (by repeat (first | (with_reducible exact Take.nil _) | (apply Take.cons (by first | ((repeat (first | (with_reducible exact Find.here _) | apply Find.there)); done) | (repeat (first | exact Find.here _ | apply Find.there)))))) (RdEnd_ctr hro) (Wt.yes rfl rfl rfl) rfl ?_
            rintro _ _ ⟨rfl, rfl⟩
            refine RunL.nilD' ?_
            refine RunD.one (i := 18) (by kernel_rfl) rfl ?_
            refine RunL.call rfl rfl (by rfl) (by repeat (first | (with_reducible exact Take.nil _) | (apply Take.cons (by first | ((repeat (first | (with_reducible exact Find.here _) | apply Find.there)); done) | (repeat (first | exact Find.here _ | apply Find.there)))))) (RgEnd_ctr hok hrg) (Wt.yes rfl rfl rfl) rfl ?_
            rintro _ _ ⟨rfl, rfl⟩
            refine RunL.nilD' ?_
            refine RunD.pure (i := 19) hok76 rfl (by kernel_rfl) (Pure.neq rfl rfl) (Wt.yes rfl rfl rfl) rfl rfl ?_
            refine RunD.pure (i := 20) hok76 rfl (by kernel_rfl) (Pure.pickF rfl rfl) (Wt.none rfl) rfl rfl ?_
            refine RunD.nilB (by kernel_rfl) (fun w sw => backg1 _ _ (backg2 _ _ (sw))) ?_
            refine Run.cond rfl (fun hx => ?_) (fun hx => ?_)
            · try simp only [decide_eq_true_eq, decide_eq_false_iff_not, beq_iff_eq, beq_eq_false_iff_ne, bne_iff_ne, ne_eq, Bool.not_eq_true', Bool.not_eq_false', Bool.not_eq_true, Bool.not_eq_false, Int.not_lt, Int.not_le, Decidable.not_not, bne_eq_false_iff_eq, gt_iff_lt, ge_iff_le, Bool.or_eq_true, Bool.and_eq_true] at hx
              exfalso; simp at hx
            · try simp only [decide_eq_true_eq, decide_eq_false_iff_not, beq_iff_eq, beq_eq_false_iff_ne, bne_iff_ne, ne_eq, Bool.not_eq_true', Bool.not_eq_false', Bool.not_eq_true, Bool.not_eq_false, Int.not_lt, Int.not_le, Decidable.not_not, bne_eq_false_iff_eq, gt_iff_lt, ge_iff_le, Bool.or_eq_true, Bool.and_eq_true] at hx
              refine Run.skip ?_
              refine Run.inBlock ?_
              refine Run.region ?_
              refine RunL.mv rfl rfl ?_
              first | refine RunL.pure (Pure.addI rfl rfl (by omega)) (Wt.none rfl) rfl rfl ?_ | refine RunL.pure (Pure.add rfl rfl) (Wt.none rfl) rfl rfl ?_
              refine RunL.as rfl rfl ?_
              refine RunL.nil ?_
              refine Run.keep (.cons rfl (.cons rfl (.cons rfl (.cons rfl (.nil)))) : Keep _ [1, 6, 7, 8] _) ?_
              refine ih _ _ _ ?_ ⟨bs, er, i + 1, hbe, hbl, by omega, rfl, rfl, rfl⟩
              omega
      · skip
        refine Run.block ?_
        refine Run.sr ?_
        refine RunL.pure (Pure.eql rfl rfl) (Wt.none rfl) rfl rfl ?_
        refine RunL.as rfl rfl ?_
        refine RunL.nil ?_
        refine Run.cond rfl (fun hk0 => ?_) (fun hk0 => ?_)
        · try simp only [decide_eq_true_eq, decide_eq_false_iff_not, beq_iff_eq, beq_eq_false_iff_ne, bne_iff_ne, ne_eq, Bool.not_eq_true', Bool.not_eq_false', Bool.not_eq_true, Bool.not_eq_false, Int.not_lt, Int.not_le, Decidable.not_not, bne_eq_false_iff_eq, gt_iff_lt, ge_iff_le, Bool.or_eq_true, Bool.and_eq_true] at hk0
          refine Run.sr ?_
          refine RunL.mv rfl rfl ?_
          refine RunL.call rfl rfl (by rfl) (by repeat (first | (with_reducible exact Take.nil _) | (apply Take.cons (by first | ((repeat (first | (with_reducible exact Find.here _) | apply Find.there)); done) | (repeat (first | exact Find.here _ | apply Find.there)))))) (RdNumber_ctr hbe (by omega)) (Wt.none rfl) rfl ?_
          rintro _ _ ⟨rfl, rfl⟩
          refine RunL.mv rfl rfl ?_
          refine RunL.call rfl rfl (by rfl) (by repeat (first | (with_reducible exact Take.nil _) | (apply Take.cons (by first | ((repeat (first | (with_reducible exact Find.here _) | apply Find.there)); done) | (repeat (first | exact Find.here _ | apply Find.there)))))) (RgNumber_ctr) (Wt.none rfl) rfl ?_
          rintro _ _ ⟨rfl, rfl⟩
          obtain ⟨hq1, hq2, hq3, hq4⟩ := rdNum_inv hbe
          refine RunL.pure (Pure.neq rfl rfl) (Wt.none rfl) rfl rfl ?_
          refine RunL.nil ?_
          refine Run.cond rfl (fun hx => ?_) (fun hx => ?_)
          · try simp only [decide_eq_true_eq, decide_eq_false_iff_not, beq_iff_eq, beq_eq_false_iff_ne, bne_iff_ne, ne_eq, Bool.not_eq_true', Bool.not_eq_false', Bool.not_eq_true, Bool.not_eq_false, Int.not_lt, Int.not_le, Decidable.not_not, bne_eq_false_iff_eq, gt_iff_lt, ge_iff_le, Bool.or_eq_true, Bool.and_eq_true] at hx
            exfalso; simp at hx
          · try simp only [decide_eq_true_eq, decide_eq_false_iff_not, beq_iff_eq, beq_eq_false_iff_ne, bne_iff_ne, ne_eq, Bool.not_eq_true', Bool.not_eq_false', Bool.not_eq_true, Bool.not_eq_false, Int.not_lt, Int.not_le, Decidable.not_not, bne_eq_false_iff_eq, gt_iff_lt, ge_iff_le, Bool.or_eq_true, Bool.and_eq_true] at hx
            refine Run.skip ?_
            refine Run.inBlock ?_
            refine Run.keep (.cons rfl (.cons rfl (.cons rfl (.cons rfl (.nil)))) : Keep _ [1, 6, 7, 8] _) ?_
            refine Run.fit (F := F) (A2 := Rd r _ _ :: Rg q _ _ :: F) (by repeat (first | (with_reducible exact Fin.done (by repeat (first | (with_reducible exact Rest.here) | apply Rest.there))) | (apply Fin.cons (by first | ((repeat (first | (with_reducible exact Find.here _) | apply Find.there)); done) | (repeat (first | exact Find.here _ | apply Find.there)))))) ?_
            exact hk _ _ ⟨_, _, hq1, by omega, rfl, rfl⟩
        · try simp only [decide_eq_true_eq, decide_eq_false_iff_not, beq_iff_eq, beq_eq_false_iff_ne, bne_iff_ne, ne_eq, Bool.not_eq_true', Bool.not_eq_false', Bool.not_eq_true, Bool.not_eq_false, Int.not_lt, Int.not_le, Decidable.not_not, bne_eq_false_iff_eq, gt_iff_lt, ge_iff_le, Bool.or_eq_true, Bool.and_eq_true] at hk0
          refine Run.sr ?_
          refine RunL.pure (Pure.eql rfl rfl) (Wt.none rfl) rfl rfl ?_
          refine RunL.as rfl rfl ?_
          refine RunL.nil ?_
          refine Run.cond rfl (fun hk1 => ?_) (fun hk1 => ?_)
          · try simp only [decide_eq_true_eq, decide_eq_false_iff_not, beq_iff_eq, beq_eq_false_iff_ne, bne_iff_ne, ne_eq, Bool.not_eq_true', Bool.not_eq_false', Bool.not_eq_true, Bool.not_eq_false, Int.not_lt, Int.not_le, Decidable.not_not, bne_eq_false_iff_eq, gt_iff_lt, ge_iff_le, Bool.or_eq_true, Bool.and_eq_true] at hk1
            refine Run.sr ?_
            refine RunL.mv rfl rfl ?_
            refine RunL.mv rfl rfl ?_
            refine RunL.pure (Pure.indexAddr rfl rfl und45 sz46 (by omega) (by omega)) (Wt.none rfl) rfl rfl ?_
            refine RunL.pure (Pure.indexAddrArr rfl rfl und46 sz3 (by omega) (by omega)) (Wt.none rfl) rfl rfl ?_
            refine RunL.load1R rfl hro0 (by exact (show _ = some (.int .i64 pr.2) from elem_at (f := pairCells) (fun _ _ => rfl) hpr (j := 1) (by decide))) agg3 (Wt.none rfl) rfl ?_
            refine RunL.call rfl rfl (by rfl) (by repeat (first | (with_reducible exact Take.nil _) | (apply Take.cons (by first | ((repeat (first | (with_reducible exact Find.here _) | apply Find.there)); done) | (repeat (first | exact Find.here _ | apply Find.there)))))) (Around_ctr hp2 (by decide)) (Wt.none rfl) rfl ?_
            rintro _ _ ⟨rfl, rfl⟩
            refine RunL.as rfl rfl ?_
            refine RunL.nil ?_
            refine Run.sr ?_
            refine RunL.mv rfl rfl ?_
            refine RunL.mv rfl rfl ?_
            refine RunL.call rfl rfl (by rfl) (by repeat (first | (with_reducible exact Take.nil _) | (apply Take.cons (by first | ((repeat (first | (with_reducible exact Find.here _) | apply Find.there)); done) | (repeat (first | exact Find.here _ | apply Find.there)))))) (RdText_ctr (most := _) hbe (by omega)) (Wt.none rfl) rfl ?_
            rintro _ _ ⟨s1, rfl, hs1, rfl⟩
            refine RunL.mv rfl rfl ?_
            refine RunL.mv rfl rfl ?_
            refine RunL.call rfl rfl (by rfl) (by repeat (first | (with_reducible exact Take.nil _) | (apply Take.cons (by first | ((repeat (first | (with_reducible exact Find.here _) | apply Find.there)); done) | (repeat (first | exact Find.here _ | apply Find.there)))))) (RgText_ctr (most := _)) (Wt.none rfl) rfl ?_
            rintro _ _ ⟨s2, rfl, hs2, rfl⟩
            obtain ⟨hq1, hq2⟩ := rdText_inv (most := _) hbe
            refine RunL.pure (Pure.sneq rfl rfl) (Wt.none rfl) rfl rfl ?_
            refine RunL.nil ?_
            refine Run.cond rfl (fun hx => ?_) (fun hx => ?_)
            · try simp only [decide_eq_true_eq, decide_eq_false_iff_not, beq_iff_eq, beq_eq_false_iff_ne, bne_iff_ne, ne_eq, Bool.not_eq_true', Bool.not_eq_false', Bool.not_eq_true, Bool.not_eq_false, Int.not_lt, Int.not_le, Decidable.not_not, bne_eq_false_iff_eq, gt_iff_lt, ge_iff_le, Bool.or_eq_true, Bool.and_eq_true] at hx
              exfalso; exact hx (hs1.trans hs2.symm)
            · try simp only [decide_eq_true_eq, decide_eq_false_iff_not, beq_iff_eq, beq_eq_false_iff_ne, bne_iff_ne, ne_eq, Bool.not_eq_true', Bool.not_eq_false', Bool.not_eq_true, Bool.not_eq_false, Int.not_lt, Int.not_le, Decidable.not_not, bne_eq_false_iff_eq, gt_iff_lt, ge_iff_le, Bool.or_eq_true, Bool.and_eq_true] at hx
              refine Run.skip ?_
              refine Run.inBlock ?_
              refine Run.keep (.cons rfl (.cons rfl (.cons rfl (.cons rfl (.nil)))) : Keep _ [1, 6, 7, 8] _) ?_
              refine Run.fit (F := F) (A2 := Rd r _ _ :: Rg q _ _ :: F) (by repeat (first | (with_reducible exact Fin.done (by repeat (first | (with_reducible exact Rest.here) | apply Rest.there))) | (apply Fin.cons (by first | ((repeat (first | (with_reducible exact Find.here _) | apply Find.there)); done) | (repeat (first | exact Find.here _ | apply Find.there)))))) ?_
              exact hk _ _ ⟨_, _, hq1, by omega, rfl, rfl⟩
          · try simp only [decide_eq_true_eq, decide_eq_false_iff_not, beq_iff_eq, beq_eq_false_iff_ne, bne_iff_ne, ne_eq, Bool.not_eq_true', Bool.not_eq_false', Bool.not_eq_true, Bool.not_eq_false, Int.not_lt, Int.not_le, Decidable.not_not, bne_eq_false_iff_eq, gt_iff_lt, ge_iff_le, Bool.or_eq_true, Bool.and_eq_true] at hk1
            refine Run.sr ?_
            refine RunL.pure (Pure.eql rfl rfl) (Wt.none rfl) rfl rfl ?_
            refine RunL.as rfl rfl ?_
            refine RunL.nil ?_
            refine Run.cond rfl (fun hk2 => ?_) (fun hk2 => ?_)
            · try simp only [decide_eq_true_eq, decide_eq_false_iff_not, beq_iff_eq, beq_eq_false_iff_ne, bne_iff_ne, ne_eq, Bool.not_eq_true', Bool.not_eq_false', Bool.not_eq_true, Bool.not_eq_false, Int.not_lt, Int.not_le, Decidable.not_not, bne_eq_false_iff_eq, gt_iff_lt, ge_iff_le, Bool.or_eq_true, Bool.and_eq_true] at hk2
              refine Run.sr ?_
              refine RunL.mv rfl rfl ?_
              refine RunL.call rfl rfl (by rfl) (by repeat (first | (with_reducible exact Take.nil _) | (apply Take.cons (by first | ((repeat (first | (with_reducible exact Find.here _) | apply Find.there)); done) | (repeat (first | exact Find.here _ | apply Find.there)))))) (RdFlag_ctr hbe (by omega)) (Wt.none rfl) rfl ?_
              rintro _ _ ⟨rfl, rfl⟩
              refine RunL.mv rfl rfl ?_
              refine RunL.call rfl rfl (by rfl) (by repeat (first | (with_reducible exact Take.nil _) | (apply Take.cons (by first | ((repeat (first | (with_reducible exact Find.here _) | apply Find.there)); done) | (repeat (first | exact Find.here _ | apply Find.there)))))) (RgFlag_ctr) (Wt.none rfl) rfl ?_
              rintro _ _ ⟨rfl, rfl⟩
              obtain ⟨hq1, hq2⟩ := rdFlag_inv hbe
              refine RunL.pure (Pure.bneq rfl rfl und4) (Wt.none rfl) rfl rfl ?_
              refine RunL.nil ?_
              refine Run.cond rfl (fun hx => ?_) (fun hx => ?_)
              · try simp only [decide_eq_true_eq, decide_eq_false_iff_not, beq_iff_eq, beq_eq_false_iff_ne, bne_iff_ne, ne_eq, Bool.not_eq_true', Bool.not_eq_false', Bool.not_eq_true, Bool.not_eq_false, Int.not_lt, Int.not_le, Decidable.not_not, bne_eq_false_iff_eq, gt_iff_lt, ge_iff_le, Bool.or_eq_true, Bool.and_eq_true] at hx
                exfalso; simp at hx
              · try simp only [decide_eq_true_eq, decide_eq_false_iff_not, beq_iff_eq, beq_eq_false_iff_ne, bne_iff_ne, ne_eq, Bool.not_eq_true', Bool.not_eq_false', Bool.not_eq_true, Bool.not_eq_false, Int.not_lt, Int.not_le, Decidable.not_not, bne_eq_false_iff_eq, gt_iff_lt, ge_iff_le, Bool.or_eq_true, Bool.and_eq_true] at hx
                refine Run.skip ?_
                refine Run.inBlock ?_
                refine Run.keep (.cons rfl (.cons rfl (.cons rfl (.cons rfl (.nil)))) : Keep _ [1, 6, 7, 8] _) ?_
                refine Run.fit (F := F) (A2 := Rd r _ _ :: Rg q _ _ :: F) (by repeat (first | (with_reducible exact Fin.done (by repeat (first | (with_reducible exact Rest.here) | apply Rest.there))) | (apply Fin.cons (by first | ((repeat (first | (with_reducible exact Find.here _) | apply Find.there)); done) | (repeat (first | exact Find.here _ | apply Find.there)))))) ?_
                exact hk _ _ ⟨_, _, hq1, by omega, rfl, rfl⟩
            · try simp only [decide_eq_true_eq, decide_eq_false_iff_not, beq_iff_eq, beq_eq_false_iff_ne, bne_iff_ne, ne_eq, Bool.not_eq_true', Bool.not_eq_false', Bool.not_eq_true, Bool.not_eq_false, Int.not_lt, Int.not_le, Decidable.not_not, bne_eq_false_iff_eq, gt_iff_lt, ge_iff_le, Bool.or_eq_true, Bool.and_eq_true] at hk2
              refine Run.seq ?_
              refine Run.regionD' (by kernel_rfl) (by kernel_rfl) (fun hok234 => ?_)
              refine RunD.pure (i := 0) hok234 rfl (by kernel_rfl) (Pure.move rfl) (Wt.none rfl) rfl rfl ?_
              refine RunD.pure (i := 1) hok234 rfl (by kernel_rfl) (Pure.move rfl) (Wt.none rfl) rfl rfl ?_
              refine RunD.pure (i := 2) hok234 rfl (by kernel_rfl) (Pure.move rfl) (Wt.none rfl) rfl rfl ?_
              refine RunD.pure (i := 3) hok234 rfl (by kernel_rfl) (Pure.indexAddr rfl rfl und45 sz46 (by omega) (by omega)) (Wt.none rfl) rfl rfl ?_
              refine RunD.pure (i := 4) hok234 rfl (by kernel_rfl) (Pure.indexAddrArr rfl rfl und46 sz3 (by omega) (by omega)) (Wt.none rfl) rfl rfl ?_
              refine RunD.load1R (i := 5) hok234 rfl (by kernel_rfl) rfl hro0 (by exact (show _ = some (.int .i64 pr.2) from elem_at (f := pairCells) (fun _ _ => rfl) hpr (j := 1) (by decide))) agg3 (Wt.none rfl) rfl ?_
              refine RunD.pure (i := 7) hok234 rfl (by kernel_rfl) (Pure.move rfl) (Wt.none rfl) rfl rfl ?_
              refine RunD.pure (i := 8) hok234 rfl (by kernel_rfl) (Pure.move rfl) (Wt.none rfl) rfl rfl ?_
              refine RunD.pure (i := 9) hok234 rfl (by kernel_rfl) (Pure.move rfl) (Wt.none rfl) rfl rfl ?_
              refine RunD.pure (i := 10) hok234 rfl (by kernel_rfl) (Pure.indexAddr rfl rfl und45 sz46 (by omega) (by omega)) (Wt.none rfl) rfl rfl ?_
              refine RunD.pure (i := 11) hok234 rfl (by kernel_rfl) (Pure.indexAddrArr rfl rfl und46 sz3 (by omega) (by omega)) (Wt.none rfl) rfl rfl ?_
              refine RunD.load1R (i := 12) hok234 rfl (by kernel_rfl) rfl hro0 (by exact (show _ = some (.int .i64 pr.2) from elem_at (f := pairCells) (fun _ _ => rfl) hpr (j := 1) (by decide))) agg3 (Wt.none rfl) rfl ?_
              refine RunD.one (i := 6) (by kernel_rfl) rfl ?_
              refine RunL.call rfl rfl (by rfl) (by repeat (first | (with_reducible exact Take.nil _) | (apply Take.cons (by first | ((repeat (first | (with_reducible exact Find.here _) | apply Find.there)); done) | (repeat (first | exact Find.here _ | apply Find.there)))))) (RdText_ctr (most := pr.2) hbe (by omega)) (Wt.none rfl) rfl ?_
              rintro _ _ ⟨s1, rfl, hs1, rfl⟩
              refine RunL.nilD' ?_
              refine RunD.one (i := 13) (by kernel_rfl) rfl ?_
              refine RunL.call rfl rfl (by rfl) (by repeat (first | (with_reducible exact Take.nil _) | (apply Take.cons (by first | ((repeat (first | (with_reducible exact Find.here _) | apply Find.there)); done) | (repeat (first | exact Find.here _ | apply Find.there)))))) (RgText_ctr (most := pr.2)) (Wt.none rfl) rfl ?_
              rintro _ _ ⟨s2, rfl, hs2, rfl⟩
              obtain ⟨hq1, hq2⟩ := rdText_inv (most := pr.2) hbe
              refine RunL.nilD' ?_
              refine RunD.pure (i := 14) hok234 rfl (by kernel_rfl) (Pure.sneq rfl rfl) (Wt.none rfl) rfl rfl ?_
              refine RunD.nilR (by kernel_rfl) ?_
              refine Run.cond rfl (fun hx => ?_) (fun hx => ?_)
              · try simp only [decide_eq_true_eq, decide_eq_false_iff_not, beq_iff_eq, beq_eq_false_iff_ne, bne_iff_ne, ne_eq, Bool.not_eq_true', Bool.not_eq_false', Bool.not_eq_true, Bool.not_eq_false, Int.not_lt, Int.not_le, Decidable.not_not, bne_eq_false_iff_eq, gt_iff_lt, ge_iff_le, Bool.or_eq_true, Bool.and_eq_true] at hx
                exfalso; exact hx (hs1.trans hs2.symm)
              · try simp only [decide_eq_true_eq, decide_eq_false_iff_not, beq_iff_eq, beq_eq_false_iff_ne, bne_iff_ne, ne_eq, Bool.not_eq_true', Bool.not_eq_false', Bool.not_eq_true, Bool.not_eq_false, Int.not_lt, Int.not_le, Decidable.not_not, bne_eq_false_iff_eq, gt_iff_lt, ge_iff_le, Bool.or_eq_true, Bool.and_eq_true] at hx
                refine Run.skip ?_
                refine Run.inBlock ?_
                refine Run.keep (.cons rfl (.cons rfl (.cons rfl (.cons rfl (.nil)))) : Keep _ [1, 6, 7, 8] _) ?_
                refine Run.fit (F := F) (A2 := Rd r _ _ :: Rg q _ _ :: F) (by repeat (first | (with_reducible exact Fin.done (by repeat (first | (with_reducible exact Rest.here) | apply Rest.there))) | (apply Fin.cons (by first | ((repeat (first | (with_reducible exact Find.here _) | apply Find.there)); done) | (repeat (first | exact Find.here _ | apply Find.there)))))) ?_
                exact hk _ _ ⟨_, _, hq1, by omega, rfl, rfl⟩
    · try simp only [decide_eq_true_eq, decide_eq_false_iff_not, beq_iff_eq, beq_eq_false_iff_ne, bne_iff_ne, ne_eq, Bool.not_eq_true', Bool.not_eq_false', Bool.not_eq_true, Bool.not_eq_false, Int.not_lt, Int.not_le, Decidable.not_not, bne_eq_false_iff_eq, gt_iff_lt, ge_iff_le, Bool.or_eq_true, Bool.and_eq_true] at hi8
      refine Run.exit rfl ?_
      refine Run.sr ?_
      refine RunL.call rfl rfl (by rfl) (by repeat (first | (with_reducible exact Take.nil _) | (apply Take.cons (by first | ((repeat (first | (with_reducible exact Find.here _) | apply Find.there)); done) | (repeat (first | exact Find.here _ | apply Find.there)))))) (lives_ctr) (Wt.none rfl) rfl ?_
      rintro _ _ ⟨rfl, rfl⟩
      refine RunL.as rfl rfl ?_
      refine RunL.nil ?_
      exact Run.ret Try.func7 (res1 rfl rfl) (by exact ⟨rfl, rfl⟩) (by repeat (first | (with_reducible exact Fin.done (by repeat (first | (with_reducible exact Rest.here) | apply Rest.there))) | (apply Fin.cons (by first | ((repeat (first | (with_reducible exact Find.here _) | apply Find.there)); done) | (repeat (first | exact Find.here _ | apply Find.there))))))
  · try simp only [decide_eq_true_eq, decide_eq_false_iff_not, beq_iff_eq, beq_eq_false_iff_ne, bne_iff_ne, ne_eq, Bool.not_eq_true', Bool.not_eq_false', Bool.not_eq_true, Bool.not_eq_false, Int.not_lt, Int.not_le, Decidable.not_not, bne_eq_false_iff_eq, gt_iff_lt, ge_iff_le, Bool.or_eq_true, Bool.and_eq_true] at hil
    refine RunL.not (Wt.no rfl rfl rfl) rfl rfl ?_
    refine RunL.not (Wt.no rfl rfl rfl) rfl rfl ?_
    refine RunL.pure (Pure.pickF rfl rfl) (Wt.none rfl) rfl rfl ?_
    refine RunL.nil ?_
    refine Run.condF rfl ?_
    refine Run.exit rfl ?_
    refine Run.sr ?_
    refine RunL.call rfl rfl (by rfl) (by repeat (first | (with_reducible exact Take.nil _) | (apply Take.cons (by first | ((repeat (first | (with_reducible exact Find.here _) | apply Find.there)); done) | (repeat (first | exact Find.here _ | apply Find.there)))))) (lives_ctr) (Wt.none rfl) rfl ?_
    rintro _ _ ⟨rfl, rfl⟩
    refine RunL.as rfl rfl ?_
    refine RunL.nil ?_
    exact Run.ret Try.func7 (res1 rfl rfl) (by exact ⟨rfl, rfl⟩) (by repeat (first | (with_reducible exact Fin.done (by repeat (first | (with_reducible exact Rest.here) | apply Rest.there))) | (apply Fin.cons (by first | ((repeat (first | (with_reducible exact Find.here _) | apply Find.there)); done) | (repeat (first | exact Find.here _ | apply Find.there))))))

set_option maxRecDepth 100000 in
theorem LayRound_ctr {G : Gp} {aL aS aB : Option Addr} {cL cS cB : Nat} {l : List Int} {ss : List ByteArray} {fl : List Bool} (hL : SlR G 3 1 aL l.length (l.map (Value.int .i64))) (hS : SlR G 9 1 aS ss.length (ss.map Value.string)) (hB : SlR G 4 1 aB fl.length (fl.map Value.bool)) (hwl : ∀ x ∈ l, (Lit.int .i64 x).wf = true) :
    Ctr Try.prog G 8 [.slice aL l.length cL, .slice aS ss.length cS, .slice aB fl.length cB] [] (fun F v A => v = .bool true ∧ A = F) := by
  refine Ctr.intro Try.func8 rfl (by kernel_rfl) rfl (fun F => ?_)
  simp only [List.nil_append]
  obtain ⟨N, hN, hN1, hN2, hN3, hN5⟩ : ∃ N : Nat, min (min (l.length : Int) (min (ss.length : Int) (fl.length : Int))) 5 = (N : Int) ∧ N ≤ l.length ∧ N ≤ ss.length ∧ N ≤ fl.length ∧ N ≤ 5 := ⟨(min (min (l.length : Int) (min (ss.length : Int) (fl.length : Int))) 5).toNat, by omega, by omega, by omega, by omega, by omega⟩
  refine Run.sr ?_
  refine RunL.as rfl rfl ?_
  refine RunL.nil ?_
  refine Run.sr ?_
  refine RunL.as rfl rfl ?_
  refine RunL.nil ?_
  refine Run.sr ?_
  refine RunL.mv rfl rfl ?_
  refine RunL.pure (Pure.lenSl rfl rfl und48) (Wt.none rfl) rfl rfl ?_
  refine RunL.mv rfl rfl ?_
  refine RunL.pure (Pure.lenSl rfl rfl und49) (Wt.none rfl) rfl rfl ?_
  refine RunL.mv rfl rfl ?_
  refine RunL.pure (Pure.lenSl rfl rfl und50) (Wt.none rfl) rfl rfl ?_
  refine RunL.pure (Pure.min2 rfl rfl) (Wt.none rfl) rfl rfl ?_
  refine RunL.pure (Pure.min2 rfl rfl) (Wt.none rfl) rfl rfl ?_
  refine RunL.as rfl rfl ?_
  refine RunL.nil ?_
  refine Run.sr ?_
  refine RunL.mv rfl rfl ?_
  refine RunL.pure (Pure.min2 rfl rfl) (Wt.none rfl) rfl rfl ?_
  refine RunL.as rfl rfl ?_
  refine RunL.nil ?_
  refine Run.seq ?_
  refine Run.sr ?_
  refine RunL.as rfl rfl ?_
  refine RunL.nil ?_
  refine Run.block ?_
  refine Run.nilSl 5 1 ?_
  refine Run.keep (.cons rfl (.cons rfl (.cons rfl (.cons rfl (.cons rfl (.cons rfl (.nil)))))) : Keep _ [0, 1, 2, 7, 8, 9] _) ?_
  refine Run.loopR (fun n e A => ∃ (i : Nat) (a : Option Addr) (c : Nat) (acc : List UInt8), i ≤ N ∧ acc = upto l ss fl i ∧ n = N - i ∧ e = [(0, .slice aL l.length cL), (1, .slice aS ss.length cS), (2, .slice aB fl.length cB), (7, .slice a acc.length c), (8, .int .i64 (N : Nat)), (9, .int .i64 (i : Nat))] ∧ A = Sl 5 1 a acc.length c (acc.map bv) :: F) (N) ⟨0, none, 0, [], Nat.zero_le _, rfl, rfl, by rw [hN]; rfl, rfl⟩ ?_
  rintro n _ _ ⟨i, a, c, acc, hiN0, hacc, rfl, rfl, rfl⟩ ih
  refine Run.seq ?_
  refine Run.sr ?_
  refine RunL.mv rfl rfl ?_
  refine RunL.mv rfl rfl ?_
  refine RunL.pure (Pure.lss rfl rfl) (Wt.none rfl) rfl rfl ?_
  refine RunL.nil ?_
  refine Run.cond rfl (fun hi => ?_) (fun hi => ?_)
  · try simp only [decide_eq_true_eq, decide_eq_false_iff_not, beq_iff_eq, beq_eq_false_iff_ne, bne_iff_ne, ne_eq, Bool.not_eq_true', Bool.not_eq_false', Bool.not_eq_true, Bool.not_eq_false, Int.not_lt, Int.not_le, Decidable.not_not, bne_eq_false_iff_eq, gt_iff_lt, ge_iff_le, Bool.or_eq_true, Bool.and_eq_true] at hi
    obtain ⟨bL, TL, preL, postL, rfl, roL⟩ := hL.open1 (show 0 < l.length by omega)
    obtain ⟨bS, TS, preS, postS, rfl, roS⟩ := hS.open1 (show 0 < ss.length by omega)
    obtain ⟨bB, TB, preB, postB, rfl, roB⟩ := hB.open1 (show 0 < fl.length by omega)
    obtain ⟨x, hx⟩ := get_some (xs := l) (i := i) (by omega)
    obtain ⟨s, hs⟩ := get_some (xs := ss) (i := i) (by omega)
    obtain ⟨f, hf⟩ := get_some (xs := fl) (i := i) (by omega)
    have hxw := wf_i64 (hwl x (List.mem_of_getElem? hx))
    have hal := upto_len ss fl (fun x hx => (wf_i64 (hwl x hx)).2) i
    rw [← hacc] at hal
    refine Run.skip ?_
    refine Run.seq ?_
    refine Run.block ?_
    refine Run.sr ?_
    refine RunL.mv rfl rfl ?_
    refine RunL.mv rfl rfl ?_
    refine RunL.mv rfl rfl ?_
    refine RunL.pure (Pure.indexAddr rfl rfl und48 sz3 (by omega) (by omega)) (Wt.none rfl) rfl rfl ?_
    refine RunL.load1R rfl roL (by exact (show _ = some (.int .i64 x) from elem1_at hx)) agg3 (Wt.none rfl) rfl ?_
    refine RunL.call rfl rfl (by rfl) (by repeat (first | (with_reducible exact Take.nil _) | (apply Take.cons (by first | ((repeat (first | (with_reducible exact Find.here _) | apply Find.there)); done) | (repeat (first | exact Find.here _ | apply Find.there)))))) (Ctr.lend (R := fun G => SlR G 5 1 _ _ _ ∧ _ ≤ _) Lends.Sl cb11 (fun G' hle hr => Number_ctr hr.1 hr.2 (z := x) (by omega) (by omega))) (Wt.none rfl) rfl ?_
    rintro _ _ ⟨_, rfl, a3, c3, rfl, rfl⟩
    have hn9 := numN_le x.toNat (by omega)
    refine RunL.as rfl rfl ?_
    refine RunL.nil ?_
    refine Run.sr ?_
    refine RunL.mv rfl rfl ?_
    refine RunL.mv rfl rfl ?_
    refine RunL.mv rfl rfl ?_
    refine RunL.pure (Pure.indexAddr rfl rfl und49 sz9 (by omega) (by omega)) (Wt.none rfl) rfl rfl ?_
    refine RunL.load1R rfl roS (by exact (show _ = some (.string s) from elem1_at hs)) agg9 (Wt.none rfl) rfl ?_
    refine RunL.call rfl rfl (by rfl) (by repeat (first | (with_reducible exact Take.nil _) | (apply Take.cons (by first | ((repeat (first | (with_reducible exact Find.here _) | apply Find.there)); done) | (repeat (first | exact Find.here _ | apply Find.there)))))) (Few_ctr (m := 20) (by decide) (by decide)) (Wt.none rfl) rfl ?_
    rintro _ _ ⟨s', rfl, hs', rfl⟩
    have h20 : s'.size ≤ 20 := by rw [← bl_length, hs', List.length_take]; omega
    have hm9 := numN_le s'.size (by omega)
    refine RunL.call rfl rfl (by rfl) (by repeat (first | (with_reducible exact Take.nil _) | (apply Take.cons (by first | ((repeat (first | (with_reducible exact Find.here _) | apply Find.there)); done) | (repeat (first | exact Find.here _ | apply Find.there)))))) (Ctr.lend (R := fun G => SlR G 5 1 _ _ _ ∧ _ ≤ _) Lends.Sl cb12 (fun G' hle hr => Text_ctr hr.1 hr.2 (s := s') (by simp; omega) (by omega))) (Wt.none rfl) rfl ?_
    rintro _ _ ⟨_, rfl, a4, c4, rfl, rfl⟩
    refine RunL.as rfl rfl ?_
    refine RunL.nil ?_
    refine Run.region ?_
    refine RunL.mv rfl rfl ?_
    refine RunL.mv rfl rfl ?_
    refine RunL.mv rfl rfl ?_
    refine RunL.pure (Pure.indexAddr rfl rfl und50 sz4 (by omega) (by omega)) (Wt.none rfl) rfl rfl ?_
    refine RunL.load1R rfl roB (by exact (show _ = some (.bool f) from elem1_at hf)) agg4 (Wt.none rfl) rfl ?_
    refine RunL.call rfl rfl (by rfl) (by repeat (first | (with_reducible exact Take.nil _) | (apply Take.cons (by first | ((repeat (first | (with_reducible exact Find.here _) | apply Find.there)); done) | (repeat (first | exact Find.here _ | apply Find.there)))))) (Ctr.lend (R := fun G => SlR G 5 1 _ _ _ ∧ _ ≤ _) Lends.Sl cb13 (fun G' hle hr => Flag_ctr hr.1 hr.2 (is := f) (by simp [bl_length]; omega))) (Wt.none rfl) rfl ?_
    rintro _ _ ⟨_, rfl, a5, c5, rfl, rfl⟩
    refine RunL.as rfl rfl ?_
    refine RunL.nil ?_
    refine Run.inBlock ?_
    refine Run.region ?_
    refine RunL.mv rfl rfl ?_
    first | refine RunL.pure (Pure.addI rfl rfl (by omega)) (Wt.none rfl) rfl rfl ?_ | refine RunL.pure (Pure.add rfl rfl) (Wt.none rfl) rfl rfl ?_
    refine RunL.as rfl rfl ?_
    refine RunL.nil ?_
    refine Run.keep (.cons rfl (.cons rfl (.cons rfl (.cons rfl (.cons rfl (.cons rfl (.nil)))))) : Keep _ [0, 1, 2, 7, 8, 9] _) ?_
    refine Run.fit (F := F) (A2 := Sl 5 1 a5 _ c5 _ :: F) (by repeat (first | (with_reducible exact Fin.done (by repeat (first | (with_reducible exact Rest.here) | apply Rest.there))) | (apply Fin.cons (by first | ((repeat (first | (with_reducible exact Find.here _) | apply Find.there)); done) | (repeat (first | exact Find.here _ | apply Find.there)))))) ?_
    refine ih _ _ _ ?_ ⟨i + 1, a5, c5, _, by omega, (by rw [upto_succ, ← hacc]; unfold trip; rw [getD_of hx, getD_of hs, getD_of hf, show (List.take 20 (bl s)) = bl s' from hs'.symm, bl_length]; simp only [List.append_assoc]), rfl, rfl, rfl⟩
    omega
  · try simp only [decide_eq_true_eq, decide_eq_false_iff_not, beq_iff_eq, beq_eq_false_iff_ne, bne_iff_ne, ne_eq, Bool.not_eq_true', Bool.not_eq_false', Bool.not_eq_true, Bool.not_eq_false, Int.not_lt, Int.not_le, Decidable.not_not, bne_eq_false_iff_eq, gt_iff_lt, ge_iff_le, Bool.or_eq_true, Bool.and_eq_true] at hi
    have hiN : i = N := by omega
    rw [hiN] at hacc
    have hal := upto_len ss fl (fun x hx => (wf_i64 (hwl x hx)).2) N
    rw [← hacc] at hal
    refine Run.exit rfl ?_
    refine Run.sr ?_
    refine RunL.mv rfl rfl ?_
    refine RunL.call rfl rfl (by rfl) (by repeat (first | (with_reducible exact Take.nil _) | (apply Take.cons (by first | ((repeat (first | (with_reducible exact Find.here _) | apply Find.there)); done) | (repeat (first | exact Find.here _ | apply Find.there)))))) (Ctr.lend (R := fun G => SlR G 5 1 _ _ _ ∧ _ ≤ _) Lends.Sl cb19 (fun G' hle hr => Read_ctr hr.1 (by omega))) (Wt.none rfl) rfl ?_
    rintro _ _ ⟨_, rfl, r, rfl, rfl⟩
    rw [hacc, ← since_zero]
    refine RunL.as rfl rfl ?_
    refine RunL.nil ?_
    refine Run.seq ?_
    refine Run.sr ?_
    refine RunL.mv rfl rfl ?_
    refine RunL.pure (Pure.ptrEqNil rfl rfl und33) (Wt.none rfl) rfl rfl ?_
    refine RunL.nil ?_
    refine Run.condF rfl ?_
    refine Run.skip ?_
    refine Run.seq ?_
    refine Run.sr ?_
    refine RunL.as rfl rfl ?_
    refine RunL.nil ?_
    refine Run.block ?_
    refine Run.keep (.cons rfl (.cons rfl (.cons rfl (.cons rfl (.cons rfl (.cons rfl (.nil)))))) : Keep _ [0, 1, 2, 8, 10, 11] _) ?_
    refine Run.fit (F := F) (A2 := Rd r _ 0 :: F) (by repeat (first | (with_reducible exact Fin.done (by repeat (first | (with_reducible exact Rest.here) | apply Rest.there))) | (apply Fin.cons (by first | ((repeat (first | (with_reducible exact Find.here _) | apply Find.there)); done) | (repeat (first | exact Find.here _ | apply Find.there)))))) ?_
    refine Run.loopR (fun n e A => ∃ (i : Nat), i ≤ N ∧ n = N - i ∧ e = [(0, .slice aL l.length cL), (1, .slice aS ss.length cS), (2, .slice aB fl.length cB), (8, .int .i64 (N : Nat)), (10, .pointer (some ⟨r, 0, none⟩)), (11, .int .i64 (i : Nat))] ∧ A = Rd r (since l ss fl N i) 0 :: F) (N) ⟨0, by omega, by omega, rfl, rfl⟩ ?_
    rintro n _ _ ⟨i, hiN, rfl, rfl, rfl⟩ ih
    refine Run.seq ?_
    refine Run.sr ?_
    refine RunL.mv rfl rfl ?_
    refine RunL.mv rfl rfl ?_
    refine RunL.pure (Pure.lss rfl rfl) (Wt.none rfl) rfl rfl ?_
    refine RunL.nil ?_
    refine Run.cond rfl (fun hi => ?_) (fun hi => ?_)
    · try simp only [decide_eq_true_eq, decide_eq_false_iff_not, beq_iff_eq, beq_eq_false_iff_ne, bne_iff_ne, ne_eq, Bool.not_eq_true', Bool.not_eq_false', Bool.not_eq_true, Bool.not_eq_false, Int.not_lt, Int.not_le, Decidable.not_not, bne_eq_false_iff_eq, gt_iff_lt, ge_iff_le, Bool.or_eq_true, Bool.and_eq_true] at hi
      obtain ⟨bL, TL, preL, postL, rfl, roL⟩ := hL.open1 (show 0 < l.length by omega)
      obtain ⟨bS, TS, preS, postS, rfl, roS⟩ := hS.open1 (show 0 < ss.length by omega)
      obtain ⟨bB, TB, preB, postB, rfl, roB⟩ := hB.open1 (show 0 < fl.length by omega)
      obtain ⟨x, hx⟩ := get_some (xs := l) (i := i) (by omega)
      obtain ⟨s, hs⟩ := get_some (xs := ss) (i := i) (by omega)
      obtain ⟨f, hf⟩ := get_some (xs := fl) (i := i) (by omega)
      have hxw := wf_i64 (hwl x (List.mem_of_getElem? hx))
      rw [since_step l ss fl (show i < N by omega)]
      have hal := trip_len ss fl i (fun x hx => (wf_i64 (hwl x hx)).2)
      have hsl := upto_len ss fl (fun x hx => (wf_i64 (hwl x hx)).2) N
      have hsi := since_len l ss fl N (i + 1) hsl
      unfold trip at hal ⊢
      rw [getD_of hx, getD_of hs, getD_of hf] at hal ⊢
      generalize hrest : since l ss fl N (i + 1) = rest at *
      simp only [List.append_assoc, List.singleton_append] at hal ⊢
      simp only [List.length_append, List.length_cons] at hal
      refine Run.skip ?_
      refine Run.seq ?_
      refine Run.block ?_
      refine Run.seq ?_
      refine Run.regionD' (by kernel_rfl) (by kernel_rfl) (fun hok153 => ?_)
      refine RunD.pure (i := 0) hok153 rfl (by kernel_rfl) (Pure.move rfl) (Wt.none rfl) rfl rfl ?_
      refine RunD.pure (i := 2) hok153 rfl (by kernel_rfl) (Pure.move rfl) (Wt.none rfl) rfl rfl ?_
      refine RunD.pure (i := 3) hok153 rfl (by kernel_rfl) (Pure.move rfl) (Wt.none rfl) rfl rfl ?_
      refine RunD.pure (i := 4) hok153 rfl (by kernel_rfl) (Pure.indexAddr rfl rfl und48 sz3 (by omega) (by omega)) (Wt.none rfl) rfl rfl ?_
      refine RunD.load1R (i := 5) hok153 rfl (by kernel_rfl) rfl roL (by exact (show _ = some (.int .i64 x) from elem1_at hx)) agg3 (Wt.none rfl) rfl ?_
      refine RunD.pure (i := 6) hok153 rfl (by kernel_rfl) (Pure.max2 rfl rfl) (Wt.none rfl) rfl rfl ?_
      refine RunD.one (i := 1) (by kernel_rfl) rfl ?_
      refine RunL.call rfl rfl (by rfl) (by repeat (first | (with_reducible exact Take.nil _) | (apply Take.cons (by first | ((repeat (first | (with_reducible exact Find.here _) | apply Find.there)); done) | (repeat (first | exact Find.here _ | apply Find.there)))))) (RdNumber_ctr (fun h => absurd rfl h) (by simp only [List.length_append, List.length_cons]; omega)) (Wt.none rfl) rfl ?_
      rintro _ _ ⟨rfl, rfl⟩
      rw [rdNum_put (by omega)]
      refine RunL.nilD' ?_
      refine RunD.pure (i := 7) hok153 rfl (by kernel_rfl) (Pure.neq rfl rfl) (Wt.none rfl) rfl rfl ?_
      refine RunD.pure (i := 8) hok153 rfl (by kernel_rfl) (Pure.move rfl) (Wt.none rfl) rfl rfl ?_
      refine RunD.split (d := 63) rfl (fun hx1 => ?_) (fun hx1 => ?_)
      · try simp only [decide_eq_true_eq, decide_eq_false_iff_not, beq_iff_eq, beq_eq_false_iff_ne, bne_iff_ne, ne_eq, Bool.not_eq_true', Bool.not_eq_false', Bool.not_eq_true, Bool.not_eq_false, Int.not_lt, Int.not_le, Decidable.not_not, bne_eq_false_iff_eq, gt_iff_lt, ge_iff_le, Bool.or_eq_true, Bool.and_eq_true] at hx1
        exfalso; omega
      · try simp only [decide_eq_true_eq, decide_eq_false_iff_not, beq_iff_eq, beq_eq_false_iff_ne, bne_iff_ne, ne_eq, Bool.not_eq_true', Bool.not_eq_false', Bool.not_eq_true, Bool.not_eq_false, Int.not_lt, Int.not_le, Decidable.not_not, bne_eq_false_iff_eq, gt_iff_lt, ge_iff_le, Bool.or_eq_true, Bool.and_eq_true] at hx1
        refine RunD.pure (i := 9) hok153 rfl (by kernel_rfl) (Pure.move rfl) (Wt.yes rfl rfl rfl) rfl rfl ?_
        refine RunD.pure (i := 11) hok153 rfl (by kernel_rfl) (Pure.move rfl) (Wt.yes rfl rfl rfl) rfl rfl ?_
        refine RunD.pure (i := 12) hok153 rfl (by kernel_rfl) (Pure.move rfl) (Wt.yes rfl rfl rfl) rfl rfl ?_
        refine RunD.pure (i := 13) hok153 rfl (by kernel_rfl) (Pure.indexAddr rfl rfl und49 sz9 (by omega) (by omega)) (Wt.yes rfl rfl rfl) rfl rfl ?_
        refine RunD.load1R (i := 14) hok153 rfl (by kernel_rfl) rfl roS (by exact (show _ = some (.string s) from elem1_at hs)) agg9 (Wt.yes rfl rfl rfl) rfl ?_
        refine RunD.one (i := 10) (by kernel_rfl) rfl ?_
        refine RunL.call rfl rfl (by rfl) (by repeat (first | (with_reducible exact Take.nil _) | (apply Take.cons (by first | ((repeat (first | (with_reducible exact Find.here _) | apply Find.there)); done) | (repeat (first | exact Find.here _ | apply Find.there)))))) (RdText_ctr (most := 20) (er := 0) (fun h => absurd rfl h) (by simp only [List.length_append, List.length_cons]; omega)) (Wt.yes rfl rfl rfl) rfl ?_
        rintro _ _ ⟨s2, rfl, hs2, rfl⟩
        have h20 : (List.take 20 (bl s)).length ≤ 20 := by rw [List.length_take]; omega
        rw [← List.append_assoc, rdText_put (by omega) (by omega)] at *
        refine RunL.nilD' ?_
        refine RunD.one (i := 15) (by kernel_rfl) rfl ?_
        refine RunL.call rfl rfl (by rfl) (by repeat (first | (with_reducible exact Take.nil _) | (apply Take.cons (by first | ((repeat (first | (with_reducible exact Find.here _) | apply Find.there)); done) | (repeat (first | exact Find.here _ | apply Find.there)))))) (Few_ctr (m := 20) (by decide) (by decide)) (Wt.yes rfl rfl rfl) rfl ?_
        rintro _ _ ⟨s', rfl, hs', rfl⟩
        refine RunL.nilD' ?_
        refine RunD.pure (i := 16) hok153 rfl (by kernel_rfl) (Pure.sneq rfl rfl) (Wt.yes rfl rfl rfl) rfl rfl ?_
        refine RunD.pure (i := 17) hok153 rfl (by kernel_rfl) (Pure.pickF rfl rfl) (Wt.none rfl) rfl rfl ?_
        refine RunD.pure (i := 18) hok153 rfl (by kernel_rfl) (Pure.move rfl) (Wt.none rfl) rfl rfl ?_
        refine RunD.split (d := 73) rfl (fun hx2 => ?_) (fun hx2 => ?_)
        · try simp only [decide_eq_true_eq, decide_eq_false_iff_not, beq_iff_eq, beq_eq_false_iff_ne, bne_iff_ne, ne_eq, Bool.not_eq_true', Bool.not_eq_false', Bool.not_eq_true, Bool.not_eq_false, Int.not_lt, Int.not_le, Decidable.not_not, bne_eq_false_iff_eq, gt_iff_lt, ge_iff_le, Bool.or_eq_true, Bool.and_eq_true] at hx2
          exfalso; exact hx2 (hs2.trans hs'.symm)
        · try simp only [decide_eq_true_eq, decide_eq_false_iff_not, beq_iff_eq, beq_eq_false_iff_ne, bne_iff_ne, ne_eq, Bool.not_eq_true', Bool.not_eq_false', Bool.not_eq_true, Bool.not_eq_false, Int.not_lt, Int.not_le, Decidable.not_not, bne_eq_false_iff_eq, gt_iff_lt, ge_iff_le, Bool.or_eq_true, Bool.and_eq_true] at hx2
          refine RunD.pure (i := 19) hok153 rfl (by kernel_rfl) (Pure.move rfl) (Wt.yes rfl rfl rfl) rfl rfl ?_
          refine RunD.pure (i := 21) hok153 rfl (by kernel_rfl) (Pure.move rfl) (Wt.yes rfl rfl rfl) rfl rfl ?_
          refine RunD.pure (i := 22) hok153 rfl (by kernel_rfl) (Pure.move rfl) (Wt.yes rfl rfl rfl) rfl rfl ?_
          refine RunD.pure (i := 23) hok153 rfl (by kernel_rfl) (Pure.indexAddr rfl rfl und50 sz4 (by omega) (by omega)) (Wt.yes rfl rfl rfl) rfl rfl ?_
          refine RunD.load1R (i := 24) hok153 rfl (by kernel_rfl) rfl roB (by exact (show _ = some (.bool f) from elem1_at hf)) agg4 (Wt.yes rfl rfl rfl) rfl ?_
          refine RunD.one (i := 20) (by kernel_rfl) rfl ?_
          refine RunL.call rfl rfl (by rfl) (by repeat (first | (with_reducible exact Take.nil _) | (apply Take.cons (by first | ((repeat (first | (with_reducible exact Find.here _) | apply Find.there)); done) | (repeat (first | exact Find.here _ | apply Find.there)))))) (RdFlag_ctr (er := 0) (fun h => absurd rfl h) (by simp only [List.length_cons]; omega)) (Wt.yes rfl rfl rfl) rfl ?_
          rintro _ _ ⟨rfl, rfl⟩
          rw [rdFlag_put]
          refine RunL.nilD' ?_
          refine RunD.pure (i := 25) hok153 rfl (by kernel_rfl) (Pure.bneq rfl rfl und4) (Wt.yes rfl rfl rfl) rfl rfl ?_
          refine RunD.pure (i := 26) hok153 rfl (by kernel_rfl) (Pure.pickF rfl rfl) (Wt.none rfl) rfl rfl ?_
          refine RunD.nilR (by kernel_rfl) ?_
          refine Run.cond rfl (fun hx3 => ?_) (fun hx3 => ?_)
          · try simp only [decide_eq_true_eq, decide_eq_false_iff_not, beq_iff_eq, beq_eq_false_iff_ne, bne_iff_ne, ne_eq, Bool.not_eq_true', Bool.not_eq_false', Bool.not_eq_true, Bool.not_eq_false, Int.not_lt, Int.not_le, Decidable.not_not, bne_eq_false_iff_eq, gt_iff_lt, ge_iff_le, Bool.or_eq_true, Bool.and_eq_true] at hx3
            exfalso; simp at hx3
          · try simp only [decide_eq_true_eq, decide_eq_false_iff_not, beq_iff_eq, beq_eq_false_iff_ne, bne_iff_ne, ne_eq, Bool.not_eq_true', Bool.not_eq_false', Bool.not_eq_true, Bool.not_eq_false, Int.not_lt, Int.not_le, Decidable.not_not, bne_eq_false_iff_eq, gt_iff_lt, ge_iff_le, Bool.or_eq_true, Bool.and_eq_true] at hx3
            refine Run.skip ?_
            refine Run.inBlock ?_
            refine Run.region ?_
            refine RunL.mv rfl rfl ?_
            first | refine RunL.pure (Pure.addI rfl rfl (by omega)) (Wt.none rfl) rfl rfl ?_ | refine RunL.pure (Pure.add rfl rfl) (Wt.none rfl) rfl rfl ?_
            refine RunL.as rfl rfl ?_
            refine RunL.nil ?_
            refine Run.keep (.cons rfl (.cons rfl (.cons rfl (.cons rfl (.cons rfl (.cons rfl (.nil)))))) : Keep _ [0, 1, 2, 8, 10, 11] _) ?_
            refine ih _ _ _ ?_ ⟨i + 1, by omega, rfl, rfl, by rw [hrest]⟩
            omega
    · try simp only [decide_eq_true_eq, decide_eq_false_iff_not, beq_iff_eq, beq_eq_false_iff_ne, bne_iff_ne, ne_eq, Bool.not_eq_true', Bool.not_eq_false', Bool.not_eq_true, Bool.not_eq_false, Int.not_lt, Int.not_le, Decidable.not_not, bne_eq_false_iff_eq, gt_iff_lt, ge_iff_le, Bool.or_eq_true, Bool.and_eq_true] at hi
      obtain rfl : i = N := by omega
      rw [since_end]
      refine Run.exit rfl ?_
      refine Run.sr ?_
      refine RunL.mv rfl rfl ?_
      refine RunL.call rfl rfl (by rfl) (by repeat (first | (with_reducible exact Take.nil _) | (apply Take.cons (by first | ((repeat (first | (with_reducible exact Find.here _) | apply Find.there)); done) | (repeat (first | exact Find.here _ | apply Find.there)))))) (Ctr.lend (R := fun G => ∃ a cap, Ro G _ 53 [.slice a _ cap, .int .i64 _]) Lends.Rd cb29 (fun G' hle hr => RdEnd_ctr hr.choose_spec.choose_spec)) (Wt.none rfl) rfl ?_
      rintro _ _ ⟨_, rfl, rfl, rfl⟩
      refine RunL.pure (Pure.eql rfl rfl) (Wt.none rfl) rfl rfl ?_
      refine RunL.mv rfl rfl ?_
      refine RunL.split (d := 85) rfl (fun hg => ?_) (fun hg => ?_)
      · try simp only [decide_eq_true_eq, decide_eq_false_iff_not, beq_iff_eq, beq_eq_false_iff_ne, bne_iff_ne, ne_eq, Bool.not_eq_true', Bool.not_eq_false', Bool.not_eq_true, Bool.not_eq_false, Int.not_lt, Int.not_le, Decidable.not_not, bne_eq_false_iff_eq, gt_iff_lt, ge_iff_le, Bool.or_eq_true, Bool.and_eq_true] at hg
        refine RunL.pure (Pure.move rfl) (Wt.yes rfl rfl rfl) rfl rfl ?_
        refine RunL.call rfl rfl (by rfl) (by repeat (first | (with_reducible exact Take.nil _) | (apply Take.cons (by first | ((repeat (first | (with_reducible exact Find.here _) | apply Find.there)); done) | (repeat (first | exact Find.here _ | apply Find.there)))))) (Ctr.lend (R := fun G => ∃ a cap, Ro G _ 53 [.slice a _ cap, .int .i64 _]) Lends.Rd cb23 (fun G' hle hr => RdLeft_ctr hr.choose_spec.choose_spec)) (Wt.yes rfl rfl rfl) rfl ?_
        rintro _ _ ⟨_, rfl, rfl, rfl⟩
        refine RunL.pure (Pure.eql rfl rfl) (Wt.yes rfl rfl rfl) rfl rfl ?_
        refine RunL.pure (Pure.pickT rfl rfl) (Wt.none rfl) rfl rfl ?_
        refine RunL.mv rfl rfl ?_
        refine RunL.split (d := 90) rfl (fun hg => ?_) (fun hg => ?_)
        · try simp only [decide_eq_true_eq, decide_eq_false_iff_not, beq_iff_eq, beq_eq_false_iff_ne, bne_iff_ne, ne_eq, Bool.not_eq_true', Bool.not_eq_false', Bool.not_eq_true, Bool.not_eq_false, Int.not_lt, Int.not_le, Decidable.not_not, bne_eq_false_iff_eq, gt_iff_lt, ge_iff_le, Bool.or_eq_true, Bool.and_eq_true] at hg
          refine RunL.call rfl rfl (by rfl) (by repeat (first | (with_reducible exact Take.nil _) | (apply Take.cons (by first | ((repeat (first | (with_reducible exact Find.here _) | apply Find.there)); done) | (repeat (first | exact Find.here _ | apply Find.there)))))) (lives_ctr) (Wt.yes rfl rfl rfl) rfl ?_
          rintro _ _ ⟨rfl, rfl⟩
          refine RunL.pure (Pure.pickT rfl rfl) (Wt.none rfl) rfl rfl ?_
          refine RunL.as rfl rfl ?_
          refine RunL.nil ?_
          exact Run.ret Try.func8 (res1 rfl rfl) (by exact ⟨rfl, rfl⟩) (by repeat (first | (with_reducible exact Fin.done (by repeat (first | (with_reducible exact Rest.here) | apply Rest.there))) | (apply Fin.cons (by first | ((repeat (first | (with_reducible exact Find.here _) | apply Find.there)); done) | (repeat (first | exact Find.here _ | apply Find.there))))))
        · try simp only [decide_eq_true_eq, decide_eq_false_iff_not, beq_iff_eq, beq_eq_false_iff_ne, bne_iff_ne, ne_eq, Bool.not_eq_true', Bool.not_eq_false', Bool.not_eq_true, Bool.not_eq_false, Int.not_lt, Int.not_le, Decidable.not_not, bne_eq_false_iff_eq, gt_iff_lt, ge_iff_le, Bool.or_eq_true, Bool.and_eq_true] at hg
          exfalso; simp at hg
      · try simp only [decide_eq_true_eq, decide_eq_false_iff_not, beq_iff_eq, beq_eq_false_iff_ne, bne_iff_ne, ne_eq, Bool.not_eq_true', Bool.not_eq_false', Bool.not_eq_true, Bool.not_eq_false, Int.not_lt, Int.not_le, Decidable.not_not, bne_eq_false_iff_eq, gt_iff_lt, ge_iff_le, Bool.or_eq_true, Bool.and_eq_true] at hg
        exfalso; simp [rdEnd] at hg

end Go.Proofs.Ytgfdgekhjnegcaa
