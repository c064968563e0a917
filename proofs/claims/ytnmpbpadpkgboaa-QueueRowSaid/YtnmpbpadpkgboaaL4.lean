/- In which row. -/
import Derived.Test.YtnmpbpadpkgboaaL0
set_option linter.unusedVariables false
set_option linter.unusedSimpArgs false
set_option linter.unusedSectionVars false
namespace Go.Proofs.Ytnmpbpadpkgboaa
open Go Csl
theorem cb22 : Callable Try.prog 22 := ⟨_, Try.func22, by kernel_rfl, by kernel_rfl⟩

set_option maxHeartbeats 4000000 in
set_option maxRecDepth 100000 in
theorem QueueRow_ctr {G : Gp} {a : Option Addr} {cap : Nat} {xs : List Edu} (h : SlR G 31 11 a xs.length (xs.flatMap cEdu)) (hn : xs.length ≤ 9223372036854775807) (hxo : ∀ x ∈ xs, okEdu x) :
    Ctr Try.prog G 7 [.slice a xs.length cap] [] (fun F v A => v = .bool true ∧ A = F) := by
  refine Ctr.intro Try.func7 rfl (by kernel_rfl) rfl (fun F => ?_)
  simp only [List.nil_append]
  refine Run.sr ?_
  refine RunL.as rfl rfl ?_
  refine RunL.nil ?_
  refine Run.sr ?_
  refine RunL.call rfl rfl (by rfl) (by repeat (first | (with_reducible exact Take.nil _) | (apply Take.cons (by first | ((repeat (first | (with_reducible exact Find.here _) | apply Find.there)); done) | (repeat (first | exact Find.here _ | apply Find.there)))))) (qNewT_ctr (z := 120) (by decide)) (Wt.none rfl) rfl ?_
  rintro _ _ ⟨p, rfl, hA_⟩
  replace hA_ := hA_.symm; subst hA_
  refine RunL.mv rfl rfl ?_
  refine RunL.pure (Pure.extract rfl rfl) (Wt.none rfl) rfl rfl ?_
  refine RunL.pure (Pure.extract rfl rfl) (Wt.none rfl) rfl rfl ?_
  refine RunL.as rfl rfl ?_
  refine RunL.as rfl rfl ?_
  refine RunL.nil ?_
  refine Run.seq ?_
  refine Run.sr ?_
  refine RunL.mv rfl rfl ?_
  refine RunL.pure (Pure.ptrEqNil rfl rfl und24) (Wt.none rfl) rfl rfl ?_
  refine RunL.mv rfl rfl ?_
  refine RunL.pure (Pure.move rfl) (Wt.yes rfl rfl rfl) rfl rfl ?_
  refine RunL.pure (Pure.neq rfl rfl) (Wt.yes rfl rfl rfl) rfl rfl ?_
  refine RunL.pure (Pure.pickF rfl rfl) (Wt.none rfl) rfl rfl ?_
  refine RunL.nil ?_
  refine Run.cond rfl (fun hc1 => ?_) (fun hc1 => ?_)
  · try simp only [decide_eq_true_eq, decide_eq_false_iff_not, beq_iff_eq, beq_eq_false_iff_ne, bne_iff_ne, ne_eq, Bool.not_eq_true', Bool.not_eq_false', Bool.not_eq_true, Bool.not_eq_false, Int.not_lt, Int.not_le, Decidable.not_not, bne_eq_false_iff_eq, gt_iff_lt, ge_iff_le, Bool.or_eq_true, Bool.and_eq_true] at hc1
    exfalso
    first | (simp_all; done) | (simp_all; omega) | omega | grind
  try simp only [decide_eq_true_eq, decide_eq_false_iff_not, beq_iff_eq, beq_eq_false_iff_ne, bne_iff_ne, ne_eq, Bool.not_eq_true', Bool.not_eq_false', Bool.not_eq_true, Bool.not_eq_false, Int.not_lt, Int.not_le, Decidable.not_not, bne_eq_false_iff_eq, gt_iff_lt, ge_iff_le, Bool.or_eq_true, Bool.and_eq_true] at hc1
  refine Run.skip ?_
  refine Run.sr ?_
  refine RunL.as rfl rfl ?_
  refine RunL.nil ?_
  refine Run.nilSl 31 11 ?_
  refine Run.seq ?_
  refine Run.sr ?_
  refine RunL.as rfl rfl ?_
  refine RunL.nil ?_
  refine Run.block ?_
  refine Run.keep (.cons rfl (.cons rfl (.cons rfl (.cons rfl (.nil)))) : Keep _ [0, 3, 5, 6] _) ?_
  refine Run.loopF (F := F) (fun n e_ A => ∃ (i : Nat) (l : List Edu) (a5 : Option Addr) (c5 : Nat), i ≤ xs.length ∧ i ≤ 10 ∧ (∀ x ∈ l, eduSmall x ∧ okEdu x) ∧ l.length ≤ i ∧ n = 10 - i ∧ e_ = [(0, .slice a xs.length cap), (3, .pointer (some ⟨p, 0, none⟩)), (5, .slice a5 l.length c5), (6, .int .i64 (i : Nat))] ∧ A = Sl 31 11 a5 l.length c5 ((l).flatMap cEdu) :: Qu p 120 0 l :: F) (10) (by exact ⟨0, [], none, 0, by omega, by omega, (fun x hx => by cases hx), by simp, rfl, rfl, rfl⟩) (by repeat (first | (with_reducible exact Fin.done (by repeat (first | (with_reducible exact Rest.here) | apply Rest.there))) | (apply Fin.cons (by first | ((repeat (first | (with_reducible exact Find.here _) | apply Find.there)); done) | (repeat (first | exact Find.here _ | apply Find.there)))))) ?_
  rintro n _ _ ⟨i, l, a5, c5, hi, hi2, hlf, hll, rfl, rfl, hA_⟩ ih
  replace hA_ := hA_.symm; subst hA_
  refine Run.seq ?_
  refine Run.sr ?_
  refine RunL.mv rfl rfl ?_
  refine RunL.mv rfl rfl ?_
  refine RunL.pure (Pure.lenSl rfl rfl und37) (Wt.none rfl) rfl rfl ?_
  refine RunL.pure (Pure.lss rfl rfl) (Wt.none rfl) rfl rfl ?_
  refine RunL.mv rfl rfl ?_
  refine RunL.split (d := 27) rfl (fun hi1 => ?_) (fun hi1 => ?_)
  · try simp only [decide_eq_true_eq, decide_eq_false_iff_not, beq_iff_eq, beq_eq_false_iff_ne, bne_iff_ne, ne_eq, Bool.not_eq_true', Bool.not_eq_false', Bool.not_eq_true, Bool.not_eq_false, Int.not_lt, Int.not_le, Decidable.not_not, bne_eq_false_iff_eq, gt_iff_lt, ge_iff_le, Bool.or_eq_true, Bool.and_eq_true] at hi1
    refine RunL.pure (Pure.move rfl) (Wt.yes rfl rfl rfl) rfl rfl ?_
    refine RunL.pure (Pure.lss rfl rfl) (Wt.yes rfl rfl rfl) rfl rfl ?_
    refine RunL.pure (Pure.pickT rfl rfl) (Wt.none rfl) rfl rfl ?_
    refine RunL.nil ?_
    refine Run.cond rfl (fun hi2 => ?_) (fun hi2 => ?_)
    · try simp only [decide_eq_true_eq, decide_eq_false_iff_not, beq_iff_eq, beq_eq_false_iff_ne, bne_iff_ne, ne_eq, Bool.not_eq_true', Bool.not_eq_false', Bool.not_eq_true, Bool.not_eq_false, Int.not_lt, Int.not_le, Decidable.not_not, bne_eq_false_iff_eq, gt_iff_lt, ge_iff_le, Bool.or_eq_true, Bool.and_eq_true] at hi2
      obtain ⟨x, hx⟩ := get_some (xs := xs) (i := i) (by omega)
      have hxk := hxo x (List.mem_of_getElem? hx)
      obtain ⟨bb, Tb, preb, postb, rfl, hro⟩ := h.open1 (show 0 < xs.length by omega)
      refine Run.know (fun w s => (s.find (p := Qu p 120 0 l) (by first | ((repeat (first | (with_reducible exact Find.here _) | apply Find.there)); done) | (repeat (first | exact Find.here _ | apply Find.there)))).qu_nodup) ?_; intro hnd
      have hps := pub_small x
      have hpo := pub_ok x
      refine Run.skip ?_
      refine Run.seq ?_
      refine Run.block ?_
      refine Run.sr ?_
      refine RunL.mv rfl rfl ?_
      refine RunL.mv rfl rfl ?_
      refine RunL.pure (Pure.indexAddr rfl rfl und37 sz31 (by omega) (by omega)) (Wt.none rfl) rfl rfl ?_
      refine RunL.loadNR (vs := (cEdu x)) rfl hro agg31 sz31 (elemN_len (pre := preb) (post := postb) (f := cEdu) (sz := 11) (j := 0) (n := 11) (fun _ _ => rfl) hx (by decide)) ((elemN_at (pre := preb) (post := postb) (f := cEdu) (sz := 11) (j := 0) (n := 11) (fun _ _ => rfl) hx (by decide)).trans rfl) (Wt.none rfl) rfl ?_
      refine RunL.call rfl rfl (by rfl) (by repeat (first | (with_reducible exact Take.nil _) | (apply Take.cons (by first | ((repeat (first | (with_reducible exact Find.here _) | apply Find.there)); done) | (repeat (first | exact Find.here _ | apply Find.there)))))) (Public3_ctr (e := x) (by assumption)) (Wt.none rfl) rfl ?_
      rintro _ _ ⟨rfl, hA_⟩
      replace hA_ := hA_.symm; subst hA_
      refine RunL.alloc zz31 (Wt.none rfl) rfl ?_; intro b7
      refine RunL.storeW (xs := (cEdu (pubE x))) rfl rfl (by first | ((repeat (first | (with_reducible exact Find.here _) | apply Find.there)); done) | (repeat (first | exact Find.here _ | apply Find.there))) sz31 (by rfl) (by rfl) (by rfl) (Wt.none rfl) ?_
      refine RunL.nil ?_
      refine Run.sr ?_
      refine RunL.mv rfl rfl ?_
      first | refine RunL.loadA (vs := (cEdu (pubE x))) rfl (by first | ((repeat (first | (with_reducible exact Find.here _) | apply Find.there)); done) | (repeat (first | exact Find.here _ | apply Find.there))) agg31 sz31 (by first | exact Nat.le_of_ble_eq_true rfl | (simp; done) | (simp; omega)) rfl (Wt.none rfl) rfl ?_ | refine RunL.loadNR (vs := (cEdu (pubE x))) rfl (by assumption) agg31 sz31 (by first | exact Nat.le_of_ble_eq_true rfl | (simp; done) | (simp; omega)) rfl (Wt.none rfl) rfl ?_
      refine RunL.call rfl rfl (by rfl) (by repeat (first | (with_reducible exact Take.nil _) | (apply Take.cons (by first | ((repeat (first | (with_reducible exact Find.here _) | apply Find.there)); done) | (repeat (first | exact Find.here _ | apply Find.there)))))) (Ctr.lend (R := fun G => SlR G 31 11 _ _ _ ∧ _ ≤ _) Lends.Sl cb22 (fun G' hle hr => At_ctr (e := pubE x) rfl hr.1 (by omega))) (Wt.none rfl) rfl ?_
      rintro _ _ ⟨_, rfl, r, rfl, hr, hA_⟩
      replace hA_ := hA_.symm; subst hA_
      refine RunL.as rfl rfl ?_
      refine RunL.nil ?_
      refine Run.sr ?_
      refine RunL.mv rfl rfl ?_
      first | refine RunL.loadA (vs := (cEdu (pubE x))) rfl (by first | ((repeat (first | (with_reducible exact Find.here _) | apply Find.there)); done) | (repeat (first | exact Find.here _ | apply Find.there))) agg31 sz31 (by first | exact Nat.le_of_ble_eq_true rfl | (simp; done) | (simp; omega)) rfl (Wt.none rfl) rfl ?_ | refine RunL.loadNR (vs := (cEdu (pubE x))) rfl (by assumption) agg31 sz31 (by first | exact Nat.le_of_ble_eq_true rfl | (simp; done) | (simp; omega)) rfl (Wt.none rfl) rfl ?_
      refine RunL.call rfl rfl (by rfl) (by repeat (first | (with_reducible exact Take.nil _) | (apply Take.cons (by first | ((repeat (first | (with_reducible exact Find.here _) | apply Find.there)); done) | (repeat (first | exact Find.here _ | apply Find.there)))))) (Put_ctr (p := p) (most := 120) (lost := 0) (l := l) (e := pubE x) hps hpo hlf (by omega) (by omega)) (Wt.none rfl) rfl ?_
      rintro _ _ ⟨rfl, hA_⟩
      replace hA_ := hA_.symm; subst hA_
      refine RunL.nil ?_
      refine Run.seq ?_
      refine Run.seq ?_
      refine Run.cut (fun e_ A => ∃ (b : Bool) (a5 : Option Addr) (c5 : Nat), (b = true → putL 120 0 l (pubE x) = (l, 0, zeroE, false, 0)) ∧ (b = false → putL 120 0 l (pubE x) = ((offK l (eKey (pubE x)) ++ [pubE x]), 0, zeroE, false, 0) ∧ ∀ (j : Nat) y, l[j]? = some y → (eKey y = eKey (pubE x) ↔ (j : Int) = r)) ∧ e_ = [(0, .slice (some ⟨bb, preb.length, none⟩) xs.length cap), (3, .pointer (some ⟨p, 0, none⟩)), (5, .slice a5 l.length c5), (6, .int .i64 (i : Nat)), (7, .pointer (some ⟨b7, 0, none⟩)), (8, .int .i64 r), (55, .bool b)] ∧ A = Sl 31 11 a5 l.length c5 ((l).flatMap cEdu) :: row b7 31 (cEdu (pubE x)) :: Qu p 120 (putL 120 0 l (pubE x)).2.1 (putL 120 0 l (pubE x)).1 :: F) (fun e A hM => ?_) (fun hk => ?_)
      · obtain ⟨b, a5, c5, hbT, hbF, rfl, hA_⟩ := hM
        replace hA_ := hA_.symm; subst hA_
        refine Run.cond rfl (fun hb55 => ?_) (fun hb55 => ?_)
        · try simp only [decide_eq_true_eq, decide_eq_false_iff_not, beq_iff_eq, beq_eq_false_iff_ne, bne_iff_ne, ne_eq, Bool.not_eq_true', Bool.not_eq_false', Bool.not_eq_true, Bool.not_eq_false, Int.not_lt, Int.not_le, Decidable.not_not, bne_eq_false_iff_eq, gt_iff_lt, ge_iff_le, Bool.or_eq_true, Bool.and_eq_true] at hb55
          refine Run.exit rfl ?_
          refine Run.region ?_
          refine RunL.mv rfl rfl ?_
          first | refine RunL.pure (Pure.addI rfl rfl (by omega)) (Wt.none rfl) rfl rfl ?_ | refine RunL.pure (Pure.add rfl rfl) (Wt.none rfl) rfl rfl ?_
          refine RunL.as rfl rfl ?_
          refine RunL.nil ?_
          rw [show (putL 120 0 l (pubE x)).2.1 = 0 from by rw [hbT hb55], show (putL 120 0 l (pubE x)).1 = l from by rw [hbT hb55]]
          refine Run.keep (.cons rfl (.cons rfl (.cons rfl (.cons rfl (.nil)))) : Keep _ [0, 3, 5, 6] _) ?_
          refine Run.againF (F := F) ih (by exact ⟨i + 1, l, _, _, by omega, by omega, hlf, by omega, rfl, rfl, rfl⟩) (by repeat (first | (with_reducible exact Fin.done (by repeat (first | (with_reducible exact Rest.here) | apply Rest.there))) | (apply Fin.cons (by first | ((repeat (first | (with_reducible exact Find.here _) | apply Find.there)); done) | (repeat (first | exact Find.here _ | apply Find.there)))))) ?_
          omega
        · try simp only [decide_eq_true_eq, decide_eq_false_iff_not, beq_iff_eq, beq_eq_false_iff_ne, bne_iff_ne, ne_eq, Bool.not_eq_true', Bool.not_eq_false', Bool.not_eq_true, Bool.not_eq_false, Int.not_lt, Int.not_le, Decidable.not_not, bne_eq_false_iff_eq, gt_iff_lt, ge_iff_le, Bool.or_eq_true, Bool.and_eq_true] at hb55
          obtain ⟨hP, hkey⟩ := hbF (by simpa using hb55)
          rw [show (putL 120 0 l (pubE x)).2.1 = 0 from by rw [hP], show (putL 120 0 l (pubE x)).1 = (offK l (eKey (pubE x)) ++ [pubE x]) from by rw [hP]]
          have ih1 := ih
          refine Run.skip ?_
          refine Run.sr ?_
          refine RunL.as rfl rfl ?_
          refine RunL.nil ?_
          refine Run.nilSl 31 11 ?_
          refine Run.seq ?_
          refine Run.sr ?_
          refine RunL.as rfl rfl ?_
          refine RunL.nil ?_
          refine Run.block ?_
          refine Run.keep (.cons rfl (.cons rfl (.cons rfl (.cons rfl (.cons rfl (.cons rfl (.cons rfl (.cons rfl (.nil)))))))) : Keep _ [0, 3, 5, 6, 7, 8, 9, 10] _) ?_
          refine Run.loopF (F := F) (fun n e_ A => ∃ (j : Nat) (a9 : Option Addr) (c9 : Nat), j ≤ l.length ∧ n = l.length - j ∧ e_ = [(0, .slice (some ⟨bb, preb.length, none⟩) xs.length cap), (3, .pointer (some ⟨p, 0, none⟩)), (5, .slice a5 l.length c5), (6, .int .i64 (i : Nat)), (7, .pointer (some ⟨b7, 0, none⟩)), (8, .int .i64 r), (9, .slice a9 (offK (l.take j) (eKey (pubE x))).length c9), (10, .int .i64 (j : Nat))] ∧ A = Sl 31 11 a9 (offK (l.take j) (eKey (pubE x))).length c9 (((offK (l.take j) (eKey (pubE x)))).flatMap cEdu) :: Sl 31 11 a5 l.length c5 ((l).flatMap cEdu) :: row b7 31 (cEdu (pubE x)) :: Qu p 120 0 (offK l (eKey (pubE x)) ++ [pubE x]) :: F) (l.length) (by exact ⟨0, none, 0, by omega, rfl, rfl, rfl⟩) (by repeat (first | (with_reducible exact Fin.done (by repeat (first | (with_reducible exact Rest.here) | apply Rest.there))) | (apply Fin.cons (by first | ((repeat (first | (with_reducible exact Find.here _) | apply Find.there)); done) | (repeat (first | exact Find.here _ | apply Find.there)))))) ?_
          rintro n _ _ ⟨j, a9, c9, hj, rfl, rfl, hA_⟩ ih
          replace hA_ := hA_.symm; subst hA_
          refine Run.seq ?_
          refine Run.sr ?_
          refine RunL.mv rfl rfl ?_
          refine RunL.mv rfl rfl ?_
          refine RunL.pure (Pure.lenSl rfl rfl und37) (Wt.none rfl) rfl rfl ?_
          refine RunL.pure (Pure.lss rfl rfl) (Wt.none rfl) rfl rfl ?_
          refine RunL.nil ?_
          refine Run.cond rfl (fun hj1 => ?_) (fun hj1 => ?_)
          · try simp only [decide_eq_true_eq, decide_eq_false_iff_not, beq_iff_eq, beq_eq_false_iff_ne, bne_iff_ne, ne_eq, Bool.not_eq_true', Bool.not_eq_false', Bool.not_eq_true, Bool.not_eq_false, Int.not_lt, Int.not_le, Decidable.not_not, bne_eq_false_iff_eq, gt_iff_lt, ge_iff_le, Bool.or_eq_true, Bool.and_eq_true] at hj1
            obtain ⟨y, hy⟩ := get_some (xs := l) (i := j) (by omega)
            have hkj := hkey j y hy
            have hcl : (offK (l.take j) (eKey (pubE x))).length ≤ j := Nat.le_trans (offK_len _ _) (by rw [List.length_take]; omega)
            refine Run.skip ?_
            refine Run.seq ?_
            refine Run.block ?_
            refine Run.sr ?_
            refine RunL.mv rfl rfl ?_
            refine RunL.mv rfl rfl ?_
            refine RunL.pure (Pure.neq rfl rfl) (Wt.none rfl) rfl rfl ?_
            refine RunL.nil ?_
            refine Run.cond rfl (fun hnj => ?_) (fun hnj => ?_)
            · try simp only [decide_eq_true_eq, decide_eq_false_iff_not, beq_iff_eq, beq_eq_false_iff_ne, bne_iff_ne, ne_eq, Bool.not_eq_true', Bool.not_eq_false', Bool.not_eq_true, Bool.not_eq_false, Int.not_lt, Int.not_le, Decidable.not_not, bne_eq_false_iff_eq, gt_iff_lt, ge_iff_le, Bool.or_eq_true, Bool.and_eq_true] at hnj
              refine Run.openSl (T := 31) (a := a5) (n := l.length) (by first | ((repeat (first | (with_reducible exact Find.here _) | apply Find.there)); done) | (repeat (first | exact Find.here _ | apply Find.there))) (by omega) ?_; rintro b9 pre9 post9 rfl hsl1 hsl2 hsl3
              refine Run.region ?_
              refine RunL.mv rfl rfl ?_
              refine RunL.mv rfl rfl ?_
              refine RunL.mv rfl rfl ?_
              refine RunL.pure (Pure.indexAddr rfl rfl und37 sz31 (by omega) (by omega)) (Wt.none rfl) rfl rfl ?_
              refine RunL.loadA (vs := (cEdu y)) rfl (by first | ((repeat (first | (with_reducible exact Find.here _) | apply Find.there)); done) | (repeat (first | exact Find.here _ | apply Find.there))) agg31 sz31 (elemN_len (f := cEdu) (sz := 11) (j := 0) (n := 11) (fun _ _ => rfl) hy (by decide)) ((elemN_at (f := cEdu) (sz := 11) (j := 0) (n := 11) (fun _ _ => rfl) hy (by decide)).trans rfl) (Wt.none rfl) rfl ?_
              refine RunL.lit (vals := [_]) (vs := ([y] : List Edu).flatMap cEdu) und37 sz31 zz31 rfl rfl rfl rfl rfl rfl (by simp [Value.cells, bv, cEdu, cKey, cQst]) rfl (Wt.none rfl) rfl ?_; intro b70
              refine RunL.append (m := 1) (n' := (offK (l.take (j + 1)) (eKey (pubE x))).length) (cs' := (offK (l.take (j + 1)) (eKey (pubE x))).flatMap cEdu) rfl rfl (by first | ((repeat (first | (with_reducible exact Find.here _) | apply Find.there)); done) | (repeat (first | exact Find.here _ | apply Find.there))) rfl rfl und37 und37 rfl sz31 zz31 rfl by31 (by omega) (by omega) (fun w sw => sw.src) (isOne_flat (f := cEdu) (fun _ => rfl)) (by rw [cpy_in hy (fun q => hnj (hkj.1 q)), List.length_append]; rfl) (by rw [cpy_in hy (fun q => hnj (hkj.1 q)), flatMap_app]) (Wt.none rfl) rfl ?_; intro a10 c10
              refine RunL.as rfl rfl ?_
              refine RunL.nil ?_
              refine Run.inBlock ?_
              refine Run.region ?_
              refine RunL.mv rfl rfl ?_
              first | refine RunL.pure (Pure.addI rfl rfl (by omega)) (Wt.none rfl) rfl rfl ?_ | refine RunL.pure (Pure.add rfl rfl) (Wt.none rfl) rfl rfl ?_
              refine RunL.as rfl rfl ?_
              refine RunL.nil ?_
              refine Run.mkSl (b := b9) (pre := pre9) (post := post9) (sz := 11) (cs := l.flatMap cEdu) (n := l.length) (by first | ((repeat (first | (with_reducible exact Find.here _) | apply Find.there)); done) | (repeat (first | exact Find.here _ | apply Find.there))) hsl1 hsl2 hsl3 ?_
              refine Run.keep (.cons rfl (.cons rfl (.cons rfl (.cons rfl (.cons rfl (.cons rfl (.cons rfl (.cons rfl (.nil)))))))) : Keep _ [0, 3, 5, 6, 7, 8, 9, 10] _) ?_
              refine Run.againF (F := F) ih (by exact ⟨j + 1, _, _, by omega, rfl, rfl, rfl⟩) (by repeat (first | (with_reducible exact Fin.done (by repeat (first | (with_reducible exact Rest.here) | apply Rest.there))) | (apply Fin.cons (by first | ((repeat (first | (with_reducible exact Find.here _) | apply Find.there)); done) | (repeat (first | exact Find.here _ | apply Find.there)))))) ?_
              omega
            · try simp only [decide_eq_true_eq, decide_eq_false_iff_not, beq_iff_eq, beq_eq_false_iff_ne, bne_iff_ne, ne_eq, Bool.not_eq_true', Bool.not_eq_false', Bool.not_eq_true, Bool.not_eq_false, Int.not_lt, Int.not_le, Decidable.not_not, bne_eq_false_iff_eq, gt_iff_lt, ge_iff_le, Bool.or_eq_true, Bool.and_eq_true] at hnj
              refine Run.skip ?_
              refine Run.inBlock ?_
              refine Run.region ?_
              refine RunL.mv rfl rfl ?_
              first | refine RunL.pure (Pure.addI rfl rfl (by omega)) (Wt.none rfl) rfl rfl ?_ | refine RunL.pure (Pure.add rfl rfl) (Wt.none rfl) rfl rfl ?_
              refine RunL.as rfl rfl ?_
              refine RunL.nil ?_
              rw [← cpy_out hy (hkj.2 (by first | exact hnj | simpa using hnj))]
              refine Run.keep (.cons rfl (.cons rfl (.cons rfl (.cons rfl (.cons rfl (.cons rfl (.cons rfl (.cons rfl (.nil)))))))) : Keep _ [0, 3, 5, 6, 7, 8, 9, 10] _) ?_
              refine Run.againF (F := F) ih (by exact ⟨j + 1, _, _, by omega, rfl, rfl, rfl⟩) (by repeat (first | (with_reducible exact Fin.done (by repeat (first | (with_reducible exact Rest.here) | apply Rest.there))) | (apply Fin.cons (by first | ((repeat (first | (with_reducible exact Find.here _) | apply Find.there)); done) | (repeat (first | exact Find.here _ | apply Find.there)))))) ?_
              omega
          · try simp only [decide_eq_true_eq, decide_eq_false_iff_not, beq_iff_eq, beq_eq_false_iff_ne, bne_iff_ne, ne_eq, Bool.not_eq_true', Bool.not_eq_false', Bool.not_eq_true, Bool.not_eq_false, Int.not_lt, Int.not_le, Decidable.not_not, bne_eq_false_iff_eq, gt_iff_lt, ge_iff_le, Bool.or_eq_true, Bool.and_eq_true] at hj1
            obtain rfl : j = l.length := by omega
            rw [List.take_length]
            have hol := offK_len l (eKey (pubE x))
            refine Run.exit rfl ?_
            refine Run.region ?_
            refine RunL.mv rfl rfl ?_
            first | refine RunL.loadA (vs := (cEdu (pubE x))) rfl (by first | ((repeat (first | (with_reducible exact Find.here _) | apply Find.there)); done) | (repeat (first | exact Find.here _ | apply Find.there))) agg31 sz31 (by first | exact Nat.le_of_ble_eq_true rfl | (simp; done) | (simp; omega)) rfl (Wt.none rfl) rfl ?_ | refine RunL.loadNR (vs := (cEdu (pubE x))) rfl (by assumption) agg31 sz31 (by first | exact Nat.le_of_ble_eq_true rfl | (simp; done) | (simp; omega)) rfl (Wt.none rfl) rfl ?_
            refine RunL.lit (vals := [_]) (vs := ([pubE x] : List Edu).flatMap cEdu) und37 sz31 zz31 rfl rfl rfl rfl rfl rfl (by simp [Value.cells, bv, cEdu, cKey, cQst]) rfl (Wt.none rfl) rfl ?_; intro b74
            refine RunL.append (m := 1) (n' := (offK l (eKey (pubE x)) ++ [pubE x]).length) (cs' := (offK l (eKey (pubE x)) ++ [pubE x]).flatMap cEdu) rfl rfl (by first | ((repeat (first | (with_reducible exact Find.here _) | apply Find.there)); done) | (repeat (first | exact Find.here _ | apply Find.there))) rfl rfl und37 und37 rfl sz31 zz31 rfl by31 (by omega) (by omega) (fun w sw => sw.src) (isOne_flat (f := cEdu) (fun _ => rfl)) (by rw [List.length_append]; rfl) (by rw [flatMap_app]) (Wt.none rfl) rfl ?_; intro a10 c10
            refine RunL.as rfl rfl ?_
            refine RunL.nil ?_
            refine Run.inBlock ?_
            refine Run.region ?_
            refine RunL.mv rfl rfl ?_
            first | refine RunL.pure (Pure.addI rfl rfl (by omega)) (Wt.none rfl) rfl rfl ?_ | refine RunL.pure (Pure.add rfl rfl) (Wt.none rfl) rfl rfl ?_
            refine RunL.as rfl rfl ?_
            refine RunL.nil ?_
            have ih := ih1
            refine Run.keep (.cons rfl (.cons rfl (.cons rfl (.cons rfl (.nil)))) : Keep _ [0, 3, 5, 6] _) ?_
            refine Run.againF (F := F) ih (by exact ⟨i + 1, (offK l (eKey (pubE x)) ++ [pubE x]), _, _, by omega, by omega, fun z hz => by rcases List.mem_append.1 hz with q | q; exact hlf z (List.mem_filter.1 q).1; obtain rfl := List.mem_singleton.1 q; exact ⟨pub_small x, pub_ok x⟩, by rw [List.length_append]; simp only [List.length_cons, List.length_nil]; omega, rfl, rfl, rfl⟩) (by repeat (first | (with_reducible exact Fin.done (by repeat (first | (with_reducible exact Rest.here) | apply Rest.there))) | (apply Fin.cons (by first | ((repeat (first | (with_reducible exact Find.here _) | apply Find.there)); done) | (repeat (first | exact Find.here _ | apply Find.there)))))) ?_
            omega
      · skip
        rcases hr with ⟨rfl, hno⟩ | ⟨k, y, rfl, hy, hky, hfst⟩
        · skip
          refine Run.regionD' (by kernel_rfl) (by kernel_rfl) (fun hok206 => ?_)
          refine RunD.lend (Q := row b7 31 _) Lends.row (by first | ((repeat (first | (with_reducible exact Find.here _) | apply Find.there)); done) | (repeat (first | exact Find.here _ | apply Find.there))) ?_; intro gl1 hlegl1 hl1 backgl1
          have h_gl1 := h.mono hlegl1
          refine RunD.pure (i := 0) hok206 rfl (by kernel_rfl) (Pure.move rfl) (Wt.none rfl) rfl rfl ?_
          refine RunD.pure (i := 1) hok206 rfl (by kernel_rfl) (Pure.geq rfl rfl) (Wt.none rfl) rfl rfl ?_
          refine RunD.pure (i := 2) hok206 rfl (by kernel_rfl) (Pure.move rfl) (Wt.none rfl) rfl rfl ?_
          refine RunD.split (d := 46) rfl (fun hg2 => ?_) (fun hg2 => ?_)
          · try simp only [decide_eq_true_eq, decide_eq_false_iff_not, beq_iff_eq, beq_eq_false_iff_ne, bne_iff_ne, ne_eq, Bool.not_eq_true', Bool.not_eq_false', Bool.not_eq_true, Bool.not_eq_false, Int.not_lt, Int.not_le, Decidable.not_not, bne_eq_false_iff_eq, gt_iff_lt, ge_iff_le, Bool.or_eq_true, Bool.and_eq_true] at hg2
            exfalso
            first | (simp_all; done) | (simp_all; omega) | omega | grind
          try simp only [decide_eq_true_eq, decide_eq_false_iff_not, beq_iff_eq, beq_eq_false_iff_ne, bne_iff_ne, ne_eq, Bool.not_eq_true', Bool.not_eq_false', Bool.not_eq_true, Bool.not_eq_false, Int.not_lt, Int.not_le, Decidable.not_not, bne_eq_false_iff_eq, gt_iff_lt, ge_iff_le, Bool.or_eq_true, Bool.and_eq_true] at hg2
          refine RunD.not (i := 3) hok206 rfl (by kernel_rfl) rfl rfl (Wt.no rfl rfl rfl) ?_
          refine RunD.not (i := 4) hok206 rfl (by kernel_rfl) rfl rfl (Wt.no rfl rfl rfl) ?_
          refine RunD.not (i := 5) hok206 rfl (by kernel_rfl) rfl rfl (Wt.no rfl rfl rfl) ?_
          refine RunD.not (i := 6) hok206 rfl (by kernel_rfl) rfl rfl (Wt.no rfl rfl rfl) ?_
          refine RunD.not (i := 7) hok206 rfl (by kernel_rfl) rfl rfl (Wt.no rfl rfl rfl) ?_
          refine RunD.not (i := 8) hok206 rfl (by kernel_rfl) rfl rfl (Wt.no rfl rfl rfl) ?_
          refine RunD.not (i := 9) hok206 rfl (by kernel_rfl) rfl rfl (Wt.no rfl rfl rfl) ?_
          refine RunD.not (i := 10) hok206 rfl (by kernel_rfl) rfl rfl (Wt.no rfl rfl rfl) ?_
          refine RunD.pure (i := 11) hok206 rfl (by kernel_rfl) (Pure.pickF rfl rfl) (Wt.none rfl) rfl rfl ?_
          refine RunD.nilB (by kernel_rfl) (fun w sw => backgl1 _ _ (sw)) ?_
          refine Run.keep (.cons rfl (.cons rfl (.cons rfl (.cons rfl (.cons rfl (.cons rfl (.cons rfl (.nil))))))) : Keep _ [0, 3, 5, 6, 7, 8, 55] _) ?_
          exact Run.meetF (F := F) hk (by exact ⟨false, _, _, (fun q => by cases q), (fun _ => ⟨putL_in (pub_may x) (fun o q => by rw [find_none hno] at q; cases q) (by rw [List.length_append]; have := offK_len l (eKey (pubE x)); simp only [List.length_cons, List.length_nil]; omega), fun j y hy => ⟨fun q => absurd q (hno y (List.mem_of_getElem? hy)), fun q => by omega⟩⟩), rfl, rfl⟩) (by repeat (first | (with_reducible exact Fin.done (by repeat (first | (with_reducible exact Rest.here) | apply Rest.there))) | (apply Fin.cons (by first | ((repeat (first | (with_reducible exact Find.here _) | apply Find.there)); done) | (repeat (first | exact Find.here _ | apply Find.there))))))
        · skip
          have hkl := (List.getElem?_eq_some_iff.1 hy).1
          obtain ⟨hys, hyo⟩ := hlf y (List.mem_of_getElem? hy)
          have hfd : l.find? (fun z => decide (eKey z = eKey (pubE x))) = some y := by rw [← hky]; exact find_at hnd hy
          refine Run.openSl (T := 31) (a := a5) (n := l.length) (by first | ((repeat (first | (with_reducible exact Find.here _) | apply Find.there)); done) | (repeat (first | exact Find.here _ | apply Find.there))) (by omega) ?_; rintro b9 pre9 post9 rfl hsl1 hsl2 hsl3
          refine Run.regionD' (by kernel_rfl) (by kernel_rfl) (fun hok234 => ?_)
          refine RunD.lend (Q := row b7 31 _) Lends.row (by first | ((repeat (first | (with_reducible exact Find.here _) | apply Find.there)); done) | (repeat (first | exact Find.here _ | apply Find.there))) ?_; intro gl2 hlegl2 hl2 backgl2
          have h_gl2 := h.mono hlegl2
          refine RunD.lend (Q := row b9 _ _) Lends.row (by first | ((repeat (first | (with_reducible exact Find.here _) | apply Find.there)); done) | (repeat (first | exact Find.here _ | apply Find.there))) ?_; intro g9 hleg9 hb9 backg9
          try (replace hl2 := hl2.mono hleg9)
          have h_g9 := h_gl2.mono hleg9
          refine RunD.pure (i := 0) hok234 rfl (by kernel_rfl) (Pure.move rfl) (Wt.none rfl) rfl rfl ?_
          refine RunD.pure (i := 1) hok234 rfl (by kernel_rfl) (Pure.geq rfl rfl) (Wt.none rfl) rfl rfl ?_
          refine RunD.pure (i := 2) hok234 rfl (by kernel_rfl) (Pure.move rfl) (Wt.none rfl) rfl rfl ?_
          refine RunD.split (d := 46) rfl (fun hg3 => ?_) (fun hg3 => ?_)
          rotate_left
          · try simp only [decide_eq_true_eq, decide_eq_false_iff_not, beq_iff_eq, beq_eq_false_iff_ne, bne_iff_ne, ne_eq, Bool.not_eq_true', Bool.not_eq_false', Bool.not_eq_true, Bool.not_eq_false, Int.not_lt, Int.not_le, Decidable.not_not, bne_eq_false_iff_eq, gt_iff_lt, ge_iff_le, Bool.or_eq_true, Bool.and_eq_true] at hg3
            exfalso
            first | (simp_all; done) | (simp_all; omega) | omega | grind
          try simp only [decide_eq_true_eq, decide_eq_false_iff_not, beq_iff_eq, beq_eq_false_iff_ne, bne_iff_ne, ne_eq, Bool.not_eq_true', Bool.not_eq_false', Bool.not_eq_true, Bool.not_eq_false, Int.not_lt, Int.not_le, Decidable.not_not, bne_eq_false_iff_eq, gt_iff_lt, ge_iff_le, Bool.or_eq_true, Bool.and_eq_true] at hg3
          refine RunD.loadNR (vs := (cEdu (pubE x))) (i := 3) hok234 rfl (by kernel_rfl) rfl (by assumption) agg31 sz31 (by first | exact Nat.le_of_ble_eq_true rfl | (simp; done) | (simp; omega)) rfl (Wt.yes rfl rfl rfl) rfl ?_
          refine RunD.pure (i := 4) hok234 rfl (by kernel_rfl) (Pure.move rfl) (Wt.yes rfl rfl rfl) rfl rfl ?_
          refine RunD.pure (i := 5) hok234 rfl (by kernel_rfl) (Pure.move rfl) (Wt.yes rfl rfl rfl) rfl rfl ?_
          refine RunD.pure (i := 6) hok234 rfl (by kernel_rfl) (Pure.max2 rfl rfl) (Wt.yes rfl rfl rfl) rfl rfl ?_
          rw [show max ((k : Nat) : Int) 0 = (k : Int) from by omega]
          refine RunD.pure (i := 7) hok234 rfl (by kernel_rfl) (Pure.indexAddr rfl rfl und37 sz31 (by omega) (by omega)) (Wt.yes rfl rfl rfl) rfl rfl ?_
          refine RunD.loadNR (vs := (cEdu y)) (i := 8) hok234 rfl (by kernel_rfl) rfl hb9 agg31 sz31 (elemN_len (pre := pre9) (post := post9) (f := cEdu) (sz := 11) (j := 0) (n := 11) (fun _ _ => rfl) hy (by decide)) ((elemN_at (pre := pre9) (post := post9) (f := cEdu) (sz := 11) (j := 0) (n := 11) (fun _ _ => rfl) hy (by decide)).trans rfl) (Wt.yes rfl rfl rfl) rfl ?_
          refine RunD.one (i := 9) (by kernel_rfl) rfl ?_
          refine RunL.call rfl rfl (by rfl) (by repeat (first | (with_reducible exact Take.nil _) | (apply Take.cons (by first | ((repeat (first | (with_reducible exact Find.here _) | apply Find.there)); done) | (repeat (first | exact Find.here _ | apply Find.there)))))) (rCompare3_ctr (x := pubE x) (y := y) (by assumption) (by assumption) (by assumption) (by assumption)) (Wt.yes rfl rfl rfl) rfl ?_
          rintro _ _ ⟨rfl, hA_⟩
          replace hA_ := hA_.symm; subst hA_
          refine RunL.nilD' ?_
          refine RunD.pure (i := 10) hok234 rfl (by kernel_rfl) (Pure.leq rfl rfl) (Wt.yes rfl rfl rfl) rfl rfl ?_
          refine RunD.pure (i := 11) hok234 rfl (by kernel_rfl) (Pure.pickT rfl rfl) (Wt.none rfl) rfl rfl ?_
          refine RunD.nilB (by kernel_rfl) (fun w sw => backgl2 _ _ (backg9 _ _ (sw))) ?_
          refine Run.mkSl (b := b9) (pre := pre9) (post := post9) (sz := 11) (cs := l.flatMap cEdu) (n := l.length) (by first | ((repeat (first | (with_reducible exact Find.here _) | apply Find.there)); done) | (repeat (first | exact Find.here _ | apply Find.there))) hsl1 hsl2 hsl3 ?_
          refine Run.keep (.cons rfl (.cons rfl (.cons rfl (.cons rfl (.cons rfl (.cons rfl (.cons rfl (.nil))))))) : Keep _ [0, 3, 5, 6, 7, 8, 55] _) ?_
          exact Run.meetF (F := F) hk (by exact ⟨decide (edCmp (pubE x) y ≤ 0), _, _, (fun q => putL_old (pub_may x) hfd (by simpa using q)), (fun q => ⟨putL_in (pub_may x) (fun o q2 => by rw [hfd] at q2; cases q2; simpa using q) (by rw [List.length_append]; have := offK_len l (eKey (pubE x)); simp only [List.length_cons, List.length_nil]; omega), fun j z hz => ⟨fun q => by have := nodup_at hnd hz hy (by rw [q, hky]); omega, fun q => by have : j = k := (by omega); subst this; rw [hy] at hz; cases hz; exact hky⟩⟩), rfl, rfl⟩) (by repeat (first | (with_reducible exact Fin.done (by repeat (first | (with_reducible exact Rest.here) | apply Rest.there))) | (apply Fin.cons (by first | ((repeat (first | (with_reducible exact Find.here _) | apply Find.there)); done) | (repeat (first | exact Find.here _ | apply Find.there))))))
    · try simp only [decide_eq_true_eq, decide_eq_false_iff_not, beq_iff_eq, beq_eq_false_iff_ne, bne_iff_ne, ne_eq, Bool.not_eq_true', Bool.not_eq_false', Bool.not_eq_true, Bool.not_eq_false, Int.not_lt, Int.not_le, Decidable.not_not, bne_eq_false_iff_eq, gt_iff_lt, ge_iff_le, Bool.or_eq_true, Bool.and_eq_true] at hi2
      have hlb : l.length ≤ 10 := by omega
      refine Run.exit rfl ?_
      refine Run.sr ?_
      refine RunL.mv rfl rfl ?_
      refine RunL.call rfl rfl (by rfl) (by repeat (first | (with_reducible exact Take.nil _) | (apply Take.cons (by first | ((repeat (first | (with_reducible exact Find.here _) | apply Find.there)); done) | (repeat (first | exact Find.here _ | apply Find.there)))))) (qAll_ctr (by omega)) (Wt.none rfl) rfl ?_
      rintro _ _ ⟨a11, c11, rfl, hA_⟩
      replace hA_ := hA_.symm; subst hA_
      refine RunL.as rfl rfl ?_
      refine RunL.nil ?_
      refine Run.sr ?_
      refine RunL.mv rfl rfl ?_
      refine RunL.mv rfl rfl ?_
      refine RunL.pure (Pure.lenSl rfl rfl und37) (Wt.none rfl) rfl rfl ?_
      refine RunL.call rfl rfl (by rfl) (by repeat (first | (with_reducible exact Take.nil _) | (apply Take.cons (by first | ((repeat (first | (with_reducible exact Find.here _) | apply Find.there)); done) | (repeat (first | exact Find.here _ | apply Find.there)))))) (Take_ctr (l := l) (z := (l.length : Nat)) (by omega)) (Wt.none rfl) rfl ?_
      rintro _ _ ⟨a12, c12, rfl, hA_⟩
      replace hA_ := hA_.symm; subst hA_
      rw [show takeN ((l.length : Nat) : Int) l = l.length from by unfold takeN; omega, List.take_length, List.drop_length]
      refine RunL.as rfl rfl ?_
      refine RunL.nil ?_
      refine Run.lendAll (Q := Sl 31 11 a11 l.length c11 ((l).flatMap cEdu)) Lends.Sl (by first | ((repeat (first | (with_reducible exact Find.here _) | apply Find.there)); done) | (repeat (first | exact Find.here _ | apply Find.there))) (fun Ghg11 hleGhg11 hg11 => ?_)
      replace h := h.mono hleGhg11
      obtain ⟨hg11, _⟩ := hg11
      refine Run.lendAll (Q := Sl 31 11 a12 l.length c12 ((l).flatMap cEdu)) Lends.Sl (by first | ((repeat (first | (with_reducible exact Find.here _) | apply Find.there)); done) | (repeat (first | exact Find.here _ | apply Find.there))) (fun Ghg12 hleGhg12 hg12 => ?_)
      replace h := h.mono hleGhg12
      replace hg11 := hg11.mono hleGhg12
      obtain ⟨hg12, _⟩ := hg12
      refine Run.lendAll (Q := Sl 31 11 a5 l.length c5 ((l).flatMap cEdu)) Lends.Sl (by first | ((repeat (first | (with_reducible exact Find.here _) | apply Find.there)); done) | (repeat (first | exact Find.here _ | apply Find.there))) (fun Ghg5 hleGhg5 hg5 => ?_)
      replace h := h.mono hleGhg5
      replace hg11 := hg11.mono hleGhg5
      replace hg12 := hg12.mono hleGhg5
      obtain ⟨hg5, _⟩ := hg5
      refine Run.sr ?_
      refine RunL.mv rfl rfl ?_
      refine RunL.mv rfl rfl ?_
      refine RunL.call rfl rfl (by rfl) (by repeat (first | (with_reducible exact Take.nil _) | (apply Take.cons (by first | ((repeat (first | (with_reducible exact Find.here _) | apply Find.there)); done) | (repeat (first | exact Find.here _ | apply Find.there)))))) (SameEdus_ctr rfl rfl hg11 hg5 (by omega)) (Wt.none rfl) rfl ?_
      rintro _ _ ⟨rfl, hA_⟩
      replace hA_ := hA_.symm; subst hA_
      refine RunL.mv rfl rfl ?_
      refine RunL.split (d := 85) rfl (fun hg4 => ?_) (fun hg4 => ?_)
      rotate_left
      · try simp only [decide_eq_true_eq, decide_eq_false_iff_not, beq_iff_eq, beq_eq_false_iff_ne, bne_iff_ne, ne_eq, Bool.not_eq_true', Bool.not_eq_false', Bool.not_eq_true, Bool.not_eq_false, Int.not_lt, Int.not_le, Decidable.not_not, bne_eq_false_iff_eq, gt_iff_lt, ge_iff_le, Bool.or_eq_true, Bool.and_eq_true] at hg4
        exfalso
        first | (simp_all; done) | (simp_all; omega) | omega | grind
      try simp only [decide_eq_true_eq, decide_eq_false_iff_not, beq_iff_eq, beq_eq_false_iff_ne, bne_iff_ne, ne_eq, Bool.not_eq_true', Bool.not_eq_false', Bool.not_eq_true, Bool.not_eq_false, Int.not_lt, Int.not_le, Decidable.not_not, bne_eq_false_iff_eq, gt_iff_lt, ge_iff_le, Bool.or_eq_true, Bool.and_eq_true] at hg4
      refine RunL.pure (Pure.move rfl) (Wt.yes rfl rfl rfl) rfl rfl ?_
      refine RunL.pure (Pure.move rfl) (Wt.yes rfl rfl rfl) rfl rfl ?_
      refine RunL.call rfl rfl (by rfl) (by repeat (first | (with_reducible exact Take.nil _) | (apply Take.cons (by first | ((repeat (first | (with_reducible exact Find.here _) | apply Find.there)); done) | (repeat (first | exact Find.here _ | apply Find.there)))))) (SameEdus_ctr rfl rfl hg12 hg5 (by omega)) (Wt.yes rfl rfl rfl) rfl ?_
      rintro _ _ ⟨rfl, hA_⟩
      replace hA_ := hA_.symm; subst hA_
      refine RunL.pure (Pure.pickT rfl rfl) (Wt.none rfl) rfl rfl ?_
      refine RunL.mv rfl rfl ?_
      refine RunL.split (d := 90) rfl (fun hg5 => ?_) (fun hg5 => ?_)
      rotate_left
      · try simp only [decide_eq_true_eq, decide_eq_false_iff_not, beq_iff_eq, beq_eq_false_iff_ne, bne_iff_ne, ne_eq, Bool.not_eq_true', Bool.not_eq_false', Bool.not_eq_true, Bool.not_eq_false, Int.not_lt, Int.not_le, Decidable.not_not, bne_eq_false_iff_eq, gt_iff_lt, ge_iff_le, Bool.or_eq_true, Bool.and_eq_true] at hg5
        exfalso
        first | (simp_all; done) | (simp_all; omega) | omega | grind
      try simp only [decide_eq_true_eq, decide_eq_false_iff_not, beq_iff_eq, beq_eq_false_iff_ne, bne_iff_ne, ne_eq, Bool.not_eq_true', Bool.not_eq_false', Bool.not_eq_true, Bool.not_eq_false, Int.not_lt, Int.not_le, Decidable.not_not, bne_eq_false_iff_eq, gt_iff_lt, ge_iff_le, Bool.or_eq_true, Bool.and_eq_true] at hg5
      refine RunL.pure (Pure.move rfl) (Wt.yes rfl rfl rfl) rfl rfl ?_
      refine RunL.call rfl rfl (by rfl) (by repeat (first | (with_reducible exact Take.nil _) | (apply Take.cons (by first | ((repeat (first | (with_reducible exact Find.here _) | apply Find.there)); done) | (repeat (first | exact Find.here _ | apply Find.there)))))) (qLen_ctr) (Wt.yes rfl rfl rfl) rfl ?_
      rintro _ _ ⟨rfl, hA_⟩
      replace hA_ := hA_.symm; subst hA_
      refine RunL.pure (Pure.eql rfl rfl) (Wt.yes rfl rfl rfl) rfl rfl ?_
      refine RunL.pure (Pure.pickT rfl rfl) (Wt.none rfl) rfl rfl ?_
      refine RunL.mv rfl rfl ?_
      refine RunL.split (d := 95) rfl (fun hg6 => ?_) (fun hg6 => ?_)
      rotate_left
      · try simp only [decide_eq_true_eq, decide_eq_false_iff_not, beq_iff_eq, beq_eq_false_iff_ne, bne_iff_ne, ne_eq, Bool.not_eq_true', Bool.not_eq_false', Bool.not_eq_true, Bool.not_eq_false, Int.not_lt, Int.not_le, Decidable.not_not, bne_eq_false_iff_eq, gt_iff_lt, ge_iff_le, Bool.or_eq_true, Bool.and_eq_true] at hg6
        exfalso
        first | (simp_all; done) | (simp_all; omega) | omega | grind
      try simp only [decide_eq_true_eq, decide_eq_false_iff_not, beq_iff_eq, beq_eq_false_iff_ne, bne_iff_ne, ne_eq, Bool.not_eq_true', Bool.not_eq_false', Bool.not_eq_true, Bool.not_eq_false, Int.not_lt, Int.not_le, Decidable.not_not, bne_eq_false_iff_eq, gt_iff_lt, ge_iff_le, Bool.or_eq_true, Bool.and_eq_true] at hg6
      refine RunL.call rfl rfl (by rfl) (by repeat (first | (with_reducible exact Take.nil _) | (apply Take.cons (by first | ((repeat (first | (with_reducible exact Find.here _) | apply Find.there)); done) | (repeat (first | exact Find.here _ | apply Find.there)))))) (lives_ctr) (Wt.yes rfl rfl rfl) rfl ?_
      rintro _ _ ⟨rfl, hA_⟩
      replace hA_ := hA_.symm; subst hA_
      refine RunL.pure (Pure.pickT rfl rfl) (Wt.none rfl) rfl rfl ?_
      refine RunL.as rfl rfl ?_
      refine RunL.nil ?_
      exact Run.ret Try.func7 (res1 rfl rfl) (by exact ⟨rfl, rfl⟩) (by repeat (first | (with_reducible exact Fin.done (by repeat (first | (with_reducible exact Rest.here) | apply Rest.there))) | (apply Fin.cons (by first | ((repeat (first | (with_reducible exact Find.here _) | apply Find.there)); done) | (repeat (first | exact Find.here _ | apply Find.there))))))
  · try simp only [decide_eq_true_eq, decide_eq_false_iff_not, beq_iff_eq, beq_eq_false_iff_ne, bne_iff_ne, ne_eq, Bool.not_eq_true', Bool.not_eq_false', Bool.not_eq_true, Bool.not_eq_false, Int.not_lt, Int.not_le, Decidable.not_not, bne_eq_false_iff_eq, gt_iff_lt, ge_iff_le, Bool.or_eq_true, Bool.and_eq_true] at hi1
    have hlb : l.length ≤ 10 := by omega
    refine RunL.not (Wt.no rfl rfl rfl) rfl rfl ?_
    refine RunL.not (Wt.no rfl rfl rfl) rfl rfl ?_
    refine RunL.pure (Pure.pickF rfl rfl) (Wt.none rfl) rfl rfl ?_
    refine RunL.nil ?_
    refine Run.condF rfl ?_
    refine Run.exit rfl ?_
    refine Run.sr ?_
    refine RunL.mv rfl rfl ?_
    refine RunL.call rfl rfl (by rfl) (by repeat (first | (with_reducible exact Take.nil _) | (apply Take.cons (by first | ((repeat (first | (with_reducible exact Find.here _) | apply Find.there)); done) | (repeat (first | exact Find.here _ | apply Find.there)))))) (qAll_ctr (by omega)) (Wt.none rfl) rfl ?_
    rintro _ _ ⟨a11, c11, rfl, hA_⟩
    replace hA_ := hA_.symm; subst hA_
    refine RunL.as rfl rfl ?_
    refine RunL.nil ?_
    refine Run.sr ?_
    refine RunL.mv rfl rfl ?_
    refine RunL.mv rfl rfl ?_
    refine RunL.pure (Pure.lenSl rfl rfl und37) (Wt.none rfl) rfl rfl ?_
    refine RunL.call rfl rfl (by rfl) (by repeat (first | (with_reducible exact Take.nil _) | (apply Take.cons (by first | ((repeat (first | (with_reducible exact Find.here _) | apply Find.there)); done) | (repeat (first | exact Find.here _ | apply Find.there)))))) (Take_ctr (l := l) (z := (l.length : Nat)) (by omega)) (Wt.none rfl) rfl ?_
    rintro _ _ ⟨a12, c12, rfl, hA_⟩
    replace hA_ := hA_.symm; subst hA_
    rw [show takeN ((l.length : Nat) : Int) l = l.length from by unfold takeN; omega, List.take_length, List.drop_length]
    refine RunL.as rfl rfl ?_
    refine RunL.nil ?_
    refine Run.lendAll (Q := Sl 31 11 a11 l.length c11 ((l).flatMap cEdu)) Lends.Sl (by first | ((repeat (first | (with_reducible exact Find.here _) | apply Find.there)); done) | (repeat (first | exact Find.here _ | apply Find.there))) (fun Ghg11 hleGhg11 hg11 => ?_)
    replace h := h.mono hleGhg11
    obtain ⟨hg11, _⟩ := hg11
    refine Run.lendAll (Q := Sl 31 11 a12 l.length c12 ((l).flatMap cEdu)) Lends.Sl (by first | ((repeat (first | (with_reducible exact Find.here _) | apply Find.there)); done) | (repeat (first | exact Find.here _ | apply Find.there))) (fun Ghg12 hleGhg12 hg12 => ?_)
    replace h := h.mono hleGhg12
    replace hg11 := hg11.mono hleGhg12
    obtain ⟨hg12, _⟩ := hg12
    refine Run.lendAll (Q := Sl 31 11 a5 l.length c5 ((l).flatMap cEdu)) Lends.Sl (by first | ((repeat (first | (with_reducible exact Find.here _) | apply Find.there)); done) | (repeat (first | exact Find.here _ | apply Find.there))) (fun Ghg5 hleGhg5 hg5 => ?_)
    replace h := h.mono hleGhg5
    replace hg11 := hg11.mono hleGhg5
    replace hg12 := hg12.mono hleGhg5
    obtain ⟨hg5, _⟩ := hg5
    refine Run.sr ?_
    refine RunL.mv rfl rfl ?_
    refine RunL.mv rfl rfl ?_
    refine RunL.call rfl rfl (by rfl) (by repeat (first | (with_reducible exact Take.nil _) | (apply Take.cons (by first | ((repeat (first | (with_reducible exact Find.here _) | apply Find.there)); done) | (repeat (first | exact Find.here _ | apply Find.there)))))) (SameEdus_ctr rfl rfl hg11 hg5 (by omega)) (Wt.none rfl) rfl ?_
    rintro _ _ ⟨rfl, hA_⟩
    replace hA_ := hA_.symm; subst hA_
    refine RunL.mv rfl rfl ?_
    refine RunL.split (d := 85) rfl (fun hg7 => ?_) (fun hg7 => ?_)
    rotate_left
    · try simp only [decide_eq_true_eq, decide_eq_false_iff_not, beq_iff_eq, beq_eq_false_iff_ne, bne_iff_ne, ne_eq, Bool.not_eq_true', Bool.not_eq_false', Bool.not_eq_true, Bool.not_eq_false, Int.not_lt, Int.not_le, Decidable.not_not, bne_eq_false_iff_eq, gt_iff_lt, ge_iff_le, Bool.or_eq_true, Bool.and_eq_true] at hg7
      exfalso
      first | (simp_all; done) | (simp_all; omega) | omega | grind
    try simp only [decide_eq_true_eq, decide_eq_false_iff_not, beq_iff_eq, beq_eq_false_iff_ne, bne_iff_ne, ne_eq, Bool.not_eq_true', Bool.not_eq_false', Bool.not_eq_true, Bool.not_eq_false, Int.not_lt, Int.not_le, Decidable.not_not, bne_eq_false_iff_eq, gt_iff_lt, ge_iff_le, Bool.or_eq_true, Bool.and_eq_true] at hg7
    refine RunL.pure (Pure.move rfl) (Wt.yes rfl rfl rfl) rfl rfl ?_
    refine RunL.pure (Pure.move rfl) (Wt.yes rfl rfl rfl) rfl rfl ?_
    refine RunL.call rfl rfl (by rfl) (by repeat (first | (with_reducible exact Take.nil _) | (apply Take.cons (by first | ((repeat (first | (with_reducible exact Find.here _) | apply Find.there)); done) | (repeat (first | exact Find.here _ | apply Find.there)))))) (SameEdus_ctr rfl rfl hg12 hg5 (by omega)) (Wt.yes rfl rfl rfl) rfl ?_
    rintro _ _ ⟨rfl, hA_⟩
    replace hA_ := hA_.symm; subst hA_
    refine RunL.pure (Pure.pickT rfl rfl) (Wt.none rfl) rfl rfl ?_
    refine RunL.mv rfl rfl ?_
    refine RunL.split (d := 90) rfl (fun hg8 => ?_) (fun hg8 => ?_)
    rotate_left
    · try simp only [decide_eq_true_eq, decide_eq_false_iff_not, beq_iff_eq, beq_eq_false_iff_ne, bne_iff_ne, ne_eq, Bool.not_eq_true', Bool.not_eq_false', Bool.not_eq_true, Bool.not_eq_false, Int.not_lt, Int.not_le, Decidable.not_not, bne_eq_false_iff_eq, gt_iff_lt, ge_iff_le, Bool.or_eq_true, Bool.and_eq_true] at hg8
      exfalso
      first | (simp_all; done) | (simp_all; omega) | omega | grind
    try simp only [decide_eq_true_eq, decide_eq_false_iff_not, beq_iff_eq, beq_eq_false_iff_ne, bne_iff_ne, ne_eq, Bool.not_eq_true', Bool.not_eq_false', Bool.not_eq_true, Bool.not_eq_false, Int.not_lt, Int.not_le, Decidable.not_not, bne_eq_false_iff_eq, gt_iff_lt, ge_iff_le, Bool.or_eq_true, Bool.and_eq_true] at hg8
    refine RunL.pure (Pure.move rfl) (Wt.yes rfl rfl rfl) rfl rfl ?_
    refine RunL.call rfl rfl (by rfl) (by repeat (first | (with_reducible exact Take.nil _) | (apply Take.cons (by first | ((repeat (first | (with_reducible exact Find.here _) | apply Find.there)); done) | (repeat (first | exact Find.here _ | apply Find.there)))))) (qLen_ctr) (Wt.yes rfl rfl rfl) rfl ?_
    rintro _ _ ⟨rfl, hA_⟩
    replace hA_ := hA_.symm; subst hA_
    refine RunL.pure (Pure.eql rfl rfl) (Wt.yes rfl rfl rfl) rfl rfl ?_
    refine RunL.pure (Pure.pickT rfl rfl) (Wt.none rfl) rfl rfl ?_
    refine RunL.mv rfl rfl ?_
    refine RunL.split (d := 95) rfl (fun hg9 => ?_) (fun hg9 => ?_)
    rotate_left
    · try simp only [decide_eq_true_eq, decide_eq_false_iff_not, beq_iff_eq, beq_eq_false_iff_ne, bne_iff_ne, ne_eq, Bool.not_eq_true', Bool.not_eq_false', Bool.not_eq_true, Bool.not_eq_false, Int.not_lt, Int.not_le, Decidable.not_not, bne_eq_false_iff_eq, gt_iff_lt, ge_iff_le, Bool.or_eq_true, Bool.and_eq_true] at hg9
      exfalso
      first | (simp_all; done) | (simp_all; omega) | omega | grind
    try simp only [decide_eq_true_eq, decide_eq_false_iff_not, beq_iff_eq, beq_eq_false_iff_ne, bne_iff_ne, ne_eq, Bool.not_eq_true', Bool.not_eq_false', Bool.not_eq_true, Bool.not_eq_false, Int.not_lt, Int.not_le, Decidable.not_not, bne_eq_false_iff_eq, gt_iff_lt, ge_iff_le, Bool.or_eq_true, Bool.and_eq_true] at hg9
    refine RunL.call rfl rfl (by rfl) (by repeat (first | (with_reducible exact Take.nil _) | (apply Take.cons (by first | ((repeat (first | (with_reducible exact Find.here _) | apply Find.there)); done) | (repeat (first | exact Find.here _ | apply Find.there)))))) (lives_ctr) (Wt.yes rfl rfl rfl) rfl ?_
    rintro _ _ ⟨rfl, hA_⟩
    replace hA_ := hA_.symm; subst hA_
    refine RunL.pure (Pure.pickT rfl rfl) (Wt.none rfl) rfl rfl ?_
    refine RunL.as rfl rfl ?_
    refine RunL.nil ?_
    exact Run.ret Try.func7 (res1 rfl rfl) (by exact ⟨rfl, rfl⟩) (by repeat (first | (with_reducible exact Fin.done (by repeat (first | (with_reducible exact Rest.here) | apply Rest.there))) | (apply Fin.cons (by first | ((repeat (first | (with_reducible exact Find.here _) | apply Find.there)); done) | (repeat (first | exact Find.here _ | apply Find.there))))))

end Go.Proofs.Ytnmpbpadpkgboaa
