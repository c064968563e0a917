/- All entries of an iterator. -/
import Derived.Test.YtppamndllgojnaaH10
set_option linter.unusedVariables false
set_option linter.unusedSimpArgs false
set_option linter.unusedSectionVars false
namespace Go.Proofs.Ytppamndllgojnaa
open Go Csl
theorem pl29 : placesOf Try.prog 29 = some ([(0, 1)], (.agg #[(.slice none 0 0)])) := by kernel_rfl
theorem und22 : Try.prog.underlying 22 = some (Go.TypeDesc.slice 31) := Try.underlying22
theorem und4 : Try.prog.underlying 4 = some Go.TypeDesc.bool := Try.underlying4

set_option maxHeartbeats 2000000 in
set_option maxRecDepth 100000 in
theorem ValuesC {G : Gp} {b cap l : Nat} {a : Option Addr} {xs : List E} {J : List E → HProp} (hbr : Ro G b 53 [.slice a xs.length cap]) (hs : SlR G 45 2 a xs.length (xs.flatMap cE)) (hb : xs.length ≤ 1000000) (hY : ∀ pre x suf, xs = pre ++ x :: suf → YieldC Try.prog G l ((fun x : E => [.agg (cE x).toArray]) x) (J pre) (J (pre ++ [x]))) :
    Ctr Try.prog G 38 [.func (.yield l) #[] #[], .pointer (some ⟨b, 0, none⟩)] [J []] (fun F v A => v = .tuple #[] ∧ A = J xs :: F) := by
  refine Ctr.intro Try.func38 rfl (by kernel_rfl) rfl (fun F => ?_)
  simp only [List.cons_append, List.nil_append]
  refine Run.sr ?_
  refine RunL.load1R rfl hbr (by rfl) agg53 (Wt.none rfl) rfl ?_
  refine RunL.pure (Pure.lenSl rfl rfl und53) (Wt.none rfl) rfl rfl ?_
  refine RunL.mv rfl rfl ?_
  refine RunL.nil ?_
  refine Run.block ?_
  refine Run.keep (.cons rfl (.cons rfl (.cons rfl (.cons rfl (.nil)))) : Keep _ [0, 5, 6, 7] _) ?_
  refine Run.loopF (F := F) (fun n e_ A => ∃ (i : Nat), i ≤ xs.length ∧ n = xs.length - i ∧ e_ = [(0, .func (.yield l) #[] #[]), (5, .slice a xs.length cap), (6, .int .i64 (xs.length : Nat)), (7, .int .i64 (i : Nat))] ∧ A = J (xs.take i) :: F) (xs.length) (by exact ⟨0, by omega, rfl, rfl, rfl⟩) (by repeat (first | (with_reducible exact Fin.done (by repeat (first | (with_reducible exact Rest.here) | apply Rest.there))) | (apply Fin.cons (by first | ((repeat (first | (with_reducible exact F0 _) | apply F1)); done) | (repeat (first | exact F0 _ | apply F1)))))) ?_
  rintro n _ _ ⟨i, hi, rfl, rfl, hA_⟩ ih
  replace hA_ := hA_.symm; subst hA_
  refine Run.sr ?_
  refine RunL.pure (Pure.lss rfl rfl) (Wt.none rfl) rfl rfl ?_
  refine RunL.nil ?_
  refine Run.seq ?_
  refine Run.cond rfl (fun h1 => ?_) (fun h1 => ?_)
  · try simp only [ZA, ZB, ZC, ZD, ZE, ZF, ZG, ZH, ZI, ZJ, ZK, ZL, ZM, ZN, ZO, ZP, ZQ, ZR] at h1
    obtain ⟨x, hx⟩ := get_some (xs := xs) (i := i) (by omega)
    obtain ⟨be, Te, pree, poste, hpe, hroe⟩ := hs.open1 (show 0 < xs.length by omega)
    have hsp : xs = xs.take i ++ x :: xs.drop (i + 1) := by
      have h1 := List.getElem?_eq_some_iff.1 hx
      rw [← h1.2, List.getElem_cons_drop, List.take_append_drop]
    have hy := hY _ _ _ hsp
    rw [show xs.take i ++ [x] = xs.take (i + 1) from by rw [List.take_add_one, hx]; rfl] at hy
    refine Run.skip ?_
    refine Run.seq ?_
    refine Run.block ?_
    refine Run.sr ?_
    refine RunL.pure (Pure.indexAddr (opvSl rfl hpe) rfl und53 sz45 (by omega) (by omega)) (Wt.none rfl) rfl rfl ?_
    refine RunL.loadNR (vs := (cE x)) rfl hroe agg45 sz45 (elemN_len (pre := pree) (post := poste) (f := cE) (sz := 2) (j := 0) (n := 2) (fun _ _ => rfl) hx (by decide)) ((elemN_at (pre := pree) (post := poste) (f := cE) (sz := 2) (j := 0) (n := 2) (fun _ _ => rfl) hx (by decide)).trans rfl) (Wt.none rfl) rfl ?_
    refine RunL.alloc zz45 (Wt.none rfl) rfl ?_; intro b4
    refine RunL.storeW (xs := (cE x)) rfl rfl (by first | ((repeat (first | (with_reducible exact F0 _) | apply F1)); done) | (repeat (first | exact F0 _ | apply F1))) sz45 (by rfl) (by rfl) (by rfl) (Wt.none rfl) ?_
    refine RunL.nil ?_
    refine Run.seq ?_
    refine Run.regionI ?_
    refine RunI.step (fun _ q => by cases q) ?_
    refine RunL.mv rfl rfl ?_
    refine RunI.back ?_
    refine RunI.step (fun _ q => by cases q) ?_
    first | refine RunL.loadA (vs := (cE x)) rfl (by first | ((repeat (first | (with_reducible exact F0 _) | apply F1)); done) | (repeat (first | exact F0 _ | apply F1))) agg45 sz45 (by first | exact Nat.le_of_ble_eq_true rfl | (simp; done) | (simp; omega)) rfl (Wt.none rfl) rfl ?_ | refine RunL.loadNR (vs := (cE x)) rfl (by assumption) agg45 sz45 (by first | exact Nat.le_of_ble_eq_true rfl | (simp; done) | (simp; omega)) rfl (Wt.none rfl) rfl ?_
    refine RunI.back ?_
    refine RunI.yield rfl rfl (hy) (by first | ((repeat (first | (with_reducible exact F0 _) | apply F1)); done) | (repeat (first | exact F0 _ | apply F1))) (Wt.none rfl) rfl ?_
    refine RunI.step (fun _ q => by cases q) ?_
    refine RunL.pure (Pure.not rfl) (Wt.none rfl) rfl rfl ?_
    refine RunI.back ?_
    refine RunI.nil ?_
    refine Run.condF rfl ?_
    refine Run.skip ?_
    refine Run.inBlock ?_
    refine Run.region ?_
    first | refine RunL.pure (Pure.addI rfl rfl (by omega)) (Wt.none rfl) rfl rfl ?_ | refine RunL.pure (Pure.add rfl rfl) (Wt.none rfl) rfl rfl ?_
    refine RunL.mv rfl rfl ?_
    refine RunL.nil ?_
    refine Run.keep (.cons rfl (.cons rfl (.cons rfl (.cons rfl (.nil)))) : Keep _ [0, 5, 6, 7] _) ?_
    refine Run.againF (F := F) ih (by exact ⟨i + 1, by omega, rfl, rfl, rfl⟩) (by repeat (first | (with_reducible exact Fin.done (by repeat (first | (with_reducible exact Rest.here) | apply Rest.there))) | (apply Fin.cons (by first | ((repeat (first | (with_reducible exact F0 _) | apply F1)); done) | (repeat (first | exact F0 _ | apply F1)))))) ?_
    omega
  · try simp only [ZA, ZB, ZC, ZD, ZE, ZF, ZG, ZH, ZI, ZJ, ZK, ZL, ZM, ZN, ZO, ZP, ZQ, ZR] at h1
    refine Run.exit rfl ?_
    obtain rfl : i = xs.length := by omega
    rw [List.take_length]
    exact Run.fin Try.func38 (res0 rfl) (by exact ⟨rfl, rfl⟩) (by repeat (first | (with_reducible exact Fin.done (by repeat (first | (with_reducible exact Rest.here) | apply Rest.there))) | (apply Fin.cons (by first | ((repeat (first | (with_reducible exact F0 _) | apply F1)); done) | (repeat (first | exact F0 _ | apply F1))))))

theorem ValuesSeq {G : Gp} {b cap : Nat} {a : Option Addr} {xs : List E} (hbr : Ro G b 53 [.slice a xs.length cap]) (hs : SlR G 45 2 a xs.length (xs.flatMap cE)) (hb : xs.length ≤ 1000000) : SeqC Try.prog G 38 [.pointer (some ⟨b, 0, none⟩)] (fun x : E => [.agg (cE x).toArray]) xs := fun l J hY => ValuesC hbr hs hb hY
set_option maxRecDepth 100000 in
theorem Values_ctr {G : Gp} {a : Option Addr} {n cap : Nat} :
    Ctr Try.prog G 34 [.slice a n cap] [] (fun F u A => ∃ b, u = .func (.func 38) #[] #[.pointer (some ⟨b, 0, none⟩)] ∧ A = row b 53 [.slice a n cap] :: F) := by
  refine Ctr.intro Try.func34 rfl (by kernel_rfl) rfl (fun F => ?_)
  simp only [List.nil_append]
  refine Run.sr ?_
  refine RunL.box rfl (Wt.none rfl) rfl ?_; intro b1
  refine RunL.as rfl rfl ?_
  refine RunL.nil ?_
  refine Run.sr ?_
  refine RunL.pure (Pure.makeFunc rfl rfl) (Wt.none rfl) rfl rfl ?_
  refine RunL.as rfl rfl ?_
  refine RunL.nil ?_
  exact Run.ret Try.func34 (res1 rfl rfl) (by exact ⟨b1, rfl, rfl⟩) (by repeat (first | (with_reducible exact Fin.done (by repeat (first | (with_reducible exact Rest.here) | apply Rest.there))) | (apply Fin.cons (by first | ((repeat (first | (with_reducible exact F0 _) | apply F1)); done) | (repeat (first | exact F0 _ | apply F1))))))

set_option maxHeartbeats 4000000 in
set_option maxRecDepth 100000 in
theorem AppendSeq_ctr {G : Gp} {gf : FuncId} {lb : Array Value} {xs : List E} (hseq : SeqC Try.prog G gf lb.toList (fun x : E => [.agg (cE x).toArray]) xs) (hcal : Callable Try.prog gf) (hb : xs.length ≤ 1000000) :
    Ctr Try.prog G 42 [.slice none 0 0, .func (.func gf) #[] lb] [] (fun F v A => ∃ a c, v = .slice a xs.length c ∧ A = Sl 45 2 a xs.length c (xs.flatMap cE) :: F) := by
  refine Ctr.intro Try.func42 rfl (by kernel_rfl) rfl (fun F => ?_)
  simp only [List.nil_append]
  refine Run.sr ?_
  refine RunL.box rfl (Wt.none rfl) rfl ?_; intro b2
  refine RunL.as rfl rfl ?_
  refine RunL.nil ?_
  refine Run.seq ?_
  refine Run.sr ?_
  refine RunL.mv rfl rfl ?_
  refine RunL.nil ?_
  refine Run.block ?_
  refine Run.nilSl 45 2 ?_
  refine Run.mkEx (φ := fun _ : Option Addr × Nat => True) (L := fun y => [row b2 53 [.slice y.1 (([] : List E)).length y.2], Sl 45 2 y.1 (([] : List E)).length y.2 ((([] : List E)).flatMap cE)]) (none, 0) (by repeat (first | (with_reducible exact Take.nil _) | (apply Take.cons (by first | ((repeat (first | (with_reducible exact F0 _) | apply F1)); done) | (repeat (first | exact F0 _ | apply F1)))))) trivial ?_
  refine Run.rangeFunc (J := (fun pre : List E => Ex (fun _ : Option Addr × Nat => True) (fun y => [row b2 53 [.slice y.1 pre.length y.2], Sl 45 2 y.1 pre.length y.2 (pre.flatMap cE)]))) rfl rfl (hseq) hcal (by repeat (first | (with_reducible exact Take.nil _) | (apply Take.cons (by first | ((repeat (first | (with_reducible exact F0 _) | apply F1)); done) | (repeat (first | exact F0 _ | apply F1)))))) (fun lp rec pre x suf hst hpe hpar has hbo he hx => ?_) (fun D => ?_)
  · have henv := EnvOk.put (d := 7) (v := .agg (cE x).toArray) he (blt_lt (by rfl))
    refine YieldC.mk (nd := (Try.f42.ntmps, [])) hst hpe (by rw [hpar]; rfl) (by simpa [hpar, Act.put] using henv) (fun F9 => ?_)
    rw [has, hbo]
    refine RunC.region ?_
    refine RunR.step (fun _ q => by cases q) ?_
    refine RunL.alloc zz45 (Wt.none rfl) rfl ?_; intro b5
    refine RunR.back ?_
    refine RunR.step (fun _ q => by cases q) ?_
    refine RunL.storeW (xs := (cE x)) rfl rfl (by first | ((repeat (first | (with_reducible exact F0 _) | apply F1)); done) | (repeat (first | exact F0 _ | apply F1))) sz45 (by rfl) (by rfl) (by rfl) (Wt.none rfl) ?_
    refine RunR.back ?_
    refine RunR.nil (fun a w he2 s2 => ⟨_, _, he2, s2.find (by first | ((repeat (first | (with_reducible exact F0 _) | apply F1)); done) | (repeat (first | exact F0 _ | apply F1))), ?_⟩)
    refine RunC.block ?_
    refine RunC.region ?_
    refine RunR.step (fun _ q => by cases q) ?_
    refine RunL.openEx (by first | ((repeat (first | (with_reducible exact F0 _) | apply F1)); done) | (repeat (first | exact F0 _ | apply F1))) ?_; rintro ⟨ap, cp⟩ -
    have hpl : pre.length < xs.length := by rw [hx]; simp
    first | refine RunL.load1 rfl (by first | ((repeat (first | (with_reducible exact F0 _) | apply F1)); done) | (repeat (first | exact F0 _ | apply F1))) (by rfl) agg53 (Wt.none rfl) rfl ?_ | refine RunL.load1R rfl (by assumption) (by rfl) agg53 (Wt.none rfl) rfl ?_
    refine RunR.back ?_
    refine RunR.step (fun _ q => by cases q) ?_
    first | refine RunL.loadA (vs := (cE x)) rfl (by first | ((repeat (first | (with_reducible exact F0 _) | apply F1)); done) | (repeat (first | exact F0 _ | apply F1))) agg45 sz45 (by first | exact Nat.le_of_ble_eq_true rfl | (simp; done) | (simp; omega)) rfl (Wt.none rfl) rfl ?_ | refine RunL.loadNR (vs := (cE x)) rfl (by assumption) agg45 sz45 (by first | exact Nat.le_of_ble_eq_true rfl | (simp; done) | (simp; omega)) rfl (Wt.none rfl) rfl ?_
    refine RunR.back ?_
    refine RunR.step (fun _ q => by cases q) ?_
    refine RunL.lit (vals := [_]) (vs := ([x] : List E).flatMap cE) und53 sz45 zz45 rfl rfl rfl rfl rfl rfl (by simp [Value.cells, bv, cE, cOO]) rfl (Wt.none rfl) rfl ?_; intro b10
    refine RunR.back ?_
    refine RunR.step (fun _ q => by cases q) ?_
    refine RunL.append (m := 1) (n' := (pre ++ [x]).length) (cs' := (pre ++ [x]).flatMap cE) rfl rfl (by first | ((repeat (first | (with_reducible exact F0 _) | apply F1)); done) | (repeat (first | exact F0 _ | apply F1))) rfl rfl und53 und53 rfl sz45 zz45 rfl by45 (by omega) (by omega) (fun w sw => sw.src) (isOne_flat (f := cE) (fun _ => rfl)) (by simp) (by rw [List.flatMap_append]) (Wt.none rfl) rfl ?_; intro a3 c3
    refine RunR.back ?_
    refine RunR.step (fun _ q => by cases q) ?_
    refine RunL.store1 rfl rfl (by first | ((repeat (first | (with_reducible exact F0 _) | apply F1)); done) | (repeat (first | exact F0 _ | apply F1))) sz53 (by rfl) (by simp) (Wt.none rfl) ?_
    try simp only [List.set_cons_zero, List.set_cons_succ]
    refine RunL.mkEx (φ := fun _ : Option Addr × Nat => True) (L := fun y => [row b2 53 [.slice y.1 (pre ++ [x]).length y.2], Sl 45 2 y.1 (pre ++ [x]).length y.2 ((pre ++ [x]).flatMap cE)]) (a3, c3) (by repeat (first | (with_reducible exact Take.nil _) | (apply Take.cons (by first | ((repeat (first | (with_reducible exact F0 _) | apply F1)); done) | (repeat (first | exact F0 _ | apply F1)))))) trivial ?_
    refine RunR.back ?_
    exact RunR.nil (fun a w _ s => Fin.st (F := F9) (by repeat (first | (with_reducible exact Fin.done (by repeat (first | (with_reducible exact Rest.here) | apply Rest.there))) | (apply Fin.cons (by first | ((repeat (first | (with_reducible exact F0 _) | apply F1)); done) | (repeat (first | exact F0 _ | apply F1)))))) s)
  · skip
    refine Run.openEx (by first | ((repeat (first | (with_reducible exact F0 _) | apply F1)); done) | (repeat (first | exact F0 _ | apply F1))) ?_; rintro ⟨ap, cp⟩ -
    refine Run.inBlock ?_
    refine Run.sr ?_
    first | refine RunL.load1 rfl (by first | ((repeat (first | (with_reducible exact F0 _) | apply F1)); done) | (repeat (first | exact F0 _ | apply F1))) (by rfl) agg53 (Wt.none rfl) rfl ?_ | refine RunL.load1R rfl (by assumption) (by rfl) agg53 (Wt.none rfl) rfl ?_
    refine RunL.as rfl rfl ?_
    refine RunL.nil ?_
    dsimp only
    exact Run.retM (D := D) Try.func42 (by first | ((repeat (first | (with_reducible exact F0 _) | apply F1)); done) | (repeat (first | exact F0 _ | apply F1))) (res1 rfl rfl) (by exact ⟨ap, cp, rfl, rfl⟩) (by repeat (first | (with_reducible exact Fin.done (by repeat (first | (with_reducible exact Rest.here) | apply Rest.there))) | (apply Fin.cons (by first | ((repeat (first | (with_reducible exact F0 _) | apply F1)); done) | (repeat (first | exact F0 _ | apply F1))))))

set_option maxRecDepth 100000 in
theorem Collect_ctr {G : Gp} {gf : FuncId} {lb : Array Value} {xs : List E} (hseq : SeqC Try.prog G gf lb.toList (fun x : E => [.agg (cE x).toArray]) xs) (hcal : Callable Try.prog gf) (hb : xs.length ≤ 1000000) :
    Ctr Try.prog G 36 [.func (.func gf) #[] lb] [] (fun F v A => ∃ a c, v = .slice a xs.length c ∧ A = Sl 45 2 a xs.length c (xs.flatMap cE) :: F) := by
  refine Ctr.intro Try.func36 rfl (by kernel_rfl) rfl (fun F => ?_)
  simp only [List.nil_append]
  refine Run.sr ?_
  refine RunL.as rfl rfl ?_
  refine RunL.nil ?_
  refine Run.sr ?_
  refine RunL.mv rfl rfl ?_
  refine RunL.call rfl rfl (by rfl) (by repeat (first | (with_reducible exact Take.nil _) | (apply Take.cons (by first | ((repeat (first | (with_reducible exact F0 _) | apply F1)); done) | (repeat (first | exact F0 _ | apply F1)))))) (AppendSeq_ctr hseq hcal hb) (Wt.none rfl) rfl ?_
  rintro _ _ ⟨a, c, rfl, hA_⟩
  replace hA_ := hA_.symm; subst hA_
  refine RunL.as rfl rfl ?_
  refine RunL.nil ?_
  exact Run.ret Try.func36 (res1 rfl rfl) (by exact ⟨a, c, rfl, rfl⟩) (by repeat (first | (with_reducible exact Fin.done (by repeat (first | (with_reducible exact Rest.here) | apply Rest.there))) | (apply Fin.cons (by first | ((repeat (first | (with_reducible exact F0 _) | apply F1)); done) | (repeat (first | exact F0 _ | apply F1))))))

end Go.Proofs.Ytppamndllgojnaa
