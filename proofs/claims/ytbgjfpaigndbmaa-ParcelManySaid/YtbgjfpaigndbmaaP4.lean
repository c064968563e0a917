/- Which parcels are the same. -/
import Derived.Test.YtbgjfpaigndbmaaP3
set_option linter.unusedVariables false
set_option linter.unusedSimpArgs false
set_option linter.unusedSectionVars false
namespace Go.Proofs.Ytbgjfpaigndbmaa
open Go Csl
theorem und27 : Try.prog.underlying 27 = some (Go.TypeDesc.slice 24) := Try.underlying27

theorem pWriteT_ctr {G : Gp} {p : Prc} {xs : List Edu} (hE : HasE G p xs) (hz : ∀ x ∈ xs, eduSmall x) (hb : p.ed.n ≤ 9223372036854775807) (ho : okPrc p) (hzo : ∀ x ∈ xs, okEdu x) (h : prcMay p xs = true) : Ctr Try.prog G 12 [.agg (cPrc p).toArray] [] (fun F v A => ∃ a c, v = .tuple #[.slice a (prcBytes p xs).length c, .int .i64 0] ∧ A = Sl 5 1 a (prcBytes p xs).length c ((prcBytes p xs).map bv) :: F) := (pWrite_ctr hE hz hb ho hzo).mono fun F v A q => by
  rcases q with q | q
  · exact q.2
  · rw [h] at q; cases q.1
theorem pWriteF_ctr {G : Gp} {p : Prc} {xs : List Edu} (hE : HasE G p xs) (hz : ∀ x ∈ xs, eduSmall x) (hb : p.ed.n ≤ 9223372036854775807) (ho : okPrc p) (hzo : ∀ x ∈ xs, okEdu x) (h : prcMay p xs = false) : Ctr Try.prog G 12 [.agg (cPrc p).toArray] [] (fun F v A => v = .tuple #[.slice none 0 0, .int .i64 1] ∧ A = F) := (pWrite_ctr hE hz hb ho hzo).mono fun F v A q => by
  rcases q with q | q
  · rw [h] at q; cases q.1
  · exact q.2
set_option maxHeartbeats 4000000 in
set_option maxRecDepth 100000 in
theorem lives_ctr {G : Gp} :
    Ctr Try.prog G 16 [] [] (fun F v A => v = .bool true ∧ A = F) := by
  refine Ctr.intro Try.func16 rfl (by kernel_rfl) rfl (fun F => ?_)
  simp only [List.nil_append]
  refine Run.sr ?_
  refine RunL.as rfl rfl ?_
  refine RunL.nil ?_
  refine Run.sr ?_
  refine RunL.pure (Pure.buildL (ps := [(0, _), (1, _), (2, _), (3, _)]) (zs := [(.bool false), (.string .empty), (.string .empty), (.int .i64 0), (.slice none 0 0)]) (xs := (cPrc ((⟨true, ⟨#[97]⟩, ⟨#[98]⟩, 3, ⟨none, 0, 0⟩⟩ : Prc)))) pl33 rfl rfl rfl rfl) (Wt.none rfl) rfl rfl ?_
  refine RunL.call rfl rfl (by rfl) (by repeat (first | (with_reducible exact Take.nil _) | (apply Take.cons (by first | ((repeat (first | (with_reducible exact F0 _) | apply F1)); done) | (repeat (first | exact F0 _ | apply F1)))))) (pWriteT_ctr (p := (⟨true, ⟨#[97]⟩, ⟨#[98]⟩, 3, ⟨none, 0, 0⟩⟩ : Prc)) (xs := []) ⟨rfl, .inl ⟨rfl, rfl⟩, Nat.le_refl 0⟩ (fun x h => by cases h) (by decide) ⟨by decide, by decide, by decide⟩ (fun x h => by cases h) (by decide +kernel)) (Wt.none rfl) rfl ?_
  rintro _ _ ⟨a2, c2, rfl, hA_⟩
  replace hA_ := hA_.symm; subst hA_
  refine RunL.mv rfl rfl ?_
  refine RunL.pure (Pure.extract rfl rfl) (Wt.none rfl) rfl rfl ?_
  refine RunL.pure (Pure.extract rfl rfl) (Wt.none rfl) rfl rfl ?_
  refine RunL.as rfl rfl ?_
  refine RunL.as rfl rfl ?_
  refine RunL.nil ?_
  refine Run.sr ?_
  refine RunL.mv rfl rfl ?_
  refine RunL.pure (Pure.eql rfl rfl) (Wt.none rfl) rfl rfl ?_
  refine RunL.mv rfl rfl ?_
  refine RunL.split (d := 10) rfl (fun hg1 => ?_) (fun hg1 => ?_)
  rotate_left
  · try simp only [ZA, ZB, ZC, ZD, ZE, ZF, ZG, ZH, ZI, ZJ, ZK, ZL, ZM, ZN, ZO, ZP, ZQ, ZR] at hg1
    exfalso
    first | (simp_all; done) | (simp_all; omega) | omega | grind
  try simp only [ZA, ZB, ZC, ZD, ZE, ZF, ZG, ZH, ZI, ZJ, ZK, ZL, ZM, ZN, ZO, ZP, ZQ, ZR] at hg1
  refine RunL.pure (Pure.move rfl) (Wt.yes rfl rfl rfl) rfl rfl ?_
  refine RunL.bytesStr (bs := prcBytes (⟨true, ⟨#[97]⟩, ⟨#[98]⟩, 3, ⟨none, 0, 0⟩⟩ : Prc) []) rfl und29 und5 und9 (fun w sw => (sw.find (p := Sl 5 1 a2 _ c2 _) (by first | ((repeat (first | (with_reducible exact F0 _) | apply F1)); done) | (repeat (first | exact F0 _ | apply F1)))).src) (Wt.yes rfl rfl rfl) rfl ?_
  refine RunL.pure (Pure.seql rfl rfl) (Wt.yes rfl rfl rfl) rfl rfl ?_
  refine RunL.pure (Pure.pickT rfl rfl) (Wt.none rfl) rfl rfl ?_
  refine RunL.as rfl rfl ?_
  refine RunL.nil ?_
  exact Run.ret Try.func16 (res1 rfl rfl) (by exact ⟨congrArg Value.bool (by decide +kernel), rfl⟩) (by repeat (first | (with_reducible exact Fin.done (by repeat (first | (with_reducible exact Rest.here) | apply Rest.there))) | (apply Fin.cons (by first | ((repeat (first | (with_reducible exact F0 _) | apply F1)); done) | (repeat (first | exact F0 _ | apply F1))))))

set_option maxHeartbeats 4000000 in
set_option maxRecDepth 100000 in
theorem ParcelSame_ctr {G : Gp} {p q : Prc} (ha : ∃ xs : List Edu, xs.length = p.ed.n ∧ (∀ x ∈ xs, okEdu x) ∧ SlR G 50 11 p.ed.a xs.length (xs.flatMap cEdu) ∧ p.ed.n ≤ p.ed.c ∧ p.ed.c ≤ 9223372036854775807) (hb : ∃ xs : List Edu, xs.length = q.ed.n ∧ (∀ x ∈ xs, okEdu x) ∧ SlR G 50 11 q.ed.a xs.length (xs.flatMap cEdu) ∧ q.ed.n ≤ q.ed.c ∧ q.ed.c ≤ 9223372036854775807) (oa : okPrc p) (ob : okPrc q) :
    Ctr Try.prog G 4 [.agg (cPrc p).toArray, .agg (cPrc q).toArray] [] (fun F v A => v = .bool true ∧ A = F) := by
  refine Ctr.intro Try.func4 rfl (by kernel_rfl) rfl (fun F => ?_)
  simp only [List.nil_append]
  obtain ⟨xs, hna, hza, hsa, hca, hda⟩ := ha
  rw [hna] at hsa
  have hEa : HasE G p xs := ⟨hna.symm, hsa, hca⟩
  obtain ⟨ys, hnb, hzb, hsb, hcb, hdb⟩ := hb
  rw [hnb] at hsb
  have hEb : HasE G q ys := ⟨hnb.symm, hsb, hcb⟩
  refine Run.sr ?_
  refine RunL.boxA (xs := (cPrc p)) rfl (Wt.none rfl) rfl ?_; intro b2
  refine RunL.boxA (xs := (cPrc q)) rfl (Wt.none rfl) rfl ?_; intro b3
  refine RunL.as rfl rfl ?_
  refine RunL.nil ?_
  refine Run.lendAll (Q := row b2 24 _) Lends.row (by first | ((repeat (first | (with_reducible exact F0 _) | apply F1)); done) | (repeat (first | exact F0 _ | apply F1))) (fun G2 hleG2 hrb2 => ?_)
  replace hEa := hEa.mono hleG2
  replace hEb := hEb.mono hleG2
  refine Run.lendAll (Q := row b3 24 _) Lends.row (by first | ((repeat (first | (with_reducible exact F0 _) | apply F1)); done) | (repeat (first | exact F0 _ | apply F1))) (fun G3 hleG3 hrb3 => ?_)
  replace hEa := hEa.mono hleG3
  replace hEb := hEb.mono hleG3
  replace hrb2 := hrb2.mono hleG3
  refine Run.sr ?_
  first | refine RunL.loadA (vs := (cPrc p)) rfl (by first | ((repeat (first | (with_reducible exact F0 _) | apply F1)); done) | (repeat (first | exact F0 _ | apply F1))) agg24 sz24 (by first | exact Nat.le_of_ble_eq_true rfl | (simp; done) | (simp; omega)) rfl (Wt.none rfl) rfl ?_ | refine RunL.loadNR (vs := (cPrc p)) rfl (by assumption) agg24 sz24 (by first | exact Nat.le_of_ble_eq_true rfl | (simp; done) | (simp; omega)) rfl (Wt.none rfl) rfl ?_
  refine RunL.call rfl rfl (by rfl) (by repeat (first | (with_reducible exact Take.nil _) | (apply Take.cons (by first | ((repeat (first | (with_reducible exact F0 _) | apply F1)); done) | (repeat (first | exact F0 _ | apply F1)))))) (Good4_ctr (p := p) (xs := xs) hEa (by omega) hza oa) (Wt.none rfl) rfl ?_
  rintro _ _ ⟨aa, ca, rfl, hA_⟩
  replace hA_ := hA_.symm; subst hA_
  refine RunL.alloc zz24 (Wt.none rfl) rfl ?_; intro b5
  refine RunL.storeW (xs := (cPrc (goodP p ⟨aa, (goodL p xs).length, ca⟩))) rfl rfl (by first | ((repeat (first | (with_reducible exact F0 _) | apply F1)); done) | (repeat (first | exact F0 _ | apply F1))) sz24 (by rfl) (by rfl) (by rfl) (Wt.none rfl) ?_
  refine RunL.nil ?_
  refine Run.sr ?_
  first | refine RunL.loadA (vs := (cPrc q)) rfl (by first | ((repeat (first | (with_reducible exact F0 _) | apply F1)); done) | (repeat (first | exact F0 _ | apply F1))) agg24 sz24 (by first | exact Nat.le_of_ble_eq_true rfl | (simp; done) | (simp; omega)) rfl (Wt.none rfl) rfl ?_ | refine RunL.loadNR (vs := (cPrc q)) rfl (by assumption) agg24 sz24 (by first | exact Nat.le_of_ble_eq_true rfl | (simp; done) | (simp; omega)) rfl (Wt.none rfl) rfl ?_
  refine RunL.call rfl rfl (by rfl) (by repeat (first | (with_reducible exact Take.nil _) | (apply Take.cons (by first | ((repeat (first | (with_reducible exact F0 _) | apply F1)); done) | (repeat (first | exact F0 _ | apply F1)))))) (Good4_ctr (p := q) (xs := ys) hEb (by omega) hzb ob) (Wt.none rfl) rfl ?_
  rintro _ _ ⟨ab, cb, rfl, hA_⟩
  replace hA_ := hA_.symm; subst hA_
  refine RunL.alloc zz24 (Wt.none rfl) rfl ?_; intro b6
  refine RunL.storeW (xs := (cPrc (goodP q ⟨ab, (goodL q ys).length, cb⟩))) rfl rfl (by first | ((repeat (first | (with_reducible exact F0 _) | apply F1)); done) | (repeat (first | exact F0 _ | apply F1))) sz24 (by rfl) (by rfl) (by rfl) (Wt.none rfl) ?_
  refine RunL.nil ?_
  refine Run.sr ?_
  first | refine RunL.loadA (vs := (cPrc (goodP p ⟨aa, (goodL p xs).length, ca⟩))) rfl (by first | ((repeat (first | (with_reducible exact F0 _) | apply F1)); done) | (repeat (first | exact F0 _ | apply F1))) agg24 sz24 (by first | exact Nat.le_of_ble_eq_true rfl | (simp; done) | (simp; omega)) rfl (Wt.none rfl) rfl ?_ | refine RunL.loadNR (vs := (cPrc (goodP p ⟨aa, (goodL p xs).length, ca⟩))) rfl (by assumption) agg24 sz24 (by first | exact Nat.le_of_ble_eq_true rfl | (simp; done) | (simp; omega)) rfl (Wt.none rfl) rfl ?_
  refine RunL.alloc zz24 (Wt.none rfl) rfl ?_; intro b7
  refine RunL.storeW (xs := (cPrc (goodP p ⟨aa, (goodL p xs).length, ca⟩))) rfl rfl (by first | ((repeat (first | (with_reducible exact F0 _) | apply F1)); done) | (repeat (first | exact F0 _ | apply F1))) sz24 (by rfl) (by rfl) (by rfl) (Wt.none rfl) ?_
  refine RunL.nil ?_
  refine Run.sr ?_
  refine RunL.pure (Pure.fieldAddr rfl fo24_4) (Wt.none rfl) rfl rfl ?_
  first | refine RunL.load1 rfl (by first | ((repeat (first | (with_reducible exact F0 _) | apply F1)); done) | (repeat (first | exact F0 _ | apply F1))) (by rfl) agg22 (Wt.none rfl) rfl ?_ | refine RunL.load1R rfl (by assumption) (by rfl) agg22 (Wt.none rfl) rfl ?_
  refine RunL.pure (Pure.fieldAddr rfl fo24_4) (Wt.none rfl) rfl rfl ?_
  refine RunL.store1A (cs' := (cPrc (({ goodP p ⟨aa, (goodL p xs).length, ca⟩ with ed := (goodP q ⟨ab, (goodL q ys).length, cb⟩).ed } : Prc)))) rfl rfl (by first | ((repeat (first | (with_reducible exact F0 _) | apply F1)); done) | (repeat (first | exact F0 _ | apply F1))) sz22 (by rfl) (by first | exact Nat.le_of_ble_eq_true rfl | (simp; done) | (simp; omega)) rfl (Wt.none rfl) ?_
  refine RunL.nil ?_
  refine Run.sr ?_
  first | refine RunL.loadA (vs := (cPrc (goodP p ⟨aa, (goodL p xs).length, ca⟩))) rfl (by first | ((repeat (first | (with_reducible exact F0 _) | apply F1)); done) | (repeat (first | exact F0 _ | apply F1))) agg24 sz24 (by first | exact Nat.le_of_ble_eq_true rfl | (simp; done) | (simp; omega)) rfl (Wt.none rfl) rfl ?_ | refine RunL.loadNR (vs := (cPrc (goodP p ⟨aa, (goodL p xs).length, ca⟩))) rfl (by assumption) agg24 sz24 (by first | exact Nat.le_of_ble_eq_true rfl | (simp; done) | (simp; omega)) rfl (Wt.none rfl) rfl ?_
  refine RunL.alloc zz24 (Wt.none rfl) rfl ?_; intro b8
  refine RunL.storeW (xs := (cPrc (goodP p ⟨aa, (goodL p xs).length, ca⟩))) rfl rfl (by first | ((repeat (first | (with_reducible exact F0 _) | apply F1)); done) | (repeat (first | exact F0 _ | apply F1))) sz24 (by rfl) (by rfl) (by rfl) (Wt.none rfl) ?_
  refine RunL.nil ?_
  refine Run.sr ?_
  refine RunL.pure (Pure.fieldAddr rfl fo24_3) (Wt.none rfl) rfl rfl ?_
  first | refine RunL.load1 rfl (by first | ((repeat (first | (with_reducible exact F0 _) | apply F1)); done) | (repeat (first | exact F0 _ | apply F1))) (by rfl) agg3 (Wt.none rfl) rfl ?_ | refine RunL.load1R rfl (by assumption) (by rfl) agg3 (Wt.none rfl) rfl ?_
  refine RunL.pure (Pure.fieldAddr rfl fo24_3) (Wt.none rfl) rfl rfl ?_
  refine RunL.store1A (cs' := (cPrc (({ goodP p ⟨aa, (goodL p xs).length, ca⟩ with id := (goodP q ⟨ab, (goodL q ys).length, cb⟩).id } : Prc)))) rfl rfl (by first | ((repeat (first | (with_reducible exact F0 _) | apply F1)); done) | (repeat (first | exact F0 _ | apply F1))) sz3 (by rfl) (by first | exact Nat.le_of_ble_eq_true rfl | (simp; done) | (simp; omega)) rfl (Wt.none rfl) ?_
  refine RunL.nil ?_
  refine Run.sr ?_
  first | refine RunL.loadA (vs := (cPrc (goodP p ⟨aa, (goodL p xs).length, ca⟩))) rfl (by first | ((repeat (first | (with_reducible exact F0 _) | apply F1)); done) | (repeat (first | exact F0 _ | apply F1))) agg24 sz24 (by first | exact Nat.le_of_ble_eq_true rfl | (simp; done) | (simp; omega)) rfl (Wt.none rfl) rfl ?_ | refine RunL.loadNR (vs := (cPrc (goodP p ⟨aa, (goodL p xs).length, ca⟩))) rfl (by assumption) agg24 sz24 (by first | exact Nat.le_of_ble_eq_true rfl | (simp; done) | (simp; omega)) rfl (Wt.none rfl) rfl ?_
  first | refine RunL.loadA (vs := (cPrc (goodP q ⟨ab, (goodL q ys).length, cb⟩))) rfl (by first | ((repeat (first | (with_reducible exact F0 _) | apply F1)); done) | (repeat (first | exact F0 _ | apply F1))) agg24 sz24 (by first | exact Nat.le_of_ble_eq_true rfl | (simp; done) | (simp; omega)) rfl (Wt.none rfl) rfl ?_ | refine RunL.loadNR (vs := (cPrc (goodP q ⟨ab, (goodL q ys).length, cb⟩))) rfl (by assumption) agg24 sz24 (by first | exact Nat.le_of_ble_eq_true rfl | (simp; done) | (simp; omega)) rfl (Wt.none rfl) rfl ?_
  first | refine RunL.loadA (vs := (cPrc (({ goodP p ⟨aa, (goodL p xs).length, ca⟩ with ed := (goodP q ⟨ab, (goodL q ys).length, cb⟩).ed } : Prc)))) rfl (by first | ((repeat (first | (with_reducible exact F0 _) | apply F1)); done) | (repeat (first | exact F0 _ | apply F1))) agg24 sz24 (by first | exact Nat.le_of_ble_eq_true rfl | (simp; done) | (simp; omega)) rfl (Wt.none rfl) rfl ?_ | refine RunL.loadNR (vs := (cPrc (({ goodP p ⟨aa, (goodL p xs).length, ca⟩ with ed := (goodP q ⟨ab, (goodL q ys).length, cb⟩).ed } : Prc)))) rfl (by assumption) agg24 sz24 (by first | exact Nat.le_of_ble_eq_true rfl | (simp; done) | (simp; omega)) rfl (Wt.none rfl) rfl ?_
  first | refine RunL.loadA (vs := (cPrc (({ goodP p ⟨aa, (goodL p xs).length, ca⟩ with id := (goodP q ⟨ab, (goodL q ys).length, cb⟩).id } : Prc)))) rfl (by first | ((repeat (first | (with_reducible exact F0 _) | apply F1)); done) | (repeat (first | exact F0 _ | apply F1))) agg24 sz24 (by first | exact Nat.le_of_ble_eq_true rfl | (simp; done) | (simp; omega)) rfl (Wt.none rfl) rfl ?_ | refine RunL.loadNR (vs := (cPrc (({ goodP p ⟨aa, (goodL p xs).length, ca⟩ with id := (goodP q ⟨ab, (goodL q ys).length, cb⟩).id } : Prc)))) rfl (by assumption) agg24 sz24 (by first | exact Nat.le_of_ble_eq_true rfl | (simp; done) | (simp; omega)) rfl (Wt.none rfl) rfl ?_
  refine RunL.lit (vals := [_, _, _, _]) (vs := ([(goodP p ⟨aa, (goodL p xs).length, ca⟩, goodL p xs), (goodP q ⟨ab, (goodL q ys).length, cb⟩, goodL q ys), (({ goodP p ⟨aa, (goodL p xs).length, ca⟩ with ed := (goodP q ⟨ab, (goodL q ys).length, cb⟩).ed } : Prc), goodL q ys), (({ goodP p ⟨aa, (goodL p xs).length, ca⟩ with id := (goodP q ⟨ab, (goodL q ys).length, cb⟩).id } : Prc), goodL p xs)] : List (Prc × List Edu)).flatMap (fun t : Prc × List Edu => cPrc t.1)) und27 sz24 zz24 rfl rfl rfl rfl rfl rfl (by simp [Value.cells, bv, cEdu, cPrc]) rfl (Wt.none rfl) rfl ?_; intro b28
  refine RunL.as rfl rfl ?_
  refine RunL.nil ?_
  refine Run.lendAll (Q := Sl 50 11 aa (goodL p xs).length ca ((goodL p xs).flatMap cEdu)) Lends.Sl (by first | ((repeat (first | (with_reducible exact F0 _) | apply F1)); done) | (repeat (first | exact F0 _ | apply F1))) (fun Gla hleGla la => ?_)
  replace hEa := hEa.mono hleGla
  replace hEb := hEb.mono hleGla
  replace hrb2 := hrb2.mono hleGla
  replace hrb3 := hrb3.mono hleGla
  obtain ⟨la, lac⟩ := la
  refine Run.lendAll (Q := Sl 50 11 ab (goodL q ys).length cb ((goodL q ys).flatMap cEdu)) Lends.Sl (by first | ((repeat (first | (with_reducible exact F0 _) | apply F1)); done) | (repeat (first | exact F0 _ | apply F1))) (fun Glb hleGlb lb => ?_)
  replace hEa := hEa.mono hleGlb
  replace hEb := hEb.mono hleGlb
  replace hrb2 := hrb2.mono hleGlb
  replace hrb3 := hrb3.mono hleGlb
  replace la := la.mono hleGlb
  obtain ⟨lb, lbc⟩ := lb
  refine Run.lendAll (Q := Sl 24 5 (some ⟨b28, 0, none⟩) 4 4 _) (Lends.litRow (n := 4)) (by first | ((repeat (first | (with_reducible exact F0 _) | apply F1)); done) | (repeat (first | exact F0 _ | apply F1))) (fun Ght0 hleGht0 ht0 => ?_)
  replace hEa := hEa.mono hleGht0
  replace hEb := hEb.mono hleGht0
  replace hrb2 := hrb2.mono hleGht0
  replace hrb3 := hrb3.mono hleGht0
  replace la := la.mono hleGht0
  replace lb := lb.mono hleGht0
  obtain ⟨postt, ht⟩ := ht0
  have hpl := goodL_len p xs
  have hql := goodL_len q ys
  obtain ⟨oq1, oq2, oq3⟩ := goodP_ok q ⟨ab, (goodL q ys).length, cb⟩
  obtain ⟨op1, op2, op3⟩ := goodP_ok p ⟨aa, (goodL p xs).length, ca⟩
  obtain ⟨ts, hte, htn, hts⟩ : ∃ ts : List (Prc × List Edu), ([(goodP p ⟨aa, (goodL p xs).length, ca⟩, goodL p xs), (goodP q ⟨ab, (goodL q ys).length, cb⟩, goodL q ys), (({ goodP p ⟨aa, (goodL p xs).length, ca⟩ with ed := (goodP q ⟨ab, (goodL q ys).length, cb⟩).ed } : Prc), goodL q ys), (({ goodP p ⟨aa, (goodL p xs).length, ca⟩ with id := (goodP q ⟨ab, (goodL q ys).length, cb⟩).id } : Prc), goodL p xs)] : List (Prc × List Edu)).flatMap (fun t : Prc × List Edu => cPrc t.1) = ts.flatMap (fun t : Prc × List Edu => cPrc t.1) ∧ ts.length = 4 ∧ PRows Ght0 ts := ⟨_, rfl, rfl, by
    intro t h
    simp only [List.mem_cons, List.not_mem_nil, or_false] at h
    rcases h with rfl | rfl | rfl | rfl
    · exact ⟨⟨rfl, la, lac⟩, goodL_facts, ⟨op1, op2, op3⟩, hpl⟩
    · exact ⟨⟨rfl, lb, lbc⟩, goodL_facts, ⟨oq1, oq2, oq3⟩, hql⟩
    · exact ⟨⟨rfl, lb, lbc⟩, goodL_facts, ⟨op1, op2, op3⟩, hql⟩
    · exact ⟨⟨rfl, la, lac⟩, goodL_facts, ⟨op1, op2, oq3⟩, hpl⟩⟩
  rw [hte] at ht
  refine Run.seq ?_
  refine Run.sr ?_
  refine RunL.as rfl rfl ?_
  refine RunL.nil ?_
  refine Run.block ?_
  refine Run.keep (.cons rfl (.cons rfl (.nil)) : Keep _ [9, 10] _) ?_
  refine Run.loopF (F := F) (fun n e A => ∃ i : Nat, i ≤ 4 ∧ n = 4 - i ∧ e = [(9, .slice (some ⟨b28, 0, none⟩) 4 4), (10, .int .i64 (i : Nat))] ∧ A = F) (4) (by exact ⟨0, by omega, rfl, rfl, rfl⟩) (by repeat (first | (with_reducible exact Fin.done (by repeat (first | (with_reducible exact Rest.here) | apply Rest.there))) | (apply Fin.cons (by first | ((repeat (first | (with_reducible exact F0 _) | apply F1)); done) | (repeat (first | exact F0 _ | apply F1)))))) ?_
  rintro n _ _ ⟨i, hi, rfl, rfl, hA_⟩ ih
  replace hA_ := hA_.symm; subst hA_
  refine Run.seq ?_
  refine Run.sr ?_
  refine RunL.mv rfl rfl ?_
  refine RunL.pure (Pure.lss rfl rfl) (Wt.none rfl) rfl rfl ?_
  refine RunL.nil ?_
  refine Run.cond rfl (fun hi4 => ?_) (fun hi4 => ?_)
  · try simp only [ZA, ZB, ZC, ZD, ZE, ZF, ZG, ZH, ZI, ZJ, ZK, ZL, ZM, ZN, ZO, ZP, ZQ, ZR] at hi4
    obtain ⟨x, hx⟩ := get_some (xs := ts) (i := i) (by omega)
    obtain ⟨x1, x2, x3, x4⟩ := hts x (List.mem_of_getElem? hx)
    have ih1 := ih
    refine Run.skip ?_
    refine Run.seq ?_
    refine Run.block ?_
    refine Run.sr ?_
    refine RunL.as rfl rfl ?_
    refine RunL.nil ?_
    refine Run.block ?_
    refine Run.keep (.cons rfl (.cons rfl (.cons rfl (.nil))) : Keep _ [9, 10, 11] _) ?_
    refine Run.loopF (F := F) (fun n e A => ∃ k : Nat, k ≤ 4 ∧ n = 4 - k ∧ e = [(9, .slice (some ⟨b28, 0, none⟩) 4 4), (10, .int .i64 (i : Nat)), (11, .int .i64 (k : Nat))] ∧ A = F) (4) (by exact ⟨0, by omega, rfl, rfl, rfl⟩) (by repeat (first | (with_reducible exact Fin.done (by repeat (first | (with_reducible exact Rest.here) | apply Rest.there))) | (apply Fin.cons (by first | ((repeat (first | (with_reducible exact F0 _) | apply F1)); done) | (repeat (first | exact F0 _ | apply F1)))))) ?_
    rintro n _ _ ⟨k, hk, rfl, rfl, hA_⟩ ih
    replace hA_ := hA_.symm; subst hA_
    refine Run.seq ?_
    refine Run.sr ?_
    refine RunL.mv rfl rfl ?_
    refine RunL.pure (Pure.lss rfl rfl) (Wt.none rfl) rfl rfl ?_
    refine RunL.nil ?_
    refine Run.cond rfl (fun hk4 => ?_) (fun hk4 => ?_)
    · try simp only [ZA, ZB, ZC, ZD, ZE, ZF, ZG, ZH, ZI, ZJ, ZK, ZL, ZM, ZN, ZO, ZP, ZQ, ZR] at hk4
      obtain ⟨y, hy⟩ := get_some (xs := ts) (i := k) (by omega)
      obtain ⟨y1, y2, y3, y4⟩ := hts y (List.mem_of_getElem? hy)
      refine Run.skip ?_
      refine Run.seq ?_
      refine Run.block ?_
      refine Run.seq ?_
      refine Run.regionD' (by kernel_rfl) (by kernel_rfl) (fun hok135 => ?_)
      refine RunD.pure (i := 0) hok135 rfl (by kernel_rfl) (Pure.move rfl) (Wt.none rfl) rfl rfl ?_
      refine RunD.pure (i := 1) hok135 rfl (by kernel_rfl) (Pure.move rfl) (Wt.none rfl) rfl rfl ?_
      refine RunD.pure (i := 2) hok135 rfl (by kernel_rfl) (Pure.indexAddr rfl rfl und27 sz24 (by omega) (by omega)) (Wt.none rfl) rfl rfl ?_
      refine RunD.loadNR (vs := (cPrc x.1)) (i := 3) hok135 rfl (by kernel_rfl) rfl ht agg24 sz24 (elemN_len (pre := []) (post := postt) (f := (fun t : Prc × List Edu => cPrc t.1)) (sz := 5) (j := 0) (n := 5) (fun _ _ => rfl) hx (by decide)) ((elemN_at (pre := []) (post := postt) (f := (fun t : Prc × List Edu => cPrc t.1)) (sz := 5) (j := 0) (n := 5) (fun _ _ => rfl) hx (by decide)).trans rfl) (Wt.none rfl) rfl ?_
      refine RunD.pure (i := 5) hok135 rfl (by kernel_rfl) (Pure.move rfl) (Wt.none rfl) rfl rfl ?_
      refine RunD.pure (i := 6) hok135 rfl (by kernel_rfl) (Pure.move rfl) (Wt.none rfl) rfl rfl ?_
      refine RunD.pure (i := 7) hok135 rfl (by kernel_rfl) (Pure.indexAddr rfl rfl und27 sz24 (by omega) (by omega)) (Wt.none rfl) rfl rfl ?_
      refine RunD.loadNR (vs := (cPrc y.1)) (i := 8) hok135 rfl (by kernel_rfl) rfl ht agg24 sz24 (elemN_len (pre := []) (post := postt) (f := (fun t : Prc × List Edu => cPrc t.1)) (sz := 5) (j := 0) (n := 5) (fun _ _ => rfl) hy (by decide)) ((elemN_at (pre := []) (post := postt) (f := (fun t : Prc × List Edu => cPrc t.1)) (sz := 5) (j := 0) (n := 5) (fun _ _ => rfl) hy (by decide)).trans rfl) (Wt.none rfl) rfl ?_
      refine RunD.pure (i := 11) hok135 rfl (by kernel_rfl) (Pure.move rfl) (Wt.none rfl) rfl rfl ?_
      refine RunD.pure (i := 12) hok135 rfl (by kernel_rfl) (Pure.move rfl) (Wt.none rfl) rfl rfl ?_
      refine RunD.pure (i := 13) hok135 rfl (by kernel_rfl) (Pure.indexAddr rfl rfl und27 sz24 (by omega) (by omega)) (Wt.none rfl) rfl rfl ?_
      refine RunD.loadNR (vs := (cPrc x.1)) (i := 14) hok135 rfl (by kernel_rfl) rfl ht agg24 sz24 (elemN_len (pre := []) (post := postt) (f := (fun t : Prc × List Edu => cPrc t.1)) (sz := 5) (j := 0) (n := 5) (fun _ _ => rfl) hx (by decide)) ((elemN_at (pre := []) (post := postt) (f := (fun t : Prc × List Edu => cPrc t.1)) (sz := 5) (j := 0) (n := 5) (fun _ _ => rfl) hx (by decide)).trans rfl) (Wt.none rfl) rfl ?_
      refine RunD.pure (i := 15) hok135 rfl (by kernel_rfl) (Pure.move rfl) (Wt.none rfl) rfl rfl ?_
      refine RunD.pure (i := 16) hok135 rfl (by kernel_rfl) (Pure.move rfl) (Wt.none rfl) rfl rfl ?_
      refine RunD.pure (i := 17) hok135 rfl (by kernel_rfl) (Pure.indexAddr rfl rfl und27 sz24 (by omega) (by omega)) (Wt.none rfl) rfl rfl ?_
      refine RunD.loadNR (vs := (cPrc y.1)) (i := 18) hok135 rfl (by kernel_rfl) rfl ht agg24 sz24 (elemN_len (pre := []) (post := postt) (f := (fun t : Prc × List Edu => cPrc t.1)) (sz := 5) (j := 0) (n := 5) (fun _ _ => rfl) hy (by decide)) ((elemN_at (pre := []) (post := postt) (f := (fun t : Prc × List Edu => cPrc t.1)) (sz := 5) (j := 0) (n := 5) (fun _ _ => rfl) hy (by decide)).trans rfl) (Wt.none rfl) rfl ?_
      refine RunD.one (i := 4) (by kernel_rfl) rfl ?_
      refine RunL.call rfl rfl (by rfl) (by repeat (first | (with_reducible exact Take.nil _) | (apply Take.cons (by first | ((repeat (first | (with_reducible exact F0 _) | apply F1)); done) | (repeat (first | exact F0 _ | apply F1)))))) (of_ctr (p := x.1)) (Wt.none rfl) rfl ?_
      rintro _ _ ⟨rfl, hA_⟩
      replace hA_ := hA_.symm; subst hA_
      refine RunL.nilD' ?_
      refine RunD.one (i := 9) (by kernel_rfl) rfl ?_
      refine RunL.call rfl rfl (by rfl) (by repeat (first | (with_reducible exact Take.nil _) | (apply Take.cons (by first | ((repeat (first | (with_reducible exact F0 _) | apply F1)); done) | (repeat (first | exact F0 _ | apply F1)))))) (of_ctr (p := y.1)) (Wt.none rfl) rfl ?_
      rintro _ _ ⟨rfl, hA_⟩
      replace hA_ := hA_.symm; subst hA_
      refine RunL.nilD' ?_
      refine RunD.one (i := 10) (by kernel_rfl) rfl ?_
      refine RunL.call rfl rfl (by rfl) (by repeat (first | (with_reducible exact Take.nil _) | (apply Take.cons (by first | ((repeat (first | (with_reducible exact F0 _) | apply F1)); done) | (repeat (first | exact F0 _ | apply F1)))))) (pSame_ctr x1 y1 (by omega)) (Wt.none rfl) rfl ?_
      rintro _ _ ⟨rfl, hA_⟩
      replace hA_ := hA_.symm; subst hA_
      refine RunL.nilD' ?_
      refine RunD.one (i := 19) (by kernel_rfl) rfl ?_
      refine RunL.call rfl rfl (by rfl) (by repeat (first | (with_reducible exact Take.nil _) | (apply Take.cons (by first | ((repeat (first | (with_reducible exact F0 _) | apply F1)); done) | (repeat (first | exact F0 _ | apply F1)))))) (rSame4_ctr x1 y1 (by omega)) (Wt.none rfl) rfl ?_
      rintro _ _ ⟨rfl, hA_⟩
      replace hA_ := hA_.symm; subst hA_
      refine RunL.nilD' ?_
      refine RunD.pure (i := 20) hok135 rfl (by kernel_rfl) (Pure.bneq rfl rfl und4) (Wt.none rfl) rfl rfl ?_
      refine RunD.nilR (by kernel_rfl) ?_
      refine Run.cond rfl (fun hc1 => ?_) (fun hc1 => ?_)
      · try simp only [ZA, ZB, ZC, ZD, ZE, ZF, ZG, ZH, ZI, ZJ, ZK, ZL, ZM, ZN, ZO, ZP, ZQ, ZR] at hc1
        exfalso
        first | exact hc1 trivial | exact hc1 rfl | (simp at hc1; done)
      try simp only [ZA, ZB, ZC, ZD, ZE, ZF, ZG, ZH, ZI, ZJ, ZK, ZL, ZM, ZN, ZO, ZP, ZQ, ZR] at hc1
      refine Run.skip ?_
      refine Run.inBlock ?_
      refine Run.region ?_
      refine RunL.mv rfl rfl ?_
      first | refine RunL.pure (Pure.addI rfl rfl (by omega)) (Wt.none rfl) rfl rfl ?_ | refine RunL.pure (Pure.add rfl rfl) (Wt.none rfl) rfl rfl ?_
      refine RunL.as rfl rfl ?_
      refine RunL.nil ?_
      refine Run.keep (.cons rfl (.cons rfl (.cons rfl (.nil))) : Keep _ [9, 10, 11] _) ?_
      refine Run.againF (F := F) ih (by exact ⟨k + 1, by omega, rfl, rfl, rfl⟩) (by repeat (first | (with_reducible exact Fin.done (by repeat (first | (with_reducible exact Rest.here) | apply Rest.there))) | (apply Fin.cons (by first | ((repeat (first | (with_reducible exact F0 _) | apply F1)); done) | (repeat (first | exact F0 _ | apply F1)))))) ?_
      omega
    · try simp only [ZA, ZB, ZC, ZD, ZE, ZF, ZG, ZH, ZI, ZJ, ZK, ZL, ZM, ZN, ZO, ZP, ZQ, ZR] at hk4
      refine Run.exit rfl ?_
      refine Run.inBlock ?_
      refine Run.region ?_
      refine RunL.mv rfl rfl ?_
      first | refine RunL.pure (Pure.addI rfl rfl (by omega)) (Wt.none rfl) rfl rfl ?_ | refine RunL.pure (Pure.add rfl rfl) (Wt.none rfl) rfl rfl ?_
      refine RunL.as rfl rfl ?_
      refine RunL.nil ?_
      have ih := ih1
      refine Run.keep (.cons rfl (.cons rfl (.nil)) : Keep _ [9, 10] _) ?_
      refine Run.againF (F := F) ih (by exact ⟨i + 1, by omega, rfl, rfl, rfl⟩) (by repeat (first | (with_reducible exact Fin.done (by repeat (first | (with_reducible exact Rest.here) | apply Rest.there))) | (apply Fin.cons (by first | ((repeat (first | (with_reducible exact F0 _) | apply F1)); done) | (repeat (first | exact F0 _ | apply F1)))))) ?_
      omega
  · try simp only [ZA, ZB, ZC, ZD, ZE, ZF, ZG, ZH, ZI, ZJ, ZK, ZL, ZM, ZN, ZO, ZP, ZQ, ZR] at hi4
    refine Run.exit rfl ?_
    refine Run.sr ?_
    refine RunL.call rfl rfl (by rfl) (by repeat (first | (with_reducible exact Take.nil _) | (apply Take.cons (by first | ((repeat (first | (with_reducible exact F0 _) | apply F1)); done) | (repeat (first | exact F0 _ | apply F1)))))) (lives_ctr) (Wt.none rfl) rfl ?_
    rintro _ _ ⟨rfl, hA_⟩
    replace hA_ := hA_.symm; subst hA_
    refine RunL.as rfl rfl ?_
    refine RunL.nil ?_
    exact Run.ret Try.func4 (res1 rfl rfl) (by exact ⟨rfl, rfl⟩) (by repeat (first | (with_reducible exact Fin.done (by repeat (first | (with_reducible exact Rest.here) | apply Rest.there))) | (apply Fin.cons (by first | ((repeat (first | (with_reducible exact F0 _) | apply F1)); done) | (repeat (first | exact F0 _ | apply F1))))))

end Go.Proofs.Ytbgjfpaigndbmaa
