/- What is written is read. -/
import Derived.Test.YtbgjfpaigndbmaaPR5
import Derived.Test.YtbgjfpaigndbmaaP4
set_option linter.unusedVariables false
set_option linter.unusedSimpArgs false
set_option linter.unusedSectionVars false
namespace Go.Proofs.Ytbgjfpaigndbmaa
open Go Csl
theorem cb15 : Callable Try.prog 15 := ⟨_, Try.func15, by kernel_rfl, by kernel_rfl⟩
theorem und41 : Try.prog.underlying 41 = some (Go.TypeDesc.slice 29) := Try.underlying41
theorem zz29 : zeroIs Try.prog 29 = some (.slice none 0 0) := by kernel_rfl
theorem cb19 : Callable Try.prog 19 := ⟨_, Try.func19, by kernel_rfl, by kernel_rfl⟩

set_option maxHeartbeats 4000000 in
set_option maxRecDepth 100000 in
theorem ParcelRound_ctr {G : Gp} {p : Prc} (ha : ∃ xs : List Edu, xs.length = p.ed.n ∧ (∀ x ∈ xs, okEdu x) ∧ SlR G 50 11 p.ed.a xs.length (xs.flatMap cEdu) ∧ p.ed.n ≤ p.ed.c ∧ p.ed.c ≤ 9223372036854775807) (oa : okPrc p) :
    Ctr Try.prog G 6 [.agg (cPrc p).toArray] [] (fun F v A => v = .bool true ∧ A = F) := by
  refine Ctr.intro Try.func6 rfl (by kernel_rfl) rfl (fun F => ?_)
  simp only [List.nil_append]
  obtain ⟨xs, hna, hza, hsa, hca, hda⟩ := ha
  rw [hna] at hsa
  have hEa : HasE G p xs := ⟨hna.symm, hsa, hca⟩
  refine Run.sr ?_
  refine RunL.boxA (xs := (cPrc p)) rfl (Wt.none rfl) rfl ?_; intro b1
  refine RunL.as rfl rfl ?_
  refine RunL.nil ?_
  refine Run.lendAll (Q := row b1 24 _) Lends.row (by first | ((repeat (first | (with_reducible exact F0 _) | apply F1)); done) | (repeat (first | exact F0 _ | apply F1))) (fun G1 hleG1 hrb1 => ?_)
  replace hEa := hEa.mono hleG1
  refine Run.sr ?_
  first | refine RunL.loadA (vs := (cPrc p)) rfl (by first | ((repeat (first | (with_reducible exact F0 _) | apply F1)); done) | (repeat (first | exact F0 _ | apply F1))) agg24 sz24 (by first | exact Nat.le_of_ble_eq_true rfl | (simp; done) | (simp; omega)) rfl (Wt.none rfl) rfl ?_ | refine RunL.loadNR (vs := (cPrc p)) rfl (by assumption) agg24 sz24 (by first | exact Nat.le_of_ble_eq_true rfl | (simp; done) | (simp; omega)) rfl (Wt.none rfl) rfl ?_
  refine RunL.call rfl rfl (by rfl) (by repeat (first | (with_reducible exact Take.nil _) | (apply Take.cons (by first | ((repeat (first | (with_reducible exact F0 _) | apply F1)); done) | (repeat (first | exact F0 _ | apply F1)))))) (Good4_ctr (p := p) (xs := xs) hEa (by omega) hza oa) (Wt.none rfl) rfl ?_
  rintro _ _ ⟨aa, ca, rfl, hA_⟩
  replace hA_ := hA_.symm; subst hA_
  refine RunL.alloc zz24 (Wt.none rfl) rfl ?_; intro b3
  refine RunL.storeW (xs := (cPrc (goodP p ⟨aa, (goodL p xs).length, ca⟩))) rfl rfl (by first | ((repeat (first | (with_reducible exact F0 _) | apply F1)); done) | (repeat (first | exact F0 _ | apply F1))) sz24 (by rfl) (by rfl) (by rfl) (Wt.none rfl) ?_
  refine RunL.nil ?_
  refine Run.lendAll (Q := Sl 50 11 aa (goodL p xs).length ca ((goodL p xs).flatMap cEdu)) Lends.Sl (by first | ((repeat (first | (with_reducible exact F0 _) | apply F1)); done) | (repeat (first | exact F0 _ | apply F1))) (fun Gla hleGla la => ?_)
  replace hEa := hEa.mono hleGla
  replace hrb1 := hrb1.mono hleGla
  obtain ⟨la, lac⟩ := la
  have hgm := good_may p xs (s := ⟨aa, (goodL p xs).length, ca⟩) rfl
  have hgs := may_facts hgm
  have hgo := goodP_ok p ⟨aa, (goodL p xs).length, ca⟩
  have hpl := goodL_len p xs
  have hlb := prcBytes_len hgm (fun z h => goodL_facts z h) (by omega)
  have ham := answer_may hgm
  have hao : okPrc (⟨true, (goodP p ⟨aa, (goodL p xs).length, ca⟩).to_, (goodP p ⟨aa, (goodL p xs).length, ca⟩).frm, (goodP p ⟨aa, (goodL p xs).length, ca⟩).id, ⟨none, 0, 0⟩⟩ : Prc) := ⟨hgo.2.1, hgo.1, hgo.2.2⟩
  have hab := prcBytes_len ham (fun z h => by cases h) (by decide)
  have hr1 : rdP 16 1000 34 (prcBytes (goodP p ⟨aa, (goodL p xs).length, ca⟩) (goodL p xs)) = some ((⟨p.ack, (goodP p ⟨aa, (goodL p xs).length, ca⟩).frm, (goodP p ⟨aa, (goodL p xs).length, ca⟩).to_, (goodP p ⟨aa, (goodL p xs).length, ca⟩).id, ⟨none, 0, 0⟩⟩ : Prc), (goodL p xs)) := by rw [rdP_put hgo ⟨hgs.1, hgs.2.1⟩ (by omega) (goodL_pubs p xs) (by omega), if_pos ⟨by omega, hgm⟩]; rfl
  have hr2 : rdP 16 1000 34 (prcBytes (⟨true, (goodP p ⟨aa, (goodL p xs).length, ca⟩).to_, (goodP p ⟨aa, (goodL p xs).length, ca⟩).frm, (goodP p ⟨aa, (goodL p xs).length, ca⟩).id, ⟨none, 0, 0⟩⟩ : Prc) []) = some ((⟨true, (goodP p ⟨aa, (goodL p xs).length, ca⟩).to_, (goodP p ⟨aa, (goodL p xs).length, ca⟩).frm, (goodP p ⟨aa, (goodL p xs).length, ca⟩).id, ⟨none, 0, 0⟩⟩ : Prc), []) := by rw [rdP_put hao ⟨hgs.2.1, hgs.1⟩ (by show 0 ≤ (goodP p ⟨aa, (goodL p xs).length, ca⟩).id; omega) (fun z h => by cases h) (by decide), if_pos ⟨by decide, ham⟩]
  refine Run.sr ?_
  first | refine RunL.loadA (vs := (cPrc (goodP p ⟨aa, (goodL p xs).length, ca⟩))) rfl (by first | ((repeat (first | (with_reducible exact F0 _) | apply F1)); done) | (repeat (first | exact F0 _ | apply F1))) agg24 sz24 (by first | exact Nat.le_of_ble_eq_true rfl | (simp; done) | (simp; omega)) rfl (Wt.none rfl) rfl ?_ | refine RunL.loadNR (vs := (cPrc (goodP p ⟨aa, (goodL p xs).length, ca⟩))) rfl (by assumption) agg24 sz24 (by first | exact Nat.le_of_ble_eq_true rfl | (simp; done) | (simp; omega)) rfl (Wt.none rfl) rfl ?_
  refine RunL.call rfl rfl (by rfl) (by repeat (first | (with_reducible exact Take.nil _) | (apply Take.cons (by first | ((repeat (first | (with_reducible exact F0 _) | apply F1)); done) | (repeat (first | exact F0 _ | apply F1)))))) (of_ctr (p := goodP p ⟨aa, (goodL p xs).length, ca⟩)) (Wt.none rfl) rfl ?_
  rintro _ _ ⟨rfl, hA_⟩
  replace hA_ := hA_.symm; subst hA_
  refine RunL.call rfl rfl (by rfl) (by repeat (first | (with_reducible exact Take.nil _) | (apply Take.cons (by first | ((repeat (first | (with_reducible exact F0 _) | apply F1)); done) | (repeat (first | exact F0 _ | apply F1)))))) (pWriteT_ctr (p := goodP p ⟨aa, (goodL p xs).length, ca⟩) (xs := (goodL p xs)) ⟨rfl, la, lac⟩ (fun z h => (goodL_facts z h).1) (by show (goodL p xs).length ≤ _; omega) hgo (fun z h => (goodL_facts z h).2) hgm) (Wt.none rfl) rfl ?_
  rintro _ _ ⟨ab, cb, rfl, hA_⟩
  replace hA_ := hA_.symm; subst hA_
  refine RunL.mv rfl rfl ?_
  refine RunL.pure (Pure.extract rfl rfl) (Wt.none rfl) rfl rfl ?_
  refine RunL.pure (Pure.extract rfl rfl) (Wt.none rfl) rfl rfl ?_
  refine RunL.as rfl rfl ?_
  refine RunL.as rfl rfl ?_
  refine RunL.nil ?_
  refine Run.sr ?_
  refine RunL.mv rfl rfl ?_
  refine RunL.call rfl rfl (by rfl) (by repeat (first | (with_reducible exact Take.nil _) | (apply Take.cons (by first | ((repeat (first | (with_reducible exact F0 _) | apply F1)); done) | (repeat (first | exact F0 _ | apply F1)))))) (Ctr.lend (R := fun G => SlR G 5 1 _ _ _ ∧ _ ≤ _) Lends.Sl cb19 (fun G' hle hr => pRead_ctr hr.1 (by omega) hr.2)) (Wt.none rfl) rfl ?_
  rintro _ _ ⟨_, rfl, q1⟩
  rcases q1 with ⟨p1, xs1, a81, c81, hp1, rfl, hA_⟩ | ⟨hp1, rfl, hA_⟩
  · skip
    replace hA_ := hA_.symm; subst hA_
    rw [hr1] at hp1; cases hp1
    refine RunL.mv rfl rfl ?_
    refine RunL.pure (Pure.extract rfl rfl) (Wt.none rfl) rfl rfl ?_
    refine RunL.pure (Pure.extract rfl rfl) (Wt.none rfl) rfl rfl ?_
    refine RunL.alloc zz33 (Wt.none rfl) rfl ?_; intro b6
    refine RunL.storeW (xs := (cPrc (withE (⟨p.ack, (goodP p ⟨aa, (goodL p xs).length, ca⟩).frm, (goodP p ⟨aa, (goodL p xs).length, ca⟩).to_, (goodP p ⟨aa, (goodL p xs).length, ca⟩).id, ⟨none, 0, 0⟩⟩ : Prc) ⟨a81, (goodL p xs).length, c81⟩))) rfl rfl (by first | ((repeat (first | (with_reducible exact F0 _) | apply F1)); done) | (repeat (first | exact F0 _ | apply F1))) sz33 (by rfl) (by rfl) (by rfl) (Wt.none rfl) ?_
    refine RunL.as rfl rfl ?_
    refine RunL.nil ?_
    refine Run.sr ?_
    refine RunL.pure (Pure.fieldAddr rfl fo24_0) (Wt.none rfl) rfl rfl ?_
    refine RunL.store1A (cs' := (cPrc (({ goodP p ⟨aa, (goodL p xs).length, ca⟩ with ack := false } : Prc)))) rfl rfl (by first | ((repeat (first | (with_reducible exact F0 _) | apply F1)); done) | (repeat (first | exact F0 _ | apply F1))) sz4 (by rfl) (by first | exact Nat.le_of_ble_eq_true rfl | (simp; done) | (simp; omega)) rfl (Wt.none rfl) ?_
    refine RunL.nil ?_
    refine Run.sr ?_
    first | refine RunL.loadA (vs := (cPrc (({ goodP p ⟨aa, (goodL p xs).length, ca⟩ with ack := false } : Prc)))) rfl (by first | ((repeat (first | (with_reducible exact F0 _) | apply F1)); done) | (repeat (first | exact F0 _ | apply F1))) agg24 sz24 (by first | exact Nat.le_of_ble_eq_true rfl | (simp; done) | (simp; omega)) rfl (Wt.none rfl) rfl ?_ | refine RunL.loadNR (vs := (cPrc (({ goodP p ⟨aa, (goodL p xs).length, ca⟩ with ack := false } : Prc)))) rfl (by assumption) agg24 sz24 (by first | exact Nat.le_of_ble_eq_true rfl | (simp; done) | (simp; omega)) rfl (Wt.none rfl) rfl ?_
    refine RunL.call rfl rfl (by rfl) (by repeat (first | (with_reducible exact Take.nil _) | (apply Take.cons (by first | ((repeat (first | (with_reducible exact F0 _) | apply F1)); done) | (repeat (first | exact F0 _ | apply F1)))))) (of_ctr (p := ({ goodP p ⟨aa, (goodL p xs).length, ca⟩ with ack := false } : Prc))) (Wt.none rfl) rfl ?_
    rintro _ _ ⟨rfl, hA_⟩
    replace hA_ := hA_.symm; subst hA_
    refine RunL.call rfl rfl (by rfl) (by repeat (first | (with_reducible exact Take.nil _) | (apply Take.cons (by first | ((repeat (first | (with_reducible exact F0 _) | apply F1)); done) | (repeat (first | exact F0 _ | apply F1)))))) (Answer_ctr (p := ({ goodP p ⟨aa, (goodL p xs).length, ca⟩ with ack := false } : Prc))) (Wt.none rfl) rfl ?_
    rintro _ _ ⟨rfl, hA_⟩
    replace hA_ := hA_.symm; subst hA_
    refine RunL.alloc zz33 (Wt.none rfl) rfl ?_; intro b8
    refine RunL.storeW (xs := (cPrc ((⟨true, (goodP p ⟨aa, (goodL p xs).length, ca⟩).to_, (goodP p ⟨aa, (goodL p xs).length, ca⟩).frm, (goodP p ⟨aa, (goodL p xs).length, ca⟩).id, ⟨none, 0, 0⟩⟩ : Prc)))) rfl rfl (by first | ((repeat (first | (with_reducible exact F0 _) | apply F1)); done) | (repeat (first | exact F0 _ | apply F1))) sz33 (by rfl) (by rfl) (by rfl) (Wt.none rfl) ?_
    refine RunL.nil ?_
    refine Run.sr ?_
    first | refine RunL.loadA (vs := (cPrc ((⟨true, (goodP p ⟨aa, (goodL p xs).length, ca⟩).to_, (goodP p ⟨aa, (goodL p xs).length, ca⟩).frm, (goodP p ⟨aa, (goodL p xs).length, ca⟩).id, ⟨none, 0, 0⟩⟩ : Prc)))) rfl (by first | ((repeat (first | (with_reducible exact F0 _) | apply F1)); done) | (repeat (first | exact F0 _ | apply F1))) agg33 sz33 (by first | exact Nat.le_of_ble_eq_true rfl | (simp; done) | (simp; omega)) rfl (Wt.none rfl) rfl ?_ | refine RunL.loadNR (vs := (cPrc ((⟨true, (goodP p ⟨aa, (goodL p xs).length, ca⟩).to_, (goodP p ⟨aa, (goodL p xs).length, ca⟩).frm, (goodP p ⟨aa, (goodL p xs).length, ca⟩).id, ⟨none, 0, 0⟩⟩ : Prc)))) rfl (by assumption) agg33 sz33 (by first | exact Nat.le_of_ble_eq_true rfl | (simp; done) | (simp; omega)) rfl (Wt.none rfl) rfl ?_
    refine RunL.call rfl rfl (by rfl) (by repeat (first | (with_reducible exact Take.nil _) | (apply Take.cons (by first | ((repeat (first | (with_reducible exact F0 _) | apply F1)); done) | (repeat (first | exact F0 _ | apply F1)))))) (pWriteT_ctr (p := (⟨true, (goodP p ⟨aa, (goodL p xs).length, ca⟩).to_, (goodP p ⟨aa, (goodL p xs).length, ca⟩).frm, (goodP p ⟨aa, (goodL p xs).length, ca⟩).id, ⟨none, 0, 0⟩⟩ : Prc)) (xs := []) ⟨rfl, .inl ⟨rfl, rfl⟩, Nat.le_refl _⟩ (fun z h => by cases h) (Nat.zero_le _) hao (fun z h => by cases h) ham) (Wt.none rfl) rfl ?_
    rintro _ _ ⟨ac, cc, rfl, hA_⟩
    replace hA_ := hA_.symm; subst hA_
    refine RunL.mv rfl rfl ?_
    refine RunL.pure (Pure.extract rfl rfl) (Wt.none rfl) rfl rfl ?_
    refine RunL.pure (Pure.extract rfl rfl) (Wt.none rfl) rfl rfl ?_
    refine RunL.as rfl rfl ?_
    refine RunL.as rfl rfl ?_
    refine RunL.nil ?_
    refine Run.sr ?_
    refine RunL.mv rfl rfl ?_
    refine RunL.call rfl rfl (by rfl) (by repeat (first | (with_reducible exact Take.nil _) | (apply Take.cons (by first | ((repeat (first | (with_reducible exact F0 _) | apply F1)); done) | (repeat (first | exact F0 _ | apply F1)))))) (Ctr.lend (R := fun G => SlR G 5 1 _ _ _ ∧ _ ≤ _) Lends.Sl cb19 (fun G' hle hr => pRead_ctr hr.1 (by simp only [List.length_nil] at hab; omega) hr.2)) (Wt.none rfl) rfl ?_
    rintro _ _ ⟨_, rfl, q2⟩
    rcases q2 with ⟨p2, xs2, a82, c82, hp2, rfl, hA_⟩ | ⟨hp2, rfl, hA_⟩
    · skip
      replace hA_ := hA_.symm; subst hA_
      rw [hr2] at hp2; cases hp2
      refine RunL.mv rfl rfl ?_
      refine RunL.pure (Pure.extract rfl rfl) (Wt.none rfl) rfl rfl ?_
      refine RunL.pure (Pure.extract rfl rfl) (Wt.none rfl) rfl rfl ?_
      refine RunL.alloc zz33 (Wt.none rfl) rfl ?_; intro b11
      refine RunL.storeW (xs := (cPrc (withE (⟨true, (goodP p ⟨aa, (goodL p xs).length, ca⟩).to_, (goodP p ⟨aa, (goodL p xs).length, ca⟩).frm, (goodP p ⟨aa, (goodL p xs).length, ca⟩).id, ⟨none, 0, 0⟩⟩ : Prc) ⟨a82, ([] : List Edu).length, c82⟩))) rfl rfl (by first | ((repeat (first | (with_reducible exact F0 _) | apply F1)); done) | (repeat (first | exact F0 _ | apply F1))) sz33 (by rfl) (by rfl) (by rfl) (Wt.none rfl) ?_
      refine RunL.as rfl rfl ?_
      refine RunL.nil ?_
      refine Run.seq ?_
      refine Run.regionD' (by kernel_rfl) (by kernel_rfl) (fun hok99 => ?_)
      refine RunD.lend (Q := row b6 33 _) Lends.row (by first | ((repeat (first | (with_reducible exact F0 _) | apply F1)); done) | (repeat (first | exact F0 _ | apply F1))) ?_; intro gl1 hlegl1 hl1 backgl1
      have hEa_gl1 := hEa.mono hlegl1
      have hrb1_gl1 := hrb1.mono hlegl1
      have la_gl1 := la.mono hlegl1
      refine RunD.lend (Q := row b11 33 _) Lends.row (by first | ((repeat (first | (with_reducible exact F0 _) | apply F1)); done) | (repeat (first | exact F0 _ | apply F1))) ?_; intro gl2 hlegl2 hl2 backgl2
      have hl1 := hl1.mono hlegl2
      have hEa_gl2 := hEa_gl1.mono hlegl2
      have hrb1_gl2 := hrb1_gl1.mono hlegl2
      have la_gl2 := la_gl1.mono hlegl2
      refine RunD.lend (Q := row b3 24 _) Lends.row (by first | ((repeat (first | (with_reducible exact F0 _) | apply F1)); done) | (repeat (first | exact F0 _ | apply F1))) ?_; intro gl3 hlegl3 hl3 backgl3
      have hl1 := hl1.mono hlegl3
      have hl2 := hl2.mono hlegl3
      have hEa_gl3 := hEa_gl2.mono hlegl3
      have hrb1_gl3 := hrb1_gl2.mono hlegl3
      have la_gl3 := la_gl2.mono hlegl3
      refine RunD.pure (i := 0) hok99 rfl (by kernel_rfl) (Pure.move rfl) (Wt.none rfl) rfl rfl ?_
      refine RunD.pure (i := 1) hok99 rfl (by kernel_rfl) (Pure.eql rfl rfl) (Wt.none rfl) rfl rfl ?_
      refine RunD.pure (i := 2) hok99 rfl (by kernel_rfl) (Pure.move rfl) (Wt.none rfl) rfl rfl ?_
      refine RunD.split (d := 42) rfl (fun hg1 => ?_) (fun hg1 => ?_)
      rotate_left
      · try simp only [ZA, ZB, ZC, ZD, ZE, ZF, ZG, ZH, ZI, ZJ, ZK, ZL, ZM, ZN, ZO, ZP, ZQ, ZR] at hg1
        exfalso
        first | (simp_all; done) | (simp_all; omega) | omega | grind
      try simp only [ZA, ZB, ZC, ZD, ZE, ZF, ZG, ZH, ZI, ZJ, ZK, ZL, ZM, ZN, ZO, ZP, ZQ, ZR] at hg1
      refine RunD.pure (i := 3) hok99 rfl (by kernel_rfl) (Pure.move rfl) (Wt.yes rfl rfl rfl) rfl rfl ?_
      refine RunD.pure (i := 4) hok99 rfl (by kernel_rfl) (Pure.eql rfl rfl) (Wt.yes rfl rfl rfl) rfl rfl ?_
      refine RunD.pure (i := 5) hok99 rfl (by kernel_rfl) (Pure.pickT rfl rfl) (Wt.none rfl) rfl rfl ?_
      refine RunD.pure (i := 6) hok99 rfl (by kernel_rfl) (Pure.move rfl) (Wt.none rfl) rfl rfl ?_
      refine RunD.split (d := 46) rfl (fun hg2 => ?_) (fun hg2 => ?_)
      rotate_left
      · try simp only [ZA, ZB, ZC, ZD, ZE, ZF, ZG, ZH, ZI, ZJ, ZK, ZL, ZM, ZN, ZO, ZP, ZQ, ZR] at hg2
        exfalso
        first | (simp_all; done) | (simp_all; omega) | omega | grind
      try simp only [ZA, ZB, ZC, ZD, ZE, ZF, ZG, ZH, ZI, ZJ, ZK, ZL, ZM, ZN, ZO, ZP, ZQ, ZR] at hg2
      refine RunD.loadNR (vs := (cPrc (withE (⟨p.ack, (goodP p ⟨aa, (goodL p xs).length, ca⟩).frm, (goodP p ⟨aa, (goodL p xs).length, ca⟩).to_, (goodP p ⟨aa, (goodL p xs).length, ca⟩).id, ⟨none, 0, 0⟩⟩ : Prc) ⟨a81, (goodL p xs).length, c81⟩))) (i := 7) hok99 rfl (by kernel_rfl) rfl (by assumption) agg33 sz33 (by first | exact Nat.le_of_ble_eq_true rfl | (simp; done) | (simp; omega)) rfl (Wt.yes rfl rfl rfl) rfl ?_
      refine RunD.lend (Q := Sl 50 11 a81 (goodL p xs).length c81 (((goodL p xs)).flatMap cEdu)) Lends.Sl (by first | ((repeat (first | (with_reducible exact F0 _) | apply F1)); done) | (repeat (first | exact F0 _ | apply F1))) ?_; intro g81 hleg81 hl81 backg81
      try (replace hl1 := hl1.mono hleg81)
      try (replace hl2 := hl2.mono hleg81)
      try (replace hl3 := hl3.mono hleg81)
      have hEa_g81 := hEa_gl3.mono hleg81
      have hrb1_g81 := hrb1_gl3.mono hleg81
      have la_g81 := la_gl3.mono hleg81
      refine RunD.loadNR (vs := (cPrc p)) (i := 9) hok99 rfl (by kernel_rfl) rfl (by assumption) agg24 sz24 (by first | exact Nat.le_of_ble_eq_true rfl | (simp; done) | (simp; omega)) rfl (Wt.yes rfl rfl rfl) rfl ?_
      refine RunD.one (i := 8) (by kernel_rfl) rfl ?_
      refine RunL.call rfl rfl (by rfl) (by repeat (first | (with_reducible exact Take.nil _) | (apply Take.cons (by first | ((repeat (first | (with_reducible exact F0 _) | apply F1)); done) | (repeat (first | exact F0 _ | apply F1)))))) (as_ctr (p := withE (⟨p.ack, (goodP p ⟨aa, (goodL p xs).length, ca⟩).frm, (goodP p ⟨aa, (goodL p xs).length, ca⟩).to_, (goodP p ⟨aa, (goodL p xs).length, ca⟩).id, ⟨none, 0, 0⟩⟩ : Prc) ⟨a81, (goodL p xs).length, c81⟩)) (Wt.yes rfl rfl rfl) rfl ?_
      rintro _ _ ⟨rfl, hA_⟩
      replace hA_ := hA_.symm; subst hA_
      refine RunL.nilD' ?_
      refine RunD.one (i := 10) (by kernel_rfl) rfl ?_
      refine RunL.call rfl rfl (by rfl) (by repeat (first | (with_reducible exact Take.nil _) | (apply Take.cons (by first | ((repeat (first | (with_reducible exact F0 _) | apply F1)); done) | (repeat (first | exact F0 _ | apply F1)))))) (Good4_ctr (p := p) (xs := xs) hEa_g81 (by omega) hza oa) (Wt.yes rfl rfl rfl) rfl ?_
      rintro _ _ ⟨ag, cg, rfl, hA_⟩
      replace hA_ := hA_.symm; subst hA_
      refine RunL.nilD' ?_
      refine RunD.lend (Q := Sl 50 11 ag (goodL p xs).length cg (((goodL p xs)).flatMap cEdu)) Lends.Sl (by first | ((repeat (first | (with_reducible exact F0 _) | apply F1)); done) | (repeat (first | exact F0 _ | apply F1))) ?_; intro g82 hleg82 hl82 backg82
      try (replace hl1 := hl1.mono hleg82)
      try (replace hl2 := hl2.mono hleg82)
      try (replace hl3 := hl3.mono hleg82)
      try (replace hl81 := hl81.mono hleg82)
      have hEa_g82 := hEa_g81.mono hleg82
      have hrb1_g82 := hrb1_g81.mono hleg82
      have la_g82 := la_g81.mono hleg82
      refine RunD.one (i := 11) (by kernel_rfl) rfl ?_
      refine RunL.call rfl rfl (by rfl) (by repeat (first | (with_reducible exact Take.nil _) | (apply Take.cons (by first | ((repeat (first | (with_reducible exact F0 _) | apply F1)); done) | (repeat (first | exact F0 _ | apply F1)))))) (rSame4_ctr (p := withE (⟨p.ack, (goodP p ⟨aa, (goodL p xs).length, ca⟩).frm, (goodP p ⟨aa, (goodL p xs).length, ca⟩).to_, (goodP p ⟨aa, (goodL p xs).length, ca⟩).id, ⟨none, 0, 0⟩⟩ : Prc) ⟨a81, (goodL p xs).length, c81⟩) (q := goodP p ⟨ag, (goodL p xs).length, cg⟩) (xs := (goodL p xs)) (ys := (goodL p xs)) ⟨rfl, hl81.1.mono hleg82, hl81.2⟩ ⟨rfl, hl82.1, hl82.2⟩ (by first | exact Nat.zero_le _ | (show ((goodL p xs)).length ≤ 1000000; omega))) (Wt.yes rfl rfl rfl) rfl ?_
      rintro _ _ ⟨rfl, hA_⟩
      replace hA_ := hA_.symm; subst hA_
      refine RunL.nilD' ?_
      refine RunD.pure (i := 12) hok99 rfl (by kernel_rfl) (Pure.pickT rfl rfl) (Wt.none rfl) rfl rfl ?_
      refine RunD.pure (i := 13) hok99 rfl (by kernel_rfl) (Pure.move rfl) (Wt.none rfl) rfl rfl ?_
      refine RunD.split (d := 53) rfl (fun hg3 => ?_) (fun hg3 => ?_)
      rotate_left
      · try simp only [ZA, ZB, ZC, ZD, ZE, ZF, ZG, ZH, ZI, ZJ, ZK, ZL, ZM, ZN, ZO, ZP, ZQ, ZR] at hg3
        exfalso
        rw [prcSame_self (by rfl) (by rfl) (by rfl) (by rfl)] at hg3; simp at hg3
      try simp only [ZA, ZB, ZC, ZD, ZE, ZF, ZG, ZH, ZI, ZJ, ZK, ZL, ZM, ZN, ZO, ZP, ZQ, ZR] at hg3
      refine RunD.pure (i := 14) hok99 rfl (by kernel_rfl) (Pure.move rfl) (Wt.yes rfl rfl rfl) rfl rfl ?_
      refine RunD.pure (i := 15) hok99 rfl (by kernel_rfl) (Pure.eql rfl rfl) (Wt.yes rfl rfl rfl) rfl rfl ?_
      refine RunD.pure (i := 16) hok99 rfl (by kernel_rfl) (Pure.pickT rfl rfl) (Wt.none rfl) rfl rfl ?_
      refine RunD.pure (i := 17) hok99 rfl (by kernel_rfl) (Pure.move rfl) (Wt.none rfl) rfl rfl ?_
      refine RunD.split (d := 57) rfl (fun hg4 => ?_) (fun hg4 => ?_)
      rotate_left
      · try simp only [ZA, ZB, ZC, ZD, ZE, ZF, ZG, ZH, ZI, ZJ, ZK, ZL, ZM, ZN, ZO, ZP, ZQ, ZR] at hg4
        exfalso
        first | exact hg4 trivial | exact hg4 rfl | (simp [withE] at hg4; done) | (simp_all [withE]; done)
      try simp only [ZA, ZB, ZC, ZD, ZE, ZF, ZG, ZH, ZI, ZJ, ZK, ZL, ZM, ZN, ZO, ZP, ZQ, ZR] at hg4
      refine RunD.pure (i := 18) hok99 rfl (by kernel_rfl) (Pure.move rfl) (Wt.yes rfl rfl rfl) rfl rfl ?_
      refine RunD.pure (i := 19) hok99 rfl (by kernel_rfl) (Pure.eql rfl rfl) (Wt.yes rfl rfl rfl) rfl rfl ?_
      refine RunD.pure (i := 20) hok99 rfl (by kernel_rfl) (Pure.pickT rfl rfl) (Wt.none rfl) rfl rfl ?_
      refine RunD.pure (i := 21) hok99 rfl (by kernel_rfl) (Pure.move rfl) (Wt.none rfl) rfl rfl ?_
      refine RunD.split (d := 61) rfl (fun hg5 => ?_) (fun hg5 => ?_)
      rotate_left
      · try simp only [ZA, ZB, ZC, ZD, ZE, ZF, ZG, ZH, ZI, ZJ, ZK, ZL, ZM, ZN, ZO, ZP, ZQ, ZR] at hg5
        exfalso
        first | exact hg5 trivial | exact hg5 rfl | (simp [withE] at hg5; done) | (simp_all [withE]; done)
      try simp only [ZA, ZB, ZC, ZD, ZE, ZF, ZG, ZH, ZI, ZJ, ZK, ZL, ZM, ZN, ZO, ZP, ZQ, ZR] at hg5
      refine RunD.pure (i := 22) hok99 rfl (by kernel_rfl) (Pure.fieldAddr rfl fo33_0) (Wt.yes rfl rfl rfl) rfl rfl ?_
      refine RunD.load1R (i := 23) hok99 rfl (by kernel_rfl) rfl (by assumption) (by rfl) agg4 (Wt.yes rfl rfl rfl) rfl ?_
      refine RunD.pure (i := 24) hok99 rfl (by kernel_rfl) (Pure.pickT rfl rfl) (Wt.none rfl) rfl rfl ?_
      refine RunD.pure (i := 25) hok99 rfl (by kernel_rfl) (Pure.move rfl) (Wt.none rfl) rfl rfl ?_
      refine RunD.split (d := 65) rfl (fun hg6 => ?_) (fun hg6 => ?_)
      rotate_left
      · try simp only [ZA, ZB, ZC, ZD, ZE, ZF, ZG, ZH, ZI, ZJ, ZK, ZL, ZM, ZN, ZO, ZP, ZQ, ZR] at hg6
        exfalso
        first | exact hg6 trivial | exact hg6 rfl | (simp [withE] at hg6; done) | (simp_all [withE]; done)
      try simp only [ZA, ZB, ZC, ZD, ZE, ZF, ZG, ZH, ZI, ZJ, ZK, ZL, ZM, ZN, ZO, ZP, ZQ, ZR] at hg6
      refine RunD.pure (i := 26) hok99 rfl (by kernel_rfl) (Pure.fieldAddr rfl fo33_1) (Wt.yes rfl rfl rfl) rfl rfl ?_
      refine RunD.load1R (i := 27) hok99 rfl (by kernel_rfl) rfl (by assumption) (by rfl) agg9 (Wt.yes rfl rfl rfl) rfl ?_
      refine RunD.pure (i := 28) hok99 rfl (by kernel_rfl) (Pure.fieldAddr rfl fo24_2) (Wt.yes rfl rfl rfl) rfl rfl ?_
      refine RunD.load1R (i := 29) hok99 rfl (by kernel_rfl) rfl (by assumption) (by rfl) agg9 (Wt.yes rfl rfl rfl) rfl ?_
      refine RunD.pure (i := 30) hok99 rfl (by kernel_rfl) (Pure.seql rfl rfl) (Wt.yes rfl rfl rfl) rfl rfl ?_
      refine RunD.pure (i := 31) hok99 rfl (by kernel_rfl) (Pure.pickT rfl rfl) (Wt.none rfl) rfl rfl ?_
      refine RunD.pure (i := 32) hok99 rfl (by kernel_rfl) (Pure.move rfl) (Wt.none rfl) rfl rfl ?_
      refine RunD.split (d := 72) rfl (fun hg7 => ?_) (fun hg7 => ?_)
      rotate_left
      · try simp only [ZA, ZB, ZC, ZD, ZE, ZF, ZG, ZH, ZI, ZJ, ZK, ZL, ZM, ZN, ZO, ZP, ZQ, ZR] at hg7
        exfalso
        first | exact hg7 trivial | exact hg7 rfl | (simp [withE] at hg7; done) | (simp_all [withE]; done)
      try simp only [ZA, ZB, ZC, ZD, ZE, ZF, ZG, ZH, ZI, ZJ, ZK, ZL, ZM, ZN, ZO, ZP, ZQ, ZR] at hg7
      refine RunD.pure (i := 33) hok99 rfl (by kernel_rfl) (Pure.fieldAddr rfl fo33_2) (Wt.yes rfl rfl rfl) rfl rfl ?_
      refine RunD.load1R (i := 34) hok99 rfl (by kernel_rfl) rfl (by assumption) (by rfl) agg9 (Wt.yes rfl rfl rfl) rfl ?_
      refine RunD.pure (i := 35) hok99 rfl (by kernel_rfl) (Pure.fieldAddr rfl fo24_1) (Wt.yes rfl rfl rfl) rfl rfl ?_
      refine RunD.load1R (i := 36) hok99 rfl (by kernel_rfl) rfl (by assumption) (by rfl) agg9 (Wt.yes rfl rfl rfl) rfl ?_
      refine RunD.pure (i := 37) hok99 rfl (by kernel_rfl) (Pure.seql rfl rfl) (Wt.yes rfl rfl rfl) rfl rfl ?_
      refine RunD.pure (i := 38) hok99 rfl (by kernel_rfl) (Pure.pickT rfl rfl) (Wt.none rfl) rfl rfl ?_
      refine RunD.pure (i := 39) hok99 rfl (by kernel_rfl) (Pure.move rfl) (Wt.none rfl) rfl rfl ?_
      refine RunD.split (d := 79) rfl (fun hg8 => ?_) (fun hg8 => ?_)
      rotate_left
      · try simp only [ZA, ZB, ZC, ZD, ZE, ZF, ZG, ZH, ZI, ZJ, ZK, ZL, ZM, ZN, ZO, ZP, ZQ, ZR] at hg8
        exfalso
        first | exact hg8 trivial | exact hg8 rfl | (simp [withE] at hg8; done) | (simp_all [withE]; done)
      try simp only [ZA, ZB, ZC, ZD, ZE, ZF, ZG, ZH, ZI, ZJ, ZK, ZL, ZM, ZN, ZO, ZP, ZQ, ZR] at hg8
      refine RunD.pure (i := 40) hok99 rfl (by kernel_rfl) (Pure.fieldAddr rfl fo33_3) (Wt.yes rfl rfl rfl) rfl rfl ?_
      refine RunD.load1R (i := 41) hok99 rfl (by kernel_rfl) rfl (by assumption) (by rfl) agg3 (Wt.yes rfl rfl rfl) rfl ?_
      refine RunD.pure (i := 42) hok99 rfl (by kernel_rfl) (Pure.fieldAddr rfl fo24_3) (Wt.yes rfl rfl rfl) rfl rfl ?_
      refine RunD.load1R (i := 43) hok99 rfl (by kernel_rfl) rfl (by assumption) (by rfl) agg3 (Wt.yes rfl rfl rfl) rfl ?_
      refine RunD.pure (i := 44) hok99 rfl (by kernel_rfl) (Pure.eql rfl rfl) (Wt.yes rfl rfl rfl) rfl rfl ?_
      refine RunD.pure (i := 45) hok99 rfl (by kernel_rfl) (Pure.pickT rfl rfl) (Wt.none rfl) rfl rfl ?_
      refine RunD.pure (i := 46) hok99 rfl (by kernel_rfl) (Pure.move rfl) (Wt.none rfl) rfl rfl ?_
      refine RunD.split (d := 86) rfl (fun hg9 => ?_) (fun hg9 => ?_)
      rotate_left
      · try simp only [ZA, ZB, ZC, ZD, ZE, ZF, ZG, ZH, ZI, ZJ, ZK, ZL, ZM, ZN, ZO, ZP, ZQ, ZR] at hg9
        exfalso
        first | exact hg9 trivial | exact hg9 rfl | (simp [withE] at hg9; done) | (simp_all [withE]; done)
      try simp only [ZA, ZB, ZC, ZD, ZE, ZF, ZG, ZH, ZI, ZJ, ZK, ZL, ZM, ZN, ZO, ZP, ZQ, ZR] at hg9
      refine RunD.pure (i := 47) hok99 rfl (by kernel_rfl) (Pure.fieldAddr rfl fo33_4) (Wt.yes rfl rfl rfl) rfl rfl ?_
      refine RunD.load1R (i := 48) hok99 rfl (by kernel_rfl) rfl (by assumption) (by rfl) agg22 (Wt.yes rfl rfl rfl) rfl ?_
      refine RunD.pure (i := 49) hok99 rfl (by kernel_rfl) (Pure.lenSl rfl rfl und22) (Wt.yes rfl rfl rfl) rfl rfl ?_
      refine RunD.pure (i := 50) hok99 rfl (by kernel_rfl) (Pure.eql rfl rfl) (Wt.yes rfl rfl rfl) rfl rfl ?_
      refine RunD.pure (i := 51) hok99 rfl (by kernel_rfl) (Pure.pickT rfl rfl) (Wt.none rfl) rfl rfl ?_
      refine RunD.pure (i := 52) hok99 rfl (by kernel_rfl) (Pure.move rfl) (Wt.none rfl) rfl rfl ?_
      refine RunD.split (d := 92) rfl (fun hg10 => ?_) (fun hg10 => ?_)
      rotate_left
      · try simp only [ZA, ZB, ZC, ZD, ZE, ZF, ZG, ZH, ZI, ZJ, ZK, ZL, ZM, ZN, ZO, ZP, ZQ, ZR] at hg10
        exfalso
        first | exact hg10 trivial | exact hg10 rfl | (simp [withE] at hg10; done) | (simp_all [withE]; done)
      try simp only [ZA, ZB, ZC, ZD, ZE, ZF, ZG, ZH, ZI, ZJ, ZK, ZL, ZM, ZN, ZO, ZP, ZQ, ZR] at hg10
      refine RunD.one (i := 53) (by kernel_rfl) rfl ?_
      refine RunL.call rfl rfl (by rfl) (by repeat (first | (with_reducible exact Take.nil _) | (apply Take.cons (by first | ((repeat (first | (with_reducible exact F0 _) | apply F1)); done) | (repeat (first | exact F0 _ | apply F1)))))) (lives_ctr) (Wt.yes rfl rfl rfl) rfl ?_
      rintro _ _ ⟨rfl, hA_⟩
      replace hA_ := hA_.symm; subst hA_
      refine RunL.nilD' ?_
      refine RunD.pure (i := 54) hok99 rfl (by kernel_rfl) (Pure.pickT rfl rfl) (Wt.none rfl) rfl rfl ?_
      refine RunD.pure (i := 55) hok99 rfl (by kernel_rfl) (Pure.assign rfl) (Wt.none rfl) rfl rfl ?_
      refine RunD.nilB (by kernel_rfl) (fun w sw => backgl1 _ _ (backgl2 _ _ (backgl3 _ _ (backg81 _ _ (backg82 _ _ (sw)))))) ?_
      exact Run.ret Try.func6 (res1 rfl rfl) (by exact ⟨rfl, rfl⟩) (by repeat (first | (with_reducible exact Fin.done (by repeat (first | (with_reducible exact Rest.here) | apply Rest.there))) | (apply Fin.cons (by first | ((repeat (first | (with_reducible exact F0 _) | apply F1)); done) | (repeat (first | exact F0 _ | apply F1))))))
    · skip
      exfalso; rw [hr2] at hp2; cases hp2
  · skip
    exfalso; rw [hr1] at hp1; cases hp1

end Go.Proofs.Ytbgjfpaigndbmaa
