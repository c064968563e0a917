/- What is read of any bytes. -/
import Derived.Test.YtbgjfpaigndbmaaPR5
import Derived.Test.YtbgjfpaigndbmaaP4
set_option linter.unusedVariables false
set_option linter.unusedSimpArgs false
set_option linter.unusedSectionVars false
namespace Go.Proofs.Ytbgjfpaigndbmaa
open Go Csl
theorem cb15 : Callable Try.prog 15 := ⟨_, Try.func15, by kernel_rfl, by kernel_rfl⟩
theorem und41 : Try.prog.underlying 41 = some (Go.TypeDesc.slice 29) := Try.underlying41
theorem zz29 : zeroIs Try.prog 29 = some (.slice none 0 0) := by kernel_rfl

set_option maxHeartbeats 4000000 in
set_option maxRecDepth 100000 in
theorem ParcelReads_ctr {G : Gp} {a : Option Addr} {bs : List UInt8} {cap : Nat} {p : Prc} {z c : Int} (h : SlR G 5 1 a bs.length (bs.map bv)) (hc : bs.length ≤ cap) (ha : ∃ xs : List Edu, xs.length = p.ed.n ∧ (∀ x ∈ xs, okEdu x) ∧ SlR G 50 11 p.ed.a xs.length (xs.flatMap cEdu) ∧ p.ed.n ≤ p.ed.c ∧ p.ed.c ≤ 9223372036854775807) (oa : okPrc p) (hz : -9223372036854775808 ≤ z ∧ z ≤ 9223372036854775807) (hcr : 0 ≤ c ∧ c ≤ 255) :
    Ctr Try.prog G 5 [.slice a bs.length cap, .agg (cPrc p).toArray, .int .i64 z, .int .u8 c] [] (fun F v A => v = .bool true ∧ A = F) := by
  refine Ctr.intro Try.func5 rfl (by kernel_rfl) rfl (fun F => ?_)
  simp only [List.nil_append]
  obtain ⟨xs, hna, hza, hsa, hca, hda⟩ := ha
  rw [hna] at hsa
  have hEa : HasE G p xs := ⟨hna.symm, hsa, hca⟩
  obtain ⟨c8, hc8⟩ : ∃ x : UInt8, c = (x.toNat : Nat) := ⟨UInt8.ofNat c.toNat, by rw [UInt8.toNat_ofNat_of_lt' (by simp [UInt8.size]; omega)]; omega⟩
  subst hc8
  have hpl := goodL_len p xs
  refine Run.sr ?_
  refine RunL.boxA (xs := (cPrc p)) rfl (Wt.none rfl) rfl ?_; intro b5
  refine RunL.as rfl rfl ?_
  refine RunL.nil ?_
  refine Run.lendAll (Q := row b5 24 _) Lends.row (by first | ((repeat (first | (with_reducible exact F0 _) | apply F1)); done) | (repeat (first | exact F0 _ | apply F1))) (fun G5 hleG5 hrb5 => ?_)
  replace h := h.mono hleG5
  replace hEa := hEa.mono hleG5
  refine Run.sr ?_
  first | refine RunL.loadA (vs := (cPrc p)) rfl (by first | ((repeat (first | (with_reducible exact F0 _) | apply F1)); done) | (repeat (first | exact F0 _ | apply F1))) agg24 sz24 (by first | exact Nat.le_of_ble_eq_true rfl | (simp; done) | (simp; omega)) rfl (Wt.none rfl) rfl ?_ | refine RunL.loadNR (vs := (cPrc p)) rfl (by assumption) agg24 sz24 (by first | exact Nat.le_of_ble_eq_true rfl | (simp; done) | (simp; omega)) rfl (Wt.none rfl) rfl ?_
  refine RunL.call rfl rfl (by rfl) (by repeat (first | (with_reducible exact Take.nil _) | (apply Take.cons (by first | ((repeat (first | (with_reducible exact F0 _) | apply F1)); done) | (repeat (first | exact F0 _ | apply F1)))))) (Good4_ctr (p := p) (xs := xs) hEa (by omega) hza oa) (Wt.none rfl) rfl ?_
  rintro _ _ ⟨aa, ca, rfl, hA_⟩
  replace hA_ := hA_.symm; subst hA_
  refine RunL.call rfl rfl (by rfl) (by repeat (first | (with_reducible exact Take.nil _) | (apply Take.cons (by first | ((repeat (first | (with_reducible exact F0 _) | apply F1)); done) | (repeat (first | exact F0 _ | apply F1)))))) (Ctr.lend (R := fun G => SlR G 50 11 _ _ _ ∧ _ ≤ _) Lends.Sl cb15 (fun G' hle hr => rBytes4_ctr (p := goodP p ⟨aa, (goodL p xs).length, ca⟩) (xs := goodL p xs) ⟨rfl, hr.1, hr.2⟩ (fun z h => (goodL_facts z h).1) (by show (goodL p xs).length ≤ _; omega) (goodP_ok p _) (fun z h => (goodL_facts z h).2) (good_may p xs (s := ⟨aa, (goodL p xs).length, ca⟩) rfl))) (Wt.none rfl) rfl ?_
  rintro _ _ ⟨_, rfl, ab, cb, rfl, hA_⟩
  replace hA_ := hA_.symm; subst hA_
  refine RunL.as rfl rfl ?_
  refine RunL.nil ?_
  have hpos : 0 < (prcBytes (goodP p ⟨aa, (goodL p xs).length, ca⟩) (goodL p xs)).length := by rw [prcBytes_len0]; omega
  have hlb := prcBytes_len (p := goodP p ⟨aa, (goodL p xs).length, ca⟩) (xs := goodL p xs) (good_may p xs (s := ⟨aa, (goodL p xs).length, ca⟩) rfl) (fun z h => goodL_facts z h) (by omega)
  obtain ⟨ow, how⟩ : ∃ l, l = prcBytes (goodP p ⟨aa, (goodL p xs).length, ca⟩) (goodL p xs) := ⟨_, rfl⟩
  rw [← how] at hpos hlb ⊢
  refine Run.sr ?_
  refine RunL.mv rfl rfl ?_
  refine RunL.mv rfl rfl ?_
  refine RunL.pure (Pure.lenSl rfl rfl und29) (Wt.none rfl) rfl rfl ?_
  refine RunL.call rfl rfl (by rfl) (by repeat (first | (with_reducible exact Take.nil _) | (apply Take.cons (by first | ((repeat (first | (with_reducible exact F0 _) | apply F1)); done) | (repeat (first | exact F0 _ | apply F1)))))) (Around_ctr (m := (ow.length : Nat)) hz (by omega)) (Wt.none rfl) rfl ?_
  rintro _ _ ⟨rfl, hA_⟩
  replace hA_ := hA_.symm; subst hA_
  have hk := around_lt (z := z) (m := (ow.length : Nat)) (by omega)
  obtain ⟨k, hkk⟩ : ∃ k : Nat, around z (ow.length : Nat) = k := ⟨(around z (ow.length : Nat)).toNat, by omega⟩
  rw [hkk] at hk ⊢
  refine RunL.as rfl rfl ?_
  refine RunL.nil ?_
  refine Run.sr ?_
  refine RunL.as rfl rfl ?_
  refine RunL.nil ?_
  refine Run.sr ?_
  refine RunL.mv rfl rfl ?_
  refine RunL.mv rfl rfl ?_
  refine RunL.append0 rfl rfl rfl rfl und29 und29 rfl sz5 zz5 rfl by5 (by omega) (by omega) (fun w sw => (sw.find (p := Sl 5 1 ab _ cb _) (by first | ((repeat (first | (with_reducible exact F0 _) | apply F1)); done) | (repeat (first | exact F0 _ | apply F1)))).src) (Wt.none rfl) rfl ?_; intro a1 c1
  refine RunL.as rfl rfl ?_
  refine RunL.nil ?_
  refine Run.openSl (n := ow.length) (by first | ((repeat (first | (with_reducible exact F0 _) | apply F1)); done) | (repeat (first | exact F0 _ | apply F1))) (by omega) ?_; rintro b pre post rfl hsl1 hsl2 hsl3
  refine Run.sr ?_
  refine RunL.mv rfl rfl ?_
  refine RunL.mv rfl rfl ?_
  refine RunL.mv rfl rfl ?_
  refine RunL.pure (Pure.indexAddr rfl rfl und29 sz5 (by omega) (by omega)) (Wt.none rfl) rfl rfl ?_
  refine RunL.store1 rfl rfl (by first | ((repeat (first | (with_reducible exact F0 _) | apply F1)); done) | (repeat (first | exact F0 _ | apply F1))) sz5 (by rfl) (by first | (simp; done) | (simp; omega)) (Wt.none rfl) ?_
  try simp only [List.set_cons_zero, List.set_cons_succ]
  refine RunL.asRow (pre ++ (ow.set k c8).map bv ++ post) (by first | ((repeat (first | (with_reducible exact F0 _) | apply F1)); done) | (repeat (first | exact F0 _ | apply F1))) (by rw [set_cell (x := c8) (by simp; omega) rfl, Int.toNat_natCast]) ?_
  refine RunL.mkSl (n := ow.length) (cs := (ow.set k c8).map bv) (by first | ((repeat (first | (with_reducible exact F0 _) | apply F1)); done) | (repeat (first | exact F0 _ | apply F1))) (by simp) hsl2 hsl3 ?_
  obtain ⟨a1, ha1⟩ : ∃ x : Option Addr, x = some ⟨b, pre.length, none⟩ := ⟨_, rfl⟩
  rw [← ha1]
  refine RunL.nil ?_
  refine Run.sr ?_
  refine RunL.as rfl rfl ?_
  refine RunL.nil ?_
  refine Run.sr ?_
  refine RunL.mv rfl rfl ?_
  refine RunL.mv rfl rfl ?_
  refine RunL.append0 rfl rfl rfl rfl und29 und29 rfl sz5 zz5 rfl by5 (by omega) (by omega) (fun w sw => (sw.find (p := Sl 5 1 ab _ cb _) (by first | ((repeat (first | (with_reducible exact F0 _) | apply F1)); done) | (repeat (first | exact F0 _ | apply F1)))).src) (Wt.none rfl) rfl ?_; intro a2 c2
  refine RunL.as rfl rfl ?_
  refine RunL.nil ?_
  refine Run.sr ?_
  refine RunL.mv rfl rfl ?_
  refine RunL.mv rfl rfl ?_
  refine RunL.lit (vals := [_]) (vs := [_]) und29 sz5 zz5 rfl rfl rfl rfl rfl rfl (by simp [Value.cells, bv, cEdu, cPrc]) rfl (Wt.none rfl) rfl ?_; intro b38
  refine RunL.append (n' := (ow ++ [c8]).length) (cs' := ((ow ++ [c8]).map bv)) rfl rfl (by first | ((repeat (first | (with_reducible exact F0 _) | apply F1)); done) | (repeat (first | exact F0 _ | apply F1))) rfl rfl und29 und29 rfl sz5 zz5 rfl by5 (by omega) (by omega) (fun w sw => sw.src) (by simp [Value.isOne]) (by simp) (by simp [bv]) (Wt.none rfl) rfl ?_; intro a3 c3
  refine RunL.as rfl rfl ?_
  refine RunL.nil ?_
  refine Run.lendAll (Q := Sl 5 1 ab ow.length cb (ow.map bv)) Lends.Sl (by first | ((repeat (first | (with_reducible exact F0 _) | apply F1)); done) | (repeat (first | exact F0 _ | apply F1))) (fun Gho hleGho ho => ?_)
  replace h := h.mono hleGho
  replace hEa := hEa.mono hleGho
  replace hrb5 := hrb5.mono hleGho
  obtain ⟨ho, hoc⟩ := ho
  refine Run.lendAll (Q := Sl 5 1 a1 ow.length c1 ((ow.set k c8).map bv)) Lends.Sl (by first | ((repeat (first | (with_reducible exact F0 _) | apply F1)); done) | (repeat (first | exact F0 _ | apply F1))) (fun Gh1 hleGh1 h1 => ?_)
  replace h := h.mono hleGh1
  replace hEa := hEa.mono hleGh1
  replace hrb5 := hrb5.mono hleGh1
  replace ho := ho.mono hleGh1
  obtain ⟨h1, h1c⟩ := h1
  refine Run.lendAll (Q := Sl 5 1 a3 (ow ++ [c8]).length c3 ((ow ++ [c8]).map bv)) Lends.Sl (by first | ((repeat (first | (with_reducible exact F0 _) | apply F1)); done) | (repeat (first | exact F0 _ | apply F1))) (fun Gh3 hleGh3 h3 => ?_)
  replace h := h.mono hleGh3
  replace hEa := hEa.mono hleGh3
  replace hrb5 := hrb5.mono hleGh3
  replace ho := ho.mono hleGh3
  replace h1 := h1.mono hleGh3
  obtain ⟨h3, h3c⟩ := h3
  refine Run.seq ?_
  refine Run.regionD' (by kernel_rfl) (by kernel_rfl) (fun hok90 => ?_)
  refine RunD.pure (i := 0) hok90 rfl (by kernel_rfl) (Pure.move rfl) (Wt.none rfl) rfl rfl ?_
  refine RunD.pure (i := 1) hok90 rfl (by kernel_rfl) (Pure.move rfl) (Wt.none rfl) rfl rfl ?_
  refine RunD.pure (i := 2) hok90 rfl (by kernel_rfl) (Pure.lenSl rfl rfl und29) (Wt.none rfl) rfl rfl ?_
  refine RunD.pure (i := 3) hok90 rfl (by kernel_rfl) (Pure.min2 rfl rfl) (Wt.none rfl) rfl rfl ?_
  refine RunD.pure (i := 4) hok90 rfl (by kernel_rfl) (Pure.sliceTo rfl rfl und29 sz5 (by first | omega | (simp; done) | (simp; omega)) (by first | omega | (simp; done) | (simp; omega))) (Wt.none rfl) rfl rfl ?_
  refine RunD.pure (i := 5) hok90 rfl (by kernel_rfl) (Pure.move rfl) (Wt.none rfl) rfl rfl ?_
  refine RunD.pure (i := 6) hok90 rfl (by kernel_rfl) (Pure.move rfl) (Wt.none rfl) rfl rfl ?_
  refine RunD.pure (i := 7) hok90 rfl (by kernel_rfl) (Pure.move rfl) (Wt.none rfl) rfl rfl ?_
  refine RunD.pure (i := 8) hok90 rfl (by kernel_rfl) (Pure.move rfl) (Wt.none rfl) rfl rfl ?_
  refine RunD.pure (i := 9) hok90 rfl (by kernel_rfl) (Pure.sliceTo rfl rfl und29 sz5 (by first | omega | (simp; done) | (simp; omega)) (by first | omega | (simp; done) | (simp; omega))) (Wt.none rfl) rfl rfl ?_
  refine RunD.pure (i := 10) hok90 rfl (by kernel_rfl) (Pure.move rfl) (Wt.none rfl) rfl rfl ?_
  refine RunD.one (i := 11) (by kernel_rfl) rfl ?_
  refine RunL.lit (vals := [_, _, _, _, _]) (vs := [_, _, _, _, _]) und41 sz29 zz29 rfl rfl rfl rfl rfl rfl (by simp [Value.cells, bv, cEdu, cPrc]) rfl (Wt.none rfl) rfl ?_; intro b51
  refine RunL.nilD' ?_
  refine RunD.pure (i := 12) hok90 rfl (by kernel_rfl) (Pure.assign rfl) (Wt.none rfl) rfl rfl ?_
  refine RunD.nilR (by kernel_rfl) ?_
  refine Run.lendAll (Q := Sl 29 1 (some ⟨b51, 0, none⟩) 5 5 _) (Lends.litRow (n := 5)) (by first | ((repeat (first | (with_reducible exact F0 _) | apply F1)); done) | (repeat (first | exact F0 _ | apply F1))) (fun Ght0 hleGht0 ht0 => ?_)
  replace h := h.mono hleGht0
  replace hEa := hEa.mono hleGht0
  replace hrb5 := hrb5.mono hleGht0
  replace ho := ho.mono hleGht0
  replace h1 := h1.mono hleGht0
  replace h3 := h3.mono hleGht0
  obtain ⟨postt, ht⟩ := ht0
  obtain ⟨ts, hte, htn, hts⟩ : ∃ ts : List (Option Addr × List UInt8 × Nat), ([(a, bs.take 80, cap), (ab, ow, cb), (a1, ow.set k c8, c1), (ab, ow.take k, cb), (a3, ow ++ [c8], c3)] : List (Option Addr × List UInt8 × Nat)).map fT = ts.map fT ∧ ts.length = 5 ∧ HTS Ght0 ts := ⟨_, rfl, rfl, by
    intro q hq
    simp only [List.mem_cons, List.not_mem_nil, or_false] at hq
    rcases hq with rfl | rfl | rfl | rfl | rfl
    · exact ⟨h.toB 80, by simp only [List.length_take]; omega, by simp only [List.length_take]; omega⟩
    · exact ⟨ho, by simp only; omega, by simp only; omega⟩
    · exact ⟨by simpa using h1, by simp only [List.length_set]; omega, by simp only [List.length_set]; omega⟩
    · exact ⟨ho.toB k, by simp only [List.length_take]; omega, by simp only [List.length_take]; omega⟩
    · exact ⟨h3, by simp only [List.length_append, List.length_cons, List.length_nil]; omega, h3c⟩⟩
  have e5 : ([(a, bs.take 80, cap), (ab, ow, cb), (a1, ow.set k c8, c1), (ab, ow.take k, cb), (a3, ow ++ [c8], c3)] : List (Option Addr × List UInt8 × Nat)).map fT = [Value.slice a (min (↑bs.length) 80 : Int).toNat cap, .slice ab ow.length cb, .slice a1 ow.length c1, .slice ab ((k : Nat) : Int).toNat cb, .slice a3 (ow ++ [c8]).length c3] := by simp only [fT, List.map_cons, List.map_nil, List.length_take, List.length_set, Int.toNat_natCast]; rw [show min 80 bs.length = (min (↑bs.length) 80 : Int).toNat from by omega, show min k ow.length = k from by omega]
  rw [← e5, hte] at ht
  refine Run.seq ?_
  refine Run.sr ?_
  refine RunL.as rfl rfl ?_
  refine RunL.nil ?_
  refine Run.block ?_
  refine Run.keep (.cons rfl (.cons rfl (.nil)) : Keep _ [13, 14] _) ?_
  refine Run.loopF (F := F) (fun n e A => ∃ i : Nat, i ≤ 5 ∧ n = 5 - i ∧ e = [(13, .slice (some ⟨b51, 0, none⟩) 5 5), (14, .int .i64 (i : Nat))] ∧ A = F) (5) (by exact ⟨0, by omega, rfl, rfl, rfl⟩) (by repeat (first | (with_reducible exact Fin.done (by repeat (first | (with_reducible exact Rest.here) | apply Rest.there))) | (apply Fin.cons (by first | ((repeat (first | (with_reducible exact F0 _) | apply F1)); done) | (repeat (first | exact F0 _ | apply F1)))))) ?_
  rintro n _ _ ⟨i, hi, rfl, rfl, hA_⟩ ih
  replace hA_ := hA_.symm; subst hA_
  refine Run.seq ?_
  refine Run.sr ?_
  refine RunL.mv rfl rfl ?_
  refine RunL.pure (Pure.lss rfl rfl) (Wt.none rfl) rfl rfl ?_
  refine RunL.nil ?_
  refine Run.cond rfl (fun hi5 => ?_) (fun hi5 => ?_)
  · try simp only [ZA, ZB, ZC, ZD, ZE, ZF, ZG, ZH, ZI, ZJ, ZK, ZL, ZM, ZN, ZO, ZP, ZQ, ZR] at hi5
    obtain ⟨x, hx⟩ := get_some (xs := ts) (i := i) (by omega)
    obtain ⟨x1, x2, x3⟩ := hts x (List.mem_of_getElem? hx)
    refine Run.skip ?_
    refine Run.seq ?_
    refine Run.block ?_
    refine Run.sr ?_
    refine RunL.mv rfl rfl ?_
    refine RunL.mv rfl rfl ?_
    refine RunL.pure (Pure.indexAddr rfl rfl und41 sz29 (by omega) (by omega)) (Wt.none rfl) rfl rfl ?_
    refine RunL.load1R rfl ht (elem1_at hx) agg29 (Wt.none rfl) rfl ?_
    refine RunL.call rfl rfl (by rfl) (by repeat (first | (with_reducible exact Take.nil _) | (apply Take.cons (by first | ((repeat (first | (with_reducible exact F0 _) | apply F1)); done) | (repeat (first | exact F0 _ | apply F1)))))) (pRead_ctr (bs := x.2.1) x1 x2 x3) (Wt.none rfl) rfl ?_
    rintro _ _ q1
    rcases q1 with ⟨p1, xs1, a81, c81, hp1, rfl, hA_⟩ | ⟨hp1, rfl, hA_⟩
    · skip
      replace hA_ := hA_.symm; subst hA_
      refine RunL.mv rfl rfl ?_
      refine RunL.pure (Pure.extract rfl rfl) (Wt.none rfl) rfl rfl ?_
      refine RunL.pure (Pure.extract rfl rfl) (Wt.none rfl) rfl rfl ?_
      refine RunL.alloc zz33 (Wt.none rfl) rfl ?_; intro b15
      refine RunL.storeW (xs := (cPrc (withE p1 ⟨a81, xs1.length, c81⟩))) rfl rfl (by first | ((repeat (first | (with_reducible exact F0 _) | apply F1)); done) | (repeat (first | exact F0 _ | apply F1))) sz33 (by rfl) (by rfl) (by rfl) (Wt.none rfl) ?_
      refine RunL.as rfl rfl ?_
      refine RunL.nil ?_
      refine Run.sr ?_
      refine RunL.mv rfl rfl ?_
      refine RunL.mv rfl rfl ?_
      refine RunL.pure (Pure.indexAddr rfl rfl und41 sz29 (by omega) (by omega)) (Wt.none rfl) rfl rfl ?_
      refine RunL.load1R rfl ht (elem1_at hx) agg29 (Wt.none rfl) rfl ?_
      refine RunL.call rfl rfl (by rfl) (by repeat (first | (with_reducible exact Take.nil _) | (apply Take.cons (by first | ((repeat (first | (with_reducible exact F0 _) | apply F1)); done) | (repeat (first | exact F0 _ | apply F1)))))) (rRead4_ctr (bs := x.2.1) x1 x2 x3) (Wt.none rfl) rfl ?_
      rintro _ _ q2
      rcases q2 with ⟨p2, xs2, a82, c82, hp2, rfl, hA_⟩ | ⟨hp2, rfl, hA_⟩
      · skip
        replace hA_ := hA_.symm; subst hA_
        rw [rdP_two, hp2] at hp1; cases hp1
        have hx5 := rdP_len hp2
        refine RunL.mv rfl rfl ?_
        refine RunL.pure (Pure.extract rfl rfl) (Wt.none rfl) rfl rfl ?_
        refine RunL.pure (Pure.extract rfl rfl) (Wt.none rfl) rfl rfl ?_
        refine RunL.alloc zz24 (Wt.none rfl) rfl ?_; intro b17
        refine RunL.storeW (xs := (cPrc (withE p1 ⟨a82, xs1.length, c82⟩))) rfl rfl (by first | ((repeat (first | (with_reducible exact F0 _) | apply F1)); done) | (repeat (first | exact F0 _ | apply F1))) sz24 (by rfl) (by rfl) (by rfl) (Wt.none rfl) ?_
        refine RunL.as rfl rfl ?_
        refine RunL.nil ?_
        refine Run.seq ?_
        refine Run.regionD' (by kernel_rfl) (by kernel_rfl) (fun hok184 => ?_)
        refine RunD.lend (Q := row b15 33 _) Lends.row (by first | ((repeat (first | (with_reducible exact F0 _) | apply F1)); done) | (repeat (first | exact F0 _ | apply F1))) ?_; intro gl1 hlegl1 hl1 backgl1
        have h_gl1 := h.mono hlegl1
        have hEa_gl1 := hEa.mono hlegl1
        have hrb5_gl1 := hrb5.mono hlegl1
        have ho_gl1 := ho.mono hlegl1
        have h1_gl1 := h1.mono hlegl1
        have h3_gl1 := h3.mono hlegl1
        have ht_gl1 := ht.mono hlegl1
        refine RunD.lend (Q := row b17 24 _) Lends.row (by first | ((repeat (first | (with_reducible exact F0 _) | apply F1)); done) | (repeat (first | exact F0 _ | apply F1))) ?_; intro gl2 hlegl2 hl2 backgl2
        have hl1 := hl1.mono hlegl2
        have h_gl2 := h_gl1.mono hlegl2
        have hEa_gl2 := hEa_gl1.mono hlegl2
        have hrb5_gl2 := hrb5_gl1.mono hlegl2
        have ho_gl2 := ho_gl1.mono hlegl2
        have h1_gl2 := h1_gl1.mono hlegl2
        have h3_gl2 := h3_gl1.mono hlegl2
        have ht_gl2 := ht_gl1.mono hlegl2
        refine RunD.lend (Q := Sl 50 11 a81 xs1.length c81 ((xs1).flatMap cEdu)) Lends.Sl (by first | ((repeat (first | (with_reducible exact F0 _) | apply F1)); done) | (repeat (first | exact F0 _ | apply F1))) ?_; intro g81 hleg81 hl81 backg81
        try (replace hl1 := hl1.mono hleg81)
        try (replace hl2 := hl2.mono hleg81)
        have h_g81 := h_gl2.mono hleg81
        have hEa_g81 := hEa_gl2.mono hleg81
        have hrb5_g81 := hrb5_gl2.mono hleg81
        have ho_g81 := ho_gl2.mono hleg81
        have h1_g81 := h1_gl2.mono hleg81
        have h3_g81 := h3_gl2.mono hleg81
        have ht_g81 := ht_gl2.mono hleg81
        refine RunD.lend (Q := Sl 50 11 a82 xs1.length c82 ((xs1).flatMap cEdu)) Lends.Sl (by first | ((repeat (first | (with_reducible exact F0 _) | apply F1)); done) | (repeat (first | exact F0 _ | apply F1))) ?_; intro g82 hleg82 hl82 backg82
        try (replace hl1 := hl1.mono hleg82)
        try (replace hl2 := hl2.mono hleg82)
        try (replace hl81 := hl81.mono hleg82)
        have h_g82 := h_g81.mono hleg82
        have hEa_g82 := hEa_g81.mono hleg82
        have hrb5_g82 := hrb5_g81.mono hleg82
        have ho_g82 := ho_g81.mono hleg82
        have h1_g82 := h1_g81.mono hleg82
        have h3_g82 := h3_g81.mono hleg82
        have ht_g82 := ht_g81.mono hleg82
        refine RunD.pure (i := 0) hok184 rfl (by kernel_rfl) (Pure.move rfl) (Wt.none rfl) rfl rfl ?_
        refine RunD.pure (i := 1) hok184 rfl (by kernel_rfl) (Pure.move rfl) (Wt.none rfl) rfl rfl ?_
        refine RunD.pure (i := 2) hok184 rfl (by kernel_rfl) (Pure.neq rfl rfl) (Wt.none rfl) rfl rfl ?_
        refine RunD.pure (i := 3) hok184 rfl (by kernel_rfl) (Pure.move rfl) (Wt.none rfl) rfl rfl ?_
        refine RunD.split (d := 75) rfl (fun hg1 => ?_) (fun hg1 => ?_)
        · try simp only [ZA, ZB, ZC, ZD, ZE, ZF, ZG, ZH, ZI, ZJ, ZK, ZL, ZM, ZN, ZO, ZP, ZQ, ZR] at hg1
          exfalso
          first | exact hg1 trivial | exact hg1 rfl | (simp at hg1; done)
        try simp only [ZA, ZB, ZC, ZD, ZE, ZF, ZG, ZH, ZI, ZJ, ZK, ZL, ZM, ZN, ZO, ZP, ZQ, ZR] at hg1
        refine RunD.loadNR (vs := (cPrc (withE p1 ⟨a81, xs1.length, c81⟩))) (i := 4) hok184 rfl (by kernel_rfl) rfl (by assumption) agg33 sz33 (by first | exact Nat.le_of_ble_eq_true rfl | (simp; done) | (simp; omega)) rfl (Wt.yes rfl rfl rfl) rfl ?_
        refine RunD.loadNR (vs := (cPrc (withE p1 ⟨a82, xs1.length, c82⟩))) (i := 6) hok184 rfl (by kernel_rfl) rfl (by assumption) agg24 sz24 (by first | exact Nat.le_of_ble_eq_true rfl | (simp; done) | (simp; omega)) rfl (Wt.yes rfl rfl rfl) rfl ?_
        refine RunD.one (i := 5) (by kernel_rfl) rfl ?_
        refine RunL.call rfl rfl (by rfl) (by repeat (first | (with_reducible exact Take.nil _) | (apply Take.cons (by first | ((repeat (first | (with_reducible exact F0 _) | apply F1)); done) | (repeat (first | exact F0 _ | apply F1)))))) (as_ctr (p := withE p1 ⟨a81, xs1.length, c81⟩)) (Wt.yes rfl rfl rfl) rfl ?_
        rintro _ _ ⟨rfl, hA_⟩
        replace hA_ := hA_.symm; subst hA_
        refine RunL.nilD' ?_
        refine RunD.one (i := 7) (by kernel_rfl) rfl ?_
        refine RunL.call rfl rfl (by rfl) (by repeat (first | (with_reducible exact Take.nil _) | (apply Take.cons (by first | ((repeat (first | (with_reducible exact F0 _) | apply F1)); done) | (repeat (first | exact F0 _ | apply F1)))))) (rSame4_ctr (p := withE p1 ⟨a81, xs1.length, c81⟩) (q := withE p1 ⟨a82, xs1.length, c82⟩) (xs := xs1) (ys := xs1) ⟨rfl, hl81.1.mono hleg82, hl81.2⟩ ⟨rfl, hl82.1, hl82.2⟩ (by first | exact Nat.zero_le _ | (show (xs1).length ≤ 1000000; omega))) (Wt.yes rfl rfl rfl) rfl ?_
        rintro _ _ ⟨rfl, hA_⟩
        replace hA_ := hA_.symm; subst hA_
        refine RunL.nilD' ?_
        refine RunD.pure (i := 8) hok184 rfl (by kernel_rfl) (Pure.not rfl) (Wt.yes rfl rfl rfl) rfl rfl ?_
        refine RunD.pure (i := 9) hok184 rfl (by kernel_rfl) (Pure.pickF rfl rfl) (Wt.none rfl) rfl rfl ?_
        refine RunD.nilB (by kernel_rfl) (fun w sw => backgl1 _ _ (backgl2 _ _ (backg81 _ _ (backg82 _ _ (sw))))) ?_
        refine Run.cond rfl (fun hc2 => ?_) (fun hc2 => ?_)
        · try simp only [ZA, ZB, ZC, ZD, ZE, ZF, ZG, ZH, ZI, ZJ, ZK, ZL, ZM, ZN, ZO, ZP, ZQ, ZR] at hc2
          exfalso
          rw [prcSame_self (by rfl) (by rfl) (by rfl) (by rfl)] at hc2; simp at hc2
        try simp only [ZA, ZB, ZC, ZD, ZE, ZF, ZG, ZH, ZI, ZJ, ZK, ZL, ZM, ZN, ZO, ZP, ZQ, ZR] at hc2
        refine Run.skip ?_
        refine Run.inBlock ?_
        refine Run.region ?_
        refine RunL.mv rfl rfl ?_
        first | refine RunL.pure (Pure.addI rfl rfl (by omega)) (Wt.none rfl) rfl rfl ?_ | refine RunL.pure (Pure.add rfl rfl) (Wt.none rfl) rfl rfl ?_
        refine RunL.as rfl rfl ?_
        refine RunL.nil ?_
        refine Run.keep (.cons rfl (.cons rfl (.nil)) : Keep _ [13, 14] _) ?_
        refine Run.againF (F := F) ih (by exact ⟨i + 1, by omega, rfl, rfl, rfl⟩) (by repeat (first | (with_reducible exact Fin.done (by repeat (first | (with_reducible exact Rest.here) | apply Rest.there))) | (apply Fin.cons (by first | ((repeat (first | (with_reducible exact F0 _) | apply F1)); done) | (repeat (first | exact F0 _ | apply F1)))))) ?_
        omega
      · skip
        exfalso; rw [rdP_two, hp2] at hp1; cases hp1
    · skip
      replace hA_ := hA_.symm; subst hA_
      refine RunL.mv rfl rfl ?_
      refine RunL.pure (Pure.extract rfl rfl) (Wt.none rfl) rfl rfl ?_
      refine RunL.pure (Pure.extract rfl rfl) (Wt.none rfl) rfl rfl ?_
      refine RunL.alloc zz33 (Wt.none rfl) rfl ?_; intro b15
      refine RunL.storeW (xs := (cPrc zeroP)) rfl rfl (by first | ((repeat (first | (with_reducible exact F0 _) | apply F1)); done) | (repeat (first | exact F0 _ | apply F1))) sz33 (by rfl) (by rfl) (by rfl) (Wt.none rfl) ?_
      refine RunL.as rfl rfl ?_
      refine RunL.nil ?_
      refine Run.sr ?_
      refine RunL.mv rfl rfl ?_
      refine RunL.mv rfl rfl ?_
      refine RunL.pure (Pure.indexAddr rfl rfl und41 sz29 (by omega) (by omega)) (Wt.none rfl) rfl rfl ?_
      refine RunL.load1R rfl ht (elem1_at hx) agg29 (Wt.none rfl) rfl ?_
      refine RunL.call rfl rfl (by rfl) (by repeat (first | (with_reducible exact Take.nil _) | (apply Take.cons (by first | ((repeat (first | (with_reducible exact F0 _) | apply F1)); done) | (repeat (first | exact F0 _ | apply F1)))))) (rRead4_ctr (bs := x.2.1) x1 x2 x3) (Wt.none rfl) rfl ?_
      rintro _ _ q2
      rcases q2 with ⟨p2, xs2, a82, c82, hp2, rfl, hA_⟩ | ⟨hp2, rfl, hA_⟩
      · skip
        exfalso; rw [rdP_two, hp2] at hp1; cases hp1
      · skip
        replace hA_ := hA_.symm; subst hA_
        refine RunL.mv rfl rfl ?_
        refine RunL.pure (Pure.extract rfl rfl) (Wt.none rfl) rfl rfl ?_
        refine RunL.pure (Pure.extract rfl rfl) (Wt.none rfl) rfl rfl ?_
        refine RunL.alloc zz24 (Wt.none rfl) rfl ?_; intro b17
        refine RunL.storeW (xs := (cPrc zeroP)) rfl rfl (by first | ((repeat (first | (with_reducible exact F0 _) | apply F1)); done) | (repeat (first | exact F0 _ | apply F1))) sz24 (by rfl) (by rfl) (by rfl) (Wt.none rfl) ?_
        refine RunL.as rfl rfl ?_
        refine RunL.nil ?_
        refine Run.seq ?_
        refine Run.regionD' (by kernel_rfl) (by kernel_rfl) (fun hok293 => ?_)
        refine RunD.lend (Q := row b15 33 _) Lends.row (by first | ((repeat (first | (with_reducible exact F0 _) | apply F1)); done) | (repeat (first | exact F0 _ | apply F1))) ?_; intro gl3 hlegl3 hl3 backgl3
        have h_gl3 := h.mono hlegl3
        have hEa_gl3 := hEa.mono hlegl3
        have hrb5_gl3 := hrb5.mono hlegl3
        have ho_gl3 := ho.mono hlegl3
        have h1_gl3 := h1.mono hlegl3
        have h3_gl3 := h3.mono hlegl3
        have ht_gl3 := ht.mono hlegl3
        refine RunD.lend (Q := row b17 24 _) Lends.row (by first | ((repeat (first | (with_reducible exact F0 _) | apply F1)); done) | (repeat (first | exact F0 _ | apply F1))) ?_; intro gl4 hlegl4 hl4 backgl4
        have hl3 := hl3.mono hlegl4
        have h_gl4 := h_gl3.mono hlegl4
        have hEa_gl4 := hEa_gl3.mono hlegl4
        have hrb5_gl4 := hrb5_gl3.mono hlegl4
        have ho_gl4 := ho_gl3.mono hlegl4
        have h1_gl4 := h1_gl3.mono hlegl4
        have h3_gl4 := h3_gl3.mono hlegl4
        have ht_gl4 := ht_gl3.mono hlegl4
        refine RunD.pure (i := 0) hok293 rfl (by kernel_rfl) (Pure.move rfl) (Wt.none rfl) rfl rfl ?_
        refine RunD.pure (i := 1) hok293 rfl (by kernel_rfl) (Pure.move rfl) (Wt.none rfl) rfl rfl ?_
        refine RunD.pure (i := 2) hok293 rfl (by kernel_rfl) (Pure.neq rfl rfl) (Wt.none rfl) rfl rfl ?_
        refine RunD.pure (i := 3) hok293 rfl (by kernel_rfl) (Pure.move rfl) (Wt.none rfl) rfl rfl ?_
        refine RunD.split (d := 75) rfl (fun hg3 => ?_) (fun hg3 => ?_)
        · try simp only [ZA, ZB, ZC, ZD, ZE, ZF, ZG, ZH, ZI, ZJ, ZK, ZL, ZM, ZN, ZO, ZP, ZQ, ZR] at hg3
          exfalso
          first | exact hg3 trivial | exact hg3 rfl | (simp at hg3; done)
        try simp only [ZA, ZB, ZC, ZD, ZE, ZF, ZG, ZH, ZI, ZJ, ZK, ZL, ZM, ZN, ZO, ZP, ZQ, ZR] at hg3
        refine RunD.loadNR (vs := (cPrc zeroP)) (i := 4) hok293 rfl (by kernel_rfl) rfl (by assumption) agg33 sz33 (by first | exact Nat.le_of_ble_eq_true rfl | (simp; done) | (simp; omega)) rfl (Wt.yes rfl rfl rfl) rfl ?_
        refine RunD.loadNR (vs := (cPrc zeroP)) (i := 6) hok293 rfl (by kernel_rfl) rfl (by assumption) agg24 sz24 (by first | exact Nat.le_of_ble_eq_true rfl | (simp; done) | (simp; omega)) rfl (Wt.yes rfl rfl rfl) rfl ?_
        refine RunD.one (i := 5) (by kernel_rfl) rfl ?_
        refine RunL.call rfl rfl (by rfl) (by repeat (first | (with_reducible exact Take.nil _) | (apply Take.cons (by first | ((repeat (first | (with_reducible exact F0 _) | apply F1)); done) | (repeat (first | exact F0 _ | apply F1)))))) (as_ctr (p := zeroP)) (Wt.yes rfl rfl rfl) rfl ?_
        rintro _ _ ⟨rfl, hA_⟩
        replace hA_ := hA_.symm; subst hA_
        refine RunL.nilD' ?_
        refine RunD.one (i := 7) (by kernel_rfl) rfl ?_
        refine RunL.call rfl rfl (by rfl) (by repeat (first | (with_reducible exact Take.nil _) | (apply Take.cons (by first | ((repeat (first | (with_reducible exact F0 _) | apply F1)); done) | (repeat (first | exact F0 _ | apply F1)))))) (rSame4_ctr (p := zeroP) (q := zeroP) (xs := ([] : List Edu)) (ys := ([] : List Edu)) ⟨rfl, .inl ⟨rfl, rfl⟩, Nat.le_refl _⟩ ⟨rfl, .inl ⟨rfl, rfl⟩, Nat.le_refl _⟩ (by first | exact Nat.zero_le _ | (show (([] : List Edu)).length ≤ 1000000; omega))) (Wt.yes rfl rfl rfl) rfl ?_
        rintro _ _ ⟨rfl, hA_⟩
        replace hA_ := hA_.symm; subst hA_
        refine RunL.nilD' ?_
        refine RunD.pure (i := 8) hok293 rfl (by kernel_rfl) (Pure.not rfl) (Wt.yes rfl rfl rfl) rfl rfl ?_
        refine RunD.pure (i := 9) hok293 rfl (by kernel_rfl) (Pure.pickF rfl rfl) (Wt.none rfl) rfl rfl ?_
        refine RunD.nilB (by kernel_rfl) (fun w sw => backgl3 _ _ (backgl4 _ _ (sw))) ?_
        refine Run.cond rfl (fun hc4 => ?_) (fun hc4 => ?_)
        · try simp only [ZA, ZB, ZC, ZD, ZE, ZF, ZG, ZH, ZI, ZJ, ZK, ZL, ZM, ZN, ZO, ZP, ZQ, ZR] at hc4
          exfalso
          rw [prcSame_self rfl rfl rfl rfl] at hc4; simp at hc4
        try simp only [ZA, ZB, ZC, ZD, ZE, ZF, ZG, ZH, ZI, ZJ, ZK, ZL, ZM, ZN, ZO, ZP, ZQ, ZR] at hc4
        refine Run.skip ?_
        refine Run.inBlock ?_
        refine Run.region ?_
        refine RunL.mv rfl rfl ?_
        first | refine RunL.pure (Pure.addI rfl rfl (by omega)) (Wt.none rfl) rfl rfl ?_ | refine RunL.pure (Pure.add rfl rfl) (Wt.none rfl) rfl rfl ?_
        refine RunL.as rfl rfl ?_
        refine RunL.nil ?_
        refine Run.keep (.cons rfl (.cons rfl (.nil)) : Keep _ [13, 14] _) ?_
        refine Run.againF (F := F) ih (by exact ⟨i + 1, by omega, rfl, rfl, rfl⟩) (by repeat (first | (with_reducible exact Fin.done (by repeat (first | (with_reducible exact Rest.here) | apply Rest.there))) | (apply Fin.cons (by first | ((repeat (first | (with_reducible exact F0 _) | apply F1)); done) | (repeat (first | exact F0 _ | apply F1)))))) ?_
        omega
  · try simp only [ZA, ZB, ZC, ZD, ZE, ZF, ZG, ZH, ZI, ZJ, ZK, ZL, ZM, ZN, ZO, ZP, ZQ, ZR] at hi5
    refine Run.exit rfl ?_
    refine Run.sr ?_
    refine RunL.call rfl rfl (by rfl) (by repeat (first | (with_reducible exact Take.nil _) | (apply Take.cons (by first | ((repeat (first | (with_reducible exact F0 _) | apply F1)); done) | (repeat (first | exact F0 _ | apply F1)))))) (lives_ctr) (Wt.none rfl) rfl ?_
    rintro _ _ ⟨rfl, hA_⟩
    replace hA_ := hA_.symm; subst hA_
    refine RunL.as rfl rfl ?_
    refine RunL.nil ?_
    exact Run.ret Try.func5 (res1 rfl rfl) (by exact ⟨rfl, rfl⟩) (by repeat (first | (with_reducible exact Fin.done (by repeat (first | (with_reducible exact Rest.here) | apply Rest.there))) | (apply Fin.cons (by first | ((repeat (first | (with_reducible exact F0 _) | apply F1)); done) | (repeat (first | exact F0 _ | apply F1))))))

end Go.Proofs.Ytbgjfpaigndbmaa
