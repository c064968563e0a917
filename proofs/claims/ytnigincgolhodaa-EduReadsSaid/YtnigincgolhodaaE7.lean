/- What is read. -/
import Derived.Test.YtnigincgolhodaaE6
set_option linter.unusedVariables false
set_option linter.unusedSimpArgs false
set_option linter.unusedSectionVars false
namespace Go.Proofs.Ytnigincgolhodaa
open Go Csl
theorem und42 : Try.prog.underlying 42 = some (Go.TypeDesc.slice 28) := Try.underlying42
theorem zz28 : zeroIs Try.prog 28 = some (.slice none 0 0) := by kernel_rfl

namespace Csl
def fT (t : Option Addr × List UInt8 × Nat) : Value := .slice t.1 t.2.1.length t.2.2
def HTS (G : Gp) (ts : List (Option Addr × List UInt8 × Nat)) : Prop := ∀ t ∈ ts, SlR G 5 1 t.1 t.2.1.length (t.2.1.map bv) ∧ t.2.1.length ≤ 1000000 ∧ t.2.1.length ≤ t.2.2
theorem eduBytes_len2 {e : Edu} (hs : eduSmall e) (hn : NumsOk e) : (eduBytes e).length ≤ 5000 := by
  obtain ⟨s1, s2, s3, s4⟩ := hs
  obtain ⟨h1, h2, h3, h4, h5⟩ := hn
  have n1 := numN_le e.kind.toNat (by omega); have n2 := numN_le e.span.toNat (by omega); have n3 := numN_le e.state.toNat (by omega); have n4 := numN_le e.tick.toNat (by omega); have n5 := numN_le e.stamp.toNat (by omega)
  have t1 := txt_len s1; have t2 := txt_len s2; have t3 := txt_len s3; have t4 := txt_len s4
  unfold eduBytes eduTexts eduNums flg
  simp only [List.length_append, List.flatMap_cons, List.flatMap_nil, List.length_nil, List.length_cons]
  omega
theorem eduBytes_pos2 (e : Edu) : 0 < (eduBytes e).length := by unfold eduBytes flg; simp; omega
theorem HTS.mono {G G' : Gp} {ts : List (Option Addr × List UInt8 × Nat)} (h : HTS G ts) (hle : G.le G') : HTS G' ts := fun t ht => ⟨(h t ht).1.mono hle, (h t ht).2⟩
end Csl

set_option maxHeartbeats 4000000 in
set_option maxRecDepth 100000 in
theorem lives_ctr {G : Gp} :
    Ctr Try.prog G 18 [] [] (fun F v A => v = .bool true ∧ A = F) := by
  refine Ctr.intro Try.func18 rfl (by kernel_rfl) rfl (fun F => ?_)
  simp only [List.nil_append]
  refine Run.sr ?_
  refine RunL.as rfl rfl ?_
  refine RunL.nil ?_
  refine Run.sr ?_
  refine RunL.pure (Pure.buildL (ps := [(0, _), (1, _), (2, _), (6, _), (7, _), (10, _)]) (zs := [(.int .i64 0), (.string .empty), (.string .empty), (.string .empty), (.string .empty), (.bool false), (.bool false), (.int .i64 0), (.int .i64 0), (.int .i64 0), (.int .i64 0)]) (xs := (cEdu ((⟨2, ⟨#[33, 114, 58, 115]⟩, ⟨#[64, 97, 58, 115]⟩, .empty, .empty, false, true, 5, 0, 0, 1⟩ : Edu)))) pl23 rfl rfl rfl rfl) (Wt.none rfl) rfl rfl ?_
  refine RunL.call rfl rfl (by rfl) (by repeat (first | (with_reducible exact Take.nil _) | (apply Take.cons (by first | ((repeat (first | (with_reducible exact Find.here _) | apply Find.there)); done) | (repeat (first | exact Find.here _ | apply Find.there)))))) (WriteT_ctr (e := (⟨2, ⟨#[33, 114, 58, 115]⟩, ⟨#[64, 97, 58, 115]⟩, .empty, .empty, false, true, 5, 0, 0, 1⟩ : Edu)) ⟨by decide, by decide, by decide, by decide⟩ ⟨by decide, by decide, by decide, by decide, by decide, by decide, by decide, by decide, by decide⟩ (by decide +kernel)) (Wt.none rfl) rfl ?_
  rintro _ _ ⟨a2, c2, rfl, hA_⟩
  replace hA_ := hA_.symm; subst hA_
  refine RunL.mv rfl rfl ?_
  refine RunL.pure (Pure.extract rfl rfl) (Wt.none rfl) rfl rfl ?_
  refine RunL.pure (Pure.extract rfl rfl) (Wt.none rfl) rfl rfl ?_
  refine RunL.as rfl rfl ?_
  refine RunL.as rfl rfl ?_
  refine RunL.nil ?_
  refine Run.sr ?_
  refine RunL.mv rfl rfl ?_
  refine RunL.pure (Pure.eql rfl rfl) (Wt.none rfl) rfl rfl ?_
  refine RunL.mv rfl rfl ?_
  refine RunL.split (d := 10) rfl (fun hg1 => ?_) (fun hg1 => ?_)
  rotate_left
  · try simp only [decide_eq_true_eq, decide_eq_false_iff_not, beq_iff_eq, beq_eq_false_iff_ne, bne_iff_ne, ne_eq, Bool.not_eq_true', Bool.not_eq_false', Bool.not_eq_true, Bool.not_eq_false, Int.not_lt, Int.not_le, Decidable.not_not, bne_eq_false_iff_eq, gt_iff_lt, ge_iff_le, Bool.or_eq_true, Bool.and_eq_true] at hg1
    exfalso
    first | (simp_all; done) | (simp_all; omega) | omega | grind
  try simp only [decide_eq_true_eq, decide_eq_false_iff_not, beq_iff_eq, beq_eq_false_iff_ne, bne_iff_ne, ne_eq, Bool.not_eq_true', Bool.not_eq_false', Bool.not_eq_true, Bool.not_eq_false, Int.not_lt, Int.not_le, Decidable.not_not, bne_eq_false_iff_eq, gt_iff_lt, ge_iff_le, Bool.or_eq_true, Bool.and_eq_true] at hg1
  refine RunL.pure (Pure.move rfl) (Wt.yes rfl rfl rfl) rfl rfl ?_
  refine RunL.bytesStr (bs := eduBytes (⟨2, ⟨#[33, 114, 58, 115]⟩, ⟨#[64, 97, 58, 115]⟩, .empty, .empty, false, true, 5, 0, 0, 1⟩ : Edu)) rfl und28 und5 und9 (fun w sw => (sw.find (p := Sl 5 1 a2 _ c2 _) (by first | ((repeat (first | (with_reducible exact Find.here _) | apply Find.there)); done) | (repeat (first | exact Find.here _ | apply Find.there)))).src) (Wt.yes rfl rfl rfl) rfl ?_
  refine RunL.pure (Pure.seql rfl rfl) (Wt.yes rfl rfl rfl) rfl rfl ?_
  refine RunL.pure (Pure.pickT rfl rfl) (Wt.none rfl) rfl rfl ?_
  refine RunL.as rfl rfl ?_
  refine RunL.nil ?_
  exact Run.ret Try.func18 (res1 rfl rfl) (by exact ⟨congrArg Value.bool (by decide +kernel), rfl⟩) (by repeat (first | (with_reducible exact Fin.done (by repeat (first | (with_reducible exact Rest.here) | apply Rest.there))) | (apply Fin.cons (by first | ((repeat (first | (with_reducible exact Find.here _) | apply Find.there)); done) | (repeat (first | exact Find.here _ | apply Find.there))))))

set_option maxHeartbeats 4000000 in
set_option maxRecDepth 100000 in
theorem EduReads_ctr {G : Gp} {a : Option Addr} {bs : List UInt8} {cap : Nat} {e : Edu} {z c : Int} (h : SlR G 5 1 a bs.length (bs.map bv)) (hc : bs.length ≤ cap) (oe : okEdu e) (hz : -9223372036854775808 ≤ z ∧ z ≤ 9223372036854775807) (hcr : 0 ≤ c ∧ c ≤ 255) :
    Ctr Try.prog G 7 [.slice a bs.length cap, .agg (cEdu e).toArray, .int .i64 z, .int .u8 c] [] (fun F v A => v = .bool true ∧ A = F) := by
  refine Ctr.intro Try.func7 rfl (by kernel_rfl) rfl (fun F => ?_)
  simp only [List.nil_append]
  have hspubEe : eduSmall (pubE e) := pub_small e
  have hopubEe : okEdu (pubE e) := pub_ok e
  have hpos := eduBytes_pos2 (pubE e)
  have hlb := eduBytes_len2 (pub_small e) (pub_nums e)
  obtain ⟨c8, hc8⟩ : ∃ x : UInt8, c = (x.toNat : Nat) := ⟨UInt8.ofNat c.toNat, by rw [UInt8.toNat_ofNat_of_lt' (by simp [UInt8.size]; omega)]; omega⟩
  subst hc8
  obtain ⟨ow, how⟩ : ∃ l, l = eduBytes (pubE e) := ⟨_, rfl⟩
  rw [← how] at hpos hlb
  refine Run.sr ?_
  refine RunL.boxA (xs := (cEdu e)) rfl (Wt.none rfl) rfl ?_; intro b5
  refine RunL.as rfl rfl ?_
  refine RunL.nil ?_
  refine Run.lendAll (Q := row b5 23 _) Lends.row (by first | ((repeat (first | (with_reducible exact Find.here _) | apply Find.there)); done) | (repeat (first | exact Find.here _ | apply Find.there))) (fun G5 hleG5 hrb5 => ?_)
  replace h := h.mono hleG5
  refine Run.sr ?_
  first | refine RunL.loadA (vs := (cEdu e)) rfl (by first | ((repeat (first | (with_reducible exact Find.here _) | apply Find.there)); done) | (repeat (first | exact Find.here _ | apply Find.there))) agg23 sz23 (by first | exact Nat.le_of_ble_eq_true rfl | (simp; done) | (simp; omega)) rfl (Wt.none rfl) rfl ?_ | refine RunL.loadNR (vs := (cEdu e)) rfl (by assumption) agg23 sz23 (by first | exact Nat.le_of_ble_eq_true rfl | (simp; done) | (simp; omega)) rfl (Wt.none rfl) rfl ?_
  refine RunL.call rfl rfl (by rfl) (by repeat (first | (with_reducible exact Take.nil _) | (apply Take.cons (by first | ((repeat (first | (with_reducible exact Find.here _) | apply Find.there)); done) | (repeat (first | exact Find.here _ | apply Find.there)))))) (Public3_ctr (e := e) (by assumption)) (Wt.none rfl) rfl ?_
  rintro _ _ ⟨rfl, hA_⟩
  replace hA_ := hA_.symm; subst hA_
  refine RunL.call rfl rfl (by rfl) (by repeat (first | (with_reducible exact Take.nil _) | (apply Take.cons (by first | ((repeat (first | (with_reducible exact Find.here _) | apply Find.there)); done) | (repeat (first | exact Find.here _ | apply Find.there)))))) (rBytes_ctr (by assumption) (by assumption)) (Wt.none rfl) rfl ?_
  rintro _ _ ⟨ab, cb, rfl, hA_⟩
  replace hA_ := hA_.symm; subst hA_
  refine RunL.as rfl rfl ?_
  refine RunL.nil ?_
  rw [← how]
  refine Run.sr ?_
  refine RunL.mv rfl rfl ?_
  refine RunL.mv rfl rfl ?_
  refine RunL.pure (Pure.lenSl rfl rfl und28) (Wt.none rfl) rfl rfl ?_
  refine RunL.call rfl rfl (by rfl) (by repeat (first | (with_reducible exact Take.nil _) | (apply Take.cons (by first | ((repeat (first | (with_reducible exact Find.here _) | apply Find.there)); done) | (repeat (first | exact Find.here _ | apply Find.there)))))) (Around_ctr (m := (ow.length : Nat)) hz (by omega)) (Wt.none rfl) rfl ?_
  rintro _ _ ⟨rfl, hA_⟩
  replace hA_ := hA_.symm; subst hA_
  have hk := around_lt (z := z) (m := (ow.length : Nat)) (by omega)
  obtain ⟨k, hkk⟩ : ∃ k : Nat, around z (ow.length : Nat) = k := ⟨(around z (ow.length : Nat)).toNat, by omega⟩
  rw [hkk] at hk ⊢
  refine RunL.as rfl rfl ?_
  refine RunL.nil ?_
  refine Run.sr ?_
  refine RunL.as rfl rfl ?_
  refine RunL.nil ?_
  refine Run.sr ?_
  refine RunL.mv rfl rfl ?_
  refine RunL.mv rfl rfl ?_
  refine RunL.append0 rfl rfl rfl rfl und28 und28 rfl sz5 zz5 rfl by5 (by omega) (by omega) (fun w sw => (sw.find (p := Sl 5 1 ab _ cb _) (by first | ((repeat (first | (with_reducible exact Find.here _) | apply Find.there)); done) | (repeat (first | exact Find.here _ | apply Find.there)))).src) (Wt.none rfl) rfl ?_; intro a1 c1
  refine RunL.as rfl rfl ?_
  refine RunL.nil ?_
  refine Run.openSl (n := ow.length) (by first | ((repeat (first | (with_reducible exact Find.here _) | apply Find.there)); done) | (repeat (first | exact Find.here _ | apply Find.there))) (by omega) ?_; rintro b pre post rfl hsl1 hsl2 hsl3
  refine Run.sr ?_
  refine RunL.mv rfl rfl ?_
  refine RunL.mv rfl rfl ?_
  refine RunL.mv rfl rfl ?_
  refine RunL.pure (Pure.indexAddr rfl rfl und28 sz5 (by omega) (by omega)) (Wt.none rfl) rfl rfl ?_
  refine RunL.store1 rfl rfl (by first | ((repeat (first | (with_reducible exact Find.here _) | apply Find.there)); done) | (repeat (first | exact Find.here _ | apply Find.there))) sz5 (by rfl) (by first | (simp; done) | (simp; omega)) (Wt.none rfl) ?_
  try simp only [List.set_cons_zero, List.set_cons_succ]
  refine RunL.asRow (pre ++ (ow.set k c8).map bv ++ post) (by first | ((repeat (first | (with_reducible exact Find.here _) | apply Find.there)); done) | (repeat (first | exact Find.here _ | apply Find.there))) (by rw [set_cell (x := c8) (by simp; omega) rfl, Int.toNat_natCast]) ?_
  refine RunL.mkSl (n := ow.length) (cs := (ow.set k c8).map bv) (by first | ((repeat (first | (with_reducible exact Find.here _) | apply Find.there)); done) | (repeat (first | exact Find.here _ | apply Find.there))) (by simp) hsl2 hsl3 ?_
  obtain ⟨a1, ha1⟩ : ∃ x : Option Addr, x = some ⟨b, pre.length, none⟩ := ⟨_, rfl⟩
  rw [← ha1]
  refine RunL.nil ?_
  refine Run.sr ?_
  refine RunL.as rfl rfl ?_
  refine RunL.nil ?_
  refine Run.sr ?_
  refine RunL.mv rfl rfl ?_
  refine RunL.mv rfl rfl ?_
  refine RunL.append0 rfl rfl rfl rfl und28 und28 rfl sz5 zz5 rfl by5 (by omega) (by omega) (fun w sw => (sw.find (p := Sl 5 1 ab _ cb _) (by first | ((repeat (first | (with_reducible exact Find.here _) | apply Find.there)); done) | (repeat (first | exact Find.here _ | apply Find.there)))).src) (Wt.none rfl) rfl ?_; intro a2 c2
  refine RunL.as rfl rfl ?_
  refine RunL.nil ?_
  refine Run.sr ?_
  refine RunL.mv rfl rfl ?_
  refine RunL.mv rfl rfl ?_
  refine RunL.lit (vals := [_]) (vs := [_]) und28 sz5 zz5 rfl rfl rfl rfl rfl rfl (by simp [Value.cells, bv, cEdu, cKey]) rfl (Wt.none rfl) rfl ?_; intro b38
  refine RunL.append (n' := (ow ++ [c8]).length) (cs' := ((ow ++ [c8]).map bv)) rfl rfl (by first | ((repeat (first | (with_reducible exact Find.here _) | apply Find.there)); done) | (repeat (first | exact Find.here _ | apply Find.there))) rfl rfl und28 und28 rfl sz5 zz5 rfl by5 (by omega) (by omega) (fun w sw => sw.src) (by simp [Value.isOne]) (by simp) (by simp [bv]) (Wt.none rfl) rfl ?_; intro a3 c3
  refine RunL.as rfl rfl ?_
  refine RunL.nil ?_
  refine Run.lendAll (Q := Sl 5 1 ab ow.length cb (ow.map bv)) Lends.Sl (by first | ((repeat (first | (with_reducible exact Find.here _) | apply Find.there)); done) | (repeat (first | exact Find.here _ | apply Find.there))) (fun Gho hleGho ho => ?_)
  replace h := h.mono hleGho
  replace hrb5 := hrb5.mono hleGho
  obtain ⟨ho, hoc⟩ := ho
  refine Run.lendAll (Q := Sl 5 1 a1 ow.length c1 ((ow.set k c8).map bv)) Lends.Sl (by first | ((repeat (first | (with_reducible exact Find.here _) | apply Find.there)); done) | (repeat (first | exact Find.here _ | apply Find.there))) (fun Gh1 hleGh1 h1 => ?_)
  replace h := h.mono hleGh1
  replace hrb5 := hrb5.mono hleGh1
  replace ho := ho.mono hleGh1
  obtain ⟨h1, h1c⟩ := h1
  refine Run.lendAll (Q := Sl 5 1 a3 (ow ++ [c8]).length c3 ((ow ++ [c8]).map bv)) Lends.Sl (by first | ((repeat (first | (with_reducible exact Find.here _) | apply Find.there)); done) | (repeat (first | exact Find.here _ | apply Find.there))) (fun Gh3 hleGh3 h3 => ?_)
  replace h := h.mono hleGh3
  replace hrb5 := hrb5.mono hleGh3
  replace ho := ho.mono hleGh3
  replace h1 := h1.mono hleGh3
  obtain ⟨h3, h3c⟩ := h3
  refine Run.seq ?_
  refine Run.regionD' (by kernel_rfl) (by kernel_rfl) (fun hok83 => ?_)
  refine RunD.pure (i := 0) hok83 rfl (by kernel_rfl) (Pure.move rfl) (Wt.none rfl) rfl rfl ?_
  refine RunD.pure (i := 1) hok83 rfl (by kernel_rfl) (Pure.move rfl) (Wt.none rfl) rfl rfl ?_
  refine RunD.pure (i := 2) hok83 rfl (by kernel_rfl) (Pure.lenSl rfl rfl und28) (Wt.none rfl) rfl rfl ?_
  refine RunD.pure (i := 3) hok83 rfl (by kernel_rfl) (Pure.min2 rfl rfl) (Wt.none rfl) rfl rfl ?_
  refine RunD.pure (i := 4) hok83 rfl (by kernel_rfl) (Pure.sliceTo rfl rfl und28 sz5 (by first | omega | (simp; done) | (simp; omega)) (by first | omega | (simp; done) | (simp; omega))) (Wt.none rfl) rfl rfl ?_
  refine RunD.pure (i := 5) hok83 rfl (by kernel_rfl) (Pure.move rfl) (Wt.none rfl) rfl rfl ?_
  refine RunD.pure (i := 6) hok83 rfl (by kernel_rfl) (Pure.move rfl) (Wt.none rfl) rfl rfl ?_
  refine RunD.pure (i := 7) hok83 rfl (by kernel_rfl) (Pure.move rfl) (Wt.none rfl) rfl rfl ?_
  refine RunD.pure (i := 8) hok83 rfl (by kernel_rfl) (Pure.move rfl) (Wt.none rfl) rfl rfl ?_
  refine RunD.pure (i := 9) hok83 rfl (by kernel_rfl) (Pure.sliceTo rfl rfl und28 sz5 (by first | omega | (simp; done) | (simp; omega)) (by first | omega | (simp; done) | (simp; omega))) (Wt.none rfl) rfl rfl ?_
  refine RunD.pure (i := 10) hok83 rfl (by kernel_rfl) (Pure.move rfl) (Wt.none rfl) rfl rfl ?_
  refine RunD.one (i := 11) (by kernel_rfl) rfl ?_
  refine RunL.lit (vals := [_, _, _, _, _]) (vs := [_, _, _, _, _]) und42 sz28 zz28 rfl rfl rfl rfl rfl rfl (by simp [Value.cells, bv, cEdu, cKey]) rfl (Wt.none rfl) rfl ?_; intro b51
  refine RunL.nilD' ?_
  refine RunD.pure (i := 12) hok83 rfl (by kernel_rfl) (Pure.assign rfl) (Wt.none rfl) rfl rfl ?_
  refine RunD.nilR (by kernel_rfl) ?_
  refine Run.lendAll (Q := Sl 28 1 (some ⟨b51, 0, none⟩) 5 5 _) (Lends.litRow (n := 5)) (by first | ((repeat (first | (with_reducible exact Find.here _) | apply Find.there)); done) | (repeat (first | exact Find.here _ | apply Find.there))) (fun Ght0 hleGht0 ht0 => ?_)
  replace h := h.mono hleGht0
  replace hrb5 := hrb5.mono hleGht0
  replace ho := ho.mono hleGht0
  replace h1 := h1.mono hleGht0
  replace h3 := h3.mono hleGht0
  obtain ⟨postt, ht⟩ := ht0
  obtain ⟨ts, hte, htn, hts⟩ : ∃ ts : List (Option Addr × List UInt8 × Nat), ([(a, bs.take 60, cap), (ab, ow, cb), (a1, ow.set k c8, c1), (ab, ow.take k, cb), (a3, ow ++ [c8], c3)] : List (Option Addr × List UInt8 × Nat)).map fT = ts.map fT ∧ ts.length = 5 ∧ HTS Ght0 ts := ⟨_, rfl, rfl, by
    intro q hq
    simp only [List.mem_cons, List.not_mem_nil, or_false] at hq
    rcases hq with rfl | rfl | rfl | rfl | rfl
    · exact ⟨h.toB 60, by simp only [List.length_take]; omega, by simp only [List.length_take]; omega⟩
    · exact ⟨ho, by simp only; omega, by simp only; omega⟩
    · exact ⟨by simpa using h1, by simp only [List.length_set]; omega, by simp only [List.length_set]; omega⟩
    · exact ⟨ho.toB k, by simp only [List.length_take]; omega, by simp only [List.length_take]; omega⟩
    · exact ⟨h3, by simp only [List.length_append, List.length_cons, List.length_nil]; omega, h3c⟩⟩
  have e5 : ([(a, bs.take 60, cap), (ab, ow, cb), (a1, ow.set k c8, c1), (ab, ow.take k, cb), (a3, ow ++ [c8], c3)] : List (Option Addr × List UInt8 × Nat)).map fT = [Value.slice a (min (↑bs.length) 60 : Int).toNat cap, .slice ab ow.length cb, .slice a1 ow.length c1, .slice ab ((k : Nat) : Int).toNat cb, .slice a3 (ow ++ [c8]).length c3] := by simp only [fT, List.map_cons, List.map_nil, List.length_take, List.length_set, Int.toNat_natCast]; rw [show (min (↑bs.length) 60 : Int).toNat = min 60 bs.length from by omega, show min k ow.length = k from by omega]
  rw [← e5, hte] at ht
  refine Run.seq ?_
  refine Run.sr ?_
  refine RunL.as rfl rfl ?_
  refine RunL.nil ?_
  refine Run.block ?_
  refine Run.keep (.cons rfl (.cons rfl (.nil)) : Keep _ [13, 14] _) ?_
  refine Run.loopF (F := F) (fun n e A => ∃ i : Nat, i ≤ 5 ∧ n = 5 - i ∧ e = [(13, .slice (some ⟨b51, 0, none⟩) 5 5), (14, .int .i64 (i : Nat))] ∧ A = F) (5) (by exact ⟨0, by omega, rfl, rfl, rfl⟩) (by repeat (first | (with_reducible exact Fin.done (by repeat (first | (with_reducible exact Rest.here) | apply Rest.there))) | (apply Fin.cons (by first | ((repeat (first | (with_reducible exact Find.here _) | apply Find.there)); done) | (repeat (first | exact Find.here _ | apply Find.there)))))) ?_
  rintro n _ _ ⟨i, hi, rfl, rfl, hA_⟩ ih
  replace hA_ := hA_.symm; subst hA_
  refine Run.seq ?_
  refine Run.sr ?_
  refine RunL.mv rfl rfl ?_
  refine RunL.pure (Pure.lss rfl rfl) (Wt.none rfl) rfl rfl ?_
  refine RunL.nil ?_
  refine Run.cond rfl (fun hi5 => ?_) (fun hi5 => ?_)
  · try simp only [decide_eq_true_eq, decide_eq_false_iff_not, beq_iff_eq, beq_eq_false_iff_ne, bne_iff_ne, ne_eq, Bool.not_eq_true', Bool.not_eq_false', Bool.not_eq_true, Bool.not_eq_false, Int.not_lt, Int.not_le, Decidable.not_not, bne_eq_false_iff_eq, gt_iff_lt, ge_iff_le, Bool.or_eq_true, Bool.and_eq_true] at hi5
    obtain ⟨x, hx⟩ := get_some (xs := ts) (i := i) (by omega)
    obtain ⟨x1, x2, x3⟩ := hts x (List.mem_of_getElem? hx)
    refine Run.skip ?_
    refine Run.seq ?_
    refine Run.block ?_
    refine Run.sr ?_
    refine RunL.mv rfl rfl ?_
    refine RunL.mv rfl rfl ?_
    refine RunL.pure (Pure.indexAddr rfl rfl und42 sz28 (by omega) (by omega)) (Wt.none rfl) rfl rfl ?_
    refine RunL.load1R rfl ht (elem1_at hx) agg28 (Wt.none rfl) rfl ?_
    refine RunL.call rfl rfl (by rfl) (by repeat (first | (with_reducible exact Take.nil _) | (apply Take.cons (by first | ((repeat (first | (with_reducible exact Find.here _) | apply Find.there)); done) | (repeat (first | exact Find.here _ | apply Find.there)))))) (Read3_ctr (bs := x.2.1) x1 x2 x3) (Wt.none rfl) rfl ?_
    rintro _ _ ⟨rfl, hA_⟩
    replace hA_ := hA_.symm; subst hA_
    rw [rdE_two]
    refine RunL.mv rfl rfl ?_
    refine RunL.pure (Pure.extract rfl rfl) (Wt.none rfl) rfl rfl ?_
    refine RunL.pure (Pure.extract rfl rfl) (Wt.none rfl) rfl rfl ?_
    refine RunL.alloc zz23 (Wt.none rfl) rfl ?_; intro b15
    refine RunL.storeW (xs := (cEdu ((finE (rdE 1000 x.2.1)).1))) rfl rfl (by first | ((repeat (first | (with_reducible exact Find.here _) | apply Find.there)); done) | (repeat (first | exact Find.here _ | apply Find.there))) sz23 (by rfl) (by rfl) (by rfl) (Wt.none rfl) ?_
    refine RunL.as rfl rfl ?_
    refine RunL.nil ?_
    refine Run.sr ?_
    refine RunL.mv rfl rfl ?_
    refine RunL.mv rfl rfl ?_
    refine RunL.pure (Pure.indexAddr rfl rfl und42 sz28 (by omega) (by omega)) (Wt.none rfl) rfl rfl ?_
    refine RunL.load1R rfl ht (elem1_at hx) agg28 (Wt.none rfl) rfl ?_
    refine RunL.call rfl rfl (by rfl) (by repeat (first | (with_reducible exact Take.nil _) | (apply Take.cons (by first | ((repeat (first | (with_reducible exact Find.here _) | apply Find.there)); done) | (repeat (first | exact Find.here _ | apply Find.there)))))) (rRead3_ctr (bs := x.2.1) x1 x2 x3) (Wt.none rfl) rfl ?_
    rintro _ _ ⟨rfl, hA_⟩
    replace hA_ := hA_.symm; subst hA_
    refine RunL.mv rfl rfl ?_
    refine RunL.pure (Pure.extract rfl rfl) (Wt.none rfl) rfl rfl ?_
    refine RunL.pure (Pure.extract rfl rfl) (Wt.none rfl) rfl rfl ?_
    refine RunL.alloc zz23 (Wt.none rfl) rfl ?_; intro b17
    refine RunL.storeW (xs := (cEdu ((finE (rdE 1000 x.2.1)).1))) rfl rfl (by first | ((repeat (first | (with_reducible exact Find.here _) | apply Find.there)); done) | (repeat (first | exact Find.here _ | apply Find.there))) sz23 (by rfl) (by rfl) (by rfl) (Wt.none rfl) ?_
    refine RunL.as rfl rfl ?_
    refine RunL.nil ?_
    refine Run.sr ?_
    refine RunL.mv rfl rfl ?_
    refine RunL.mv rfl rfl ?_
    refine RunL.pure (Pure.neq rfl rfl) (Wt.none rfl) rfl rfl ?_
    refine RunL.mv rfl rfl ?_
    refine RunL.split (d := 75) rfl (fun hg1 => ?_) (fun hg1 => ?_)
    · try simp only [decide_eq_true_eq, decide_eq_false_iff_not, beq_iff_eq, beq_eq_false_iff_ne, bne_iff_ne, ne_eq, Bool.not_eq_true', Bool.not_eq_false', Bool.not_eq_true, Bool.not_eq_false, Int.not_lt, Int.not_le, Decidable.not_not, bne_eq_false_iff_eq, gt_iff_lt, ge_iff_le, Bool.or_eq_true, Bool.and_eq_true] at hg1
      exfalso
      first | exact hg1 trivial | exact hg1 rfl | (simp at hg1; done)
    try simp only [decide_eq_true_eq, decide_eq_false_iff_not, beq_iff_eq, beq_eq_false_iff_ne, bne_iff_ne, ne_eq, Bool.not_eq_true', Bool.not_eq_false', Bool.not_eq_true, Bool.not_eq_false, Int.not_lt, Int.not_le, Decidable.not_not, bne_eq_false_iff_eq, gt_iff_lt, ge_iff_le, Bool.or_eq_true, Bool.and_eq_true] at hg1
    first | refine RunL.loadA (vs := (cEdu ((finE (rdE 1000 x.2.1)).1))) rfl (by first | ((repeat (first | (with_reducible exact Find.here _) | apply Find.there)); done) | (repeat (first | exact Find.here _ | apply Find.there))) agg23 sz23 (by first | exact Nat.le_of_ble_eq_true rfl | (simp; done) | (simp; omega)) rfl (Wt.yes rfl rfl rfl) rfl ?_ | refine RunL.loadNR (vs := (cEdu ((finE (rdE 1000 x.2.1)).1))) rfl (by assumption) agg23 sz23 (by first | exact Nat.le_of_ble_eq_true rfl | (simp; done) | (simp; omega)) rfl (Wt.yes rfl rfl rfl) rfl ?_
    first | refine RunL.loadA (vs := (cEdu ((finE (rdE 1000 x.2.1)).1))) rfl (by first | ((repeat (first | (with_reducible exact Find.here _) | apply Find.there)); done) | (repeat (first | exact Find.here _ | apply Find.there))) agg23 sz23 (by first | exact Nat.le_of_ble_eq_true rfl | (simp; done) | (simp; omega)) rfl (Wt.yes rfl rfl rfl) rfl ?_ | refine RunL.loadNR (vs := (cEdu ((finE (rdE 1000 x.2.1)).1))) rfl (by assumption) agg23 sz23 (by first | exact Nat.le_of_ble_eq_true rfl | (simp; done) | (simp; omega)) rfl (Wt.yes rfl rfl rfl) rfl ?_
    refine RunL.pure (Pure.aneq rfl rfl eqg23 (eqv23 ((finE (rdE 1000 x.2.1)).1) ((finE (rdE 1000 x.2.1)).1)) (by decide)) (Wt.yes rfl rfl rfl) rfl rfl ?_
    refine RunL.pure (Pure.pickF rfl rfl) (Wt.none rfl) rfl rfl ?_
    refine RunL.nil ?_
    refine Run.cond rfl (fun hc2 => ?_) (fun hc2 => ?_)
    · try simp only [decide_eq_true_eq, decide_eq_false_iff_not, beq_iff_eq, beq_eq_false_iff_ne, bne_iff_ne, ne_eq, Bool.not_eq_true', Bool.not_eq_false', Bool.not_eq_true, Bool.not_eq_false, Int.not_lt, Int.not_le, Decidable.not_not, bne_eq_false_iff_eq, gt_iff_lt, ge_iff_le, Bool.or_eq_true, Bool.and_eq_true] at hc2
      exfalso
      first | exact hc2 trivial | exact hc2 rfl | (simp at hc2; done)
    try simp only [decide_eq_true_eq, decide_eq_false_iff_not, beq_iff_eq, beq_eq_false_iff_ne, bne_iff_ne, ne_eq, Bool.not_eq_true', Bool.not_eq_false', Bool.not_eq_true, Bool.not_eq_false, Int.not_lt, Int.not_le, Decidable.not_not, bne_eq_false_iff_eq, gt_iff_lt, ge_iff_le, Bool.or_eq_true, Bool.and_eq_true] at hc2
    refine Run.skip ?_
    refine Run.inBlock ?_
    refine Run.region ?_
    refine RunL.mv rfl rfl ?_
    first | refine RunL.pure (Pure.addI rfl rfl (by omega)) (Wt.none rfl) rfl rfl ?_ | refine RunL.pure (Pure.add rfl rfl) (Wt.none rfl) rfl rfl ?_
    refine RunL.as rfl rfl ?_
    refine RunL.nil ?_
    refine Run.keep (.cons rfl (.cons rfl (.nil)) : Keep _ [13, 14] _) ?_
    refine Run.againF (F := F) ih (by exact ⟨i + 1, by omega, rfl, rfl, rfl⟩) (by repeat (first | (with_reducible exact Fin.done (by repeat (first | (with_reducible exact Rest.here) | apply Rest.there))) | (apply Fin.cons (by first | ((repeat (first | (with_reducible exact Find.here _) | apply Find.there)); done) | (repeat (first | exact Find.here _ | apply Find.there)))))) ?_
    omega
  · try simp only [decide_eq_true_eq, decide_eq_false_iff_not, beq_iff_eq, beq_eq_false_iff_ne, bne_iff_ne, ne_eq, Bool.not_eq_true', Bool.not_eq_false', Bool.not_eq_true, Bool.not_eq_false, Int.not_lt, Int.not_le, Decidable.not_not, bne_eq_false_iff_eq, gt_iff_lt, ge_iff_le, Bool.or_eq_true, Bool.and_eq_true] at hi5
    refine Run.exit rfl ?_
    refine Run.sr ?_
    refine RunL.call rfl rfl (by rfl) (by repeat (first | (with_reducible exact Take.nil _) | (apply Take.cons (by first | ((repeat (first | (with_reducible exact Find.here _) | apply Find.there)); done) | (repeat (first | exact Find.here _ | apply Find.there)))))) (lives_ctr) (Wt.none rfl) rfl ?_
    rintro _ _ ⟨rfl, hA_⟩
    replace hA_ := hA_.symm; subst hA_
    refine RunL.as rfl rfl ?_
    refine RunL.nil ?_
    exact Run.ret Try.func7 (res1 rfl rfl) (by exact ⟨rfl, rfl⟩) (by repeat (first | (with_reducible exact Fin.done (by repeat (first | (with_reducible exact Rest.here) | apply Rest.there))) | (apply Fin.cons (by first | ((repeat (first | (with_reducible exact Find.here _) | apply Find.there)); done) | (repeat (first | exact Find.here _ | apply Find.there))))))

end Go.Proofs.Ytnigincgolhodaa
