/- Names. -/
import Derived.Test.YtaaondbmkibkkaaGreatE1
set_option linter.unusedVariables false
set_option linter.unusedSimpArgs false
set_option linter.unusedSectionVars false
namespace Go.Proofs.YtaaondbmkibkkaaGreat
open Go Csl
theorem und205 : Tryz.prog.underlying 205 = some (Go.TypeDesc.array 3 144) := Tryz.underlying205
theorem sz144 : sizeIs Tryz.prog 144 = some 1 := by kernel_rfl
theorem zz205 : zeroIs Tryz.prog 205 = some (.agg #[.nilFunc, .nilFunc, .nilFunc]) := by kernel_rfl
theorem agg144 : isAggOf Tryz.prog 144 = some false := by kernel_rfl

set_option maxRecDepth 100000 in
theorem small_ctr {G : Gp} {c : UInt8} :
    Ctr Tryz.prog G 145 [.int .u8 (c.toNat : Nat)] [] (fun F v A => v = .bool (lowB c) ∧ A = F) := by
  refine Ctr.intro Tryz.func145 rfl (by kernel_rfl) rfl (fun F => ?_)
  simp only [List.nil_append]
  refine sr' (as' rfl (nl' (sr' (mv' rfl (pp' (Pure.geq rfl rfl) (mv' rfl ?_))))))
  refine RunL.split (d := 5) rfl (fun h1 => ?_) (fun h1 => ?_)
  · try simp only [Z] at h1
    refine py' (Pure.move rfl) (py' (Pure.leq rfl rfl) (pp' (Pure.pickT rfl rfl) (mv' rfl ?_)))
    refine RunL.split (d := 9) rfl (fun h2 => ?_) (fun h2 => ?_)
    · try simp only [Z] at h2
      refine no' (no' (no' (un' (un' (no' (pp' (Pure.pickT rfl rfl) (as' rfl (nl' ?_))))))))
      exact rt' Tryz.func145 (res1 rfl rfl) (by exact ⟨by congr 1; rw [Bool.eq_iff_iff]; simp [lowB]; omega, rfl⟩)
    · try simp only [Z] at h2
      refine py' (Pure.move rfl) (py' (Pure.geq rfl rfl) (py' (Pure.move rfl) ?_))
      refine RunL.split (d := 12) rfl (fun h3 => ?_) (fun h3 => ?_)
      · try simp only [Z] at h3
        refine py' (Pure.move rfl) (py' (Pure.leq rfl rfl) (py' (Pure.pickT rfl rfl) (pp' (Pure.pickF rfl rfl) (as' rfl (nl' ?_)))))
        exact rt' Tryz.func145 (res1 rfl rfl) (by exact ⟨by congr 1; rw [Bool.eq_iff_iff]; simp [lowB]; omega, rfl⟩)
      · try simp only [Z] at h3
        refine no' (no' (py' (Pure.pickF rfl rfl) (pp' (Pure.pickF rfl rfl) (as' rfl (nl' ?_)))))
        exact rt' Tryz.func145 (res1 rfl rfl) (by exact ⟨by congr 1; rw [Bool.eq_iff_iff]; simp [lowB]; omega, rfl⟩)
  · try simp only [Z] at h1
    refine no' (no' (pp' (Pure.pickF rfl rfl) (mv' rfl (py' (Pure.move rfl) (py' (Pure.geq rfl rfl) (py' (Pure.move rfl) ?_))))))
    refine RunL.split (d := 12) rfl (fun h3 => ?_) (fun h3 => ?_)
    · try simp only [Z] at h3
      refine py' (Pure.move rfl) (py' (Pure.leq rfl rfl) (py' (Pure.pickT rfl rfl) (pp' (Pure.pickF rfl rfl) (as' rfl (nl' ?_)))))
      exact rt' Tryz.func145 (res1 rfl rfl) (by exact ⟨by congr 1; rw [Bool.eq_iff_iff]; simp [lowB]; omega, rfl⟩)
    · try simp only [Z] at h3
      refine no' (no' (py' (Pure.pickF rfl rfl) (pp' (Pure.pickF rfl rfl) (as' rfl (nl' ?_)))))
      exact rt' Tryz.func145 (res1 rfl rfl) (by exact ⟨by congr 1; rw [Bool.eq_iff_iff]; simp [lowB]; omega, rfl⟩)

set_option maxRecDepth 100000 in
theorem low_ctr {G : Gp} {c : UInt8} :
    Ctr Tryz.prog G 78 [.int .u8 (c.toNat : Nat)] [] (fun F v A => v = .bool (lowB c) ∧ A = F) := by
  refine Ctr.intro Tryz.func78 rfl (by kernel_rfl) rfl (fun F => ?_)
  simp only [List.nil_append]
  refine sr' (as' rfl (nl' (sr' (mv' rfl (pp' (Pure.geq rfl rfl) (mv' rfl ?_))))))
  refine RunL.split (d := 5) rfl (fun h1 => ?_) (fun h1 => ?_)
  · try simp only [Z] at h1
    refine py' (Pure.move rfl) (py' (Pure.leq rfl rfl) (pp' (Pure.pickT rfl rfl) (mv' rfl ?_)))
    refine RunL.split (d := 9) rfl (fun h2 => ?_) (fun h2 => ?_)
    · try simp only [Z] at h2
      refine no' (no' (no' (un' (un' (no' (pp' (Pure.pickT rfl rfl) (as' rfl (nl' ?_))))))))
      exact rt' Tryz.func78 (res1 rfl rfl) (by exact ⟨by congr 1; rw [Bool.eq_iff_iff]; simp [lowB]; omega, rfl⟩)
    · try simp only [Z] at h2
      refine py' (Pure.move rfl) (py' (Pure.geq rfl rfl) (py' (Pure.move rfl) ?_))
      refine RunL.split (d := 12) rfl (fun h3 => ?_) (fun h3 => ?_)
      · try simp only [Z] at h3
        refine py' (Pure.move rfl) (py' (Pure.leq rfl rfl) (py' (Pure.pickT rfl rfl) (pp' (Pure.pickF rfl rfl) (as' rfl (nl' ?_)))))
        exact rt' Tryz.func78 (res1 rfl rfl) (by exact ⟨by congr 1; rw [Bool.eq_iff_iff]; simp [lowB]; omega, rfl⟩)
      · try simp only [Z] at h3
        refine no' (no' (py' (Pure.pickF rfl rfl) (pp' (Pure.pickF rfl rfl) (as' rfl (nl' ?_)))))
        exact rt' Tryz.func78 (res1 rfl rfl) (by exact ⟨by congr 1; rw [Bool.eq_iff_iff]; simp [lowB]; omega, rfl⟩)
  · try simp only [Z] at h1
    refine no' (no' (pp' (Pure.pickF rfl rfl) (mv' rfl (py' (Pure.move rfl) (py' (Pure.geq rfl rfl) (py' (Pure.move rfl) ?_))))))
    refine RunL.split (d := 12) rfl (fun h3 => ?_) (fun h3 => ?_)
    · try simp only [Z] at h3
      refine py' (Pure.move rfl) (py' (Pure.leq rfl rfl) (py' (Pure.pickT rfl rfl) (pp' (Pure.pickF rfl rfl) (as' rfl (nl' ?_)))))
      exact rt' Tryz.func78 (res1 rfl rfl) (by exact ⟨by congr 1; rw [Bool.eq_iff_iff]; simp [lowB]; omega, rfl⟩)
    · try simp only [Z] at h3
      refine no' (no' (py' (Pure.pickF rfl rfl) (pp' (Pure.pickF rfl rfl) (as' rfl (nl' ?_)))))
      exact rt' Tryz.func78 (res1 rfl rfl) (by exact ⟨by congr 1; rw [Bool.eq_iff_iff]; simp [lowB]; omega, rfl⟩)

set_option maxRecDepth 100000 in
theorem sIndexByte_ctr {G : Gp} {s : ByteArray} {c : UInt8} :
    Ctr Tryz.prog G 151 [.string s, .int .u8 (c.toNat : Nat)] [] (fun F v A => v = .int .i64 (Lib.indexByte (bl s) c) ∧ A = F) := by
  refine Ctr.intro Tryz.func151 rfl (by kernel_rfl) rfl (fun F => ?_)
  simp only [List.nil_append]
  refine sr' (as' rfl (nl' (sr' (mv' rfl (mv' rfl ?_)))))
  refine pp' (Pure.callX rfl rfl (run_indexByteX Tryz.func155 (by kernel_rfl) (by kernel_rfl) (by kernel_rfl) (by kernel_rfl) _ _)) ?_
  refine as' rfl (nl' ?_)
  exact rt' Tryz.func151 (res1 rfl rfl) (by exact ⟨by rw [u8_round]; rfl, rfl⟩)

set_option maxRecDepth 100000 in
theorem IndexByte_ctr {G : Gp} {s : ByteArray} {c : UInt8} :
    Ctr Tryz.prog G 149 [.string s, .int .u8 (c.toNat : Nat)] [] (fun F v A => v = .int .i64 (Lib.indexByte (bl s) c) ∧ A = F) := by
  refine Ctr.intro Tryz.func149 rfl (by kernel_rfl) rfl (fun F => ?_)
  simp only [List.nil_append]
  refine sr' (as' rfl (nl' (sr' (mv' rfl (mv' rfl ?_)))))
  refine ca' rfl rfl (s := sIndexByte_ctr) (q := ?_)
  rintro _ _ ⟨rfl, hA_⟩
  replace hA_ := hA_.symm; subst hA_
  refine as' rfl (nl' ?_)
  exact rt' Tryz.func149 (res1 rfl rfl) (by exact ⟨rfl, rfl⟩)

set_option maxRecDepth 100000 in
theorem among_ctr {G : Gp} {s : ByteArray} :
    Ctr Tryz.prog G 143 [.string s] [] (fun F v A => ∃ b, v = .func (.func 148) #[] #[.pointer (some ⟨b, 0, none⟩)] ∧ A = row b 9 [.string s] :: F) := by
  refine Ctr.intro Tryz.func143 rfl (by kernel_rfl) rfl (fun F => ?_)
  simp only [List.nil_append]
  refine sr' ?_
  refine RunL.box rfl (Wt.none rfl) rfl ?_; intro b1
  refine as' rfl (nl' (sr' (pp' (Pure.makeFunc rfl rfl) (as' rfl (nl' ?_)))))
  exact rt' Tryz.func143 (res1 rfl rfl) (by exact ⟨b1, rfl, rfl⟩)

set_option maxRecDepth 100000 in
theorem among1_ctr {G : Gp} {b : Nat} {k : Nat} {c : UInt8} (hk : k < 3) (hr : Ro G b 9 [.string (mkS (moreS k))]) :
    Ctr Tryz.prog G 148 [.int .u8 (c.toNat : Nat), .pointer (some ⟨b, 0, none⟩)] [] (fun F v A => v = .bool (amK k c) ∧ A = F) := by
  refine Ctr.intro Tryz.func148 rfl (by kernel_rfl) rfl (fun F => ?_)
  simp only [List.nil_append]
  refine sr' (as' rfl (nl' (sr' (mv' rfl ?_))))
  refine ca' rfl rfl (s := small_ctr) (q := ?_)
  rintro _ _ ⟨rfl, hA_⟩
  replace hA_ := hA_.symm; subst hA_
  refine mv' rfl ?_
  refine RunL.split (d := 6) rfl (fun h1 => ?_) (fun h1 => ?_)
  · try simp only [Z] at h1
    refine no' (no' (no' (no' (pp' (Pure.pickT rfl rfl) (as' rfl (nl' ?_))))))
    exact rt' Tryz.func148 (res1 rfl rfl) (by exact ⟨by rw [← am_eq hk, h1]; rfl, rfl⟩)
  · try simp only [Z] at h1
    refine l1' rfl agg9 ?_
    refine py' (Pure.move rfl) ?_
    refine ca' rfl rfl (s := IndexByte_ctr) (q := ?_)
    rintro _ _ ⟨rfl, hA_⟩
    replace hA_ := hA_.symm; subst hA_
    refine py' (Pure.geq rfl rfl) (pp' (Pure.pickF rfl rfl) (as' rfl (nl' ?_)))
    exact rt' Tryz.func148 (res1 rfl rfl) (by exact ⟨by rw [← am_eq hk, h1, bl_mkS]; rfl, rfl⟩)

set_option maxRecDepth 100000 in
theorem may_ctr {G : Gp} {s : ByteArray} {k : Nat} (hk : k < 3) (hb : s.size ≤ 9223372036854775807) :
    Ctr Tryz.prog G 134 [.string s, .int .i64 (k : Nat)] [] (fun F v A => v = .bool (mayB k (bl s)) ∧ A = F) := by
  refine Ctr.intro Tryz.func134 rfl (by kernel_rfl) rfl (fun F => ?_)
  simp only [List.nil_append]
  obtain rfl | rfl | rfl : k = 0 ∨ k = 1 ∨ k = 2 := by omega
  · skip
    refine sr' (as' rfl (nl' (sr' ?_)))
    refine ca' rfl rfl (s := among_ctr) (q := ?_)
    rintro _ _ ⟨b1, rfl, hA_⟩
    replace hA_ := hA_.symm; subst hA_
    refine ca' rfl rfl (s := among_ctr) (q := ?_)
    rintro _ _ ⟨b2, rfl, hA_⟩
    replace hA_ := hA_.symm; subst hA_
    refine ca' rfl rfl (s := among_ctr) (q := ?_)
    rintro _ _ ⟨b3, rfl, hA_⟩
    replace hA_ := hA_.symm; subst hA_
    refine pp' (Pure.buildArr (ps := [(0, _), (1, _), (2, _)]) und205 sz144 zz205 rfl rfl rfl) (mv' rfl ?_)
    refine pp' (Pure.indexAgg (cs := [_, _, _]) rfl rfl und205 agg144 sz144 (by omega) (by omega) (by rfl)) ?_
    refine as' rfl (nl' ?_)
    refine la' (row b1 9 [.string (mkS (moreS 0))]) Lends.row fun Ghr hleGhr hr => ?_
    refine sq' (sr' (mv' rfl (pp' (Pure.lenStr rfl rfl und9) (mv' rfl (nl' (bl' ?_))))))
    refine kp' [0, 5, 14, 15] ?_
    refine lp' F (fun n e A => ∃ (i : Nat), i ≤ s.size ∧ (∀ j c, j < i → (bl s)[j]? = some c → amK 0 c = true) ∧ n = s.size - i ∧ e = [(0, .string s), (5, .func (.func 148) #[] #[.pointer (some ⟨b1, 0, none⟩)]), (14, .int .i64 s.size), (15, .int .i64 (i : Nat))] ∧ A = F) (s.size) (by exact ⟨0, by omega, fun j c hj => by omega, rfl, rfl, rfl⟩) ?_
    rintro n _ _ ⟨i, hi, hall, rfl, rfl, hA_⟩ ih
    replace hA_ := hA_.symm; subst hA_
    refine sr' (pp' (Pure.lss rfl rfl) (nl' (sq' ?_)))
    refine Run.cond rfl (fun h1 => ?_) (fun h1 => ?_)
    · try simp only [Z] at h1
      obtain ⟨c, hc⟩ := get_some (xs := bl s) (i := i) (by rw [bl_length]; omega)
      refine sk' (sq' (bl' (sr' (mv' rfl (as' rfl (nl' (sr' (mv' rfl (mv' rfl (mv' rfl ?_))))))))))
      refine pp' (Pure.indexStrC rfl rfl und9 hc (by omega)) ?_
      refine ca' rfl rfl (s := among1_ctr (k := 0) (c := c) (by decide) hr) (q := ?_)
      rintro _ _ ⟨rfl, hA_⟩
      replace hA_ := hA_.symm; subst hA_
      refine pp' (Pure.not rfl) (nl' ?_)
      refine Run.cond rfl (fun h2 => ?_) (fun h2 => ?_)
      · try simp only [Z] at h2
        refine sr' (as' rfl (nl' ?_))
        exact rt' Tryz.func134 (res1 rfl rfl) (by exact ⟨by rw [mayB_false hc h2], rfl⟩)
      · try simp only [Z] at h2
        refine sk' (ib' (rg' ?_))
        first | refine RunL.pure (Pure.addI rfl rfl (by omega)) (Wt.none rfl) rfl rfl ?_ | refine RunL.pure (Pure.add rfl rfl) (Wt.none rfl) rfl rfl ?_
        refine mv' rfl (nl' ?_)
        refine kp' [0, 5, 14, 15] ?_
        exact ag' F ih (by exact ⟨i + 1, by omega, lt_succ_of hall hc h2, rfl, rfl, rfl⟩)
    · try simp only [Z] at h1
      have hm := part_true hall (by rw [bl_length]; omega)
      have hl := bl_length s
      refine ex' rfl (sr' (mv' rfl (pp' (Pure.sneq rfl rfl) (mv' rfl ?_))))
      refine RunL.split (d := 27) rfl (fun h3 => ?_) (fun h3 => ?_)
      · try simp only [Z] at h3
        refine py' (Pure.move rfl) (py' (Pure.lenStr rfl rfl und9) (py' (Pure.leq rfl rfl) (pp' (Pure.pickT rfl rfl) (as' rfl (nl' ?_)))))
        exact rt' Tryz.func134 (res1 rfl rfl) (by exact ⟨by rw [hm]; congr 1; rw [Bool.eq_iff_iff]; simp; have : bl s ≠ [] := h3; have : (bl s).length ≠ 0 := (fun e => this (List.length_eq_zero_iff.1 e)); omega, rfl⟩)
      · try simp only [Z] at h3
        refine no' (no' (no' (pp' (Pure.pickF rfl rfl) (as' rfl (nl' ?_)))))
        exact rt' Tryz.func134 (res1 rfl rfl) (by exact ⟨by rw [hm]; congr 1; rw [Bool.eq_iff_iff]; simp; have : (bl s).length = 0 := (by rw [h3]; rfl); omega, rfl⟩)
  · skip
    refine sr' (as' rfl (nl' (sr' ?_)))
    refine ca' rfl rfl (s := among_ctr) (q := ?_)
    rintro _ _ ⟨b1, rfl, hA_⟩
    replace hA_ := hA_.symm; subst hA_
    refine ca' rfl rfl (s := among_ctr) (q := ?_)
    rintro _ _ ⟨b2, rfl, hA_⟩
    replace hA_ := hA_.symm; subst hA_
    refine ca' rfl rfl (s := among_ctr) (q := ?_)
    rintro _ _ ⟨b3, rfl, hA_⟩
    replace hA_ := hA_.symm; subst hA_
    refine pp' (Pure.buildArr (ps := [(0, _), (1, _), (2, _)]) und205 sz144 zz205 rfl rfl rfl) (mv' rfl ?_)
    refine pp' (Pure.indexAgg (cs := [_, _, _]) rfl rfl und205 agg144 sz144 (by omega) (by omega) (by rfl)) ?_
    refine as' rfl (nl' ?_)
    refine la' (row b2 9 [.string (mkS (moreS 1))]) Lends.row fun Ghr hleGhr hr => ?_
    refine sq' (sr' (mv' rfl (pp' (Pure.lenStr rfl rfl und9) (mv' rfl (nl' (bl' ?_))))))
    refine kp' [0, 5, 14, 15] ?_
    refine lp' F (fun n e A => ∃ (i : Nat), i ≤ s.size ∧ (∀ j c, j < i → (bl s)[j]? = some c → amK 1 c = true) ∧ n = s.size - i ∧ e = [(0, .string s), (5, .func (.func 148) #[] #[.pointer (some ⟨b2, 0, none⟩)]), (14, .int .i64 s.size), (15, .int .i64 (i : Nat))] ∧ A = F) (s.size) (by exact ⟨0, by omega, fun j c hj => by omega, rfl, rfl, rfl⟩) ?_
    rintro n _ _ ⟨i, hi, hall, rfl, rfl, hA_⟩ ih
    replace hA_ := hA_.symm; subst hA_
    refine sr' (pp' (Pure.lss rfl rfl) (nl' (sq' ?_)))
    refine Run.cond rfl (fun h1 => ?_) (fun h1 => ?_)
    · try simp only [Z] at h1
      obtain ⟨c, hc⟩ := get_some (xs := bl s) (i := i) (by rw [bl_length]; omega)
      refine sk' (sq' (bl' (sr' (mv' rfl (as' rfl (nl' (sr' (mv' rfl (mv' rfl (mv' rfl ?_))))))))))
      refine pp' (Pure.indexStrC rfl rfl und9 hc (by omega)) ?_
      refine ca' rfl rfl (s := among1_ctr (k := 1) (c := c) (by decide) hr) (q := ?_)
      rintro _ _ ⟨rfl, hA_⟩
      replace hA_ := hA_.symm; subst hA_
      refine pp' (Pure.not rfl) (nl' ?_)
      refine Run.cond rfl (fun h2 => ?_) (fun h2 => ?_)
      · try simp only [Z] at h2
        refine sr' (as' rfl (nl' ?_))
        exact rt' Tryz.func134 (res1 rfl rfl) (by exact ⟨by rw [mayB_false hc h2], rfl⟩)
      · try simp only [Z] at h2
        refine sk' (ib' (rg' ?_))
        first | refine RunL.pure (Pure.addI rfl rfl (by omega)) (Wt.none rfl) rfl rfl ?_ | refine RunL.pure (Pure.add rfl rfl) (Wt.none rfl) rfl rfl ?_
        refine mv' rfl (nl' ?_)
        refine kp' [0, 5, 14, 15] ?_
        exact ag' F ih (by exact ⟨i + 1, by omega, lt_succ_of hall hc h2, rfl, rfl, rfl⟩)
    · try simp only [Z] at h1
      have hm := part_true hall (by rw [bl_length]; omega)
      have hl := bl_length s
      refine ex' rfl (sr' (mv' rfl (pp' (Pure.sneq rfl rfl) (mv' rfl ?_))))
      refine RunL.split (d := 27) rfl (fun h3 => ?_) (fun h3 => ?_)
      · try simp only [Z] at h3
        refine py' (Pure.move rfl) (py' (Pure.lenStr rfl rfl und9) (py' (Pure.leq rfl rfl) (pp' (Pure.pickT rfl rfl) (as' rfl (nl' ?_)))))
        exact rt' Tryz.func134 (res1 rfl rfl) (by exact ⟨by rw [hm]; congr 1; rw [Bool.eq_iff_iff]; simp; have : bl s ≠ [] := h3; have : (bl s).length ≠ 0 := (fun e => this (List.length_eq_zero_iff.1 e)); omega, rfl⟩)
      · try simp only [Z] at h3
        refine no' (no' (no' (pp' (Pure.pickF rfl rfl) (as' rfl (nl' ?_)))))
        exact rt' Tryz.func134 (res1 rfl rfl) (by exact ⟨by rw [hm]; congr 1; rw [Bool.eq_iff_iff]; simp; have : (bl s).length = 0 := (by rw [h3]; rfl); omega, rfl⟩)
  · skip
    refine sr' (as' rfl (nl' (sr' ?_)))
    refine ca' rfl rfl (s := among_ctr) (q := ?_)
    rintro _ _ ⟨b1, rfl, hA_⟩
    replace hA_ := hA_.symm; subst hA_
    refine ca' rfl rfl (s := among_ctr) (q := ?_)
    rintro _ _ ⟨b2, rfl, hA_⟩
    replace hA_ := hA_.symm; subst hA_
    refine ca' rfl rfl (s := among_ctr) (q := ?_)
    rintro _ _ ⟨b3, rfl, hA_⟩
    replace hA_ := hA_.symm; subst hA_
    refine pp' (Pure.buildArr (ps := [(0, _), (1, _), (2, _)]) und205 sz144 zz205 rfl rfl rfl) (mv' rfl ?_)
    refine pp' (Pure.indexAgg (cs := [_, _, _]) rfl rfl und205 agg144 sz144 (by omega) (by omega) (by rfl)) ?_
    refine as' rfl (nl' ?_)
    refine la' (row b3 9 [.string (mkS (moreS 2))]) Lends.row fun Ghr hleGhr hr => ?_
    refine sq' (sr' (mv' rfl (pp' (Pure.lenStr rfl rfl und9) (mv' rfl (nl' (bl' ?_))))))
    refine kp' [0, 5, 14, 15] ?_
    refine lp' F (fun n e A => ∃ (i : Nat), i ≤ s.size ∧ (∀ j c, j < i → (bl s)[j]? = some c → amK 2 c = true) ∧ n = s.size - i ∧ e = [(0, .string s), (5, .func (.func 148) #[] #[.pointer (some ⟨b3, 0, none⟩)]), (14, .int .i64 s.size), (15, .int .i64 (i : Nat))] ∧ A = F) (s.size) (by exact ⟨0, by omega, fun j c hj => by omega, rfl, rfl, rfl⟩) ?_
    rintro n _ _ ⟨i, hi, hall, rfl, rfl, hA_⟩ ih
    replace hA_ := hA_.symm; subst hA_
    refine sr' (pp' (Pure.lss rfl rfl) (nl' (sq' ?_)))
    refine Run.cond rfl (fun h1 => ?_) (fun h1 => ?_)
    · try simp only [Z] at h1
      obtain ⟨c, hc⟩ := get_some (xs := bl s) (i := i) (by rw [bl_length]; omega)
      refine sk' (sq' (bl' (sr' (mv' rfl (as' rfl (nl' (sr' (mv' rfl (mv' rfl (mv' rfl ?_))))))))))
      refine pp' (Pure.indexStrC rfl rfl und9 hc (by omega)) ?_
      refine ca' rfl rfl (s := among1_ctr (k := 2) (c := c) (by decide) hr) (q := ?_)
      rintro _ _ ⟨rfl, hA_⟩
      replace hA_ := hA_.symm; subst hA_
      refine pp' (Pure.not rfl) (nl' ?_)
      refine Run.cond rfl (fun h2 => ?_) (fun h2 => ?_)
      · try simp only [Z] at h2
        refine sr' (as' rfl (nl' ?_))
        exact rt' Tryz.func134 (res1 rfl rfl) (by exact ⟨by rw [mayB_false hc h2], rfl⟩)
      · try simp only [Z] at h2
        refine sk' (ib' (rg' ?_))
        first | refine RunL.pure (Pure.addI rfl rfl (by omega)) (Wt.none rfl) rfl rfl ?_ | refine RunL.pure (Pure.add rfl rfl) (Wt.none rfl) rfl rfl ?_
        refine mv' rfl (nl' ?_)
        refine kp' [0, 5, 14, 15] ?_
        exact ag' F ih (by exact ⟨i + 1, by omega, lt_succ_of hall hc h2, rfl, rfl, rfl⟩)
    · try simp only [Z] at h1
      have hm := part_true hall (by rw [bl_length]; omega)
      have hl := bl_length s
      refine ex' rfl (sr' (mv' rfl (pp' (Pure.sneq rfl rfl) (mv' rfl ?_))))
      refine RunL.split (d := 27) rfl (fun h3 => ?_) (fun h3 => ?_)
      · try simp only [Z] at h3
        refine py' (Pure.move rfl) (py' (Pure.lenStr rfl rfl und9) (py' (Pure.leq rfl rfl) (pp' (Pure.pickT rfl rfl) (as' rfl (nl' ?_)))))
        exact rt' Tryz.func134 (res1 rfl rfl) (by exact ⟨by rw [hm]; congr 1; rw [Bool.eq_iff_iff]; simp; have : bl s ≠ [] := h3; have : (bl s).length ≠ 0 := (fun e => this (List.length_eq_zero_iff.1 e)); omega, rfl⟩)
      · try simp only [Z] at h3
        refine no' (no' (no' (pp' (Pure.pickF rfl rfl) (as' rfl (nl' ?_)))))
        exact rt' Tryz.func134 (res1 rfl rfl) (by exact ⟨by rw [hm]; congr 1; rw [Bool.eq_iff_iff]; simp; have : (bl s).length = 0 := (by rw [h3]; rfl); omega, rfl⟩)

set_option maxRecDepth 100000 in
theorem nServer_ctr {G : Gp} {s : ByteArray} (hb : s.size ≤ 9223372036854775807) :
    Ctr Tryz.prog G 136 [.string s] [] (fun F v A => v = .bool (serverB (bl s)) ∧ A = F) := by
  refine Ctr.intro Tryz.func136 rfl (by kernel_rfl) rfl (fun F => ?_)
  simp only [List.nil_append]
  refine sr' (as' rfl (nl' (sr' (mv' rfl ?_))))
  refine ca' rfl rfl (s := may_ctr (k := 1) (by decide) (by first | assumption | omega | (simp only [mkS_size, List.length_take, List.length_drop, bl_length]; omega))) (q := ?_)
  rintro _ _ ⟨rfl, hA_⟩
  replace hA_ := hA_.symm; subst hA_
  refine mv' rfl ?_
  refine RunL.split (d := 5) rfl (fun h1 => ?_) (fun h1 => ?_)
  · try simp only [Z] at h1
    have hne : 0 < (bl s).length := by
      rcases Nat.eq_zero_or_pos (bl s).length with q | q
      · rw [List.length_eq_zero_iff.1 q] at h1; cases h1
      · exact q
    obtain ⟨c0, hc0⟩ := get_some (xs := bl s) (i := 0) hne
    have hl := bl_length s
    obtain ⟨c1, hc1⟩ := get_some (xs := bl s) (i := (bl s).length - 1) (by omega)
    have e0 : (bl s).getD 0 0 = c0 := by rw [List.getD_eq_getElem?_getD, hc0]; rfl
    have e1 : (bl s).getD ((bl s).length - 1) 0 = c1 := by rw [List.getD_eq_getElem?_getD, hc1]; rfl
    have hc1' : (bl s)[((s.size : Int) - 1).toNat]? = some c1 := by rw [← hl, show (((bl s).length : Int) - 1).toNat = (bl s).length - 1 from by omega]; exact hc1
    refine py' (Pure.move rfl) ?_
    refine py' (Pure.indexStrC rfl rfl und9 hc0 (by omega)) ?_
    refine ca' rfl rfl (s := small_ctr) (q := ?_)
    rintro _ _ ⟨rfl, hA_⟩
    replace hA_ := hA_.symm; subst hA_
    refine pp' (Pure.pickT rfl rfl) (mv' rfl ?_)
    refine RunL.split (d := 10) rfl (fun h2 => ?_) (fun h2 => ?_)
    · try simp only [Z] at h2
      refine py' (Pure.move rfl) (py' (Pure.move rfl) (py' (Pure.lenStr rfl rfl und9) ?_))
      first | refine RunL.pure (Pure.subI rfl rfl (by omega)) (Wt.yes rfl rfl rfl) rfl rfl ?_ | refine RunL.pure (Pure.sub rfl rfl) (Wt.yes rfl rfl rfl) rfl rfl ?_
      refine py' (Pure.indexStrC rfl rfl und9 hc1' (by omega)) ?_
      refine ca' rfl rfl (s := small_ctr) (q := ?_)
      rintro _ _ ⟨rfl, hA_⟩
      replace hA_ := hA_.symm; subst hA_
      refine pp' (Pure.pickT rfl rfl) (as' rfl (nl' ?_))
      exact rt' Tryz.func136 (res1 rfl rfl) (by exact ⟨by rw [serverB, h1, e0, h2, e1]; rfl, rfl⟩)
    · try simp only [Z] at h2
      refine no' (no' (no' (no' (no' (no' (pp' (Pure.pickF rfl rfl) (as' rfl (nl' ?_))))))))
      exact rt' Tryz.func136 (res1 rfl rfl) (by exact ⟨by rw [serverB, h1, e0, h2]; rfl, rfl⟩)
  · try simp only [Z] at h1
    refine no' (no' (no' (pp' (Pure.pickF rfl rfl) (mv' rfl (no' (no' (no' (no' (no' (no' (pp' (Pure.pickF rfl rfl) (as' rfl (nl' ?_)))))))))))))
    exact rt' Tryz.func136 (res1 rfl rfl) (by exact ⟨by rw [serverB, h1]; rfl, rfl⟩)

set_option maxRecDepth 100000 in
theorem Index1_ctr {G : Gp} {s : ByteArray} {c : UInt8} (hb : s.size ≤ 9223372036854775807) :
    Ctr Tryz.prog G 150 [.string s, .string (mkS [c])] [] (fun F v A => v = .int .i64 (Lib.indexByte (bl s) c) ∧ A = F) := by
  refine Ctr.intro Tryz.func150 rfl (by kernel_rfl) rfl (fun F => ?_)
  simp only [List.nil_append]
  have hz : (mkS [c]).size = 1 := rfl
  have hcs : (bl (mkS [c]))[0]? = some c := rfl
  refine sr' (as' rfl (nl' (sr' (mv' rfl (pp' (Pure.lenStr rfl rfl und9) (as' rfl (nl' (sq' (bl' (sr' (mv' rfl (pp' (Pure.eql rfl rfl) (mv' rfl ?_)))))))))))))
  refine RunL.split (d := 19) rfl (fun hg1 => ?_) (fun hg1 => ?_)
  · try simp only [Z] at hg1
    exfalso
    omega
  try simp only [Z] at hg1
  refine py' (Pure.move rfl) (py' (Pure.move rfl) (py' (Pure.seql rfl rfl) (pp' (Pure.pickF rfl rfl) (as' rfl (nl' ?_)))))
  refine Run.cond rfl (fun h1 => ?_) (fun h1 => ?_)
  · try simp only [Z] at h1
    refine sr' (as' rfl (nl' ?_))
    exact rt' Tryz.func150 (res1 rfl rfl) (by exact ⟨by rw [← h1, bl_mkS]; simp [Lib.indexByte], rfl⟩)
  · try simp only [Z] at h1
    refine sr' (mv' rfl (pp' (Pure.eql rfl rfl) (as' rfl (nl' ?_))))
    refine Run.cond rfl (fun hc2 => ?_) (fun hc2 => ?_)
    rotate_left
    · try simp only [Z] at hc2
      exfalso
      omega
    try simp only [Z] at hc2
    refine sr' (mv' rfl (mv' rfl ?_))
    refine pp' (Pure.indexStrC rfl rfl und9 hcs (by omega)) ?_
    refine ca' rfl rfl (s := sIndexByte_ctr) (q := ?_)
    rintro _ _ ⟨rfl, hA_⟩
    replace hA_ := hA_.symm; subst hA_
    refine as' rfl (nl' ?_)
    exact rt' Tryz.func150 (res1 rfl rfl) (by exact ⟨rfl, rfl⟩)

set_option maxRecDepth 100000 in
theorem sCut_ctr {G : Gp} {s : ByteArray} {c : UInt8} (hb : s.size ≤ 9223372036854775807) :
    Ctr Tryz.prog G 144 [.string s, .string (mkS [c])] [] (fun F v A => v = .tuple #[.string (mkS (cutL (bl s) c).1), .string (mkS (cutL (bl s) c).2.1), .bool (cutL (bl s) c).2.2] ∧ A = F) := by
  refine Ctr.intro Tryz.func144 rfl (by kernel_rfl) rfl (fun F => ?_)
  simp only [List.nil_append]
  have hz : (mkS [c]).size = 1 := rfl
  have hge := Lib.indexByte_ge (bl s) c
  have hl := bl_length s
  refine sr' (as' rfl (as' rfl (as' rfl (nl' (sq' (sr' (mv' rfl (mv' rfl ?_))))))))
  refine ca' rfl rfl (s := Index1_ctr (by first | assumption | omega | (simp only [mkS_size, List.length_take, List.length_drop, bl_length]; omega) | (simp only [mkS_size, size_app, List.length_take, List.length_drop, List.length_append, bl_length, List.length_cons, List.length_nil, size_mk]; omega))) (q := ?_)
  rintro _ _ ⟨rfl, hA_⟩
  replace hA_ := hA_.symm; subst hA_
  refine as' rfl (nl' (sr' (mv' rfl (pp' (Pure.geq rfl rfl) (nl' ?_)))))
  refine Run.cond rfl (fun h1 => ?_) (fun h1 => ?_)
  · try simp only [Z] at h1
    have hlt := ix_lt h1
    refine sq' ?_
    refine Run.regionD' (by kernel_rfl) (by kernel_rfl) (fun hok22 => ?_)
    refine dp' 0 hok22 rfl (Pure.move rfl) (dp' 1 hok22 rfl (Pure.move rfl) ?_)
    refine dp' 2 hok22 rfl (Pure.sliceStrTo rfl rfl und9 (by first | omega | (simp; done) | (simp; omega)) (by first | omega | (simp; done) | (simp; omega))) ?_
    refine dp' 3 hok22 rfl (Pure.move rfl) (dp' 4 hok22 rfl (Pure.move rfl) (dp' 5 hok22 rfl (Pure.move rfl) (dp' 6 hok22 rfl (Pure.lenStr rfl rfl und9) ?_)))
    first | refine RunD.pure (i := 7) hok22 rfl (by kernel_rfl) (Pure.addI rfl rfl (by omega)) (Wt.none rfl) rfl rfl ?_ | refine RunD.pure (i := 7) hok22 rfl (by kernel_rfl) (Pure.add rfl rfl) (Wt.none rfl) rfl rfl ?_
    refine dp' 8 hok22 rfl (Pure.sliceStrFrom rfl rfl und9 (by first | omega | (simp; done) | (simp; omega)) (by first | omega | (simp; done) | (simp; omega))) ?_
    refine dp' 9 hok22 rfl (Pure.assign rfl) (dp' 10 hok22 rfl (Pure.assign rfl) (dp' 11 hok22 rfl (Pure.assign rfl) ?_))
    refine RunD.nilR (by kernel_rfl) ?_
    exact rt' Tryz.func144 (res3 rfl rfl rfl rfl) (by exact ⟨by rw [cutL_yes h1, ext_to, ext_from]; rw [show (Lib.indexByte (bl s) c + ((mkS [c]).size : Nat)).toNat = (Lib.indexByte (bl s) c).toNat + 1 from by omega], rfl⟩)
  · try simp only [Z] at h1
    refine sk' (sr' (mv' rfl (as' rfl (as' rfl (as' rfl (nl' ?_))))))
    exact rt' Tryz.func144 (res3 rfl rfl rfl rfl) (by exact ⟨by rw [cutL_no h1, mkS_bl]; rfl, rfl⟩)

set_option maxRecDepth 100000 in
theorem Cut_ctr {G : Gp} {s : ByteArray} {c : UInt8} (hb : s.size ≤ 9223372036854775807) :
    Ctr Tryz.prog G 135 [.string s, .string (mkS [c])] [] (fun F v A => v = .tuple #[.string (mkS (cutL (bl s) c).1), .string (mkS (cutL (bl s) c).2.1), .bool (cutL (bl s) c).2.2] ∧ A = F) := by
  refine Ctr.intro Tryz.func135 rfl (by kernel_rfl) rfl (fun F => ?_)
  simp only [List.nil_append]
  refine sr' (as' rfl (as' rfl (as' rfl (nl' (sr' (mv' rfl (mv' rfl ?_)))))))
  refine ca' rfl rfl (s := sCut_ctr (by first | assumption | omega | (simp only [mkS_size, List.length_take, List.length_drop, bl_length]; omega) | (simp only [mkS_size, size_app, List.length_take, List.length_drop, List.length_append, bl_length, List.length_cons, List.length_nil, size_mk]; omega))) (q := ?_)
  rintro _ _ ⟨rfl, hA_⟩
  replace hA_ := hA_.symm; subst hA_
  refine pp' (Pure.extract rfl rfl) (pp' (Pure.extract rfl rfl) (pp' (Pure.extract rfl rfl) (as' rfl (as' rfl (as' rfl (nl' ?_))))))
  exact rt' Tryz.func135 (res3 rfl rfl rfl rfl) (by exact ⟨rfl, rfl⟩)

set_option maxRecDepth 100000 in
theorem HasPrefix_ctr {G : Gp} {s : ByteArray} {c : UInt8} (hb : s.size ≤ 9223372036854775807) :
    Ctr Tryz.prog G 147 [.string s, .string (mkS [c])] [] (fun F v A => v = .bool (decide ((bl s).head? = some c)) ∧ A = F) := by
  refine Ctr.intro Tryz.func147 rfl (by kernel_rfl) rfl (fun F => ?_)
  simp only [List.nil_append]
  have hz : (mkS [c]).size = 1 := rfl
  have hl := bl_length s
  refine sr' (as' rfl (nl' (sr' (mv' rfl (pp' (Pure.lenStr rfl rfl und9) (mv' rfl (pp' (Pure.lenStr rfl rfl und9) (pp' (Pure.geq rfl rfl) (mv' rfl ?_)))))))))
  refine RunL.split (d := 10) rfl (fun h1 => ?_) (fun h1 => ?_)
  · try simp only [Z] at h1
    refine py' (Pure.move rfl) (py' (Pure.move rfl) (py' (Pure.lenStr rfl rfl und9) ?_))
    refine py' (Pure.sliceStrTo rfl rfl und9 (by first | omega | (simp; done) | (simp; omega)) (by first | omega | (simp; done) | (simp; omega))) ?_
    refine py' (Pure.move rfl) (py' (Pure.seql rfl rfl) (pp' (Pure.pickT rfl rfl) (as' rfl (nl' ?_))))
    exact rt' Tryz.func147 (res1 rfl rfl) (by exact ⟨by congr 1; rw [ext_to, bl_mkS, bl_mkS, Bool.eq_iff_iff, decide_eq_true_iff, decide_eq_true_iff]; exact take1_head, rfl⟩)
  · try simp only [Z] at h1
    refine no' (no' (no' (no' (no' (no' (pp' (Pure.pickF rfl rfl) (as' rfl (nl' ?_))))))))
    exact rt' Tryz.func147 (res1 rfl rfl) (by exact ⟨by rw [decide_eq_false]; intro e; obtain ⟨r, hr⟩ := split_yes e; rw [hr] at hl; simp at hl; omega, rfl⟩)

set_option maxRecDepth 100000 in
theorem sCutPrefix_ctr {G : Gp} {s : ByteArray} {c : UInt8} (hb : s.size ≤ 9223372036854775807) :
    Ctr Tryz.prog G 142 [.string s, .string (mkS [c])] [] (fun F v A => v = .tuple #[.string (mkS (preL (bl s) c).1), .bool (preL (bl s) c).2] ∧ A = F) := by
  refine Ctr.intro Tryz.func142 rfl (by kernel_rfl) rfl (fun F => ?_)
  simp only [List.nil_append]
  have hz : (mkS [c]).size = 1 := rfl
  have hl := bl_length s
  refine sr' (as' rfl (as' rfl (nl' (sq' (sr' (mv' rfl (mv' rfl ?_)))))))
  refine ca' rfl rfl (s := HasPrefix_ctr (by first | assumption | omega | (simp only [mkS_size, List.length_take, List.length_drop, bl_length]; omega) | (simp only [mkS_size, size_app, List.length_take, List.length_drop, List.length_append, bl_length, List.length_cons, List.length_nil, size_mk]; omega))) (q := ?_)
  rintro _ _ ⟨rfl, hA_⟩
  replace hA_ := hA_.symm; subst hA_
  refine pp' (Pure.not rfl) (nl' ?_)
  refine Run.cond rfl (fun h1 => ?_) (fun h1 => ?_)
  · try simp only [Z] at h1
    refine sr' (mv' rfl (as' rfl (as' rfl (nl' ?_))))
    exact rt' Tryz.func142 (res2 rfl rfl rfl) (by exact ⟨by rw [preL, if_neg (by simpa using h1), mkS_bl], rfl⟩)
  · try simp only [Z] at h1
    have h1 : (bl s).head? = some c := by simpa using h1
    have hne : 0 < s.size := by obtain ⟨r, hr⟩ := split_yes h1; rw [hr] at hl; simp at hl; omega
    refine sk' (sr' (mv' rfl (mv' rfl (pp' (Pure.lenStr rfl rfl und9) ?_))))
    refine pp' (Pure.sliceStrFrom rfl rfl und9 (by first | omega | (simp; done) | (simp; omega)) (by first | omega | (simp; done) | (simp; omega))) ?_
    refine as' rfl (as' rfl (nl' ?_))
    exact rt' Tryz.func142 (res2 rfl rfl rfl) (by exact ⟨by rw [preL, if_pos h1, ext_from]; rfl, rfl⟩)

set_option maxRecDepth 100000 in
theorem CutPrefix_ctr {G : Gp} {s : ByteArray} {c : UInt8} (hb : s.size ≤ 9223372036854775807) :
    Ctr Tryz.prog G 133 [.string s, .string (mkS [c])] [] (fun F v A => v = .tuple #[.string (mkS (preL (bl s) c).1), .bool (preL (bl s) c).2] ∧ A = F) := by
  refine Ctr.intro Tryz.func133 rfl (by kernel_rfl) rfl (fun F => ?_)
  simp only [List.nil_append]
  refine sr' (as' rfl (as' rfl (nl' (sr' (mv' rfl (mv' rfl ?_))))))
  refine ca' rfl rfl (s := sCutPrefix_ctr (by first | assumption | omega | (simp only [mkS_size, List.length_take, List.length_drop, bl_length]; omega) | (simp only [mkS_size, size_app, List.length_take, List.length_drop, List.length_append, bl_length, List.length_cons, List.length_nil, size_mk]; omega))) (q := ?_)
  rintro _ _ ⟨rfl, hA_⟩
  replace hA_ := hA_.symm; subst hA_
  refine pp' (Pure.extract rfl rfl) (pp' (Pure.extract rfl rfl) (as' rfl (as' rfl (nl' ?_))))
  exact rt' Tryz.func133 (res2 rfl rfl rfl) (by exact ⟨rfl, rfl⟩)

set_option maxRecDepth 100000 in
theorem split_ctr {G : Gp} {s : ByteArray} {c : UInt8} (hb : s.size ≤ 9223372036854775807) :
    Ctr Tryz.prog G 116 [.string s, .string (mkS [c])] [] (fun F v A => ∃ v1 v2, v = .tuple #[v1, v2, .bool (namedB c (bl s))] ∧ A = F) := by
  refine Ctr.intro Tryz.func116 rfl (by kernel_rfl) rfl (fun F => ?_)
  simp only [List.nil_append]
  have hl := bl_length s
  refine sr' (as' rfl (as' rfl (as' rfl (nl' (sr' (mv' rfl (mv' rfl ?_)))))))
  refine ca' rfl rfl (s := CutPrefix_ctr (by first | assumption | omega | (simp only [mkS_size, List.length_take, List.length_drop, bl_length]; omega) | (simp only [mkS_size, size_app, List.length_take, List.length_drop, List.length_append, bl_length, List.length_cons, List.length_nil, size_mk]; omega))) (q := ?_)
  rintro _ _ ⟨rfl, hA_⟩
  replace hA_ := hA_.symm; subst hA_
  by_cases hd : (bl s).head? = some c
  · skip
    obtain ⟨r, hr⟩ := split_yes hd
    have hrl : r.length ≤ 9223372036854775807 := by rw [hr] at hl; simp at hl; omega
    have hp : preL (bl s) c = (r, true) := by rw [preL, if_pos hd, hr]; rfl
    rw [hp, hr, namedB_cons]
    have hge := colI_ge r
    have hbl : bl (mkS r) = r := rfl
    refine mv' rfl (pp' (Pure.extract rfl rfl) (pp' (Pure.extract rfl rfl) (as' rfl (as' rfl (nl' (sr' (mv' rfl ?_)))))))
    refine ca' rfl rfl (s := Cut_ctr (c := 58) (by first | assumption | omega | (simp only [mkS_size, List.length_take, List.length_drop, bl_length]; omega) | (simp only [mkS_size, size_app, List.length_take, List.length_drop, List.length_append, bl_length, List.length_cons, List.length_nil, size_mk]; omega))) (q := ?_)
    rintro _ _ ⟨rfl, hA_⟩
    replace hA_ := hA_.symm; subst hA_
    refine mv' rfl (pp' (Pure.extract rfl rfl) (pp' (Pure.extract rfl rfl) (pp' (Pure.extract rfl rfl) (as' rfl (as' rfl (as' rfl (nl' (sr' (mv' rfl (mv' rfl (mv' rfl (mv' rfl ?_))))))))))))
    refine RunL.split (d := 27) rfl (fun hg1 => ?_) (fun hg1 => ?_)
    rotate_left
    · try simp only [Z] at hg1
      exfalso
      simp at hg1
    try simp only [Z] at hg1
    refine py' (Pure.move rfl) (pp' (Pure.pickT rfl rfl) (mv' rfl ?_))
    refine RunL.split (d := 30) rfl (fun h2 => ?_) (fun h2 => ?_)
    · try simp only [Z] at h2
      have hi : 0 ≤ colI r := by
        rcases Int.lt_or_le (colI r) 0 with q | q
        · rw [hbl, cutL_no q] at h2; cases h2
        · exact q
      have hcl : cutL (bl (mkS r)) 58 = (r.take (colI r).toNat, r.drop ((colI r).toNat + 1), true) := cutL_yes hi
      rw [hcl]
      refine py' (Pure.move rfl) ?_
      refine ca' rfl rfl (s := may_ctr (k := 0) (by decide) (by rw [mkS_size]; simp; omega)) (q := ?_)
      rintro _ _ ⟨rfl, hA_⟩
      replace hA_ := hA_.symm; subst hA_
      refine pp' (Pure.pickT rfl rfl) (mv' rfl ?_)
      refine RunL.split (d := 34) rfl (fun h3 => ?_) (fun h3 => ?_)
      · try simp only [Z] at h3
        refine py' (Pure.move rfl) ?_
        refine ca' rfl rfl (s := nServer_ctr (by rw [mkS_size]; simp; omega)) (q := ?_)
        rintro _ _ ⟨rfl, hA_⟩
        replace hA_ := hA_.symm; subst hA_
        refine pp' (Pure.pickT rfl rfl) (as' rfl (as' rfl (as' rfl (nl' ?_))))
        rw [bl_mkS] at h3
        have hv : (decide (c = c) && (decide (0 ≤ colI r) && (mayB 0 (r.take (colI r).toNat) && serverB (r.drop ((colI r).toNat + 1))))) = serverB (r.drop ((colI r).toNat + 1)) := by rw [h3, decide_eq_true hi, decide_eq_true rfl]; rfl
        exact rt' Tryz.func116 (res3 rfl rfl rfl rfl) (by exact ⟨_, _, by (rw [hv]; first | done | rfl), rfl⟩)
      · try simp only [Z] at h3
        refine no' (no' (pp' (Pure.pickF rfl rfl) (as' rfl (as' rfl (as' rfl (nl' ?_))))))
        rw [bl_mkS] at h3
        have hv : (decide (c = c) && (decide (0 ≤ colI r) && (mayB 0 (r.take (colI r).toNat) && serverB (r.drop ((colI r).toNat + 1))))) = false := by rw [h3]; simp
        exact rt' Tryz.func116 (res3 rfl rfl rfl rfl) (by exact ⟨_, _, by (rw [hv]; first | done | rfl), rfl⟩)
    · try simp only [Z] at h2
      have hi : ¬ 0 ≤ colI r := by
        intro q
        rw [hbl, cutL_yes q] at h2; cases h2
      refine no' (no' (pp' (Pure.pickF rfl rfl) (mv' rfl (no' (no' (pp' (Pure.pickF rfl rfl) (as' rfl (as' rfl (as' rfl (nl' ?_))))))))))
      have hv : (decide (c = c) && (decide (0 ≤ colI r) && (mayB 0 (r.take (colI r).toNat) && serverB (r.drop ((colI r).toNat + 1))))) = false := by rw [decide_eq_false hi]; simp
      exact rt' Tryz.func116 (res3 rfl rfl rfl rfl) (by exact ⟨_, _, by (rw [hv]; first | done | rfl), rfl⟩)
  · skip
    have hp : preL (bl s) c = (bl s, false) := by rw [preL, if_neg hd]
    rw [hp, named_not hd]
    refine mv' rfl (pp' (Pure.extract rfl rfl) (pp' (Pure.extract rfl rfl) (as' rfl (as' rfl (nl' (sr' (mv' rfl ?_)))))))
    refine ca' rfl rfl (s := Cut_ctr (c := 58) (by first | assumption | omega | (simp only [mkS_size, List.length_take, List.length_drop, bl_length]; omega) | (simp only [mkS_size, size_app, List.length_take, List.length_drop, List.length_append, bl_length, List.length_cons, List.length_nil, size_mk]; omega))) (q := ?_)
    rintro _ _ ⟨rfl, hA_⟩
    replace hA_ := hA_.symm; subst hA_
    refine mv' rfl (pp' (Pure.extract rfl rfl) (pp' (Pure.extract rfl rfl) (pp' (Pure.extract rfl rfl) (as' rfl (as' rfl (as' rfl (nl' (sr' (mv' rfl (mv' rfl (mv' rfl (mv' rfl ?_))))))))))))
    refine RunL.split (d := 27) rfl (fun hg2 => ?_) (fun hg2 => ?_)
    · try simp only [Z] at hg2
      exfalso
      simp at hg2
    try simp only [Z] at hg2
    refine no' (pp' (Pure.pickF rfl rfl) (mv' rfl (no' (no' (pp' (Pure.pickF rfl rfl) (mv' rfl (no' (no' (pp' (Pure.pickF rfl rfl) (as' rfl (as' rfl (as' rfl (nl' ?_)))))))))))))
    exact rt' Tryz.func116 (res3 rfl rfl rfl rfl) (by exact ⟨_, _, rfl, rfl⟩)

set_option maxRecDepth 100000 in
theorem User_ctr {G : Gp} {s : ByteArray} (hb : s.size ≤ 9223372036854775807) :
    Ctr Tryz.prog G 82 [.string s] [] (fun F v A => v = .bool (namedB 64 (bl s)) ∧ A = F) := by
  refine Ctr.intro Tryz.func82 rfl (by kernel_rfl) rfl (fun F => ?_)
  simp only [List.nil_append]
  refine sr' (as' rfl (nl' (sr' (mv' rfl ?_))))
  refine ca' rfl rfl (s := split_ctr (c := 64) (by first | assumption | omega | (simp only [mkS_size, List.length_take, List.length_drop, bl_length]; omega) | (simp only [mkS_size, size_app, List.length_take, List.length_drop, List.length_append, bl_length, List.length_cons, List.length_nil, size_mk]; omega))) (q := ?_)
  rintro _ _ ⟨v1, v2, rfl, hA_⟩
  replace hA_ := hA_.symm; subst hA_
  refine mv' rfl (pp' (Pure.extract rfl rfl) (pp' (Pure.extract rfl rfl) (pp' (Pure.extract rfl rfl) (as' rfl (as' rfl (as' rfl (nl' (sr' (mv' rfl (as' rfl (nl' ?_)))))))))))
  exact rt' Tryz.func82 (res1 rfl rfl) (by exact ⟨rfl, rfl⟩)

set_option maxRecDepth 100000 in
theorem Room_ctr {G : Gp} {s : ByteArray} (hb : s.size ≤ 9223372036854775807) :
    Ctr Tryz.prog G 111 [.string s] [] (fun F v A => v = .bool (namedB 33 (bl s)) ∧ A = F) := by
  refine Ctr.intro Tryz.func111 rfl (by kernel_rfl) rfl (fun F => ?_)
  simp only [List.nil_append]
  refine sr' (as' rfl (nl' (sr' (mv' rfl ?_))))
  refine ca' rfl rfl (s := split_ctr (c := 33) (by first | assumption | omega | (simp only [mkS_size, List.length_take, List.length_drop, bl_length]; omega) | (simp only [mkS_size, size_app, List.length_take, List.length_drop, List.length_append, bl_length, List.length_cons, List.length_nil, size_mk]; omega))) (q := ?_)
  rintro _ _ ⟨v1, v2, rfl, hA_⟩
  replace hA_ := hA_.symm; subst hA_
  refine mv' rfl (pp' (Pure.extract rfl rfl) (pp' (Pure.extract rfl rfl) (pp' (Pure.extract rfl rfl) (as' rfl (as' rfl (as' rfl (nl' (sr' (mv' rfl (as' rfl (nl' ?_)))))))))))
  exact rt' Tryz.func111 (res1 rfl rfl) (by exact ⟨rfl, rfl⟩)

set_option maxRecDepth 100000 in
theorem nEvent_ctr {G : Gp} {s : ByteArray} (hb : s.size ≤ 9223372036854775807) :
    Ctr Tryz.prog G 112 [.string s] [] (fun F v A => v = .bool (eventB (bl s)) ∧ A = F) := by
  refine Ctr.intro Tryz.func112 rfl (by kernel_rfl) rfl (fun F => ?_)
  simp only [List.nil_append]
  have hl := bl_length s
  refine sr' (as' rfl (nl' (sr' (mv' rfl ?_))))
  refine ca' rfl rfl (s := CutPrefix_ctr (c := 36) (by first | assumption | omega | (simp only [mkS_size, List.length_take, List.length_drop, bl_length]; omega) | (simp only [mkS_size, size_app, List.length_take, List.length_drop, List.length_append, bl_length, List.length_cons, List.length_nil, size_mk]; omega))) (q := ?_)
  rintro _ _ ⟨rfl, hA_⟩
  replace hA_ := hA_.symm; subst hA_
  by_cases hd : (bl s).head? = some 36
  · skip
    obtain ⟨r, hr⟩ := split_yes hd
    have hrl : r.length ≤ 9223372036854775807 := by rw [hr] at hl; simp at hl; omega
    have hp : preL (bl s) 36 = (r, true) := by rw [preL, if_pos hd, hr]; rfl
    rw [hp]
    refine mv' rfl (pp' (Pure.extract rfl rfl) (pp' (Pure.extract rfl rfl) (as' rfl (as' rfl (nl' (sr' (mv' rfl (mv' rfl ?_))))))))
    refine RunL.split (d := 11) rfl (fun hg1 => ?_) (fun hg1 => ?_)
    rotate_left
    · try simp only [Z] at hg1
      exfalso
      simp at hg1
    try simp only [Z] at hg1
    refine py' (Pure.move rfl) ?_
    refine ca' rfl rfl (s := may_ctr (k := 2) (by decide) (by rw [mkS_size]; omega)) (q := ?_)
    rintro _ _ ⟨rfl, hA_⟩
    replace hA_ := hA_.symm; subst hA_
    refine pp' (Pure.pickT rfl rfl) (as' rfl (nl' ?_))
    exact rt' Tryz.func112 (res1 rfl rfl) (by exact ⟨by rw [hr]; simp [eventB, bl_mkS], rfl⟩)
  · skip
    have hp : preL (bl s) 36 = (bl s, false) := by rw [preL, if_neg hd]
    have he : eventB (bl s) = false := by cases hq : bl s with | nil => rfl | cons c r => rw [hq] at hd; simp at hd; simp [eventB, hd]
    rw [hp]
    refine mv' rfl (pp' (Pure.extract rfl rfl) (pp' (Pure.extract rfl rfl) (as' rfl (as' rfl (nl' (sr' (mv' rfl (mv' rfl ?_))))))))
    refine RunL.split (d := 11) rfl (fun hg2 => ?_) (fun hg2 => ?_)
    · try simp only [Z] at hg2
      exfalso
      simp at hg2
    try simp only [Z] at hg2
    refine no' (no' (pp' (Pure.pickF rfl rfl) (as' rfl (nl' ?_))))
    exact rt' Tryz.func112 (res1 rfl rfl) (by exact ⟨by (rw [he]; first | done | rfl), rfl⟩)

set_option maxRecDepth 100000 in
theorem nThread_ctr {G : Gp} {s : ByteArray} (hb : s.size ≤ 9223372036854775807) :
    Ctr Tryz.prog G 113 [.string s] [] (fun F v A => v = .bool (threadB (bl s)) ∧ A = F) := by
  refine Ctr.intro Tryz.func113 rfl (by kernel_rfl) rfl (fun F => ?_)
  simp only [List.nil_append]
  refine sr' (as' rfl (nl' (sr' (mv' rfl (pp' (Pure.seql rfl rfl) (mv' rfl ?_))))))
  refine RunL.split (d := 5) rfl (fun h1 => ?_) (fun h1 => ?_)
  · try simp only [Z] at h1
    refine no' (no' (pp' (Pure.pickT rfl rfl) (mv' rfl (no' (no' (pp' (Pure.pickT rfl rfl) (as' rfl (nl' ?_))))))))
    exact rt' Tryz.func113 (res1 rfl rfl) (by exact ⟨by congr 1; rw [threadB, decide_eq_true (show bl s = [] from h1)]; rfl, rfl⟩)
  · try simp only [Z] at h1
    refine py' (Pure.move rfl) (py' (Pure.seql rfl rfl) (pp' (Pure.pickF rfl rfl) (mv' rfl ?_)))
    refine RunL.split (d := 9) rfl (fun h2 => ?_) (fun h2 => ?_)
    · try simp only [Z] at h2
      refine no' (no' (pp' (Pure.pickT rfl rfl) (as' rfl (nl' ?_))))
      exact rt' Tryz.func113 (res1 rfl rfl) (by exact ⟨by congr 1; rw [threadB, decide_eq_true (show bl s = mainL from h2)]; simp, rfl⟩)
    · try simp only [Z] at h2
      refine py' (Pure.move rfl) ?_
      refine ca' rfl rfl (s := nEvent_ctr (by first | assumption | omega | (simp only [mkS_size, List.length_take, List.length_drop, bl_length]; omega) | (simp only [mkS_size, size_app, List.length_take, List.length_drop, List.length_append, bl_length, List.length_cons, List.length_nil, size_mk]; omega))) (q := ?_)
      rintro _ _ ⟨rfl, hA_⟩
      replace hA_ := hA_.symm; subst hA_
      refine pp' (Pure.pickF rfl rfl) (as' rfl (nl' ?_))
      exact rt' Tryz.func113 (res1 rfl rfl) (by exact ⟨by congr 1; rw [threadB, decide_eq_false (show ¬ bl s = [] from h1), decide_eq_false (show ¬ bl s = mainL from h2)]; rfl, rfl⟩)

set_option maxRecDepth 100000 in
theorem rPart_ctr {G : Gp} {s : ByteArray} (hb : s.size ≤ 9223372036854775807) :
    Ctr Tryz.prog G 76 [.string s] [] (fun F v A => v = .bool (mayB 0 (bl s)) ∧ A = F) := by
  refine Ctr.intro Tryz.func76 rfl (by kernel_rfl) rfl (fun F => ?_)
  simp only [List.nil_append]
  refine sr' (as' rfl (nl' (sq' (sr' (as' rfl (nl' (bl' ?_)))))))
  refine kp' [0, 3] ?_
  refine lp' F (fun n e A => ∃ (i : Nat), i ≤ s.size ∧ (∀ j c, j < i → (bl s)[j]? = some c → amK 0 c = true) ∧ n = s.size - i ∧ e = [(0, .string s), (3, .int .i64 (i : Nat))] ∧ A = F) (s.size) (by exact ⟨0, by omega, fun j c hj => by omega, rfl, rfl, rfl⟩) ?_
  rintro n _ _ ⟨i, hi, hall, rfl, rfl, hA_⟩ ih
  replace hA_ := hA_.symm; subst hA_
  refine sq' (sr' (mv' rfl (mv' rfl (pp' (Pure.lenStr rfl rfl und9) (pp' (Pure.lss rfl rfl) (nl' ?_))))))
  refine Run.cond rfl (fun h1 => ?_) (fun h1 => ?_)
  · try simp only [Z] at h1
    obtain ⟨c, hc⟩ := get_some (xs := bl s) (i := i) (by rw [bl_length]; omega)
    have hl := bl_length s
    refine sk' (sq' (bl' (sr' (mv' rfl (mv' rfl ?_)))))
    refine pp' (Pure.indexStrC rfl rfl und9 hc (by omega)) ?_
    refine ca' rfl rfl (s := low_ctr) (q := ?_)
    rintro _ _ ⟨rfl, hA_⟩
    replace hA_ := hA_.symm; subst hA_
    refine as' rfl (nl' (sr' (mv' rfl (pp' (Pure.not rfl) (mv' rfl ?_)))))
    refine RunL.split (d := 17) rfl (fun h2 => ?_) (fun h2 => ?_)
    · try simp only [Z] at h2
      refine py' (Pure.move rfl) (py' (Pure.move rfl) ?_)
      refine py' (Pure.indexStrC rfl rfl und9 hc (by omega)) ?_
      refine py' (Pure.neq rfl rfl) (pp' (Pure.pickT rfl rfl) (mv' rfl ?_))
      refine RunL.split (d := 23) rfl (fun h3 => ?_) (fun h3 => ?_)
      · try simp only [Z] at h3
        refine py' (Pure.move rfl) (py' (Pure.move rfl) ?_)
        refine py' (Pure.indexStrC rfl rfl und9 hc (by omega)) ?_
        refine py' (Pure.neq rfl rfl) (pp' (Pure.pickT rfl rfl) (mv' rfl ?_))
        refine RunL.split (d := 29) rfl (fun h4 => ?_) (fun h4 => ?_)
        · try simp only [Z] at h4
          refine py' (Pure.move rfl) (py' (Pure.move rfl) ?_)
          refine py' (Pure.indexStrC rfl rfl und9 hc (by omega)) ?_
          refine py' (Pure.neq rfl rfl) (pp' (Pure.pickT rfl rfl) (nl' ?_))
          refine Run.cond rfl (fun h5 => ?_) (fun h5 => ?_)
          · try simp only [Z] at h5
            refine sr' (as' rfl (nl' ?_))
            exact rt' Tryz.func76 (res1 rfl rfl) (by exact ⟨by rw [mayB_false hc (by simp [amK, h2, show ¬ c.toNat = 46 from by omega, show ¬ c.toNat = 45 from by omega, show ¬ c.toNat = 95 from by omega])], rfl⟩)
          · try simp only [Z] at h5
            refine sk' (ib' (rg' (mv' rfl ?_)))
            first | refine RunL.pure (Pure.addI rfl rfl (by omega)) (Wt.none rfl) rfl rfl ?_ | refine RunL.pure (Pure.add rfl rfl) (Wt.none rfl) rfl rfl ?_
            refine as' rfl (nl' ?_)
            refine kp' [0, 3] ?_
            exact ag' F ih (by exact ⟨i + 1, by omega, lt_succ_of hall hc (by simp [amK, show c.toNat = 95 from by omega]), rfl, rfl, rfl⟩)
        · try simp only [Z] at h4
          refine no' (no' (no' (no' (pp' (Pure.pickF rfl rfl) (nl' (cF' (sk' (ib' (rg' (mv' rfl ?_))))))))))
          first | refine RunL.pure (Pure.addI rfl rfl (by omega)) (Wt.none rfl) rfl rfl ?_ | refine RunL.pure (Pure.add rfl rfl) (Wt.none rfl) rfl rfl ?_
          refine as' rfl (nl' ?_)
          refine kp' [0, 3] ?_
          exact ag' F ih (by exact ⟨i + 1, by omega, lt_succ_of hall hc (by simp [amK, show c.toNat = 45 from by omega]), rfl, rfl, rfl⟩)
      · try simp only [Z] at h3
        refine no' (no' (no' (no' (pp' (Pure.pickF rfl rfl) (mv' rfl (no' (no' (no' (no' (pp' (Pure.pickF rfl rfl) (nl' (cF' (sk' (ib' (rg' (mv' rfl ?_))))))))))))))))
        first | refine RunL.pure (Pure.addI rfl rfl (by omega)) (Wt.none rfl) rfl rfl ?_ | refine RunL.pure (Pure.add rfl rfl) (Wt.none rfl) rfl rfl ?_
        refine as' rfl (nl' ?_)
        refine kp' [0, 3] ?_
        exact ag' F ih (by exact ⟨i + 1, by omega, lt_succ_of hall hc (by simp [amK, show c.toNat = 46 from by omega]), rfl, rfl, rfl⟩)
    · try simp only [Z] at h2
      refine no' (no' (no' (no' (pp' (Pure.pickF rfl rfl) (mv' rfl (no' (no' (no' (no' (pp' (Pure.pickF rfl rfl) (mv' rfl (no' (no' (no' (no' (pp' (Pure.pickF rfl rfl) (nl' (cF' (sk' (ib' (rg' (mv' rfl ?_))))))))))))))))))))))
      first | refine RunL.pure (Pure.addI rfl rfl (by omega)) (Wt.none rfl) rfl rfl ?_ | refine RunL.pure (Pure.add rfl rfl) (Wt.none rfl) rfl rfl ?_
      refine as' rfl (nl' ?_)
      refine kp' [0, 3] ?_
      exact ag' F ih (by exact ⟨i + 1, by omega, lt_succ_of hall hc (by simp [amK, h2]), rfl, rfl, rfl⟩)
  · try simp only [Z] at h1
    have hm := part_true hall (by rw [bl_length]; omega)
    have hl := bl_length s
    refine ex' rfl (sr' (mv' rfl (pp' (Pure.lenStr rfl rfl und9) (pp' (Pure.gtr rfl rfl) (mv' rfl ?_)))))
    refine RunL.split (d := 38) rfl (fun h2 => ?_) (fun h2 => ?_)
    · try simp only [Z] at h2
      refine py' (Pure.move rfl) (py' (Pure.lenStr rfl rfl und9) (py' (Pure.lss rfl rfl) (pp' (Pure.pickT rfl rfl) (as' rfl (nl' ?_)))))
      exact rt' Tryz.func76 (res1 rfl rfl) (by exact ⟨by rw [hm, hl]; congr 1; rw [Bool.eq_iff_iff]; simp; omega, rfl⟩)
    · try simp only [Z] at h2
      refine no' (no' (no' (pp' (Pure.pickF rfl rfl) (as' rfl (nl' ?_)))))
      exact rt' Tryz.func76 (res1 rfl rfl) (by exact ⟨by rw [hm, hl]; congr 1; rw [Bool.eq_iff_iff]; simp; omega, rfl⟩)

set_option maxRecDepth 100000 in
theorem rServer_ctr {G : Gp} {s : ByteArray} (hb : s.size ≤ 9223372036854775807) :
    Ctr Tryz.prog G 77 [.string s] [] (fun F v A => v = .bool (serverB (bl s)) ∧ A = F) := by
  refine Ctr.intro Tryz.func77 rfl (by kernel_rfl) rfl (fun F => ?_)
  simp only [List.nil_append]
  refine sr' (as' rfl (nl' (sq' (sr' (as' rfl (nl' (bl' ?_)))))))
  refine kp' [0, 3] ?_
  refine lp' F (fun n e A => ∃ (i : Nat), i ≤ s.size ∧ (∀ j c, j < i → (bl s)[j]? = some c → okS (bl s) j c = true) ∧ n = s.size - i ∧ e = [(0, .string s), (3, .int .i64 (i : Nat))] ∧ A = F) (s.size) (by exact ⟨0, by omega, fun j c hj => by omega, rfl, rfl, rfl⟩) ?_
  rintro n _ _ ⟨i, hi, hall, rfl, rfl, hA_⟩ ih
  replace hA_ := hA_.symm; subst hA_
  refine sq' (sr' (mv' rfl (mv' rfl (pp' (Pure.lenStr rfl rfl und9) (pp' (Pure.lss rfl rfl) (nl' ?_))))))
  refine Run.cond rfl (fun h1 => ?_) (fun h1 => ?_)
  · try simp only [Z] at h1
    obtain ⟨c, hc⟩ := get_some (xs := bl s) (i := i) (by rw [bl_length]; omega)
    have hl := bl_length s
    refine sk' (sq' (bl' (sr' (mv' rfl (mv' rfl ?_)))))
    refine pp' (Pure.indexStrC rfl rfl und9 hc (by omega)) ?_
    refine ca' rfl rfl (s := low_ctr) (q := ?_)
    rintro _ _ ⟨rfl, hA_⟩
    replace hA_ := hA_.symm; subst hA_
    refine as' rfl (nl' (sr' (mv' rfl (pp' (Pure.gtr rfl rfl) (mv' rfl ?_)))))
    refine RunL.split (d := 18) rfl (fun h2 => ?_) (fun h2 => ?_)
    · try simp only [Z] at h2
      refine py' (Pure.move rfl) (py' (Pure.move rfl) (py' (Pure.lenStr rfl rfl und9) ?_))
      first | refine RunL.pure (Pure.subI rfl rfl (by omega)) (Wt.yes rfl rfl rfl) rfl rfl ?_ | refine RunL.pure (Pure.sub rfl rfl) (Wt.yes rfl rfl rfl) rfl rfl ?_
      refine py' (Pure.lss rfl rfl) (pp' (Pure.pickT rfl rfl) (mv' rfl ?_))
      refine RunL.split (d := 25) rfl (fun h3 => ?_) (fun h3 => ?_)
      · try simp only [Z] at h3
        refine py' (Pure.move rfl) (py' (Pure.move rfl) ?_)
        refine py' (Pure.indexStrC rfl rfl und9 hc (by omega)) ?_
        refine py' (Pure.eql rfl rfl) (py' (Pure.move rfl) ?_)
        refine RunL.split (d := 30) rfl (fun h4 => ?_) (fun h4 => ?_)
        · try simp only [Z] at h4
          refine no' (no' (no' (no' (py' (Pure.pickT rfl rfl) (pp' (Pure.pickT rfl rfl) (as' rfl (nl' (sr' (mv' rfl (pp' (Pure.not rfl) (mv' rfl ?_)))))))))))
          refine RunL.split (d := 39) rfl (fun hlow => ?_) (fun hlow => ?_)
          · try simp only [Z] at hlow
            refine py' (Pure.move rfl) (py' (Pure.not rfl) (pp' (Pure.pickT rfl rfl) (nl' (cF' (sk' (ib' (rg' (mv' rfl ?_))))))))
            first | refine RunL.pure (Pure.addI rfl rfl (by omega)) (Wt.none rfl) rfl rfl ?_ | refine RunL.pure (Pure.add rfl rfl) (Wt.none rfl) rfl rfl ?_
            refine as' rfl (nl' ?_)
            refine kp' [0, 3] ?_
            exact ag' F ih (by exact ⟨i + 1, by omega, lt_succ_of2 hall hc (by simp [okS, hlow]; (try omega)), rfl, rfl, rfl⟩)
          · try simp only [Z] at hlow
            refine no' (no' (pp' (Pure.pickF rfl rfl) (nl' (cF' (sk' (ib' (rg' (mv' rfl ?_))))))))
            first | refine RunL.pure (Pure.addI rfl rfl (by omega)) (Wt.none rfl) rfl rfl ?_ | refine RunL.pure (Pure.add rfl rfl) (Wt.none rfl) rfl rfl ?_
            refine as' rfl (nl' ?_)
            refine kp' [0, 3] ?_
            exact ag' F ih (by exact ⟨i + 1, by omega, lt_succ_of2 hall hc (by simp [okS, hlow]; (try omega)), rfl, rfl, rfl⟩)
        · try simp only [Z] at h4
          refine py' (Pure.move rfl) (py' (Pure.move rfl) ?_)
          refine py' (Pure.indexStrC rfl rfl und9 hc (by omega)) ?_
          refine py' (Pure.eql rfl rfl) (py' (Pure.pickF rfl rfl) (pp' (Pure.pickT rfl rfl) (as' rfl (nl' (sr' (mv' rfl (pp' (Pure.not rfl) (mv' rfl ?_))))))))
          refine RunL.split (d := 39) rfl (fun hlow => ?_) (fun hlow => ?_)
          · try simp only [Z] at hlow
            refine py' (Pure.move rfl) (py' (Pure.not rfl) (pp' (Pure.pickT rfl rfl) (nl' ?_)))
            refine Run.cond rfl (fun h9 => ?_) (fun h9 => ?_)
            · try simp only [Z] at h9
              refine sr' (as' rfl (nl' ?_))
              exact rt' Tryz.func77 (res1 rfl rfl) (by exact ⟨by rw [server_false hc (by simp [okS, hlow]; (first | done | omega | (intros; omega) | (intros; constructor <;> omega)))], rfl⟩)
            · try simp only [Z] at h9
              refine sk' (ib' (rg' (mv' rfl ?_)))
              first | refine RunL.pure (Pure.addI rfl rfl (by omega)) (Wt.none rfl) rfl rfl ?_ | refine RunL.pure (Pure.add rfl rfl) (Wt.none rfl) rfl rfl ?_
              refine as' rfl (nl' ?_)
              refine kp' [0, 3] ?_
              exact ag' F ih (by exact ⟨i + 1, by omega, lt_succ_of2 hall hc (by simp [okS, hlow]; (try omega)), rfl, rfl, rfl⟩)
          · try simp only [Z] at hlow
            refine no' (no' (pp' (Pure.pickF rfl rfl) (nl' (cF' (sk' (ib' (rg' (mv' rfl ?_))))))))
            first | refine RunL.pure (Pure.addI rfl rfl (by omega)) (Wt.none rfl) rfl rfl ?_ | refine RunL.pure (Pure.add rfl rfl) (Wt.none rfl) rfl rfl ?_
            refine as' rfl (nl' ?_)
            refine kp' [0, 3] ?_
            exact ag' F ih (by exact ⟨i + 1, by omega, lt_succ_of2 hall hc (by simp [okS, hlow]; (try omega)), rfl, rfl, rfl⟩)
      · try simp only [Z] at h3
        refine no' (no' (no' (no' (no' (un' (un' (un' (un' (no' (pp' (Pure.pickF rfl rfl) (as' rfl (nl' (sr' (mv' rfl (pp' (Pure.not rfl) (mv' rfl ?_))))))))))))))))
        refine RunL.split (d := 39) rfl (fun hlow => ?_) (fun hlow => ?_)
        · try simp only [Z] at hlow
          refine py' (Pure.move rfl) (py' (Pure.not rfl) (pp' (Pure.pickT rfl rfl) (nl' (cT' (sr' (as' rfl (nl' ?_)))))))
          exact rt' Tryz.func77 (res1 rfl rfl) (by exact ⟨by rw [server_false hc (by simp [okS, hlow]; (first | done | omega | (intros; omega) | (intros; constructor <;> omega)))], rfl⟩)
        · try simp only [Z] at hlow
          refine no' (no' (pp' (Pure.pickF rfl rfl) (nl' (cF' (sk' (ib' (rg' (mv' rfl ?_))))))))
          first | refine RunL.pure (Pure.addI rfl rfl (by omega)) (Wt.none rfl) rfl rfl ?_ | refine RunL.pure (Pure.add rfl rfl) (Wt.none rfl) rfl rfl ?_
          refine as' rfl (nl' ?_)
          refine kp' [0, 3] ?_
          exact ag' F ih (by exact ⟨i + 1, by omega, lt_succ_of2 hall hc (by simp [okS, hlow]; (try omega)), rfl, rfl, rfl⟩)
    · try simp only [Z] at h2
      refine no' (no' (no' (no' (no' (pp' (Pure.pickF rfl rfl) (mv' rfl (no' (no' (no' (no' (no' (un' (un' (un' (un' (no' (pp' (Pure.pickF rfl rfl) (as' rfl (nl' (sr' (mv' rfl (pp' (Pure.not rfl) (mv' rfl ?_)))))))))))))))))))))))
      refine RunL.split (d := 39) rfl (fun hlow => ?_) (fun hlow => ?_)
      · try simp only [Z] at hlow
        refine py' (Pure.move rfl) (py' (Pure.not rfl) (pp' (Pure.pickT rfl rfl) (nl' (cT' (sr' (as' rfl (nl' ?_)))))))
        exact rt' Tryz.func77 (res1 rfl rfl) (by exact ⟨by rw [server_false hc (by simp [okS, hlow]; (first | done | omega | (intros; omega) | (intros; constructor <;> omega)))], rfl⟩)
      · try simp only [Z] at hlow
        refine no' (no' (pp' (Pure.pickF rfl rfl) (nl' (cF' (sk' (ib' (rg' (mv' rfl ?_))))))))
        first | refine RunL.pure (Pure.addI rfl rfl (by omega)) (Wt.none rfl) rfl rfl ?_ | refine RunL.pure (Pure.add rfl rfl) (Wt.none rfl) rfl rfl ?_
        refine as' rfl (nl' ?_)
        refine kp' [0, 3] ?_
        exact ag' F ih (by exact ⟨i + 1, by omega, lt_succ_of2 hall hc (by simp [okS, hlow]; (try omega)), rfl, rfl, rfl⟩)
  · try simp only [Z] at h1
    have hm := server_true hall (by rw [bl_length]; omega)
    have hl := bl_length s
    refine ex' rfl (sr' (mv' rfl (pp' (Pure.lenStr rfl rfl und9) (pp' (Pure.gtr rfl rfl) (mv' rfl ?_)))))
    refine RunL.split (d := 46) rfl (fun h2 => ?_) (fun h2 => ?_)
    · try simp only [Z] at h2
      refine py' (Pure.move rfl) (py' (Pure.lenStr rfl rfl und9) (py' (Pure.lss rfl rfl) (pp' (Pure.pickT rfl rfl) (as' rfl (nl' ?_)))))
      exact rt' Tryz.func77 (res1 rfl rfl) (by exact ⟨by rw [hm, hl]; congr 1; rw [Bool.eq_iff_iff]; simp; omega, rfl⟩)
    · try simp only [Z] at h2
      refine no' (no' (no' (pp' (Pure.pickF rfl rfl) (as' rfl (nl' ?_)))))
      exact rt' Tryz.func77 (res1 rfl rfl) (by exact ⟨by rw [hm, hl]; congr 1; rw [Bool.eq_iff_iff]; simp; omega, rfl⟩)

set_option maxRecDepth 100000 in
theorem colon_ctr {G : Gp} {s : ByteArray} (hb : s.size ≤ 9223372036854775807) :
    Ctr Tryz.prog G 75 [.string s] [] (fun F v A => v = .int .i64 (colI (bl s)) ∧ A = F) := by
  refine Ctr.intro Tryz.func75 rfl (by kernel_rfl) rfl (fun F => ?_)
  simp only [List.nil_append]
  refine sr' (as' rfl (nl' (sq' (sr' (as' rfl (nl' (bl' ?_)))))))
  refine kp' [0, 3] ?_
  refine lp' F (fun n e A => ∃ (i : Nat), i ≤ s.size ∧ (∀ j c, j < i → (bl s)[j]? = some c → c ≠ 58) ∧ n = s.size - i ∧ e = [(0, .string s), (3, .int .i64 (i : Nat))] ∧ A = F) (s.size) (by exact ⟨0, by omega, fun j c hj => by omega, rfl, rfl, rfl⟩) ?_
  rintro n _ _ ⟨i, hi, hall, rfl, rfl, hA_⟩ ih
  replace hA_ := hA_.symm; subst hA_
  refine sq' (sr' (mv' rfl (mv' rfl (pp' (Pure.lenStr rfl rfl und9) (pp' (Pure.lss rfl rfl) (nl' ?_))))))
  refine Run.cond rfl (fun h1 => ?_) (fun h1 => ?_)
  · try simp only [Z] at h1
    obtain ⟨c, hc⟩ := get_some (xs := bl s) (i := i) (by rw [bl_length]; omega)
    have hl := bl_length s
    refine sk' (sq' (bl' (sr' (mv' rfl (mv' rfl ?_)))))
    refine pp' (Pure.indexStrC rfl rfl und9 hc (by omega)) ?_
    refine pp' (Pure.eql rfl rfl) (nl' ?_)
    refine Run.cond rfl (fun h2 => ?_) (fun h2 => ?_)
    · try simp only [Z] at h2
      refine sr' (mv' rfl (as' rfl (nl' ?_)))
      exact rt' Tryz.func75 (res1 rfl rfl) (by exact ⟨by rw [colI_at hall (by rw [hc]; congr 1; exact u8_eq (n := 58) h2 (by decide))], rfl⟩)
    · try simp only [Z] at h2
      refine sk' (ib' (rg' (mv' rfl ?_)))
      first | refine RunL.pure (Pure.addI rfl rfl (by omega)) (Wt.none rfl) rfl rfl ?_ | refine RunL.pure (Pure.add rfl rfl) (Wt.none rfl) rfl rfl ?_
      refine as' rfl (nl' ?_)
      refine kp' [0, 3] ?_
      exact ag' F ih (by exact ⟨i + 1, by omega, lt_succ_of hall hc (fun e => h2 (by rw [e]; rfl)), rfl, rfl, rfl⟩)
  · try simp only [Z] at h1
    refine ex' rfl (sr' (as' rfl (nl' ?_)))
    exact rt' Tryz.func75 (res1 rfl rfl) (by exact ⟨by rw [colI_none (all_of_lt hall (by rw [bl_length]; omega))], rfl⟩)

set_option maxRecDepth 100000 in
theorem rNamed_ctr {G : Gp} {s : ByteArray} {sg : UInt8} (hs : sg ≠ 58) (hb : s.size ≤ 9223372036854775807) :
    Ctr Tryz.prog G 47 [.string s, .int .u8 (sg.toNat : Nat)] [] (fun F v A => v = .bool (namedB sg (bl s)) ∧ A = F) := by
  refine Ctr.intro Tryz.func47 rfl (by kernel_rfl) rfl (fun F => ?_)
  simp only [List.nil_append]
  refine sr' (as' rfl (nl' (sr' (mv' rfl ?_))))
  refine ca' rfl rfl (s := colon_ctr (by first | assumption | omega | (simp only [mkS_size, List.length_take, List.length_drop, bl_length]; omega) | (simp only [mkS_size, size_app, List.length_take, List.length_drop, List.length_append, bl_length, List.length_cons, List.length_nil, size_mk]; omega))) (q := ?_)
  rintro _ _ ⟨rfl, hA_⟩
  replace hA_ := hA_.symm; subst hA_
  refine as' rfl (nl' (sq' (sr' (mv' rfl (pp' (Pure.lss rfl rfl) (mv' rfl ?_))))))
  refine RunL.split (d := 12) rfl (fun h1 => ?_) (fun h1 => ?_)
  · try simp only [Z] at h1
    refine no' (no' (no' (no' (pp' (Pure.pickT rfl rfl) (nl' (cT' (sr' (as' rfl (nl' ?_)))))))))
    exact rt' Tryz.func47 (res1 rfl rfl) (by exact ⟨by rw [named_col hs h1], rfl⟩)
  · try simp only [Z] at h1
    have hl := bl_length s
    obtain ⟨c0, hc0⟩ := get_some (xs := bl s) (i := 0) (by have := colI_lt (l := bl s) (by omega); omega)
    refine py' (Pure.move rfl) ?_
    refine py' (Pure.indexStrC rfl rfl und9 hc0 (by omega)) ?_
    refine py' (Pure.move rfl) (py' (Pure.neq rfl rfl) (pp' (Pure.pickF rfl rfl) (nl' ?_)))
    refine Run.cond rfl (fun h2 => ?_) (fun h2 => ?_)
    · try simp only [Z] at h2
      refine sr' (as' rfl (nl' ?_))
      exact rt' Tryz.func47 (res1 rfl rfl) (by exact ⟨by rw [named_not (fun e => h2 (by obtain ⟨r, hr⟩ := split_yes e; rw [hr] at hc0; cases hc0; rfl))], rfl⟩)
    · try simp only [Z] at h2
      have hsg : c0 = sg := UInt8.toNat_inj.1 (by omega)
      obtain ⟨r, hr⟩ : ∃ r, bl s = sg :: r := by
        cases hq : bl s with
        | nil => rw [hq] at hc0; cases hc0
        | cons a r => rw [hq] at hc0; cases hc0; exact ⟨r, by rw [hsg]⟩
      have hcr : 0 ≤ colI r ∧ colI (bl s) = colI r + 1 := by
        have h0 := colI_cons sg r
        have hge := colI_ge r
        rw [if_neg hs, ← hr] at h0
        split at h0
        · omega
        · exact ⟨by omega, h0⟩
      obtain ⟨hcr, hcl⟩ := hcr
      have hlt := colI_lt (l := bl s) (by omega)
      refine sk' (sr' (mv' rfl (mv' rfl ?_)))
      refine pp' (Pure.sliceStr rfl rfl rfl und9 (by first | omega | (simp; done) | (simp; omega)) (by first | omega | (simp; done) | (simp; omega)) (by first | omega | (simp; done) | (simp; omega))) ?_
      refine ca' rfl rfl (s := rPart_ctr (by rw [ext_mkS, mkS_size]; simp; omega)) (q := ?_)
      rintro _ _ ⟨rfl, hA_⟩
      replace hA_ := hA_.symm; subst hA_
      refine as' rfl (nl' (sr' (mv' rfl (mv' rfl ?_))))
      first | refine RunL.pure (Pure.addI rfl rfl (by omega)) (Wt.none rfl) rfl rfl ?_ | refine RunL.pure (Pure.add rfl rfl) (Wt.none rfl) rfl rfl ?_
      refine pp' (Pure.sliceStrFrom rfl rfl und9 (by first | omega | (simp; done) | (simp; omega)) (by first | omega | (simp; done) | (simp; omega))) ?_
      refine ca' rfl rfl (s := rServer_ctr (by rw [ext_from, mkS_size]; simp; omega)) (q := ?_)
      rintro _ _ ⟨rfl, hA_⟩
      replace hA_ := hA_.symm; subst hA_
      have e1 : bl (s.extract (1 : Int).toNat (colI (bl s)).toNat) = r.take (colI r).toNat := by rw [ext_mkS, bl_mkS, hr, ← hr, hcl]; rw [hr, show (1 : Int).toNat = 1 from rfl, List.drop_succ_cons, List.drop_zero]; congr 1; omega
      have e2 : bl (s.extract (colI (bl s) + 1).toNat s.size) = r.drop ((colI r).toNat + 1) := by rw [ext_from, bl_mkS, hcl, hr, show (colI r + 1 + 1).toNat = ((colI r).toNat + 1) + 1 from by omega, List.drop_succ_cons]
      have e3 : namedB sg (bl s) = (mayB 0 (r.take (colI r).toNat) && serverB (r.drop ((colI r).toNat + 1))) := by rw [hr, namedB_cons, decide_eq_true rfl, decide_eq_true hcr]; simp
      refine as' rfl (nl' (sr' (mv' rfl (mv' rfl ?_))))
      refine RunL.split (d := 28) rfl (fun h3 => ?_) (fun h3 => ?_)
      · try simp only [Z] at h3
        refine py' (Pure.move rfl) (pp' (Pure.pickT rfl rfl) (as' rfl (nl' ?_)))
        exact rt' Tryz.func47 (res1 rfl rfl) (by exact ⟨by rw [e3, e2]; rw [e1] at h3; rw [h3]; rfl, rfl⟩)
      · try simp only [Z] at h3
        refine no' (pp' (Pure.pickF rfl rfl) (as' rfl (nl' ?_)))
        exact rt' Tryz.func47 (res1 rfl rfl) (by exact ⟨by rw [e3]; rw [e1] at h3; rw [h3]; rfl, rfl⟩)

set_option maxRecDepth 100000 in
theorem rEvent_ctr {G : Gp} {s : ByteArray} (hb : s.size ≤ 9223372036854775807) :
    Ctr Tryz.prog G 48 [.string s] [] (fun F v A => v = .bool (eventB (bl s)) ∧ A = F) := by
  refine Ctr.intro Tryz.func48 rfl (by kernel_rfl) rfl (fun F => ?_)
  simp only [List.nil_append]
  have hl := bl_length s
  refine sr' (as' rfl (nl' (sq' (sr' (mv' rfl (pp' (Pure.lenStr rfl rfl und9) (pp' (Pure.lss rfl rfl) (mv' rfl ?_))))))))
  refine RunL.split (d := 9) rfl (fun h1 => ?_) (fun h1 => ?_)
  · try simp only [Z] at h1
    refine no' (no' (no' (pp' (Pure.pickT rfl rfl) (mv' rfl (no' (no' (no' (pp' (Pure.pickT rfl rfl) (nl' (cT' (sr' (as' rfl (nl' ?_)))))))))))))
    exact rt' Tryz.func48 (res1 rfl rfl) (by exact ⟨by rw [event_short (by omega)], rfl⟩)
  · try simp only [Z] at h1
    refine py' (Pure.move rfl) (py' (Pure.lenStr rfl rfl und9) (py' (Pure.gtr rfl rfl) (pp' (Pure.pickF rfl rfl) (mv' rfl ?_))))
    refine RunL.split (d := 14) rfl (fun h2 => ?_) (fun h2 => ?_)
    · try simp only [Z] at h2
      refine no' (no' (no' (pp' (Pure.pickT rfl rfl) (nl' (cT' (sr' (as' rfl (nl' ?_))))))))
      exact rt' Tryz.func48 (res1 rfl rfl) (by exact ⟨by rw [event_long (by omega)], rfl⟩)
    · try simp only [Z] at h2
      obtain ⟨c0, hc0⟩ := get_some (xs := bl s) (i := 0) (by omega)
      refine py' (Pure.move rfl) ?_
      refine py' (Pure.indexStrC rfl rfl und9 hc0 (by omega)) ?_
      refine py' (Pure.neq rfl rfl) (pp' (Pure.pickF rfl rfl) (nl' ?_))
      refine Run.cond rfl (fun h3 => ?_) (fun h3 => ?_)
      · try simp only [Z] at h3
        refine sr' (as' rfl (nl' ?_))
        exact rt' Tryz.func48 (res1 rfl rfl) (by exact ⟨by rw [event_head hc0 (fun e => h3 (by rw [e]; rfl))], rfl⟩)
      · try simp only [Z] at h3
        obtain ⟨r, hr⟩ : ∃ r, bl s = 36 :: r := by
          cases hq : bl s with
          | nil => rw [hq] at hc0; cases hc0
          | cons a r => rw [hq] at hc0; cases hc0; exact ⟨r, by rw [u8_eq (n := 36) h3 (by decide)]; rfl⟩
        have hrl : r.length + 1 = s.size := by rw [← hl, hr]; simp
        refine sk' (sq' (sr' (as' rfl (nl' (bl' ?_)))))
        refine kp' [0, 3] ?_
        refine lp' F (fun n e A => ∃ (i : Nat), i ≤ r.length ∧ (∀ j c, j < i → r[j]? = some c → amK 2 c = true) ∧ n = r.length - i ∧ e = [(0, .string s), (3, .int .i64 ((i : Int) + 1))] ∧ A = F) (r.length) (by exact ⟨0, by omega, fun j c hj => by omega, rfl, rfl, rfl⟩) ?_
        rintro n _ _ ⟨i, hi, hall, rfl, rfl, hA_⟩ ih
        replace hA_ := hA_.symm; subst hA_
        refine sq' (sr' (mv' rfl (mv' rfl (pp' (Pure.lenStr rfl rfl und9) (pp' (Pure.lss rfl rfl) (nl' ?_))))))
        refine Run.cond rfl (fun h1 => ?_) (fun h1 => ?_)
        · try simp only [Z] at h1
          obtain ⟨c, hc⟩ := get_some (xs := r) (i := i) (by omega)
          have hc' : (bl s)[((i : Int) + 1).toNat]? = some c := by rw [show ((i : Int) + 1).toNat = i + 1 from by omega, hr]; exact hc
          refine sk' (sq' (bl' (sr' (mv' rfl (mv' rfl ?_)))))
          refine pp' (Pure.indexStrC rfl rfl und9 hc' (by omega)) ?_
          refine ca' rfl rfl (s := low_ctr) (q := ?_)
          rintro _ _ ⟨rfl, hA_⟩
          replace hA_ := hA_.symm; subst hA_
          refine as' rfl (nl' (sr' (mv' rfl (mv' rfl ?_))))
          refine pp' (Pure.indexStrC rfl rfl und9 hc' (by omega)) ?_
          refine pp' (Pure.geq rfl rfl) (mv' rfl ?_)
          refine RunL.split (d := 33) rfl (fun h4 => ?_) (fun h4 => ?_)
          · try simp only [Z] at h4
            refine py' (Pure.move rfl) (py' (Pure.move rfl) ?_)
            refine py' (Pure.indexStrC rfl rfl und9 hc' (by omega)) ?_
            refine py' (Pure.leq rfl rfl) (pp' (Pure.pickT rfl rfl) (as' rfl (nl' (sr' (mv' rfl (pp' (Pure.not rfl) (mv' rfl ?_)))))))
            refine RunL.split (d := 41) rfl (fun hlow => ?_) (fun hlow => ?_)
            · try simp only [Z] at hlow
              refine py' (Pure.move rfl) (py' (Pure.not rfl) (pp' (Pure.pickT rfl rfl) (mv' rfl ?_)))
              refine RunL.split (d := 45) rfl (fun h5 => ?_) (fun h5 => ?_)
              · try simp only [Z] at h5
                refine py' (Pure.move rfl) (py' (Pure.move rfl) ?_)
                refine py' (Pure.indexStrC rfl rfl und9 hc' (by omega)) ?_
                refine py' (Pure.neq rfl rfl) (pp' (Pure.pickT rfl rfl) (mv' rfl ?_))
                refine RunL.split (d := 51) rfl (fun h6 => ?_) (fun h6 => ?_)
                · try simp only [Z] at h6
                  refine py' (Pure.move rfl) (py' (Pure.move rfl) ?_)
                  refine py' (Pure.indexStrC rfl rfl und9 hc' (by omega)) ?_
                  refine py' (Pure.neq rfl rfl) (pp' (Pure.pickT rfl rfl) (nl' ?_))
                  refine Run.cond rfl (fun h7 => ?_) (fun h7 => ?_)
                  · try simp only [Z] at h7
                    refine sr' (as' rfl (nl' ?_))
                    exact rt' Tryz.func48 (res1 rfl rfl) (by exact ⟨by rw [hr]; rw [show eventB (36 :: r) = mayB 2 r from by simp [eventB], mayB_false hc (by rw [show amK 2 c = (lowB c || ((decide (65 ≤ c.toNat) && decide (c.toNat ≤ 90)) || (decide (c.toNat = 45) || decide (c.toNat = 95)))) from rfl]; simp [hlow]; omega)], rfl⟩)
                  · try simp only [Z] at h7
                    refine sk' (ib' (rg' (mv' rfl ?_)))
                    first | refine RunL.pure (Pure.addI rfl rfl (by omega)) (Wt.none rfl) rfl rfl ?_ | refine RunL.pure (Pure.add rfl rfl) (Wt.none rfl) rfl rfl ?_
                    refine as' rfl (nl' ?_)
                    rw [show (i : Int) + 1 + 1 = ((i + 1 : Nat) : Int) + 1 from by omega]
                    refine kp' [0, 3] ?_
                    exact ag' F ih (by exact ⟨i + 1, by omega, lt_succ_of hall hc (by rw [show amK 2 c = (lowB c || ((decide (65 ≤ c.toNat) && decide (c.toNat ≤ 90)) || (decide (c.toNat = 45) || decide (c.toNat = 95)))) from rfl]; simp [hlow]; (try omega)), rfl, rfl, rfl⟩)
                · try simp only [Z] at h6
                  refine no' (no' (no' (no' (pp' (Pure.pickF rfl rfl) (nl' (cF' (sk' (ib' (rg' (mv' rfl ?_))))))))))
                  first | refine RunL.pure (Pure.addI rfl rfl (by omega)) (Wt.none rfl) rfl rfl ?_ | refine RunL.pure (Pure.add rfl rfl) (Wt.none rfl) rfl rfl ?_
                  refine as' rfl (nl' ?_)
                  rw [show (i : Int) + 1 + 1 = ((i + 1 : Nat) : Int) + 1 from by omega]
                  refine kp' [0, 3] ?_
                  exact ag' F ih (by exact ⟨i + 1, by omega, lt_succ_of hall hc (by rw [show amK 2 c = (lowB c || ((decide (65 ≤ c.toNat) && decide (c.toNat ≤ 90)) || (decide (c.toNat = 45) || decide (c.toNat = 95)))) from rfl]; simp [hlow]; (try omega)), rfl, rfl, rfl⟩)
              · try simp only [Z] at h5
                refine no' (no' (no' (no' (pp' (Pure.pickF rfl rfl) (mv' rfl (no' (no' (no' (no' (pp' (Pure.pickF rfl rfl) (nl' (cF' (sk' (ib' (rg' (mv' rfl ?_))))))))))))))))
                first | refine RunL.pure (Pure.addI rfl rfl (by omega)) (Wt.none rfl) rfl rfl ?_ | refine RunL.pure (Pure.add rfl rfl) (Wt.none rfl) rfl rfl ?_
                refine as' rfl (nl' ?_)
                rw [show (i : Int) + 1 + 1 = ((i + 1 : Nat) : Int) + 1 from by omega]
                refine kp' [0, 3] ?_
                exact ag' F ih (by exact ⟨i + 1, by omega, lt_succ_of hall hc (by rw [show amK 2 c = (lowB c || ((decide (65 ≤ c.toNat) && decide (c.toNat ≤ 90)) || (decide (c.toNat = 45) || decide (c.toNat = 95)))) from rfl]; simp [hlow]; (try omega)), rfl, rfl, rfl⟩)
            · try simp only [Z] at hlow
              refine no' (no' (pp' (Pure.pickF rfl rfl) (mv' rfl (no' (no' (no' (no' (pp' (Pure.pickF rfl rfl) (mv' rfl (no' (no' (no' (no' (pp' (Pure.pickF rfl rfl) (nl' (cF' (sk' (ib' (rg' (mv' rfl ?_))))))))))))))))))))
              first | refine RunL.pure (Pure.addI rfl rfl (by omega)) (Wt.none rfl) rfl rfl ?_ | refine RunL.pure (Pure.add rfl rfl) (Wt.none rfl) rfl rfl ?_
              refine as' rfl (nl' ?_)
              rw [show (i : Int) + 1 + 1 = ((i + 1 : Nat) : Int) + 1 from by omega]
              refine kp' [0, 3] ?_
              exact ag' F ih (by exact ⟨i + 1, by omega, lt_succ_of hall hc (by rw [show amK 2 c = (lowB c || ((decide (65 ≤ c.toNat) && decide (c.toNat ≤ 90)) || (decide (c.toNat = 45) || decide (c.toNat = 95)))) from rfl]; simp [hlow]; (try omega)), rfl, rfl, rfl⟩)
          · try simp only [Z] at h4
            refine no' (no' (no' (no' (pp' (Pure.pickF rfl rfl) (as' rfl (nl' (sr' (mv' rfl (pp' (Pure.not rfl) (mv' rfl ?_))))))))))
            refine RunL.split (d := 41) rfl (fun hlow => ?_) (fun hlow => ?_)
            · try simp only [Z] at hlow
              refine py' (Pure.move rfl) (py' (Pure.not rfl) (pp' (Pure.pickT rfl rfl) (mv' rfl (py' (Pure.move rfl) (py' (Pure.move rfl) ?_)))))
              refine py' (Pure.indexStrC rfl rfl und9 hc' (by omega)) ?_
              refine py' (Pure.neq rfl rfl) (pp' (Pure.pickT rfl rfl) (mv' rfl ?_))
              refine RunL.split (d := 51) rfl (fun h6 => ?_) (fun h6 => ?_)
              · try simp only [Z] at h6
                refine py' (Pure.move rfl) (py' (Pure.move rfl) ?_)
                refine py' (Pure.indexStrC rfl rfl und9 hc' (by omega)) ?_
                refine py' (Pure.neq rfl rfl) (pp' (Pure.pickT rfl rfl) (nl' ?_))
                refine Run.cond rfl (fun h7 => ?_) (fun h7 => ?_)
                · try simp only [Z] at h7
                  refine sr' (as' rfl (nl' ?_))
                  exact rt' Tryz.func48 (res1 rfl rfl) (by exact ⟨by rw [hr]; rw [show eventB (36 :: r) = mayB 2 r from by simp [eventB], mayB_false hc (by rw [show amK 2 c = (lowB c || ((decide (65 ≤ c.toNat) && decide (c.toNat ≤ 90)) || (decide (c.toNat = 45) || decide (c.toNat = 95)))) from rfl]; simp [hlow]; omega)], rfl⟩)
                · try simp only [Z] at h7
                  refine sk' (ib' (rg' (mv' rfl ?_)))
                  first | refine RunL.pure (Pure.addI rfl rfl (by omega)) (Wt.none rfl) rfl rfl ?_ | refine RunL.pure (Pure.add rfl rfl) (Wt.none rfl) rfl rfl ?_
                  refine as' rfl (nl' ?_)
                  rw [show (i : Int) + 1 + 1 = ((i + 1 : Nat) : Int) + 1 from by omega]
                  refine kp' [0, 3] ?_
                  exact ag' F ih (by exact ⟨i + 1, by omega, lt_succ_of hall hc (by rw [show amK 2 c = (lowB c || ((decide (65 ≤ c.toNat) && decide (c.toNat ≤ 90)) || (decide (c.toNat = 45) || decide (c.toNat = 95)))) from rfl]; simp [hlow]; (try omega)), rfl, rfl, rfl⟩)
              · try simp only [Z] at h6
                refine no' (no' (no' (no' (pp' (Pure.pickF rfl rfl) (nl' (cF' (sk' (ib' (rg' (mv' rfl ?_))))))))))
                first | refine RunL.pure (Pure.addI rfl rfl (by omega)) (Wt.none rfl) rfl rfl ?_ | refine RunL.pure (Pure.add rfl rfl) (Wt.none rfl) rfl rfl ?_
                refine as' rfl (nl' ?_)
                rw [show (i : Int) + 1 + 1 = ((i + 1 : Nat) : Int) + 1 from by omega]
                refine kp' [0, 3] ?_
                exact ag' F ih (by exact ⟨i + 1, by omega, lt_succ_of hall hc (by rw [show amK 2 c = (lowB c || ((decide (65 ≤ c.toNat) && decide (c.toNat ≤ 90)) || (decide (c.toNat = 45) || decide (c.toNat = 95)))) from rfl]; simp [hlow]; (try omega)), rfl, rfl, rfl⟩)
            · try simp only [Z] at hlow
              refine no' (no' (pp' (Pure.pickF rfl rfl) (mv' rfl (no' (no' (no' (no' (pp' (Pure.pickF rfl rfl) (mv' rfl (no' (no' (no' (no' (pp' (Pure.pickF rfl rfl) (nl' (cF' (sk' (ib' (rg' (mv' rfl ?_))))))))))))))))))))
              first | refine RunL.pure (Pure.addI rfl rfl (by omega)) (Wt.none rfl) rfl rfl ?_ | refine RunL.pure (Pure.add rfl rfl) (Wt.none rfl) rfl rfl ?_
              refine as' rfl (nl' ?_)
              rw [show (i : Int) + 1 + 1 = ((i + 1 : Nat) : Int) + 1 from by omega]
              refine kp' [0, 3] ?_
              exact ag' F ih (by exact ⟨i + 1, by omega, lt_succ_of hall hc (by rw [show amK 2 c = (lowB c || ((decide (65 ≤ c.toNat) && decide (c.toNat ≤ 90)) || (decide (c.toNat = 45) || decide (c.toNat = 95)))) from rfl]; simp [hlow]; (try omega)), rfl, rfl, rfl⟩)
        · try simp only [Z] at h1
          refine ex' rfl (sr' (as' rfl (nl' ?_)))
          exact rt' Tryz.func48 (res1 rfl rfl) (by exact ⟨by rw [hr, show eventB (36 :: r) = mayB 2 r from by simp [eventB], part_true hall (by omega), decide_eq_true (by omega), decide_eq_true (by omega)]; rfl, rfl⟩)

set_option maxRecDepth 100000 in
theorem rThread_ctr {G : Gp} {s : ByteArray} (hb : s.size ≤ 9223372036854775807) :
    Ctr Tryz.prog G 49 [.string s] [] (fun F v A => v = .bool (threadB (bl s)) ∧ A = F) := by
  refine Ctr.intro Tryz.func49 rfl (by kernel_rfl) rfl (fun F => ?_)
  simp only [List.nil_append]
  refine sr' (as' rfl (nl' (sr' (mv' rfl ?_))))
  refine ca' rfl rfl (s := rEvent_ctr (by first | assumption | omega | (simp only [mkS_size, List.length_take, List.length_drop, bl_length]; omega) | (simp only [mkS_size, size_app, List.length_take, List.length_drop, List.length_append, bl_length, List.length_cons, List.length_nil, size_mk]; omega))) (q := ?_)
  rintro _ _ ⟨rfl, hA_⟩
  replace hA_ := hA_.symm; subst hA_
  refine as' rfl (nl' (sr' (mv' rfl (pp' (Pure.seql rfl rfl) (mv' rfl ?_)))))
  refine RunL.split (d := 8) rfl (fun h1 => ?_) (fun h1 => ?_)
  · try simp only [Z] at h1
    refine no' (no' (pp' (Pure.pickT rfl rfl) (mv' rfl (no' (pp' (Pure.pickT rfl rfl) (as' rfl (nl' ?_)))))))
    exact rt' Tryz.func49 (res1 rfl rfl) (by exact ⟨by congr 1; rw [threadB, decide_eq_true (show bl s = [] from h1)]; rfl, rfl⟩)
  · try simp only [Z] at h1
    refine py' (Pure.move rfl) (py' (Pure.seql rfl rfl) (pp' (Pure.pickF rfl rfl) (mv' rfl ?_)))
    refine RunL.split (d := 12) rfl (fun h2 => ?_) (fun h2 => ?_)
    · try simp only [Z] at h2
      refine no' (pp' (Pure.pickT rfl rfl) (as' rfl (nl' ?_)))
      exact rt' Tryz.func49 (res1 rfl rfl) (by exact ⟨by congr 1; rw [threadB, decide_eq_true (show bl s = mainL from h2)]; simp, rfl⟩)
    · try simp only [Z] at h2
      refine py' (Pure.move rfl) (pp' (Pure.pickF rfl rfl) (as' rfl (nl' ?_)))
      exact rt' Tryz.func49 (res1 rfl rfl) (by exact ⟨by congr 1; rw [threadB, decide_eq_false (show ¬ bl s = [] from h1), decide_eq_false (show ¬ bl s = mainL from h2)]; rfl, rfl⟩)

end Go.Proofs.YtaaondbmkibkkaaGreat
