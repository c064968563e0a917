/- Marks that are told. -/
import Derived.Test.YtaaondbmkibkkaaGreatK6
set_option linter.unusedVariables false
set_option linter.unusedSimpArgs false
set_option linter.unusedSectionVars false
namespace Go.Proofs.YtaaondbmkibkkaaGreat
open Go Csl


set_option maxHeartbeats 2000000 in
set_option maxRecDepth 100000 in
theorem rPublic_ctr {G : Gp} {a : Option Addr} {cap : Nat} {xs : List M} (h : SlR G 117 6 a xs.length (xs.flatMap cM)) (hb : xs.length ≤ 1000000) :
    Ctr Tryz.prog G 38 [.slice a xs.length cap] [] (fun F v A => ∃ a' c', v = .slice a' ((xs).filter (fun x => !isPriv x)).length c' ∧ A = Sl 117 6 a' (((xs).filter (fun x => !isPriv x))).length c' ((((xs).filter (fun x => !isPriv x))).flatMap cM) :: F) := by
  refine Ctr.intro Tryz.func38 rfl (by kernel_rfl) rfl (fun F => ?_)
  simp only [List.nil_append]
  refine Run.nilSl 117 6 ?_
  refine sr' (as' rfl (nl' (sr' (as' rfl (nl' (sq' (sr' (as' rfl (nl' (bl' ?_))))))))))
  refine kp' [0, 3, 4] ?_
  refine lp' F (fun n e A => ∃ (i : Nat) (a' : Option Addr) (c' : Nat), i ≤ xs.length ∧ n = xs.length - i ∧ e = [(0, .slice a xs.length cap), (3, .slice a' ((xs.take i).filter (fun x => !isPriv x)).length c'), (4, .int .i64 (i : Nat))] ∧ A = Sl 117 6 a' (((xs.take i).filter (fun x => !isPriv x))).length c' ((((xs.take i).filter (fun x => !isPriv x))).flatMap cM) :: F) (xs.length) (by exact ⟨0, none, 0, by omega, rfl, rfl, rfl⟩) ?_
  rintro n _ _ ⟨i, a', c', hi, rfl, rfl, hA_⟩ ih
  replace hA_ := hA_.symm; subst hA_
  refine sq' (sr' (mv' rfl (mv' rfl (pp' (Pure.lenSl rfl rfl und61) (pp' (Pure.lss rfl rfl) (nl' ?_))))))
  refine Run.cond rfl (fun h1 => ?_) (fun h1 => ?_)
  · try simp only [Z] at h1
    obtain ⟨m, hm⟩ := get_some (xs := xs) (i := i) (by omega)
    obtain ⟨ba, Ta, prea, posta, rfl, hroa⟩ := h.open1 (show 0 < xs.length by omega)
    have hfl : ((xs.take i).filter (fun x => !isPriv x)).length ≤ xs.length := Nat.le_trans (List.length_filter_le _ _) (by rw [List.length_take]; omega)
    refine sk' (sq' (bl' (sr' (mv' rfl (mv' rfl ?_)))))
    refine pp' (Pure.indexAddr rfl rfl und61 sz117 (by omega) (by omega)) ?_
    refine pp' (Pure.fieldAddr rfl fo117_0) (pp' (Pure.fieldAddr rfl fo33_3) ?_)
    refine RunL.load1R rfl hroa ((elem_at (pre := prea) (post := posta) (f := cM) (sz := 6) (j := 3) (fun _ _ => rfl) hm (by decide)).trans rfl) agg4 (Wt.none rfl) rfl ?_
    refine pp' (Pure.not rfl) (nl' ?_)
    refine Run.cond rfl (fun h2 => ?_) (fun h2 => ?_)
    · try simp only [Z] at h2
      have hs : ((xs.take (i + 1)).filter (fun x => !isPriv x)) = ((xs.take i).filter (fun x => !isPriv x)) ++ [m] := by rw [List.take_add_one, hm, List.filter_append]; simp_all
      refine rg' (mv' rfl (mv' rfl (mv' rfl ?_)))
      refine pp' (Pure.indexAddr rfl rfl und61 sz117 (by omega) (by omega)) ?_
      refine RunL.loadNR (vs := (cM m)) rfl hroa agg117 sz117 (elemN_len (pre := prea) (post := posta) (f := cM) (sz := 6) (j := 0) (n := 6) (fun _ _ => rfl) hm (by decide)) ((elemN_at (pre := prea) (post := posta) (f := cM) (sz := 6) (j := 0) (n := 6) (fun _ _ => rfl) hm (by decide)).trans rfl) (Wt.none rfl) rfl ?_
      refine RunL.lit (vals := [_]) (vs := ([m] : List M).flatMap cM) und61 sz117 zz117 rfl rfl rfl rfl rfl rfl (by simp [Value.cells, bv, cDD, cEdu, cEvn, cGG, cK, cM, cNde, cPP, cPos, cSS, cVV]) rfl (Wt.none rfl) rfl ?_; intro b23
      refine RunL.append (m := 1) (n' := (((xs.take i).filter (fun x => !isPriv x)) ++ [m]).length) (cs' := (((xs.take i).filter (fun x => !isPriv x)) ++ [m]).flatMap cM) rfl rfl (by first | ((repeat (first | (with_reducible exact F0 _) | apply F1)); done) | (repeat (first | exact F0 _ | apply F1))) rfl rfl und61 und61 rfl sz117 zz117 rfl by117 (by omega) (by omega) (fun w sw => sw.src) (isOne_flat (f := cM) (fun _ => rfl)) (by simp) (by rw [List.flatMap_append]) (Wt.none rfl) rfl ?_; intro a1 c1
      refine as' rfl (nl' (ib' (rg' (mv' rfl ?_))))
      first | refine RunL.pure (Pure.addI rfl rfl (by omega)) (Wt.none rfl) rfl rfl ?_ | refine RunL.pure (Pure.add rfl rfl) (Wt.none rfl) rfl rfl ?_
      refine as' rfl (nl' ?_)
      rw [← hs]
      refine kp' [0, 3, 4] ?_
      exact ag' F ih (by exact ⟨i + 1, a1, c1, by omega, rfl, rfl, rfl⟩)
    · try simp only [Z] at h2
      have hs : ((xs.take (i + 1)).filter (fun x => !isPriv x)) = ((xs.take i).filter (fun x => !isPriv x)) := by rw [List.take_add_one, hm, List.filter_append]; simp_all
      refine sk' (ib' (rg' (mv' rfl ?_)))
      first | refine RunL.pure (Pure.addI rfl rfl (by omega)) (Wt.none rfl) rfl rfl ?_ | refine RunL.pure (Pure.add rfl rfl) (Wt.none rfl) rfl rfl ?_
      refine as' rfl (nl' ?_)
      rw [← hs]
      refine kp' [0, 3, 4] ?_
      exact ag' F ih (by exact ⟨i + 1, a', c', by omega, rfl, rfl, rfl⟩)
  · try simp only [Z] at h1
    refine ex' rfl (sr' (mv' rfl (as' rfl (nl' ?_))))
    rw [List.take_of_length_le (by omega)]
    exact rt' Tryz.func38 (res1 rfl rfl) (by exact ⟨_, _, rfl, rfl⟩)

theorem rPublicO_ctr {G : Gp} {a : Option Addr} {cap : Nat} {xs : List M} (hb : xs.length ≤ 1000000) : Ctr Tryz.prog G 38 [.slice a xs.length cap] [Sl 117 6 a (xs).length cap ((xs).flatMap cM)] (fun F v A => ∃ a' c', v = .slice a' ((xs).filter (fun x => !isPriv x)).length c' ∧ A = Sl 117 6 a (xs).length cap ((xs).flatMap cM) :: Sl 117 6 a' (((xs).filter (fun x => !isPriv x))).length c' ((((xs).filter (fun x => !isPriv x))).flatMap cM) :: F) :=
  (Ctr.lend (Q := Sl 117 6 a (xs).length cap ((xs).flatMap cM)) (R := fun G => SlR G 117 6 a xs.length (xs.flatMap cM) ∧ xs.length ≤ cap) Lends.Sl cb38 (fun G' hle hr => rPublic_ctr hr.1 hb)).mono (by rintro F v A ⟨A', rfl, h⟩; obtain ⟨a', c', rfl, rfl⟩ := h; exact ⟨a', c', rfl, rfl⟩)
set_option maxRecDepth 100000 in
theorem Public_ctr {G : Gp} {p : Nat} {tl : List (K × Pos)} (h : TbR G p tl) (hn : KN tl) (hb : tl.length ≤ 1000) :
    Ctr Tryz.prog G 37 [.pointer (some ⟨p, 0, none⟩)] [] (fun F v A => ∃ a cap, v = .slice a ((ML tl).filter (fun x => !isPriv x)).length cap ∧ A = Sl 115 6 a (((ML tl).filter (fun x => !isPriv x))).length cap ((((ML tl).filter (fun x => !isPriv x))).flatMap cM) :: F) := by
  refine Ctr.intro Tryz.func37 rfl (by kernel_rfl) rfl (fun F => ?_)
  simp only [List.nil_append]
  have hml := ML_len tl
  refine sr' (as' rfl (nl' (sr' (mv' rfl ?_))))
  refine ca' rfl rfl (s := All_ctr h hn hb) (q := ?_)
  rintro _ _ ⟨a1, c1, rfl, hA_⟩
  replace hA_ := hA_.symm; subst hA_
  refine RunL.slLen2 (T := 115) (sz := 6) (n := (ML tl).length) (by first | ((repeat (first | (with_reducible exact F0 _) | apply F1)); done) | (repeat (first | exact F0 _ | apply F1))) ?_; intro ⟨_, hcap⟩
  refine ca' rfl rfl (s := DeleteFunc_ctr (by omega) hcap) (q := ?_)
  rintro _ _ ⟨rfl, hA_⟩
  replace hA_ := hA_.symm; subst hA_
  refine as' rfl (nl' ?_)
  exact rt' Tryz.func37 (res1 rfl rfl) (by exact ⟨_, _, rfl, rfl⟩)

theorem PublicO_ctr {G : Gp} {p : Nat} {tl : List (K × Pos)} (hn : KN tl) (hb : tl.length ≤ 1000) : Ctr Tryz.prog G 37 [.pointer (some ⟨p, 0, none⟩)] [Tb p tl] (fun F v A => ∃ a cap, v = .slice a ((ML tl).filter (fun x => !isPriv x)).length cap ∧ A = Tb p tl :: Sl 115 6 a (((ML tl).filter (fun x => !isPriv x))).length cap ((((ML tl).filter (fun x => !isPriv x))).flatMap cM) :: F) :=
  (Ctr.lend (Q := Tb p tl) (R := fun G => TbR G p tl) Lends.Tb cb37 (fun G' hle hr => Public_ctr hr hn hb)).mono (by rintro F v A ⟨A', rfl, h⟩; obtain ⟨a, cap, rfl, rfl⟩ := h; exact ⟨a, cap, rfl, rfl⟩)
end Go.Proofs.YtaaondbmkibkkaaGreat
