/- Made dags. -/
import Derived.Test.YtaaondbmkibkkaaGreatM1
import Derived.Test.YtaaondbmkibkkaaGreatH5
set_option linter.unusedVariables false
set_option linter.unusedSimpArgs false
set_option linter.unusedSectionVars false
namespace Go.Proofs.YtaaondbmkibkkaaGreat
open Go Csl
theorem und80 : Tryz.prog.underlying 80 = some (Go.TypeDesc.slice 4) := Tryz.underlying80
theorem zz4 : zeroIs Tryz.prog 4 = some (.bool false) := by kernel_rfl
theorem by4 : bytesIs Tryz.prog 4 = some 1 := by kernel_rfl
theorem und42 : Tryz.prog.underlying 42 = some (Go.TypeDesc.slice 130) := Tryz.underlying42
theorem fo130_3 : fieldOff Tryz.prog 130 3 = some 3 := by kernel_rfl
theorem fo130_2 : fieldOff Tryz.prog 130 2 = some 2 := by kernel_rfl
theorem agg43 : isAggOf Tryz.prog 43 = some false := by kernel_rfl
theorem fo130_0 : fieldOff Tryz.prog 130 0 = some 0 := by kernel_rfl
theorem fo130_1 : fieldOff Tryz.prog 130 1 = some 1 := by kernel_rfl

set_option maxHeartbeats 8000000 in
set_option maxRecDepth 100000 in
theorem rdMade_ctr {G : Gp} {room : ByteArray} {a : Option Addr} {c : Nat} {xs : List GX} (hr : namedB 33 (bl room) = true) (hrs : room.size ≤ 1000) (h : SlR G 130 4 a xs.length (xs.flatMap cGX)) (hx : GXok G xs) :
    Ctr Tryz.prog G 31 [.string room, .slice a xs.length c] [] (fun F v A => ∃ K D, HasD (gk K) D room (madeL room xs) ∧ v = .agg (cDD D).toArray ∧ A = Pool K :: F) := by
  refine Ctr.intro Tryz.func31 rfl (by kernel_rfl) rfl (fun F => ?_)
  simp only [List.nil_append]
  refine sr' ?_
  refine RunL.alloc zz76 (Wt.none rfl) rfl ?_; intro b4
  refine nl' (sr' (mv' rfl (pp' (Pure.buildL (ps := [(0, _)]) (zs := [(.string .empty), (.slice none 0 0)]) (xs := (cDD ((⟨room, ⟨none, 0, 0⟩⟩ : DD)))) pl76 rfl rfl rfl rfl) ?_)))
  refine RunL.alloc zz76 (Wt.none rfl) rfl ?_; intro b5
  refine sW' (cDD ((⟨room, ⟨none, 0, 0⟩⟩ : DD))) rfl rfl sz76 ?_
  refine nl' ?_
  refine Run.poolNew ?_
  refine sq' (sr' (as' rfl (nl' (bl' ?_))))
  refine kp' [0, 1, 4, 5, 6] ?_
  refine lp' F (fun n e_ A => ∃ (i : Nat) (K : Hp) (D : DD), i ≤ xs.length ∧ i ≤ 9 ∧ HasD (gk K) D room (madeN room (xs.take i)) ∧ n = 9 - i ∧ e_ = [(0, .string room), (1, .slice a xs.length c), (4, .pointer (some ⟨b4, 0, none⟩)), (5, .pointer (some ⟨b5, 0, none⟩)), (6, .int .i64 (i : Nat))] ∧ A = row b4 76 (cDD (⟨.empty, ⟨none, 0, 0⟩⟩ : DD)) :: row b5 76 (cDD D) :: Pool K :: F) (9) (by exact ⟨0, Hp.empty, (⟨room, ⟨none, 0, 0⟩⟩ : DD), by omega, by omega, ⟨rfl, [], rfl, rfl, .inl ⟨rfl, rfl⟩, Nat.le_refl _, fun y hy => by cases hy⟩, rfl, rfl, rfl⟩) ?_
  rintro n _ _ ⟨i, K, D, hi, hi9, hD, rfl, rfl, hA_⟩ ih
  replace hA_ := hA_.symm; subst hA_
  refine sq' (sr' (mv' rfl (mv' rfl (pp' (Pure.lenSl rfl rfl und42) (pp' (Pure.lss rfl rfl) (mv' rfl ?_))))))
  refine RunL.split (d := 20) rfl (fun c0 => ?_) (fun c0 => ?_)
  · try simp only [Z] at c0
    refine py' (Pure.move rfl) (py' (Pure.lss rfl rfl) (pp' (Pure.pickT rfl rfl) (nl' ?_)))
    refine Run.cond rfl (fun c1 => ?_) (fun c1 => ?_)
    · try simp only [Z] at c1
      obtain ⟨x, hxi⟩ := get_some (xs := xs) (i := i) (by omega)
      have hxm := List.mem_of_getElem? hxi
      obtain ⟨hxo, hxI⟩ := hx x hxm
      obtain ⟨bx, Tx, prx, pox, hpx, hrx⟩ := h.open1 (show 0 < xs.length by omega)
      have hx1 := wf_i64 hxo.1
      have hx2 := wf_i64 hxo.2.1
      have hx3 := wf_i64 hxo.2.2
      have hLl : (madeN room (xs.take i)).length = i := by rw [madeN_len, List.length_take]; omega
      have hxn := hxI.1
      have ih1 := ih
      refine sk' (sq' (bl' (sq' ?_)))
      refine Run.cut (fun e_ A => ∃ b7 : Nat, e_ = [(0, .string room), (1, .slice a xs.length c), (4, .pointer (some ⟨b4, 0, none⟩)), (5, .pointer (some ⟨b5, 0, none⟩)), (6, .int .i64 (i : Nat)), (7, .pointer (some ⟨b7, 0, none⟩))] ∧ A = row b7 49 (cEvn (⟨eventOf (i : Nat), room, (⟨none, 0, 0⟩ : Sli), .empty, userOf x.1.user, around x.1.does 3⟩ : Evn)) :: row b4 76 (cDD (⟨.empty, ⟨none, 0, 0⟩⟩ : DD)) :: row b5 76 (cDD D) :: Pool K :: F) (fun e A hM => ?_) (fun hk => ?_)
      · obtain ⟨b7, rfl, hA_⟩ := hM
        replace hA_ := hA_.symm; subst hA_
        refine sr' ?_
        refine RunL.make1 (n := 9) rfl rfl und80 sz4 zz4 by4 rfl (by omega) (by omega) (Wt.none rfl) rfl ?_; intro b42
        obtain ⟨a8, ha8⟩ : ∃ x : Option Addr, x = some ⟨b42, 0, none⟩ := ⟨_, rfl⟩
        rw [← ha8, onL_nil i]
        refine as' rfl (nl' (sq' (sr' (as' rfl (nl' ?_)))))
        refine Run.cut (fun e_ A => ∃ (ol : List Bool), ol.length = 9 ∧ (∀ k, k < i → ol[k]? = some (onB i (x.2.take 3) k)) ∧ e_ = [(0, .string room), (1, .slice a xs.length c), (4, .pointer (some ⟨b4, 0, none⟩)), (5, .pointer (some ⟨b5, 0, none⟩)), (6, .int .i64 (i : Nat)), (7, .pointer (some ⟨b7, 0, none⟩)), (8, .slice a8 9 9)] ∧ A = Sl 4 1 a8 9 9 ((ol).map Value.bool) :: row b7 49 (cEvn (⟨eventOf (i : Nat), room, (⟨none, 0, 0⟩ : Sli), .empty, userOf x.1.user, around x.1.does 3⟩ : Evn)) :: row b4 76 (cDD (⟨.empty, ⟨none, 0, 0⟩⟩ : DD)) :: row b5 76 (cDD D) :: Pool K :: F) (fun e A hM => ?_) (fun hk => ?_)
        · obtain ⟨ol, hol9, hol, rfl, hA_⟩ := hM
          replace hA_ := hA_.symm; subst hA_
          refine Run.nilSl 9 1 ?_
          refine sq' (sr' (as' rfl (nl' (bl' ?_))))
          refine kp' [0, 1, 4, 5, 6, 7, 8, 10] ?_
          refine lp' F (fun n e_ A => ∃ (k : Nat) (a2 : Option Addr) (c2 : Nat), k ≤ i ∧ n = i - k ∧ e_ = [(0, .string room), (1, .slice a xs.length c), (4, .pointer (some ⟨b4, 0, none⟩)), (5, .pointer (some ⟨b5, 0, none⟩)), (6, .int .i64 (i : Nat)), (7, .pointer (some ⟨b7, 0, none⟩)), (8, .slice a8 9 9), (10, .int .i64 (k : Nat))] ∧ A = Sl 4 1 a8 9 9 ((ol).map Value.bool) :: row b7 49 (cEvn (⟨eventOf (i : Nat), room, (⟨a2, (pk i k (x.2.take 3)).length, c2⟩ : Sli), .empty, userOf x.1.user, around x.1.does 3⟩ : Evn)) :: Sl 9 1 a2 (pk i k (x.2.take 3)).length c2 ((pk i k (x.2.take 3)).map Value.string) :: row b4 76 (cDD (⟨.empty, ⟨none, 0, 0⟩⟩ : DD)) :: row b5 76 (cDD D) :: Pool K :: F) (i) (by exact ⟨0, none, 0, by omega, rfl, rfl, rfl⟩) ?_
          rintro n _ _ ⟨k, a2, c2, hki, rfl, rfl, hA_⟩ ih
          replace hA_ := hA_.symm; subst hA_
          refine sq' (sr' (mv' rfl (mv' rfl (pp' (Pure.lss rfl rfl) (nl' ?_)))))
          refine Run.cond rfl (fun h4 => ?_) (fun h4 => ?_)
          · try simp only [Z] at h4
            have hpkl := pk_len i k (x.2.take 3)
            have hwn : (⟨eventOf (i : Nat), room, (⟨a2, (pk i k (x.2.take 3)).length, c2⟩ : Sli), .empty, userOf x.1.user, around x.1.does 3⟩ : Evn).par.n = (pk i k (x.2.take 3)).length := rfl
            refine sk' ?_
            refine Run.openSl (a := a8) (n := 9) (by first | ((repeat (first | (with_reducible exact F0 _) | apply F1)); done) | (repeat (first | exact F0 _ | apply F1))) (by omega) ?_; rintro b8 pre8 post8 rfl hsl1 hsl2 hsl3
            refine sq' (bl' (sr' (mv' rfl (mv' rfl ?_))))
            refine pp' (Pure.indexAddr rfl rfl und80 sz4 (by omega) (by omega)) ?_
            skip
            refine RunL.load1 rfl (by first | ((repeat (first | (with_reducible exact F0 _) | apply F1)); done) | (repeat (first | exact F0 _ | apply F1))) (elem1_at (hol k (by omega))) agg4 (Wt.none rfl) rfl ?_
            refine nl' ?_
            refine Run.cond rfl (fun h5 => ?_) (fun h5 => ?_)
            · try simp only [Z] at h5
              refine Run.regionD' (by kernel_rfl) (by kernel_rfl) (fun hok97 => ?_)
              refine dp' 0 hok97 rfl (Pure.fieldAddr rfl fo49_2) (dp' 2 hok97 rfl (Pure.move rfl) ?_)
              refine RunD.two (i := 1) (j := 3) (by kernel_rfl) rfl rfl ?_ ?_
              · skip
                refine l1' rfl agg47 ?_
                refine RunL.nilD' ?_
                refine RunD.one (i := 3) (by kernel_rfl) rfl ?_
                · skip
                  refine ca' rfl rfl (s := EventOf_ctr (z := (k : Nat)) (by omega)) (q := ?_)
                  rintro _ _ ⟨rfl, hA_⟩
                  replace hA_ := hA_.symm; subst hA_
                  refine RunL.nilD' ?_
                  refine RunD.one (i := 4) (by kernel_rfl) rfl ?_
                  · skip
                    refine RunL.lit (vals := [_]) (vs := [_]) und47 sz9 zz9 rfl rfl rfl rfl rfl rfl (by simp [Value.cells, bv, cDD, cEdu, cEvn, cGG, cK, cM, cNde, cPP, cPos, cSS, cVV]) rfl (Wt.none rfl) rfl ?_; intro b86
                    refine RunL.nilD' ?_
                    refine RunD.one (i := 5) (by kernel_rfl) rfl ?_
                    · skip
                      refine RunL.append (m := 1) (n' := (pk i (k + 1) (x.2.take 3)).length) (cs' := (pk i (k + 1) (x.2.take 3)).map Value.string) rfl rfl (by first | ((repeat (first | (with_reducible exact F0 _) | apply F1)); done) | (repeat (first | exact F0 _ | apply F1))) rfl rfl und47 und47 rfl sz9 zz9 rfl by9 (by omega) (by omega) (fun w sw => sw.src) (by simp [Value.isOne]) (by rw [pk_next, if_pos h5]; simp) (by rw [pk_next, if_pos h5, List.map_append]; rfl) (Wt.none rfl) rfl ?_; intro a3 c3
                      refine RunL.nilD' ?_
                      refine dp' 6 hok97 rfl (Pure.fieldAddr rfl fo49_2) ?_
                      refine RunD.one (i := 7) (by kernel_rfl) rfl ?_
                      · skip
                        refine RunL.store1A (cs' := (cEvn ((⟨eventOf (i : Nat), room, (⟨a3, (pk i (k + 1) (x.2.take 3)).length, c3⟩ : Sli), .empty, userOf x.1.user, around x.1.does 3⟩ : Evn)))) rfl rfl (by first | ((repeat (first | (with_reducible exact F0 _) | apply F1)); done) | (repeat (first | exact F0 _ | apply F1))) sz47 (by rfl) (by first | exact Nat.le_of_ble_eq_true rfl | (simp; done) | (simp; omega)) rfl (Wt.none rfl) ?_
                        refine RunL.nilD' ?_
                        refine RunD.nilR (by kernel_rfl) ?_
                        refine ib' ?_
                        refine Run.mkSl (b := b8) (pre := pre8) (post := post8) (sz := 1) (n := 9) (cs := (ol).map Value.bool) (by first | ((repeat (first | (with_reducible exact F0 _) | apply F1)); done) | (repeat (first | exact F0 _ | apply F1))) (by simpa using hol9) hsl2 hsl3 ?_
                        refine rg' (mv' rfl ?_)
                        first | refine RunL.pure (Pure.addI rfl rfl (by omega)) (Wt.none rfl) rfl rfl ?_ | refine RunL.pure (Pure.add rfl rfl) (Wt.none rfl) rfl rfl ?_
                        refine as' rfl (nl' ?_)
                        refine kp' [0, 1, 4, 5, 6, 7, 8, 10] ?_
                        exact ag' F ih (by exact ⟨k + 1, a3, c3, by omega, rfl, rfl, rfl⟩)
              · skip
                refine ca' rfl rfl (s := EventOf_ctr (z := (k : Nat)) (by omega)) (q := ?_)
                rintro _ _ ⟨rfl, hA_⟩
                replace hA_ := hA_.symm; subst hA_
                refine RunL.nilD' ?_
                refine RunD.two (i := 1) (j := 4) (by kernel_rfl) rfl rfl ?_ ?_
                · skip
                  refine l1' rfl agg47 ?_
                  refine RunL.nilD' ?_
                  refine RunD.one (i := 4) (by kernel_rfl) rfl ?_
                  · skip
                    refine RunL.lit (vals := [_]) (vs := [_]) und47 sz9 zz9 rfl rfl rfl rfl rfl rfl (by simp [Value.cells, bv, cDD, cEdu, cEvn, cGG, cK, cM, cNde, cPP, cPos, cSS, cVV]) rfl (Wt.none rfl) rfl ?_; intro b86
                    refine RunL.nilD' ?_
                    refine RunD.one (i := 5) (by kernel_rfl) rfl ?_
                    · skip
                      refine RunL.append (m := 1) (n' := (pk i (k + 1) (x.2.take 3)).length) (cs' := (pk i (k + 1) (x.2.take 3)).map Value.string) rfl rfl (by first | ((repeat (first | (with_reducible exact F0 _) | apply F1)); done) | (repeat (first | exact F0 _ | apply F1))) rfl rfl und47 und47 rfl sz9 zz9 rfl by9 (by omega) (by omega) (fun w sw => sw.src) (by simp [Value.isOne]) (by rw [pk_next, if_pos h5]; simp) (by rw [pk_next, if_pos h5, List.map_append]; rfl) (Wt.none rfl) rfl ?_; intro a3 c3
                      refine RunL.nilD' ?_
                      refine dp' 6 hok97 rfl (Pure.fieldAddr rfl fo49_2) ?_
                      refine RunD.one (i := 7) (by kernel_rfl) rfl ?_
                      · skip
                        refine RunL.store1A (cs' := (cEvn ((⟨eventOf (i : Nat), room, (⟨a3, (pk i (k + 1) (x.2.take 3)).length, c3⟩ : Sli), .empty, userOf x.1.user, around x.1.does 3⟩ : Evn)))) rfl rfl (by first | ((repeat (first | (with_reducible exact F0 _) | apply F1)); done) | (repeat (first | exact F0 _ | apply F1))) sz47 (by rfl) (by first | exact Nat.le_of_ble_eq_true rfl | (simp; done) | (simp; omega)) rfl (Wt.none rfl) ?_
                        refine RunL.nilD' ?_
                        refine RunD.nilR (by kernel_rfl) ?_
                        refine ib' ?_
                        refine Run.mkSl (b := b8) (pre := pre8) (post := post8) (sz := 1) (n := 9) (cs := (ol).map Value.bool) (by first | ((repeat (first | (with_reducible exact F0 _) | apply F1)); done) | (repeat (first | exact F0 _ | apply F1))) (by simpa using hol9) hsl2 hsl3 ?_
                        refine rg' (mv' rfl ?_)
                        first | refine RunL.pure (Pure.addI rfl rfl (by omega)) (Wt.none rfl) rfl rfl ?_ | refine RunL.pure (Pure.add rfl rfl) (Wt.none rfl) rfl rfl ?_
                        refine as' rfl (nl' ?_)
                        refine kp' [0, 1, 4, 5, 6, 7, 8, 10] ?_
                        exact ag' F ih (by exact ⟨k + 1, a3, c3, by omega, rfl, rfl, rfl⟩)
                · skip
                  refine RunL.lit (vals := [_]) (vs := [_]) und47 sz9 zz9 rfl rfl rfl rfl rfl rfl (by simp [Value.cells, bv, cDD, cEdu, cEvn, cGG, cK, cM, cNde, cPP, cPos, cSS, cVV]) rfl (Wt.none rfl) rfl ?_; intro b86
                  refine RunL.nilD' ?_
                  refine RunD.one (i := 1) (by kernel_rfl) rfl ?_
                  · skip
                    refine l1' rfl agg47 ?_
                    refine RunL.nilD' ?_
                    refine RunD.one (i := 5) (by kernel_rfl) rfl ?_
                    · skip
                      refine RunL.append (m := 1) (n' := (pk i (k + 1) (x.2.take 3)).length) (cs' := (pk i (k + 1) (x.2.take 3)).map Value.string) rfl rfl (by first | ((repeat (first | (with_reducible exact F0 _) | apply F1)); done) | (repeat (first | exact F0 _ | apply F1))) rfl rfl und47 und47 rfl sz9 zz9 rfl by9 (by omega) (by omega) (fun w sw => sw.src) (by simp [Value.isOne]) (by rw [pk_next, if_pos h5]; simp) (by rw [pk_next, if_pos h5, List.map_append]; rfl) (Wt.none rfl) rfl ?_; intro a3 c3
                      refine RunL.nilD' ?_
                      refine dp' 6 hok97 rfl (Pure.fieldAddr rfl fo49_2) ?_
                      refine RunD.one (i := 7) (by kernel_rfl) rfl ?_
                      · skip
                        refine RunL.store1A (cs' := (cEvn ((⟨eventOf (i : Nat), room, (⟨a3, (pk i (k + 1) (x.2.take 3)).length, c3⟩ : Sli), .empty, userOf x.1.user, around x.1.does 3⟩ : Evn)))) rfl rfl (by first | ((repeat (first | (with_reducible exact F0 _) | apply F1)); done) | (repeat (first | exact F0 _ | apply F1))) sz47 (by rfl) (by first | exact Nat.le_of_ble_eq_true rfl | (simp; done) | (simp; omega)) rfl (Wt.none rfl) ?_
                        refine RunL.nilD' ?_
                        refine RunD.nilR (by kernel_rfl) ?_
                        refine ib' ?_
                        refine Run.mkSl (b := b8) (pre := pre8) (post := post8) (sz := 1) (n := 9) (cs := (ol).map Value.bool) (by first | ((repeat (first | (with_reducible exact F0 _) | apply F1)); done) | (repeat (first | exact F0 _ | apply F1))) (by simpa using hol9) hsl2 hsl3 ?_
                        refine rg' (mv' rfl ?_)
                        first | refine RunL.pure (Pure.addI rfl rfl (by omega)) (Wt.none rfl) rfl rfl ?_ | refine RunL.pure (Pure.add rfl rfl) (Wt.none rfl) rfl rfl ?_
                        refine as' rfl (nl' ?_)
                        refine kp' [0, 1, 4, 5, 6, 7, 8, 10] ?_
                        exact ag' F ih (by exact ⟨k + 1, a3, c3, by omega, rfl, rfl, rfl⟩)
            · try simp only [Z] at h5
              skip
              refine sk' (ib' (rg' (mv' rfl ?_)))
              first | refine RunL.pure (Pure.addI rfl rfl (by omega)) (Wt.none rfl) rfl rfl ?_ | refine RunL.pure (Pure.add rfl rfl) (Wt.none rfl) rfl rfl ?_
              refine as' rfl (nl' ?_)
              refine Run.mkSl (b := b8) (pre := pre8) (post := post8) (sz := 1) (n := 9) (cs := (ol).map Value.bool) (by first | ((repeat (first | (with_reducible exact F0 _) | apply F1)); done) | (repeat (first | exact F0 _ | apply F1))) (by simpa using hol9) hsl2 hsl3 ?_
              have hpe : (pk i (k + 1) (x.2.take 3)) = (pk i k (x.2.take 3)) := by rw [pk_next, if_neg (by rw [h5]; simp), List.append_nil]
              refine kp' [0, 1, 4, 5, 6, 7, 8, 10] ?_
              exact ag' F ih (by exact ⟨k + 1, a2, c2, by omega, rfl, rfl, by rw [hpe]⟩)
          · try simp only [Z] at h4
            obtain rfl : i = k := by omega
            refine ex' rfl (sq' ?_)
            refine Run.cut (fun e_ A => e_ = [(0, .string room), (1, .slice a xs.length c), (4, .pointer (some ⟨b4, 0, none⟩)), (5, .pointer (some ⟨b5, 0, none⟩)), (6, .int .i64 (i : Nat)), (7, .pointer (some ⟨b7, 0, none⟩))] ∧ A = row b7 49 (cEvn (⟨eventOf (i : Nat), room, (⟨a2, (pk i i (x.2.take 3)).length, c2⟩ : Sli), (madeThr (madeN room (xs.take i)) x), userOf x.1.user, around x.1.does 3⟩ : Evn)) :: Sl 9 1 a2 (pk i i (x.2.take 3)).length c2 ((pk i i (x.2.take 3)).map Value.string) :: row b4 76 (cDD (⟨.empty, ⟨none, 0, 0⟩⟩ : DD)) :: row b5 76 (cDD D) :: Pool K :: F) (fun e A hM => ?_) (fun hk => ?_)
            · obtain ⟨rfl, hA_⟩ := hM
              replace hA_ := hA_.symm; subst hA_
              have hev : Evn.ev (⟨eventOf (i : Nat), room, (⟨a2, (pk i i (x.2.take 3)).length, c2⟩ : Sli), (madeThr (madeN room (xs.take i)) x), userOf x.1.user, around x.1.does 3⟩ : Evn) (pk i i (x.2.take 3)) = madeEv room (madeN room (xs.take i)) x := by
                show (⟨eventOf (i : Nat), room, pk i i (x.2.take 3), madeThr (madeN room (xs.take i)) x, userOf x.1.user, around x.1.does 3⟩ : Evt) = ⟨eventOf ((madeN room (xs.take i)).length : Nat), room, madePs (madeN room (xs.take i)).length x, madeThr (madeN room (xs.take i)) x, userOf x.1.user, around x.1.does 3⟩
                rw [hLl]; rfl
              refine Run.poolSl (T := 9) (sz := 1) (a := a2) (by repeat (first | (with_reducible exact Take.nil _) | (apply Take.cons (by first | ((repeat (first | (with_reducible exact F0 _) | apply F1)); done) | (repeat (first | exact F0 _ | apply F1)))))) ?_; intro K1 hK1 hps1
              refine sr' (lA' (cDD D) rfl agg76 sz76 ?_)
              refine lA' (cEvn ((⟨eventOf (i : Nat), room, (⟨a2, (pk i i (x.2.take 3)).length, c2⟩ : Sli), (madeThr (madeN room (xs.take i)) x), userOf x.1.user, around x.1.does 3⟩ : Evn))) rfl agg49 sz49 ?_
              refine ca' rfl rfl (s := rdAddK_ctr (ps := (pk i i (x.2.take 3))) (hD.hp hK1) (by omega) ⟨rfl, hps1⟩ (by rw [hev]; exact made_wf hrs (by omega))) (q := ?_)
              rintro _ _ ⟨K2, D2, hK2, hD2, rfl, hA_⟩
              replace hA_ := hA_.symm; subst hA_
              have hD3 : HasD (gk K2) D2 room (madeN room (xs.take (i + 1))) := by
                rw [hev, addL_ok (madeN_rc hr (by rw [List.length_take]; omega)), ← madeN_next hxi] at hD2
                exact hD2
              refine mv' rfl (pp' (Pure.extract rfl rfl) (pp' (Pure.extract rfl rfl) ?_))
              refine RunL.alloc zz76 (Wt.none rfl) rfl ?_; intro b12
              refine sW' (cDD D2) rfl rfl sz76 ?_
              refine as' rfl (nl' (rg' (lA' (cDD D2) rfl agg76 sz76 ?_)))
              refine sW' (cDD D2) rfl rfl sz76 ?_
              refine nl' (ib' (rg' (mv' rfl ?_)))
              first | refine RunL.pure (Pure.addI rfl rfl (by omega)) (Wt.none rfl) rfl rfl ?_ | refine RunL.pure (Pure.add rfl rfl) (Wt.none rfl) rfl rfl ?_
              refine as' rfl (nl' ?_)
              have ih := ih1
              refine kp' [0, 1, 4, 5, 6] ?_
              exact ag' F ih (by exact ⟨i + 1, K2, D2, by omega, by omega, hD3, rfl, rfl, rfl⟩)
            · skip
              refine sr' (pp' (Pure.fieldAddr rfl fo49_5) (l1' rfl agg3 ?_))
              refine pp' (Pure.eql rfl rfl) (mv' rfl ?_)
              refine RunL.split (d := 92) rfl (fun c7 => ?_) (fun c7 => ?_)
              · try simp only [Z] at c7
                refine py' (Pure.move rfl) (py' (Pure.gtr rfl rfl) (pp' (Pure.pickT rfl rfl) (nl' ?_)))
                have hd0 : around x.1.does 3 = 0 := c7
                refine Run.cond rfl (fun c8 => ?_) (fun c8 => ?_)
                · try simp only [Z] at c8
                  refine sr' (mv' rfl (mv' rfl ?_))
                  refine pp' (Pure.indexAddr (opvSl rfl hpx) rfl und42 sz130 (by omega) (by omega)) ?_
                  refine pp' (Pure.fieldAddr rfl fo130_3) ?_
                  refine RunL.load1R rfl hrx ((elem_at (pre := prx) (post := pox) (f := cGX) (sz := 4) (j := 3) (fun _ _ => rfl) hxi (by decide)).trans rfl) agg3 (Wt.none rfl) rfl ?_
                  refine mv' rfl ?_
                  first | refine RunL.pure (Pure.mulI rfl rfl (by omega)) (Wt.none rfl) rfl rfl ?_ | refine RunL.pure (Pure.mul rfl rfl) (Wt.none rfl) rfl rfl ?_
                  refine ca' rfl rfl (s := Around_ctr (z := x.1.thread) (m := 2 * (i : Nat)) hx3 (by omega)) (q := ?_)
                  rintro _ _ ⟨rfl, hA_⟩
                  replace hA_ := hA_.symm; subst hA_
                  have hal := around_lt (z := x.1.thread) (m := 2 * (i : Nat)) (by omega)
                  obtain ⟨q, hq⟩ : ∃ q : Nat, around x.1.thread (2 * (i : Nat)) = (q : Nat) := ⟨(around x.1.thread (2 * (i : Nat))).toNat, by omega⟩
                  have hq' : around x.1.thread (2 * ((madeN room (xs.take i)).length : Nat)) = (q : Nat) := by rw [hLl]; exact hq
                  rw [hq]
                  refine as' rfl (nl' ?_)
                  refine lb' (Pool K) Lends.Pool fun gp hlegp hpool backgp => ?_
                  have h_gp := h.mono hlegp
                  have hx_gp := hx.mono hlegp
                  have hrx_gp := hrx.mono hlegp
                  obtain ⟨hdr, ys, hyl, hes0⟩ := id hD
                  have hes := HasES.hp hes0 (G' := gp) hpool
                  have hyn := ES_len hyl
                  refine sr' (mv' rfl (mv' rfl (pp' (Pure.lss rfl rfl) (mv' rfl ?_))))
                  refine RunL.split (d := 107) rfl (fun c9 => ?_) (fun c9 => ?_)
                  · try simp only [Z] at c9
                    obtain ⟨r, hr2⟩ := get_some (xs := (madeN room (xs.take i))) (i := q) (by omega)
                    obtain ⟨s, hy⟩ := ES_get hyl hr2
                    obtain ⟨be, Te, pree, poste, hpe, hroe⟩ := hes.2.1.open1 (show 0 < ys.length by omega)
                    have hdn := hes.1
                    refine py' (Pure.fieldAddr rfl fo76_1) (l1' rfl agg44 ?_)
                    refine py' (Pure.move rfl) ?_
                    refine py' (Pure.indexAddr (opvSl rfl hpe) rfl und44 sz49 (by omega) (by omega)) ?_
                    refine py' (Pure.fieldAddr rfl fo49_5) ?_
                    refine RunL.load1R rfl hroe ((elem_at (pre := pree) (post := poste) (f := cES) (sz := 6) (j := 5) (fun _ _ => rfl) hy (by decide)).trans rfl) agg3 (Wt.yes rfl rfl rfl) rfl ?_
                    refine py' (Pure.eql rfl rfl) (pp' (Pure.pickT rfl rfl) (mv' rfl ?_))
                    refine RunL.split (d := 116) rfl (fun c10 => ?_) (fun c10 => ?_)
                    · try simp only [Z] at c10
                      refine py' (Pure.fieldAddr rfl fo76_1) (l1' rfl agg44 ?_)
                      refine py' (Pure.move rfl) ?_
                      refine py' (Pure.indexAddr (opvSl rfl hpe) rfl und44 sz49 (by omega) (by omega)) ?_
                      refine py' (Pure.fieldAddr rfl fo49_3) ?_
                      refine RunL.load1R rfl hroe ((elem_at (pre := pree) (post := poste) (f := cES) (sz := 6) (j := 3) (fun _ _ => rfl) hy (by decide)).trans rfl) agg9 (Wt.yes rfl rfl rfl) rfl ?_
                      refine py' (Pure.seql rfl rfl) (pp' (Pure.pickT rfl rfl) (nl' ?_))
                      refine Run.cond rfl (fun c11 => ?_) (fun c11 => ?_)
                      · try simp only [Z] at c11
                        refine Run.backB backgp ?_
                        refine rg' (mv' rfl ?_)
                        refine ca' rfl rfl (s := EventOf_ctr (z := (q : Nat)) (by omega)) (q := ?_)
                        rintro _ _ ⟨rfl, hA_⟩
                        replace hA_ := hA_.symm; subst hA_
                        refine pp' (Pure.fieldAddr rfl fo49_3) ?_
                        refine RunL.store1A (cs' := (cEvn ((⟨eventOf (i : Nat), room, (⟨a2, (pk i i (x.2.take 3)).length, c2⟩ : Sli), (eventOf (q : Nat)), userOf x.1.user, around x.1.does 3⟩ : Evn)))) rfl rfl (by first | ((repeat (first | (with_reducible exact F0 _) | apply F1)); done) | (repeat (first | exact F0 _ | apply F1))) sz9 (by rfl) (by first | exact Nat.le_of_ble_eq_true rfl | (simp; done) | (simp; omega)) rfl (Wt.none rfl) ?_
                        refine nl' ?_
                        have ht : madeThr (madeN room (xs.take i)) x = eventOf (q : Nat) := thr_yes hd0 (by omega) hq' hr2 c10 (bl_inj c11)
                        refine kp' [0, 1, 4, 5, 6, 7] ?_
                        exact me' F hk (by exact ⟨rfl, by rw [ht]⟩)
                      · try simp only [Z] at c11
                        refine Run.backB backgp ?_
                        refine sk' ?_
                        have ht : madeThr (madeN room (xs.take i)) x = .empty := thr_no4 hq' hr2 (fun z => c11 (by rw [show (r.evn s).thread = .empty from z.2]; rfl))
                        refine kp' [0, 1, 4, 5, 6, 7] ?_
                        exact me' F hk (by exact ⟨rfl, by rw [ht]⟩)
                    · try simp only [Z] at c10
                      refine no' (no' (no' (no' (no' (no' (no' (pp' (Pure.pickF rfl rfl) (nl' ?_))))))))
                      refine Run.backB backgp ?_
                      refine cF' (sk' ?_)
                      have ht : madeThr (madeN room (xs.take i)) x = .empty := thr_no4 hq' hr2 (fun z => c10 z.1)
                      refine kp' [0, 1, 4, 5, 6, 7] ?_
                      exact me' F hk (by exact ⟨rfl, by rw [ht]⟩)
                  · try simp only [Z] at c9
                    refine no' (no' (no' (no' (no' (no' (no' (pp' (Pure.pickF rfl rfl) (mv' rfl (no' (no' (no' (no' (no' (no' (no' (pp' (Pure.pickF rfl rfl) (nl' ?_)))))))))))))))))
                    refine Run.backB backgp ?_
                    refine cF' (sk' ?_)
                    have ht : madeThr (madeN room (xs.take i)) x = .empty := thr_no3 hq' (by omega)
                    refine kp' [0, 1, 4, 5, 6, 7] ?_
                    exact me' F hk (by exact ⟨rfl, by rw [ht]⟩)
                · try simp only [Z] at c8
                  refine sk' ?_
                  have ht : madeThr (madeN room (xs.take i)) x = .empty := thr_no2 (by omega)
                  refine kp' [0, 1, 4, 5, 6, 7] ?_
                  exact me' F hk (by exact ⟨rfl, by rw [ht]⟩)
              · try simp only [Z] at c7
                refine no' (no' (pp' (Pure.pickF rfl rfl) (nl' (cF' (sk' ?_)))))
                have ht : madeThr (madeN room (xs.take i)) x = .empty := thr_no1 c7
                refine kp' [0, 1, 4, 5, 6, 7] ?_
                exact me' F hk (by exact ⟨rfl, by rw [ht]⟩)
        · skip
          refine bl' ?_
          refine kp' [0, 1, 4, 5, 6, 7, 8, 9] ?_
          refine lp' F (fun n e_ A => ∃ (j : Nat), j ≤ 3 ∧ j ≤ x.2.length ∧ (0 < i ∨ j = 0) ∧ n = 3 - j ∧ e_ = [(0, .string room), (1, .slice a xs.length c), (4, .pointer (some ⟨b4, 0, none⟩)), (5, .pointer (some ⟨b5, 0, none⟩)), (6, .int .i64 (i : Nat)), (7, .pointer (some ⟨b7, 0, none⟩)), (8, .slice a8 9 9), (9, .int .i64 (j : Nat))] ∧ A = Sl 4 1 a8 9 9 ((onL i (x.2.take j)).map Value.bool) :: row b7 49 (cEvn (⟨eventOf (i : Nat), room, (⟨none, 0, 0⟩ : Sli), .empty, userOf x.1.user, around x.1.does 3⟩ : Evn)) :: row b4 76 (cDD (⟨.empty, ⟨none, 0, 0⟩⟩ : DD)) :: row b5 76 (cDD D) :: Pool K :: F) (3) (by exact ⟨0, by omega, by omega, by omega, rfl, rfl, rfl⟩) ?_
          rintro n _ _ ⟨j, hj3, hjl, hji, rfl, rfl, hA_⟩ ih
          replace hA_ := hA_.symm; subst hA_
          refine sq' (sr' (mv' rfl (mv' rfl (mv' rfl ?_))))
          refine pp' (Pure.indexAddr (opvSl rfl hpx) rfl und42 sz130 (by omega) (by omega)) ?_
          refine pp' (Pure.fieldAddr rfl fo130_2) ?_
          refine RunL.load1R rfl hrx ((elem_at (pre := prx) (post := pox) (f := cGX) (sz := 4) (j := 2) (fun _ _ => rfl) hxi (by decide)).trans rfl) agg43 (Wt.none rfl) rfl ?_
          refine pp' (Pure.lenSl rfl rfl und43) (pp' (Pure.lss rfl rfl) (mv' rfl ?_))
          refine RunL.split (d := 51) rfl (fun c1 => ?_) (fun c1 => ?_)
          · try simp only [Z] at c1
            refine py' (Pure.move rfl) (py' (Pure.lss rfl rfl) (pp' (Pure.pickT rfl rfl) (mv' rfl ?_)))
            refine RunL.split (d := 55) rfl (fun c2 => ?_) (fun c2 => ?_)
            · try simp only [Z] at c2
              refine py' (Pure.move rfl) (py' (Pure.gtr rfl rfl) (pp' (Pure.pickT rfl rfl) (nl' ?_)))
              refine Run.cond rfl (fun c3 => ?_) (fun c3 => ?_)
              · try simp only [Z] at c3
                obtain ⟨p, hp⟩ := get_some (xs := x.2) (i := j) (by omega)
                obtain ⟨bi, Ti, pri, poi, hpi, hri⟩ := hxI.2.1.open1 (show 0 < x.2.length by omega)
                have hpw := wf_i64 (hxI.2.2 p (List.mem_of_getElem? hp))
                have hal := around_lt (z := p) (m := (i : Nat)) (by omega)
                obtain ⟨q, hq⟩ : ∃ q : Nat, around p (i : Nat) = (q : Nat) := ⟨(around p (i : Nat)).toNat, by omega⟩
                refine sk' ?_
                refine Run.openSl (a := a8) (n := 9) (by first | ((repeat (first | (with_reducible exact F0 _) | apply F1)); done) | (repeat (first | exact F0 _ | apply F1))) (by omega) ?_; rintro b8 pre8 post8 rfl hsl1 hsl2 hsl3
                refine sq' (bl' (rg' (mv' rfl (mv' rfl (mv' rfl ?_)))))
                refine pp' (Pure.indexAddr (opvSl rfl hpx) rfl und42 sz130 (by omega) (by omega)) ?_
                refine pp' (Pure.fieldAddr rfl fo130_2) ?_
                refine RunL.load1R rfl hrx ((elem_at (pre := prx) (post := pox) (f := cGX) (sz := 4) (j := 2) (fun _ _ => rfl) hxi (by decide)).trans rfl) agg43 (Wt.none rfl) rfl ?_
                refine mv' rfl ?_
                refine pp' (Pure.indexAddr (opvSl rfl hpi) rfl und43 sz3 (by omega) (by omega)) ?_
                refine RunL.load1R rfl hri (elem1_at hp) agg3 (Wt.none rfl) rfl ?_
                refine mv' rfl ?_
                refine ca' rfl rfl (s := Around_ctr (z := p) (m := (i : Nat)) (by omega) (by omega)) (q := ?_)
                rintro _ _ ⟨rfl, hA_⟩
                replace hA_ := hA_.symm; subst hA_
                rw [hq]
                refine pp' (Pure.indexAddr rfl rfl und80 sz4 (by omega) (by omega)) ?_
                refine RunL.store1A rfl rfl (by first | ((repeat (first | (with_reducible exact F0 _) | apply F1)); done) | (repeat (first | exact F0 _ | apply F1))) sz4 (by rfl) (by simp [onL_len]; omega) (set1_el (f := Value.bool) (y := true) (by rw [onL_len]; omega)) (Wt.none rfl) ?_
                refine nl' (ib' ?_)
                rw [Int.toNat_natCast, onL_set hp hq]
                refine Run.mkSl (b := b8) (pre := pre8) (post := post8) (sz := 1) (n := 9) (cs := (onL i (x.2.take (j + 1))).map Value.bool) (by first | ((repeat (first | (with_reducible exact F0 _) | apply F1)); done) | (repeat (first | exact F0 _ | apply F1))) (by simp [onL_len]) hsl2 hsl3 ?_
                refine rg' (mv' rfl ?_)
                first | refine RunL.pure (Pure.addI rfl rfl (by omega)) (Wt.none rfl) rfl rfl ?_ | refine RunL.pure (Pure.add rfl rfl) (Wt.none rfl) rfl rfl ?_
                refine as' rfl (nl' ?_)
                refine kp' [0, 1, 4, 5, 6, 7, 8, 9] ?_
                exact ag' F ih (by exact ⟨j + 1, by omega, by omega, by omega, rfl, rfl, rfl⟩)
              · try simp only [Z] at c3
                refine ex' rfl ?_
                refine kp' [0, 1, 4, 5, 6, 7, 8] ?_
                exact me' F hk (by exact ⟨onL i (x.2.take j), onL_len _ _, (fun k hk2 => by omega), rfl, rfl⟩)
            · try simp only [Z] at c2
              refine no' (no' (pp' (Pure.pickF rfl rfl) (nl' (cF' (ex' rfl ?_)))))
              refine kp' [0, 1, 4, 5, 6, 7, 8] ?_
              exact me' F hk (by exact ⟨onL i (x.2.take j), onL_len _ _, (fun k hk2 => by rw [onL_get (by omega), show j = 3 from by omega]), rfl, rfl⟩)
          · try simp only [Z] at c1
            refine no' (no' (pp' (Pure.pickF rfl rfl) (mv' rfl (no' (no' (pp' (Pure.pickF rfl rfl) (nl' (cF' (ex' rfl ?_)))))))))
            refine kp' [0, 1, 4, 5, 6, 7, 8] ?_
            exact me' F hk (by exact ⟨onL i (x.2.take j), onL_len _ _, (fun k hk2 => by rw [onL_get (by omega), List.take_of_length_le (by omega), List.take_of_length_le (by omega)]), rfl, rfl⟩)
      · skip
        refine Run.regionD' (by kernel_rfl) (by kernel_rfl) (fun hok491 => ?_)
        refine dp' 0 hok491 rfl (Pure.move rfl) (dp' 2 hok491 rfl (Pure.move rfl) (dp' 3 hok491 rfl (Pure.move rfl) (dp' 4 hok491 rfl (Pure.move rfl) ?_)))
        refine dp' 5 hok491 rfl (Pure.indexAddr (opvSl rfl hpx) rfl und42 sz130 (by omega) (by omega)) ?_
        refine dp' 6 hok491 rfl (Pure.fieldAddr rfl fo130_0) ?_
        refine RunD.load1R (i := 7) hok491 rfl (by kernel_rfl) rfl hrx ((elem_at (pre := prx) (post := pox) (f := cGX) (sz := 4) (j := 0) (fun _ _ => rfl) hxi (by decide)).trans rfl) agg3 (Wt.none rfl) rfl ?_
        refine dp' 9 hok491 rfl (Pure.move rfl) (dp' 10 hok491 rfl (Pure.move rfl) ?_)
        refine dp' 11 hok491 rfl (Pure.indexAddr (opvSl rfl hpx) rfl und42 sz130 (by omega) (by omega)) ?_
        refine dp' 12 hok491 rfl (Pure.fieldAddr rfl fo130_1) ?_
        refine RunD.load1R (i := 13) hok491 rfl (by kernel_rfl) rfl hrx ((elem_at (pre := prx) (post := pox) (f := cGX) (sz := 4) (j := 1) (fun _ _ => rfl) hxi (by decide)).trans rfl) agg3 (Wt.none rfl) rfl ?_
        refine RunD.two (i := 1) (j := 16) (by kernel_rfl) rfl rfl ?_ ?_
        · skip
          refine ca' rfl rfl (s := EventOf_ctr (z := (i : Nat)) (by omega)) (q := ?_)
          rintro _ _ ⟨rfl, hA_⟩
          replace hA_ := hA_.symm; subst hA_
          refine RunL.nilD' ?_
          refine RunD.two (i := 8) (j := 16) (by kernel_rfl) rfl rfl ?_ ?_
          · skip
            refine ca' rfl rfl (s := UserOf_ctr (z := x.1.user) hx1) (q := ?_)
            rintro _ _ ⟨rfl, hA_⟩
            replace hA_ := hA_.symm; subst hA_
            refine RunL.nilD' ?_
            refine RunD.two (i := 14) (j := 16) (by kernel_rfl) rfl rfl ?_ ?_
            · skip
              refine ca' rfl rfl (s := Around_ctr (z := x.1.does) hx2 (by omega)) (q := ?_)
              rintro _ _ ⟨rfl, hA_⟩
              replace hA_ := hA_.symm; subst hA_
              refine RunL.nilD' ?_
              refine dp' 15 hok491 rfl (Pure.buildL (ps := [(0, _), (1, _), (4, _), (5, _)]) (zs := [(.string .empty), (.string .empty), (.slice none 0 0), (.string .empty), (.string .empty), (.int .i64 0)]) (xs := [_, _, _, _, _, _]) pl49 rfl rfl rfl rfl) ?_
              refine RunD.one (i := 16) (by kernel_rfl) rfl ?_
              · skip
                refine RunL.alloc zz49 (Wt.none rfl) rfl ?_; intro b7
                refine RunL.nilD' ?_
                refine RunD.one (i := 17) (by kernel_rfl) rfl ?_
                · skip
                  refine sW' (cEvn ((⟨eventOf (i : Nat), room, (⟨none, 0, 0⟩ : Sli), .empty, userOf x.1.user, around x.1.does 3⟩ : Evn))) rfl rfl sz49 ?_
                  refine RunL.nilD' ?_
                  refine RunD.nilR (by kernel_rfl) ?_
                  refine kp' [0, 1, 4, 5, 6, 7] ?_
                  exact me' F hk (by exact ⟨b7, rfl, rfl⟩)
            · skip
              refine RunL.alloc zz49 (Wt.none rfl) rfl ?_; intro b7
              refine RunL.nilD' ?_
              refine RunD.one (i := 14) (by kernel_rfl) rfl ?_
              · skip
                refine ca' rfl rfl (s := Around_ctr (z := x.1.does) hx2 (by omega)) (q := ?_)
                rintro _ _ ⟨rfl, hA_⟩
                replace hA_ := hA_.symm; subst hA_
                refine RunL.nilD' ?_
                refine dp' 15 hok491 rfl (Pure.buildL (ps := [(0, _), (1, _), (4, _), (5, _)]) (zs := [(.string .empty), (.string .empty), (.slice none 0 0), (.string .empty), (.string .empty), (.int .i64 0)]) (xs := [_, _, _, _, _, _]) pl49 rfl rfl rfl rfl) ?_
                refine RunD.one (i := 17) (by kernel_rfl) rfl ?_
                · skip
                  refine sW' (cEvn ((⟨eventOf (i : Nat), room, (⟨none, 0, 0⟩ : Sli), .empty, userOf x.1.user, around x.1.does 3⟩ : Evn))) rfl rfl sz49 ?_
                  refine RunL.nilD' ?_
                  refine RunD.nilR (by kernel_rfl) ?_
                  refine kp' [0, 1, 4, 5, 6, 7] ?_
                  exact me' F hk (by exact ⟨b7, rfl, rfl⟩)
          · skip
            refine RunL.alloc zz49 (Wt.none rfl) rfl ?_; intro b7
            refine RunL.nilD' ?_
            refine RunD.one (i := 8) (by kernel_rfl) rfl ?_
            · skip
              refine ca' rfl rfl (s := UserOf_ctr (z := x.1.user) hx1) (q := ?_)
              rintro _ _ ⟨rfl, hA_⟩
              replace hA_ := hA_.symm; subst hA_
              refine RunL.nilD' ?_
              refine RunD.one (i := 14) (by kernel_rfl) rfl ?_
              · skip
                refine ca' rfl rfl (s := Around_ctr (z := x.1.does) hx2 (by omega)) (q := ?_)
                rintro _ _ ⟨rfl, hA_⟩
                replace hA_ := hA_.symm; subst hA_
                refine RunL.nilD' ?_
                refine dp' 15 hok491 rfl (Pure.buildL (ps := [(0, _), (1, _), (4, _), (5, _)]) (zs := [(.string .empty), (.string .empty), (.slice none 0 0), (.string .empty), (.string .empty), (.int .i64 0)]) (xs := [_, _, _, _, _, _]) pl49 rfl rfl rfl rfl) ?_
                refine RunD.one (i := 17) (by kernel_rfl) rfl ?_
                · skip
                  refine sW' (cEvn ((⟨eventOf (i : Nat), room, (⟨none, 0, 0⟩ : Sli), .empty, userOf x.1.user, around x.1.does 3⟩ : Evn))) rfl rfl sz49 ?_
                  refine RunL.nilD' ?_
                  refine RunD.nilR (by kernel_rfl) ?_
                  refine kp' [0, 1, 4, 5, 6, 7] ?_
                  exact me' F hk (by exact ⟨b7, rfl, rfl⟩)
        · skip
          refine RunL.alloc zz49 (Wt.none rfl) rfl ?_; intro b7
          refine RunL.nilD' ?_
          refine RunD.one (i := 1) (by kernel_rfl) rfl ?_
          · skip
            refine ca' rfl rfl (s := EventOf_ctr (z := (i : Nat)) (by omega)) (q := ?_)
            rintro _ _ ⟨rfl, hA_⟩
            replace hA_ := hA_.symm; subst hA_
            refine RunL.nilD' ?_
            refine RunD.one (i := 8) (by kernel_rfl) rfl ?_
            · skip
              refine ca' rfl rfl (s := UserOf_ctr (z := x.1.user) hx1) (q := ?_)
              rintro _ _ ⟨rfl, hA_⟩
              replace hA_ := hA_.symm; subst hA_
              refine RunL.nilD' ?_
              refine RunD.one (i := 14) (by kernel_rfl) rfl ?_
              · skip
                refine ca' rfl rfl (s := Around_ctr (z := x.1.does) hx2 (by omega)) (q := ?_)
                rintro _ _ ⟨rfl, hA_⟩
                replace hA_ := hA_.symm; subst hA_
                refine RunL.nilD' ?_
                refine dp' 15 hok491 rfl (Pure.buildL (ps := [(0, _), (1, _), (4, _), (5, _)]) (zs := [(.string .empty), (.string .empty), (.slice none 0 0), (.string .empty), (.string .empty), (.int .i64 0)]) (xs := [_, _, _, _, _, _]) pl49 rfl rfl rfl rfl) ?_
                refine RunD.one (i := 17) (by kernel_rfl) rfl ?_
                · skip
                  refine sW' (cEvn ((⟨eventOf (i : Nat), room, (⟨none, 0, 0⟩ : Sli), .empty, userOf x.1.user, around x.1.does 3⟩ : Evn))) rfl rfl sz49 ?_
                  refine RunL.nilD' ?_
                  refine RunD.nilR (by kernel_rfl) ?_
                  refine kp' [0, 1, 4, 5, 6, 7] ?_
                  exact me' F hk (by exact ⟨b7, rfl, rfl⟩)
    · try simp only [Z] at c1
      refine ex' rfl (sr' (lA' (cDD D) rfl agg76 sz76 ?_))
      refine sW' (cDD D) rfl rfl sz76 ?_
      refine nl' ?_
      exact rt' Tryz.func31 (resV1 rfl (Rv.cellN (us := (cDD D)) rfl (by first | ((repeat (first | (with_reducible exact F0 _) | apply F1)); done) | (repeat (first | exact F0 _ | apply F1))) agg76 sz76 (by first | exact Nat.le_of_ble_eq_true rfl | (simp; done) | (simp; omega)) rfl)) (by exact ⟨K, D, by rw [show madeL room xs = (madeN room (xs.take i)) from by unfold madeL; rw [show i = 9 from by omega]]; exact hD, rfl, rfl⟩)
  · try simp only [Z] at c0
    refine no' (no' (pp' (Pure.pickF rfl rfl) (nl' (cF' (ex' rfl (sr' (lA' (cDD D) rfl agg76 sz76 ?_)))))))
    refine sW' (cDD D) rfl rfl sz76 ?_
    refine nl' ?_
    exact rt' Tryz.func31 (resV1 rfl (Rv.cellN (us := (cDD D)) rfl (by first | ((repeat (first | (with_reducible exact F0 _) | apply F1)); done) | (repeat (first | exact F0 _ | apply F1))) agg76 sz76 (by first | exact Nat.le_of_ble_eq_true rfl | (simp; done) | (simp; omega)) rfl)) (by exact ⟨K, D, by rw [show madeL room xs = (madeN room (xs.take i)) from by unfold madeL; rw [List.take_of_length_le (by omega), List.take_of_length_le (by omega)]]; exact hD, rfl, rfl⟩)

end Go.Proofs.YtaaondbmkibkkaaGreat
