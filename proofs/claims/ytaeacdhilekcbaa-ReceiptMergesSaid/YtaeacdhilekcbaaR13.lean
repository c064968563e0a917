/- All marks are the document's. -/
import Derived.Test.YtaeacdhilekcbaaR12
set_option linter.unusedVariables false
set_option linter.unusedSimpArgs false
namespace Go.Proofs.Ytaeacdhilekcbaa
open Go Csl
theorem cb23 : Callable Try.prog 23 := ⟨_, Try.func23, by kernel_rfl, by kernel_rfl⟩
theorem cb28 : Callable Try.prog 28 := ⟨_, Try.func28, by kernel_rfl, by kernel_rfl⟩
theorem cb27 : Callable Try.prog 27 := ⟨_, Try.func27, by kernel_rfl, by kernel_rfl⟩

theorem likeO_ctr {G : Gp} {a b : Option Addr} {c1 c2 : Nat} {xs : List M} (hb : xs.length ≤ 1000000) : Ctr Try.prog G 23 [.slice a xs.length c1, .slice b xs.length c2] [Sl 69 6 a (xs).length c1 ((xs).flatMap cM), Sl 28 6 b (xs).length c2 ((xs).flatMap cM)] (fun F v A => v = .bool true ∧ A = Sl 69 6 a (xs).length c1 ((xs).flatMap cM) :: Sl 28 6 b (xs).length c2 ((xs).flatMap cM) :: F) :=
  (Ctr.lend2 (Q1 := Sl 69 6 a (xs).length c1 ((xs).flatMap cM)) (Q2 := Sl 28 6 b (xs).length c2 ((xs).flatMap cM)) (R1 := fun G => SlR G 69 6 a xs.length (xs.flatMap cM) ∧ xs.length ≤ c1) (R2 := fun G => SlR G 28 6 b xs.length (xs.flatMap cM) ∧ xs.length ≤ c2) Lends.Sl Lends.Sl cb23 (fun G G' h r => ⟨r.1.mono h, r.2⟩) (fun G' hle hr hr2 => like_ctr hr.1 hr2.1 hb)).mono (by rintro F v A ⟨A', rfl, h⟩; obtain ⟨rfl, rfl⟩ := h; exact ⟨rfl, rfl⟩)
theorem likeL_ctr {G : Gp} {a b : Option Addr} {c1 c2 : Nat} {xs : List M} (h' : SlR G 28 6 b xs.length (xs.flatMap cM)) (hb : xs.length ≤ 1000000) : Ctr Try.prog G 23 [.slice a xs.length c1, .slice b xs.length c2] [Sl 69 6 a (xs).length c1 ((xs).flatMap cM)] (fun F v A => v = .bool true ∧ A = Sl 69 6 a (xs).length c1 ((xs).flatMap cM) :: F) :=
  (Ctr.lend (Q := Sl 69 6 a (xs).length c1 ((xs).flatMap cM)) (R := fun G => SlR G 69 6 a xs.length (xs.flatMap cM) ∧ xs.length ≤ c1) Lends.Sl cb23 (fun G' hle hr => like_ctr hr.1 (h'.mono hle) hb)).mono (by rintro F v A ⟨A', rfl, h⟩; obtain ⟨rfl, rfl⟩ := h; exact ⟨rfl, rfl⟩)
set_option maxHeartbeats 2000000 in
set_option maxRecDepth 100000 in
theorem rPublic_ctr {G : Gp} {a : Option Addr} {cap : Nat} {xs : List M} (h : SlR G 28 6 a xs.length (xs.flatMap cM)) (hb : xs.length ≤ 1000000) :
    Ctr Try.prog G 28 [.slice a xs.length cap] [] (fun F v A => ∃ a' c', v = .slice a' ((xs).filter (fun x => !isPriv x)).length c' ∧ A = Sl 28 6 a' (((xs).filter (fun x => !isPriv x))).length c' ((((xs).filter (fun x => !isPriv x))).flatMap cM) :: F) := by
  refine Ctr.intro Try.func28 rfl (by kernel_rfl) rfl (fun F => ?_)
  simp only [List.nil_append]
  refine Run.nilSl 28 6 ?_
  refine Run.sr ?_
  refine RunL.as rfl rfl ?_
  refine RunL.nil ?_
  refine Run.sr ?_
  refine RunL.as rfl rfl ?_
  refine RunL.nil ?_
  refine Run.seq ?_
  refine Run.sr ?_
  refine RunL.as rfl rfl ?_
  refine RunL.nil ?_
  refine Run.block ?_
  refine Run.keep (.cons rfl (.cons rfl (.cons rfl (.nil))) : Keep _ [0, 3, 4] _) ?_
  refine Run.loopF (F := F) (fun n e A => ∃ (i : Nat) (a' : Option Addr) (c' : Nat), i ≤ xs.length ∧ n = xs.length - i ∧ e = [(0, .slice a xs.length cap), (3, .slice a' ((xs.take i).filter (fun x => !isPriv x)).length c'), (4, .int .i64 (i : Nat))] ∧ A = Sl 28 6 a' (((xs.take i).filter (fun x => !isPriv x))).length c' ((((xs.take i).filter (fun x => !isPriv x))).flatMap cM) :: F) (xs.length) (by exact ⟨0, none, 0, by omega, rfl, rfl, rfl⟩) (by repeat (first | (with_reducible exact Fin.done (by repeat (first | (with_reducible exact Rest.here) | apply Rest.there))) | (apply Fin.cons (by first | ((repeat (first | (with_reducible exact F0 _) | apply F1)); done) | (repeat (first | exact F0 _ | apply F1)))))) ?_
  rintro n _ _ ⟨i, a', c', hi, rfl, rfl, hA_⟩ ih
  replace hA_ := hA_.symm; subst hA_
  refine Run.seq ?_
  refine Run.sr ?_
  refine RunL.mv rfl rfl ?_
  refine RunL.mv rfl rfl ?_
  refine RunL.pure (Pure.lenSl rfl rfl und22) (Wt.none rfl) rfl rfl ?_
  refine RunL.pure (Pure.lss rfl rfl) (Wt.none rfl) rfl rfl ?_
  refine RunL.nil ?_
  refine Run.cond rfl (fun h1 => ?_) (fun h1 => ?_)
  · try simp only [ZA, ZB, ZC, ZD, ZE, ZF, ZG, ZH, ZI, ZJ, ZK, ZL, ZM, ZN, ZO, ZP, ZQ, ZR] at h1
    obtain ⟨m, hm⟩ := get_some (xs := xs) (i := i) (by omega)
    obtain ⟨ba, Ta, prea, posta, rfl, hroa⟩ := h.open1 (show 0 < xs.length by omega)
    have hfl : ((xs.take i).filter (fun x => !isPriv x)).length ≤ xs.length := Nat.le_trans (List.length_filter_le _ _) (by rw [List.length_take]; omega)
    refine Run.skip ?_
    refine Run.seq ?_
    refine Run.block ?_
    refine Run.sr ?_
    refine RunL.mv rfl rfl ?_
    refine RunL.mv rfl rfl ?_
    refine RunL.pure (Pure.indexAddr rfl rfl und22 sz28 (by omega) (by omega)) (Wt.none rfl) rfl rfl ?_
    refine RunL.pure (Pure.fieldAddr rfl fo28_0) (Wt.none rfl) rfl rfl ?_
    refine RunL.pure (Pure.fieldAddr rfl fo24_3) (Wt.none rfl) rfl rfl ?_
    refine RunL.load1R rfl hroa ((elem_at (pre := prea) (post := posta) (f := cM) (sz := 6) (j := 3) (fun _ _ => rfl) hm (by decide)).trans rfl) agg4 (Wt.none rfl) rfl ?_
    refine RunL.pure (Pure.not rfl) (Wt.none rfl) rfl rfl ?_
    refine RunL.nil ?_
    refine Run.cond rfl (fun h2 => ?_) (fun h2 => ?_)
    · try simp only [ZA, ZB, ZC, ZD, ZE, ZF, ZG, ZH, ZI, ZJ, ZK, ZL, ZM, ZN, ZO, ZP, ZQ, ZR] at h2
      have hs : ((xs.take (i + 1)).filter (fun x => !isPriv x)) = ((xs.take i).filter (fun x => !isPriv x)) ++ [m] := by rw [List.take_add_one, hm, List.filter_append]; simp_all
      refine Run.region ?_
      refine RunL.mv rfl rfl ?_
      refine RunL.mv rfl rfl ?_
      refine RunL.mv rfl rfl ?_
      refine RunL.pure (Pure.indexAddr rfl rfl und22 sz28 (by omega) (by omega)) (Wt.none rfl) rfl rfl ?_
      refine RunL.loadNR (vs := (cM m)) rfl hroa agg28 sz28 (elemN_len (pre := prea) (post := posta) (f := cM) (sz := 6) (j := 0) (n := 6) (fun _ _ => rfl) hm (by decide)) ((elemN_at (pre := prea) (post := posta) (f := cM) (sz := 6) (j := 0) (n := 6) (fun _ _ => rfl) hm (by decide)).trans rfl) (Wt.none rfl) rfl ?_
      refine RunL.lit (vals := [_]) (vs := ([m] : List M).flatMap cM) und22 sz28 zz28 rfl rfl rfl rfl rfl rfl (by simp [Value.cells, bv, cK, cM, cPos]) rfl (Wt.none rfl) rfl ?_; intro b23
      refine RunL.append (m := 1) (n' := (((xs.take i).filter (fun x => !isPriv x)) ++ [m]).length) (cs' := (((xs.take i).filter (fun x => !isPriv x)) ++ [m]).flatMap cM) rfl rfl (by first | ((repeat (first | (with_reducible exact F0 _) | apply F1)); done) | (repeat (first | exact F0 _ | apply F1))) rfl rfl und22 und22 rfl sz28 zz28 rfl by28 (by omega) (by omega) (fun w sw => sw.src) (isOne_flat (f := cM) (fun _ => rfl)) (by simp) (by rw [List.flatMap_append]) (Wt.none rfl) rfl ?_; intro a1 c1
      refine RunL.as rfl rfl ?_
      refine RunL.nil ?_
      refine Run.inBlock ?_
      refine Run.region ?_
      refine RunL.mv rfl rfl ?_
      first | refine RunL.pure (Pure.addI rfl rfl (by omega)) (Wt.none rfl) rfl rfl ?_ | refine RunL.pure (Pure.add rfl rfl) (Wt.none rfl) rfl rfl ?_
      refine RunL.as rfl rfl ?_
      refine RunL.nil ?_
      rw [← hs]
      refine Run.keep (.cons rfl (.cons rfl (.cons rfl (.nil))) : Keep _ [0, 3, 4] _) ?_
      refine Run.againF (F := F) ih (by exact ⟨i + 1, a1, c1, by omega, rfl, rfl, rfl⟩) (by repeat (first | (with_reducible exact Fin.done (by repeat (first | (with_reducible exact Rest.here) | apply Rest.there))) | (apply Fin.cons (by first | ((repeat (first | (with_reducible exact F0 _) | apply F1)); done) | (repeat (first | exact F0 _ | apply F1)))))) ?_
      omega
    · try simp only [ZA, ZB, ZC, ZD, ZE, ZF, ZG, ZH, ZI, ZJ, ZK, ZL, ZM, ZN, ZO, ZP, ZQ, ZR] at h2
      have hs : ((xs.take (i + 1)).filter (fun x => !isPriv x)) = ((xs.take i).filter (fun x => !isPriv x)) := by rw [List.take_add_one, hm, List.filter_append]; simp_all
      refine Run.skip ?_
      refine Run.inBlock ?_
      refine Run.region ?_
      refine RunL.mv rfl rfl ?_
      first | refine RunL.pure (Pure.addI rfl rfl (by omega)) (Wt.none rfl) rfl rfl ?_ | refine RunL.pure (Pure.add rfl rfl) (Wt.none rfl) rfl rfl ?_
      refine RunL.as rfl rfl ?_
      refine RunL.nil ?_
      rw [← hs]
      refine Run.keep (.cons rfl (.cons rfl (.cons rfl (.nil))) : Keep _ [0, 3, 4] _) ?_
      refine Run.againF (F := F) ih (by exact ⟨i + 1, a', c', by omega, rfl, rfl, rfl⟩) (by repeat (first | (with_reducible exact Fin.done (by repeat (first | (with_reducible exact Rest.here) | apply Rest.there))) | (apply Fin.cons (by first | ((repeat (first | (with_reducible exact F0 _) | apply F1)); done) | (repeat (first | exact F0 _ | apply F1)))))) ?_
      omega
  · try simp only [ZA, ZB, ZC, ZD, ZE, ZF, ZG, ZH, ZI, ZJ, ZK, ZL, ZM, ZN, ZO, ZP, ZQ, ZR] at h1
    refine Run.exit rfl ?_
    refine Run.sr ?_
    refine RunL.mv rfl rfl ?_
    refine RunL.as rfl rfl ?_
    refine RunL.nil ?_
    rw [List.take_of_length_le (by omega)]
    exact Run.ret Try.func28 (res1 rfl rfl) (by exact ⟨_, _, rfl, rfl⟩) (by repeat (first | (with_reducible exact Fin.done (by repeat (first | (with_reducible exact Rest.here) | apply Rest.there))) | (apply Fin.cons (by first | ((repeat (first | (with_reducible exact F0 _) | apply F1)); done) | (repeat (first | exact F0 _ | apply F1))))))

theorem rPublicO_ctr {G : Gp} {a : Option Addr} {cap : Nat} {xs : List M} (hb : xs.length ≤ 1000000) : Ctr Try.prog G 28 [.slice a xs.length cap] [Sl 28 6 a (xs).length cap ((xs).flatMap cM)] (fun F v A => ∃ a' c', v = .slice a' ((xs).filter (fun x => !isPriv x)).length c' ∧ A = Sl 28 6 a (xs).length cap ((xs).flatMap cM) :: Sl 28 6 a' (((xs).filter (fun x => !isPriv x))).length c' ((((xs).filter (fun x => !isPriv x))).flatMap cM) :: F) :=
  (Ctr.lend (Q := Sl 28 6 a (xs).length cap ((xs).flatMap cM)) (R := fun G => SlR G 28 6 a xs.length (xs.flatMap cM) ∧ xs.length ≤ cap) Lends.Sl cb28 (fun G' hle hr => rPublic_ctr hr.1 hb)).mono (by rintro F v A ⟨A', rfl, h⟩; obtain ⟨a', c', rfl, rfl⟩ := h; exact ⟨a', c', rfl, rfl⟩)
set_option maxRecDepth 100000 in
theorem Public_ctr {G : Gp} {p : Nat} {tl : List (K × Pos)} (h : TbR G p tl) (hn : KN tl) (hb : tl.length ≤ 1000) :
    Ctr Try.prog G 27 [.pointer (some ⟨p, 0, none⟩)] [] (fun F v A => ∃ a cap, v = .slice a ((ML tl).filter (fun x => !isPriv x)).length cap ∧ A = Sl 69 6 a (((ML tl).filter (fun x => !isPriv x))).length cap ((((ML tl).filter (fun x => !isPriv x))).flatMap cM) :: F) := by
  refine Ctr.intro Try.func27 rfl (by kernel_rfl) rfl (fun F => ?_)
  simp only [List.nil_append]
  have hml := ML_len tl
  refine Run.sr ?_
  refine RunL.as rfl rfl ?_
  refine RunL.nil ?_
  refine Run.sr ?_
  refine RunL.mv rfl rfl ?_
  refine RunL.call rfl rfl (by rfl) (by repeat (first | (with_reducible exact Take.nil _) | (apply Take.cons (by first | ((repeat (first | (with_reducible exact F0 _) | apply F1)); done) | (repeat (first | exact F0 _ | apply F1)))))) (All_ctr h hn hb) (Wt.none rfl) rfl ?_
  rintro _ _ ⟨a1, c1, rfl, hA_⟩
  replace hA_ := hA_.symm; subst hA_
  refine RunL.slLen2 (T := 69) (sz := 6) (n := (ML tl).length) (by first | ((repeat (first | (with_reducible exact F0 _) | apply F1)); done) | (repeat (first | exact F0 _ | apply F1))) ?_; intro ⟨_, hcap⟩
  refine RunL.call rfl rfl (by rfl) (by repeat (first | (with_reducible exact Take.nil _) | (apply Take.cons (by first | ((repeat (first | (with_reducible exact F0 _) | apply F1)); done) | (repeat (first | exact F0 _ | apply F1)))))) (DeleteFunc_ctr (by omega) hcap) (Wt.none rfl) rfl ?_
  rintro _ _ ⟨rfl, hA_⟩
  replace hA_ := hA_.symm; subst hA_
  refine RunL.as rfl rfl ?_
  refine RunL.nil ?_
  exact Run.ret Try.func27 (res1 rfl rfl) (by exact ⟨_, _, rfl, rfl⟩) (by repeat (first | (with_reducible exact Fin.done (by repeat (first | (with_reducible exact Rest.here) | apply Rest.there))) | (apply Fin.cons (by first | ((repeat (first | (with_reducible exact F0 _) | apply F1)); done) | (repeat (first | exact F0 _ | apply F1))))))

theorem PublicO_ctr {G : Gp} {p : Nat} {tl : List (K × Pos)} (hn : KN tl) (hb : tl.length ≤ 1000) : Ctr Try.prog G 27 [.pointer (some ⟨p, 0, none⟩)] [Tb p tl] (fun F v A => ∃ a cap, v = .slice a ((ML tl).filter (fun x => !isPriv x)).length cap ∧ A = Tb p tl :: Sl 69 6 a (((ML tl).filter (fun x => !isPriv x))).length cap ((((ML tl).filter (fun x => !isPriv x))).flatMap cM) :: F) :=
  (Ctr.lend (Q := Tb p tl) (R := fun G => TbR G p tl) Lends.Tb cb27 (fun G' hle hr => Public_ctr hr hn hb)).mono (by rintro F v A ⟨A', rfl, h⟩; obtain ⟨a, cap, rfl, rfl⟩ := h; exact ⟨a, cap, rfl, rfl⟩)
end Go.Proofs.Ytaeacdhilekcbaa
