/- Marks: the example. -/
import Derived.Test.YtaaondbmkibkkaaGreatQ5
set_option linter.unusedVariables false
set_option linter.unusedSimpArgs false
set_option linter.unusedSectionVars false
namespace Go.Proofs.YtaaondbmkibkkaaGreat
open Go Csl


namespace Csl
theorem good_small (e : Edu) : (goodE e).room.size ≤ 5 ∧ (goodE e).user.size ≤ 5 ∧ (goodE e).event.size ≤ 5 ∧ (goodE e).thread.size ≤ 5 := by
  have h0 : ByteArray.empty.size = 0 := rfl
  have hr := roomOf_size e.span
  have hu := userOf_size e.state
  have he := eventOf_size (evNum e)
  have ht := threadOf_size e.thread.size
  unfold goodE good0
  split
  · simp only; omega
  · split
    · simp only; omega
    · simp only; omega
theorem good_nums (e : Edu) : (1 ≤ (goodE e).kind ∧ (goodE e).kind ≤ 3) ∧ (0 ≤ (goodE e).span ∧ (goodE e).span ≤ 60) ∧ (0 ≤ (goodE e).state ∧ (goodE e).state ≤ 2) ∧ (0 ≤ (goodE e).tick ∧ (goodE e).tick ≤ 99) ∧ (0 ≤ (goodE e).stamp ∧ (goodE e).stamp ≤ 8) := by
  have h0 := around_lt (z := e.kind) (m := 3) (by decide)
  have h1 := around_lt (z := e.tick) (m := 100) (by decide)
  have h2 := around_lt (z := e.stamp) (m := 9) (by decide)
  have h3 := around_lt (z := e.span) (m := 60) (by decide)
  have h4 := around_lt (z := e.span) (m := 3) (by decide)
  unfold goodE good0
  split
  · simp only; omega
  · split
    · simp only; split <;> omega
    · simp only; omega
theorem good_ok (e : Edu) : okEdu (goodE e) := by
  obtain ⟨s1, s2, s3, s4⟩ := good_small e
  obtain ⟨n1, n2, n3, n4, n5⟩ := good_nums e
  exact ⟨i64_wf (by omega), by omega, by omega, by omega, by omega, i64_wf (by omega), i64_wf (by omega), i64_wf (by omega), i64_wf (by omega)⟩
theorem goodE_small (e : Edu) : eduSmall (goodE e) := by obtain ⟨s1, s2, s3, s4⟩ := good_small e; exact ⟨by omega, by omega, by omega, by omega⟩
theorem pub_ok (e : Edu) : okEdu (pubE e) := good_ok e
theorem pub_small (e : Edu) : eduSmall (pubE e) := goodE_small e
theorem few_ok {e : Edu} (h : okEdu e) : okEdu (fewE e) := by
  obtain ⟨h1, _, _, _, _, h2⟩ := h
  have q := fun s => cut_size s 40
  have := q e.room; have := q e.user; have := q e.event; have := q e.thread
  exact ⟨h1, by show (cut _ _).size ≤ _; omega, by show (cut _ _).size ≤ _; omega, by show (cut _ _).size ≤ _; omega, by show (cut _ _).size ≤ _; omega, h2⟩
theorem few_small (e : Edu) : eduSmall (fewE e) := by
  have q := fun s => cut_size s 40
  have := q e.room; have := q e.user; have := q e.event; have := q e.thread
  exact ⟨by show (cut _ _).size ≤ _; omega, by show (cut _ _).size ≤ _; omega, by show (cut _ _).size ≤ _; omega, by show (cut _ _).size ≤ _; omega⟩

/-! ### The example -/
def lvE : Edu := ⟨1, ⟨#[33, 114, 58, 115]⟩, ⟨#[64, 97, 58, 115]⟩, ⟨#[36, 98]⟩, .empty, false, false, 0, 0, 0, 0⟩
def lvV : Evt := ⟨⟨#[36, 98]⟩, ⟨#[33, 114, 58, 115]⟩, [], .empty, ⟨#[64, 97, 58, 115]⟩, 0⟩
theorem lvE_small : eduSmall lvE := by unfold eduSmall; decide +kernel
theorem lv_kind : lvE.kind = 1 ∧ eduLocal lvE = true := by decide +kernel
theorem lv_fits : fitsI (vget [] lvE.room) lvE.event lvE.thread = 4 := by decide +kernel
theorem lv_put : mPut 2 (vget []) ⟨[], [], 0⟩ lvE = (⟨[], [lvE], 0⟩, false, 0) := by
  rw [mPut_park lv_kind lv_fits]
  rw [show pputL 2 (MS.mk [] [] 0).es lvE = [lvE] from by decide +kernel, show pputN 2 (MS.mk [] [] 0).es lvE (MS.mk [] [] 0).lost = 0 from by decide +kernel]
theorem lvV_wf : evWf lvV := by
  have h : ((lvV.id.size ≤ 1000 ∧ lvV.room.size ≤ 1000 ∧ lvV.thread.size ≤ 1000 ∧ lvV.user.size ≤ 1000) ∧ (lvV.does = 0 ∧ (∀ p ∈ lvV.ps, p.size ≤ 1000)) ∧ lvV.ps.length ≤ 1000) := by decide +kernel
  obtain ⟨⟨h1, h2, h3, h4⟩, ⟨h5, h6⟩, h7⟩ := h
  exact evWf_of h1 h2 h3 h4 (by rw [h5]; decide) h6 h7
abbrev lvS : MS := ⟨[], [lvE], 0⟩
theorem lv_ok1 : lvS.ok 1 := ⟨List.nodup_nil, by decide, by decide, (fun e he => by obtain rfl := List.mem_singleton.1 he; exact lvE_small), by decide, by decide⟩
theorem lv_out : (mArr 2 (vget (vaddL [] lvV)) lvS ⟨#[33, 114, 58, 115]⟩ ⟨#[36, 98]⟩).2.length = 1 := by decide +kernel
theorem lv_es : (mArr 2 (vget (vaddL [] lvV)) lvS ⟨#[33, 114, 58, 115]⟩ ⟨#[36, 98]⟩).1.es.length = 0 := by decide +kernel
theorem lv_tl : (mArr 2 (vget (vaddL [] lvV)) lvS ⟨#[33, 114, 58, 115]⟩ ⟨#[36, 98]⟩).1.tl.length = 1 := by decide +kernel
theorem lv_ok2 : (mArr 2 (vget (vaddL [] lvV)) lvS ⟨#[33, 114, 58, 115]⟩ ⟨#[36, 98]⟩).1.ok 2 := (mArr_ok lv_ok1).1
end Csl

theorem NewM1_ctr {G : Gp} {z : Int} (hz : 1 ≤ z ∧ z ≤ 1000) : Ctr Tryz.prog G 10 [.int .i64 z] [] (fun F v A => ∃ pm, v = .tuple #[.pointer (some ⟨pm, 0, none⟩), .int .i64 0] ∧ A = Mk pm z ⟨[], [], 0⟩ :: F) :=
  NewM_ctr.mono (by rintro F v A (⟨h, _⟩ | ⟨_, h⟩)
                    · omega
                    · exact h)
set_option maxHeartbeats 1000000 in
set_option maxRecDepth 100000 in
theorem lives_ctr {G : Gp} :
    Ctr Tryz.prog G 17 [] [] (fun F v A => v = .bool true ∧ A = F) := by
  refine Ctr.intro Tryz.func17 rfl (by kernel_rfl) rfl (fun F => ?_)
  simp only [List.nil_append]
  refine sr' (as' rfl (nl' (sr' ?_)))
  refine ca' rfl rfl (s := NewM1_ctr (z := 2) (by first | decide | omega)) (q := ?_)
  rintro _ _ ⟨pm, rfl, hA_⟩
  replace hA_ := hA_.symm; subst hA_
  refine mv' rfl (pp' (Pure.extract rfl rfl) (pp' (Pure.extract rfl rfl) (as' rfl (as' rfl (nl' (sr' ?_))))))
  refine ca' rfl rfl (s := NewV_ctr) (q := ?_)
  rintro _ _ ⟨pv, rfl, hA_⟩
  replace hA_ := hA_.symm; subst hA_
  refine as' rfl (nl' (sq' (sr' (mv' rfl (pp' (Pure.ptrEqNil rfl rfl und26) (mv' rfl (py' (Pure.move rfl) (py' (Pure.ptrEqNil rfl rfl und30) (pp' (Pure.pickF rfl rfl) (mv' rfl (py' (Pure.move rfl) (py' (Pure.neq rfl rfl) (pp' (Pure.pickF rfl rfl) (nl' ?_))))))))))))))
  refine Run.cond rfl (fun hc1 => ?_) (fun hc1 => ?_)
  · try simp only [Z] at hc1
    exfalso
    first | exact hc1 rfl | exact hc1 trivial | (simp at hc1; done)
  try simp only [Z] at hc1
  refine sk' (sr' (pp' (Pure.buildL (ps := [(0, _), (1, _), (2, _), (3, _)]) (zs := [(.int .i64 0), (.string .empty), (.string .empty), (.string .empty), (.string .empty), (.bool false), (.bool false), (.int .i64 0), (.int .i64 0), (.int .i64 0), (.int .i64 0)]) (xs := (cEdu lvE)) pl23 rfl rfl rfl rfl) ?_))
  refine RunL.alloc zz23 (Wt.none rfl) rfl ?_; intro b4
  refine sW' (cEdu lvE) rfl rfl sz23 ?_
  refine nl' (sr' (mv' rfl (mv' rfl (lA' (cEdu lvE) rfl agg23 sz23 ?_))))
  refine ca' rfl rfl (s := Ctr.lend Lends.Vw cb16 (fun G' hle hr => PutM_ctr (e := lvE) hr lvE_small (by decide) (by decide))) (q := ?_)
  rintro _ _ ⟨_, rfl, rfl, hA_⟩
  replace hA_ := hA_.symm; subst hA_
  rw [lv_put]
  refine mv' rfl (pp' (Pure.extract rfl rfl) (pp' (Pure.extract rfl rfl) (as' rfl (as' rfl (nl' (sr' (mv' rfl (pp' (Pure.buildL (ps := [(0, _), (1, _), (4, _)]) (zs := [(.string .empty), (.string .empty), (.slice none 0 0), (.string .empty), (.string .empty), (.int .i64 0)]) (xs := (cEvn ((lvV.evn (⟨none, 0, 0⟩ : Sli))))) pl49 rfl rfl rfl rfl) ?_))))))))
  refine ca' rfl rfl (s := AddV_ctr (e := lvV.evn (⟨none, 0, 0⟩ : Sli)) (ps := []) ⟨rfl, .inl ⟨rfl, rfl⟩⟩ lvV_wf (fun r => by rw [show vget [] r = [] from rfl]; exact Nat.zero_le _)) (q := ?_)
  rintro _ _ ⟨rfl, hA_⟩
  replace hA_ := hA_.symm; subst hA_
  rw [show Evn.ev (lvV.evn (⟨none, 0, 0⟩ : Sli)) [] = lvV from rfl]
  refine nl' (sr' (mv' rfl (mv' rfl ?_)))
  refine ca' rfl rfl (s := Ctr.lend Lends.Vw cb22 (fun G' hle hr => ArriveM_ctr (nn := 1) hr lv_ok1 (by decide))) (q := ?_)
  rintro _ _ ⟨_, rfl, a9, c9, rfl, hA_⟩
  replace hA_ := hA_.symm; subst hA_
  rw [lv_out]
  refine as' rfl (nl' (sr' (mv' rfl (pp' (Pure.not rfl) (mv' rfl ?_)))))
  refine RunL.split (d := 39) rfl (fun hg2 => ?_) (fun hg2 => ?_)
  rotate_left
  · try simp only [Z] at hg2
    exfalso
    first | exact hg2 rfl | exact hg2 trivial | (simp at hg2; done)
  try simp only [Z] at hg2
  refine py' (Pure.move rfl) (py' (Pure.eql rfl rfl) (pp' (Pure.pickT rfl rfl) (mv' rfl ?_)))
  refine RunL.split (d := 43) rfl (fun hg3 => ?_) (fun hg3 => ?_)
  rotate_left
  · try simp only [Z] at hg3
    exfalso
    first | exact hg3 rfl | exact hg3 trivial | (simp at hg3; done)
  try simp only [Z] at hg3
  refine py' (Pure.move rfl) (py' (Pure.lenSl rfl rfl und51) (py' (Pure.eql rfl rfl) (pp' (Pure.pickT rfl rfl) (mv' rfl ?_))))
  refine RunL.split (d := 48) rfl (fun hg4 => ?_) (fun hg4 => ?_)
  rotate_left
  · try simp only [Z] at hg4
    exfalso
    first | exact hg4 rfl | exact hg4 trivial | (simp at hg4; done)
  try simp only [Z] at hg4
  refine py' (Pure.move rfl) ?_
  refine ca' rfl rfl (s := WaitsM_ctr (by rw [lv_es]; decide)) (q := ?_)
  rintro _ _ ⟨a8, c8, rfl, hA_⟩
  replace hA_ := hA_.symm; subst hA_
  rw [lv_es]
  refine py' (Pure.lenSl rfl rfl und25) (py' (Pure.eql rfl rfl) (pp' (Pure.pickT rfl rfl) (mv' rfl ?_)))
  refine RunL.split (d := 54) rfl (fun hg5 => ?_) (fun hg5 => ?_)
  rotate_left
  · try simp only [Z] at hg5
    exfalso
    first | exact hg5 rfl | exact hg5 trivial | (simp at hg5; done)
  try simp only [Z] at hg5
  refine py' (Pure.move rfl) ?_
  refine RunL.openMk (by first | ((repeat (first | (with_reducible exact F0 _) | apply F1)); done) | (repeat (first | exact F0 _ | apply F1))) ?_; intro pt pp
  refine py' (Pure.nilCheck rfl) (py' (Pure.fieldAddr rfl fo60_0) (l1' rfl agg57 ?_))
  refine ca' rfl rfl (s := AllO_ctr lv_ok2.1 (by rw [lv_tl]; decide)) (q := ?_)
  rintro _ _ ⟨a7, c7, rfl, hA_⟩
  replace hA_ := hA_.symm; subst hA_
  rw [ML_len, lv_tl]
  refine py' (Pure.lenSl rfl rfl und55) (py' (Pure.eql rfl rfl) (pp' (Pure.pickT rfl rfl) (as' rfl (nl' ?_))))
  exact rt' Tryz.func17 (res1 rfl rfl) (by exact ⟨rfl, rfl⟩)

end Go.Proofs.YtaaondbmkibkkaaGreat
