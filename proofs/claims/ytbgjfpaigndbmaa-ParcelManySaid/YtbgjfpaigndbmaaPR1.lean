/- What is read: plainly; panics. -/
import Derived.Test.YtbgjfpaigndbmaaP3
import Derived.Test.YtbgjfpaigndbmaaCsl23
set_option linter.unusedVariables false
set_option linter.unusedSimpArgs false
set_option linter.unusedSectionVars false
namespace Go.Proofs.Ytbgjfpaigndbmaa
open Go Csl
theorem und68 : Try.prog.underlying 68 = some (Go.TypeDesc.struct #[]) := Try.underlying68
theorem pl68 : placesOf Try.prog 68 = some ([], (.agg #[])) := by kernel_rfl
theorem cb43 : Callable Try.prog 43 := ⟨_, Try.func43, by kernel_rfl, by kernel_rfl⟩
theorem zz68 : zeroIs Try.prog 68 = some (.agg #[]) := by kernel_rfl
theorem sz68 : sizeIs Try.prog 68 = some 0 := by kernel_rfl
theorem cb50 : Callable Try.prog 50 := ⟨_, Try.func50, by kernel_rfl, by kernel_rfl⟩
theorem cb49 : Callable Try.prog 49 := ⟨_, Try.func49, by kernel_rfl, by kernel_rfl⟩
theorem cb14 : Callable Try.prog 14 := ⟨_, Try.func14, by kernel_rfl, by kernel_rfl⟩
theorem zz30 : zeroIs Try.prog 30 = some (.int .i64 0) := by kernel_rfl
theorem cb55 : Callable Try.prog 55 := ⟨_, Try.func55, by kernel_rfl, by kernel_rfl⟩
theorem cb11 : Callable Try.prog 11 := ⟨_, Try.func11, by kernel_rfl, by kernel_rfl⟩

namespace Csl
def withE (p : Prc) (s : Sli) : Prc := { p with ed := s }
def zeroP : Prc := ⟨false, .empty, .empty, 0, ⟨none, 0, 0⟩⟩
def rdGo (m2 em : Int) (p : Prc) : Nat → List Edu → List UInt8 → Int → Option (Prc × List Edu)
  | 0, xs, bs, er => if rdEnd bs er = 0 ∧ prcMay (withE p ⟨none, xs.length, 0⟩) xs = true then some (p, xs) else none
  | n + 1, xs, bs, er => if (rdText m2 bs er).2.2 = 0 ∧ (finE (rdE em (rdText m2 bs er).1)).2 = 0 then rdGo m2 em p n (xs ++ [(finE (rdE em (rdText m2 bs er).1)).1]) (rdText m2 bs er).2.1 (rdText m2 bs er).2.2 else none
def rdP (m1 m2 em : Int) (bs : List UInt8) : Option (Prc × List Edu) :=
  let f := rdFlag bs 0; let a := rdText m1 f.2.1 f.2.2; let t := rdText m1 a.2.1 a.2.2; let i := rdNum t.2.1 t.2.2; let n := rdNum i.2.1 i.2.2
  if n.2.2 = 0 ∧ n.1 ≤ 100 then rdGo m2 em ⟨f.1, mkS a.1, mkS t.1, i.1, ⟨none, 0, 0⟩⟩ n.1.toNat [] n.2.1 n.2.2 else none
theorem rdNum_range (bs : List UInt8) (er : Int) : 0 ≤ (rdNum bs er).1 ∧ (rdNum bs er).1 ≤ 9223372036854775807 := by
  by_cases h : er = 0
  · have := (rdNum_inv (bs := bs) (er := er) (fun q => absurd h q)).2.2; omega
  · unfold rdNum; rw [if_pos h]; exact ⟨Int.le_refl 0, by show (0 : Int) ≤ 9223372036854775807; decide⟩
theorem rdNum_len (bs : List UInt8) (er : Int) : (rdNum bs er).2.1.length ≤ bs.length := by
  by_cases h : er = 0
  · exact (rdNum_inv (bs := bs) (er := er) (fun q => absurd h q)).2.1
  · unfold rdNum; rw [if_pos h]; exact Nat.le_refl _
theorem rdText_len (m : Int) (bs : List UInt8) (er : Int) : (rdText m bs er).2.1.length ≤ bs.length := by
  have h := rdNum_len bs er
  unfold rdText
  simp only
  split
  · exact h
  · split
    · exact Nat.zero_le _
    · split
      · exact Nat.zero_le _
      · simp only [List.length_drop]; omega
theorem rdFlag_len (bs : List UInt8) (er : Int) : (rdFlag bs er).2.1.length ≤ bs.length := by
  unfold rdFlag
  split
  · exact Nat.le_refl _
  · cases bs with
    | nil => exact Nat.le_refl _
    | cons c cs =>
      simp only
      split
      · exact Nat.zero_le _
      · exact Nat.le_succ _
theorem finE_yes {q : Edu × Int} (h : (finE q).2 = 0) : q.2 = 0 ∧ eduMay q.1 = true ∧ finE q = (q.1, 0) := by
  by_cases h1 : q.2 = 0 ∧ eduMay q.1 = true
  · exact ⟨h1.1, h1.2, by unfold finE; rw [if_pos h1]⟩
  · unfold finE at h; rw [if_neg h1] at h; cases h
theorem finE_ok {em : Int} {s : List UInt8} (h : (finE (rdE em s)).2 = 0) : eduSmall (finE (rdE em s)).1 ∧ okEdu (finE (rdE em s)).1 ∧ eduMay (finE (rdE em s)).1 = true := by
  obtain ⟨_, h1, h2⟩ := finE_yes h
  rw [h2]
  have hl := may_lens h1
  simp only [bl_length] at hl
  refine ⟨⟨by show (rdE em s).1.room.size ≤ _; omega, by show (rdE em s).1.user.size ≤ _; omega, by show (rdE em s).1.event.size ≤ _; omega, by show (rdE em s).1.thread.size ≤ _; omega⟩, ?_, h1⟩
  have r := fun b e => rdNum_range b e
  have w := fun b e => i64_wf (n := (rdNum b e).1) ⟨by have := (r b e).1; omega, (r b e).2⟩
  exact ⟨w _ _, Nat.le_trans hl.1 (by decide), Nat.le_trans hl.2.1 (by decide), Nat.le_trans hl.2.2.1 (by decide), Nat.le_trans hl.2.2.2 (by decide), w _ _, w _ _, w _ _, w _ _⟩
theorem may_with {p : Prc} {a : Option Addr} {n c : Nat} {xs : List Edu} : prcMay (withE p ⟨a, n, c⟩) xs = prcMay (withE p ⟨none, n, 0⟩) xs := rfl
end Csl

set_option maxHeartbeats 4000000 in
set_option maxRecDepth 100000 in
theorem mustT_ctr {G : Gp} :
    Ctr Try.prog G 48 [.bool true] [] (fun F v A => v = .tuple #[] ∧ A = F) := by
  refine Ctr.intro Try.func48 rfl (by kernel_rfl) rfl (fun F => ?_)
  simp only [List.nil_append]
  refine Run.sr ?_
  refine RunL.mv rfl rfl ?_
  refine RunL.pure (Pure.not rfl) (Wt.none rfl) rfl rfl ?_
  refine RunL.nil ?_
  refine Run.cond rfl (fun hc1 => ?_) (fun hc1 => ?_)
  · try simp only [ZA, ZB, ZC, ZD, ZE, ZF, ZG, ZH, ZI, ZJ, ZK, ZL, ZM, ZN, ZO, ZP, ZQ, ZR] at hc1
    exfalso
    simp at hc1
  try simp only [ZA, ZB, ZC, ZD, ZE, ZF, ZG, ZH, ZI, ZJ, ZK, ZL, ZM, ZN, ZO, ZP, ZQ, ZR] at hc1
  refine Run.skip ?_
  exact Run.fin Try.func48 (res0 rfl) (by exact ⟨rfl, rfl⟩) (by repeat (first | (with_reducible exact Fin.done (by repeat (first | (with_reducible exact Rest.here) | apply Rest.there))) | (apply Fin.cons (by first | ((repeat (first | (with_reducible exact F0 _) | apply F1)); done) | (repeat (first | exact F0 _ | apply F1))))))

set_option maxRecDepth 100000 in
theorem mustF_ctr {G : Gp} :
    CtrP Try.prog G 48 [.bool false] [] (.iface 68 (.agg #[])) (fun F A => A = F) := by
  refine CtrP.intro Try.func48 rfl (by kernel_rfl) rfl (fun F => ?_)
  simp only [List.nil_append]
  refine Run.sr ?_
  refine RunL.mv rfl rfl ?_
  refine RunL.pure (Pure.not rfl) (Wt.none rfl) rfl rfl ?_
  refine RunL.nil ?_
  refine Run.cond rfl (fun hc1 => ?_) (fun hc1 => ?_)
  rotate_left
  · try simp only [ZA, ZB, ZC, ZD, ZE, ZF, ZG, ZH, ZI, ZJ, ZK, ZL, ZM, ZN, ZO, ZP, ZQ, ZR] at hc1
    exfalso
    simp at hc1
  try simp only [ZA, ZB, ZC, ZD, ZE, ZF, ZG, ZH, ZI, ZJ, ZK, ZL, ZM, ZN, ZO, ZP, ZQ, ZR] at hc1
  refine Run.region ?_
  refine RunL.pure (Pure.buildL (ps := []) (zs := []) (xs := []) pl68 rfl rfl rfl rfl) (Wt.none rfl) rfl rfl ?_
  refine RunL.pure (Pure.makeInterface rfl und68 rfl) (Wt.none rfl) rfl rfl ?_
  exact RunL.panicOp Try.func48 rfl (Wt.none rfl) (by rfl) (by repeat (first | (with_reducible exact Fin.done (by repeat (first | (with_reducible exact Rest.here) | apply Rest.there))) | (apply Fin.cons (by first | ((repeat (first | (with_reducible exact F0 _) | apply F1)); done) | (repeat (first | exact F0 _ | apply F1))))))

set_option maxRecDepth 100000 in
set_option maxHeartbeats 4000000 in
theorem gone_ctr {G : Gp} {p2 p3 : Nat} {u0 u1 u2 u3 u4 v3 : Value} :
    CtrD Try.prog G 43 [.pointer (some ⟨p2, 0, none⟩), .pointer (some ⟨p3, 0, none⟩)] [row p2 33 [u0, u1, u2, u3, u4], row p3 30 [v3]] (.panicking [{ v := (.iface 68 (.agg #[])), recovered := false }]) (.panicking [{ v := (.iface 68 (.agg #[])), recovered := true }]) (fun F A => A = [row p2 33 (cPrc zeroP), row p3 30 [.int .i64 2]] ++ F) := by
  refine ⟨cb43, fun F w s => callsD_of_wpS Try.func43 rfl (fun c0 cs hm => ?_)⟩
  refine wpS_seq ?_
  refine wpS_recover (c := ⟨Try.prog, 43, Try.f43, fun _ _ => False, []⟩) (e := par 0 [.pointer (some ⟨p2, 0, none⟩), .pointer (some ⟨p3, 0, none⟩)]) (A := [row p2 33 [u0, u1, u2, u3, u4], row p3 30 [v3]] ++ F) (v := (.iface 68 (.agg #[]))) (e' := [(0, .pointer (some ⟨p2, 0, none⟩)), (1, .pointer (some ⟨p3, 0, none⟩)), (3, .bool true)]) (A' := [row p2 33 [u0, u1, u2, u3, u4], row p3 30 [v3]] ++ F) rfl rfl rfl (.inl (recoverD_pan hm)) ?_ (par_ok _ rfl) s ?_
  · simp only [List.cons_append, List.nil_append]
    refine RunL.pure (Pure.assertYes rfl und68 rfl) (Wt.none rfl) rfl rfl ?_
    refine RunL.mv rfl rfl ?_
    refine RunL.pure (Pure.extract rfl rfl) (Wt.none rfl) rfl rfl ?_
    refine RunL.pure (Pure.extract rfl rfl) (Wt.none rfl) rfl rfl ?_
    refine RunL.alloc zz68 (Wt.none rfl) rfl ?_; intro b2
    refine RunL.store rfl rfl (by first | ((repeat (first | (with_reducible exact F0 _) | apply F1)); done) | (repeat (first | exact F0 _ | apply F1))) sz68 (by rfl) (by simp [Value.isOne, Value.cells]) (by first | exact Nat.le_of_ble_eq_true rfl | (simp; done) | (simp; omega)) (Wt.none rfl) ?_
    try simp only [List.set_cons_zero, List.set_cons_succ]
    refine RunL.as rfl rfl ?_
    exact RunL.endTo (F := F) (.cons rfl (.cons rfl (.cons rfl (.nil))) : Keep _ [0, 1, 3] _) (by repeat (first | (with_reducible exact Fin.done (by repeat (first | (with_reducible exact Rest.here) | apply Rest.there))) | (apply Fin.cons (by first | ((repeat (first | (with_reducible exact F0 _) | apply F1)); done) | (repeat (first | exact F0 _ | apply F1))))))
  intro a1 w1 hE1 s1
  refine wpS_seq ?_
  refine wpS_list (c := ⟨Try.prog, 43, Try.f43, fun _ _ => False, []⟩) (A := [row p2 33 [u0, u1, u2, u3, u4], row p3 30 [v3]] ++ F) (e' := (9, .bool true) :: [(0, .pointer (some ⟨p2, 0, none⟩)), (1, .pointer (some ⟨p3, 0, none⟩)), (3, .bool true)]) (A' := [row p2 33 [u0, u1, u2, u3, u4], row p3 30 [v3]] ++ F) rfl rfl ?_ hE1 s1 ?_
  · simp only [List.cons_append, List.nil_append]
    refine RunL.mv rfl rfl ?_
    exact fun a w h s => ⟨h, s⟩
  intro a2 w2 hE2 s2
  refine wpS_cond (t := true) (hE2.opv rfl) ?_
  refine wpS_list (c := ⟨Try.prog, 43, Try.f43, fun _ _ => False, []⟩) (A := [row p2 33 [u0, u1, u2, u3, u4], row p3 30 [v3]] ++ F) (e' := [(0, .pointer (some ⟨p2, 0, none⟩)), (1, .pointer (some ⟨p3, 0, none⟩)), (3, .bool true)]) (A' := [row p2 33 (cPrc zeroP), row p3 30 [.int .i64 2]] ++ F) rfl rfl ?_ hE2 s2 ?_
  · simp only [List.cons_append, List.nil_append]
    refine RunL.pure (Pure.buildL (ps := []) (zs := [(.bool false), (.string .empty), (.string .empty), (.int .i64 0), (.slice none 0 0)]) (xs := (cPrc zeroP)) pl33 rfl rfl rfl rfl) (Wt.none rfl) rfl rfl ?_
    refine RunL.storeW (xs := (cPrc zeroP)) rfl rfl (by first | ((repeat (first | (with_reducible exact F0 _) | apply F1)); done) | (repeat (first | exact F0 _ | apply F1))) sz33 (by rfl) (by rfl) (by rfl) (Wt.none rfl) ?_
    refine RunL.store1 rfl rfl (by first | ((repeat (first | (with_reducible exact F0 _) | apply F1)); done) | (repeat (first | exact F0 _ | apply F1))) sz30 (by rfl) (by simp) (Wt.none rfl) ?_
    try simp only [List.set_cons_zero, List.set_cons_succ]
    exact RunL.endTo (F := F) (.cons rfl (.cons rfl (.cons rfl (.nil))) : Keep _ [0, 1, 3] _) (by repeat (first | (with_reducible exact Fin.done (by repeat (first | (with_reducible exact Rest.here) | apply Rest.there))) | (apply Fin.cons (by first | ((repeat (first | (with_reducible exact F0 _) | apply F1)); done) | (repeat (first | exact F0 _ | apply F1))))))
  intro a3 w3 hE3 s3
  exact ⟨hE3.1, _, rfl, _, results_none rfl _ _ _, _, _, rfl, rfl, rfl, s3⟩

set_option maxRecDepth 100000 in
set_option maxHeartbeats 4000000 in
theorem stay_ctr {G : Gp} {p2 p3 : Nat} {u0 u1 u2 u3 u4 v3 : Value} :
    CtrD Try.prog G 43 [.pointer (some ⟨p2, 0, none⟩), .pointer (some ⟨p3, 0, none⟩)] [row p2 33 [u0, u1, u2, u3, u4], row p3 30 [v3]] .returning .returning (fun F A => A = [row p2 33 [u0, u1, u2, u3, u4], row p3 30 [v3]] ++ F) := by
  refine ⟨cb43, fun F w s => callsD_of_wpS Try.func43 rfl (fun c0 cs hm => ?_)⟩
  refine wpS_seq ?_
  refine wpS_recover (c := ⟨Try.prog, 43, Try.f43, fun _ _ => False, []⟩) (e := par 0 [.pointer (some ⟨p2, 0, none⟩), .pointer (some ⟨p3, 0, none⟩)]) (A := [row p2 33 [u0, u1, u2, u3, u4], row p3 30 [v3]] ++ F) (v := .nilIface) (e' := [(0, .pointer (some ⟨p2, 0, none⟩)), (1, .pointer (some ⟨p3, 0, none⟩)), (3, .bool false)]) (A' := [row p2 33 [u0, u1, u2, u3, u4], row p3 30 [v3]] ++ F) rfl rfl rfl (.inr ⟨recoverD_ret hm, rfl, rfl⟩) ?_ (par_ok _ rfl) s ?_
  · simp only [List.cons_append, List.nil_append]
    refine RunL.pure (Pure.assertNil rfl und68 zz68) (Wt.none rfl) rfl rfl ?_
    refine RunL.mv rfl rfl ?_
    refine RunL.pure (Pure.extract rfl rfl) (Wt.none rfl) rfl rfl ?_
    refine RunL.pure (Pure.extract rfl rfl) (Wt.none rfl) rfl rfl ?_
    refine RunL.alloc zz68 (Wt.none rfl) rfl ?_; intro b2
    refine RunL.store rfl rfl (by first | ((repeat (first | (with_reducible exact F0 _) | apply F1)); done) | (repeat (first | exact F0 _ | apply F1))) sz68 (by rfl) (by simp [Value.isOne, Value.cells]) (by first | exact Nat.le_of_ble_eq_true rfl | (simp; done) | (simp; omega)) (Wt.none rfl) ?_
    try simp only [List.set_cons_zero, List.set_cons_succ]
    refine RunL.as rfl rfl ?_
    exact RunL.endTo (F := F) (.cons rfl (.cons rfl (.cons rfl (.nil))) : Keep _ [0, 1, 3] _) (by repeat (first | (with_reducible exact Fin.done (by repeat (first | (with_reducible exact Rest.here) | apply Rest.there))) | (apply Fin.cons (by first | ((repeat (first | (with_reducible exact F0 _) | apply F1)); done) | (repeat (first | exact F0 _ | apply F1))))))
  intro a1 w1 hE1 s1
  refine wpS_seq ?_
  refine wpS_list (c := ⟨Try.prog, 43, Try.f43, fun _ _ => False, []⟩) (A := [row p2 33 [u0, u1, u2, u3, u4], row p3 30 [v3]] ++ F) (e' := (9, .bool false) :: [(0, .pointer (some ⟨p2, 0, none⟩)), (1, .pointer (some ⟨p3, 0, none⟩)), (3, .bool false)]) (A' := [row p2 33 [u0, u1, u2, u3, u4], row p3 30 [v3]] ++ F) rfl rfl ?_ hE1 s1 ?_
  · simp only [List.cons_append, List.nil_append]
    refine RunL.mv rfl rfl ?_
    exact fun a w h s => ⟨h, s⟩
  intro a2 w2 hE2 s2
  refine wpS_cond (t := false) (hE2.opv rfl) ?_
  refine wpS_of_wp (fun b k cs => ⟨.normal, a2, w2, ?_, .one step_skip⟩)
  exact ⟨hE2.1, _, by rw [← hm], _, results_none rfl _ _ _, _, _, rfl, rfl, rfl, s2⟩

end Go.Proofs.Ytbgjfpaigndbmaa
