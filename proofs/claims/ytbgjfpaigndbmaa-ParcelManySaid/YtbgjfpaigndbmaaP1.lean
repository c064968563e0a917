/- Parcels. -/
import Derived.Test.YtbgjfpaigndbmaaE6
set_option linter.unusedVariables false
set_option linter.unusedSimpArgs false
set_option linter.unusedSectionVars false
namespace Go.Proofs.Ytbgjfpaigndbmaa
open Go Csl
theorem fo33_4 : fieldOff Try.prog 33 4 = some 4 := by kernel_rfl
theorem agg22 : isAggOf Try.prog 22 = some false := by kernel_rfl
theorem fo33_1 : fieldOff Try.prog 33 1 = some 1 := by kernel_rfl
theorem fo33_2 : fieldOff Try.prog 33 2 = some 2 := by kernel_rfl
theorem fo33_3 : fieldOff Try.prog 33 3 = some 3 := by kernel_rfl
theorem fo33_0 : fieldOff Try.prog 33 0 = some 0 := by kernel_rfl
theorem fo24_1 : fieldOff Try.prog 24 1 = some 1 := by kernel_rfl
theorem fo24_2 : fieldOff Try.prog 24 2 = some 2 := by kernel_rfl
theorem fo24_3 : fieldOff Try.prog 24 3 = some 3 := by kernel_rfl
theorem fo24_4 : fieldOff Try.prog 24 4 = some 4 := by kernel_rfl
theorem fo24_0 : fieldOff Try.prog 24 0 = some 0 := by kernel_rfl
theorem zz33 : zeroIs Try.prog 33 = some (.agg #[(.bool false), (.string .empty), (.string .empty), (.int .i64 0), (.slice none 0 0)]) := by kernel_rfl
theorem zz24 : zeroIs Try.prog 24 = some (.agg #[(.bool false), (.string .empty), (.string .empty), (.int .i64 0), (.slice none 0 0)]) := by kernel_rfl
theorem pl33 : placesOf Try.prog 33 = some ([(0, 1), (1, 1), (2, 1), (3, 1), (4, 1)], (.agg #[(.bool false), (.string .empty), (.string .empty), (.int .i64 0), (.slice none 0 0)])) := by kernel_rfl
theorem by50 : bytesIs Try.prog 50 = some 112 := by kernel_rfl
theorem sz22 : sizeIs Try.prog 22 = some 1 := by kernel_rfl
theorem pl24 : placesOf Try.prog 24 = some ([(0, 1), (1, 1), (2, 1), (3, 1), (4, 1)], (.agg #[(.bool false), (.string .empty), (.string .empty), (.int .i64 0), (.slice none 0 0)])) := by kernel_rfl

namespace Csl
def HasE (G : Gp) (p : Prc) (xs : List Edu) : Prop := p.ed.n = xs.length ∧ SlR G 50 11 p.ed.a p.ed.n (xs.flatMap cEdu) ∧ p.ed.n ≤ p.ed.c
theorem HasE.mono {G G' : Gp} {p : Prc} {xs : List Edu} (h : HasE G p xs) (hle : G.le G') : HasE G' p xs := ⟨h.1, h.2.1.mono hle, h.2.2⟩
def prcMay (p : Prc) (xs : List Edu) : Bool := serverB (bl p.frm) && (serverB (bl p.to_) && (decide (¬ bl p.frm = bl p.to_) && (decide (1 ≤ p.id) && (decide (p.id ≤ 1099511627776) && (decide ((p.ed.n : Int) ≤ 100) && (xs.all eduMay && (!p.ack || ((p.ed.n : Int) == 0))))))))
def eduTxt (e : Edu) : List UInt8 := numN (eduBytes e).length ++ eduBytes e
def prcHead (p : Prc) (n : Nat) : List UInt8 := flg p.ack ++ txt p.frm ++ txt p.to_ ++ numN p.id.toNat ++ numN n
def prcBytes (p : Prc) (xs : List Edu) : List UInt8 := prcHead p xs.length ++ xs.flatMap eduTxt
def prcSame (p q : Prc) (xs ys : List Edu) : Bool := decide (xs = ys) && (decide (p.ack = q.ack) && (decide (p.frm = q.frm) && (decide (p.to_ = q.to_) && decide (p.id = q.id))))
theorem eduBytes_len3 {e : Edu} (hs : eduSmall e) (ho : okEdu e) : (eduBytes e).length ≤ 5000 := by
  obtain ⟨s1, s2, s3, s4⟩ := hs
  obtain ⟨h1, _, _, _, _, h2, h3, h4, h5⟩ := ho
  replace h1 := wf_i64 h1; replace h2 := wf_i64 h2; replace h3 := wf_i64 h3; replace h4 := wf_i64 h4; replace h5 := wf_i64 h5
  have n1 := numN_le e.kind.toNat (by omega); have n2 := numN_le e.span.toNat (by omega); have n3 := numN_le e.state.toNat (by omega); have n4 := numN_le e.tick.toNat (by omega); have n5 := numN_le e.stamp.toNat (by omega)
  have t1 := txt_len s1; have t2 := txt_len s2; have t3 := txt_len s3; have t4 := txt_len s4
  unfold eduBytes eduTexts eduNums flg
  simp only [List.length_append, List.flatMap_cons, List.flatMap_nil, List.length_nil, List.length_cons]
  omega
theorem eduTxt_len {e : Edu} (hs : eduSmall e) (ho : okEdu e) : (eduTxt e).length ≤ 5009 := by
  have h := eduBytes_len3 hs ho
  have := numN_le (eduBytes e).length (by omega)
  unfold eduTxt; rw [List.length_append]; omega
theorem server_len {l : List UInt8} (h : serverB l = true) : l.length ≤ 16 := by
  unfold serverB at h; simp only [Bool.and_eq_true] at h; exact may_len h.1
theorem may_facts {p : Prc} {xs : List Edu} (h : prcMay p xs = true) : p.frm.size ≤ 16 ∧ p.to_.size ≤ 16 ∧ 1 ≤ p.id ∧ p.id ≤ 1099511627776 ∧ (p.ed.n : Int) ≤ 100 ∧ xs.all eduMay = true := by
  unfold prcMay at h
  simp only [Bool.and_eq_true, decide_eq_true_eq] at h
  obtain ⟨h1, h2, _, h3, h4, h5, h6, _⟩ := h
  have a := server_len h1; have b := server_len h2
  rw [bl_length] at a b
  exact ⟨a, b, h3, h4, h5, h6⟩
theorem txt_small {s : ByteArray} (h : s.size ≤ 16) : (txt s).length ≤ 25 := by unfold txt; have := numN_le s.size (by omega); rw [List.length_append, bl_length]; omega
def goodP (p : Prc) (s : Sli) : Prc := ⟨p.ack, serverOf (around p.frm.size 3), serverOf (around p.frm.size 3 + 1 + around p.to_.size 2), 1 + around p.id 1099511627776, s⟩
def goodL (p : Prc) (xs : List Edu) : List Edu := if p.ack then [] else (xs.take 5).map pubE
def fewP (p : Prc) (s : Sli) : Prc := ⟨p.ack, cut p.frm 40, cut p.to_ 40, p.id, s⟩
theorem good_done {p : Prc} {xs : List Edu} {i : Nat} (hn : p.ed.n = xs.length) (hi : i ≤ p.ed.n) (h5 : i ≤ 5) (ha : p.ack = true → i = 0) (h : p.ed.n ≤ i ∨ 5 ≤ i ∨ p.ack = true) : (xs.take i).map pubE = goodL p xs ∧ i = (goodL p xs).length := by
  unfold goodL
  by_cases a : p.ack = true
  · rw [if_pos a]; obtain rfl := ha a; simp
  · rw [if_neg a]
    have : xs.take i = xs.take 5 := by
      rcases h with h | h | h
      · rw [List.take_of_length_le (by omega), List.take_of_length_le (by omega)]
      · rw [show i = 5 from by omega]
      · exact absurd h a
    rw [this]
    refine ⟨rfl, ?_⟩
    rw [List.length_map, ← this, List.length_take]; omega
theorem goodL_len (p : Prc) (xs : List Edu) : (goodL p xs).length ≤ 5 := by
  unfold goodL; split
  · simp
  · rw [List.length_map, List.length_take]; omega
theorem goodL_facts {p : Prc} {xs : List Edu} : ∀ x ∈ goodL p xs, eduSmall x ∧ okEdu x := by
  unfold goodL; split
  · simp
  · intro x hx
    obtain ⟨y, _, rfl⟩ := List.mem_map.1 hx
    exact ⟨pub_small y, pub_ok y⟩
theorem fewL_facts {xs : List Edu} (h : ∀ x ∈ xs, okEdu x) : ∀ x ∈ (xs.take 5).map fewE, eduSmall x ∧ okEdu x := by
  intro x hx
  obtain ⟨y, hy, rfl⟩ := List.mem_map.1 hx
  exact ⟨few_small y, few_ok (h y (List.mem_of_mem_take hy))⟩
theorem goodP_ok (p : Prc) (s : Sli) : okPrc (goodP p s) := by
  have h := around_lt (z := p.id) (m := 1099511627776) (by decide)
  have h1 := serverOf_size (around p.frm.size 3); have h2 := serverOf_size (around p.frm.size 3 + 1 + around p.to_.size 2)
  exact ⟨by show (serverOf _).size ≤ _; omega, by show (serverOf _).size ≤ _; omega, i64_wf (by show _ ≤ 1 + around p.id 1099511627776 ∧ 1 + around p.id 1099511627776 ≤ _; omega)⟩
theorem fewP_ok {p : Prc} (h : okPrc p) (s : Sli) : okPrc (fewP p s) := by
  have h1 := cut_size p.frm 40; have h2 := cut_size p.to_ 40
  exact ⟨by show (cut _ _).size ≤ _; omega, by show (cut _ _).size ≤ _; omega, h.2.2⟩
def PRow (G : Gp) (t : Prc × List Edu) : Prop := HasE G t.1 t.2 ∧ (∀ x ∈ t.2, eduSmall x ∧ okEdu x) ∧ okPrc t.1 ∧ t.1.ed.n ≤ 5
theorem PRow.mono {G G' : Gp} {t : Prc × List Edu} (h : PRow G t) (hle : G.le G') : PRow G' t := ⟨h.1.mono hle, h.2⟩
def PRows (G : Gp) (ts : List (Prc × List Edu)) : Prop := ∀ t ∈ ts, PRow G t
theorem PRows.mono {G G' : Gp} {ts : List (Prc × List Edu)} (h : PRows G ts) (hle : G.le G') : PRows G' ts := fun t ht => (h t ht).mono hle
theorem lists_same {xs ys : List Edu} {i : Nat} (h : ∀ j x, j < i → xs[j]? = some x → ys[j]? = some x) (hi : xs.length ≤ i) (hl : xs.length = ys.length) : xs = ys := by
  apply List.ext_getElem?; intro j
  rcases Nat.lt_or_ge j xs.length with q | q
  · obtain ⟨x, hx⟩ := get_some (xs := xs) q; rw [hx, h j x (by omega) hx]
  · rw [List.getElem?_eq_none q, List.getElem?_eq_none (by omega)]
theorem lists_not {xs ys : List Edu} {i : Nat} {x y : Edu} (hx : xs[i]? = some x) (hy : ys[i]? = some y) (h : ¬ x = y) : xs ≠ ys := fun e => by rw [e, hy] at hx; cases hx; exact h rfl
theorem all_may {xs : List Edu} {i : Nat} (h : ∀ j x, j < i → xs[j]? = some x → eduMay x = true) (hi : xs.length ≤ i) : xs.all eduMay = true := by
  rw [List.all_eq_true]; intro x hx
  obtain ⟨j, hj, e⟩ := List.getElem_of_mem hx
  exact h j x (by omega) (by rw [List.getElem?_eq_getElem hj, e])
theorem not_may {xs : List Edu} {i : Nat} {x : Edu} (hx : xs[i]? = some x) (h : eduMay x = false) : xs.all eduMay = false := by
  cases q : xs.all eduMay with
  | false => rfl
  | true => rw [List.all_eq_true] at q; rw [q x (List.mem_of_getElem? hx)] at h; cases h
end Csl

set_option maxHeartbeats 4000000 in
set_option maxRecDepth 100000 in
theorem oddF_ctr {G : Gp} {e : Edu} (hs : eduSmall e) :
    Ctr Try.prog G 34 [.agg (cEdu e).toArray] [] (fun F v A => v = .bool (!eduMay e) ∧ A = F) := by
  refine Ctr.intro Try.func34 rfl (by kernel_rfl) rfl (fun F => ?_)
  simp only [List.nil_append]
  refine Run.sr ?_
  refine RunL.boxA (xs := (cEdu e)) rfl (Wt.none rfl) rfl ?_; intro b1
  refine RunL.as rfl rfl ?_
  refine RunL.nil ?_
  refine Run.lendAll (Q := row b1 50 _) Lends.row (by first | ((repeat (first | (with_reducible exact F0 _) | apply F1)); done) | (repeat (first | exact F0 _ | apply F1))) (fun G1 hleG1 hrb1 => ?_)
  refine Run.sr ?_
  first | refine RunL.loadA (vs := (cEdu e)) rfl (by first | ((repeat (first | (with_reducible exact F0 _) | apply F1)); done) | (repeat (first | exact F0 _ | apply F1))) agg50 sz50 (by first | exact Nat.le_of_ble_eq_true rfl | (simp; done) | (simp; omega)) rfl (Wt.none rfl) rfl ?_ | refine RunL.loadNR (vs := (cEdu e)) rfl (by assumption) agg50 sz50 (by first | exact Nat.le_of_ble_eq_true rfl | (simp; done) | (simp; omega)) rfl (Wt.none rfl) rfl ?_
  refine RunL.call rfl rfl (by rfl) (by repeat (first | (with_reducible exact Take.nil _) | (apply Take.cons (by first | ((repeat (first | (with_reducible exact F0 _) | apply F1)); done) | (repeat (first | exact F0 _ | apply F1)))))) (May_ctr (by assumption)) (Wt.none rfl) rfl ?_
  rintro _ _ ⟨rfl, hA_⟩
  replace hA_ := hA_.symm; subst hA_
  refine RunL.pure (Pure.not rfl) (Wt.none rfl) rfl rfl ?_
  refine RunL.as rfl rfl ?_
  refine RunL.nil ?_
  exact Run.ret Try.func34 (res1 rfl rfl) (by exact ⟨rfl, rfl⟩) (by repeat (first | (with_reducible exact Fin.done (by repeat (first | (with_reducible exact Rest.here) | apply Rest.there))) | (apply Fin.cons (by first | ((repeat (first | (with_reducible exact F0 _) | apply F1)); done) | (repeat (first | exact F0 _ | apply F1))))))

set_option maxHeartbeats 4000000 in
set_option maxRecDepth 100000 in
theorem IndexFunc_ctr {G : Gp} {a : Option Addr} {n cap : Nat} {xs : List Edu} (hn : n = xs.length) (h : SlR G 50 11 a n (xs.flatMap cEdu)) (hz : ∀ x ∈ xs, eduSmall x) (hb : n ≤ 9223372036854775807) :
    Ctr Try.prog G 61 [.slice a n cap, .func (.func 34) #[] #[]] [] (fun F v A => ∃ r : Int, v = .int .i64 r ∧ (0 ≤ r ↔ xs.all eduMay = false) ∧ A = F) := by
  refine Ctr.intro Try.func61 rfl (by kernel_rfl) rfl (fun F => ?_)
  simp only [List.nil_append]
  refine Run.sr ?_
  refine RunL.as rfl rfl ?_
  refine RunL.nil ?_
  refine Run.seq ?_
  refine Run.sr ?_
  refine RunL.mv rfl rfl ?_
  refine RunL.pure (Pure.lenSl rfl rfl und22) (Wt.none rfl) rfl rfl ?_
  refine RunL.mv rfl rfl ?_
  refine RunL.nil ?_
  refine Run.block ?_
  obtain ⟨n0, hn0⟩ : ∃ k, k = n := ⟨_, rfl⟩
  rw [← hn0] at hn h hb ⊢
  refine Run.keep (.cons rfl (.cons rfl (.cons rfl (.cons rfl (.cons rfl (.nil))))) : Keep _ [0, 1, 6, 7, 8] _) ?_
  refine Run.loopF (F := F) (fun n e A => ∃ i : Nat, i ≤ n0 ∧ (∀ j x, j < i → xs[j]? = some x → eduMay x = true) ∧ n = n0 - i ∧ e = [(0, .slice a n0 cap), (1, .func (.func 34) #[] #[]), (6, .slice a n0 cap), (7, .int .i64 (n0 : Nat)), (8, .int .i64 (i : Nat))] ∧ A = F) (n0) (by exact ⟨0, by omega, fun j x hj => absurd hj (Nat.not_lt_zero _), rfl, rfl, rfl⟩) (by repeat (first | (with_reducible exact Fin.done (by repeat (first | (with_reducible exact Rest.here) | apply Rest.there))) | (apply Fin.cons (by first | ((repeat (first | (with_reducible exact F0 _) | apply F1)); done) | (repeat (first | exact F0 _ | apply F1)))))) ?_
  rintro n _ _ ⟨i, hi, hall, rfl, rfl, hA_⟩ ih
  replace hA_ := hA_.symm; subst hA_
  refine Run.sr ?_
  refine RunL.pure (Pure.lss rfl rfl) (Wt.none rfl) rfl rfl ?_
  refine RunL.nil ?_
  refine Run.seq ?_
  refine Run.cond rfl (fun h1 => ?_) (fun h1 => ?_)
  · try simp only [ZA, ZB, ZC, ZD, ZE, ZF, ZG, ZH, ZI, ZJ, ZK, ZL, ZM, ZN, ZO, ZP, ZQ, ZR] at h1
    obtain ⟨x, hx⟩ := get_some (xs := xs) (i := i) (by omega)
    have hxz := hz x (List.mem_of_getElem? hx)
    obtain ⟨bbhro, Thro, prehro, posthro, rfl, hro⟩ := h.open1 (show 0 < n0 by omega)
    refine Run.skip ?_
    refine Run.seq ?_
    refine Run.block ?_
    refine Run.sr ?_
    refine RunL.mv rfl rfl ?_
    refine RunL.as rfl rfl ?_
    refine RunL.nil ?_
    refine Run.sr ?_
    refine RunL.mv rfl rfl ?_
    refine RunL.mv rfl rfl ?_
    refine RunL.mv rfl rfl ?_
    refine RunL.pure (Pure.indexAddr rfl rfl und22 sz50 (by omega) (by omega)) (Wt.none rfl) rfl rfl ?_
    refine RunL.loadNR (vs := (cEdu x)) rfl hro agg50 sz50 (elemN_len (pre := prehro) (post := posthro) (f := cEdu) (sz := 11) (j := 0) (n := 11) (fun _ _ => rfl) hx (by decide)) ((elemN_at (pre := prehro) (post := posthro) (f := cEdu) (sz := 11) (j := 0) (n := 11) (fun _ _ => rfl) hx (by decide)).trans rfl) (Wt.none rfl) rfl ?_
    refine RunL.call rfl rfl (by rfl) (by repeat (first | (with_reducible exact Take.nil _) | (apply Take.cons (by first | ((repeat (first | (with_reducible exact F0 _) | apply F1)); done) | (repeat (first | exact F0 _ | apply F1)))))) (oddF_ctr hxz) (Wt.none rfl) rfl ?_
    rintro _ _ ⟨rfl, hA_⟩
    replace hA_ := hA_.symm; subst hA_
    refine RunL.nil ?_
    refine Run.cond rfl (fun h2 => ?_) (fun h2 => ?_)
    · try simp only [ZA, ZB, ZC, ZD, ZE, ZF, ZG, ZH, ZI, ZJ, ZK, ZL, ZM, ZN, ZO, ZP, ZQ, ZR] at h2
      refine Run.sr ?_
      refine RunL.mv rfl rfl ?_
      refine RunL.as rfl rfl ?_
      refine RunL.nil ?_
      exact Run.ret Try.func61 (res1 rfl rfl) (by exact ⟨_, rfl, (by constructor; (intro _; exact not_may hx (by simpa using h2)); (intro _; omega)), rfl⟩) (by repeat (first | (with_reducible exact Fin.done (by repeat (first | (with_reducible exact Rest.here) | apply Rest.there))) | (apply Fin.cons (by first | ((repeat (first | (with_reducible exact F0 _) | apply F1)); done) | (repeat (first | exact F0 _ | apply F1))))))
    · try simp only [ZA, ZB, ZC, ZD, ZE, ZF, ZG, ZH, ZI, ZJ, ZK, ZL, ZM, ZN, ZO, ZP, ZQ, ZR] at h2
      refine Run.skip ?_
      refine Run.inBlock ?_
      refine Run.region ?_
      first | refine RunL.pure (Pure.addI rfl rfl (by omega)) (Wt.none rfl) rfl rfl ?_ | refine RunL.pure (Pure.add rfl rfl) (Wt.none rfl) rfl rfl ?_
      refine RunL.mv rfl rfl ?_
      refine RunL.nil ?_
      refine Run.keep (.cons rfl (.cons rfl (.cons rfl (.cons rfl (.cons rfl (.nil))))) : Keep _ [0, 1, 6, 7, 8] _) ?_
      refine Run.againF (F := F) ih (by exact ⟨i + 1, by omega, fun j y hj hy => by (rcases Nat.lt_or_ge j i with q | q; exact hall j y q hy; have : j = i := (by omega); subst this; rw [hx] at hy; cases hy; simpa using h2), rfl, rfl, rfl⟩) (by repeat (first | (with_reducible exact Fin.done (by repeat (first | (with_reducible exact Rest.here) | apply Rest.there))) | (apply Fin.cons (by first | ((repeat (first | (with_reducible exact F0 _) | apply F1)); done) | (repeat (first | exact F0 _ | apply F1)))))) ?_
      omega
  · try simp only [ZA, ZB, ZC, ZD, ZE, ZF, ZG, ZH, ZI, ZJ, ZK, ZL, ZM, ZN, ZO, ZP, ZQ, ZR] at h1
    refine Run.exit rfl ?_
    refine Run.sr ?_
    refine RunL.as rfl rfl ?_
    refine RunL.nil ?_
    exact Run.ret Try.func61 (res1 rfl rfl) (by exact ⟨_, rfl, (by constructor; (intro q; exact absurd q (by decide)); (intro q; rw [all_may hall (by omega)] at q; cases q)), rfl⟩) (by repeat (first | (with_reducible exact Fin.done (by repeat (first | (with_reducible exact Rest.here) | apply Rest.there))) | (apply Fin.cons (by first | ((repeat (first | (with_reducible exact F0 _) | apply F1)); done) | (repeat (first | exact F0 _ | apply F1))))))

set_option maxHeartbeats 4000000 in
set_option maxRecDepth 100000 in
theorem ContainsFunc_ctr {G : Gp} {a : Option Addr} {n cap : Nat} {xs : List Edu} (hn : n = xs.length) (h : SlR G 50 11 a n (xs.flatMap cEdu)) (hz : ∀ x ∈ xs, eduSmall x) (hb : n ≤ 9223372036854775807) :
    Ctr Try.prog G 33 [.slice a n cap, .func (.func 34) #[] #[]] [] (fun F v A => v = .bool (!xs.all eduMay) ∧ A = F) := by
  refine Ctr.intro Try.func33 rfl (by kernel_rfl) rfl (fun F => ?_)
  simp only [List.nil_append]
  refine Run.sr ?_
  refine RunL.as rfl rfl ?_
  refine RunL.nil ?_
  refine Run.sr ?_
  refine RunL.mv rfl rfl ?_
  refine RunL.mv rfl rfl ?_
  refine RunL.call rfl rfl (by rfl) (by repeat (first | (with_reducible exact Take.nil _) | (apply Take.cons (by first | ((repeat (first | (with_reducible exact F0 _) | apply F1)); done) | (repeat (first | exact F0 _ | apply F1)))))) (IndexFunc_ctr hn h hz hb) (Wt.none rfl) rfl ?_
  rintro _ _ ⟨r, rfl, hr, hA_⟩
  replace hA_ := hA_.symm; subst hA_
  refine RunL.pure (Pure.geq rfl rfl) (Wt.none rfl) rfl rfl ?_
  refine RunL.as rfl rfl ?_
  refine RunL.nil ?_
  exact Run.ret Try.func33 (res1 rfl rfl) (by exact ⟨by congr 1; rw [Bool.eq_iff_iff]; simp only [decide_eq_true_eq, ge_iff_le, hr]; cases xs.all eduMay <;> simp, rfl⟩) (by repeat (first | (with_reducible exact Fin.done (by repeat (first | (with_reducible exact Rest.here) | apply Rest.there))) | (apply Fin.cons (by first | ((repeat (first | (with_reducible exact F0 _) | apply F1)); done) | (repeat (first | exact F0 _ | apply F1))))))

set_option maxHeartbeats 4000000 in
set_option maxRecDepth 100000 in
theorem pMay_ctr {G : Gp} {p : Prc} {xs : List Edu} (hE : HasE G p xs) (hz : ∀ x ∈ xs, eduSmall x) (hb : p.ed.n ≤ 9223372036854775807) (ho : okPrc p) :
    Ctr Try.prog G 14 [.agg (cPrc p).toArray] [] (fun F v A => v = .bool (prcMay p xs) ∧ A = F) := by
  refine Ctr.intro Try.func14 rfl (by kernel_rfl) rfl (fun F => ?_)
  simp only [List.nil_append]
  obtain ⟨hn, h, hc⟩ := hE
  obtain ⟨o1, o2, o3⟩ := ho
  replace o3 := wf_i64 o3
  refine Run.sr ?_
  refine RunL.boxA (xs := (cPrc p)) rfl (Wt.none rfl) rfl ?_; intro b1
  refine RunL.as rfl rfl ?_
  refine RunL.nil ?_
  refine Run.lendAll (Q := row b1 33 _) Lends.row (by first | ((repeat (first | (with_reducible exact F0 _) | apply F1)); done) | (repeat (first | exact F0 _ | apply F1))) (fun G1 hleG1 hrb1 => ?_)
  replace h := h.mono hleG1
  refine Run.sr ?_
  refine RunL.pure (Pure.fieldAddr rfl fo33_4) (Wt.none rfl) rfl rfl ?_
  first | refine RunL.load1 rfl (by first | ((repeat (first | (with_reducible exact F0 _) | apply F1)); done) | (repeat (first | exact F0 _ | apply F1))) (by rfl) agg22 (Wt.none rfl) rfl ?_ | refine RunL.load1R rfl (by assumption) (by rfl) agg22 (Wt.none rfl) rfl ?_
  refine RunL.call rfl rfl (by rfl) (by repeat (first | (with_reducible exact Take.nil _) | (apply Take.cons (by first | ((repeat (first | (with_reducible exact F0 _) | apply F1)); done) | (repeat (first | exact F0 _ | apply F1)))))) (ContainsFunc_ctr hn h hz hb) (Wt.none rfl) rfl ?_
  rintro _ _ ⟨rfl, hA_⟩
  replace hA_ := hA_.symm; subst hA_
  refine RunL.as rfl rfl ?_
  refine RunL.nil ?_
  refine Run.sr ?_
  refine RunL.pure (Pure.fieldAddr rfl fo33_1) (Wt.none rfl) rfl rfl ?_
  first | refine RunL.load1 rfl (by first | ((repeat (first | (with_reducible exact F0 _) | apply F1)); done) | (repeat (first | exact F0 _ | apply F1))) (by rfl) agg9 (Wt.none rfl) rfl ?_ | refine RunL.load1R rfl (by assumption) (by rfl) agg9 (Wt.none rfl) rfl ?_
  refine RunL.call rfl rfl (by rfl) (by repeat (first | (with_reducible exact Take.nil _) | (apply Take.cons (by first | ((repeat (first | (with_reducible exact F0 _) | apply F1)); done) | (repeat (first | exact F0 _ | apply F1)))))) (nServer_ctr (by first | assumption | omega | (simp only [mkS_size, List.length_take, List.length_drop, bl_length]; omega) | (simp only [mkS_size, size_app, List.length_take, List.length_drop, List.length_append, bl_length, List.length_cons, List.length_nil, size_mk]; omega))) (Wt.none rfl) rfl ?_
  rintro _ _ ⟨rfl, hA_⟩
  replace hA_ := hA_.symm; subst hA_
  refine RunL.mv rfl rfl ?_
  refine RunL.split (d := 10) rfl (fun t0 => ?_) (fun t0 => ?_)
  · try simp only [ZA, ZB, ZC, ZD, ZE, ZF, ZG, ZH, ZI, ZJ, ZK, ZL, ZM, ZN, ZO, ZP, ZQ, ZR] at t0
    refine RunL.pure (Pure.fieldAddr rfl fo33_2) (Wt.yes rfl rfl rfl) rfl rfl ?_
    first | refine RunL.load1 rfl (by first | ((repeat (first | (with_reducible exact F0 _) | apply F1)); done) | (repeat (first | exact F0 _ | apply F1))) (by rfl) agg9 (Wt.yes rfl rfl rfl) rfl ?_ | refine RunL.load1R rfl (by assumption) (by rfl) agg9 (Wt.yes rfl rfl rfl) rfl ?_
    refine RunL.call rfl rfl (by rfl) (by repeat (first | (with_reducible exact Take.nil _) | (apply Take.cons (by first | ((repeat (first | (with_reducible exact F0 _) | apply F1)); done) | (repeat (first | exact F0 _ | apply F1)))))) (nServer_ctr (by first | assumption | omega | (simp only [mkS_size, List.length_take, List.length_drop, bl_length]; omega) | (simp only [mkS_size, size_app, List.length_take, List.length_drop, List.length_append, bl_length, List.length_cons, List.length_nil, size_mk]; omega))) (Wt.yes rfl rfl rfl) rfl ?_
    rintro _ _ ⟨rfl, hA_⟩
    replace hA_ := hA_.symm; subst hA_
    refine RunL.pure (Pure.pickT rfl rfl) (Wt.none rfl) rfl rfl ?_
    refine RunL.mv rfl rfl ?_
    refine RunL.split (d := 15) rfl (fun t1 => ?_) (fun t1 => ?_)
    · try simp only [ZA, ZB, ZC, ZD, ZE, ZF, ZG, ZH, ZI, ZJ, ZK, ZL, ZM, ZN, ZO, ZP, ZQ, ZR] at t1
      refine RunL.pure (Pure.fieldAddr rfl fo33_1) (Wt.yes rfl rfl rfl) rfl rfl ?_
      first | refine RunL.load1 rfl (by first | ((repeat (first | (with_reducible exact F0 _) | apply F1)); done) | (repeat (first | exact F0 _ | apply F1))) (by rfl) agg9 (Wt.yes rfl rfl rfl) rfl ?_ | refine RunL.load1R rfl (by assumption) (by rfl) agg9 (Wt.yes rfl rfl rfl) rfl ?_
      refine RunL.pure (Pure.fieldAddr rfl fo33_2) (Wt.yes rfl rfl rfl) rfl rfl ?_
      first | refine RunL.load1 rfl (by first | ((repeat (first | (with_reducible exact F0 _) | apply F1)); done) | (repeat (first | exact F0 _ | apply F1))) (by rfl) agg9 (Wt.yes rfl rfl rfl) rfl ?_ | refine RunL.load1R rfl (by assumption) (by rfl) agg9 (Wt.yes rfl rfl rfl) rfl ?_
      refine RunL.pure (Pure.sneq rfl rfl) (Wt.yes rfl rfl rfl) rfl rfl ?_
      refine RunL.pure (Pure.pickT rfl rfl) (Wt.none rfl) rfl rfl ?_
      refine RunL.mv rfl rfl ?_
      refine RunL.split (d := 22) rfl (fun t2 => ?_) (fun t2 => ?_)
      · try simp only [ZA, ZB, ZC, ZD, ZE, ZF, ZG, ZH, ZI, ZJ, ZK, ZL, ZM, ZN, ZO, ZP, ZQ, ZR] at t2
        refine RunL.pure (Pure.fieldAddr rfl fo33_3) (Wt.yes rfl rfl rfl) rfl rfl ?_
        first | refine RunL.load1 rfl (by first | ((repeat (first | (with_reducible exact F0 _) | apply F1)); done) | (repeat (first | exact F0 _ | apply F1))) (by rfl) agg3 (Wt.yes rfl rfl rfl) rfl ?_ | refine RunL.load1R rfl (by assumption) (by rfl) agg3 (Wt.yes rfl rfl rfl) rfl ?_
        refine RunL.pure (Pure.geq rfl rfl) (Wt.yes rfl rfl rfl) rfl rfl ?_
        refine RunL.pure (Pure.pickT rfl rfl) (Wt.none rfl) rfl rfl ?_
        refine RunL.mv rfl rfl ?_
        refine RunL.split (d := 27) rfl (fun t3 => ?_) (fun t3 => ?_)
        · try simp only [ZA, ZB, ZC, ZD, ZE, ZF, ZG, ZH, ZI, ZJ, ZK, ZL, ZM, ZN, ZO, ZP, ZQ, ZR] at t3
          refine RunL.pure (Pure.fieldAddr rfl fo33_3) (Wt.yes rfl rfl rfl) rfl rfl ?_
          first | refine RunL.load1 rfl (by first | ((repeat (first | (with_reducible exact F0 _) | apply F1)); done) | (repeat (first | exact F0 _ | apply F1))) (by rfl) agg3 (Wt.yes rfl rfl rfl) rfl ?_ | refine RunL.load1R rfl (by assumption) (by rfl) agg3 (Wt.yes rfl rfl rfl) rfl ?_
          refine RunL.pure (Pure.leq rfl rfl) (Wt.yes rfl rfl rfl) rfl rfl ?_
          refine RunL.pure (Pure.pickT rfl rfl) (Wt.none rfl) rfl rfl ?_
          refine RunL.mv rfl rfl ?_
          refine RunL.split (d := 32) rfl (fun t4 => ?_) (fun t4 => ?_)
          · try simp only [ZA, ZB, ZC, ZD, ZE, ZF, ZG, ZH, ZI, ZJ, ZK, ZL, ZM, ZN, ZO, ZP, ZQ, ZR] at t4
            refine RunL.pure (Pure.fieldAddr rfl fo33_4) (Wt.yes rfl rfl rfl) rfl rfl ?_
            first | refine RunL.load1 rfl (by first | ((repeat (first | (with_reducible exact F0 _) | apply F1)); done) | (repeat (first | exact F0 _ | apply F1))) (by rfl) agg22 (Wt.yes rfl rfl rfl) rfl ?_ | refine RunL.load1R rfl (by assumption) (by rfl) agg22 (Wt.yes rfl rfl rfl) rfl ?_
            refine RunL.pure (Pure.lenSl rfl rfl und22) (Wt.yes rfl rfl rfl) rfl rfl ?_
            refine RunL.pure (Pure.leq rfl rfl) (Wt.yes rfl rfl rfl) rfl rfl ?_
            refine RunL.pure (Pure.pickT rfl rfl) (Wt.none rfl) rfl rfl ?_
            refine RunL.mv rfl rfl ?_
            refine RunL.split (d := 38) rfl (fun t5 => ?_) (fun t5 => ?_)
            · try simp only [ZA, ZB, ZC, ZD, ZE, ZF, ZG, ZH, ZI, ZJ, ZK, ZL, ZM, ZN, ZO, ZP, ZQ, ZR] at t5
              refine RunL.pure (Pure.move rfl) (Wt.yes rfl rfl rfl) rfl rfl ?_
              refine RunL.pure (Pure.not rfl) (Wt.yes rfl rfl rfl) rfl rfl ?_
              refine RunL.pure (Pure.pickT rfl rfl) (Wt.none rfl) rfl rfl ?_
              refine RunL.mv rfl rfl ?_
              refine RunL.split (d := 42) rfl (fun t6 => ?_) (fun t6 => ?_)
              · try simp only [ZA, ZB, ZC, ZD, ZE, ZF, ZG, ZH, ZI, ZJ, ZK, ZL, ZM, ZN, ZO, ZP, ZQ, ZR] at t6
                refine RunL.pure (Pure.fieldAddr rfl fo33_0) (Wt.yes rfl rfl rfl) rfl rfl ?_
                first | refine RunL.load1 rfl (by first | ((repeat (first | (with_reducible exact F0 _) | apply F1)); done) | (repeat (first | exact F0 _ | apply F1))) (by rfl) agg4 (Wt.yes rfl rfl rfl) rfl ?_ | refine RunL.load1R rfl (by assumption) (by rfl) agg4 (Wt.yes rfl rfl rfl) rfl ?_
                refine RunL.pure (Pure.not rfl) (Wt.yes rfl rfl rfl) rfl rfl ?_
                refine RunL.pure (Pure.move rfl) (Wt.yes rfl rfl rfl) rfl rfl ?_
                refine RunL.split (d := 46) rfl (fun t7 => ?_) (fun t7 => ?_)
                · try simp only [ZA, ZB, ZC, ZD, ZE, ZF, ZG, ZH, ZI, ZJ, ZK, ZL, ZM, ZN, ZO, ZP, ZQ, ZR] at t7
                  refine RunL.not (Wt.no rfl rfl rfl) rfl rfl ?_
                  refine RunL.not (Wt.no rfl rfl rfl) rfl rfl ?_
                  refine RunL.not (Wt.no rfl rfl rfl) rfl rfl ?_
                  refine RunL.not (Wt.no rfl rfl rfl) rfl rfl ?_
                  refine RunL.pure (Pure.pickT rfl rfl) (Wt.yes rfl rfl rfl) rfl rfl ?_
                  refine RunL.pure (Pure.pickT rfl rfl) (Wt.none rfl) rfl rfl ?_
                  refine RunL.as rfl rfl ?_
                  refine RunL.nil ?_
                  exact Run.ret Try.func14 (res1 rfl rfl) (by exact ⟨by congr 1; (try simp [prcMay, t0, t1, t2, t3, t4, t5, t6, t7]); (first | done | omega), rfl⟩) (by repeat (first | (with_reducible exact Fin.done (by repeat (first | (with_reducible exact Rest.here) | apply Rest.there))) | (apply Fin.cons (by first | ((repeat (first | (with_reducible exact F0 _) | apply F1)); done) | (repeat (first | exact F0 _ | apply F1))))))
                · try simp only [ZA, ZB, ZC, ZD, ZE, ZF, ZG, ZH, ZI, ZJ, ZK, ZL, ZM, ZN, ZO, ZP, ZQ, ZR] at t7
                  refine RunL.pure (Pure.fieldAddr rfl fo33_4) (Wt.yes rfl rfl rfl) rfl rfl ?_
                  first | refine RunL.load1 rfl (by first | ((repeat (first | (with_reducible exact F0 _) | apply F1)); done) | (repeat (first | exact F0 _ | apply F1))) (by rfl) agg22 (Wt.yes rfl rfl rfl) rfl ?_ | refine RunL.load1R rfl (by assumption) (by rfl) agg22 (Wt.yes rfl rfl rfl) rfl ?_
                  refine RunL.pure (Pure.lenSl rfl rfl und22) (Wt.yes rfl rfl rfl) rfl rfl ?_
                  refine RunL.pure (Pure.eql rfl rfl) (Wt.yes rfl rfl rfl) rfl rfl ?_
                  refine RunL.pure (Pure.pickF rfl rfl) (Wt.yes rfl rfl rfl) rfl rfl ?_
                  refine RunL.pure (Pure.pickT rfl rfl) (Wt.none rfl) rfl rfl ?_
                  refine RunL.as rfl rfl ?_
                  refine RunL.nil ?_
                  exact Run.ret Try.func14 (res1 rfl rfl) (by exact ⟨by congr 1; (try simp [prcMay, t0, t1, t2, t3, t4, t5, t6, t7]); (first | done | omega), rfl⟩) (by repeat (first | (with_reducible exact Fin.done (by repeat (first | (with_reducible exact Rest.here) | apply Rest.there))) | (apply Fin.cons (by first | ((repeat (first | (with_reducible exact F0 _) | apply F1)); done) | (repeat (first | exact F0 _ | apply F1))))))
              · try simp only [ZA, ZB, ZC, ZD, ZE, ZF, ZG, ZH, ZI, ZJ, ZK, ZL, ZM, ZN, ZO, ZP, ZQ, ZR] at t6
                refine RunL.not (Wt.no rfl rfl rfl) rfl rfl ?_
                refine RunL.not (Wt.no rfl rfl rfl) rfl rfl ?_
                refine RunL.not (Wt.no rfl rfl rfl) rfl rfl ?_
                refine RunL.not (Wt.no rfl rfl rfl) rfl rfl ?_
                refine RunL.not (Wt.un rfl rfl rfl) rfl rfl ?_
                refine RunL.not (Wt.un rfl rfl rfl) rfl rfl ?_
                refine RunL.not (Wt.un rfl rfl rfl) rfl rfl ?_
                refine RunL.not (Wt.un rfl rfl rfl) rfl rfl ?_
                refine RunL.not (Wt.no rfl rfl rfl) rfl rfl ?_
                refine RunL.pure (Pure.pickF rfl rfl) (Wt.none rfl) rfl rfl ?_
                refine RunL.as rfl rfl ?_
                refine RunL.nil ?_
                exact Run.ret Try.func14 (res1 rfl rfl) (by exact ⟨by congr 1; (try simp [prcMay, t0, t1, t2, t3, t4, t5, t6]); (first | done | omega), rfl⟩) (by repeat (first | (with_reducible exact Fin.done (by repeat (first | (with_reducible exact Rest.here) | apply Rest.there))) | (apply Fin.cons (by first | ((repeat (first | (with_reducible exact F0 _) | apply F1)); done) | (repeat (first | exact F0 _ | apply F1))))))
            · try simp only [ZA, ZB, ZC, ZD, ZE, ZF, ZG, ZH, ZI, ZJ, ZK, ZL, ZM, ZN, ZO, ZP, ZQ, ZR] at t5
              refine RunL.not (Wt.no rfl rfl rfl) rfl rfl ?_
              refine RunL.not (Wt.no rfl rfl rfl) rfl rfl ?_
              refine RunL.pure (Pure.pickF rfl rfl) (Wt.none rfl) rfl rfl ?_
              refine RunL.mv rfl rfl ?_
              refine RunL.not (Wt.no rfl rfl rfl) rfl rfl ?_
              refine RunL.not (Wt.no rfl rfl rfl) rfl rfl ?_
              refine RunL.not (Wt.no rfl rfl rfl) rfl rfl ?_
              refine RunL.not (Wt.no rfl rfl rfl) rfl rfl ?_
              refine RunL.not (Wt.un rfl rfl rfl) rfl rfl ?_
              refine RunL.not (Wt.un rfl rfl rfl) rfl rfl ?_
              refine RunL.not (Wt.un rfl rfl rfl) rfl rfl ?_
              refine RunL.not (Wt.un rfl rfl rfl) rfl rfl ?_
              refine RunL.not (Wt.no rfl rfl rfl) rfl rfl ?_
              refine RunL.pure (Pure.pickF rfl rfl) (Wt.none rfl) rfl rfl ?_
              refine RunL.as rfl rfl ?_
              refine RunL.nil ?_
              exact Run.ret Try.func14 (res1 rfl rfl) (by exact ⟨by congr 1; (try simp [prcMay, t0, t1, t2, t3, t4, t5]); (first | done | omega), rfl⟩) (by repeat (first | (with_reducible exact Fin.done (by repeat (first | (with_reducible exact Rest.here) | apply Rest.there))) | (apply Fin.cons (by first | ((repeat (first | (with_reducible exact F0 _) | apply F1)); done) | (repeat (first | exact F0 _ | apply F1))))))
          · try simp only [ZA, ZB, ZC, ZD, ZE, ZF, ZG, ZH, ZI, ZJ, ZK, ZL, ZM, ZN, ZO, ZP, ZQ, ZR] at t4
            refine RunL.not (Wt.no rfl rfl rfl) rfl rfl ?_
            refine RunL.not (Wt.no rfl rfl rfl) rfl rfl ?_
            refine RunL.not (Wt.no rfl rfl rfl) rfl rfl ?_
            refine RunL.not (Wt.no rfl rfl rfl) rfl rfl ?_
            refine RunL.pure (Pure.pickF rfl rfl) (Wt.none rfl) rfl rfl ?_
            refine RunL.mv rfl rfl ?_
            refine RunL.not (Wt.no rfl rfl rfl) rfl rfl ?_
            refine RunL.not (Wt.no rfl rfl rfl) rfl rfl ?_
            refine RunL.pure (Pure.pickF rfl rfl) (Wt.none rfl) rfl rfl ?_
            refine RunL.mv rfl rfl ?_
            refine RunL.not (Wt.no rfl rfl rfl) rfl rfl ?_
            refine RunL.not (Wt.no rfl rfl rfl) rfl rfl ?_
            refine RunL.not (Wt.no rfl rfl rfl) rfl rfl ?_
            refine RunL.not (Wt.no rfl rfl rfl) rfl rfl ?_
            refine RunL.not (Wt.un rfl rfl rfl) rfl rfl ?_
            refine RunL.not (Wt.un rfl rfl rfl) rfl rfl ?_
            refine RunL.not (Wt.un rfl rfl rfl) rfl rfl ?_
            refine RunL.not (Wt.un rfl rfl rfl) rfl rfl ?_
            refine RunL.not (Wt.no rfl rfl rfl) rfl rfl ?_
            refine RunL.pure (Pure.pickF rfl rfl) (Wt.none rfl) rfl rfl ?_
            refine RunL.as rfl rfl ?_
            refine RunL.nil ?_
            exact Run.ret Try.func14 (res1 rfl rfl) (by exact ⟨by congr 1; (try simp [prcMay, t0, t1, t2, t3, t4]); (first | done | omega), rfl⟩) (by repeat (first | (with_reducible exact Fin.done (by repeat (first | (with_reducible exact Rest.here) | apply Rest.there))) | (apply Fin.cons (by first | ((repeat (first | (with_reducible exact F0 _) | apply F1)); done) | (repeat (first | exact F0 _ | apply F1))))))
        · try simp only [ZA, ZB, ZC, ZD, ZE, ZF, ZG, ZH, ZI, ZJ, ZK, ZL, ZM, ZN, ZO, ZP, ZQ, ZR] at t3
          refine RunL.not (Wt.no rfl rfl rfl) rfl rfl ?_
          refine RunL.not (Wt.no rfl rfl rfl) rfl rfl ?_
          refine RunL.not (Wt.no rfl rfl rfl) rfl rfl ?_
          refine RunL.pure (Pure.pickF rfl rfl) (Wt.none rfl) rfl rfl ?_
          refine RunL.mv rfl rfl ?_
          refine RunL.not (Wt.no rfl rfl rfl) rfl rfl ?_
          refine RunL.not (Wt.no rfl rfl rfl) rfl rfl ?_
          refine RunL.not (Wt.no rfl rfl rfl) rfl rfl ?_
          refine RunL.not (Wt.no rfl rfl rfl) rfl rfl ?_
          refine RunL.pure (Pure.pickF rfl rfl) (Wt.none rfl) rfl rfl ?_
          refine RunL.mv rfl rfl ?_
          refine RunL.not (Wt.no rfl rfl rfl) rfl rfl ?_
          refine RunL.not (Wt.no rfl rfl rfl) rfl rfl ?_
          refine RunL.pure (Pure.pickF rfl rfl) (Wt.none rfl) rfl rfl ?_
          refine RunL.mv rfl rfl ?_
          refine RunL.not (Wt.no rfl rfl rfl) rfl rfl ?_
          refine RunL.not (Wt.no rfl rfl rfl) rfl rfl ?_
          refine RunL.not (Wt.no rfl rfl rfl) rfl rfl ?_
          refine RunL.not (Wt.no rfl rfl rfl) rfl rfl ?_
          refine RunL.not (Wt.un rfl rfl rfl) rfl rfl ?_
          refine RunL.not (Wt.un rfl rfl rfl) rfl rfl ?_
          refine RunL.not (Wt.un rfl rfl rfl) rfl rfl ?_
          refine RunL.not (Wt.un rfl rfl rfl) rfl rfl ?_
          refine RunL.not (Wt.no rfl rfl rfl) rfl rfl ?_
          refine RunL.pure (Pure.pickF rfl rfl) (Wt.none rfl) rfl rfl ?_
          refine RunL.as rfl rfl ?_
          refine RunL.nil ?_
          exact Run.ret Try.func14 (res1 rfl rfl) (by exact ⟨by congr 1; (try simp [prcMay, t0, t1, t2, t3]); (first | done | omega), rfl⟩) (by repeat (first | (with_reducible exact Fin.done (by repeat (first | (with_reducible exact Rest.here) | apply Rest.there))) | (apply Fin.cons (by first | ((repeat (first | (with_reducible exact F0 _) | apply F1)); done) | (repeat (first | exact F0 _ | apply F1))))))
      · try simp only [ZA, ZB, ZC, ZD, ZE, ZF, ZG, ZH, ZI, ZJ, ZK, ZL, ZM, ZN, ZO, ZP, ZQ, ZR] at t2
        refine RunL.not (Wt.no rfl rfl rfl) rfl rfl ?_
        refine RunL.not (Wt.no rfl rfl rfl) rfl rfl ?_
        refine RunL.not (Wt.no rfl rfl rfl) rfl rfl ?_
        refine RunL.pure (Pure.pickF rfl rfl) (Wt.none rfl) rfl rfl ?_
        refine RunL.mv rfl rfl ?_
        refine RunL.not (Wt.no rfl rfl rfl) rfl rfl ?_
        refine RunL.not (Wt.no rfl rfl rfl) rfl rfl ?_
        refine RunL.not (Wt.no rfl rfl rfl) rfl rfl ?_
        refine RunL.pure (Pure.pickF rfl rfl) (Wt.none rfl) rfl rfl ?_
        refine RunL.mv rfl rfl ?_
        refine RunL.not (Wt.no rfl rfl rfl) rfl rfl ?_
        refine RunL.not (Wt.no rfl rfl rfl) rfl rfl ?_
        refine RunL.not (Wt.no rfl rfl rfl) rfl rfl ?_
        refine RunL.not (Wt.no rfl rfl rfl) rfl rfl ?_
        refine RunL.pure (Pure.pickF rfl rfl) (Wt.none rfl) rfl rfl ?_
        refine RunL.mv rfl rfl ?_
        refine RunL.not (Wt.no rfl rfl rfl) rfl rfl ?_
        refine RunL.not (Wt.no rfl rfl rfl) rfl rfl ?_
        refine RunL.pure (Pure.pickF rfl rfl) (Wt.none rfl) rfl rfl ?_
        refine RunL.mv rfl rfl ?_
        refine RunL.not (Wt.no rfl rfl rfl) rfl rfl ?_
        refine RunL.not (Wt.no rfl rfl rfl) rfl rfl ?_
        refine RunL.not (Wt.no rfl rfl rfl) rfl rfl ?_
        refine RunL.not (Wt.no rfl rfl rfl) rfl rfl ?_
        refine RunL.not (Wt.un rfl rfl rfl) rfl rfl ?_
        refine RunL.not (Wt.un rfl rfl rfl) rfl rfl ?_
        refine RunL.not (Wt.un rfl rfl rfl) rfl rfl ?_
        refine RunL.not (Wt.un rfl rfl rfl) rfl rfl ?_
        refine RunL.not (Wt.no rfl rfl rfl) rfl rfl ?_
        refine RunL.pure (Pure.pickF rfl rfl) (Wt.none rfl) rfl rfl ?_
        refine RunL.as rfl rfl ?_
        refine RunL.nil ?_
        exact Run.ret Try.func14 (res1 rfl rfl) (by exact ⟨by congr 1; (try simp [prcMay, t0, t1, t2]); (first | done | omega), rfl⟩) (by repeat (first | (with_reducible exact Fin.done (by repeat (first | (with_reducible exact Rest.here) | apply Rest.there))) | (apply Fin.cons (by first | ((repeat (first | (with_reducible exact F0 _) | apply F1)); done) | (repeat (first | exact F0 _ | apply F1))))))
    · try simp only [ZA, ZB, ZC, ZD, ZE, ZF, ZG, ZH, ZI, ZJ, ZK, ZL, ZM, ZN, ZO, ZP, ZQ, ZR] at t1
      refine RunL.not (Wt.no rfl rfl rfl) rfl rfl ?_
      refine RunL.not (Wt.no rfl rfl rfl) rfl rfl ?_
      refine RunL.not (Wt.no rfl rfl rfl) rfl rfl ?_
      refine RunL.not (Wt.no rfl rfl rfl) rfl rfl ?_
      refine RunL.not (Wt.no rfl rfl rfl) rfl rfl ?_
      refine RunL.pure (Pure.pickF rfl rfl) (Wt.none rfl) rfl rfl ?_
      refine RunL.mv rfl rfl ?_
      refine RunL.not (Wt.no rfl rfl rfl) rfl rfl ?_
      refine RunL.not (Wt.no rfl rfl rfl) rfl rfl ?_
      refine RunL.not (Wt.no rfl rfl rfl) rfl rfl ?_
      refine RunL.pure (Pure.pickF rfl rfl) (Wt.none rfl) rfl rfl ?_
      refine RunL.mv rfl rfl ?_
      refine RunL.not (Wt.no rfl rfl rfl) rfl rfl ?_
      refine RunL.not (Wt.no rfl rfl rfl) rfl rfl ?_
      refine RunL.not (Wt.no rfl rfl rfl) rfl rfl ?_
      refine RunL.pure (Pure.pickF rfl rfl) (Wt.none rfl) rfl rfl ?_
      refine RunL.mv rfl rfl ?_
      refine RunL.not (Wt.no rfl rfl rfl) rfl rfl ?_
      refine RunL.not (Wt.no rfl rfl rfl) rfl rfl ?_
      refine RunL.not (Wt.no rfl rfl rfl) rfl rfl ?_
      refine RunL.not (Wt.no rfl rfl rfl) rfl rfl ?_
      refine RunL.pure (Pure.pickF rfl rfl) (Wt.none rfl) rfl rfl ?_
      refine RunL.mv rfl rfl ?_
      refine RunL.not (Wt.no rfl rfl rfl) rfl rfl ?_
      refine RunL.not (Wt.no rfl rfl rfl) rfl rfl ?_
      refine RunL.pure (Pure.pickF rfl rfl) (Wt.none rfl) rfl rfl ?_
      refine RunL.mv rfl rfl ?_
      refine RunL.not (Wt.no rfl rfl rfl) rfl rfl ?_
      refine RunL.not (Wt.no rfl rfl rfl) rfl rfl ?_
      refine RunL.not (Wt.no rfl rfl rfl) rfl rfl ?_
      refine RunL.not (Wt.no rfl rfl rfl) rfl rfl ?_
      refine RunL.not (Wt.un rfl rfl rfl) rfl rfl ?_
      refine RunL.not (Wt.un rfl rfl rfl) rfl rfl ?_
      refine RunL.not (Wt.un rfl rfl rfl) rfl rfl ?_
      refine RunL.not (Wt.un rfl rfl rfl) rfl rfl ?_
      refine RunL.not (Wt.no rfl rfl rfl) rfl rfl ?_
      refine RunL.pure (Pure.pickF rfl rfl) (Wt.none rfl) rfl rfl ?_
      refine RunL.as rfl rfl ?_
      refine RunL.nil ?_
      exact Run.ret Try.func14 (res1 rfl rfl) (by exact ⟨by congr 1; (try simp [prcMay, t0, t1]); (first | done | omega), rfl⟩) (by repeat (first | (with_reducible exact Fin.done (by repeat (first | (with_reducible exact Rest.here) | apply Rest.there))) | (apply Fin.cons (by first | ((repeat (first | (with_reducible exact F0 _) | apply F1)); done) | (repeat (first | exact F0 _ | apply F1))))))
  · try simp only [ZA, ZB, ZC, ZD, ZE, ZF, ZG, ZH, ZI, ZJ, ZK, ZL, ZM, ZN, ZO, ZP, ZQ, ZR] at t0
    refine RunL.not (Wt.no rfl rfl rfl) rfl rfl ?_
    refine RunL.not (Wt.no rfl rfl rfl) rfl rfl ?_
    refine RunL.not (Wt.no rfl rfl rfl) rfl rfl ?_
    refine RunL.pure (Pure.pickF rfl rfl) (Wt.none rfl) rfl rfl ?_
    refine RunL.mv rfl rfl ?_
    refine RunL.not (Wt.no rfl rfl rfl) rfl rfl ?_
    refine RunL.not (Wt.no rfl rfl rfl) rfl rfl ?_
    refine RunL.not (Wt.no rfl rfl rfl) rfl rfl ?_
    refine RunL.not (Wt.no rfl rfl rfl) rfl rfl ?_
    refine RunL.not (Wt.no rfl rfl rfl) rfl rfl ?_
    refine RunL.pure (Pure.pickF rfl rfl) (Wt.none rfl) rfl rfl ?_
    refine RunL.mv rfl rfl ?_
    refine RunL.not (Wt.no rfl rfl rfl) rfl rfl ?_
    refine RunL.not (Wt.no rfl rfl rfl) rfl rfl ?_
    refine RunL.not (Wt.no rfl rfl rfl) rfl rfl ?_
    refine RunL.pure (Pure.pickF rfl rfl) (Wt.none rfl) rfl rfl ?_
    refine RunL.mv rfl rfl ?_
    refine RunL.not (Wt.no rfl rfl rfl) rfl rfl ?_
    refine RunL.not (Wt.no rfl rfl rfl) rfl rfl ?_
    refine RunL.not (Wt.no rfl rfl rfl) rfl rfl ?_
    refine RunL.pure (Pure.pickF rfl rfl) (Wt.none rfl) rfl rfl ?_
    refine RunL.mv rfl rfl ?_
    refine RunL.not (Wt.no rfl rfl rfl) rfl rfl ?_
    refine RunL.not (Wt.no rfl rfl rfl) rfl rfl ?_
    refine RunL.not (Wt.no rfl rfl rfl) rfl rfl ?_
    refine RunL.not (Wt.no rfl rfl rfl) rfl rfl ?_
    refine RunL.pure (Pure.pickF rfl rfl) (Wt.none rfl) rfl rfl ?_
    refine RunL.mv rfl rfl ?_
    refine RunL.not (Wt.no rfl rfl rfl) rfl rfl ?_
    refine RunL.not (Wt.no rfl rfl rfl) rfl rfl ?_
    refine RunL.pure (Pure.pickF rfl rfl) (Wt.none rfl) rfl rfl ?_
    refine RunL.mv rfl rfl ?_
    refine RunL.not (Wt.no rfl rfl rfl) rfl rfl ?_
    refine RunL.not (Wt.no rfl rfl rfl) rfl rfl ?_
    refine RunL.not (Wt.no rfl rfl rfl) rfl rfl ?_
    refine RunL.not (Wt.no rfl rfl rfl) rfl rfl ?_
    refine RunL.not (Wt.un rfl rfl rfl) rfl rfl ?_
    refine RunL.not (Wt.un rfl rfl rfl) rfl rfl ?_
    refine RunL.not (Wt.un rfl rfl rfl) rfl rfl ?_
    refine RunL.not (Wt.un rfl rfl rfl) rfl rfl ?_
    refine RunL.not (Wt.no rfl rfl rfl) rfl rfl ?_
    refine RunL.pure (Pure.pickF rfl rfl) (Wt.none rfl) rfl rfl ?_
    refine RunL.as rfl rfl ?_
    refine RunL.nil ?_
    exact Run.ret Try.func14 (res1 rfl rfl) (by exact ⟨by congr 1; (try simp [prcMay, t0]); (first | done | omega), rfl⟩) (by repeat (first | (with_reducible exact Fin.done (by repeat (first | (with_reducible exact Rest.here) | apply Rest.there))) | (apply Fin.cons (by first | ((repeat (first | (with_reducible exact F0 _) | apply F1)); done) | (repeat (first | exact F0 _ | apply F1))))))

set_option maxHeartbeats 4000000 in
set_option maxRecDepth 100000 in
theorem rMay4_ctr {G : Gp} {p : Prc} {xs : List Edu} (hE : HasE G p xs) (hz : ∀ x ∈ xs, eduSmall x) (hb : p.ed.n ≤ 9223372036854775807) (ho : okPrc p) :
    Ctr Try.prog G 11 [.agg (cPrc p).toArray] [] (fun F v A => v = .bool (prcMay p xs) ∧ A = F) := by
  refine Ctr.intro Try.func11 rfl (by kernel_rfl) rfl (fun F => ?_)
  simp only [List.nil_append]
  obtain ⟨hn, h, hc⟩ := hE
  obtain ⟨o1, o2, o3⟩ := ho
  replace o3 := wf_i64 o3
  refine Run.sr ?_
  refine RunL.boxA (xs := (cPrc p)) rfl (Wt.none rfl) rfl ?_; intro b1
  refine RunL.as rfl rfl ?_
  refine RunL.nil ?_
  refine Run.lendAll (Q := row b1 24 _) Lends.row (by first | ((repeat (first | (with_reducible exact F0 _) | apply F1)); done) | (repeat (first | exact F0 _ | apply F1))) (fun G1 hleG1 hrb1 => ?_)
  replace h := h.mono hleG1
  refine Run.sr ?_
  refine RunL.pure (Pure.fieldAddr rfl fo24_1) (Wt.none rfl) rfl rfl ?_
  first | refine RunL.load1 rfl (by first | ((repeat (first | (with_reducible exact F0 _) | apply F1)); done) | (repeat (first | exact F0 _ | apply F1))) (by rfl) agg9 (Wt.none rfl) rfl ?_ | refine RunL.load1R rfl (by assumption) (by rfl) agg9 (Wt.none rfl) rfl ?_
  refine RunL.call rfl rfl (by rfl) (by repeat (first | (with_reducible exact Take.nil _) | (apply Take.cons (by first | ((repeat (first | (with_reducible exact F0 _) | apply F1)); done) | (repeat (first | exact F0 _ | apply F1)))))) (rServer_ctr (by first | assumption | omega | (simp only [mkS_size, List.length_take, List.length_drop, bl_length]; omega) | (simp only [mkS_size, size_app, List.length_take, List.length_drop, List.length_append, bl_length, List.length_cons, List.length_nil, size_mk]; omega))) (Wt.none rfl) rfl ?_
  rintro _ _ ⟨rfl, hA_⟩
  replace hA_ := hA_.symm; subst hA_
  refine RunL.as rfl rfl ?_
  refine RunL.nil ?_
  refine Run.sr ?_
  refine RunL.pure (Pure.fieldAddr rfl fo24_2) (Wt.none rfl) rfl rfl ?_
  first | refine RunL.load1 rfl (by first | ((repeat (first | (with_reducible exact F0 _) | apply F1)); done) | (repeat (first | exact F0 _ | apply F1))) (by rfl) agg9 (Wt.none rfl) rfl ?_ | refine RunL.load1R rfl (by assumption) (by rfl) agg9 (Wt.none rfl) rfl ?_
  refine RunL.call rfl rfl (by rfl) (by repeat (first | (with_reducible exact Take.nil _) | (apply Take.cons (by first | ((repeat (first | (with_reducible exact F0 _) | apply F1)); done) | (repeat (first | exact F0 _ | apply F1)))))) (rServer_ctr (by first | assumption | omega | (simp only [mkS_size, List.length_take, List.length_drop, bl_length]; omega) | (simp only [mkS_size, size_app, List.length_take, List.length_drop, List.length_append, bl_length, List.length_cons, List.length_nil, size_mk]; omega))) (Wt.none rfl) rfl ?_
  rintro _ _ ⟨rfl, hA_⟩
  replace hA_ := hA_.symm; subst hA_
  refine RunL.as rfl rfl ?_
  refine RunL.nil ?_
  refine Run.seq ?_
  refine Run.sr ?_
  refine RunL.mv rfl rfl ?_
  refine RunL.pure (Pure.not rfl) (Wt.none rfl) rfl rfl ?_
  refine RunL.mv rfl rfl ?_
  refine RunL.split (d := 15) rfl (fun t0 => ?_) (fun t0 => ?_)
  · try simp only [ZA, ZB, ZC, ZD, ZE, ZF, ZG, ZH, ZI, ZJ, ZK, ZL, ZM, ZN, ZO, ZP, ZQ, ZR] at t0
    refine RunL.not (Wt.no rfl rfl rfl) rfl rfl ?_
    refine RunL.not (Wt.no rfl rfl rfl) rfl rfl ?_
    refine RunL.pure (Pure.pickT rfl rfl) (Wt.none rfl) rfl rfl ?_
    refine RunL.mv rfl rfl ?_
    refine RunL.not (Wt.no rfl rfl rfl) rfl rfl ?_
    refine RunL.not (Wt.no rfl rfl rfl) rfl rfl ?_
    refine RunL.not (Wt.no rfl rfl rfl) rfl rfl ?_
    refine RunL.not (Wt.no rfl rfl rfl) rfl rfl ?_
    refine RunL.not (Wt.no rfl rfl rfl) rfl rfl ?_
    refine RunL.pure (Pure.pickT rfl rfl) (Wt.none rfl) rfl rfl ?_
    refine RunL.mv rfl rfl ?_
    refine RunL.not (Wt.no rfl rfl rfl) rfl rfl ?_
    refine RunL.not (Wt.no rfl rfl rfl) rfl rfl ?_
    refine RunL.not (Wt.no rfl rfl rfl) rfl rfl ?_
    refine RunL.pure (Pure.pickT rfl rfl) (Wt.none rfl) rfl rfl ?_
    refine RunL.mv rfl rfl ?_
    refine RunL.not (Wt.no rfl rfl rfl) rfl rfl ?_
    refine RunL.not (Wt.no rfl rfl rfl) rfl rfl ?_
    refine RunL.not (Wt.no rfl rfl rfl) rfl rfl ?_
    refine RunL.pure (Pure.pickT rfl rfl) (Wt.none rfl) rfl rfl ?_
    refine RunL.mv rfl rfl ?_
    refine RunL.not (Wt.no rfl rfl rfl) rfl rfl ?_
    refine RunL.not (Wt.no rfl rfl rfl) rfl rfl ?_
    refine RunL.not (Wt.no rfl rfl rfl) rfl rfl ?_
    refine RunL.not (Wt.no rfl rfl rfl) rfl rfl ?_
    refine RunL.pure (Pure.pickT rfl rfl) (Wt.none rfl) rfl rfl ?_
    refine RunL.mv rfl rfl ?_
    refine RunL.not (Wt.no rfl rfl rfl) rfl rfl ?_
    refine RunL.not (Wt.no rfl rfl rfl) rfl rfl ?_
    refine RunL.not (Wt.no rfl rfl rfl) rfl rfl ?_
    refine RunL.not (Wt.un rfl rfl rfl) rfl rfl ?_
    refine RunL.not (Wt.un rfl rfl rfl) rfl rfl ?_
    refine RunL.not (Wt.un rfl rfl rfl) rfl rfl ?_
    refine RunL.not (Wt.un rfl rfl rfl) rfl rfl ?_
    refine RunL.not (Wt.no rfl rfl rfl) rfl rfl ?_
    refine RunL.pure (Pure.pickT rfl rfl) (Wt.none rfl) rfl rfl ?_
    refine RunL.nil ?_
    refine Run.condT rfl ?_
    refine Run.sr ?_
    refine RunL.as rfl rfl ?_
    refine RunL.nil ?_
    exact Run.ret Try.func11 (res1 rfl rfl) (by exact ⟨by congr 1; (try simp [prcMay, t0]); (first | done | omega), rfl⟩) (by repeat (first | (with_reducible exact Fin.done (by repeat (first | (with_reducible exact Rest.here) | apply Rest.there))) | (apply Fin.cons (by first | ((repeat (first | (with_reducible exact F0 _) | apply F1)); done) | (repeat (first | exact F0 _ | apply F1))))))
  · try simp only [ZA, ZB, ZC, ZD, ZE, ZF, ZG, ZH, ZI, ZJ, ZK, ZL, ZM, ZN, ZO, ZP, ZQ, ZR] at t0
    refine RunL.pure (Pure.move rfl) (Wt.yes rfl rfl rfl) rfl rfl ?_
    refine RunL.pure (Pure.not rfl) (Wt.yes rfl rfl rfl) rfl rfl ?_
    refine RunL.pure (Pure.pickF rfl rfl) (Wt.none rfl) rfl rfl ?_
    refine RunL.mv rfl rfl ?_
    refine RunL.split (d := 19) rfl (fun t1 => ?_) (fun t1 => ?_)
    · try simp only [ZA, ZB, ZC, ZD, ZE, ZF, ZG, ZH, ZI, ZJ, ZK, ZL, ZM, ZN, ZO, ZP, ZQ, ZR] at t1
      refine RunL.not (Wt.no rfl rfl rfl) rfl rfl ?_
      refine RunL.not (Wt.no rfl rfl rfl) rfl rfl ?_
      refine RunL.not (Wt.no rfl rfl rfl) rfl rfl ?_
      refine RunL.not (Wt.no rfl rfl rfl) rfl rfl ?_
      refine RunL.not (Wt.no rfl rfl rfl) rfl rfl ?_
      refine RunL.pure (Pure.pickT rfl rfl) (Wt.none rfl) rfl rfl ?_
      refine RunL.mv rfl rfl ?_
      refine RunL.not (Wt.no rfl rfl rfl) rfl rfl ?_
      refine RunL.not (Wt.no rfl rfl rfl) rfl rfl ?_
      refine RunL.not (Wt.no rfl rfl rfl) rfl rfl ?_
      refine RunL.pure (Pure.pickT rfl rfl) (Wt.none rfl) rfl rfl ?_
      refine RunL.mv rfl rfl ?_
      refine RunL.not (Wt.no rfl rfl rfl) rfl rfl ?_
      refine RunL.not (Wt.no rfl rfl rfl) rfl rfl ?_
      refine RunL.not (Wt.no rfl rfl rfl) rfl rfl ?_
      refine RunL.pure (Pure.pickT rfl rfl) (Wt.none rfl) rfl rfl ?_
      refine RunL.mv rfl rfl ?_
      refine RunL.not (Wt.no rfl rfl rfl) rfl rfl ?_
      refine RunL.not (Wt.no rfl rfl rfl) rfl rfl ?_
      refine RunL.not (Wt.no rfl rfl rfl) rfl rfl ?_
      refine RunL.not (Wt.no rfl rfl rfl) rfl rfl ?_
      refine RunL.pure (Pure.pickT rfl rfl) (Wt.none rfl) rfl rfl ?_
      refine RunL.mv rfl rfl ?_
      refine RunL.not (Wt.no rfl rfl rfl) rfl rfl ?_
      refine RunL.not (Wt.no rfl rfl rfl) rfl rfl ?_
      refine RunL.not (Wt.no rfl rfl rfl) rfl rfl ?_
      refine RunL.not (Wt.un rfl rfl rfl) rfl rfl ?_
      refine RunL.not (Wt.un rfl rfl rfl) rfl rfl ?_
      refine RunL.not (Wt.un rfl rfl rfl) rfl rfl ?_
      refine RunL.not (Wt.un rfl rfl rfl) rfl rfl ?_
      refine RunL.not (Wt.no rfl rfl rfl) rfl rfl ?_
      refine RunL.pure (Pure.pickT rfl rfl) (Wt.none rfl) rfl rfl ?_
      refine RunL.nil ?_
      refine Run.condT rfl ?_
      refine Run.sr ?_
      refine RunL.as rfl rfl ?_
      refine RunL.nil ?_
      exact Run.ret Try.func11 (res1 rfl rfl) (by exact ⟨by congr 1; (try simp [prcMay, t0, t1]); (first | done | omega), rfl⟩) (by repeat (first | (with_reducible exact Fin.done (by repeat (first | (with_reducible exact Rest.here) | apply Rest.there))) | (apply Fin.cons (by first | ((repeat (first | (with_reducible exact F0 _) | apply F1)); done) | (repeat (first | exact F0 _ | apply F1))))))
    · try simp only [ZA, ZB, ZC, ZD, ZE, ZF, ZG, ZH, ZI, ZJ, ZK, ZL, ZM, ZN, ZO, ZP, ZQ, ZR] at t1
      refine RunL.pure (Pure.fieldAddr rfl fo24_1) (Wt.yes rfl rfl rfl) rfl rfl ?_
      first | refine RunL.load1 rfl (by first | ((repeat (first | (with_reducible exact F0 _) | apply F1)); done) | (repeat (first | exact F0 _ | apply F1))) (by rfl) agg9 (Wt.yes rfl rfl rfl) rfl ?_ | refine RunL.load1R rfl (by assumption) (by rfl) agg9 (Wt.yes rfl rfl rfl) rfl ?_
      refine RunL.pure (Pure.fieldAddr rfl fo24_2) (Wt.yes rfl rfl rfl) rfl rfl ?_
      first | refine RunL.load1 rfl (by first | ((repeat (first | (with_reducible exact F0 _) | apply F1)); done) | (repeat (first | exact F0 _ | apply F1))) (by rfl) agg9 (Wt.yes rfl rfl rfl) rfl ?_ | refine RunL.load1R rfl (by assumption) (by rfl) agg9 (Wt.yes rfl rfl rfl) rfl ?_
      refine RunL.pure (Pure.seql rfl rfl) (Wt.yes rfl rfl rfl) rfl rfl ?_
      refine RunL.pure (Pure.pickF rfl rfl) (Wt.none rfl) rfl rfl ?_
      refine RunL.mv rfl rfl ?_
      refine RunL.split (d := 26) rfl (fun t2 => ?_) (fun t2 => ?_)
      · try simp only [ZA, ZB, ZC, ZD, ZE, ZF, ZG, ZH, ZI, ZJ, ZK, ZL, ZM, ZN, ZO, ZP, ZQ, ZR] at t2
        refine RunL.not (Wt.no rfl rfl rfl) rfl rfl ?_
        refine RunL.not (Wt.no rfl rfl rfl) rfl rfl ?_
        refine RunL.not (Wt.no rfl rfl rfl) rfl rfl ?_
        refine RunL.pure (Pure.pickT rfl rfl) (Wt.none rfl) rfl rfl ?_
        refine RunL.mv rfl rfl ?_
        refine RunL.not (Wt.no rfl rfl rfl) rfl rfl ?_
        refine RunL.not (Wt.no rfl rfl rfl) rfl rfl ?_
        refine RunL.not (Wt.no rfl rfl rfl) rfl rfl ?_
        refine RunL.pure (Pure.pickT rfl rfl) (Wt.none rfl) rfl rfl ?_
        refine RunL.mv rfl rfl ?_
        refine RunL.not (Wt.no rfl rfl rfl) rfl rfl ?_
        refine RunL.not (Wt.no rfl rfl rfl) rfl rfl ?_
        refine RunL.not (Wt.no rfl rfl rfl) rfl rfl ?_
        refine RunL.not (Wt.no rfl rfl rfl) rfl rfl ?_
        refine RunL.pure (Pure.pickT rfl rfl) (Wt.none rfl) rfl rfl ?_
        refine RunL.mv rfl rfl ?_
        refine RunL.not (Wt.no rfl rfl rfl) rfl rfl ?_
        refine RunL.not (Wt.no rfl rfl rfl) rfl rfl ?_
        refine RunL.not (Wt.no rfl rfl rfl) rfl rfl ?_
        refine RunL.not (Wt.un rfl rfl rfl) rfl rfl ?_
        refine RunL.not (Wt.un rfl rfl rfl) rfl rfl ?_
        refine RunL.not (Wt.un rfl rfl rfl) rfl rfl ?_
        refine RunL.not (Wt.un rfl rfl rfl) rfl rfl ?_
        refine RunL.not (Wt.no rfl rfl rfl) rfl rfl ?_
        refine RunL.pure (Pure.pickT rfl rfl) (Wt.none rfl) rfl rfl ?_
        refine RunL.nil ?_
        refine Run.condT rfl ?_
        refine Run.sr ?_
        refine RunL.as rfl rfl ?_
        refine RunL.nil ?_
        exact Run.ret Try.func11 (res1 rfl rfl) (by exact ⟨by congr 1; (try simp [prcMay, t0, t1, t2]); (first | done | omega), rfl⟩) (by repeat (first | (with_reducible exact Fin.done (by repeat (first | (with_reducible exact Rest.here) | apply Rest.there))) | (apply Fin.cons (by first | ((repeat (first | (with_reducible exact F0 _) | apply F1)); done) | (repeat (first | exact F0 _ | apply F1))))))
      · try simp only [ZA, ZB, ZC, ZD, ZE, ZF, ZG, ZH, ZI, ZJ, ZK, ZL, ZM, ZN, ZO, ZP, ZQ, ZR] at t2
        refine RunL.pure (Pure.fieldAddr rfl fo24_3) (Wt.yes rfl rfl rfl) rfl rfl ?_
        first | refine RunL.load1 rfl (by first | ((repeat (first | (with_reducible exact F0 _) | apply F1)); done) | (repeat (first | exact F0 _ | apply F1))) (by rfl) agg3 (Wt.yes rfl rfl rfl) rfl ?_ | refine RunL.load1R rfl (by assumption) (by rfl) agg3 (Wt.yes rfl rfl rfl) rfl ?_
        refine RunL.pure (Pure.lss rfl rfl) (Wt.yes rfl rfl rfl) rfl rfl ?_
        refine RunL.pure (Pure.pickF rfl rfl) (Wt.none rfl) rfl rfl ?_
        refine RunL.mv rfl rfl ?_
        refine RunL.split (d := 31) rfl (fun t3 => ?_) (fun t3 => ?_)
        · try simp only [ZA, ZB, ZC, ZD, ZE, ZF, ZG, ZH, ZI, ZJ, ZK, ZL, ZM, ZN, ZO, ZP, ZQ, ZR] at t3
          refine RunL.not (Wt.no rfl rfl rfl) rfl rfl ?_
          refine RunL.not (Wt.no rfl rfl rfl) rfl rfl ?_
          refine RunL.not (Wt.no rfl rfl rfl) rfl rfl ?_
          refine RunL.pure (Pure.pickT rfl rfl) (Wt.none rfl) rfl rfl ?_
          refine RunL.mv rfl rfl ?_
          refine RunL.not (Wt.no rfl rfl rfl) rfl rfl ?_
          refine RunL.not (Wt.no rfl rfl rfl) rfl rfl ?_
          refine RunL.not (Wt.no rfl rfl rfl) rfl rfl ?_
          refine RunL.not (Wt.no rfl rfl rfl) rfl rfl ?_
          refine RunL.pure (Pure.pickT rfl rfl) (Wt.none rfl) rfl rfl ?_
          refine RunL.mv rfl rfl ?_
          refine RunL.not (Wt.no rfl rfl rfl) rfl rfl ?_
          refine RunL.not (Wt.no rfl rfl rfl) rfl rfl ?_
          refine RunL.not (Wt.no rfl rfl rfl) rfl rfl ?_
          refine RunL.not (Wt.un rfl rfl rfl) rfl rfl ?_
          refine RunL.not (Wt.un rfl rfl rfl) rfl rfl ?_
          refine RunL.not (Wt.un rfl rfl rfl) rfl rfl ?_
          refine RunL.not (Wt.un rfl rfl rfl) rfl rfl ?_
          refine RunL.not (Wt.no rfl rfl rfl) rfl rfl ?_
          refine RunL.pure (Pure.pickT rfl rfl) (Wt.none rfl) rfl rfl ?_
          refine RunL.nil ?_
          refine Run.condT rfl ?_
          refine Run.sr ?_
          refine RunL.as rfl rfl ?_
          refine RunL.nil ?_
          exact Run.ret Try.func11 (res1 rfl rfl) (by exact ⟨by congr 1; (try simp [prcMay, t0, t1, t2, t3]); (first | done | omega), rfl⟩) (by repeat (first | (with_reducible exact Fin.done (by repeat (first | (with_reducible exact Rest.here) | apply Rest.there))) | (apply Fin.cons (by first | ((repeat (first | (with_reducible exact F0 _) | apply F1)); done) | (repeat (first | exact F0 _ | apply F1))))))
        · try simp only [ZA, ZB, ZC, ZD, ZE, ZF, ZG, ZH, ZI, ZJ, ZK, ZL, ZM, ZN, ZO, ZP, ZQ, ZR] at t3
          refine RunL.pure (Pure.fieldAddr rfl fo24_3) (Wt.yes rfl rfl rfl) rfl rfl ?_
          first | refine RunL.load1 rfl (by first | ((repeat (first | (with_reducible exact F0 _) | apply F1)); done) | (repeat (first | exact F0 _ | apply F1))) (by rfl) agg3 (Wt.yes rfl rfl rfl) rfl ?_ | refine RunL.load1R rfl (by assumption) (by rfl) agg3 (Wt.yes rfl rfl rfl) rfl ?_
          refine RunL.pure (Pure.gtr rfl rfl) (Wt.yes rfl rfl rfl) rfl rfl ?_
          refine RunL.pure (Pure.pickF rfl rfl) (Wt.none rfl) rfl rfl ?_
          refine RunL.mv rfl rfl ?_
          refine RunL.split (d := 36) rfl (fun t4 => ?_) (fun t4 => ?_)
          · try simp only [ZA, ZB, ZC, ZD, ZE, ZF, ZG, ZH, ZI, ZJ, ZK, ZL, ZM, ZN, ZO, ZP, ZQ, ZR] at t4
            refine RunL.not (Wt.no rfl rfl rfl) rfl rfl ?_
            refine RunL.not (Wt.no rfl rfl rfl) rfl rfl ?_
            refine RunL.not (Wt.no rfl rfl rfl) rfl rfl ?_
            refine RunL.not (Wt.no rfl rfl rfl) rfl rfl ?_
            refine RunL.pure (Pure.pickT rfl rfl) (Wt.none rfl) rfl rfl ?_
            refine RunL.mv rfl rfl ?_
            refine RunL.not (Wt.no rfl rfl rfl) rfl rfl ?_
            refine RunL.not (Wt.no rfl rfl rfl) rfl rfl ?_
            refine RunL.not (Wt.no rfl rfl rfl) rfl rfl ?_
            refine RunL.not (Wt.un rfl rfl rfl) rfl rfl ?_
            refine RunL.not (Wt.un rfl rfl rfl) rfl rfl ?_
            refine RunL.not (Wt.un rfl rfl rfl) rfl rfl ?_
            refine RunL.not (Wt.un rfl rfl rfl) rfl rfl ?_
            refine RunL.not (Wt.no rfl rfl rfl) rfl rfl ?_
            refine RunL.pure (Pure.pickT rfl rfl) (Wt.none rfl) rfl rfl ?_
            refine RunL.nil ?_
            refine Run.condT rfl ?_
            refine Run.sr ?_
            refine RunL.as rfl rfl ?_
            refine RunL.nil ?_
            exact Run.ret Try.func11 (res1 rfl rfl) (by exact ⟨by congr 1; (try simp [prcMay, t0, t1, t2, t3, t4]); (first | done | omega), rfl⟩) (by repeat (first | (with_reducible exact Fin.done (by repeat (first | (with_reducible exact Rest.here) | apply Rest.there))) | (apply Fin.cons (by first | ((repeat (first | (with_reducible exact F0 _) | apply F1)); done) | (repeat (first | exact F0 _ | apply F1))))))
          · try simp only [ZA, ZB, ZC, ZD, ZE, ZF, ZG, ZH, ZI, ZJ, ZK, ZL, ZM, ZN, ZO, ZP, ZQ, ZR] at t4
            refine RunL.pure (Pure.fieldAddr rfl fo24_4) (Wt.yes rfl rfl rfl) rfl rfl ?_
            first | refine RunL.load1 rfl (by first | ((repeat (first | (with_reducible exact F0 _) | apply F1)); done) | (repeat (first | exact F0 _ | apply F1))) (by rfl) agg22 (Wt.yes rfl rfl rfl) rfl ?_ | refine RunL.load1R rfl (by assumption) (by rfl) agg22 (Wt.yes rfl rfl rfl) rfl ?_
            refine RunL.pure (Pure.lenSl rfl rfl und22) (Wt.yes rfl rfl rfl) rfl rfl ?_
            refine RunL.pure (Pure.gtr rfl rfl) (Wt.yes rfl rfl rfl) rfl rfl ?_
            refine RunL.pure (Pure.pickF rfl rfl) (Wt.none rfl) rfl rfl ?_
            refine RunL.mv rfl rfl ?_
            refine RunL.split (d := 42) rfl (fun t5 => ?_) (fun t5 => ?_)
            · try simp only [ZA, ZB, ZC, ZD, ZE, ZF, ZG, ZH, ZI, ZJ, ZK, ZL, ZM, ZN, ZO, ZP, ZQ, ZR] at t5
              refine RunL.not (Wt.no rfl rfl rfl) rfl rfl ?_
              refine RunL.not (Wt.no rfl rfl rfl) rfl rfl ?_
              refine RunL.not (Wt.no rfl rfl rfl) rfl rfl ?_
              refine RunL.not (Wt.un rfl rfl rfl) rfl rfl ?_
              refine RunL.not (Wt.un rfl rfl rfl) rfl rfl ?_
              refine RunL.not (Wt.un rfl rfl rfl) rfl rfl ?_
              refine RunL.not (Wt.un rfl rfl rfl) rfl rfl ?_
              refine RunL.not (Wt.no rfl rfl rfl) rfl rfl ?_
              refine RunL.pure (Pure.pickT rfl rfl) (Wt.none rfl) rfl rfl ?_
              refine RunL.nil ?_
              refine Run.condT rfl ?_
              refine Run.sr ?_
              refine RunL.as rfl rfl ?_
              refine RunL.nil ?_
              exact Run.ret Try.func11 (res1 rfl rfl) (by exact ⟨by congr 1; (try simp [prcMay, t0, t1, t2, t3, t4, t5]); (first | done | omega), rfl⟩) (by repeat (first | (with_reducible exact Fin.done (by repeat (first | (with_reducible exact Rest.here) | apply Rest.there))) | (apply Fin.cons (by first | ((repeat (first | (with_reducible exact F0 _) | apply F1)); done) | (repeat (first | exact F0 _ | apply F1))))))
            · try simp only [ZA, ZB, ZC, ZD, ZE, ZF, ZG, ZH, ZI, ZJ, ZK, ZL, ZM, ZN, ZO, ZP, ZQ, ZR] at t5
              refine RunL.pure (Pure.fieldAddr rfl fo24_0) (Wt.yes rfl rfl rfl) rfl rfl ?_
              first | refine RunL.load1 rfl (by first | ((repeat (first | (with_reducible exact F0 _) | apply F1)); done) | (repeat (first | exact F0 _ | apply F1))) (by rfl) agg4 (Wt.yes rfl rfl rfl) rfl ?_ | refine RunL.load1R rfl (by assumption) (by rfl) agg4 (Wt.yes rfl rfl rfl) rfl ?_
              refine RunL.pure (Pure.move rfl) (Wt.yes rfl rfl rfl) rfl rfl ?_
              refine RunL.split (d := 45) rfl (fun t6 => ?_) (fun t6 => ?_)
              · try simp only [ZA, ZB, ZC, ZD, ZE, ZF, ZG, ZH, ZI, ZJ, ZK, ZL, ZM, ZN, ZO, ZP, ZQ, ZR] at t6
                refine RunL.pure (Pure.fieldAddr rfl fo24_4) (Wt.yes rfl rfl rfl) rfl rfl ?_
                first | refine RunL.load1 rfl (by first | ((repeat (first | (with_reducible exact F0 _) | apply F1)); done) | (repeat (first | exact F0 _ | apply F1))) (by rfl) agg22 (Wt.yes rfl rfl rfl) rfl ?_ | refine RunL.load1R rfl (by assumption) (by rfl) agg22 (Wt.yes rfl rfl rfl) rfl ?_
                refine RunL.pure (Pure.lenSl rfl rfl und22) (Wt.yes rfl rfl rfl) rfl rfl ?_
                refine RunL.pure (Pure.gtr rfl rfl) (Wt.yes rfl rfl rfl) rfl rfl ?_
                refine RunL.pure (Pure.pickT rfl rfl) (Wt.yes rfl rfl rfl) rfl rfl ?_
                refine RunL.pure (Pure.pickF rfl rfl) (Wt.none rfl) rfl rfl ?_
                refine RunL.nil ?_
                refine Run.cond rfl (fun t7 => ?_) (fun t7 => ?_)
                · try simp only [ZA, ZB, ZC, ZD, ZE, ZF, ZG, ZH, ZI, ZJ, ZK, ZL, ZM, ZN, ZO, ZP, ZQ, ZR] at t7
                  refine Run.sr ?_
                  refine RunL.as rfl rfl ?_
                  refine RunL.nil ?_
                  exact Run.ret Try.func11 (res1 rfl rfl) (by exact ⟨by congr 1; (try simp [prcMay, t0, t1, t2, t3, t4, t5, t6, t7]); (first | done | omega), rfl⟩) (by repeat (first | (with_reducible exact Fin.done (by repeat (first | (with_reducible exact Rest.here) | apply Rest.there))) | (apply Fin.cons (by first | ((repeat (first | (with_reducible exact F0 _) | apply F1)); done) | (repeat (first | exact F0 _ | apply F1))))))
                · try simp only [ZA, ZB, ZC, ZD, ZE, ZF, ZG, ZH, ZI, ZJ, ZK, ZL, ZM, ZN, ZO, ZP, ZQ, ZR] at t7
                  refine Run.skip ?_
                  refine Run.seq ?_
                  refine Run.sr ?_
                  refine RunL.as rfl rfl ?_
                  refine RunL.nil ?_
                  refine Run.block ?_
                  refine Run.keep (.cons rfl (.cons rfl (.nil)) : Keep _ [1, 5] _) ?_
                  refine Run.loopF (F := F) (fun n e A => ∃ i : Nat, i ≤ p.ed.n ∧ (∀ j x, j < i → xs[j]? = some x → eduMay x = true) ∧ n = p.ed.n - i ∧ e = [(1, .pointer (some ⟨b1, 0, none⟩)), (5, .int .i64 (i : Nat))] ∧ A = F) (p.ed.n) (by exact ⟨0, by omega, fun j x hj => absurd hj (Nat.not_lt_zero _), rfl, rfl, rfl⟩) (by repeat (first | (with_reducible exact Fin.done (by repeat (first | (with_reducible exact Rest.here) | apply Rest.there))) | (apply Fin.cons (by first | ((repeat (first | (with_reducible exact F0 _) | apply F1)); done) | (repeat (first | exact F0 _ | apply F1)))))) ?_
                  rintro n _ _ ⟨i, hi, hall, rfl, rfl, hA_⟩ ih
                  replace hA_ := hA_.symm; subst hA_
                  refine Run.seq ?_
                  refine Run.sr ?_
                  refine RunL.mv rfl rfl ?_
                  refine RunL.pure (Pure.fieldAddr rfl fo24_4) (Wt.none rfl) rfl rfl ?_
                  first | refine RunL.load1 rfl (by first | ((repeat (first | (with_reducible exact F0 _) | apply F1)); done) | (repeat (first | exact F0 _ | apply F1))) (by rfl) agg22 (Wt.none rfl) rfl ?_ | refine RunL.load1R rfl (by assumption) (by rfl) agg22 (Wt.none rfl) rfl ?_
                  refine RunL.pure (Pure.lenSl rfl rfl und22) (Wt.none rfl) rfl rfl ?_
                  refine RunL.pure (Pure.lss rfl rfl) (Wt.none rfl) rfl rfl ?_
                  refine RunL.nil ?_
                  refine Run.cond rfl (fun h2 => ?_) (fun h2 => ?_)
                  · try simp only [ZA, ZB, ZC, ZD, ZE, ZF, ZG, ZH, ZI, ZJ, ZK, ZL, ZM, ZN, ZO, ZP, ZQ, ZR] at h2
                    obtain ⟨x, hx⟩ := get_some (xs := xs) (i := i) (by omega)
                    have hxz := hz x (List.mem_of_getElem? hx)
                    obtain ⟨bb, Tb, preb, postb, hpa, hro⟩ := h.open1 (show 0 < p.ed.n by omega)
                    refine Run.skip ?_
                    refine Run.seq ?_
                    refine Run.block ?_
                    refine Run.sr ?_
                    refine RunL.pure (Pure.fieldAddr rfl fo24_4) (Wt.none rfl) rfl rfl ?_
                    first | refine RunL.load1 rfl (by first | ((repeat (first | (with_reducible exact F0 _) | apply F1)); done) | (repeat (first | exact F0 _ | apply F1))) (by rfl) agg22 (Wt.none rfl) rfl ?_ | refine RunL.load1R rfl (by assumption) (by rfl) agg22 (Wt.none rfl) rfl ?_
                    rw [hpa]
                    refine RunL.mv rfl rfl ?_
                    refine RunL.pure (Pure.indexAddr rfl rfl und22 sz50 (by omega) (by omega)) (Wt.none rfl) rfl rfl ?_
                    refine RunL.loadNR (vs := (cEdu x)) rfl hro agg50 sz50 (elemN_len (pre := preb) (post := postb) (f := cEdu) (sz := 11) (j := 0) (n := 11) (fun _ _ => rfl) hx (by decide)) ((elemN_at (pre := preb) (post := postb) (f := cEdu) (sz := 11) (j := 0) (n := 11) (fun _ _ => rfl) hx (by decide)).trans rfl) (Wt.none rfl) rfl ?_
                    refine RunL.call rfl rfl (by rfl) (by repeat (first | (with_reducible exact Take.nil _) | (apply Take.cons (by first | ((repeat (first | (with_reducible exact F0 _) | apply F1)); done) | (repeat (first | exact F0 _ | apply F1)))))) (rMay3_ctr hxz) (Wt.none rfl) rfl ?_
                    rintro _ _ ⟨rfl, hA_⟩
                    replace hA_ := hA_.symm; subst hA_
                    refine RunL.as rfl rfl ?_
                    refine RunL.nil ?_
                    refine Run.sr ?_
                    refine RunL.mv rfl rfl ?_
                    refine RunL.pure (Pure.not rfl) (Wt.none rfl) rfl rfl ?_
                    refine RunL.nil ?_
                    refine Run.cond rfl (fun h3 => ?_) (fun h3 => ?_)
                    · try simp only [ZA, ZB, ZC, ZD, ZE, ZF, ZG, ZH, ZI, ZJ, ZK, ZL, ZM, ZN, ZO, ZP, ZQ, ZR] at h3
                      refine Run.sr ?_
                      refine RunL.as rfl rfl ?_
                      refine RunL.nil ?_
                      exact Run.ret Try.func11 (res1 rfl rfl) (by exact ⟨by rw [prcMay, not_may hx (by simpa using h3)]; simp, rfl⟩) (by repeat (first | (with_reducible exact Fin.done (by repeat (first | (with_reducible exact Rest.here) | apply Rest.there))) | (apply Fin.cons (by first | ((repeat (first | (with_reducible exact F0 _) | apply F1)); done) | (repeat (first | exact F0 _ | apply F1))))))
                    · try simp only [ZA, ZB, ZC, ZD, ZE, ZF, ZG, ZH, ZI, ZJ, ZK, ZL, ZM, ZN, ZO, ZP, ZQ, ZR] at h3
                      refine Run.skip ?_
                      refine Run.inBlock ?_
                      refine Run.region ?_
                      refine RunL.mv rfl rfl ?_
                      first | refine RunL.pure (Pure.addI rfl rfl (by omega)) (Wt.none rfl) rfl rfl ?_ | refine RunL.pure (Pure.add rfl rfl) (Wt.none rfl) rfl rfl ?_
                      refine RunL.as rfl rfl ?_
                      refine RunL.nil ?_
                      refine Run.keep (.cons rfl (.cons rfl (.nil)) : Keep _ [1, 5] _) ?_
                      refine Run.againF (F := F) ih (by exact ⟨i + 1, by omega, fun j y hj hy => by (rcases Nat.lt_or_ge j i with q | q; exact hall j y q hy; have : j = i := (by omega); subst this; rw [hx] at hy; cases hy; simpa using h3), rfl, rfl, rfl⟩) (by repeat (first | (with_reducible exact Fin.done (by repeat (first | (with_reducible exact Rest.here) | apply Rest.there))) | (apply Fin.cons (by first | ((repeat (first | (with_reducible exact F0 _) | apply F1)); done) | (repeat (first | exact F0 _ | apply F1)))))) ?_
                      omega
                  · try simp only [ZA, ZB, ZC, ZD, ZE, ZF, ZG, ZH, ZI, ZJ, ZK, ZL, ZM, ZN, ZO, ZP, ZQ, ZR] at h2
                    refine Run.exit rfl ?_
                    refine Run.sr ?_
                    refine RunL.as rfl rfl ?_
                    refine RunL.nil ?_
                    exact Run.ret Try.func11 (res1 rfl rfl) (by exact ⟨by congr 1; rw [prcMay, all_may hall (by omega)]; (try simp [t0, t1, t2, t3, t4, t5, t6, t7]); (first | done | omega), rfl⟩) (by repeat (first | (with_reducible exact Fin.done (by repeat (first | (with_reducible exact Rest.here) | apply Rest.there))) | (apply Fin.cons (by first | ((repeat (first | (with_reducible exact F0 _) | apply F1)); done) | (repeat (first | exact F0 _ | apply F1))))))
              · try simp only [ZA, ZB, ZC, ZD, ZE, ZF, ZG, ZH, ZI, ZJ, ZK, ZL, ZM, ZN, ZO, ZP, ZQ, ZR] at t6
                refine RunL.not (Wt.no rfl rfl rfl) rfl rfl ?_
                refine RunL.not (Wt.no rfl rfl rfl) rfl rfl ?_
                refine RunL.not (Wt.no rfl rfl rfl) rfl rfl ?_
                refine RunL.not (Wt.no rfl rfl rfl) rfl rfl ?_
                refine RunL.pure (Pure.pickF rfl rfl) (Wt.yes rfl rfl rfl) rfl rfl ?_
                refine RunL.pure (Pure.pickF rfl rfl) (Wt.none rfl) rfl rfl ?_
                refine RunL.nil ?_
                refine Run.condF rfl ?_
                refine Run.skip ?_
                refine Run.seq ?_
                refine Run.sr ?_
                refine RunL.as rfl rfl ?_
                refine RunL.nil ?_
                refine Run.block ?_
                refine Run.keep (.cons rfl (.cons rfl (.nil)) : Keep _ [1, 5] _) ?_
                refine Run.loopF (F := F) (fun n e A => ∃ i : Nat, i ≤ p.ed.n ∧ (∀ j x, j < i → xs[j]? = some x → eduMay x = true) ∧ n = p.ed.n - i ∧ e = [(1, .pointer (some ⟨b1, 0, none⟩)), (5, .int .i64 (i : Nat))] ∧ A = F) (p.ed.n) (by exact ⟨0, by omega, fun j x hj => absurd hj (Nat.not_lt_zero _), rfl, rfl, rfl⟩) (by repeat (first | (with_reducible exact Fin.done (by repeat (first | (with_reducible exact Rest.here) | apply Rest.there))) | (apply Fin.cons (by first | ((repeat (first | (with_reducible exact F0 _) | apply F1)); done) | (repeat (first | exact F0 _ | apply F1)))))) ?_
                rintro n _ _ ⟨i, hi, hall, rfl, rfl, hA_⟩ ih
                replace hA_ := hA_.symm; subst hA_
                refine Run.seq ?_
                refine Run.sr ?_
                refine RunL.mv rfl rfl ?_
                refine RunL.pure (Pure.fieldAddr rfl fo24_4) (Wt.none rfl) rfl rfl ?_
                first | refine RunL.load1 rfl (by first | ((repeat (first | (with_reducible exact F0 _) | apply F1)); done) | (repeat (first | exact F0 _ | apply F1))) (by rfl) agg22 (Wt.none rfl) rfl ?_ | refine RunL.load1R rfl (by assumption) (by rfl) agg22 (Wt.none rfl) rfl ?_
                refine RunL.pure (Pure.lenSl rfl rfl und22) (Wt.none rfl) rfl rfl ?_
                refine RunL.pure (Pure.lss rfl rfl) (Wt.none rfl) rfl rfl ?_
                refine RunL.nil ?_
                refine Run.cond rfl (fun h2 => ?_) (fun h2 => ?_)
                · try simp only [ZA, ZB, ZC, ZD, ZE, ZF, ZG, ZH, ZI, ZJ, ZK, ZL, ZM, ZN, ZO, ZP, ZQ, ZR] at h2
                  obtain ⟨x, hx⟩ := get_some (xs := xs) (i := i) (by omega)
                  have hxz := hz x (List.mem_of_getElem? hx)
                  obtain ⟨bb, Tb, preb, postb, hpa, hro⟩ := h.open1 (show 0 < p.ed.n by omega)
                  refine Run.skip ?_
                  refine Run.seq ?_
                  refine Run.block ?_
                  refine Run.sr ?_
                  refine RunL.pure (Pure.fieldAddr rfl fo24_4) (Wt.none rfl) rfl rfl ?_
                  first | refine RunL.load1 rfl (by first | ((repeat (first | (with_reducible exact F0 _) | apply F1)); done) | (repeat (first | exact F0 _ | apply F1))) (by rfl) agg22 (Wt.none rfl) rfl ?_ | refine RunL.load1R rfl (by assumption) (by rfl) agg22 (Wt.none rfl) rfl ?_
                  rw [hpa]
                  refine RunL.mv rfl rfl ?_
                  refine RunL.pure (Pure.indexAddr rfl rfl und22 sz50 (by omega) (by omega)) (Wt.none rfl) rfl rfl ?_
                  refine RunL.loadNR (vs := (cEdu x)) rfl hro agg50 sz50 (elemN_len (pre := preb) (post := postb) (f := cEdu) (sz := 11) (j := 0) (n := 11) (fun _ _ => rfl) hx (by decide)) ((elemN_at (pre := preb) (post := postb) (f := cEdu) (sz := 11) (j := 0) (n := 11) (fun _ _ => rfl) hx (by decide)).trans rfl) (Wt.none rfl) rfl ?_
                  refine RunL.call rfl rfl (by rfl) (by repeat (first | (with_reducible exact Take.nil _) | (apply Take.cons (by first | ((repeat (first | (with_reducible exact F0 _) | apply F1)); done) | (repeat (first | exact F0 _ | apply F1)))))) (rMay3_ctr hxz) (Wt.none rfl) rfl ?_
                  rintro _ _ ⟨rfl, hA_⟩
                  replace hA_ := hA_.symm; subst hA_
                  refine RunL.as rfl rfl ?_
                  refine RunL.nil ?_
                  refine Run.sr ?_
                  refine RunL.mv rfl rfl ?_
                  refine RunL.pure (Pure.not rfl) (Wt.none rfl) rfl rfl ?_
                  refine RunL.nil ?_
                  refine Run.cond rfl (fun h3 => ?_) (fun h3 => ?_)
                  · try simp only [ZA, ZB, ZC, ZD, ZE, ZF, ZG, ZH, ZI, ZJ, ZK, ZL, ZM, ZN, ZO, ZP, ZQ, ZR] at h3
                    refine Run.sr ?_
                    refine RunL.as rfl rfl ?_
                    refine RunL.nil ?_
                    exact Run.ret Try.func11 (res1 rfl rfl) (by exact ⟨by rw [prcMay, not_may hx (by simpa using h3)]; simp, rfl⟩) (by repeat (first | (with_reducible exact Fin.done (by repeat (first | (with_reducible exact Rest.here) | apply Rest.there))) | (apply Fin.cons (by first | ((repeat (first | (with_reducible exact F0 _) | apply F1)); done) | (repeat (first | exact F0 _ | apply F1))))))
                  · try simp only [ZA, ZB, ZC, ZD, ZE, ZF, ZG, ZH, ZI, ZJ, ZK, ZL, ZM, ZN, ZO, ZP, ZQ, ZR] at h3
                    refine Run.skip ?_
                    refine Run.inBlock ?_
                    refine Run.region ?_
                    refine RunL.mv rfl rfl ?_
                    first | refine RunL.pure (Pure.addI rfl rfl (by omega)) (Wt.none rfl) rfl rfl ?_ | refine RunL.pure (Pure.add rfl rfl) (Wt.none rfl) rfl rfl ?_
                    refine RunL.as rfl rfl ?_
                    refine RunL.nil ?_
                    refine Run.keep (.cons rfl (.cons rfl (.nil)) : Keep _ [1, 5] _) ?_
                    refine Run.againF (F := F) ih (by exact ⟨i + 1, by omega, fun j y hj hy => by (rcases Nat.lt_or_ge j i with q | q; exact hall j y q hy; have : j = i := (by omega); subst this; rw [hx] at hy; cases hy; simpa using h3), rfl, rfl, rfl⟩) (by repeat (first | (with_reducible exact Fin.done (by repeat (first | (with_reducible exact Rest.here) | apply Rest.there))) | (apply Fin.cons (by first | ((repeat (first | (with_reducible exact F0 _) | apply F1)); done) | (repeat (first | exact F0 _ | apply F1)))))) ?_
                    omega
                · try simp only [ZA, ZB, ZC, ZD, ZE, ZF, ZG, ZH, ZI, ZJ, ZK, ZL, ZM, ZN, ZO, ZP, ZQ, ZR] at h2
                  refine Run.exit rfl ?_
                  refine Run.sr ?_
                  refine RunL.as rfl rfl ?_
                  refine RunL.nil ?_
                  exact Run.ret Try.func11 (res1 rfl rfl) (by exact ⟨by congr 1; rw [prcMay, all_may hall (by omega)]; (try simp [t0, t1, t2, t3, t4, t5, t6]); (first | done | omega), rfl⟩) (by repeat (first | (with_reducible exact Fin.done (by repeat (first | (with_reducible exact Rest.here) | apply Rest.there))) | (apply Fin.cons (by first | ((repeat (first | (with_reducible exact F0 _) | apply F1)); done) | (repeat (first | exact F0 _ | apply F1))))))

end Go.Proofs.Ytbgjfpaigndbmaa
