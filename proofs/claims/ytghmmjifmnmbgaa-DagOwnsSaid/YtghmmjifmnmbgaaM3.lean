/- Odd events. -/
import Derived.Test.YtghmmjifmnmbgaaM2
set_option linter.unusedVariables false
set_option linter.unusedSimpArgs false
set_option linter.unusedSectionVars false
namespace Go.Proofs.Ytghmmjifmnmbgaa
open Go Csl


namespace Csl
def fewPs (ps : List ByteArray) : List ByteArray := (ps.take 6).map fun p => cut p 30
def fewEv (v : Evt) : Evt := ⟨cut v.id 30, cut v.room 30, fewPs v.ps, cut v.thread 30, cut v.user 30, v.does⟩
def base0 (room : ByteArray) : Evt := ⟨⟨#[36, 120]⟩, room, [], .empty, ⟨#[64, 97, 58, 115, 49]⟩, 0⟩
def oddBase (room : ByteArray) (l : EL) (k : Int) : Evt := (l[(around k (l.length : Nat)).toNat]?).getD (base0 room)
def oddEv (room : ByteArray) (l : EL) (k w : Int) (r : Evt) : Evt :=
  let e := oddBase room l k
  let f := fewEv r
  if around w 8 = 0 then { e with id := f.id } else if around w 8 = 1 then { e with room := f.room } else if around w 8 = 2 then { e with user := f.user }
  else if around w 8 = 3 then { e with thread := f.thread } else if around w 8 = 4 then { e with does := f.does } else if around w 8 = 5 then { e with ps := f.ps }
  else if around w 8 = 6 then { e with id := ⟨#[36, 121]⟩, thread := eventOf f.does, does := 0 } else { e with id := ⟨#[36, 122]⟩, ps := [eventOf f.does] }
theorem fewPs_len (ps : List ByteArray) : (fewPs ps).length ≤ 6 := by unfold fewPs; rw [List.length_map, List.length_take]; omega
theorem few_wf {v : Evt} (h : -9223372036854775808 ≤ v.does ∧ v.does ≤ 9223372036854775807) : evWf (fewEv v) := by
  have c1 := cut_size v.id 30; have c2 := cut_size v.room 30; have c3 := cut_size v.thread 30; have c4 := cut_size v.user 30
  refine evWf_of ?_ ?_ ?_ ?_ h ?_ ?_
  · show (cut v.id 30).size ≤ _; omega
  · show (cut v.room 30).size ≤ _; omega
  · show (cut v.thread 30).size ≤ _; omega
  · show (cut v.user 30).size ≤ _; omega
  · intro p hp
    obtain ⟨q, _, rfl⟩ := List.mem_map.1 hp
    have := cut_size q 30; omega
  · have := fewPs_len v.ps; show (fewPs v.ps).length ≤ _; omega
/-- What is small. -/
def evSm (v : Evt) : Prop := v.id.size ≤ 1000 ∧ v.room.size ≤ 1000 ∧ v.thread.size ≤ 1000 ∧ v.user.size ≤ 1000 ∧ (-9223372036854775808 ≤ v.does ∧ v.does ≤ 9223372036854775807) ∧ (∀ p ∈ v.ps, p.size ≤ 1000) ∧ v.ps.length ≤ 1000
theorem evSm.wf {v : Evt} (h : evSm v) : evWf v := evWf_of h.1 h.2.1 h.2.2.1 h.2.2.2.1 h.2.2.2.2.1 h.2.2.2.2.2.1 h.2.2.2.2.2.2
theorem few_sm {v : Evt} (h : -9223372036854775808 ≤ v.does ∧ v.does ≤ 9223372036854775807) : evSm (fewEv v) := by
  have c1 := cut_size v.id 30; have c2 := cut_size v.room 30; have c3 := cut_size v.thread 30; have c4 := cut_size v.user 30
  refine ⟨?_, ?_, ?_, ?_, h, ?_, ?_⟩
  · show (cut v.id 30).size ≤ _; omega
  · show (cut v.room 30).size ≤ _; omega
  · show (cut v.thread 30).size ≤ _; omega
  · show (cut v.user 30).size ≤ _; omega
  · intro p hp
    obtain ⟨q, _, rfl⟩ := List.mem_map.1 hp
    have := cut_size q 30; omega
  · have := fewPs_len v.ps; show (fewPs v.ps).length ≤ _; omega
theorem made_sm {room : ByteArray} {l : EL} {x : GX} (hr : room.size ≤ 1000) (hl : l.length ≤ 9) : evSm (madeEv room l x) := by
  have hd := around_lt (z := x.1.does) (m := 3) (by decide)
  refine ⟨?_, hr, madeThr_size l x, ?_, ?_, ?_, ?_⟩
  · show (eventOf _).size ≤ _; rw [eventOf_size]; omega
  · show (userOf _).size ≤ _; have := userOf_size x.1.user; omega
  · show _ ≤ around x.1.does 3 ∧ around x.1.does 3 ≤ _; omega
  · intro p hp
    obtain ⟨k, _, rfl⟩ := List.mem_map.1 hp
    rw [eventOf_size]; omega
  · show (madePs l.length x).length ≤ _
    unfold madePs; rw [List.length_map]
    exact Nat.le_trans (onKs_len _ _) (by rw [List.length_take]; omega)
theorem madeL_sm {room : ByteArray} (hr : room.size ≤ 1000) (xs : List GX) : ∀ v ∈ madeL room xs, evSm v := by
  have : ∀ xs : List GX, xs.length ≤ 9 → ∀ v ∈ madeN room xs, evSm v := by
    intro xs
    refine snoc_ind (P := fun xs => xs.length ≤ 9 → ∀ v ∈ madeN room xs, evSm v) (fun _ v hv => by simp [madeN] at hv) (fun l x ih h v hv => ?_) xs
    rw [List.length_append] at h
    rw [madeN_snoc] at hv
    rcases List.mem_append.1 hv with hv | hv
    · exact ih (by simp at h; omega) v hv
    · obtain rfl := List.mem_singleton.1 hv
      exact made_sm hr (by rw [madeN_len]; simp at h; omega)
  exact this _ (by rw [List.length_take]; omega)
theorem oddBase_sm {room : ByteArray} {l : EL} {k : Int} (hr : room.size ≤ 1000) (hl : ∀ v ∈ l, evSm v) : evSm (oddBase room l k) := by
  unfold oddBase
  cases h : l[(around k (l.length : Nat)).toNat]? with
  | some v => exact hl v (List.mem_of_getElem? h)
  | none =>
    show evSm (base0 room)
    exact ⟨(by show (⟨#[36, 120]⟩ : ByteArray).size ≤ 1000; decide), hr, (by show ByteArray.empty.size ≤ 1000; decide), (by show (⟨#[64, 97, 58, 115, 49]⟩ : ByteArray).size ≤ 1000; decide), (by show _ ≤ (0 : Int) ∧ (0 : Int) ≤ _; omega), (fun p hp => by cases hp), (by show ([] : List ByteArray).length ≤ 1000; simp)⟩
theorem odd_sm {room : ByteArray} {l : EL} {k w : Int} {r : Evt} (hr : room.size ≤ 1000) (hl : ∀ v ∈ l, evSm v) (h : -9223372036854775808 ≤ r.does ∧ r.does ≤ 9223372036854775807) : evSm (oddEv room l k w r) := by
  obtain ⟨b1, b2, b3, b4, b5, b6, b7⟩ := oddBase_sm (k := k) hr hl
  obtain ⟨f1, f2, f3, f4, f5, f6, f7⟩ := few_sm h
  have he : (eventOf (fewEv r).does).size ≤ 1000 := by rw [eventOf_size]; omega
  unfold oddEv
  simp only
  (repeat' split)
  · exact ⟨f1, b2, b3, b4, b5, b6, b7⟩
  · exact ⟨b1, f2, b3, b4, b5, b6, b7⟩
  · exact ⟨b1, b2, b3, f4, b5, b6, b7⟩
  · exact ⟨b1, b2, f3, b4, b5, b6, b7⟩
  · exact ⟨b1, b2, b3, b4, f5, b6, b7⟩
  · exact ⟨b1, b2, b3, b4, b5, f6, f7⟩
  · exact ⟨by show (⟨#[36, 121]⟩ : ByteArray).size ≤ 1000; decide, b2, he, b4, by show _ ≤ (0 : Int) ∧ (0 : Int) ≤ _; omega, b6, b7⟩
  · exact ⟨by show (⟨#[36, 122]⟩ : ByteArray).size ≤ 1000; decide, b2, b3, b4, b5, (fun p hp => by obtain rfl := List.mem_singleton.1 hp; exact he), by show ([eventOf (fewEv r).does] : List ByteArray).length ≤ 1000; simp⟩
end Csl

set_option maxHeartbeats 8000000 in
set_option maxRecDepth 100000 in
theorem rdFew_ctr {G : Gp} {e : Evn} {ps : List ByteArray} (hp : HasPs G e ps) :
    Ctr Try.prog G 10 [.agg (cEvn e).toArray] [] (fun F v A => ∃ a c, v = .agg (cEvn (Evt.evn (fewEv (e.ev ps)) ⟨a, (fewPs ps).length, c⟩)).toArray ∧ A = Sl 9 1 a (fewPs ps).length c ((fewPs ps).map Value.string) :: F) := by
  refine Ctr.intro Try.func10 rfl (by kernel_rfl) rfl (fun F => ?_)
  simp only [List.nil_append]
  have hpn : e.par.n = ps.length := hp.1
  refine Run.sr ?_
  refine RunL.boxA (xs := (cEvn e)) rfl (Wt.none rfl) rfl ?_; intro b1
  refine RunL.alloc zz24 (Wt.none rfl) rfl ?_; intro b2
  refine RunL.nil ?_
  refine Run.sr ?_
  refine RunL.pure (Pure.fieldAddr rfl fo24_0) (Wt.none rfl) rfl rfl ?_
  first | refine RunL.load1 rfl (by first | ((repeat (first | (with_reducible exact F0 _) | apply F1)); done) | (repeat (first | exact F0 _ | apply F1))) (by rfl) agg9 (Wt.none rfl) rfl ?_ | refine RunL.load1R rfl (by assumption) (by rfl) agg9 (Wt.none rfl) rfl ?_
  refine RunL.call rfl rfl (by rfl) (by repeat (first | (with_reducible exact Take.nil _) | (apply Take.cons (by first | ((repeat (first | (with_reducible exact F0 _) | apply F1)); done) | (repeat (first | exact F0 _ | apply F1)))))) (FewC_ctr (s := e.id) (m := 30) (by decide) (by decide)) (Wt.none rfl) rfl ?_
  rintro _ _ ⟨rfl, hA_⟩
  replace hA_ := hA_.symm; subst hA_
  refine RunL.pure (Pure.fieldAddr rfl fo24_0) (Wt.none rfl) rfl rfl ?_
  refine RunL.store1A (cs' := (cEvn ({ e with id := cut e.id 30 }))) rfl rfl (by first | ((repeat (first | (with_reducible exact F0 _) | apply F1)); done) | (repeat (first | exact F0 _ | apply F1))) sz9 (by rfl) (by first | exact Nat.le_of_ble_eq_true rfl | (simp; done) | (simp; omega)) rfl (Wt.none rfl) ?_
  refine RunL.nil ?_
  refine Run.sr ?_
  refine RunL.pure (Pure.fieldAddr rfl fo24_1) (Wt.none rfl) rfl rfl ?_
  first | refine RunL.load1 rfl (by first | ((repeat (first | (with_reducible exact F0 _) | apply F1)); done) | (repeat (first | exact F0 _ | apply F1))) (by rfl) agg9 (Wt.none rfl) rfl ?_ | refine RunL.load1R rfl (by assumption) (by rfl) agg9 (Wt.none rfl) rfl ?_
  refine RunL.call rfl rfl (by rfl) (by repeat (first | (with_reducible exact Take.nil _) | (apply Take.cons (by first | ((repeat (first | (with_reducible exact F0 _) | apply F1)); done) | (repeat (first | exact F0 _ | apply F1)))))) (FewC_ctr (s := e.room) (m := 30) (by decide) (by decide)) (Wt.none rfl) rfl ?_
  rintro _ _ ⟨rfl, hA_⟩
  replace hA_ := hA_.symm; subst hA_
  refine RunL.pure (Pure.fieldAddr rfl fo24_1) (Wt.none rfl) rfl rfl ?_
  refine RunL.store1A (cs' := (cEvn ({ e with id := cut e.id 30, room := cut e.room 30 }))) rfl rfl (by first | ((repeat (first | (with_reducible exact F0 _) | apply F1)); done) | (repeat (first | exact F0 _ | apply F1))) sz9 (by rfl) (by first | exact Nat.le_of_ble_eq_true rfl | (simp; done) | (simp; omega)) rfl (Wt.none rfl) ?_
  refine RunL.nil ?_
  refine Run.sr ?_
  refine RunL.pure (Pure.fieldAddr rfl fo24_4) (Wt.none rfl) rfl rfl ?_
  first | refine RunL.load1 rfl (by first | ((repeat (first | (with_reducible exact F0 _) | apply F1)); done) | (repeat (first | exact F0 _ | apply F1))) (by rfl) agg9 (Wt.none rfl) rfl ?_ | refine RunL.load1R rfl (by assumption) (by rfl) agg9 (Wt.none rfl) rfl ?_
  refine RunL.call rfl rfl (by rfl) (by repeat (first | (with_reducible exact Take.nil _) | (apply Take.cons (by first | ((repeat (first | (with_reducible exact F0 _) | apply F1)); done) | (repeat (first | exact F0 _ | apply F1)))))) (FewC_ctr (s := e.user) (m := 30) (by decide) (by decide)) (Wt.none rfl) rfl ?_
  rintro _ _ ⟨rfl, hA_⟩
  replace hA_ := hA_.symm; subst hA_
  refine RunL.pure (Pure.fieldAddr rfl fo24_4) (Wt.none rfl) rfl rfl ?_
  refine RunL.store1A (cs' := (cEvn ({ e with id := cut e.id 30, room := cut e.room 30, user := cut e.user 30 }))) rfl rfl (by first | ((repeat (first | (with_reducible exact F0 _) | apply F1)); done) | (repeat (first | exact F0 _ | apply F1))) sz9 (by rfl) (by first | exact Nat.le_of_ble_eq_true rfl | (simp; done) | (simp; omega)) rfl (Wt.none rfl) ?_
  refine RunL.nil ?_
  refine Run.sr ?_
  refine RunL.pure (Pure.fieldAddr rfl fo24_3) (Wt.none rfl) rfl rfl ?_
  first | refine RunL.load1 rfl (by first | ((repeat (first | (with_reducible exact F0 _) | apply F1)); done) | (repeat (first | exact F0 _ | apply F1))) (by rfl) agg9 (Wt.none rfl) rfl ?_ | refine RunL.load1R rfl (by assumption) (by rfl) agg9 (Wt.none rfl) rfl ?_
  refine RunL.call rfl rfl (by rfl) (by repeat (first | (with_reducible exact Take.nil _) | (apply Take.cons (by first | ((repeat (first | (with_reducible exact F0 _) | apply F1)); done) | (repeat (first | exact F0 _ | apply F1)))))) (FewC_ctr (s := e.thread) (m := 30) (by decide) (by decide)) (Wt.none rfl) rfl ?_
  rintro _ _ ⟨rfl, hA_⟩
  replace hA_ := hA_.symm; subst hA_
  refine RunL.pure (Pure.fieldAddr rfl fo24_3) (Wt.none rfl) rfl rfl ?_
  refine RunL.store1A (cs' := (cEvn ((⟨cut e.id 30, cut e.room 30, e.par, cut e.thread 30, cut e.user 30, e.does⟩ : Evn)))) rfl rfl (by first | ((repeat (first | (with_reducible exact F0 _) | apply F1)); done) | (repeat (first | exact F0 _ | apply F1))) sz9 (by rfl) (by first | exact Nat.le_of_ble_eq_true rfl | (simp; done) | (simp; omega)) rfl (Wt.none rfl) ?_
  refine RunL.nil ?_
  refine Run.sr ?_
  refine RunL.as rfl rfl ?_
  refine RunL.nil ?_
  refine Run.nilSl 9 1 ?_
  refine Run.seq ?_
  refine Run.sr ?_
  refine RunL.as rfl rfl ?_
  refine RunL.nil ?_
  refine Run.block ?_
  refine Run.keep (.cons rfl (.cons rfl (.cons rfl (.cons rfl (.nil)))) : Keep _ [1, 2, 3, 4] _) ?_
  refine Run.loopF (F := F) (fun n e_ A => ∃ (i : Nat) (a3 : Option Addr) (c3 : Nat), i ≤ ps.length ∧ i ≤ 6 ∧ n = 6 - i ∧ e_ = [(1, .pointer (some ⟨b1, 0, none⟩)), (2, .pointer (some ⟨b2, 0, none⟩)), (3, .slice a3 i c3), (4, .int .i64 (i : Nat))] ∧ A = row b1 24 (cEvn (⟨cut e.id 30, cut e.room 30, e.par, cut e.thread 30, cut e.user 30, e.does⟩ : Evn)) :: row b2 24 (cEvn (⟨.empty, .empty, ⟨none, 0, 0⟩, .empty, .empty, 0⟩ : Evn)) :: Sl 9 1 a3 i c3 (((ps.take i).map fun p => cut p 30).map Value.string) :: F) (6) (by exact ⟨0, none, 0, by omega, by omega, rfl, rfl, rfl⟩) (by repeat (first | (with_reducible exact Fin.done (by repeat (first | (with_reducible exact Rest.here) | apply Rest.there))) | (apply Fin.cons (by first | ((repeat (first | (with_reducible exact F0 _) | apply F1)); done) | (repeat (first | exact F0 _ | apply F1)))))) ?_
  rintro n _ _ ⟨i, a3, c3, hi, hi6, rfl, rfl, hA_⟩ ih
  replace hA_ := hA_.symm; subst hA_
  refine Run.seq ?_
  refine Run.sr ?_
  refine RunL.mv rfl rfl ?_
  refine RunL.pure (Pure.fieldAddr rfl fo24_2) (Wt.none rfl) rfl rfl ?_
  first | refine RunL.load1 rfl (by first | ((repeat (first | (with_reducible exact F0 _) | apply F1)); done) | (repeat (first | exact F0 _ | apply F1))) (by rfl) agg22 (Wt.none rfl) rfl ?_ | refine RunL.load1R rfl (by assumption) (by rfl) agg22 (Wt.none rfl) rfl ?_
  refine RunL.pure (Pure.lenSl rfl rfl und22) (Wt.none rfl) rfl rfl ?_
  refine RunL.pure (Pure.lss rfl rfl) (Wt.none rfl) rfl rfl ?_
  refine RunL.mv rfl rfl ?_
  refine RunL.split (d := 26) rfl (fun h1 => ?_) (fun h1 => ?_)
  · try simp only [ZA, ZB, ZC, ZD, ZE, ZF, ZG, ZH, ZI, ZJ, ZK, ZL, ZM, ZN, ZO, ZP, ZQ, ZR] at h1
    refine RunL.pure (Pure.move rfl) (Wt.yes rfl rfl rfl) rfl rfl ?_
    refine RunL.pure (Pure.lss rfl rfl) (Wt.yes rfl rfl rfl) rfl rfl ?_
    refine RunL.pure (Pure.pickT rfl rfl) (Wt.none rfl) rfl rfl ?_
    refine RunL.nil ?_
    refine Run.cond rfl (fun h2 => ?_) (fun h2 => ?_)
    · try simp only [ZA, ZB, ZC, ZD, ZE, ZF, ZG, ZH, ZI, ZJ, ZK, ZL, ZM, ZN, ZO, ZP, ZQ, ZR] at h2
      obtain ⟨q, hq⟩ := get_some (xs := ps) (i := i) (by omega)
      obtain ⟨bp, Tp, prep, postp, hpp, hrop⟩ := hp.2.open1 (show 0 < ps.length by omega)
      refine Run.skip ?_
      refine Run.seq ?_
      refine Run.block ?_
      refine Run.region ?_
      refine RunL.mv rfl rfl ?_
      refine RunL.pure (Pure.fieldAddr rfl fo24_2) (Wt.none rfl) rfl rfl ?_
      first | refine RunL.load1 rfl (by first | ((repeat (first | (with_reducible exact F0 _) | apply F1)); done) | (repeat (first | exact F0 _ | apply F1))) (by rfl) agg22 (Wt.none rfl) rfl ?_ | refine RunL.load1R rfl (by assumption) (by rfl) agg22 (Wt.none rfl) rfl ?_
      refine RunL.mv rfl rfl ?_
      refine RunL.pure (Pure.indexAddr (opvSl rfl hpp) rfl und22 sz9 (by omega) (by omega)) (Wt.none rfl) rfl rfl ?_
      refine RunL.load1R rfl hrop (elem1_at hq) agg9 (Wt.none rfl) rfl ?_
      refine RunL.call rfl rfl (by rfl) (by repeat (first | (with_reducible exact Take.nil _) | (apply Take.cons (by first | ((repeat (first | (with_reducible exact F0 _) | apply F1)); done) | (repeat (first | exact F0 _ | apply F1)))))) (FewC_ctr (s := q) (m := 30) (by decide) (by decide)) (Wt.none rfl) rfl ?_
      rintro _ _ ⟨rfl, hA_⟩
      replace hA_ := hA_.symm; subst hA_
      refine RunL.lit (vals := [_]) (vs := [_]) und22 sz9 zz9 rfl rfl rfl rfl rfl rfl (by simp [Value.cells, bv, cDD, cEvn, cGG, cNde, cPos]) rfl (Wt.none rfl) rfl ?_; intro b39
      refine RunL.append (m := 1) (n' := (i + 1)) (cs' := ((ps.take (i + 1)).map fun p => cut p 30).map Value.string) rfl rfl (by first | ((repeat (first | (with_reducible exact F0 _) | apply F1)); done) | (repeat (first | exact F0 _ | apply F1))) rfl rfl und22 und22 rfl sz9 zz9 rfl by9 (by omega) (by omega) (fun w sw => sw.src) (by simp [Value.isOne]) rfl (by rw [List.take_add_one, hq, List.map_append, List.map_append]; rfl) (Wt.none rfl) rfl ?_; intro a4 c4
      refine RunL.as rfl rfl ?_
      refine RunL.nil ?_
      refine Run.inBlock ?_
      refine Run.region ?_
      refine RunL.mv rfl rfl ?_
      first | refine RunL.pure (Pure.addI rfl rfl (by omega)) (Wt.none rfl) rfl rfl ?_ | refine RunL.pure (Pure.add rfl rfl) (Wt.none rfl) rfl rfl ?_
      refine RunL.as rfl rfl ?_
      refine RunL.nil ?_
      refine Run.keep (.cons rfl (.cons rfl (.cons rfl (.cons rfl (.nil)))) : Keep _ [1, 2, 3, 4] _) ?_
      refine Run.againF (F := F) ih (by exact ⟨i + 1, a4, c4, by omega, by omega, rfl, rfl, rfl⟩) (by repeat (first | (with_reducible exact Fin.done (by repeat (first | (with_reducible exact Rest.here) | apply Rest.there))) | (apply Fin.cons (by first | ((repeat (first | (with_reducible exact F0 _) | apply F1)); done) | (repeat (first | exact F0 _ | apply F1)))))) ?_
      omega
    · try simp only [ZA, ZB, ZC, ZD, ZE, ZF, ZG, ZH, ZI, ZJ, ZK, ZL, ZM, ZN, ZO, ZP, ZQ, ZR] at h2
      refine Run.exit rfl ?_
      refine Run.sr ?_
      refine RunL.mv rfl rfl ?_
      refine RunL.pure (Pure.fieldAddr rfl fo24_2) (Wt.none rfl) rfl rfl ?_
      refine RunL.store1A (cs' := (cEvn ((⟨cut e.id 30, cut e.room 30, ⟨a3, i, c3⟩, cut e.thread 30, cut e.user 30, e.does⟩ : Evn)))) rfl rfl (by first | ((repeat (first | (with_reducible exact F0 _) | apply F1)); done) | (repeat (first | exact F0 _ | apply F1))) sz22 (by rfl) (by first | exact Nat.le_of_ble_eq_true rfl | (simp; done) | (simp; omega)) rfl (Wt.none rfl) ?_
      refine RunL.nil ?_
      refine Run.sr ?_
      first | refine RunL.loadA (vs := (cEvn ((⟨cut e.id 30, cut e.room 30, ⟨a3, i, c3⟩, cut e.thread 30, cut e.user 30, e.does⟩ : Evn)))) rfl (by first | ((repeat (first | (with_reducible exact F0 _) | apply F1)); done) | (repeat (first | exact F0 _ | apply F1))) agg24 sz24 (by first | exact Nat.le_of_ble_eq_true rfl | (simp; done) | (simp; omega)) rfl (Wt.none rfl) rfl ?_ | refine RunL.loadNR (vs := (cEvn ((⟨cut e.id 30, cut e.room 30, ⟨a3, i, c3⟩, cut e.thread 30, cut e.user 30, e.does⟩ : Evn)))) rfl (by assumption) agg24 sz24 (by first | exact Nat.le_of_ble_eq_true rfl | (simp; done) | (simp; omega)) rfl (Wt.none rfl) rfl ?_
      refine RunL.storeW (xs := (cEvn ((⟨cut e.id 30, cut e.room 30, ⟨a3, i, c3⟩, cut e.thread 30, cut e.user 30, e.does⟩ : Evn)))) rfl rfl (by first | ((repeat (first | (with_reducible exact F0 _) | apply F1)); done) | (repeat (first | exact F0 _ | apply F1))) sz24 (by rfl) (by rfl) (by rfl) (Wt.none rfl) ?_
      refine RunL.nil ?_
      have hfe : ((ps.take i).map fun p => cut p 30) = fewPs ps := by unfold fewPs; rw [show i = 6 from by omega]
      have hil : i = (fewPs ps).length := by rw [← hfe, List.length_map, List.length_take]; omega
      rw [hfe]
      subst hil
      exact Run.ret Try.func10 (resV1 rfl (Rv.cellN (us := (cEvn ((⟨cut e.id 30, cut e.room 30, ⟨a3, (fewPs ps).length, c3⟩, cut e.thread 30, cut e.user 30, e.does⟩ : Evn)))) rfl (by first | ((repeat (first | (with_reducible exact F0 _) | apply F1)); done) | (repeat (first | exact F0 _ | apply F1))) agg24 sz24 (by first | exact Nat.le_of_ble_eq_true rfl | (simp; done) | (simp; omega)) rfl)) (by exact ⟨a3, c3, rfl, rfl⟩) (by repeat (first | (with_reducible exact Fin.done (by repeat (first | (with_reducible exact Rest.here) | apply Rest.there))) | (apply Fin.cons (by first | ((repeat (first | (with_reducible exact F0 _) | apply F1)); done) | (repeat (first | exact F0 _ | apply F1))))))
  · try simp only [ZA, ZB, ZC, ZD, ZE, ZF, ZG, ZH, ZI, ZJ, ZK, ZL, ZM, ZN, ZO, ZP, ZQ, ZR] at h1
    refine RunL.not (Wt.no rfl rfl rfl) rfl rfl ?_
    refine RunL.not (Wt.no rfl rfl rfl) rfl rfl ?_
    refine RunL.pure (Pure.pickF rfl rfl) (Wt.none rfl) rfl rfl ?_
    refine RunL.nil ?_
    refine Run.condF rfl ?_
    refine Run.exit rfl ?_
    refine Run.sr ?_
    refine RunL.mv rfl rfl ?_
    refine RunL.pure (Pure.fieldAddr rfl fo24_2) (Wt.none rfl) rfl rfl ?_
    refine RunL.store1A (cs' := (cEvn ((⟨cut e.id 30, cut e.room 30, ⟨a3, i, c3⟩, cut e.thread 30, cut e.user 30, e.does⟩ : Evn)))) rfl rfl (by first | ((repeat (first | (with_reducible exact F0 _) | apply F1)); done) | (repeat (first | exact F0 _ | apply F1))) sz22 (by rfl) (by first | exact Nat.le_of_ble_eq_true rfl | (simp; done) | (simp; omega)) rfl (Wt.none rfl) ?_
    refine RunL.nil ?_
    refine Run.sr ?_
    first | refine RunL.loadA (vs := (cEvn ((⟨cut e.id 30, cut e.room 30, ⟨a3, i, c3⟩, cut e.thread 30, cut e.user 30, e.does⟩ : Evn)))) rfl (by first | ((repeat (first | (with_reducible exact F0 _) | apply F1)); done) | (repeat (first | exact F0 _ | apply F1))) agg24 sz24 (by first | exact Nat.le_of_ble_eq_true rfl | (simp; done) | (simp; omega)) rfl (Wt.none rfl) rfl ?_ | refine RunL.loadNR (vs := (cEvn ((⟨cut e.id 30, cut e.room 30, ⟨a3, i, c3⟩, cut e.thread 30, cut e.user 30, e.does⟩ : Evn)))) rfl (by assumption) agg24 sz24 (by first | exact Nat.le_of_ble_eq_true rfl | (simp; done) | (simp; omega)) rfl (Wt.none rfl) rfl ?_
    refine RunL.storeW (xs := (cEvn ((⟨cut e.id 30, cut e.room 30, ⟨a3, i, c3⟩, cut e.thread 30, cut e.user 30, e.does⟩ : Evn)))) rfl rfl (by first | ((repeat (first | (with_reducible exact F0 _) | apply F1)); done) | (repeat (first | exact F0 _ | apply F1))) sz24 (by rfl) (by rfl) (by rfl) (Wt.none rfl) ?_
    refine RunL.nil ?_
    have hfe : ((ps.take i).map fun p => cut p 30) = fewPs ps := by unfold fewPs; rw [List.take_of_length_le (by omega), List.take_of_length_le (by omega)]
    have hil : i = (fewPs ps).length := by rw [← hfe, List.length_map, List.length_take]; omega
    rw [hfe]
    subst hil
    exact Run.ret Try.func10 (resV1 rfl (Rv.cellN (us := (cEvn ((⟨cut e.id 30, cut e.room 30, ⟨a3, (fewPs ps).length, c3⟩, cut e.thread 30, cut e.user 30, e.does⟩ : Evn)))) rfl (by first | ((repeat (first | (with_reducible exact F0 _) | apply F1)); done) | (repeat (first | exact F0 _ | apply F1))) agg24 sz24 (by first | exact Nat.le_of_ble_eq_true rfl | (simp; done) | (simp; omega)) rfl)) (by exact ⟨a3, c3, rfl, rfl⟩) (by repeat (first | (with_reducible exact Fin.done (by repeat (first | (with_reducible exact Rest.here) | apply Rest.there))) | (apply Fin.cons (by first | ((repeat (first | (with_reducible exact F0 _) | apply F1)); done) | (repeat (first | exact F0 _ | apply F1))))))

set_option maxHeartbeats 8000000 in
set_option maxRecDepth 100000 in
theorem rdOddK_ctr {G : Gp} {K : Hp} {D : DD} {room : ByteArray} {l : EL} {k w : Int} {e : Evn} {ps : List ByteArray} (hd : HasD (gk K) D room l) (hp : HasPs G e ps) (hkw : -9223372036854775808 ≤ k ∧ k ≤ 9223372036854775807) (hw8 : -9223372036854775808 ≤ w ∧ w ≤ 9223372036854775807) (hdo : -9223372036854775808 ≤ e.does ∧ e.does ≤ 9223372036854775807) :
    Ctr Try.prog G 11 [.agg (cDD D).toArray, .int .i64 k, .int .i64 w, .agg (cEvn e).toArray] [Pool K] (fun F v A => ∃ K' s, Hp.le K K' ∧ HasPs (gk K') (Evt.evn (oddEv room l k w (e.ev ps)) s) (oddEv room l k w (e.ev ps)).ps ∧ v = .agg (cEvn (Evt.evn (oddEv room l k w (e.ev ps)) s)).toArray ∧ A = Pool K' :: F) := by
  refine Ctr.intro Try.func11 rfl (by kernel_rfl) rfl (fun F => ?_)
  simp only [List.cons_append, List.nil_append]
  refine Run.sr ?_
  refine RunL.boxA (xs := (cDD D)) rfl (Wt.none rfl) rfl ?_; intro b4
  refine RunL.boxA (xs := (cEvn e)) rfl (Wt.none rfl) rfl ?_; intro b7
  refine RunL.alloc zz24 (Wt.none rfl) rfl ?_; intro b8
  refine RunL.nil ?_
  refine Run.lendAll (Q := row b4 30 _) Lends.row (by first | ((repeat (first | (with_reducible exact F0 _) | apply F1)); done) | (repeat (first | exact F0 _ | apply F1))) (fun G4 hleG4 hrb4 => ?_)
  replace hp := hp.mono hleG4
  refine Run.sr ?_
  refine RunL.pure (Pure.fieldAddr rfl fo30_0) (Wt.none rfl) rfl rfl ?_
  first | refine RunL.load1 rfl (by first | ((repeat (first | (with_reducible exact F0 _) | apply F1)); done) | (repeat (first | exact F0 _ | apply F1))) (by rfl) agg9 (Wt.none rfl) rfl ?_ | refine RunL.load1R rfl (by assumption) (by rfl) agg9 (Wt.none rfl) rfl ?_
  refine RunL.pure (Pure.buildL (ps := [(0, _), (1, _), (4, _)]) (zs := [(.string .empty), (.string .empty), (.slice none 0 0), (.string .empty), (.string .empty), (.int .i64 0)]) (xs := (cEvn ((Evt.evn (base0 D.room) ⟨none, 0, 0⟩)))) pl24 rfl rfl rfl rfl) (Wt.none rfl) rfl rfl ?_
  refine RunL.alloc zz24 (Wt.none rfl) rfl ?_; intro b9
  refine RunL.storeW (xs := (cEvn ((Evt.evn (base0 D.room) ⟨none, 0, 0⟩)))) rfl rfl (by first | ((repeat (first | (with_reducible exact F0 _) | apply F1)); done) | (repeat (first | exact F0 _ | apply F1))) sz24 (by rfl) (by rfl) (by rfl) (Wt.none rfl) ?_
  refine RunL.nil ?_
  refine Run.seq ?_
  refine Run.cut (fun e_ A => ∃ s : Sli, HasPs (gk K) (Evt.evn (oddBase room l k) s) (oddBase room l k).ps ∧ e_ = [(2, .int .i64 w), (7, .pointer (some ⟨b7, 0, none⟩)), (8, .pointer (some ⟨b8, 0, none⟩)), (9, .pointer (some ⟨b9, 0, none⟩))] ∧ A = row b9 24 (cEvn (Evt.evn (oddBase room l k) s)) :: row b7 24 (cEvn e) :: row b8 24 (cEvn (⟨.empty, .empty, ⟨none, 0, 0⟩, .empty, .empty, 0⟩ : Evn)) :: Pool K :: F) (fun e A hM => ?_) (fun hk => ?_)
  · obtain ⟨s, hbs, rfl, hA_⟩ := hM
    replace hA_ := hA_.symm; subst hA_
    refine Run.sr ?_
    first | refine RunL.loadA (vs := (cEvn e)) rfl (by first | ((repeat (first | (with_reducible exact F0 _) | apply F1)); done) | (repeat (first | exact F0 _ | apply F1))) agg24 sz24 (by first | exact Nat.le_of_ble_eq_true rfl | (simp; done) | (simp; omega)) rfl (Wt.none rfl) rfl ?_ | refine RunL.loadNR (vs := (cEvn e)) rfl (by assumption) agg24 sz24 (by first | exact Nat.le_of_ble_eq_true rfl | (simp; done) | (simp; omega)) rfl (Wt.none rfl) rfl ?_
    refine RunL.call rfl rfl (by rfl) (by repeat (first | (with_reducible exact Take.nil _) | (apply Take.cons (by first | ((repeat (first | (with_reducible exact F0 _) | apply F1)); done) | (repeat (first | exact F0 _ | apply F1)))))) (rdFew_ctr hp) (Wt.none rfl) rfl ?_
    rintro _ _ ⟨a1, c1, rfl, hA_⟩
    replace hA_ := hA_.symm; subst hA_
    refine RunL.storeW (xs := (cEvn ((Evt.evn (fewEv (e.ev ps)) ⟨a1, (fewPs ps).length, c1⟩)))) rfl rfl (by first | ((repeat (first | (with_reducible exact F0 _) | apply F1)); done) | (repeat (first | exact F0 _ | apply F1))) sz24 (by rfl) (by rfl) (by rfl) (Wt.none rfl) ?_
    refine RunL.nil ?_
    refine Run.poolSl (T := 9) (sz := 1) (a := a1) (by repeat (first | (with_reducible exact Take.nil _) | (apply Take.cons (by first | ((repeat (first | (with_reducible exact F0 _) | apply F1)); done) | (repeat (first | exact F0 _ | apply F1)))))) ?_; intro K1 hK1 hfs
    replace hbs := HasPs.hp (G' := gk K1) hbs hK1
    refine Run.seq ?_
    refine Run.sr ?_
    refine RunL.mv rfl rfl ?_
    refine RunL.call rfl rfl (by rfl) (by repeat (first | (with_reducible exact Take.nil _) | (apply Take.cons (by first | ((repeat (first | (with_reducible exact F0 _) | apply F1)); done) | (repeat (first | exact F0 _ | apply F1)))))) (Around_ctr (z := w) (m := 8) hw8 (by decide)) (Wt.none rfl) rfl ?_
    rintro _ _ ⟨rfl, hA_⟩
    replace hA_ := hA_.symm; subst hA_
    refine RunL.nil ?_
    refine Run.block ?_
    refine Run.sr ?_
    refine RunL.pure (Pure.eql rfl rfl) (Wt.none rfl) rfl rfl ?_
    refine RunL.as rfl rfl ?_
    refine RunL.nil ?_
    refine Run.cond rfl (fun q0 => ?_) (fun q0 => ?_)
    · try simp only [ZA, ZB, ZC, ZD, ZE, ZF, ZG, ZH, ZI, ZJ, ZK, ZL, ZM, ZN, ZO, ZP, ZQ, ZR] at q0
      refine Run.region ?_
      refine RunL.pure (Pure.fieldAddr rfl fo24_0) (Wt.none rfl) rfl rfl ?_
      first | refine RunL.load1 rfl (by first | ((repeat (first | (with_reducible exact F0 _) | apply F1)); done) | (repeat (first | exact F0 _ | apply F1))) (by rfl) agg9 (Wt.none rfl) rfl ?_ | refine RunL.load1R rfl (by assumption) (by rfl) agg9 (Wt.none rfl) rfl ?_
      refine RunL.pure (Pure.fieldAddr rfl fo24_0) (Wt.none rfl) rfl rfl ?_
      refine RunL.store1A (cs' := (cEvn ({ (Evt.evn (oddBase room l k) s) with id := (fewEv (e.ev ps)).id }))) rfl rfl (by first | ((repeat (first | (with_reducible exact F0 _) | apply F1)); done) | (repeat (first | exact F0 _ | apply F1))) sz9 (by rfl) (by first | exact Nat.le_of_ble_eq_true rfl | (simp; done) | (simp; omega)) rfl (Wt.none rfl) ?_
      refine RunL.nil ?_
      refine Run.inBlock ?_
      refine Run.sr ?_
      first | refine RunL.loadA (vs := (cEvn ({ (Evt.evn (oddBase room l k) s) with id := (fewEv (e.ev ps)).id }))) rfl (by first | ((repeat (first | (with_reducible exact F0 _) | apply F1)); done) | (repeat (first | exact F0 _ | apply F1))) agg24 sz24 (by first | exact Nat.le_of_ble_eq_true rfl | (simp; done) | (simp; omega)) rfl (Wt.none rfl) rfl ?_ | refine RunL.loadNR (vs := (cEvn ({ (Evt.evn (oddBase room l k) s) with id := (fewEv (e.ev ps)).id }))) rfl (by assumption) agg24 sz24 (by first | exact Nat.le_of_ble_eq_true rfl | (simp; done) | (simp; omega)) rfl (Wt.none rfl) rfl ?_
      refine RunL.storeW (xs := (cEvn ({ (Evt.evn (oddBase room l k) s) with id := (fewEv (e.ev ps)).id }))) rfl rfl (by first | ((repeat (first | (with_reducible exact F0 _) | apply F1)); done) | (repeat (first | exact F0 _ | apply F1))) sz24 (by rfl) (by rfl) (by rfl) (Wt.none rfl) ?_
      refine RunL.nil ?_
      have ho : (oddEv room l k w (e.ev ps)) = { (oddBase room l k) with id := (fewEv (e.ev ps)).id } := by unfold oddEv; simp only; rw [if_pos q0]
      exact Run.ret Try.func11 (resV1 rfl (Rv.cellN (us := (cEvn ({ (Evt.evn (oddBase room l k) s) with id := (fewEv (e.ev ps)).id }))) rfl (by first | ((repeat (first | (with_reducible exact F0 _) | apply F1)); done) | (repeat (first | exact F0 _ | apply F1))) agg24 sz24 (by first | exact Nat.le_of_ble_eq_true rfl | (simp; done) | (simp; omega)) rfl)) (by exact ⟨K1, s, hK1, by rw [ho]; exact hbs, by rw [ho]; rfl, rfl⟩) (by repeat (first | (with_reducible exact Fin.done (by repeat (first | (with_reducible exact Rest.here) | apply Rest.there))) | (apply Fin.cons (by first | ((repeat (first | (with_reducible exact F0 _) | apply F1)); done) | (repeat (first | exact F0 _ | apply F1))))))
    · try simp only [ZA, ZB, ZC, ZD, ZE, ZF, ZG, ZH, ZI, ZJ, ZK, ZL, ZM, ZN, ZO, ZP, ZQ, ZR] at q0
      refine Run.sr ?_
      refine RunL.pure (Pure.eql rfl rfl) (Wt.none rfl) rfl rfl ?_
      refine RunL.as rfl rfl ?_
      refine RunL.nil ?_
      refine Run.cond rfl (fun q1 => ?_) (fun q1 => ?_)
      · try simp only [ZA, ZB, ZC, ZD, ZE, ZF, ZG, ZH, ZI, ZJ, ZK, ZL, ZM, ZN, ZO, ZP, ZQ, ZR] at q1
        refine Run.region ?_
        refine RunL.pure (Pure.fieldAddr rfl fo24_1) (Wt.none rfl) rfl rfl ?_
        first | refine RunL.load1 rfl (by first | ((repeat (first | (with_reducible exact F0 _) | apply F1)); done) | (repeat (first | exact F0 _ | apply F1))) (by rfl) agg9 (Wt.none rfl) rfl ?_ | refine RunL.load1R rfl (by assumption) (by rfl) agg9 (Wt.none rfl) rfl ?_
        refine RunL.pure (Pure.fieldAddr rfl fo24_1) (Wt.none rfl) rfl rfl ?_
        refine RunL.store1A (cs' := (cEvn ({ (Evt.evn (oddBase room l k) s) with room := (fewEv (e.ev ps)).room }))) rfl rfl (by first | ((repeat (first | (with_reducible exact F0 _) | apply F1)); done) | (repeat (first | exact F0 _ | apply F1))) sz9 (by rfl) (by first | exact Nat.le_of_ble_eq_true rfl | (simp; done) | (simp; omega)) rfl (Wt.none rfl) ?_
        refine RunL.nil ?_
        refine Run.inBlock ?_
        refine Run.sr ?_
        first | refine RunL.loadA (vs := (cEvn ({ (Evt.evn (oddBase room l k) s) with room := (fewEv (e.ev ps)).room }))) rfl (by first | ((repeat (first | (with_reducible exact F0 _) | apply F1)); done) | (repeat (first | exact F0 _ | apply F1))) agg24 sz24 (by first | exact Nat.le_of_ble_eq_true rfl | (simp; done) | (simp; omega)) rfl (Wt.none rfl) rfl ?_ | refine RunL.loadNR (vs := (cEvn ({ (Evt.evn (oddBase room l k) s) with room := (fewEv (e.ev ps)).room }))) rfl (by assumption) agg24 sz24 (by first | exact Nat.le_of_ble_eq_true rfl | (simp; done) | (simp; omega)) rfl (Wt.none rfl) rfl ?_
        refine RunL.storeW (xs := (cEvn ({ (Evt.evn (oddBase room l k) s) with room := (fewEv (e.ev ps)).room }))) rfl rfl (by first | ((repeat (first | (with_reducible exact F0 _) | apply F1)); done) | (repeat (first | exact F0 _ | apply F1))) sz24 (by rfl) (by rfl) (by rfl) (Wt.none rfl) ?_
        refine RunL.nil ?_
        have ho : (oddEv room l k w (e.ev ps)) = { (oddBase room l k) with room := (fewEv (e.ev ps)).room } := by unfold oddEv; simp only; rw [if_neg q0, if_pos q1]
        exact Run.ret Try.func11 (resV1 rfl (Rv.cellN (us := (cEvn ({ (Evt.evn (oddBase room l k) s) with room := (fewEv (e.ev ps)).room }))) rfl (by first | ((repeat (first | (with_reducible exact F0 _) | apply F1)); done) | (repeat (first | exact F0 _ | apply F1))) agg24 sz24 (by first | exact Nat.le_of_ble_eq_true rfl | (simp; done) | (simp; omega)) rfl)) (by exact ⟨K1, s, hK1, by rw [ho]; exact hbs, by rw [ho]; rfl, rfl⟩) (by repeat (first | (with_reducible exact Fin.done (by repeat (first | (with_reducible exact Rest.here) | apply Rest.there))) | (apply Fin.cons (by first | ((repeat (first | (with_reducible exact F0 _) | apply F1)); done) | (repeat (first | exact F0 _ | apply F1))))))
      · try simp only [ZA, ZB, ZC, ZD, ZE, ZF, ZG, ZH, ZI, ZJ, ZK, ZL, ZM, ZN, ZO, ZP, ZQ, ZR] at q1
        refine Run.sr ?_
        refine RunL.pure (Pure.eql rfl rfl) (Wt.none rfl) rfl rfl ?_
        refine RunL.as rfl rfl ?_
        refine RunL.nil ?_
        refine Run.cond rfl (fun q2 => ?_) (fun q2 => ?_)
        · try simp only [ZA, ZB, ZC, ZD, ZE, ZF, ZG, ZH, ZI, ZJ, ZK, ZL, ZM, ZN, ZO, ZP, ZQ, ZR] at q2
          refine Run.region ?_
          refine RunL.pure (Pure.fieldAddr rfl fo24_4) (Wt.none rfl) rfl rfl ?_
          first | refine RunL.load1 rfl (by first | ((repeat (first | (with_reducible exact F0 _) | apply F1)); done) | (repeat (first | exact F0 _ | apply F1))) (by rfl) agg9 (Wt.none rfl) rfl ?_ | refine RunL.load1R rfl (by assumption) (by rfl) agg9 (Wt.none rfl) rfl ?_
          refine RunL.pure (Pure.fieldAddr rfl fo24_4) (Wt.none rfl) rfl rfl ?_
          refine RunL.store1A (cs' := (cEvn ({ (Evt.evn (oddBase room l k) s) with user := (fewEv (e.ev ps)).user }))) rfl rfl (by first | ((repeat (first | (with_reducible exact F0 _) | apply F1)); done) | (repeat (first | exact F0 _ | apply F1))) sz9 (by rfl) (by first | exact Nat.le_of_ble_eq_true rfl | (simp; done) | (simp; omega)) rfl (Wt.none rfl) ?_
          refine RunL.nil ?_
          refine Run.inBlock ?_
          refine Run.sr ?_
          first | refine RunL.loadA (vs := (cEvn ({ (Evt.evn (oddBase room l k) s) with user := (fewEv (e.ev ps)).user }))) rfl (by first | ((repeat (first | (with_reducible exact F0 _) | apply F1)); done) | (repeat (first | exact F0 _ | apply F1))) agg24 sz24 (by first | exact Nat.le_of_ble_eq_true rfl | (simp; done) | (simp; omega)) rfl (Wt.none rfl) rfl ?_ | refine RunL.loadNR (vs := (cEvn ({ (Evt.evn (oddBase room l k) s) with user := (fewEv (e.ev ps)).user }))) rfl (by assumption) agg24 sz24 (by first | exact Nat.le_of_ble_eq_true rfl | (simp; done) | (simp; omega)) rfl (Wt.none rfl) rfl ?_
          refine RunL.storeW (xs := (cEvn ({ (Evt.evn (oddBase room l k) s) with user := (fewEv (e.ev ps)).user }))) rfl rfl (by first | ((repeat (first | (with_reducible exact F0 _) | apply F1)); done) | (repeat (first | exact F0 _ | apply F1))) sz24 (by rfl) (by rfl) (by rfl) (Wt.none rfl) ?_
          refine RunL.nil ?_
          have ho : (oddEv room l k w (e.ev ps)) = { (oddBase room l k) with user := (fewEv (e.ev ps)).user } := by unfold oddEv; simp only; rw [if_neg q0, if_neg q1, if_pos q2]
          exact Run.ret Try.func11 (resV1 rfl (Rv.cellN (us := (cEvn ({ (Evt.evn (oddBase room l k) s) with user := (fewEv (e.ev ps)).user }))) rfl (by first | ((repeat (first | (with_reducible exact F0 _) | apply F1)); done) | (repeat (first | exact F0 _ | apply F1))) agg24 sz24 (by first | exact Nat.le_of_ble_eq_true rfl | (simp; done) | (simp; omega)) rfl)) (by exact ⟨K1, s, hK1, by rw [ho]; exact hbs, by rw [ho]; rfl, rfl⟩) (by repeat (first | (with_reducible exact Fin.done (by repeat (first | (with_reducible exact Rest.here) | apply Rest.there))) | (apply Fin.cons (by first | ((repeat (first | (with_reducible exact F0 _) | apply F1)); done) | (repeat (first | exact F0 _ | apply F1))))))
        · try simp only [ZA, ZB, ZC, ZD, ZE, ZF, ZG, ZH, ZI, ZJ, ZK, ZL, ZM, ZN, ZO, ZP, ZQ, ZR] at q2
          refine Run.sr ?_
          refine RunL.pure (Pure.eql rfl rfl) (Wt.none rfl) rfl rfl ?_
          refine RunL.as rfl rfl ?_
          refine RunL.nil ?_
          refine Run.cond rfl (fun q3 => ?_) (fun q3 => ?_)
          · try simp only [ZA, ZB, ZC, ZD, ZE, ZF, ZG, ZH, ZI, ZJ, ZK, ZL, ZM, ZN, ZO, ZP, ZQ, ZR] at q3
            refine Run.region ?_
            refine RunL.pure (Pure.fieldAddr rfl fo24_3) (Wt.none rfl) rfl rfl ?_
            first | refine RunL.load1 rfl (by first | ((repeat (first | (with_reducible exact F0 _) | apply F1)); done) | (repeat (first | exact F0 _ | apply F1))) (by rfl) agg9 (Wt.none rfl) rfl ?_ | refine RunL.load1R rfl (by assumption) (by rfl) agg9 (Wt.none rfl) rfl ?_
            refine RunL.pure (Pure.fieldAddr rfl fo24_3) (Wt.none rfl) rfl rfl ?_
            refine RunL.store1A (cs' := (cEvn ({ (Evt.evn (oddBase room l k) s) with thread := (fewEv (e.ev ps)).thread }))) rfl rfl (by first | ((repeat (first | (with_reducible exact F0 _) | apply F1)); done) | (repeat (first | exact F0 _ | apply F1))) sz9 (by rfl) (by first | exact Nat.le_of_ble_eq_true rfl | (simp; done) | (simp; omega)) rfl (Wt.none rfl) ?_
            refine RunL.nil ?_
            refine Run.inBlock ?_
            refine Run.sr ?_
            first | refine RunL.loadA (vs := (cEvn ({ (Evt.evn (oddBase room l k) s) with thread := (fewEv (e.ev ps)).thread }))) rfl (by first | ((repeat (first | (with_reducible exact F0 _) | apply F1)); done) | (repeat (first | exact F0 _ | apply F1))) agg24 sz24 (by first | exact Nat.le_of_ble_eq_true rfl | (simp; done) | (simp; omega)) rfl (Wt.none rfl) rfl ?_ | refine RunL.loadNR (vs := (cEvn ({ (Evt.evn (oddBase room l k) s) with thread := (fewEv (e.ev ps)).thread }))) rfl (by assumption) agg24 sz24 (by first | exact Nat.le_of_ble_eq_true rfl | (simp; done) | (simp; omega)) rfl (Wt.none rfl) rfl ?_
            refine RunL.storeW (xs := (cEvn ({ (Evt.evn (oddBase room l k) s) with thread := (fewEv (e.ev ps)).thread }))) rfl rfl (by first | ((repeat (first | (with_reducible exact F0 _) | apply F1)); done) | (repeat (first | exact F0 _ | apply F1))) sz24 (by rfl) (by rfl) (by rfl) (Wt.none rfl) ?_
            refine RunL.nil ?_
            have ho : (oddEv room l k w (e.ev ps)) = { (oddBase room l k) with thread := (fewEv (e.ev ps)).thread } := by unfold oddEv; simp only; rw [if_neg q0, if_neg q1, if_neg q2, if_pos q3]
            exact Run.ret Try.func11 (resV1 rfl (Rv.cellN (us := (cEvn ({ (Evt.evn (oddBase room l k) s) with thread := (fewEv (e.ev ps)).thread }))) rfl (by first | ((repeat (first | (with_reducible exact F0 _) | apply F1)); done) | (repeat (first | exact F0 _ | apply F1))) agg24 sz24 (by first | exact Nat.le_of_ble_eq_true rfl | (simp; done) | (simp; omega)) rfl)) (by exact ⟨K1, s, hK1, by rw [ho]; exact hbs, by rw [ho]; rfl, rfl⟩) (by repeat (first | (with_reducible exact Fin.done (by repeat (first | (with_reducible exact Rest.here) | apply Rest.there))) | (apply Fin.cons (by first | ((repeat (first | (with_reducible exact F0 _) | apply F1)); done) | (repeat (first | exact F0 _ | apply F1))))))
          · try simp only [ZA, ZB, ZC, ZD, ZE, ZF, ZG, ZH, ZI, ZJ, ZK, ZL, ZM, ZN, ZO, ZP, ZQ, ZR] at q3
            refine Run.sr ?_
            refine RunL.pure (Pure.eql rfl rfl) (Wt.none rfl) rfl rfl ?_
            refine RunL.as rfl rfl ?_
            refine RunL.nil ?_
            refine Run.cond rfl (fun q4 => ?_) (fun q4 => ?_)
            · try simp only [ZA, ZB, ZC, ZD, ZE, ZF, ZG, ZH, ZI, ZJ, ZK, ZL, ZM, ZN, ZO, ZP, ZQ, ZR] at q4
              refine Run.region ?_
              refine RunL.pure (Pure.fieldAddr rfl fo24_5) (Wt.none rfl) rfl rfl ?_
              first | refine RunL.load1 rfl (by first | ((repeat (first | (with_reducible exact F0 _) | apply F1)); done) | (repeat (first | exact F0 _ | apply F1))) (by rfl) agg3 (Wt.none rfl) rfl ?_ | refine RunL.load1R rfl (by assumption) (by rfl) agg3 (Wt.none rfl) rfl ?_
              refine RunL.pure (Pure.fieldAddr rfl fo24_5) (Wt.none rfl) rfl rfl ?_
              refine RunL.store1A (cs' := (cEvn ({ (Evt.evn (oddBase room l k) s) with does := (fewEv (e.ev ps)).does }))) rfl rfl (by first | ((repeat (first | (with_reducible exact F0 _) | apply F1)); done) | (repeat (first | exact F0 _ | apply F1))) sz3 (by rfl) (by first | exact Nat.le_of_ble_eq_true rfl | (simp; done) | (simp; omega)) rfl (Wt.none rfl) ?_
              refine RunL.nil ?_
              refine Run.inBlock ?_
              refine Run.sr ?_
              first | refine RunL.loadA (vs := (cEvn ({ (Evt.evn (oddBase room l k) s) with does := (fewEv (e.ev ps)).does }))) rfl (by first | ((repeat (first | (with_reducible exact F0 _) | apply F1)); done) | (repeat (first | exact F0 _ | apply F1))) agg24 sz24 (by first | exact Nat.le_of_ble_eq_true rfl | (simp; done) | (simp; omega)) rfl (Wt.none rfl) rfl ?_ | refine RunL.loadNR (vs := (cEvn ({ (Evt.evn (oddBase room l k) s) with does := (fewEv (e.ev ps)).does }))) rfl (by assumption) agg24 sz24 (by first | exact Nat.le_of_ble_eq_true rfl | (simp; done) | (simp; omega)) rfl (Wt.none rfl) rfl ?_
              refine RunL.storeW (xs := (cEvn ({ (Evt.evn (oddBase room l k) s) with does := (fewEv (e.ev ps)).does }))) rfl rfl (by first | ((repeat (first | (with_reducible exact F0 _) | apply F1)); done) | (repeat (first | exact F0 _ | apply F1))) sz24 (by rfl) (by rfl) (by rfl) (Wt.none rfl) ?_
              refine RunL.nil ?_
              have ho : (oddEv room l k w (e.ev ps)) = { (oddBase room l k) with does := (fewEv (e.ev ps)).does } := by unfold oddEv; simp only; rw [if_neg q0, if_neg q1, if_neg q2, if_neg q3, if_pos q4]
              exact Run.ret Try.func11 (resV1 rfl (Rv.cellN (us := (cEvn ({ (Evt.evn (oddBase room l k) s) with does := (fewEv (e.ev ps)).does }))) rfl (by first | ((repeat (first | (with_reducible exact F0 _) | apply F1)); done) | (repeat (first | exact F0 _ | apply F1))) agg24 sz24 (by first | exact Nat.le_of_ble_eq_true rfl | (simp; done) | (simp; omega)) rfl)) (by exact ⟨K1, s, hK1, by rw [ho]; exact hbs, by rw [ho]; rfl, rfl⟩) (by repeat (first | (with_reducible exact Fin.done (by repeat (first | (with_reducible exact Rest.here) | apply Rest.there))) | (apply Fin.cons (by first | ((repeat (first | (with_reducible exact F0 _) | apply F1)); done) | (repeat (first | exact F0 _ | apply F1))))))
            · try simp only [ZA, ZB, ZC, ZD, ZE, ZF, ZG, ZH, ZI, ZJ, ZK, ZL, ZM, ZN, ZO, ZP, ZQ, ZR] at q4
              refine Run.sr ?_
              refine RunL.pure (Pure.eql rfl rfl) (Wt.none rfl) rfl rfl ?_
              refine RunL.as rfl rfl ?_
              refine RunL.nil ?_
              refine Run.cond rfl (fun q5 => ?_) (fun q5 => ?_)
              · try simp only [ZA, ZB, ZC, ZD, ZE, ZF, ZG, ZH, ZI, ZJ, ZK, ZL, ZM, ZN, ZO, ZP, ZQ, ZR] at q5
                refine Run.region ?_
                refine RunL.pure (Pure.fieldAddr rfl fo24_2) (Wt.none rfl) rfl rfl ?_
                first | refine RunL.load1 rfl (by first | ((repeat (first | (with_reducible exact F0 _) | apply F1)); done) | (repeat (first | exact F0 _ | apply F1))) (by rfl) agg22 (Wt.none rfl) rfl ?_ | refine RunL.load1R rfl (by assumption) (by rfl) agg22 (Wt.none rfl) rfl ?_
                refine RunL.pure (Pure.fieldAddr rfl fo24_2) (Wt.none rfl) rfl rfl ?_
                refine RunL.store1A (cs' := (cEvn ({ (Evt.evn (oddBase room l k) s) with par := ⟨a1, (fewPs ps).length, c1⟩ }))) rfl rfl (by first | ((repeat (first | (with_reducible exact F0 _) | apply F1)); done) | (repeat (first | exact F0 _ | apply F1))) sz22 (by rfl) (by first | exact Nat.le_of_ble_eq_true rfl | (simp; done) | (simp; omega)) rfl (Wt.none rfl) ?_
                refine RunL.nil ?_
                refine Run.inBlock ?_
                refine Run.sr ?_
                first | refine RunL.loadA (vs := (cEvn ({ (Evt.evn (oddBase room l k) s) with par := ⟨a1, (fewPs ps).length, c1⟩ }))) rfl (by first | ((repeat (first | (with_reducible exact F0 _) | apply F1)); done) | (repeat (first | exact F0 _ | apply F1))) agg24 sz24 (by first | exact Nat.le_of_ble_eq_true rfl | (simp; done) | (simp; omega)) rfl (Wt.none rfl) rfl ?_ | refine RunL.loadNR (vs := (cEvn ({ (Evt.evn (oddBase room l k) s) with par := ⟨a1, (fewPs ps).length, c1⟩ }))) rfl (by assumption) agg24 sz24 (by first | exact Nat.le_of_ble_eq_true rfl | (simp; done) | (simp; omega)) rfl (Wt.none rfl) rfl ?_
                refine RunL.storeW (xs := (cEvn ({ (Evt.evn (oddBase room l k) s) with par := ⟨a1, (fewPs ps).length, c1⟩ }))) rfl rfl (by first | ((repeat (first | (with_reducible exact F0 _) | apply F1)); done) | (repeat (first | exact F0 _ | apply F1))) sz24 (by rfl) (by rfl) (by rfl) (Wt.none rfl) ?_
                refine RunL.nil ?_
                have ho : (oddEv room l k w (e.ev ps)) = { (oddBase room l k) with ps := (fewEv (e.ev ps)).ps } := by unfold oddEv; simp only; rw [if_neg q0, if_neg q1, if_neg q2, if_neg q3, if_neg q4, if_pos q5]
                exact Run.ret Try.func11 (resV1 rfl (Rv.cellN (us := (cEvn ({ (Evt.evn (oddBase room l k) s) with par := ⟨a1, (fewPs ps).length, c1⟩ }))) rfl (by first | ((repeat (first | (with_reducible exact F0 _) | apply F1)); done) | (repeat (first | exact F0 _ | apply F1))) agg24 sz24 (by first | exact Nat.le_of_ble_eq_true rfl | (simp; done) | (simp; omega)) rfl)) (by exact ⟨K1, ⟨a1, (fewPs ps).length, c1⟩, hK1, by rw [ho]; exact ⟨rfl, hfs⟩, by rw [ho]; rfl, rfl⟩) (by repeat (first | (with_reducible exact Fin.done (by repeat (first | (with_reducible exact Rest.here) | apply Rest.there))) | (apply Fin.cons (by first | ((repeat (first | (with_reducible exact F0 _) | apply F1)); done) | (repeat (first | exact F0 _ | apply F1))))))
              · try simp only [ZA, ZB, ZC, ZD, ZE, ZF, ZG, ZH, ZI, ZJ, ZK, ZL, ZM, ZN, ZO, ZP, ZQ, ZR] at q5
                refine Run.sr ?_
                refine RunL.pure (Pure.eql rfl rfl) (Wt.none rfl) rfl rfl ?_
                refine RunL.as rfl rfl ?_
                refine RunL.nil ?_
                refine Run.cond rfl (fun q6 => ?_) (fun q6 => ?_)
                · try simp only [ZA, ZB, ZC, ZD, ZE, ZF, ZG, ZH, ZI, ZJ, ZK, ZL, ZM, ZN, ZO, ZP, ZQ, ZR] at q6
                  refine Run.sr ?_
                  refine RunL.pure (Pure.fieldAddr rfl fo24_0) (Wt.none rfl) rfl rfl ?_
                  refine RunL.store1A (cs' := (cEvn ({ (Evt.evn (oddBase room l k) s) with id := ⟨#[36, 121]⟩ }))) rfl rfl (by first | ((repeat (first | (with_reducible exact F0 _) | apply F1)); done) | (repeat (first | exact F0 _ | apply F1))) sz9 (by rfl) (by first | exact Nat.le_of_ble_eq_true rfl | (simp; done) | (simp; omega)) rfl (Wt.none rfl) ?_
                  refine RunL.nil ?_
                  refine Run.sr ?_
                  refine RunL.pure (Pure.fieldAddr rfl fo24_5) (Wt.none rfl) rfl rfl ?_
                  first | refine RunL.load1 rfl (by first | ((repeat (first | (with_reducible exact F0 _) | apply F1)); done) | (repeat (first | exact F0 _ | apply F1))) (by rfl) agg3 (Wt.none rfl) rfl ?_ | refine RunL.load1R rfl (by assumption) (by rfl) agg3 (Wt.none rfl) rfl ?_
                  refine RunL.call rfl rfl (by rfl) (by repeat (first | (with_reducible exact Take.nil _) | (apply Take.cons (by first | ((repeat (first | (with_reducible exact F0 _) | apply F1)); done) | (repeat (first | exact F0 _ | apply F1)))))) (EventOf_ctr (z := e.does) hdo) (Wt.none rfl) rfl ?_
                  rintro _ _ ⟨rfl, hA_⟩
                  replace hA_ := hA_.symm; subst hA_
                  refine RunL.pure (Pure.fieldAddr rfl fo24_3) (Wt.none rfl) rfl rfl ?_
                  refine RunL.store1A (cs' := (cEvn ({ (Evt.evn (oddBase room l k) s) with id := ⟨#[36, 121]⟩, thread := eventOf e.does }))) rfl rfl (by first | ((repeat (first | (with_reducible exact F0 _) | apply F1)); done) | (repeat (first | exact F0 _ | apply F1))) sz9 (by rfl) (by first | exact Nat.le_of_ble_eq_true rfl | (simp; done) | (simp; omega)) rfl (Wt.none rfl) ?_
                  refine RunL.nil ?_
                  refine Run.region ?_
                  refine RunL.pure (Pure.fieldAddr rfl fo24_5) (Wt.none rfl) rfl rfl ?_
                  refine RunL.store1A (cs' := (cEvn ({ (Evt.evn (oddBase room l k) s) with id := ⟨#[36, 121]⟩, thread := eventOf e.does, does := 0 }))) rfl rfl (by first | ((repeat (first | (with_reducible exact F0 _) | apply F1)); done) | (repeat (first | exact F0 _ | apply F1))) sz3 (by rfl) (by first | exact Nat.le_of_ble_eq_true rfl | (simp; done) | (simp; omega)) rfl (Wt.none rfl) ?_
                  refine RunL.nil ?_
                  refine Run.inBlock ?_
                  refine Run.sr ?_
                  first | refine RunL.loadA (vs := (cEvn ({ (Evt.evn (oddBase room l k) s) with id := ⟨#[36, 121]⟩, thread := eventOf e.does, does := 0 }))) rfl (by first | ((repeat (first | (with_reducible exact F0 _) | apply F1)); done) | (repeat (first | exact F0 _ | apply F1))) agg24 sz24 (by first | exact Nat.le_of_ble_eq_true rfl | (simp; done) | (simp; omega)) rfl (Wt.none rfl) rfl ?_ | refine RunL.loadNR (vs := (cEvn ({ (Evt.evn (oddBase room l k) s) with id := ⟨#[36, 121]⟩, thread := eventOf e.does, does := 0 }))) rfl (by assumption) agg24 sz24 (by first | exact Nat.le_of_ble_eq_true rfl | (simp; done) | (simp; omega)) rfl (Wt.none rfl) rfl ?_
                  refine RunL.storeW (xs := (cEvn ({ (Evt.evn (oddBase room l k) s) with id := ⟨#[36, 121]⟩, thread := eventOf e.does, does := 0 }))) rfl rfl (by first | ((repeat (first | (with_reducible exact F0 _) | apply F1)); done) | (repeat (first | exact F0 _ | apply F1))) sz24 (by rfl) (by rfl) (by rfl) (Wt.none rfl) ?_
                  refine RunL.nil ?_
                  have ho : (oddEv room l k w (e.ev ps)) = { (oddBase room l k) with id := ⟨#[36, 121]⟩, thread := eventOf (fewEv (e.ev ps)).does, does := 0 } := by unfold oddEv; simp only; rw [if_neg q0, if_neg q1, if_neg q2, if_neg q3, if_neg q4, if_neg q5, if_pos q6]
                  exact Run.ret Try.func11 (resV1 rfl (Rv.cellN (us := (cEvn ({ (Evt.evn (oddBase room l k) s) with id := ⟨#[36, 121]⟩, thread := eventOf e.does, does := 0 }))) rfl (by first | ((repeat (first | (with_reducible exact F0 _) | apply F1)); done) | (repeat (first | exact F0 _ | apply F1))) agg24 sz24 (by first | exact Nat.le_of_ble_eq_true rfl | (simp; done) | (simp; omega)) rfl)) (by exact ⟨K1, s, hK1, by rw [ho]; exact hbs, by rw [ho]; rfl, rfl⟩) (by repeat (first | (with_reducible exact Fin.done (by repeat (first | (with_reducible exact Rest.here) | apply Rest.there))) | (apply Fin.cons (by first | ((repeat (first | (with_reducible exact F0 _) | apply F1)); done) | (repeat (first | exact F0 _ | apply F1))))))
                · try simp only [ZA, ZB, ZC, ZD, ZE, ZF, ZG, ZH, ZI, ZJ, ZK, ZL, ZM, ZN, ZO, ZP, ZQ, ZR] at q6
                  refine Run.sr ?_
                  refine RunL.pure (Pure.fieldAddr rfl fo24_0) (Wt.none rfl) rfl rfl ?_
                  refine RunL.store1A (cs' := (cEvn ({ (Evt.evn (oddBase room l k) s) with id := ⟨#[36, 122]⟩ }))) rfl rfl (by first | ((repeat (first | (with_reducible exact F0 _) | apply F1)); done) | (repeat (first | exact F0 _ | apply F1))) sz9 (by rfl) (by first | exact Nat.le_of_ble_eq_true rfl | (simp; done) | (simp; omega)) rfl (Wt.none rfl) ?_
                  refine RunL.nil ?_
                  refine Run.region ?_
                  refine RunL.pure (Pure.fieldAddr rfl fo24_5) (Wt.none rfl) rfl rfl ?_
                  first | refine RunL.load1 rfl (by first | ((repeat (first | (with_reducible exact F0 _) | apply F1)); done) | (repeat (first | exact F0 _ | apply F1))) (by rfl) agg3 (Wt.none rfl) rfl ?_ | refine RunL.load1R rfl (by assumption) (by rfl) agg3 (Wt.none rfl) rfl ?_
                  refine RunL.call rfl rfl (by rfl) (by repeat (first | (with_reducible exact Take.nil _) | (apply Take.cons (by first | ((repeat (first | (with_reducible exact F0 _) | apply F1)); done) | (repeat (first | exact F0 _ | apply F1)))))) (EventOf_ctr (z := e.does) hdo) (Wt.none rfl) rfl ?_
                  rintro _ _ ⟨rfl, hA_⟩
                  replace hA_ := hA_.symm; subst hA_
                  refine RunL.lit (vals := [_]) (vs := [_]) und22 sz9 zz9 rfl rfl rfl rfl rfl rfl (by simp [Value.cells, bv, cDD, cEvn, cGG, cNde, cPos]) rfl (Wt.none rfl) rfl ?_; intro b34
                  refine RunL.pure (Pure.fieldAddr rfl fo24_2) (Wt.none rfl) rfl rfl ?_
                  refine RunL.store1A (cs' := (cEvn ({ (Evt.evn (oddBase room l k) s) with id := ⟨#[36, 122]⟩, par := ⟨some ⟨b34, 0, none⟩, 1, 1⟩ }))) rfl rfl (by first | ((repeat (first | (with_reducible exact F0 _) | apply F1)); done) | (repeat (first | exact F0 _ | apply F1))) sz22 (by rfl) (by first | exact Nat.le_of_ble_eq_true rfl | (simp; done) | (simp; omega)) rfl (Wt.none rfl) ?_
                  refine RunL.nil ?_
                  refine Run.inBlock ?_
                  refine Run.poolSl (T := 9) (sz := 1) (a := some ⟨b34, 0, none⟩) (n := 1) (cs := ([eventOf (fewEv (e.ev ps)).does] : List ByteArray).map Value.string) (by repeat (first | (with_reducible exact Take.nil _) | (apply Take.cons (by first | ((repeat (first | (with_reducible exact F0 _) | apply F1)); done) | (repeat (first | exact F0 _ | apply F1)))))) ?_; intro K2 hK2 hps2
                  refine Run.sr ?_
                  first | refine RunL.loadA (vs := (cEvn ({ (Evt.evn (oddBase room l k) s) with id := ⟨#[36, 122]⟩, par := ⟨some ⟨b34, 0, none⟩, 1, 1⟩ }))) rfl (by first | ((repeat (first | (with_reducible exact F0 _) | apply F1)); done) | (repeat (first | exact F0 _ | apply F1))) agg24 sz24 (by first | exact Nat.le_of_ble_eq_true rfl | (simp; done) | (simp; omega)) rfl (Wt.none rfl) rfl ?_ | refine RunL.loadNR (vs := (cEvn ({ (Evt.evn (oddBase room l k) s) with id := ⟨#[36, 122]⟩, par := ⟨some ⟨b34, 0, none⟩, 1, 1⟩ }))) rfl (by assumption) agg24 sz24 (by first | exact Nat.le_of_ble_eq_true rfl | (simp; done) | (simp; omega)) rfl (Wt.none rfl) rfl ?_
                  refine RunL.storeW (xs := (cEvn ({ (Evt.evn (oddBase room l k) s) with id := ⟨#[36, 122]⟩, par := ⟨some ⟨b34, 0, none⟩, 1, 1⟩ }))) rfl rfl (by first | ((repeat (first | (with_reducible exact F0 _) | apply F1)); done) | (repeat (first | exact F0 _ | apply F1))) sz24 (by rfl) (by rfl) (by rfl) (Wt.none rfl) ?_
                  refine RunL.nil ?_
                  have ho : (oddEv room l k w (e.ev ps)) = { (oddBase room l k) with id := ⟨#[36, 122]⟩, ps := [eventOf (fewEv (e.ev ps)).does] } := by unfold oddEv; simp only; rw [if_neg q0, if_neg q1, if_neg q2, if_neg q3, if_neg q4, if_neg q5, if_neg q6]
                  exact Run.ret Try.func11 (resV1 rfl (Rv.cellN (us := (cEvn ({ (Evt.evn (oddBase room l k) s) with id := ⟨#[36, 122]⟩, par := ⟨some ⟨b34, 0, none⟩, 1, 1⟩ }))) rfl (by first | ((repeat (first | (with_reducible exact F0 _) | apply F1)); done) | (repeat (first | exact F0 _ | apply F1))) agg24 sz24 (by first | exact Nat.le_of_ble_eq_true rfl | (simp; done) | (simp; omega)) rfl)) (by exact ⟨K2, ⟨some ⟨b34, 0, none⟩, 1, 1⟩, hK1.trans hK2, by rw [ho]; exact ⟨rfl, hps2⟩, by rw [ho]; rfl, rfl⟩) (by repeat (first | (with_reducible exact Fin.done (by repeat (first | (with_reducible exact Rest.here) | apply Rest.there))) | (apply Fin.cons (by first | ((repeat (first | (with_reducible exact F0 _) | apply F1)); done) | (repeat (first | exact F0 _ | apply F1))))))
  · skip
    refine Run.sr ?_
    refine RunL.pure (Pure.fieldAddr rfl fo30_1) (Wt.none rfl) rfl rfl ?_
    first | refine RunL.load1 rfl (by first | ((repeat (first | (with_reducible exact F0 _) | apply F1)); done) | (repeat (first | exact F0 _ | apply F1))) (by rfl) agg28 (Wt.none rfl) rfl ?_ | refine RunL.load1R rfl (by assumption) (by rfl) agg28 (Wt.none rfl) rfl ?_
    refine RunL.pure (Pure.lenSl rfl rfl und28) (Wt.none rfl) rfl rfl ?_
    refine RunL.pure (Pure.gtr rfl rfl) (Wt.none rfl) rfl rfl ?_
    refine RunL.nil ?_
    refine Run.cond rfl (fun c0 => ?_) (fun c0 => ?_)
    · try simp only [ZA, ZB, ZC, ZD, ZE, ZF, ZG, ZH, ZI, ZJ, ZK, ZL, ZM, ZN, ZO, ZP, ZQ, ZR] at c0
      refine Run.lendB (Q := Pool K) Lends.Pool (by first | ((repeat (first | (with_reducible exact F0 _) | apply F1)); done) | (repeat (first | exact F0 _ | apply F1))) (fun gp hlegp hpool backgp => ?_)
      have hp_gp := hp.mono hlegp
      have hrb4_gp := hrb4.mono hlegp
      obtain ⟨hroom, ys, hyl, hes0⟩ := id hd
      have hes := HasES.hp hes0 (G' := gp) hpool
      have hyn := ES_len hyl
      have hdn := hes.1
      have hal := around_lt (z := k) (m := (D.l.n : Nat)) (by omega)
      obtain ⟨q, hq⟩ : ∃ q : Nat, around k (D.l.n : Nat) = (q : Nat) := ⟨(around k (D.l.n : Nat)).toNat, by omega⟩
      obtain ⟨r, hr⟩ := get_some (xs := l) (i := q) (by omega)
      obtain ⟨s, hy⟩ := ES_get hyl hr
      obtain ⟨be, Te, pree, poste, hpe, hroe⟩ := hes.2.1.open1 (show 0 < ys.length by omega)
      refine Run.regionD' (by kernel_rfl) (by kernel_rfl) (fun hok229 => ?_)
      refine RunD.pure (i := 0) hok229 rfl (by kernel_rfl) (Pure.fieldAddr rfl fo30_1) (Wt.none rfl) rfl rfl ?_
      refine RunD.load1R (i := 1) hok229 rfl (by kernel_rfl) rfl (by assumption) (by rfl) agg28 (Wt.none rfl) rfl ?_
      refine RunD.pure (i := 2) hok229 rfl (by kernel_rfl) (Pure.move rfl) (Wt.none rfl) rfl rfl ?_
      refine RunD.pure (i := 3) hok229 rfl (by kernel_rfl) (Pure.fieldAddr rfl fo30_1) (Wt.none rfl) rfl rfl ?_
      refine RunD.load1R (i := 4) hok229 rfl (by kernel_rfl) rfl (by assumption) (by rfl) agg28 (Wt.none rfl) rfl ?_
      refine RunD.pure (i := 5) hok229 rfl (by kernel_rfl) (Pure.lenSl rfl rfl und28) (Wt.none rfl) rfl rfl ?_
      refine RunD.one (i := 6) (by kernel_rfl) rfl ?_
      refine RunL.call rfl rfl (by rfl) (by repeat (first | (with_reducible exact Take.nil _) | (apply Take.cons (by first | ((repeat (first | (with_reducible exact F0 _) | apply F1)); done) | (repeat (first | exact F0 _ | apply F1)))))) (Around_ctr (z := k) (m := (D.l.n : Nat)) hkw (by omega)) (Wt.none rfl) rfl ?_
      rintro _ _ ⟨rfl, hA_⟩
      replace hA_ := hA_.symm; subst hA_
      rw [hq]
      refine RunL.nilD' ?_
      refine RunD.pure (i := 7) hok229 rfl (by kernel_rfl) (Pure.indexAddr (opvSl rfl hpe) rfl und28 sz24 (by omega) (by omega)) (Wt.none rfl) rfl rfl ?_
      refine RunD.loadNR (vs := (cEvn ((r.evn s)))) (i := 8) hok229 rfl (by kernel_rfl) rfl hroe agg24 sz24 (elemN_len (pre := pree) (post := poste) (f := cES) (sz := 6) (j := 0) (n := 6) (fun _ _ => rfl) hy (by decide)) ((elemN_at (pre := pree) (post := poste) (f := cES) (sz := 6) (j := 0) (n := 6) (fun _ _ => rfl) hy (by decide)).trans rfl) (Wt.none rfl) rfl ?_
      refine RunD.one (i := 9) (by kernel_rfl) rfl ?_
      refine RunL.storeW (xs := (cEvn ((r.evn s)))) rfl rfl (by first | ((repeat (first | (with_reducible exact F0 _) | apply F1)); done) | (repeat (first | exact F0 _ | apply F1))) sz24 (by rfl) (by rfl) (by rfl) (Wt.none rfl) ?_
      refine RunL.nilD' ?_
      refine RunD.nilR (by kernel_rfl) ?_
      refine Run.backB backgp ?_
      have hob : (oddBase room l k) = r := by unfold oddBase; rw [show (l.length : Nat) = D.l.n from by omega, hq, Int.toNat_natCast, hr]; rfl
      refine Run.keep (.cons rfl (.cons rfl (.cons rfl (.cons rfl (.nil)))) : Keep _ [2, 7, 8, 9] _) ?_
      exact Run.meetF (F := F) hk (by exact ⟨s, by rw [hob]; exact hes0.2.2.2 _ (List.mem_of_getElem? hy), rfl, by rw [hob]⟩) (by repeat (first | (with_reducible exact Fin.done (by repeat (first | (with_reducible exact Rest.here) | apply Rest.there))) | (apply Fin.cons (by first | ((repeat (first | (with_reducible exact F0 _) | apply F1)); done) | (repeat (first | exact F0 _ | apply F1))))))
    · try simp only [ZA, ZB, ZC, ZD, ZE, ZF, ZG, ZH, ZI, ZJ, ZK, ZL, ZM, ZN, ZO, ZP, ZQ, ZR] at c0
      refine Run.skip ?_
      obtain ⟨hroom, ys, hyl, hes0⟩ := id hd
      have hyn := ES_len hyl
      have hdn := hes0.1
      have hob : (oddBase room l k) = base0 D.room := by unfold oddBase; rw [List.getElem?_eq_none (by omega), hroom]; rfl
      refine Run.keep (.cons rfl (.cons rfl (.cons rfl (.cons rfl (.nil)))) : Keep _ [2, 7, 8, 9] _) ?_
      exact Run.meetF (F := F) hk (by exact ⟨⟨none, 0, 0⟩, by rw [hob]; exact ⟨rfl, .inl ⟨rfl, rfl⟩⟩, rfl, by rw [hob]⟩) (by repeat (first | (with_reducible exact Fin.done (by repeat (first | (with_reducible exact Rest.here) | apply Rest.there))) | (apply Fin.cons (by first | ((repeat (first | (with_reducible exact F0 _) | apply F1)); done) | (repeat (first | exact F0 _ | apply F1))))))

end Go.Proofs.Ytghmmjifmnmbgaa
