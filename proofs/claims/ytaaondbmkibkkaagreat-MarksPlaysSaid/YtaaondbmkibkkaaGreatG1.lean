/- Events that may be. -/
import Derived.Test.YtaaondbmkibkkaaGreatN2
set_option linter.unusedVariables false
set_option linter.unusedSimpArgs false
set_option linter.unusedSectionVars false
namespace Go.Proofs.YtaaondbmkibkkaaGreat
open Go Csl
theorem fo49_0 : fieldOff Tryz.prog 49 0 = some 0 := by kernel_rfl
theorem fo49_1 : fieldOff Tryz.prog 49 1 = some 1 := by kernel_rfl
theorem fo49_4 : fieldOff Tryz.prog 49 4 = some 4 := by kernel_rfl
theorem fo49_2 : fieldOff Tryz.prog 49 2 = some 2 := by kernel_rfl
theorem agg47 : isAggOf Tryz.prog 47 = some false := by kernel_rfl
theorem fo49_5 : fieldOff Tryz.prog 49 5 = some 5 := by kernel_rfl
theorem fo49_3 : fieldOff Tryz.prog 49 3 = some 3 := by kernel_rfl
theorem cb98 : Callable Tryz.prog 98 := ⟨_, Tryz.func98, by kernel_rfl, by kernel_rfl⟩
theorem fo69_0 : fieldOff Tryz.prog 69 0 = some 0 := by kernel_rfl
theorem fo69_1 : fieldOff Tryz.prog 69 1 = some 1 := by kernel_rfl
theorem zz3 : zeroIs Tryz.prog 3 = some (.int .i64 0) := by kernel_rfl
theorem fo156_1 : fieldOff Tryz.prog 156 1 = some 1 := by kernel_rfl
theorem agg154 : isAggOf Tryz.prog 154 = some false := by kernel_rfl
theorem und154 : Tryz.prog.underlying 154 = some (Go.TypeDesc.map 9 158) := Tryz.underlying154
theorem zz158 : zeroIs Tryz.prog 158 = some (.pointer none) := by kernel_rfl
theorem und158 : Tryz.prog.underlying 158 = some (Go.TypeDesc.pointer 160) := Tryz.underlying158
theorem pl156 : placesOf Tryz.prog 156 = some ([(0, 1), (1, 1)], (.agg #[(.string .empty), (.map none)])) := by kernel_rfl
theorem by9 : bytesIs Tryz.prog 9 = some 16 := by kernel_rfl
theorem zz49 : zeroIs Tryz.prog 49 = some (.agg #[(.string .empty), (.string .empty), (.slice none 0 0), (.string .empty), (.string .empty), (.int .i64 0)]) := by kernel_rfl
theorem sz47 : sizeIs Tryz.prog 47 = some 1 := by kernel_rfl
theorem zz69 : zeroIs Tryz.prog 69 = some (.agg #[(.int .i64 0), (.string .empty)]) := by kernel_rfl
theorem pl69 : placesOf Tryz.prog 69 = some ([(0, 1), (1, 1)], (.agg #[(.int .i64 0), (.string .empty)])) := by kernel_rfl
theorem fo160_1 : fieldOff Tryz.prog 160 1 = some 6 := by kernel_rfl
theorem agg109 : isAggOf Tryz.prog 109 = some false := by kernel_rfl
theorem pl49 : placesOf Tryz.prog 49 = some ([(0, 1), (1, 1), (2, 1), (3, 1), (4, 1), (5, 1)], (.agg #[(.string .empty), (.string .empty), (.slice none 0 0), (.string .empty), (.string .empty), (.int .i64 0)])) := by kernel_rfl
theorem fo160_0 : fieldOff Tryz.prog 160 0 = some 0 := by kernel_rfl

namespace Csl
/-- An event whose parents are 'ps'. -/
def HasPs (G : Gp) (e : Evn) (ps : List ByteArray) : Prop := e.par.n = ps.length ∧ SlR G 9 1 e.par.a ps.length (ps.map Value.string)
theorem HasPs.mono {G G' : Gp} {e : Evn} {ps : List ByteArray} (h : Gp.le G G') (q : HasPs G e ps) : HasPs G' e ps := ⟨q.1, q.2.mono h⟩
def parOk (id : ByteArray) (ps : List ByteArray) (i : Nat) : Prop := ∃ p, ps[i]? = some p ∧ eventB (bl p) = true ∧ p ≠ id ∧ (0 < i → ∃ q, ps[i - 1]? = some q ∧ Op.bytesLess (bl q) (bl p) = true)
instance (id : ByteArray) (ps : List ByteArray) (i : Nat) : Decidable (parOk id ps i) :=
  match h : ps[i]? with
  | none => isFalse (fun ⟨p, hp, _⟩ => by rw [h] at hp; cases hp)
  | some p => match h' : ps[i - 1]? with
    | none => if hq : eventB (bl p) = true ∧ p ≠ id ∧ ¬ 0 < i then isTrue ⟨p, h, hq.1, hq.2.1, fun q => absurd q hq.2.2⟩ else isFalse (fun ⟨p', hp, a1, a2, a3⟩ => by
        rw [h] at hp; cases hp
        refine hq ⟨a1, a2, fun q => ?_⟩
        obtain ⟨q', hq', _⟩ := a3 q
        rw [h'] at hq'; cases hq')
    | some q => if hq : eventB (bl p) = true ∧ p ≠ id ∧ (0 < i → Op.bytesLess (bl q) (bl p) = true) then isTrue ⟨p, h, hq.1, hq.2.1, fun z => ⟨q, h', hq.2.2 z⟩⟩ else isFalse (fun ⟨p', hp, a1, a2, a3⟩ => by
        rw [h] at hp; cases hp
        refine hq ⟨a1, a2, fun z => ?_⟩
        obtain ⟨q', hq', r⟩ := a3 z
        rw [h'] at hq'; cases hq'; exact r)
def headOk (e : Evn) (n : Nat) : Bool := eventB (bl e.id) && namedB 33 (bl e.room) && namedB 64 (bl e.user) && decide (n ≤ 4) && decide (0 ≤ e.does) && decide (e.does ≤ 2)
def thrOk (e : Evn) : Bool := decide (e.thread = .empty) || (eventB (bl e.thread) && decide (e.thread ≠ e.id) && decide (e.does = 0))
def evMay (e : Evn) (ps : List ByteArray) : Bool := headOk e ps.length && thrOk e && decide (∀ i, i < ps.length → parOk e.id ps i)
theorem evMay_no {e : Evn} {ps : List ByteArray} {i : Nat} (hi : i < ps.length) (h : ¬ parOk e.id ps i) : evMay e ps = false := by
  unfold evMay
  rw [Bool.and_eq_false_iff]
  exact .inr (decide_eq_false fun q => h (q i hi))
theorem evMay_yes {e : Evn} {ps : List ByteArray} (h1 : headOk e ps.length = true) (h2 : thrOk e = true) (h3 : ∀ i, i < ps.length → parOk e.id ps i) : evMay e ps = true := by
  unfold evMay
  rw [h1, h2, decide_eq_true h3]; rfl
theorem evMay_head {e : Evn} {ps : List ByteArray} (h : headOk e ps.length = false) : evMay e ps = false := by unfold evMay; rw [h]; rfl
theorem evMay_thr {e : Evn} {ps : List ByteArray} (h : thrOk e = false) : evMay e ps = false := by unfold evMay; rw [h, Bool.and_false]; rfl
theorem parOk_no1 {id p : ByteArray} {ps : List ByteArray} {i : Nat} (hp : ps[i]? = some p) (h : eventB (bl p) = false) : ¬ parOk id ps i := by
  rintro ⟨p', h1, h2, _⟩; rw [hp] at h1; cases h1; rw [h] at h2; cases h2
theorem parOk_no2 {id p : ByteArray} {ps : List ByteArray} {i : Nat} (hp : ps[i]? = some p) (h : p = id) : ¬ parOk id ps i := by
  rintro ⟨p', h1, _, h3, _⟩; rw [hp] at h1; cases h1; exact h3 h
theorem parOk_no3 {id p q : ByteArray} {ps : List ByteArray} {i : Nat} (hp : ps[i]? = some p) (hi : 0 < i) (hq : ps[i - 1]? = some q) (h : Op.bytesLess (bl q) (bl p) = false) : ¬ parOk id ps i := by
  rintro ⟨p', h1, _, _, h4⟩
  rw [hp] at h1; cases h1
  obtain ⟨q', h5, h6⟩ := h4 hi
  rw [hq] at h5; cases h5; rw [h] at h6; cases h6
theorem leq_less {p q : ByteArray} : (Op.bytesLess (bl p) (bl q) || decide (bl p = bl q)) = !Op.bytesLess (bl q) (bl p) := by
  have h1 := @cmpS_lt p q; have h2 := @cmpS_lt q p; have h3 := cmpS_law.eq0 p q; have h4 := cmpS_law.anti p q
  rw [Bool.eq_iff_iff]
  constructor
  · intro h
    rw [Bool.or_eq_true, decide_eq_true_iff] at h
    cases hq : Op.bytesLess (bl q) (bl p) with
    | false => rfl
    | true =>
      exfalso
      have := h2.2 hq
      rcases h with h | h
      · have := h1.2 h; omega
      · have := h3.2 (bl_inj h); omega
  · intro h
    rw [Bool.or_eq_true, decide_eq_true_iff]
    have hq : ¬ cmpS q p < 0 := fun z => by rw [h2.1 z] at h; cases h
    rcases Int.lt_trichotomy (cmpS p q) 0 with z | z | z
    · exact .inl (h1.1 z)
    · exact .inr (by rw [h3.1 z])
    · omega
theorem bl_iff {a b : ByteArray} : bl a = bl b ↔ a = b := ⟨bl_inj, fun h => by rw [h]⟩
def evSame (e : Evn) (ps : List ByteArray) (f : Evn) (qs : List ByteArray) : Bool := decide (e.id = f.id) && decide (e.room = f.room) && decide (ps = qs) && decide (e.thread = f.thread) && decide (e.user = f.user) && decide (e.does = f.does)
theorem HasPs.sl {G : Gp} {e : Evn} {ps : List ByteArray} (h : HasPs G e ps) : ∃ a c, e.par = ⟨a, ps.length, c⟩ ∧ SlR G 9 1 a ps.length (ps.map Value.string) := ⟨e.par.a, e.par.c, by rw [← h.1], h.2⟩
end Csl

set_option maxHeartbeats 4000000 in
set_option maxRecDepth 100000 in
theorem dMay_ctr {G : Gp} {e : Evn} {ps : List ByteArray} (hp : HasPs G e ps) (hb : ps.length ≤ 1000000) (ho : okEvn e) (hz : ∀ p ∈ ps, p.size ≤ 9223372036854775807) :
    Ctr Tryz.prog G 88 [.agg (cEvn e).toArray] [] (fun F v A => v = .bool (evMay e ps) ∧ A = F) := by
  refine Ctr.intro Tryz.func88 rfl (by kernel_rfl) rfl (fun F => ?_)
  simp only [List.nil_append]
  obtain ⟨hn, hs⟩ := hp
  obtain ⟨ho1, ho2, ho3, ho4, ho5⟩ := ho
  replace ho5 := wf_i64 ho5
  refine sr' ?_
  refine RunL.boxA (xs := (cEvn e)) rfl (Wt.none rfl) rfl ?_; intro b1
  refine as' rfl (nl' ?_)
  refine la' (row b1 49 _) Lends.row fun G1 hleG1 hrb1 => ?_
  replace hs := hs.mono hleG1
  refine Run.scope ?_
  refine sq' (sr' (pp' (Pure.fieldAddr rfl fo49_0) (l1' rfl agg9 ?_)))
  refine ca' rfl rfl (s := nEvent_ctr (by first | assumption | omega | (simp only [mkS_size, List.length_take, List.length_drop, bl_length]; omega) | (simp only [mkS_size, size_app, List.length_take, List.length_drop, List.length_append, bl_length, List.length_cons, List.length_nil, size_mk]; omega))) (q := ?_)
  rintro _ _ ⟨rfl, hA_⟩
  replace hA_ := hA_.symm; subst hA_
  refine pp' (Pure.not rfl) (mv' rfl ?_)
  refine RunL.split (d := 10) rfl (fun a0 => ?_) (fun a0 => ?_)
  · try simp only [Z] at a0
    refine no' (no' (no' (no' (pp' (Pure.pickT rfl rfl) (mv' rfl (no' (no' (no' (no' (pp' (Pure.pickT rfl rfl) (mv' rfl (no' (no' (no' (no' (pp' (Pure.pickT rfl rfl) (mv' rfl (no' (no' (no' (pp' (Pure.pickT rfl rfl) (mv' rfl (no' (no' (no' (pp' (Pure.pickT rfl rfl) (nl' (cT' (sr' (as' rfl (nl' ?_)))))))))))))))))))))))))))))))
    exact rt' Tryz.func88 (res1 rfl rfl) (by exact ⟨by rw [evMay_head (by first | (simp_all [headOk, thrOk]; done) | (simp [headOk, thrOk]; omega) | grind [headOk, thrOk])], rfl⟩)
  · try simp only [Z] at a0
    refine py' (Pure.fieldAddr rfl fo49_1) (l1' rfl agg9 ?_)
    refine ca' rfl rfl (s := Room_ctr (by first | assumption | omega | (simp only [mkS_size, List.length_take, List.length_drop, bl_length]; omega) | (simp only [mkS_size, size_app, List.length_take, List.length_drop, List.length_append, bl_length, List.length_cons, List.length_nil, size_mk]; omega))) (q := ?_)
    rintro _ _ ⟨rfl, hA_⟩
    replace hA_ := hA_.symm; subst hA_
    refine py' (Pure.not rfl) (pp' (Pure.pickF rfl rfl) (mv' rfl ?_))
    refine RunL.split (d := 16) rfl (fun a1 => ?_) (fun a1 => ?_)
    · try simp only [Z] at a1
      refine no' (no' (no' (no' (pp' (Pure.pickT rfl rfl) (mv' rfl (no' (no' (no' (no' (pp' (Pure.pickT rfl rfl) (mv' rfl (no' (no' (no' (pp' (Pure.pickT rfl rfl) (mv' rfl (no' (no' (no' (pp' (Pure.pickT rfl rfl) (nl' (cT' (sr' (as' rfl (nl' ?_)))))))))))))))))))))))))
      exact rt' Tryz.func88 (res1 rfl rfl) (by exact ⟨by rw [evMay_head (by first | (simp_all [headOk, thrOk]; done) | (simp [headOk, thrOk]; omega) | grind [headOk, thrOk])], rfl⟩)
    · try simp only [Z] at a1
      refine py' (Pure.fieldAddr rfl fo49_4) (l1' rfl agg9 ?_)
      refine ca' rfl rfl (s := User_ctr (by first | assumption | omega | (simp only [mkS_size, List.length_take, List.length_drop, bl_length]; omega) | (simp only [mkS_size, size_app, List.length_take, List.length_drop, List.length_append, bl_length, List.length_cons, List.length_nil, size_mk]; omega))) (q := ?_)
      rintro _ _ ⟨rfl, hA_⟩
      replace hA_ := hA_.symm; subst hA_
      refine py' (Pure.not rfl) (pp' (Pure.pickF rfl rfl) (mv' rfl ?_))
      refine RunL.split (d := 22) rfl (fun a2 => ?_) (fun a2 => ?_)
      · try simp only [Z] at a2
        refine no' (no' (no' (no' (pp' (Pure.pickT rfl rfl) (mv' rfl (no' (no' (no' (pp' (Pure.pickT rfl rfl) (mv' rfl (no' (no' (no' (pp' (Pure.pickT rfl rfl) (nl' (cT' (sr' (as' rfl (nl' ?_)))))))))))))))))))
        exact rt' Tryz.func88 (res1 rfl rfl) (by exact ⟨by rw [evMay_head (by first | (simp_all [headOk, thrOk]; done) | (simp [headOk, thrOk]; omega) | grind [headOk, thrOk])], rfl⟩)
      · try simp only [Z] at a2
        refine py' (Pure.fieldAddr rfl fo49_2) (l1' rfl agg47 ?_)
        refine py' (Pure.lenSl rfl rfl und47) (py' (Pure.gtr rfl rfl) (pp' (Pure.pickF rfl rfl) (mv' rfl ?_)))
        refine RunL.split (d := 28) rfl (fun a3 => ?_) (fun a3 => ?_)
        · try simp only [Z] at a3
          refine no' (no' (no' (pp' (Pure.pickT rfl rfl) (mv' rfl (no' (no' (no' (pp' (Pure.pickT rfl rfl) (nl' (cT' (sr' (as' rfl (nl' ?_)))))))))))))
          exact rt' Tryz.func88 (res1 rfl rfl) (by exact ⟨by rw [evMay_head (by first | (simp_all [headOk, thrOk]; done) | (simp [headOk, thrOk]; omega) | grind [headOk, thrOk])], rfl⟩)
        · try simp only [Z] at a3
          refine py' (Pure.fieldAddr rfl fo49_5) (l1' rfl agg3 ?_)
          refine py' (Pure.lss rfl rfl) (pp' (Pure.pickF rfl rfl) (mv' rfl ?_))
          refine RunL.split (d := 33) rfl (fun a4 => ?_) (fun a4 => ?_)
          · try simp only [Z] at a4
            refine no' (no' (no' (pp' (Pure.pickT rfl rfl) (nl' (cT' (sr' (as' rfl (nl' ?_))))))))
            exact rt' Tryz.func88 (res1 rfl rfl) (by exact ⟨by rw [evMay_head (by first | (simp_all [headOk, thrOk]; done) | (simp [headOk, thrOk]; omega) | grind [headOk, thrOk])], rfl⟩)
          · try simp only [Z] at a4
            refine py' (Pure.fieldAddr rfl fo49_5) (l1' rfl agg3 ?_)
            refine py' (Pure.gtr rfl rfl) (pp' (Pure.pickF rfl rfl) (nl' ?_))
            refine Run.cond rfl (fun a5 => ?_) (fun a5 => ?_)
            · try simp only [Z] at a5
              refine sr' (as' rfl (nl' ?_))
              exact rt' Tryz.func88 (res1 rfl rfl) (by exact ⟨by rw [evMay_head (by first | (simp_all [headOk, thrOk]; done) | (simp [headOk, thrOk]; omega) | grind [headOk, thrOk])], rfl⟩)
            · try simp only [Z] at a5
              have hh : headOk e ps.length = true := by first | (simp_all [headOk, thrOk]; done) | (simp [headOk, thrOk]; omega) | grind [headOk, thrOk]
              refine sk' (sq' (sr' (pp' (Pure.fieldAddr rfl fo49_3) (l1' rfl agg9 ?_))))
              refine pp' (Pure.sneq rfl rfl) (mv' rfl ?_)
              refine RunL.split (d := 41) rfl (fun t0 => ?_) (fun t0 => ?_)
              · try simp only [Z] at t0
                have t0' : e.thread ≠ .empty := fun q => t0 (by rw [q]; rfl)
                refine py' (Pure.fieldAddr rfl fo49_3) (l1' rfl agg9 ?_)
                refine ca' rfl rfl (s := nEvent_ctr (by first | assumption | omega | (simp only [mkS_size, List.length_take, List.length_drop, bl_length]; omega) | (simp only [mkS_size, size_app, List.length_take, List.length_drop, List.length_append, bl_length, List.length_cons, List.length_nil, size_mk]; omega))) (q := ?_)
                rintro _ _ ⟨rfl, hA_⟩
                replace hA_ := hA_.symm; subst hA_
                refine py' (Pure.not rfl) (py' (Pure.move rfl) ?_)
                refine RunL.split (d := 46) rfl (fun t1 => ?_) (fun t1 => ?_)
                · try simp only [Z] at t1
                  refine no' (no' (no' (no' (no' (py' (Pure.pickT rfl rfl) (py' (Pure.move rfl) (no' (no' (no' (py' (Pure.pickT rfl rfl) (pp' (Pure.pickT rfl rfl) (nl' (cT' (sr' (as' rfl (nl' ?_))))))))))))))))
                  exact rt' Tryz.func88 (res1 rfl rfl) (by exact ⟨by rw [evMay_thr (by first | (simp_all [headOk, thrOk]; done) | (simp [headOk, thrOk]; omega) | grind [headOk, thrOk])], rfl⟩)
                · try simp only [Z] at t1
                  refine py' (Pure.fieldAddr rfl fo49_3) (l1' rfl agg9 ?_)
                  refine py' (Pure.fieldAddr rfl fo49_0) (l1' rfl agg9 ?_)
                  refine py' (Pure.seql rfl rfl) (py' (Pure.pickF rfl rfl) (py' (Pure.move rfl) ?_))
                  refine RunL.split (d := 53) rfl (fun t2 => ?_) (fun t2 => ?_)
                  · try simp only [Z] at t2
                    have t2' : e.thread = e.id := by first | exact bl_inj t2 | exact t2
                    refine no' (no' (no' (py' (Pure.pickT rfl rfl) (pp' (Pure.pickT rfl rfl) (nl' (cT' (sr' (as' rfl (nl' ?_)))))))))
                    exact rt' Tryz.func88 (res1 rfl rfl) (by exact ⟨by rw [evMay_thr (by first | (simp_all [headOk, thrOk]; done) | (simp [headOk, thrOk]; omega) | grind [headOk, thrOk])], rfl⟩)
                  · try simp only [Z] at t2
                    have t2' : e.thread ≠ e.id := fun q => t2 (by first | exact q | rw [q])
                    refine py' (Pure.fieldAddr rfl fo49_5) (l1' rfl agg3 ?_)
                    refine py' (Pure.neq rfl rfl) (py' (Pure.pickF rfl rfl) (pp' (Pure.pickT rfl rfl) (nl' ?_)))
                    refine Run.cond rfl (fun t3 => ?_) (fun t3 => ?_)
                    · try simp only [Z] at t3
                      refine sr' (as' rfl (nl' ?_))
                      exact rt' Tryz.func88 (res1 rfl rfl) (by exact ⟨by rw [evMay_thr (by first | (simp_all [headOk, thrOk]; done) | (simp [headOk, thrOk]; omega) | grind [headOk, thrOk])], rfl⟩)
                    · try simp only [Z] at t3
                      have ht : thrOk e = true := by first | (simp_all [headOk, thrOk]; done) | (simp [headOk, thrOk]; omega) | grind [headOk, thrOk]
                      refine sk' (sr' (as' rfl (nl' (sq' ?_))))
                      refine Run.label ?_
                      refine sq' (sr' (pp' (Pure.fieldAddr rfl fo49_2) (l1' rfl agg47 ?_)))
                      refine pp' (Pure.lenSl rfl rfl und47) (mv' rfl (nl' (bl' ?_)))
                      refine kp' [1, 3, 60, 61, 62] ?_
                      refine lp' F (fun n e_ A => ∃ (i : Nat), i ≤ ps.length ∧ (∀ j, j < i → parOk e.id ps j) ∧ n = ps.length - i ∧ e_ = [(1, .pointer (some ⟨b1, 0, none⟩)), (3, .bool true), (60, .slice e.par.a e.par.n e.par.c), (61, .int .i64 (e.par.n : Nat)), (62, .int .i64 (i : Nat))] ∧ A = F) (ps.length) (by exact ⟨0, by omega, fun j q => by omega, rfl, rfl, rfl⟩) ?_
                      rintro n _ _ ⟨i, hi, hall, rfl, rfl, hA_⟩ ih
                      replace hA_ := hA_.symm; subst hA_
                      refine sr' (pp' (Pure.lss rfl rfl) (nl' (sq' ?_)))
                      refine Run.cond rfl (fun l0 => ?_) (fun l0 => ?_)
                      · try simp only [Z] at l0
                        obtain ⟨p, hx⟩ := get_some (xs := ps) (i := i) (by omega)
                        obtain ⟨bb, Tb, preb, postb, hpa, hro⟩ := hs.open1 (show 0 < ps.length by omega)
                        rw [hpa]
                        have hpz := hz p (List.mem_of_getElem? hx)
                        refine sk' (sq' (bl' (sr' (mv' rfl ?_))))
                        refine pp' (Pure.indexAddr rfl rfl und47 sz9 (by omega) (by omega)) ?_
                        refine RunL.load1R rfl hro (elem1_at hx) agg9 (Wt.none rfl) rfl ?_
                        refine as' rfl (as' rfl (nl' (sr' (mv' rfl ?_))))
                        refine ca' rfl rfl (s := nEvent_ctr (by first | assumption | omega | (simp only [mkS_size, List.length_take, List.length_drop, bl_length]; omega) | (simp only [mkS_size, size_app, List.length_take, List.length_drop, List.length_append, bl_length, List.length_cons, List.length_nil, size_mk]; omega))) (q := ?_)
                        rintro _ _ ⟨rfl, hA_⟩
                        replace hA_ := hA_.symm; subst hA_
                        refine pp' (Pure.not rfl) (mv' rfl ?_)
                        refine RunL.split (d := 70) rfl (fun c0 => ?_) (fun c0 => ?_)
                        · try simp only [Z] at c0
                          refine no' (no' (no' (no' (pp' (Pure.pickT rfl rfl) (mv' rfl (no' (no' (no' (un' (un' (un' (un' (un' (un' (un' (un' (no' (pp' (Pure.pickT rfl rfl) (nl' (cT' (sr' (as' rfl (nl' (ex' rfl (sr' (mv' rfl (as' rfl (nl' ?_))))))))))))))))))))))))))))
                          exact rt' Tryz.func88 (res1 rfl rfl) (by exact ⟨by rw [evMay_no (i := i) (by omega) (parOk_no1 hx (by simp_all))], rfl⟩)
                        · try simp only [Z] at c0
                          refine py' (Pure.move rfl) (py' (Pure.fieldAddr rfl fo49_0) (l1' rfl agg9 ?_))
                          refine py' (Pure.seql rfl rfl) (pp' (Pure.pickF rfl rfl) (mv' rfl ?_))
                          refine RunL.split (d := 76) rfl (fun c1 => ?_) (fun c1 => ?_)
                          · try simp only [Z] at c1
                            refine no' (no' (no' (un' (un' (un' (un' (un' (un' (un' (un' (no' (pp' (Pure.pickT rfl rfl) (nl' (cT' (sr' (as' rfl (nl' (ex' rfl (sr' (mv' rfl (as' rfl (nl' ?_))))))))))))))))))))))
                            exact rt' Tryz.func88 (res1 rfl rfl) (by exact ⟨by rw [evMay_no (i := i) (by omega) (parOk_no2 hx (by first | exact bl_inj (by simp_all) | simp_all))], rfl⟩)
                          · try simp only [Z] at c1
                            refine py' (Pure.move rfl) (py' (Pure.gtr rfl rfl) (py' (Pure.move rfl) ?_))
                            refine RunL.split (d := 79) rfl (fun c2 => ?_) (fun c2 => ?_)
                            · try simp only [Z] at c2
                              obtain ⟨q, hq⟩ := get_some (xs := ps) (i := i - 1) (by omega)
                              refine py' (Pure.move rfl) (py' (Pure.fieldAddr rfl fo49_2) (l1' rfl agg47 ?_))
                              refine py' (Pure.move rfl) ?_
                              first | refine RunL.pure (Pure.subI rfl rfl (by omega)) (Wt.yes rfl rfl rfl) rfl rfl ?_ | refine RunL.pure (Pure.sub rfl rfl) (Wt.yes rfl rfl rfl) rfl rfl ?_
                              rw [hpa]
                              refine py' (Pure.indexAddr rfl rfl und47 sz9 (by omega) (by omega)) ?_
                              refine RunL.load1R rfl hro (elem1_at (show ps[((i : Int) - 1).toNat]? = some q from by rw [show ((i : Int) - 1).toNat = i - 1 from by omega]; exact hq)) agg9 (Wt.yes rfl rfl rfl) rfl ?_
                              refine py' (Pure.sleq rfl rfl) (py' (Pure.pickT rfl rfl) (pp' (Pure.pickF rfl rfl) (nl' ?_)))
                              refine Run.cond rfl (fun c3 => ?_) (fun c3 => ?_)
                              · try simp only [Z] at c3
                                refine sr' (as' rfl (nl' (ex' rfl (sr' (mv' rfl (as' rfl (nl' ?_)))))))
                                exact rt' Tryz.func88 (res1 rfl rfl) (by exact ⟨by rw [evMay_no (i := i) (by omega) (parOk_no3 hx (by omega) hq (by have l_ := @leq_less p q; first | (rw [leq_less] at c3; simpa using c3) | (clear hs hro hall hz; grind)))], rfl⟩)
                              · try simp only [Z] at c3
                                refine sk' (ib' (rg' ?_))
                                first | refine RunL.pure (Pure.addI rfl rfl (by omega)) (Wt.none rfl) rfl rfl ?_ | refine RunL.pure (Pure.add rfl rfl) (Wt.none rfl) rfl rfl ?_
                                refine mv' rfl (nl' ?_)
                                rw [← hpa]
                                refine kp' [1, 3, 60, 61, 62] ?_
                                exact ag' F ih (by exact ⟨i + 1, by omega, fun j hj => by (rcases Nat.lt_or_ge j i with q_ | q_; exact hall j q_; have : j = i := (by omega); subst this; exact ⟨p, hx, by simp_all, fun z => by simp_all, fun _ => ⟨q, hq, by have l_ := @leq_less p q; first | (rw [leq_less] at c3; simpa using c3) | (clear hs hro hall hz; grind)⟩⟩), rfl, rfl, rfl⟩)
                            · try simp only [Z] at c2
                              refine no' (no' (no' (no' (no' (no' (no' (no' (py' (Pure.pickF rfl rfl) (pp' (Pure.pickF rfl rfl) (nl' (cF' (sk' (ib' (rg' ?_))))))))))))))
                              first | refine RunL.pure (Pure.addI rfl rfl (by omega)) (Wt.none rfl) rfl rfl ?_ | refine RunL.pure (Pure.add rfl rfl) (Wt.none rfl) rfl rfl ?_
                              refine mv' rfl (nl' ?_)
                              rw [← hpa]
                              refine kp' [1, 3, 60, 61, 62] ?_
                              exact ag' F ih (by exact ⟨i + 1, by omega, fun j hj => by (rcases Nat.lt_or_ge j i with q_ | q_; exact hall j q_; have : j = i := (by omega); subst this; exact ⟨p, hx, by simp_all, fun z => by simp_all, fun z => by omega⟩), rfl, rfl, rfl⟩)
                      · try simp only [Z] at l0
                        refine ex' rfl (sr' (mv' rfl (as' rfl (nl' ?_))))
                        exact rt' Tryz.func88 (res1 rfl rfl) (by exact ⟨by rw [evMay_yes hh ht (fun j q_ => hall j (by omega))], rfl⟩)
              · try simp only [Z] at t0
                have t0' : e.thread = .empty := by first | exact bl_inj t0 | exact bl_inj (by simpa using t0)
                have ht : thrOk e = true := by first | (simp_all [headOk, thrOk]; done) | (simp [headOk, thrOk]; omega) | grind [headOk, thrOk]
                refine no' (no' (no' (no' (no' (un' (un' (un' (un' (un' (no' (no' (un' (un' (un' (no' (pp' (Pure.pickF rfl rfl) (nl' (cF' (sk' (sr' (as' rfl (nl' (sq' ?_)))))))))))))))))))))))
                refine Run.label ?_
                refine sq' (sr' (pp' (Pure.fieldAddr rfl fo49_2) (l1' rfl agg47 ?_)))
                refine pp' (Pure.lenSl rfl rfl und47) (mv' rfl (nl' (bl' ?_)))
                refine kp' [1, 3, 60, 61, 62] ?_
                refine lp' F (fun n e_ A => ∃ (i : Nat), i ≤ ps.length ∧ (∀ j, j < i → parOk e.id ps j) ∧ n = ps.length - i ∧ e_ = [(1, .pointer (some ⟨b1, 0, none⟩)), (3, .bool true), (60, .slice e.par.a e.par.n e.par.c), (61, .int .i64 (e.par.n : Nat)), (62, .int .i64 (i : Nat))] ∧ A = F) (ps.length) (by exact ⟨0, by omega, fun j q => by omega, rfl, rfl, rfl⟩) ?_
                rintro n _ _ ⟨i, hi, hall, rfl, rfl, hA_⟩ ih
                replace hA_ := hA_.symm; subst hA_
                refine sr' (pp' (Pure.lss rfl rfl) (nl' (sq' ?_)))
                refine Run.cond rfl (fun l0 => ?_) (fun l0 => ?_)
                · try simp only [Z] at l0
                  obtain ⟨p, hx⟩ := get_some (xs := ps) (i := i) (by omega)
                  obtain ⟨bb, Tb, preb, postb, hpa, hro⟩ := hs.open1 (show 0 < ps.length by omega)
                  rw [hpa]
                  have hpz := hz p (List.mem_of_getElem? hx)
                  refine sk' (sq' (bl' (sr' (mv' rfl ?_))))
                  refine pp' (Pure.indexAddr rfl rfl und47 sz9 (by omega) (by omega)) ?_
                  refine RunL.load1R rfl hro (elem1_at hx) agg9 (Wt.none rfl) rfl ?_
                  refine as' rfl (as' rfl (nl' (sr' (mv' rfl ?_))))
                  refine ca' rfl rfl (s := nEvent_ctr (by first | assumption | omega | (simp only [mkS_size, List.length_take, List.length_drop, bl_length]; omega) | (simp only [mkS_size, size_app, List.length_take, List.length_drop, List.length_append, bl_length, List.length_cons, List.length_nil, size_mk]; omega))) (q := ?_)
                  rintro _ _ ⟨rfl, hA_⟩
                  replace hA_ := hA_.symm; subst hA_
                  refine pp' (Pure.not rfl) (mv' rfl ?_)
                  refine RunL.split (d := 70) rfl (fun c0 => ?_) (fun c0 => ?_)
                  · try simp only [Z] at c0
                    refine no' (no' (no' (no' (pp' (Pure.pickT rfl rfl) (mv' rfl (no' (no' (no' (un' (un' (un' (un' (un' (un' (un' (un' (no' (pp' (Pure.pickT rfl rfl) (nl' (cT' (sr' (as' rfl (nl' (ex' rfl (sr' (mv' rfl (as' rfl (nl' ?_))))))))))))))))))))))))))))
                    exact rt' Tryz.func88 (res1 rfl rfl) (by exact ⟨by rw [evMay_no (i := i) (by omega) (parOk_no1 hx (by simp_all))], rfl⟩)
                  · try simp only [Z] at c0
                    refine py' (Pure.move rfl) (py' (Pure.fieldAddr rfl fo49_0) (l1' rfl agg9 ?_))
                    refine py' (Pure.seql rfl rfl) (pp' (Pure.pickF rfl rfl) (mv' rfl ?_))
                    refine RunL.split (d := 76) rfl (fun c1 => ?_) (fun c1 => ?_)
                    · try simp only [Z] at c1
                      refine no' (no' (no' (un' (un' (un' (un' (un' (un' (un' (un' (no' (pp' (Pure.pickT rfl rfl) (nl' (cT' (sr' (as' rfl (nl' (ex' rfl (sr' (mv' rfl (as' rfl (nl' ?_))))))))))))))))))))))
                      exact rt' Tryz.func88 (res1 rfl rfl) (by exact ⟨by rw [evMay_no (i := i) (by omega) (parOk_no2 hx (by first | exact bl_inj (by simp_all) | simp_all))], rfl⟩)
                    · try simp only [Z] at c1
                      refine py' (Pure.move rfl) (py' (Pure.gtr rfl rfl) (py' (Pure.move rfl) ?_))
                      refine RunL.split (d := 79) rfl (fun c2 => ?_) (fun c2 => ?_)
                      · try simp only [Z] at c2
                        obtain ⟨q, hq⟩ := get_some (xs := ps) (i := i - 1) (by omega)
                        refine py' (Pure.move rfl) (py' (Pure.fieldAddr rfl fo49_2) (l1' rfl agg47 ?_))
                        refine py' (Pure.move rfl) ?_
                        first | refine RunL.pure (Pure.subI rfl rfl (by omega)) (Wt.yes rfl rfl rfl) rfl rfl ?_ | refine RunL.pure (Pure.sub rfl rfl) (Wt.yes rfl rfl rfl) rfl rfl ?_
                        rw [hpa]
                        refine py' (Pure.indexAddr rfl rfl und47 sz9 (by omega) (by omega)) ?_
                        refine RunL.load1R rfl hro (elem1_at (show ps[((i : Int) - 1).toNat]? = some q from by rw [show ((i : Int) - 1).toNat = i - 1 from by omega]; exact hq)) agg9 (Wt.yes rfl rfl rfl) rfl ?_
                        refine py' (Pure.sleq rfl rfl) (py' (Pure.pickT rfl rfl) (pp' (Pure.pickF rfl rfl) (nl' ?_)))
                        refine Run.cond rfl (fun c3 => ?_) (fun c3 => ?_)
                        · try simp only [Z] at c3
                          refine sr' (as' rfl (nl' (ex' rfl (sr' (mv' rfl (as' rfl (nl' ?_)))))))
                          exact rt' Tryz.func88 (res1 rfl rfl) (by exact ⟨by rw [evMay_no (i := i) (by omega) (parOk_no3 hx (by omega) hq (by have l_ := @leq_less p q; first | (rw [leq_less] at c3; simpa using c3) | (clear hs hro hall hz; grind)))], rfl⟩)
                        · try simp only [Z] at c3
                          refine sk' (ib' (rg' ?_))
                          first | refine RunL.pure (Pure.addI rfl rfl (by omega)) (Wt.none rfl) rfl rfl ?_ | refine RunL.pure (Pure.add rfl rfl) (Wt.none rfl) rfl rfl ?_
                          refine mv' rfl (nl' ?_)
                          rw [← hpa]
                          refine kp' [1, 3, 60, 61, 62] ?_
                          exact ag' F ih (by exact ⟨i + 1, by omega, fun j hj => by (rcases Nat.lt_or_ge j i with q_ | q_; exact hall j q_; have : j = i := (by omega); subst this; exact ⟨p, hx, by simp_all, fun z => by simp_all, fun _ => ⟨q, hq, by have l_ := @leq_less p q; first | (rw [leq_less] at c3; simpa using c3) | (clear hs hro hall hz; grind)⟩⟩), rfl, rfl, rfl⟩)
                      · try simp only [Z] at c2
                        refine no' (no' (no' (no' (no' (no' (no' (no' (py' (Pure.pickF rfl rfl) (pp' (Pure.pickF rfl rfl) (nl' (cF' (sk' (ib' (rg' ?_))))))))))))))
                        first | refine RunL.pure (Pure.addI rfl rfl (by omega)) (Wt.none rfl) rfl rfl ?_ | refine RunL.pure (Pure.add rfl rfl) (Wt.none rfl) rfl rfl ?_
                        refine mv' rfl (nl' ?_)
                        rw [← hpa]
                        refine kp' [1, 3, 60, 61, 62] ?_
                        exact ag' F ih (by exact ⟨i + 1, by omega, fun j hj => by (rcases Nat.lt_or_ge j i with q_ | q_; exact hall j q_; have : j = i := (by omega); subst this; exact ⟨p, hx, by simp_all, fun z => by simp_all, fun z => by omega⟩), rfl, rfl, rfl⟩)
                · try simp only [Z] at l0
                  refine ex' rfl (sr' (mv' rfl (as' rfl (nl' ?_))))
                  exact rt' Tryz.func88 (res1 rfl rfl) (by exact ⟨by rw [evMay_yes hh ht (fun j q_ => hall j (by omega))], rfl⟩)

set_option maxHeartbeats 4000000 in
set_option maxRecDepth 100000 in
theorem rdMay_ctr {G : Gp} {e : Evn} {ps : List ByteArray} (hp : HasPs G e ps) (hb : ps.length ≤ 1000000) (ho : okEvn e) (hz : ∀ p ∈ ps, p.size ≤ 9223372036854775807) :
    Ctr Tryz.prog G 106 [.agg (cEvn e).toArray] [] (fun F v A => v = .bool (evMay e ps) ∧ A = F) := by
  refine Ctr.intro Tryz.func106 rfl (by kernel_rfl) rfl (fun F => ?_)
  simp only [List.nil_append]
  obtain ⟨hn, hs⟩ := hp
  obtain ⟨ho1, ho2, ho3, ho4, ho5⟩ := ho
  replace ho5 := wf_i64 ho5
  refine sr' ?_
  refine RunL.boxA (xs := (cEvn e)) rfl (Wt.none rfl) rfl ?_; intro b1
  refine as' rfl (nl' ?_)
  refine la' (row b1 49 _) Lends.row fun G1 hleG1 hrb1 => ?_
  replace hs := hs.mono hleG1
  refine sr' (pp' (Pure.fieldAddr rfl fo49_0) (l1' rfl agg9 ?_))
  refine ca' rfl rfl (s := rEvent_ctr (by first | assumption | omega | (simp only [mkS_size, List.length_take, List.length_drop, bl_length]; omega) | (simp only [mkS_size, size_app, List.length_take, List.length_drop, List.length_append, bl_length, List.length_cons, List.length_nil, size_mk]; omega))) (q := ?_)
  rintro _ _ ⟨rfl, hA_⟩
  replace hA_ := hA_.symm; subst hA_
  refine as' rfl (nl' (sr' (pp' (Pure.fieldAddr rfl fo49_1) (l1' rfl agg9 ?_))))
  refine ca' rfl rfl (s := rNamed_ctr (sg := 33) (by decide) (by first | assumption | omega | (simp only [mkS_size, List.length_take, List.length_drop, bl_length]; omega) | (simp only [mkS_size, size_app, List.length_take, List.length_drop, List.length_append, bl_length, List.length_cons, List.length_nil, size_mk]; omega))) (q := ?_)
  rintro _ _ ⟨rfl, hA_⟩
  replace hA_ := hA_.symm; subst hA_
  refine as' rfl (nl' (sr' (pp' (Pure.fieldAddr rfl fo49_4) (l1' rfl agg9 ?_))))
  refine ca' rfl rfl (s := rNamed_ctr (sg := 64) (by decide) (by first | assumption | omega | (simp only [mkS_size, List.length_take, List.length_drop, bl_length]; omega) | (simp only [mkS_size, size_app, List.length_take, List.length_drop, List.length_append, bl_length, List.length_cons, List.length_nil, size_mk]; omega))) (q := ?_)
  rintro _ _ ⟨rfl, hA_⟩
  replace hA_ := hA_.symm; subst hA_
  refine as' rfl (nl' (sq' (sr' (mv' rfl (pp' (Pure.not rfl) (mv' rfl ?_))))))
  refine RunL.split (d := 20) rfl (fun a0 => ?_) (fun a0 => ?_)
  · try simp only [Z] at a0
    refine no' (no' (pp' (Pure.pickT rfl rfl) (mv' rfl (no' (no' (pp' (Pure.pickT rfl rfl) (mv' rfl (no' (no' (no' (no' (pp' (Pure.pickT rfl rfl) (mv' rfl (no' (no' (no' (pp' (Pure.pickT rfl rfl) (mv' rfl (no' (no' (no' (pp' (Pure.pickT rfl rfl) (nl' (cT' (sr' (as' rfl (nl' ?_)))))))))))))))))))))))))))
    exact rt' Tryz.func106 (res1 rfl rfl) (by exact ⟨by rw [evMay_head (by first | (simp_all [headOk, thrOk]; done) | (simp [headOk, thrOk]; omega) | grind [headOk, thrOk])], rfl⟩)
  · try simp only [Z] at a0
    refine py' (Pure.move rfl) (py' (Pure.not rfl) (pp' (Pure.pickF rfl rfl) (mv' rfl ?_)))
    refine RunL.split (d := 24) rfl (fun a1 => ?_) (fun a1 => ?_)
    · try simp only [Z] at a1
      refine no' (no' (pp' (Pure.pickT rfl rfl) (mv' rfl (no' (no' (no' (no' (pp' (Pure.pickT rfl rfl) (mv' rfl (no' (no' (no' (pp' (Pure.pickT rfl rfl) (mv' rfl (no' (no' (no' (pp' (Pure.pickT rfl rfl) (nl' (cT' (sr' (as' rfl (nl' ?_)))))))))))))))))))))))
      exact rt' Tryz.func106 (res1 rfl rfl) (by exact ⟨by rw [evMay_head (by first | (simp_all [headOk, thrOk]; done) | (simp [headOk, thrOk]; omega) | grind [headOk, thrOk])], rfl⟩)
    · try simp only [Z] at a1
      refine py' (Pure.move rfl) (py' (Pure.not rfl) (pp' (Pure.pickF rfl rfl) (mv' rfl ?_)))
      refine RunL.split (d := 28) rfl (fun a2 => ?_) (fun a2 => ?_)
      · try simp only [Z] at a2
        refine no' (no' (no' (no' (pp' (Pure.pickT rfl rfl) (mv' rfl (no' (no' (no' (pp' (Pure.pickT rfl rfl) (mv' rfl (no' (no' (no' (pp' (Pure.pickT rfl rfl) (nl' (cT' (sr' (as' rfl (nl' ?_)))))))))))))))))))
        exact rt' Tryz.func106 (res1 rfl rfl) (by exact ⟨by rw [evMay_head (by first | (simp_all [headOk, thrOk]; done) | (simp [headOk, thrOk]; omega) | grind [headOk, thrOk])], rfl⟩)
      · try simp only [Z] at a2
        refine py' (Pure.fieldAddr rfl fo49_2) (l1' rfl agg47 ?_)
        refine py' (Pure.lenSl rfl rfl und47) (py' (Pure.gtr rfl rfl) (pp' (Pure.pickF rfl rfl) (mv' rfl ?_)))
        refine RunL.split (d := 34) rfl (fun a3 => ?_) (fun a3 => ?_)
        · try simp only [Z] at a3
          refine no' (no' (no' (pp' (Pure.pickT rfl rfl) (mv' rfl (no' (no' (no' (pp' (Pure.pickT rfl rfl) (nl' (cT' (sr' (as' rfl (nl' ?_)))))))))))))
          exact rt' Tryz.func106 (res1 rfl rfl) (by exact ⟨by rw [evMay_head (by first | (simp_all [headOk, thrOk]; done) | (simp [headOk, thrOk]; omega) | grind [headOk, thrOk])], rfl⟩)
        · try simp only [Z] at a3
          refine py' (Pure.fieldAddr rfl fo49_5) (l1' rfl agg3 ?_)
          refine py' (Pure.lss rfl rfl) (pp' (Pure.pickF rfl rfl) (mv' rfl ?_))
          refine RunL.split (d := 39) rfl (fun a4 => ?_) (fun a4 => ?_)
          · try simp only [Z] at a4
            refine no' (no' (no' (pp' (Pure.pickT rfl rfl) (nl' (cT' (sr' (as' rfl (nl' ?_))))))))
            exact rt' Tryz.func106 (res1 rfl rfl) (by exact ⟨by rw [evMay_head (by first | (simp_all [headOk, thrOk]; done) | (simp [headOk, thrOk]; omega) | grind [headOk, thrOk])], rfl⟩)
          · try simp only [Z] at a4
            refine py' (Pure.fieldAddr rfl fo49_5) (l1' rfl agg3 ?_)
            refine py' (Pure.gtr rfl rfl) (pp' (Pure.pickF rfl rfl) (nl' ?_))
            refine Run.cond rfl (fun a5 => ?_) (fun a5 => ?_)
            · try simp only [Z] at a5
              refine sr' (as' rfl (nl' ?_))
              exact rt' Tryz.func106 (res1 rfl rfl) (by exact ⟨by rw [evMay_head (by first | (simp_all [headOk, thrOk]; done) | (simp [headOk, thrOk]; omega) | grind [headOk, thrOk])], rfl⟩)
            · try simp only [Z] at a5
              have hh : headOk e ps.length = true := by first | (simp_all [headOk, thrOk]; done) | (simp [headOk, thrOk]; omega) | grind [headOk, thrOk]
              refine sk' (sq' (sr' (pp' (Pure.fieldAddr rfl fo49_3) (l1' rfl agg9 ?_))))
              refine pp' (Pure.sneq rfl rfl) (nl' ?_)
              refine Run.cond rfl (fun t0 => ?_) (fun t0 => ?_)
              · try simp only [Z] at t0
                have t0' : e.thread ≠ .empty := fun q => t0 (by rw [q]; rfl)
                refine sr' (pp' (Pure.fieldAddr rfl fo49_3) (l1' rfl agg9 ?_))
                refine ca' rfl rfl (s := rEvent_ctr (by first | assumption | omega | (simp only [mkS_size, List.length_take, List.length_drop, bl_length]; omega) | (simp only [mkS_size, size_app, List.length_take, List.length_drop, List.length_append, bl_length, List.length_cons, List.length_nil, size_mk]; omega))) (q := ?_)
                rintro _ _ ⟨rfl, hA_⟩
                replace hA_ := hA_.symm; subst hA_
                refine as' rfl (nl' (sr' (mv' rfl (pp' (Pure.not rfl) (mv' rfl ?_)))))
                refine RunL.split (d := 52) rfl (fun t1 => ?_) (fun t1 => ?_)
                · try simp only [Z] at t1
                  refine no' (no' (no' (no' (no' (pp' (Pure.pickT rfl rfl) (mv' rfl (no' (no' (no' (pp' (Pure.pickT rfl rfl) (nl' (cT' (sr' (as' rfl (nl' ?_)))))))))))))))
                  exact rt' Tryz.func106 (res1 rfl rfl) (by exact ⟨by rw [evMay_thr (by first | (simp_all [headOk, thrOk]; done) | (simp [headOk, thrOk]; omega) | grind [headOk, thrOk])], rfl⟩)
                · try simp only [Z] at t1
                  refine py' (Pure.fieldAddr rfl fo49_3) (l1' rfl agg9 ?_)
                  refine py' (Pure.fieldAddr rfl fo49_0) (l1' rfl agg9 ?_)
                  refine py' (Pure.seql rfl rfl) (pp' (Pure.pickF rfl rfl) (mv' rfl ?_))
                  refine RunL.split (d := 59) rfl (fun t2 => ?_) (fun t2 => ?_)
                  · try simp only [Z] at t2
                    have t2' : e.thread = e.id := by first | exact bl_inj t2 | exact t2
                    refine no' (no' (no' (pp' (Pure.pickT rfl rfl) (nl' (cT' (sr' (as' rfl (nl' ?_))))))))
                    exact rt' Tryz.func106 (res1 rfl rfl) (by exact ⟨by rw [evMay_thr (by first | (simp_all [headOk, thrOk]; done) | (simp [headOk, thrOk]; omega) | grind [headOk, thrOk])], rfl⟩)
                  · try simp only [Z] at t2
                    have t2' : e.thread ≠ e.id := fun q => t2 (by first | exact q | rw [q])
                    refine py' (Pure.fieldAddr rfl fo49_5) (l1' rfl agg3 ?_)
                    refine py' (Pure.neq rfl rfl) (pp' (Pure.pickF rfl rfl) (nl' ?_))
                    refine Run.cond rfl (fun t3 => ?_) (fun t3 => ?_)
                    · try simp only [Z] at t3
                      refine sr' (as' rfl (nl' ?_))
                      exact rt' Tryz.func106 (res1 rfl rfl) (by exact ⟨by rw [evMay_thr (by first | (simp_all [headOk, thrOk]; done) | (simp [headOk, thrOk]; omega) | grind [headOk, thrOk])], rfl⟩)
                    · try simp only [Z] at t3
                      have ht : thrOk e = true := by first | (simp_all [headOk, thrOk]; done) | (simp [headOk, thrOk]; omega) | grind [headOk, thrOk]
                      refine sk' (sq' (sr' (as' rfl (nl' (bl' ?_)))))
                      refine kp' [1, 7] ?_
                      refine lp' F (fun n e_ A => ∃ (i : Nat), i ≤ ps.length ∧ (∀ j, j < i → parOk e.id ps j) ∧ n = ps.length - i ∧ e_ = [(1, .pointer (some ⟨b1, 0, none⟩)), (7, .int .i64 (i : Nat))] ∧ A = F) (ps.length) (by exact ⟨0, by omega, fun j q => by omega, rfl, rfl, rfl⟩) ?_
                      rintro n _ _ ⟨i, hi, hall, rfl, rfl, hA_⟩ ih
                      replace hA_ := hA_.symm; subst hA_
                      refine sq' (sr' (mv' rfl (pp' (Pure.fieldAddr rfl fo49_2) (l1' rfl agg47 ?_))))
                      refine pp' (Pure.lenSl rfl rfl und47) (pp' (Pure.lss rfl rfl) (nl' ?_))
                      refine Run.cond rfl (fun l0 => ?_) (fun l0 => ?_)
                      · try simp only [Z] at l0
                        obtain ⟨p, hx⟩ := get_some (xs := ps) (i := i) (by omega)
                        obtain ⟨bb, Tb, preb, postb, hpa, hro⟩ := hs.open1 (show 0 < ps.length by omega)
                        have hpz := hz p (List.mem_of_getElem? hx)
                        refine sk' (sq' (bl' (sr' (pp' (Pure.fieldAddr rfl fo49_2) (l1' rfl agg47 ?_)))))
                        refine mv' rfl ?_
                        refine pp' (Pure.indexAddr (opvSl rfl hpa) rfl und47 sz9 (by omega) (by omega)) ?_
                        refine RunL.load1R rfl hro (elem1_at hx) agg9 (Wt.none rfl) rfl ?_
                        refine ca' rfl rfl (s := rEvent_ctr (by first | assumption | omega | (simp only [mkS_size, List.length_take, List.length_drop, bl_length]; omega) | (simp only [mkS_size, size_app, List.length_take, List.length_drop, List.length_append, bl_length, List.length_cons, List.length_nil, size_mk]; omega))) (q := ?_)
                        rintro _ _ ⟨rfl, hA_⟩
                        replace hA_ := hA_.symm; subst hA_
                        refine as' rfl (nl' (sq' (sq' ?_)))
                        refine Run.regionD' (by kernel_rfl) (by kernel_rfl) (fun hok298 => ?_)
                        refine dp' 0 hok298 rfl (Pure.move rfl) (dp' 1 hok298 rfl (Pure.not rfl) (dp' 2 hok298 rfl (Pure.move rfl) ?_))
                        refine RunD.split (d := 79) rfl (fun c0 => ?_) (fun c0 => ?_)
                        · try simp only [Z] at c0
                          refine dn' 3 hok298 rfl (dn' 4 hok298 rfl (dn' 5 hok298 rfl (dn' 6 hok298 rfl (dn' 7 hok298 rfl (dn' 8 hok298 rfl (dn' 9 hok298 rfl (dn' 10 hok298 rfl (dp' 11 hok298 rfl (Pure.pickT rfl rfl) ?_))))))))
                          refine RunD.nilR (by kernel_rfl) ?_
                          refine cT' (sr' (as' rfl (nl' ?_)))
                          exact rt' Tryz.func106 (res1 rfl rfl) (by exact ⟨by rw [evMay_no (i := i) (by omega) (parOk_no1 hx (by simp_all))], rfl⟩)
                        · try simp only [Z] at c0
                          refine dp' 3 hok298 rfl (Pure.fieldAddr rfl fo49_2) (dl' 4 hok298 rfl rfl agg47 ?_)
                          refine dp' 5 hok298 rfl (Pure.move rfl) ?_
                          refine dp' 6 hok298 rfl (Pure.indexAddr (opvSl rfl hpa) rfl und47 sz9 (by omega) (by omega)) ?_
                          refine RunD.load1R (i := 7) hok298 rfl (by kernel_rfl) rfl hro (elem1_at hx) agg9 (Wt.yes rfl rfl rfl) rfl ?_
                          refine dp' 8 hok298 rfl (Pure.fieldAddr rfl fo49_0) (dl' 9 hok298 rfl rfl agg9 ?_)
                          refine dp' 10 hok298 rfl (Pure.seql rfl rfl) (dp' 11 hok298 rfl (Pure.pickF rfl rfl) ?_)
                          refine RunD.nilR (by kernel_rfl) ?_
                          refine Run.cond rfl (fun c1 => ?_) (fun c1 => ?_)
                          · try simp only [Z] at c1
                            refine sr' (as' rfl (nl' ?_))
                            exact rt' Tryz.func106 (res1 rfl rfl) (by exact ⟨by rw [evMay_no (i := i) (by omega) (parOk_no2 hx (by first | exact bl_inj (by simp_all) | simp_all))], rfl⟩)
                          · try simp only [Z] at c1
                            refine sk' (sq' ?_)
                            refine Run.regionD' (by kernel_rfl) (by kernel_rfl) (fun hok339 => ?_)
                            refine dp' 0 hok339 rfl (Pure.move rfl) (dp' 1 hok339 rfl (Pure.gtr rfl rfl) (dp' 2 hok339 rfl (Pure.move rfl) ?_))
                            refine RunD.split (d := 91) rfl (fun c2 => ?_) (fun c2 => ?_)
                            · try simp only [Z] at c2
                              obtain ⟨q, hq⟩ := get_some (xs := ps) (i := i - 1) (by omega)
                              refine dp' 3 hok339 rfl (Pure.fieldAddr rfl fo49_2) (dl' 4 hok339 rfl rfl agg47 ?_)
                              refine dp' 5 hok339 rfl (Pure.move rfl) ?_
                              first | refine RunD.pure (i := 6) hok339 rfl (by kernel_rfl) (Pure.subI rfl rfl (by omega)) (Wt.yes rfl rfl rfl) rfl rfl ?_ | refine RunD.pure (i := 6) hok339 rfl (by kernel_rfl) (Pure.sub rfl rfl) (Wt.yes rfl rfl rfl) rfl rfl ?_
                              refine dp' 7 hok339 rfl (Pure.max2 rfl rfl) ?_
                              refine dp' 8 hok339 rfl (Pure.indexAddr (opvSl rfl hpa) rfl und47 sz9 (by omega) (by omega)) ?_
                              refine RunD.load1R (i := 9) hok339 rfl (by kernel_rfl) rfl hro (elem1_at (show ps[(max ((i : Int) - 1) 0).toNat]? = some q from by rw [show (max ((i : Int) - 1) 0).toNat = i - 1 from by omega]; exact hq)) agg9 (Wt.yes rfl rfl rfl) rfl ?_
                              refine dp' 10 hok339 rfl (Pure.fieldAddr rfl fo49_2) (dl' 11 hok339 rfl rfl agg47 ?_)
                              refine dp' 12 hok339 rfl (Pure.move rfl) ?_
                              refine dp' 13 hok339 rfl (Pure.indexAddr (opvSl rfl hpa) rfl und47 sz9 (by omega) (by omega)) ?_
                              refine RunD.load1R (i := 14) hok339 rfl (by kernel_rfl) rfl hro (elem1_at hx) agg9 (Wt.yes rfl rfl rfl) rfl ?_
                              refine dp' 15 hok339 rfl (Pure.sgeq rfl rfl) (dp' 16 hok339 rfl (Pure.pickT rfl rfl) ?_)
                              refine RunD.nilR (by kernel_rfl) ?_
                              refine Run.cond rfl (fun c3 => ?_) (fun c3 => ?_)
                              · try simp only [Z] at c3
                                refine sr' (as' rfl (nl' ?_))
                                exact rt' Tryz.func106 (res1 rfl rfl) (by exact ⟨by rw [evMay_no (i := i) (by omega) (parOk_no3 hx (by omega) hq (by have l_ := @leq_less p q; have l2_ := @leq_less q p; first | (simp_all; done) | (clear hs hro hall hz; grind)))], rfl⟩)
                              · try simp only [Z] at c3
                                refine sk' (ib' (rg' (mv' rfl ?_)))
                                first | refine RunL.pure (Pure.addI rfl rfl (by omega)) (Wt.none rfl) rfl rfl ?_ | refine RunL.pure (Pure.add rfl rfl) (Wt.none rfl) rfl rfl ?_
                                refine as' rfl (nl' ?_)
                                refine kp' [1, 7] ?_
                                exact ag' F ih (by exact ⟨i + 1, by omega, fun j hj => by (rcases Nat.lt_or_ge j i with q_ | q_; exact hall j q_; have : j = i := (by omega); subst this; exact ⟨p, hx, by simp_all, fun z => by simp_all, fun _ => ⟨q, hq, by have l_ := @leq_less p q; have l2_ := @leq_less q p; first | (simp_all; done) | (clear hs hro hall hz; grind)⟩⟩), rfl, rfl, rfl⟩)
                            · try simp only [Z] at c2
                              refine dn' 3 hok339 rfl (dn' 4 hok339 rfl (dn' 5 hok339 rfl (dn' 6 hok339 rfl (dn' 7 hok339 rfl (dn' 8 hok339 rfl (dn' 9 hok339 rfl (dn' 10 hok339 rfl (dn' 11 hok339 rfl (dn' 12 hok339 rfl (dn' 13 hok339 rfl (dn' 14 hok339 rfl (dn' 15 hok339 rfl (dp' 16 hok339 rfl (Pure.pickF rfl rfl) ?_)))))))))))))
                              refine RunD.nilR (by kernel_rfl) ?_
                              refine cF' (sk' (ib' (rg' (mv' rfl ?_))))
                              first | refine RunL.pure (Pure.addI rfl rfl (by omega)) (Wt.none rfl) rfl rfl ?_ | refine RunL.pure (Pure.add rfl rfl) (Wt.none rfl) rfl rfl ?_
                              refine as' rfl (nl' ?_)
                              refine kp' [1, 7] ?_
                              exact ag' F ih (by exact ⟨i + 1, by omega, fun j hj => by (rcases Nat.lt_or_ge j i with q_ | q_; exact hall j q_; have : j = i := (by omega); subst this; exact ⟨p, hx, by simp_all, fun z => by simp_all, fun z => by omega⟩), rfl, rfl, rfl⟩)
                      · try simp only [Z] at l0
                        refine ex' rfl (sr' (as' rfl (nl' ?_)))
                        exact rt' Tryz.func106 (res1 rfl rfl) (by exact ⟨by rw [evMay_yes hh ht (fun j q_ => hall j (by omega))], rfl⟩)
              · try simp only [Z] at t0
                have t0' : e.thread = .empty := by first | exact bl_inj t0 | exact bl_inj (by simpa using t0)
                have ht : thrOk e = true := by first | (simp_all [headOk, thrOk]; done) | (simp [headOk, thrOk]; omega) | grind [headOk, thrOk]
                refine sk' (sq' (sr' (as' rfl (nl' (bl' ?_)))))
                refine kp' [1, 7] ?_
                refine lp' F (fun n e_ A => ∃ (i : Nat), i ≤ ps.length ∧ (∀ j, j < i → parOk e.id ps j) ∧ n = ps.length - i ∧ e_ = [(1, .pointer (some ⟨b1, 0, none⟩)), (7, .int .i64 (i : Nat))] ∧ A = F) (ps.length) (by exact ⟨0, by omega, fun j q => by omega, rfl, rfl, rfl⟩) ?_
                rintro n _ _ ⟨i, hi, hall, rfl, rfl, hA_⟩ ih
                replace hA_ := hA_.symm; subst hA_
                refine sq' (sr' (mv' rfl (pp' (Pure.fieldAddr rfl fo49_2) (l1' rfl agg47 ?_))))
                refine pp' (Pure.lenSl rfl rfl und47) (pp' (Pure.lss rfl rfl) (nl' ?_))
                refine Run.cond rfl (fun l0 => ?_) (fun l0 => ?_)
                · try simp only [Z] at l0
                  obtain ⟨p, hx⟩ := get_some (xs := ps) (i := i) (by omega)
                  obtain ⟨bb, Tb, preb, postb, hpa, hro⟩ := hs.open1 (show 0 < ps.length by omega)
                  have hpz := hz p (List.mem_of_getElem? hx)
                  refine sk' (sq' (bl' (sr' (pp' (Pure.fieldAddr rfl fo49_2) (l1' rfl agg47 ?_)))))
                  refine mv' rfl ?_
                  refine pp' (Pure.indexAddr (opvSl rfl hpa) rfl und47 sz9 (by omega) (by omega)) ?_
                  refine RunL.load1R rfl hro (elem1_at hx) agg9 (Wt.none rfl) rfl ?_
                  refine ca' rfl rfl (s := rEvent_ctr (by first | assumption | omega | (simp only [mkS_size, List.length_take, List.length_drop, bl_length]; omega) | (simp only [mkS_size, size_app, List.length_take, List.length_drop, List.length_append, bl_length, List.length_cons, List.length_nil, size_mk]; omega))) (q := ?_)
                  rintro _ _ ⟨rfl, hA_⟩
                  replace hA_ := hA_.symm; subst hA_
                  refine as' rfl (nl' (sq' (sq' ?_)))
                  refine Run.regionD' (by kernel_rfl) (by kernel_rfl) (fun hok453 => ?_)
                  refine dp' 0 hok453 rfl (Pure.move rfl) (dp' 1 hok453 rfl (Pure.not rfl) (dp' 2 hok453 rfl (Pure.move rfl) ?_))
                  refine RunD.split (d := 79) rfl (fun c0 => ?_) (fun c0 => ?_)
                  · try simp only [Z] at c0
                    refine dn' 3 hok453 rfl (dn' 4 hok453 rfl (dn' 5 hok453 rfl (dn' 6 hok453 rfl (dn' 7 hok453 rfl (dn' 8 hok453 rfl (dn' 9 hok453 rfl (dn' 10 hok453 rfl (dp' 11 hok453 rfl (Pure.pickT rfl rfl) ?_))))))))
                    refine RunD.nilR (by kernel_rfl) ?_
                    refine cT' (sr' (as' rfl (nl' ?_)))
                    exact rt' Tryz.func106 (res1 rfl rfl) (by exact ⟨by rw [evMay_no (i := i) (by omega) (parOk_no1 hx (by simp_all))], rfl⟩)
                  · try simp only [Z] at c0
                    refine dp' 3 hok453 rfl (Pure.fieldAddr rfl fo49_2) (dl' 4 hok453 rfl rfl agg47 ?_)
                    refine dp' 5 hok453 rfl (Pure.move rfl) ?_
                    refine dp' 6 hok453 rfl (Pure.indexAddr (opvSl rfl hpa) rfl und47 sz9 (by omega) (by omega)) ?_
                    refine RunD.load1R (i := 7) hok453 rfl (by kernel_rfl) rfl hro (elem1_at hx) agg9 (Wt.yes rfl rfl rfl) rfl ?_
                    refine dp' 8 hok453 rfl (Pure.fieldAddr rfl fo49_0) (dl' 9 hok453 rfl rfl agg9 ?_)
                    refine dp' 10 hok453 rfl (Pure.seql rfl rfl) (dp' 11 hok453 rfl (Pure.pickF rfl rfl) ?_)
                    refine RunD.nilR (by kernel_rfl) ?_
                    refine Run.cond rfl (fun c1 => ?_) (fun c1 => ?_)
                    · try simp only [Z] at c1
                      refine sr' (as' rfl (nl' ?_))
                      exact rt' Tryz.func106 (res1 rfl rfl) (by exact ⟨by rw [evMay_no (i := i) (by omega) (parOk_no2 hx (by first | exact bl_inj (by simp_all) | simp_all))], rfl⟩)
                    · try simp only [Z] at c1
                      refine sk' (sq' ?_)
                      refine Run.regionD' (by kernel_rfl) (by kernel_rfl) (fun hok494 => ?_)
                      refine dp' 0 hok494 rfl (Pure.move rfl) (dp' 1 hok494 rfl (Pure.gtr rfl rfl) (dp' 2 hok494 rfl (Pure.move rfl) ?_))
                      refine RunD.split (d := 91) rfl (fun c2 => ?_) (fun c2 => ?_)
                      · try simp only [Z] at c2
                        obtain ⟨q, hq⟩ := get_some (xs := ps) (i := i - 1) (by omega)
                        refine dp' 3 hok494 rfl (Pure.fieldAddr rfl fo49_2) (dl' 4 hok494 rfl rfl agg47 ?_)
                        refine dp' 5 hok494 rfl (Pure.move rfl) ?_
                        first | refine RunD.pure (i := 6) hok494 rfl (by kernel_rfl) (Pure.subI rfl rfl (by omega)) (Wt.yes rfl rfl rfl) rfl rfl ?_ | refine RunD.pure (i := 6) hok494 rfl (by kernel_rfl) (Pure.sub rfl rfl) (Wt.yes rfl rfl rfl) rfl rfl ?_
                        refine dp' 7 hok494 rfl (Pure.max2 rfl rfl) ?_
                        refine dp' 8 hok494 rfl (Pure.indexAddr (opvSl rfl hpa) rfl und47 sz9 (by omega) (by omega)) ?_
                        refine RunD.load1R (i := 9) hok494 rfl (by kernel_rfl) rfl hro (elem1_at (show ps[(max ((i : Int) - 1) 0).toNat]? = some q from by rw [show (max ((i : Int) - 1) 0).toNat = i - 1 from by omega]; exact hq)) agg9 (Wt.yes rfl rfl rfl) rfl ?_
                        refine dp' 10 hok494 rfl (Pure.fieldAddr rfl fo49_2) (dl' 11 hok494 rfl rfl agg47 ?_)
                        refine dp' 12 hok494 rfl (Pure.move rfl) ?_
                        refine dp' 13 hok494 rfl (Pure.indexAddr (opvSl rfl hpa) rfl und47 sz9 (by omega) (by omega)) ?_
                        refine RunD.load1R (i := 14) hok494 rfl (by kernel_rfl) rfl hro (elem1_at hx) agg9 (Wt.yes rfl rfl rfl) rfl ?_
                        refine dp' 15 hok494 rfl (Pure.sgeq rfl rfl) (dp' 16 hok494 rfl (Pure.pickT rfl rfl) ?_)
                        refine RunD.nilR (by kernel_rfl) ?_
                        refine Run.cond rfl (fun c3 => ?_) (fun c3 => ?_)
                        · try simp only [Z] at c3
                          refine sr' (as' rfl (nl' ?_))
                          exact rt' Tryz.func106 (res1 rfl rfl) (by exact ⟨by rw [evMay_no (i := i) (by omega) (parOk_no3 hx (by omega) hq (by have l_ := @leq_less p q; have l2_ := @leq_less q p; first | (simp_all; done) | (clear hs hro hall hz; grind)))], rfl⟩)
                        · try simp only [Z] at c3
                          refine sk' (ib' (rg' (mv' rfl ?_)))
                          first | refine RunL.pure (Pure.addI rfl rfl (by omega)) (Wt.none rfl) rfl rfl ?_ | refine RunL.pure (Pure.add rfl rfl) (Wt.none rfl) rfl rfl ?_
                          refine as' rfl (nl' ?_)
                          refine kp' [1, 7] ?_
                          exact ag' F ih (by exact ⟨i + 1, by omega, fun j hj => by (rcases Nat.lt_or_ge j i with q_ | q_; exact hall j q_; have : j = i := (by omega); subst this; exact ⟨p, hx, by simp_all, fun z => by simp_all, fun _ => ⟨q, hq, by have l_ := @leq_less p q; have l2_ := @leq_less q p; first | (simp_all; done) | (clear hs hro hall hz; grind)⟩⟩), rfl, rfl, rfl⟩)
                      · try simp only [Z] at c2
                        refine dn' 3 hok494 rfl (dn' 4 hok494 rfl (dn' 5 hok494 rfl (dn' 6 hok494 rfl (dn' 7 hok494 rfl (dn' 8 hok494 rfl (dn' 9 hok494 rfl (dn' 10 hok494 rfl (dn' 11 hok494 rfl (dn' 12 hok494 rfl (dn' 13 hok494 rfl (dn' 14 hok494 rfl (dn' 15 hok494 rfl (dp' 16 hok494 rfl (Pure.pickF rfl rfl) ?_)))))))))))))
                        refine RunD.nilR (by kernel_rfl) ?_
                        refine cF' (sk' (ib' (rg' (mv' rfl ?_))))
                        first | refine RunL.pure (Pure.addI rfl rfl (by omega)) (Wt.none rfl) rfl rfl ?_ | refine RunL.pure (Pure.add rfl rfl) (Wt.none rfl) rfl rfl ?_
                        refine as' rfl (nl' ?_)
                        refine kp' [1, 7] ?_
                        exact ag' F ih (by exact ⟨i + 1, by omega, fun j hj => by (rcases Nat.lt_or_ge j i with q_ | q_; exact hall j q_; have : j = i := (by omega); subst this; exact ⟨p, hx, by simp_all, fun z => by simp_all, fun z => by omega⟩), rfl, rfl, rfl⟩)
                · try simp only [Z] at l0
                  refine ex' rfl (sr' (as' rfl (nl' ?_)))
                  exact rt' Tryz.func106 (res1 rfl rfl) (by exact ⟨by rw [evMay_yes hh ht (fun j q_ => hall j (by omega))], rfl⟩)

end Go.Proofs.YtaaondbmkibkkaaGreat
