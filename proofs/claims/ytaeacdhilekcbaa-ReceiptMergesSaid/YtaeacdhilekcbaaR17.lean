/- Two tables put together. -/
import Derived.Test.YtaeacdhilekcbaaR15
set_option linter.unusedVariables false
set_option linter.unusedSimpArgs false
namespace Go.Proofs.Ytaeacdhilekcbaa
open Go Csl


set_option maxHeartbeats 4000000 in
set_option maxRecDepth 100000 in
theorem ReceiptMerges_ctr {G : Gp} {a b : Option Addr} {l m : List M} {cap cap2 : Nat} (hl : SlR G 28 6 a l.length (l.flatMap cM)) (okl : ∀ x ∈ l, okM x) (hbl : l.length ≤ 9223372036854775807) (hm : SlR G 28 6 b m.length (m.flatMap cM)) (okm : ∀ x ∈ m, okM x) (hbm : m.length ≤ 9223372036854775807) :
    Ctr Try.prog G 7 [.slice a l.length cap, .slice b m.length cap2] [] (fun F v A => v = .bool true ∧ A = F) := by
  refine Ctr.intro Try.func7 rfl (by kernel_rfl) rfl (fun F => ?_)
  simp only [List.nil_append]
  refine Run.sr ?_
  refine RunL.as rfl rfl ?_
  refine RunL.nil ?_
  refine Run.sr ?_
  refine RunL.mv rfl rfl ?_
  refine RunL.call rfl rfl (by rfl) (by repeat (first | (with_reducible exact Take.nil _) | (apply Take.cons (by first | ((repeat (first | (with_reducible exact F0 _) | apply F1)); done) | (repeat (first | exact F0 _ | apply F1)))))) (fill_ctr (l := l) (most := 8) (good := true) hl okl hbl (by decide) (by decide)) (Wt.none rfl) rfl ?_
  rintro _ _ ⟨pa, ax, cx, rfl, hA_⟩
  replace hA_ := hA_.symm; subst hA_
  have hknta := fillT_KN (if true = true then goodM else fewM) (l.take (8 : Int).toNat)
  have hlnta := fillT_len (if true = true then goodM else fewM) (l.take (8 : Int).toNat)
  have hlmta : (l.take (8 : Int).toNat).length ≤ 8 := by rw [List.length_take]; omega
  have hc1ta : C1 ((l.take (8 : Int).toNat).map goodM) (fillT (if true = true then goodM else fewM) (l.take (8 : Int).toNat)) := fillT_C1 goodM _
  have hc2ta : ∀ y_ ∈ (l.take (8 : Int).toNat).map goodM, C2 y_ (fillT (if true = true then goodM else fewM) (l.take (8 : Int).toNat)) := fillT_C2 goodM _
  generalize hta_ : fillT (if true = true then goodM else fewM) (l.take (8 : Int).toNat) = ta at *
  have hmlta := ML_len ta
  refine RunL.mv rfl rfl ?_
  refine RunL.pure (Pure.extract rfl rfl) (Wt.none rfl) rfl rfl ?_
  refine RunL.pure (Pure.extract rfl rfl) (Wt.none rfl) rfl rfl ?_
  refine RunL.as rfl rfl ?_
  refine RunL.as rfl rfl ?_
  refine RunL.nil ?_
  refine Run.sr ?_
  refine RunL.mv rfl rfl ?_
  refine RunL.call rfl rfl (by rfl) (by repeat (first | (with_reducible exact Take.nil _) | (apply Take.cons (by first | ((repeat (first | (with_reducible exact F0 _) | apply F1)); done) | (repeat (first | exact F0 _ | apply F1)))))) (fill_ctr (l := m) (most := 8) (good := true) hm okm hbm (by decide) (by decide)) (Wt.none rfl) rfl ?_
  rintro _ _ ⟨pb, ay, cy, rfl, hA_⟩
  replace hA_ := hA_.symm; subst hA_
  have hkntb := fillT_KN (if true = true then goodM else fewM) (m.take (8 : Int).toNat)
  have hlntb := fillT_len (if true = true then goodM else fewM) (m.take (8 : Int).toNat)
  have hlmtb : (m.take (8 : Int).toNat).length ≤ 8 := by rw [List.length_take]; omega
  have hc1tb : C1 ((m.take (8 : Int).toNat).map goodM) (fillT (if true = true then goodM else fewM) (m.take (8 : Int).toNat)) := fillT_C1 goodM _
  have hc2tb : ∀ y_ ∈ (m.take (8 : Int).toNat).map goodM, C2 y_ (fillT (if true = true then goodM else fewM) (m.take (8 : Int).toNat)) := fillT_C2 goodM _
  generalize htb_ : fillT (if true = true then goodM else fewM) (m.take (8 : Int).toNat) = tb at *
  have hmltb := ML_len tb
  refine RunL.mv rfl rfl ?_
  refine RunL.pure (Pure.extract rfl rfl) (Wt.none rfl) rfl rfl ?_
  refine RunL.pure (Pure.extract rfl rfl) (Wt.none rfl) rfl rfl ?_
  refine RunL.as rfl rfl ?_
  refine RunL.as rfl rfl ?_
  refine RunL.nil ?_
  refine Run.sr ?_
  refine RunL.mv rfl rfl ?_
  skip
  refine RunL.call rfl rfl (by rfl) (by repeat (first | (with_reducible exact Take.nil _) | (apply Take.cons (by first | ((repeat (first | (with_reducible exact F0 _) | apply F1)); done) | (repeat (first | exact F0 _ | apply F1)))))) (fill_ctr (l := m) (most := 8) (good := true) hm okm hbm (by decide) (by decide)) (Wt.none rfl) rfl ?_
  rintro _ _ ⟨pc, az, cz, rfl, hA_⟩
  replace hA_ := hA_.symm; subst hA_
  rw [htb_]
  refine RunL.mv rfl rfl ?_
  refine RunL.pure (Pure.extract rfl rfl) (Wt.none rfl) rfl rfl ?_
  refine RunL.pure (Pure.extract rfl rfl) (Wt.none rfl) rfl rfl ?_
  refine RunL.as rfl rfl ?_
  refine RunL.as rfl rfl ?_
  refine RunL.nil ?_
  refine Run.seq ?_
  refine Run.sr ?_
  refine RunL.mv rfl rfl ?_
  refine RunL.pure (Pure.ptrEqNil rfl rfl und29) (Wt.none rfl) rfl rfl ?_
  refine RunL.mv rfl rfl ?_
  refine RunL.pure (Pure.move rfl) (Wt.yes rfl rfl rfl) rfl rfl ?_
  refine RunL.pure (Pure.ptrEqNil rfl rfl und29) (Wt.yes rfl rfl rfl) rfl rfl ?_
  refine RunL.pure (Pure.pickF rfl rfl) (Wt.none rfl) rfl rfl ?_
  refine RunL.mv rfl rfl ?_
  refine RunL.pure (Pure.move rfl) (Wt.yes rfl rfl rfl) rfl rfl ?_
  refine RunL.pure (Pure.ptrEqNil rfl rfl und29) (Wt.yes rfl rfl rfl) rfl rfl ?_
  refine RunL.pure (Pure.pickF rfl rfl) (Wt.none rfl) rfl rfl ?_
  refine RunL.nil ?_
  refine Run.condF rfl ?_
  refine Run.skip ?_
  refine Run.lendAll (Q := Sl 28 6 ay (ML tb).length cy ((ML tb).flatMap cM)) Lends.Sl (by first | ((repeat (first | (with_reducible exact F0 _) | apply F1)); done) | (repeat (first | exact F0 _ | apply F1))) (fun GhY hleGhY hY => ?_)
  replace hl := hl.mono hleGhY
  replace hm := hm.mono hleGhY
  obtain ⟨hY, hYc⟩ := hY
  refine Run.sr ?_
  refine RunL.mv rfl rfl ?_
  refine RunL.as rfl rfl ?_
  refine RunL.nil ?_
  refine Run.sr ?_
  refine RunL.as rfl rfl ?_
  refine RunL.nil ?_
  refine Run.seq ?_
  refine Run.sr ?_
  refine RunL.as rfl rfl ?_
  refine RunL.nil ?_
  refine Run.block ?_
  refine Run.keep (.cons rfl (.cons rfl (.cons rfl (.cons rfl (.cons rfl (.cons rfl (.cons rfl (.nil))))))) : Keep _ [5, 7, 8, 9, 11, 12, 13] _) ?_
  refine Run.loopF (F := F) (fun n e A => ∃ (i : Nat) (aw : Option Addr) (cw : Nat), i ≤ (ML tb).length ∧ n = (ML tb).length - i ∧ e = [(5, .pointer (some ⟨pa, 0, none⟩)), (7, .pointer (some ⟨pb, 0, none⟩)), (8, .slice ay (ML tb).length cy), (9, .pointer (some ⟨pc, 0, none⟩)), (11, .slice aw (ML (mergeT ta ((ML tb).take i))).length cw), (12, .int .i64 (mergeN ta ((ML tb).take i) : Nat)), (13, .int .i64 (i : Nat))] ∧ A = Sl 28 6 aw (ML (mergeT ta ((ML tb).take i))).length cw ((ML (mergeT ta ((ML tb).take i))).flatMap cM) :: Tb pa ta :: Tb pb tb :: Tb pc tb :: F) ((ML tb).length) (by exact ⟨0, ax, cx, by omega, rfl, rfl, rfl⟩) (by repeat (first | (with_reducible exact Fin.done (by repeat (first | (with_reducible exact Rest.here) | apply Rest.there))) | (apply Fin.cons (by first | ((repeat (first | (with_reducible exact F0 _) | apply F1)); done) | (repeat (first | exact F0 _ | apply F1)))))) ?_
  rintro n _ _ ⟨i, aw, cw, hi, rfl, rfl, hA_⟩ ih
  replace hA_ := hA_.symm; subst hA_
  refine Run.seq ?_
  refine Run.sr ?_
  refine RunL.mv rfl rfl ?_
  refine RunL.mv rfl rfl ?_
  refine RunL.pure (Pure.lenSl rfl rfl und22) (Wt.none rfl) rfl rfl ?_
  refine RunL.pure (Pure.lss rfl rfl) (Wt.none rfl) rfl rfl ?_
  refine RunL.nil ?_
  refine Run.cond rfl (fun h1 => ?_) (fun h1 => ?_)
  · try simp only [ZA, ZB, ZC, ZD, ZE, ZF, ZG, ZH, ZI, ZJ, ZK, ZL, ZM, ZN, ZO, ZP, ZQ, ZR] at h1
    obtain ⟨x, hx⟩ := get_some (xs := ML tb) (i := i) (by omega)
    obtain ⟨ba, Ta, prea, posta, rfl, hroa⟩ := hY.open1 (show 0 < (ML tb).length by omega)
    have hN := mergeN_le ((ML tb).take i) ta
    have hN2 : ((ML tb).take i).length ≤ i := by rw [List.length_take]; omega
    have hT0 := mergeT_len ((ML tb).take i) ta
    have hK0 := mergeT_KN ((ML tb).take i) hknta
    have hS := mergeN_succ ta hx
    have hT := mergeT_succ ta hx
    refine Run.skip ?_
    refine Run.seq ?_
    refine Run.block ?_
    refine Run.seq ?_
    refine Run.regionD' (by kernel_rfl) (by kernel_rfl) (fun hok108 => ?_)
    refine RunD.pure (i := 0) hok108 rfl (by kernel_rfl) (Pure.move rfl) (Wt.none rfl) rfl rfl ?_
    refine RunD.pure (i := 1) hok108 rfl (by kernel_rfl) (Pure.move rfl) (Wt.none rfl) rfl rfl ?_
    refine RunD.pure (i := 2) hok108 rfl (by kernel_rfl) (Pure.move rfl) (Wt.none rfl) rfl rfl ?_
    refine RunD.pure (i := 3) hok108 rfl (by kernel_rfl) (Pure.indexAddr rfl rfl und22 sz28 (by omega) (by omega)) (Wt.none rfl) rfl rfl ?_
    refine RunD.pure (i := 4) hok108 rfl (by kernel_rfl) (Pure.fieldAddr rfl fo28_0) (Wt.none rfl) rfl rfl ?_
    refine RunD.loadNR (vs := (cK x.k)) (i := 5) hok108 rfl (by kernel_rfl) rfl hroa agg24 sz24 (elemN_len (pre := prea) (post := posta) (f := cM) (sz := 6) (j := 0) (n := 4) (fun _ _ => rfl) hx (by decide)) ((elemN_at (pre := prea) (post := posta) (f := cM) (sz := 6) (j := 0) (n := 4) (fun _ _ => rfl) hx (by decide)).trans rfl) (Wt.none rfl) rfl ?_
    refine RunD.pure (i := 6) hok108 rfl (by kernel_rfl) (Pure.move rfl) (Wt.none rfl) rfl rfl ?_
    refine RunD.pure (i := 7) hok108 rfl (by kernel_rfl) (Pure.move rfl) (Wt.none rfl) rfl rfl ?_
    refine RunD.pure (i := 8) hok108 rfl (by kernel_rfl) (Pure.indexAddr rfl rfl und22 sz28 (by omega) (by omega)) (Wt.none rfl) rfl rfl ?_
    refine RunD.pure (i := 9) hok108 rfl (by kernel_rfl) (Pure.fieldAddr rfl fo28_1) (Wt.none rfl) rfl rfl ?_
    refine RunD.loadNR (vs := (cPos x.pos)) (i := 10) hok108 rfl (by kernel_rfl) rfl hroa agg26 sz26 (elemN_len (pre := prea) (post := posta) (f := cM) (sz := 6) (j := 4) (n := 2) (fun _ _ => rfl) hx (by decide)) ((elemN_at (pre := prea) (post := posta) (f := cM) (sz := 6) (j := 4) (n := 2) (fun _ _ => rfl) hx (by decide)).trans rfl) (Wt.none rfl) rfl ?_
    refine RunD.one (i := 11) (by kernel_rfl) rfl ?_
    refine RunL.call rfl rfl (by rfl) (by repeat (first | (with_reducible exact Take.nil _) | (apply Take.cons (by first | ((repeat (first | (with_reducible exact F0 _) | apply F1)); done) | (repeat (first | exact F0 _ | apply F1)))))) (rPut_ctr (tl := (mergeT ta ((ML tb).take i))) (k := x.k) (q := x.pos) hK0 (by omega)) (Wt.none rfl) rfl ?_
    rintro _ _ ⟨a2, c2, rfl, hA_⟩
    replace hA_ := hA_.symm; subst hA_
    refine RunL.nilD' ?_
    refine RunD.pure (i := 12) hok108 rfl (by kernel_rfl) (Pure.move rfl) (Wt.none rfl) rfl rfl ?_
    refine RunD.pure (i := 13) hok108 rfl (by kernel_rfl) (Pure.extract rfl rfl) (Wt.none rfl) rfl rfl ?_
    refine RunD.pure (i := 14) hok108 rfl (by kernel_rfl) (Pure.extract rfl rfl) (Wt.none rfl) rfl rfl ?_
    refine RunD.pure (i := 15) hok108 rfl (by kernel_rfl) (Pure.assign rfl) (Wt.none rfl) rfl rfl ?_
    refine RunD.pure (i := 16) hok108 rfl (by kernel_rfl) (Pure.assign rfl) (Wt.none rfl) rfl rfl ?_
    refine RunD.nilR (by kernel_rfl) ?_
    refine Run.sr ?_
    refine RunL.mv rfl rfl ?_
    refine RunL.as rfl rfl ?_
    refine RunL.nil ?_
    refine Run.sr ?_
    refine RunL.mv rfl rfl ?_
    refine RunL.nil ?_
    refine Run.cond rfl (fun h2 => ?_) (fun h2 => ?_)
    · try simp only [ZA, ZB, ZC, ZD, ZE, ZF, ZG, ZH, ZI, ZJ, ZK, ZL, ZM, ZN, ZO, ZP, ZQ, ZR] at h2
      refine Run.region ?_
      refine RunL.mv rfl rfl ?_
      first | refine RunL.pure (Pure.addI rfl rfl (by omega)) (Wt.none rfl) rfl rfl ?_ | refine RunL.pure (Pure.add rfl rfl) (Wt.none rfl) rfl rfl ?_
      refine RunL.as rfl rfl ?_
      refine RunL.nil ?_
      refine Run.inBlock ?_
      refine Run.region ?_
      refine RunL.mv rfl rfl ?_
      first | refine RunL.pure (Pure.addI rfl rfl (by omega)) (Wt.none rfl) rfl rfl ?_ | refine RunL.pure (Pure.add rfl rfl) (Wt.none rfl) rfl rfl ?_
      refine RunL.as rfl rfl ?_
      refine RunL.nil ?_
      rw [← hT, show ((mergeN ta ((ML tb).take i) : Nat) : Int) + 1 = ((mergeN ta ((ML tb).take (i + 1)) : Nat) : Int) from by rw [hS, h2]; simp]
      refine Run.keep (.cons rfl (.cons rfl (.cons rfl (.cons rfl (.cons rfl (.cons rfl (.cons rfl (.nil))))))) : Keep _ [5, 7, 8, 9, 11, 12, 13] _) ?_
      refine Run.againF (F := F) ih (by exact ⟨i + 1, a2, c2, by omega, rfl, rfl, rfl⟩) (by repeat (first | (with_reducible exact Fin.done (by repeat (first | (with_reducible exact Rest.here) | apply Rest.there))) | (apply Fin.cons (by first | ((repeat (first | (with_reducible exact F0 _) | apply F1)); done) | (repeat (first | exact F0 _ | apply F1)))))) ?_
      omega
    · try simp only [ZA, ZB, ZC, ZD, ZE, ZF, ZG, ZH, ZI, ZJ, ZK, ZL, ZM, ZN, ZO, ZP, ZQ, ZR] at h2
      refine Run.skip ?_
      refine Run.inBlock ?_
      refine Run.region ?_
      refine RunL.mv rfl rfl ?_
      first | refine RunL.pure (Pure.addI rfl rfl (by omega)) (Wt.none rfl) rfl rfl ?_ | refine RunL.pure (Pure.add rfl rfl) (Wt.none rfl) rfl rfl ?_
      refine RunL.as rfl rfl ?_
      refine RunL.nil ?_
      rw [← hT, show mergeN ta ((ML tb).take i) = mergeN ta ((ML tb).take (i + 1)) from by rw [hS, h2]; simp]
      refine Run.keep (.cons rfl (.cons rfl (.cons rfl (.cons rfl (.cons rfl (.cons rfl (.cons rfl (.nil))))))) : Keep _ [5, 7, 8, 9, 11, 12, 13] _) ?_
      refine Run.againF (F := F) ih (by exact ⟨i + 1, a2, c2, by omega, rfl, rfl, rfl⟩) (by repeat (first | (with_reducible exact Fin.done (by repeat (first | (with_reducible exact Rest.here) | apply Rest.there))) | (apply Fin.cons (by first | ((repeat (first | (with_reducible exact F0 _) | apply F1)); done) | (repeat (first | exact F0 _ | apply F1)))))) ?_
      omega
  · try simp only [ZA, ZB, ZC, ZD, ZE, ZF, ZG, ZH, ZI, ZJ, ZK, ZL, ZM, ZN, ZO, ZP, ZQ, ZR] at h1
    rw [show (ML tb).take i = ML tb from List.take_of_length_le (by omega)]
    have hkw := mergeT_KN (ML tb) hknta
    have hlw := mergeT_len (ML tb) ta
    have hmlw := ML_len (mergeT ta (ML tb))
    have hback := merge_back hknta hkntb
    have hagain := merge_again hknta hkntb
    have hkb2 := mergeT_KN (ML (mergeT ta (ML tb))) hkntb
    have hlb2 := mergeT_len (ML (mergeT ta (ML tb))) tb
    refine Run.exit rfl ?_
    refine Run.sr ?_
    refine RunL.mv rfl rfl ?_
    refine RunL.mv rfl rfl ?_
    refine RunL.call rfl rfl (by rfl) (by repeat (first | (with_reducible exact Take.nil _) | (apply Take.cons (by first | ((repeat (first | (with_reducible exact F0 _) | apply F1)); done) | (repeat (first | exact F0 _ | apply F1)))))) (Merge_ctr (p := pa) (u := pb) hkntb (by omega)) (Wt.none rfl) rfl ?_
    rintro _ _ ⟨rfl, hA_⟩
    replace hA_ := hA_.symm; subst hA_
    refine RunL.as rfl rfl ?_
    refine RunL.nil ?_
    refine Run.sr ?_
    refine RunL.mv rfl rfl ?_
    refine RunL.mv rfl rfl ?_
    refine RunL.call rfl rfl (by rfl) (by repeat (first | (with_reducible exact Take.nil _) | (apply Take.cons (by first | ((repeat (first | (with_reducible exact F0 _) | apply F1)); done) | (repeat (first | exact F0 _ | apply F1)))))) (Merge_ctr (p := pb) (u := pa) hkw (by omega)) (Wt.none rfl) rfl ?_
    rintro _ _ ⟨rfl, hA_⟩
    replace hA_ := hA_.symm; subst hA_
    refine RunL.nil ?_
    refine Run.sr ?_
    refine RunL.mv rfl rfl ?_
    refine RunL.mv rfl rfl ?_
    refine RunL.call rfl rfl (by rfl) (by repeat (first | (with_reducible exact Take.nil _) | (apply Take.cons (by first | ((repeat (first | (with_reducible exact F0 _) | apply F1)); done) | (repeat (first | exact F0 _ | apply F1)))))) (Merge_ctr (p := pa) (u := pc) hkntb (by omega)) (Wt.none rfl) rfl ?_
    rintro _ _ ⟨rfl, hA_⟩
    replace hA_ := hA_.symm; subst hA_
    rw [hagain.1, hagain.2]
    refine RunL.as rfl rfl ?_
    refine RunL.nil ?_
    refine Run.sr ?_
    refine RunL.mv rfl rfl ?_
    refine RunL.mv rfl rfl ?_
    refine RunL.pure (Pure.eql rfl rfl) (Wt.none rfl) rfl rfl ?_
    refine RunL.mv rfl rfl ?_
    refine RunL.split (d := 81) rfl (fun hg1 => ?_) (fun hg1 => ?_)
    rotate_left
    · try simp only [ZA, ZB, ZC, ZD, ZE, ZF, ZG, ZH, ZI, ZJ, ZK, ZL, ZM, ZN, ZO, ZP, ZQ, ZR] at hg1
      exfalso
      first | exact hg1 rfl | simp at hg1
    try simp only [ZA, ZB, ZC, ZD, ZE, ZF, ZG, ZH, ZI, ZJ, ZK, ZL, ZM, ZN, ZO, ZP, ZQ, ZR] at hg1
    refine RunL.pure (Pure.move rfl) (Wt.yes rfl rfl rfl) rfl rfl ?_
    refine RunL.call rfl rfl (by rfl) (by repeat (first | (with_reducible exact Take.nil _) | (apply Take.cons (by first | ((repeat (first | (with_reducible exact F0 _) | apply F1)); done) | (repeat (first | exact F0 _ | apply F1)))))) (AllO_ctr (p := pa) hkw (by omega)) (Wt.yes rfl rfl rfl) rfl ?_
    rintro _ _ ⟨a3, c3, rfl, hA_⟩
    replace hA_ := hA_.symm; subst hA_
    refine RunL.pure (Pure.move rfl) (Wt.yes rfl rfl rfl) rfl rfl ?_
    refine RunL.call rfl rfl (by rfl) (by repeat (first | (with_reducible exact Take.nil _) | (apply Take.cons (by first | ((repeat (first | (with_reducible exact F0 _) | apply F1)); done) | (repeat (first | exact F0 _ | apply F1)))))) (likeO_ctr (by omega)) (Wt.yes rfl rfl rfl) rfl ?_
    rintro _ _ ⟨rfl, hA_⟩
    replace hA_ := hA_.symm; subst hA_
    refine RunL.pure (Pure.pickT rfl rfl) (Wt.none rfl) rfl rfl ?_
    refine RunL.mv rfl rfl ?_
    refine RunL.pure (Pure.move rfl) (Wt.yes rfl rfl rfl) rfl rfl ?_
    refine RunL.call rfl rfl (by rfl) (by repeat (first | (with_reducible exact Take.nil _) | (apply Take.cons (by first | ((repeat (first | (with_reducible exact F0 _) | apply F1)); done) | (repeat (first | exact F0 _ | apply F1)))))) (AllO_ctr (p := pb) hkb2 (by omega)) (Wt.yes rfl rfl rfl) rfl ?_
    rintro _ _ ⟨a4, c4, rfl, hA_⟩
    replace hA_ := hA_.symm; subst hA_
    rw [hback]
    refine RunL.pure (Pure.move rfl) (Wt.yes rfl rfl rfl) rfl rfl ?_
    refine RunL.call rfl rfl (by rfl) (by repeat (first | (with_reducible exact Take.nil _) | (apply Take.cons (by first | ((repeat (first | (with_reducible exact F0 _) | apply F1)); done) | (repeat (first | exact F0 _ | apply F1)))))) (likeO_ctr (by omega)) (Wt.yes rfl rfl rfl) rfl ?_
    rintro _ _ ⟨rfl, hA_⟩
    replace hA_ := hA_.symm; subst hA_
    refine RunL.pure (Pure.pickT rfl rfl) (Wt.none rfl) rfl rfl ?_
    refine RunL.mv rfl rfl ?_
    refine RunL.pure (Pure.move rfl) (Wt.yes rfl rfl rfl) rfl rfl ?_
    refine RunL.pure (Pure.eql rfl rfl) (Wt.yes rfl rfl rfl) rfl rfl ?_
    refine RunL.pure (Pure.pickT rfl rfl) (Wt.none rfl) rfl rfl ?_
    refine RunL.mv rfl rfl ?_
    refine RunL.split (d := 97) rfl (fun hg2 => ?_) (fun hg2 => ?_)
    rotate_left
    · try simp only [ZA, ZB, ZC, ZD, ZE, ZF, ZG, ZH, ZI, ZJ, ZK, ZL, ZM, ZN, ZO, ZP, ZQ, ZR] at hg2
      exfalso
      first | exact hg2 rfl | simp at hg2
    try simp only [ZA, ZB, ZC, ZD, ZE, ZF, ZG, ZH, ZI, ZJ, ZK, ZL, ZM, ZN, ZO, ZP, ZQ, ZR] at hg2
    refine RunL.pure (Pure.move rfl) (Wt.yes rfl rfl rfl) rfl rfl ?_
    refine RunL.call rfl rfl (by rfl) (by repeat (first | (with_reducible exact Take.nil _) | (apply Take.cons (by first | ((repeat (first | (with_reducible exact F0 _) | apply F1)); done) | (repeat (first | exact F0 _ | apply F1)))))) (AllO_ctr (p := pc) hkntb (by omega)) (Wt.yes rfl rfl rfl) rfl ?_
    rintro _ _ ⟨a5, c5, rfl, hA_⟩
    replace hA_ := hA_.symm; subst hA_
    refine RunL.pure (Pure.move rfl) (Wt.yes rfl rfl rfl) rfl rfl ?_
    refine RunL.call rfl rfl (by rfl) (by repeat (first | (with_reducible exact Take.nil _) | (apply Take.cons (by first | ((repeat (first | (with_reducible exact F0 _) | apply F1)); done) | (repeat (first | exact F0 _ | apply F1)))))) (likeL_ctr hY (by omega)) (Wt.yes rfl rfl rfl) rfl ?_
    rintro _ _ ⟨rfl, hA_⟩
    replace hA_ := hA_.symm; subst hA_
    refine RunL.pure (Pure.pickT rfl rfl) (Wt.none rfl) rfl rfl ?_
    refine RunL.mv rfl rfl ?_
    refine RunL.call rfl rfl (by rfl) (by repeat (first | (with_reducible exact Take.nil _) | (apply Take.cons (by first | ((repeat (first | (with_reducible exact F0 _) | apply F1)); done) | (repeat (first | exact F0 _ | apply F1)))))) (lives_ctr) (Wt.yes rfl rfl rfl) rfl ?_
    rintro _ _ ⟨rfl, hA_⟩
    replace hA_ := hA_.symm; subst hA_
    refine RunL.pure (Pure.pickT rfl rfl) (Wt.none rfl) rfl rfl ?_
    refine RunL.as rfl rfl ?_
    refine RunL.nil ?_
    exact Run.ret Try.func7 (res1 rfl rfl) (by exact ⟨rfl, rfl⟩) (by repeat (first | (with_reducible exact Fin.done (by repeat (first | (with_reducible exact Rest.here) | apply Rest.there))) | (apply Fin.cons (by first | ((repeat (first | (with_reducible exact F0 _) | apply F1)); done) | (repeat (first | exact F0 _ | apply F1))))))

end Go.Proofs.Ytaeacdhilekcbaa
