/- Views: what is told. -/
import Derived.Test.YtaaondbmkibkkaaGreatV0
set_option linter.unusedVariables false
set_option linter.unusedSimpArgs false
set_option linter.unusedSectionVars false
namespace Go.Proofs.YtaaondbmkibkkaaGreat
open Go Csl
theorem pl102 : placesOf Tryz.prog 102 = some ([(0, 1)], (.agg #[(.map none)])) := by kernel_rfl
theorem fo102_0 : fieldOff Tryz.prog 102 0 = some 0 := by kernel_rfl
theorem agg100 : isAggOf Tryz.prog 100 = some false := by kernel_rfl
theorem und100 : Tryz.prog.underlying 100 = some (Go.TypeDesc.map 9 109) := Tryz.underlying100
theorem zz109 : zeroIs Tryz.prog 109 = some (.pointer none) := by kernel_rfl
theorem und109 : Tryz.prog.underlying 109 = some (Go.TypeDesc.pointer 156) := Tryz.underlying109
theorem fo65_0 : fieldOff Tryz.prog 65 0 = some 0 := by kernel_rfl
theorem agg63 : isAggOf Tryz.prog 63 = some false := by kernel_rfl
theorem und63 : Tryz.prog.underlying 63 = some (Go.TypeDesc.slice 76) := Tryz.underlying63
theorem agg65 : isAggOf Tryz.prog 65 = some true := by kernel_rfl
theorem sz65 : sizeIs Tryz.prog 65 = some 1 := by kernel_rfl
theorem cb68 : Callable Tryz.prog 68 := ⟨_, Tryz.func68, by kernel_rfl, by kernel_rfl⟩
theorem zz65 : zeroIs Tryz.prog 65 = some (.agg #[(.slice none 0 0)]) := by kernel_rfl
theorem by76 : bytesIs Tryz.prog 76 = some 40 := by kernel_rfl
theorem pl65 : placesOf Tryz.prog 65 = some ([(0, 1)], (.agg #[(.slice none 0 0)])) := by kernel_rfl

namespace Csl
/-- A test whose outcome is tested once more. -/
theorem Run.condS {c : Cx} {G : Gp} {k : List Item} {e : Env} {A : List HProp} {d : Nat} {y z : Code} {b : Bool} (hv : lk e d = some (.bool b)) (ht : b = true → Run c G (.code y :: k) ((d, .bool true) :: e) A) (hf : b = false → Run c G (.code z :: k) ((d, .bool false) :: e) A) : Run c G (.code (.cond (.tmp d) y z) :: k) e A := by
  have sub : ∀ u, b = u → ∀ i v, lk ((d, .bool u) :: e) i = some v → lk e i = some v := by
    intro u hu i v h
    simp only [lk] at h
    split at h
    · rename_i hb; have hb := Nat.eq_of_beq_eq_true hb; cases h; subst hb; subst hu; exact hv
    · exact h
  refine Run.cond (b := b) hv (fun hb a w ho s => ht hb a w (ho.sub (sub _ hb)) s) (fun hb a w ho s => hf hb a w (ho.sub (sub _ hb)) s)
theorem vadd_no {vl : VL} {v : Evt} (h : addRc v.room (vget vl v.room) v ≠ 0) : vaddL vl v = vl := if_neg h
theorem vadd_ok {vl : VL} {v : Evt} (h : addRc v.room (vget vl v.room) v = 0) : vaddL vl v = mput v.room (vget vl v.room ++ [v]) vl := if_pos h
theorem fits_none {l : EL} {id thread : ByteArray} (h : l.get id = none) : fitsI l id thread = 4 := by unfold fitsI; rw [h]
theorem fits_ok {l : EL} {id thread : ByteArray} {u : Evt} (h : l.get id = some u) (q : thread = .empty ∨ (thread = ⟨#[109, 97, 105, 110]⟩ ∧ u.thread = .empty) ∨ thread = id ∨ thread = u.thread) : fitsI l id thread = 0 := by unfold fitsI; rw [h]; exact if_pos q
theorem fits_no {l : EL} {id thread : ByteArray} {u : Evt} (h : l.get id = some u) (q : ¬ (thread = .empty ∨ (thread = ⟨#[109, 97, 105, 110]⟩ ∧ u.thread = .empty) ∨ thread = id ∨ thread = u.thread)) : fitsI l id thread = 7 := by unfold fitsI; rw [h]; exact if_neg q
theorem xv_vget {xs : XV} {room : ByteArray} {l : EL} (h : mget room xs.vl = some l) : vget xs.vl room = l := by unfold vget; rw [h]; rfl
theorem ins_vget2 {zs : ZV} {D : DD} {v : Evt} (h0 : addRc v.room (vget (zs.map (·.2)) v.room) v = 0) (r : ByteArray) : vget ((insE (D, v.room, addL v.room (vget (zs.map (·.2)) v.room) v) (insF v.room (D, v.room, addL v.room (vget (zs.map (·.2)) v.room) v) zs)).map (·.2)) r = vget (vaddL (zs.map (·.2)) v) r := by
  rw [ins_vget, vget_add]
theorem xv_vget0 {xs : XV} {room : ByteArray} (h : mget room xs.ids = none) : vget xs.vl room = [] := by unfold vget; rw [xv_none.1 h]; rfl
end Csl

set_option maxHeartbeats 4000000 in
set_option maxRecDepth 100000 in
theorem NewV_ctr {G : Gp} :
    Ctr Tryz.prog G 11 [] [] (fun F v A => ∃ p, v = .pointer (some ⟨p, 0, none⟩) ∧ A = Vw p [] :: F) := by
  refine Ctr.intro Tryz.func11 rfl (by kernel_rfl) rfl (fun F => ?_)
  simp only [List.nil_append]
  refine sr' (as' rfl (nl' (sr' ?_)))
  refine RunL.makeMap (Wt.none rfl) rfl ?_; intro b1
  refine pp' (Pure.buildL (ps := [(0, _)]) (zs := [(.map none)]) (xs := [_]) pl102 rfl rfl rfl rfl) ?_
  refine RunL.box rfl (Wt.none rfl) rfl ?_; intro b3
  refine as' rfl (nl' ?_)
  refine Run.starsNil ?_
  refine Run.mkVw _ ([] : XV) rfl (by repeat (first | (with_reducible exact Take.nil _) | (apply Take.cons (by first | ((repeat (first | (with_reducible exact F0 _) | apply F1)); done) | (repeat (first | exact F0 _ | apply F1)))))) ?_
  exact rt' Tryz.func11 (res1 rfl rfl) (by exact ⟨_, rfl, rfl⟩)

set_option maxHeartbeats 4000000 in
set_option maxRecDepth 100000 in
theorem room0_ctr {G : Gp} {p r : Nat} {ids : List (ByteArray × Nat)} {room : ByteArray} (hr : Ro G p 102 [.map (some r)]) (hm : MpR G r (menc eS eN ids)) :
    Ctr Tryz.prog G 54 [.pointer (some ⟨p, 0, none⟩), .string room] [] (fun F v A => (∃ pd, mget room ids = some pd ∧ v = .pointer (some ⟨pd, 0, none⟩) ∧ A = F) ∨ (mget room ids = none ∧ ∃ pd, v = .pointer (some ⟨pd, 0, none⟩) ∧ A = Dg pd room [] :: F)) := by
  refine Ctr.intro Tryz.func54 rfl (by kernel_rfl) rfl (fun F => ?_)
  simp only [List.nil_append]
  refine sr' (as' rfl (nl' (sq' (sr' (mv' rfl (pp' (Pure.nilCheck rfl) (pp' (Pure.fieldAddr rfl fo102_0) (l1' rfl agg100 ?_))))))))
  refine mv' rfl ?_
  first | refine RunL.lookup (k := room) rfl rfl (by first | ((repeat (first | (with_reducible exact F0 _) | apply F1)); done) | (repeat (first | exact F0 _ | apply F1))) und100 zz109 (KeyT.string und9) (Wt.none rfl) rfl ?_ | refine RunL.lookupR (k := room) rfl rfl (by assumption) und100 zz109 (KeyT.string und9) (Wt.none rfl) rfl ?_
  cases hg : mget room ids with
| none => ?_
| some b => ?_
  · skip
    refine as' rfl (nl' (sr' (mv' rfl (pp' (Pure.ptrNeNil0 rfl rfl und109) (nl' (cF' (sk' (sr' (mv' rfl ?_)))))))))
    refine ca' rfl rfl (s := NewD_ctr) (q := ?_)
    rintro _ _ ⟨pd, rfl, hA_⟩
    replace hA_ := hA_.symm; subst hA_
    refine as' rfl (nl' ?_)
    exact rt' Tryz.func54 (res1 rfl rfl) (by exact (.inr ⟨rfl, pd, rfl, rfl⟩))
  · skip
    refine as' rfl (nl' (sr' (mv' rfl (pp' (Pure.ptrNeNil rfl rfl und109) (nl' (cT' (sr' (mv' rfl (as' rfl (nl' ?_))))))))))
    exact rt' Tryz.func54 (res1 rfl rfl) (by exact (.inl ⟨b, rfl, rfl, rfl⟩))

set_option maxHeartbeats 4000000 in
set_option maxRecDepth 100000 in
theorem PositionV_ctr {G : Gp} {p : Nat} {vl : VL} {room id : ByteArray} (h : VwR G p vl) :
    Ctr Tryz.prog G 29 [.pointer (some ⟨p, 0, none⟩), .string room, .string id] [] (fun F v A => v = .tuple #[.agg (cPos (posAt (vget vl room) id)).toArray, .bool ((vget vl room).has id)] ∧ A = F) := by
  refine Ctr.intro Tryz.func29 rfl (by kernel_rfl) rfl (fun F => ?_)
  simp only [List.nil_append]
  obtain ⟨⟨r, xs⟩, hxl, hr, hm, hd⟩ := h
  replace hxl : XV.vl xs = vl := hxl
  subst hxl
  replace hd : ∀ y ∈ xs, DgR G y.2.1 y.1 y.2.2 := hd
  replace hr : Ro G p 102 [.map (some r)] := hr
  replace hm : MpR G r (menc eS eN xs.ids) := hm
  refine sr' ?_
  refine RunL.alloc zz69 (Wt.none rfl) rfl ?_; intro b6
  refine as' rfl (nl' (sr' (mv' rfl (mv' rfl ?_))))
  refine ca' rfl rfl (s := room0_ctr (room := room) hr hm) (q := ?_)
  rintro _ _ h0
  rcases h0 with ⟨pd, hg, rfl, hA_⟩ | ⟨hg, pd, rfl, hA_⟩
  · skip
    replace hA_ := hA_.symm; subst hA_
    obtain ⟨s, t, l, hxs, hns, hvl⟩ := xv_get hg
    have hv := xv_vget hvl
    have hdd := hd (room, pd, l) (by rw [hxs]; simp)
    replace hdd : DgR G pd room l := hdd
    refine mv' rfl ?_
    refine ca' rfl rfl (s := PositionD_ctr (id := id) hdd) (q := ?_)
    rintro _ _ ⟨rfl, hA_⟩
    replace hA_ := hA_.symm; subst hA_
    refine pp' (Pure.extract rfl rfl) (pp' (Pure.extract rfl rfl) (sW' (cPos ((posAt l id))) rfl rfl sz69 ?_))
    refine as' rfl (nl' ?_)
    exact rt' Tryz.func29 (resV2 rfl (Rv.cellN (us := (cPos ((posAt l id)))) rfl (by first | ((repeat (first | (with_reducible exact F0 _) | apply F1)); done) | (repeat (first | exact F0 _ | apply F1))) agg69 sz69 (by first | exact Nat.le_of_ble_eq_true rfl | (simp; done) | (simp; omega)) rfl) (Rv.tmp rfl)) (by exact ⟨by rw [hv]; first | done | rfl, rfl⟩)
  · skip
    replace hA_ := hA_.symm; subst hA_
    have hv := xv_vget0 hg
    refine lB' (Dg pd room []) Lends.Dg fun Ghdd hleGhdd hdd backGhdd => ?_
    have hr_Ghdd := hr.mono hleGhdd
    have hm_Ghdd := hm.mono hleGhdd
    refine mv' rfl ?_
    refine ca' rfl rfl (s := PositionD_ctr (id := id) hdd) (q := ?_)
    rintro _ _ ⟨rfl, hA_⟩
    replace hA_ := hA_.symm; subst hA_
    refine pp' (Pure.extract rfl rfl) (pp' (Pure.extract rfl rfl) (sW' (cPos ((posAt ([] : EL) id))) rfl rfl sz69 ?_))
    refine as' rfl (nl' ?_)
    refine Run.backB backGhdd ?_
    exact rt' Tryz.func29 (resV2 rfl (Rv.cellN (us := (cPos ((posAt ([] : EL) id)))) rfl (by first | ((repeat (first | (with_reducible exact F0 _) | apply F1)); done) | (repeat (first | exact F0 _ | apply F1))) agg69 sz69 (by first | exact Nat.le_of_ble_eq_true rfl | (simp; done) | (simp; omega)) rfl) (Rv.tmp rfl)) (by exact ⟨by rw [hv]; first | done | rfl, rfl⟩)

set_option maxHeartbeats 4000000 in
set_option maxRecDepth 100000 in
theorem FitsV_ctr {G : Gp} {p : Nat} {vl : VL} {room id : ByteArray} (h : VwR G p vl) {thread : ByteArray} :
    Ctr Tryz.prog G 51 [.pointer (some ⟨p, 0, none⟩), .string room, .string id, .string thread] [] (fun F v A => v = .int .i64 (fitsI (vget vl room) id thread) ∧ A = F) := by
  refine Ctr.intro Tryz.func51 rfl (by kernel_rfl) rfl (fun F => ?_)
  simp only [List.nil_append]
  obtain ⟨⟨r, xs⟩, hxl, hr, hm, hd⟩ := h
  replace hxl : XV.vl xs = vl := hxl
  subst hxl
  replace hd : ∀ y ∈ xs, DgR G y.2.1 y.1 y.2.2 := hd
  replace hr : Ro G p 102 [.map (some r)] := hr
  replace hm : MpR G r (menc eS eN xs.ids) := hm
  refine sr' (as' rfl (nl' (sr' (mv' rfl (mv' rfl ?_)))))
  refine ca' rfl rfl (s := room0_ctr (room := room) hr hm) (q := ?_)
  rintro _ _ h0
  rcases h0 with ⟨pd, hg, rfl, hA_⟩ | ⟨hg, pd, rfl, hA_⟩
  · skip
    replace hA_ := hA_.symm; subst hA_
    obtain ⟨s, t, l, hxs, hns, hvl⟩ := xv_get hg
    have hv := xv_vget hvl
    have hdd := hd (room, pd, l) (by rw [hxs]; simp)
    replace hdd : DgR G pd room l := hdd
    refine pp' (Pure.makeFunc rfl rfl) (as' rfl (nl' (sr' (mv' rfl (mv' rfl ?_)))))
    refine ca' rfl rfl (s := EventD_ctr (id := id) hdd) (q := ?_)
    rintro _ _ hE
    rcases hE with ⟨hu, rfl, hA_⟩ | ⟨u, a1, c1, hu, rfl, hA_⟩
    · skip
      replace hA_ := hA_.symm; subst hA_
      refine mv' rfl (pp' (Pure.extract rfl rfl) (pp' (Pure.extract rfl rfl) ?_))
      refine RunL.alloc zz49 (Wt.none rfl) rfl ?_; intro b10
      refine sW' (cEvn noEv) rfl rfl sz49 ?_
      refine as' rfl (nl' (sq' (bl' (sr' (mv' rfl (pp' (Pure.not rfl) (as' rfl (nl' ?_))))))))
      refine Run.cond rfl (fun hc1 => ?_) (fun hc1 => ?_)
      rotate_left
      · try simp only [Z] at hc1
        exfalso
        first | exact hc1 rfl | exact hc1 trivial | (simp at hc1; done)
      try simp only [Z] at hc1
      refine sr' (as' rfl (nl' ?_))
      exact rt' Tryz.func51 (res1 rfl rfl) (by exact ⟨by rw [hv, fits_none hu], rfl⟩)
    · skip
      replace hA_ := hA_.symm; subst hA_
      refine mv' rfl (pp' (Pure.extract rfl rfl) (pp' (Pure.extract rfl rfl) ?_))
      refine RunL.alloc zz49 (Wt.none rfl) rfl ?_; intro b10
      refine sW' (cEvn ((u.evn ⟨a1, u.ps.length, c1⟩))) rfl rfl sz49 ?_
      refine as' rfl (nl' (sq' (bl' (sr' (mv' rfl (pp' (Pure.not rfl) (as' rfl (nl' ?_))))))))
      refine Run.cond rfl (fun hc2 => ?_) (fun hc2 => ?_)
      · try simp only [Z] at hc2
        exfalso
        first | exact hc2 rfl | exact hc2 trivial | (simp at hc2; done)
      try simp only [Z] at hc2
      refine sq' (sr' (mv' rfl (pp' (Pure.seql rfl rfl) (as' rfl (nl' ?_)))))
      refine Run.condS (d := 25) rfl (fun t1 => ?_) (fun t1 => ?_)
      · try simp only [Z] at t1
        refine sk' (cT' (sr' (as' rfl (nl' ?_))))
        exact rt' Tryz.func51 (res1 rfl rfl) (by exact ⟨by rw [hv, fits_ok hu (.inl (bl_inj t1))], rfl⟩)
      · try simp only [Z] at t1
        refine sr' (mv' rfl (pp' (Pure.seql rfl rfl) (mv' rfl ?_)))
        refine RunL.split (d := 30) rfl (fun t2 => ?_) (fun t2 => ?_)
        · try simp only [Z] at t2
          refine py' (Pure.fieldAddr rfl fo49_3) (l1' rfl agg9 ?_)
          refine py' (Pure.seql rfl rfl) (pp' (Pure.pickT rfl rfl) (as' rfl (nl' ?_)))
          refine Run.condS (d := 25) rfl (fun t3 => ?_) (fun t3 => ?_)
          · try simp only [Z] at t3
            refine sk' (cT' (sr' (as' rfl (nl' ?_))))
            exact rt' Tryz.func51 (res1 rfl rfl) (by exact ⟨by rw [hv, fits_ok hu (.inr (.inl ⟨bl_inj t2, bl_inj t3⟩))], rfl⟩)
          · try simp only [Z] at t3
            refine sr' (mv' rfl (mv' rfl (pp' (Pure.seql rfl rfl) (as' rfl (nl' ?_)))))
            refine Run.condS (d := 25) rfl (fun t4 => ?_) (fun t4 => ?_)
            · try simp only [Z] at t4
              refine sk' (cT' (sr' (as' rfl (nl' ?_))))
              exact rt' Tryz.func51 (res1 rfl rfl) (by exact ⟨by rw [hv, fits_ok hu (.inr (.inr (.inl (bl_inj t4))))], rfl⟩)
            · try simp only [Z] at t4
              refine rg' (mv' rfl (pp' (Pure.fieldAddr rfl fo49_3) (l1' rfl agg9 ?_)))
              refine pp' (Pure.seql rfl rfl) (as' rfl (nl' ?_))
              refine Run.condS (d := 25) rfl (fun t5 => ?_) (fun t5 => ?_)
              · try simp only [Z] at t5
                refine sr' (as' rfl (nl' ?_))
                exact rt' Tryz.func51 (res1 rfl rfl) (by exact ⟨by rw [hv, fits_ok hu (.inr (.inr (.inr (bl_inj t5))))], rfl⟩)
              · try simp only [Z] at t5
                refine sk' (ib' (sr' (as' rfl (nl' ?_))))
                exact rt' Tryz.func51 (res1 rfl rfl) (by exact ⟨by rw [hv, fits_no hu (fun q => by rcases q with q | ⟨q, q'⟩ | q | q <;> first | exact t1 (congrArg bl q) | exact t4 (congrArg bl q) | exact t5 (congrArg bl q) | exact t2 (congrArg bl q) | exact t3 (congrArg bl q'))], rfl⟩)
        · try simp only [Z] at t2
          refine no' (no' (no' (pp' (Pure.pickF rfl rfl) (as' rfl (nl' (cF' (sr' (mv' rfl (mv' rfl (pp' (Pure.seql rfl rfl) (as' rfl (nl' ?_))))))))))))
          refine Run.condS (d := 25) rfl (fun t4 => ?_) (fun t4 => ?_)
          · try simp only [Z] at t4
            refine sk' (cT' (sr' (as' rfl (nl' ?_))))
            exact rt' Tryz.func51 (res1 rfl rfl) (by exact ⟨by rw [hv, fits_ok hu (.inr (.inr (.inl (bl_inj t4))))], rfl⟩)
          · try simp only [Z] at t4
            refine rg' (mv' rfl (pp' (Pure.fieldAddr rfl fo49_3) (l1' rfl agg9 ?_)))
            refine pp' (Pure.seql rfl rfl) (as' rfl (nl' ?_))
            refine Run.condS (d := 25) rfl (fun t5 => ?_) (fun t5 => ?_)
            · try simp only [Z] at t5
              refine sr' (as' rfl (nl' ?_))
              exact rt' Tryz.func51 (res1 rfl rfl) (by exact ⟨by rw [hv, fits_ok hu (.inr (.inr (.inr (bl_inj t5))))], rfl⟩)
            · try simp only [Z] at t5
              refine sk' (ib' (sr' (as' rfl (nl' ?_))))
              exact rt' Tryz.func51 (res1 rfl rfl) (by exact ⟨by rw [hv, fits_no hu (fun q => by rcases q with q | ⟨q, q'⟩ | q | q <;> first | exact t1 (congrArg bl q) | exact t4 (congrArg bl q) | exact t5 (congrArg bl q) | exact t2 (congrArg bl q) | exact t3 (congrArg bl q'))], rfl⟩)
  · skip
    replace hA_ := hA_.symm; subst hA_
    have hv := xv_vget0 hg
    refine lB' (Dg pd room []) Lends.Dg fun Ghdd hleGhdd hdd backGhdd => ?_
    have hr_Ghdd := hr.mono hleGhdd
    have hm_Ghdd := hm.mono hleGhdd
    refine pp' (Pure.makeFunc rfl rfl) (as' rfl (nl' (sr' (mv' rfl (mv' rfl ?_)))))
    refine ca' rfl rfl (s := EventD_ctr (id := id) hdd) (q := ?_)
    rintro _ _ hE
    rcases hE with ⟨hu, rfl, hA_⟩ | ⟨u, a1, c1, hu, rfl, hA_⟩
    · skip
      replace hA_ := hA_.symm; subst hA_
      refine mv' rfl (pp' (Pure.extract rfl rfl) (pp' (Pure.extract rfl rfl) ?_))
      refine RunL.alloc zz49 (Wt.none rfl) rfl ?_; intro b10
      refine sW' (cEvn noEv) rfl rfl sz49 ?_
      refine as' rfl (nl' ?_)
      refine Run.backB backGhdd ?_
      refine sq' (bl' (sr' (mv' rfl (pp' (Pure.not rfl) (as' rfl (nl' ?_))))))
      refine Run.cond rfl (fun hc3 => ?_) (fun hc3 => ?_)
      rotate_left
      · try simp only [Z] at hc3
        exfalso
        first | exact hc3 rfl | exact hc3 trivial | (simp at hc3; done)
      try simp only [Z] at hc3
      refine sr' (as' rfl (nl' ?_))
      exact rt' Tryz.func51 (res1 rfl rfl) (by exact ⟨by rw [hv, fits_none hu], rfl⟩)
    · skip
      replace hA_ := hA_.symm; subst hA_
      refine mv' rfl (pp' (Pure.extract rfl rfl) (pp' (Pure.extract rfl rfl) ?_))
      refine RunL.alloc zz49 (Wt.none rfl) rfl ?_; intro b10
      refine sW' (cEvn ((u.evn ⟨a1, u.ps.length, c1⟩))) rfl rfl sz49 ?_
      refine as' rfl (nl' ?_)
      refine Run.backB backGhdd ?_
      refine sq' (bl' (sr' (mv' rfl (pp' (Pure.not rfl) (as' rfl (nl' ?_))))))
      refine Run.cond rfl (fun hc4 => ?_) (fun hc4 => ?_)
      · try simp only [Z] at hc4
        exfalso
        first | exact hc4 rfl | exact hc4 trivial | (simp at hc4; done)
      try simp only [Z] at hc4
      refine sq' (sr' (mv' rfl (pp' (Pure.seql rfl rfl) (as' rfl (nl' ?_)))))
      refine Run.condS (d := 25) rfl (fun t1 => ?_) (fun t1 => ?_)
      · try simp only [Z] at t1
        refine sk' (cT' (sr' (as' rfl (nl' ?_))))
        exact rt' Tryz.func51 (res1 rfl rfl) (by exact ⟨by rw [hv, fits_ok hu (.inl (bl_inj t1))], rfl⟩)
      · try simp only [Z] at t1
        refine sr' (mv' rfl (pp' (Pure.seql rfl rfl) (mv' rfl ?_)))
        refine RunL.split (d := 30) rfl (fun t2 => ?_) (fun t2 => ?_)
        · try simp only [Z] at t2
          refine py' (Pure.fieldAddr rfl fo49_3) (l1' rfl agg9 ?_)
          refine py' (Pure.seql rfl rfl) (pp' (Pure.pickT rfl rfl) (as' rfl (nl' ?_)))
          refine Run.condS (d := 25) rfl (fun t3 => ?_) (fun t3 => ?_)
          · try simp only [Z] at t3
            refine sk' (cT' (sr' (as' rfl (nl' ?_))))
            exact rt' Tryz.func51 (res1 rfl rfl) (by exact ⟨by rw [hv, fits_ok hu (.inr (.inl ⟨bl_inj t2, bl_inj t3⟩))], rfl⟩)
          · try simp only [Z] at t3
            refine sr' (mv' rfl (mv' rfl (pp' (Pure.seql rfl rfl) (as' rfl (nl' ?_)))))
            refine Run.condS (d := 25) rfl (fun t4 => ?_) (fun t4 => ?_)
            · try simp only [Z] at t4
              refine sk' (cT' (sr' (as' rfl (nl' ?_))))
              exact rt' Tryz.func51 (res1 rfl rfl) (by exact ⟨by rw [hv, fits_ok hu (.inr (.inr (.inl (bl_inj t4))))], rfl⟩)
            · try simp only [Z] at t4
              refine rg' (mv' rfl (pp' (Pure.fieldAddr rfl fo49_3) (l1' rfl agg9 ?_)))
              refine pp' (Pure.seql rfl rfl) (as' rfl (nl' ?_))
              refine Run.condS (d := 25) rfl (fun t5 => ?_) (fun t5 => ?_)
              · try simp only [Z] at t5
                refine sr' (as' rfl (nl' ?_))
                exact rt' Tryz.func51 (res1 rfl rfl) (by exact ⟨by rw [hv, fits_ok hu (.inr (.inr (.inr (bl_inj t5))))], rfl⟩)
              · try simp only [Z] at t5
                refine sk' (ib' (sr' (as' rfl (nl' ?_))))
                exact rt' Tryz.func51 (res1 rfl rfl) (by exact ⟨by rw [hv, fits_no hu (fun q => by rcases q with q | ⟨q, q'⟩ | q | q <;> first | exact t1 (congrArg bl q) | exact t4 (congrArg bl q) | exact t5 (congrArg bl q) | exact t2 (congrArg bl q) | exact t3 (congrArg bl q'))], rfl⟩)
        · try simp only [Z] at t2
          refine no' (no' (no' (pp' (Pure.pickF rfl rfl) (as' rfl (nl' (cF' (sr' (mv' rfl (mv' rfl (pp' (Pure.seql rfl rfl) (as' rfl (nl' ?_))))))))))))
          refine Run.condS (d := 25) rfl (fun t4 => ?_) (fun t4 => ?_)
          · try simp only [Z] at t4
            refine sk' (cT' (sr' (as' rfl (nl' ?_))))
            exact rt' Tryz.func51 (res1 rfl rfl) (by exact ⟨by rw [hv, fits_ok hu (.inr (.inr (.inl (bl_inj t4))))], rfl⟩)
          · try simp only [Z] at t4
            refine rg' (mv' rfl (pp' (Pure.fieldAddr rfl fo49_3) (l1' rfl agg9 ?_)))
            refine pp' (Pure.seql rfl rfl) (as' rfl (nl' ?_))
            refine Run.condS (d := 25) rfl (fun t5 => ?_) (fun t5 => ?_)
            · try simp only [Z] at t5
              refine sr' (as' rfl (nl' ?_))
              exact rt' Tryz.func51 (res1 rfl rfl) (by exact ⟨by rw [hv, fits_ok hu (.inr (.inr (.inr (bl_inj t5))))], rfl⟩)
            · try simp only [Z] at t5
              refine sk' (ib' (sr' (as' rfl (nl' ?_))))
              exact rt' Tryz.func51 (res1 rfl rfl) (by exact ⟨by rw [hv, fits_no hu (fun q => by rcases q with q | ⟨q, q'⟩ | q | q <;> first | exact t1 (congrArg bl q) | exact t4 (congrArg bl q) | exact t5 (congrArg bl q) | exact t2 (congrArg bl q) | exact t3 (congrArg bl q'))], rfl⟩)

end Go.Proofs.YtaaondbmkibkkaaGreat
