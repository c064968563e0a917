/- Marks: what is made and compared. -/
import Derived.Test.YtaaondbmkibkkaaGreatQ4
set_option linter.unusedVariables false
set_option linter.unusedSimpArgs false
set_option linter.unusedSectionVars false
namespace Go.Proofs.YtaaondbmkibkkaaGreat
open Go Csl
theorem und76 : Tryz.prog.underlying 76 = some (Go.TypeDesc.struct #[{ name := "Room", type := 9, offset := 0, embedded := false, tag := "", pkgPath := "", byteOffset := 0 }, { name := "L", type := 44, offset := 1, embedded := false, tag := "", pkgPath := "", byteOffset := 16 }]) := Tryz.underlying76
theorem fo115_1 : fieldOff Tryz.prog 115 1 = some 4 := by kernel_rfl

set_option maxHeartbeats 1000000 in
set_option maxRecDepth 100000 in
theorem Made_ctr {G : Gp} {aa : Option Addr} {ca : Nat} {xa : List GX} (ha : SlR G 130 4 aa xa.length (xa.flatMap cGX)) (hxa : GXok G xa) {ab : Option Addr} {cb : Nat} {xb : List GX} (hb : SlR G 130 4 ab xb.length (xb.flatMap cGX)) (hxb : GXok G xb) :
    Ctr Tryz.prog G 18 [.slice aa xa.length ca, .slice ab xb.length cb] [] (fun F v A => ∃ (K : Hp) (a : Option Addr) (c : Nat) (ys : ES), ys.map (·.1) = (evsL xa xb) ∧ ESok (gk K) ys ∧ v = .slice a ys.length c ∧ A = Sl 49 6 a ys.length c (ys.flatMap cES) :: Pool K :: F) := by
  refine Ctr.intro Tryz.func18 rfl (by kernel_rfl) rfl (fun F => ?_)
  simp only [List.nil_append]
  refine sr' (as' rfl (nl' (sr' (as' rfl (nl' (sr' (mv' rfl ?_)))))))
  refine ca' rfl rfl (s := RoomOf_ctr (z := 0) (by decide)) (q := ?_)
  rintro _ _ ⟨rfl, hA_⟩
  replace hA_ := hA_.symm; subst hA_
  refine mv' rfl ?_
  refine ca' rfl rfl (s := rdMade_ctr (room := (⟨#[33, 114, 58, 115, 49]⟩ : ByteArray)) (xs := xa) (by decide +kernel) (by decide) ha hxa) (q := ?_)
  rintro _ _ ⟨K1, Da, hDa, rfl, hA_⟩
  replace hA_ := hA_.symm; subst hA_
  obtain ⟨hrooma, ya, hyla, hESa⟩ := id hDa
  have hla := ES_len hyla
  have hma := madeL_len (⟨#[33, 114, 58, 115, 49]⟩ : ByteArray) xa
  refine lB' (Pool K1) Lends.Pool fun GhKa hleGhKa hKa backGhKa => ?_
  have ha_GhKa := ha.mono hleGhKa
  have hxa_GhKa := hxa.mono hleGhKa
  have hb_GhKa := hb.mono hleGhKa
  have hxb_GhKa := hxb.mono hleGhKa
  have hsra := hESa.2.1.hp hKa
  have hsna := hESa.1
  refine pp' (Pure.field1 rfl und76 rfl agg44 rfl) ?_
  refine RunL.append0 (m := ya.length) rfl rfl rfl rfl und44 und44 rfl sz49 zz49 rfl by49 (by omega) (by omega) (fun w sw => (show Src _ _ _ (Value.slice Da.l.a Da.l.n Da.l.c) _ _ from (by rw [hsna]; exact hsra.src sw))) (Wt.none rfl) rfl ?_; intro a1 c1
  refine as' rfl (nl' ?_)
  refine Run.backB backGhKa ?_
  refine sr' (mv' rfl ?_)
  refine ca' rfl rfl (s := RoomOf_ctr (z := 1) (by decide)) (q := ?_)
  rintro _ _ ⟨rfl, hA_⟩
  replace hA_ := hA_.symm; subst hA_
  refine mv' rfl ?_
  refine ca' rfl rfl (s := rdMade_ctr (room := (⟨#[33, 113, 58, 115, 50]⟩ : ByteArray)) (xs := xb) (by decide +kernel) (by decide) hb hxb) (q := ?_)
  rintro _ _ ⟨K2, Db, hDb, rfl, hA_⟩
  replace hA_ := hA_.symm; subst hA_
  obtain ⟨hroomb, yb, hylb, hESb⟩ := id hDb
  have hlb := ES_len hylb
  have hmb := madeL_len (⟨#[33, 113, 58, 115, 50]⟩ : ByteArray) xb
  refine lB' (Pool K2) Lends.Pool fun GhKb hleGhKb hKb backGhKb => ?_
  have ha_GhKb := ha.mono hleGhKb
  have hxa_GhKb := hxa.mono hleGhKb
  have hb_GhKb := hb.mono hleGhKb
  have hxb_GhKb := hxb.mono hleGhKb
  have hsrb := hESb.2.1.hp hKb
  have hsnb := hESb.1
  refine pp' (Pure.field1 rfl und76 rfl agg44 rfl) ?_
  refine RunL.append (m := yb.length) (n' := (ya ++ yb).length) (cs' := (ya ++ yb).flatMap cES) rfl rfl (by first | ((repeat (first | (with_reducible exact F0 _) | apply F1)); done) | (repeat (first | exact F0 _ | apply F1))) rfl rfl und44 und44 rfl sz49 zz49 rfl by49 (by omega) (by omega) (fun w sw => (show Src _ _ _ (Value.slice Db.l.a Db.l.n Db.l.c) _ _ from (by rw [hsnb]; exact hsrb.src sw))) (isOne_flat (f := cES) (fun _ => rfl)) (by simp) (by rw [List.flatMap_append]) (Wt.none rfl) rfl ?_; intro a2 c2
  refine as' rfl (nl' ?_)
  refine Run.backB backGhKb ?_
  refine Run.poolJoin (K1 := K1) (K2 := K2) (by repeat (first | (with_reducible exact Take.nil _) | (apply Take.cons (by first | ((repeat (first | (with_reducible exact F0 _) | apply F1)); done) | (repeat (first | exact F0 _ | apply F1)))))) ?_; intro K3 hle1 hle2
  exact Run.ret Tryz.func18 (res1 rfl rfl) (by exact ⟨K3, a2, c2, ya ++ yb, by rw [List.map_append, hyla, hylb]; rfl, (fun y hy => by
            rcases List.mem_append.1 hy with hy | hy
            · exact (hESa.2.2.2.hp (G' := gk K3) hle1) y hy
            · exact (hESb.2.2.2.hp (G' := gk K3) hle2) y hy), rfl, rfl⟩) (by repeat (first | (with_reducible exact Fin.done (by repeat (first | (with_reducible exact Rest.here) | apply Rest.there))) | (apply Fin.cons (by first | ((repeat (first | (with_reducible exact F0 _) | apply F1)); done) | (repeat (first | exact F0 _ | apply F1))))))

set_option maxHeartbeats 1000000 in
set_option maxRecDepth 100000 in
theorem Waits12_ctr {G : Gp} {e : Edu} (ho : okEdu e) :
    Ctr Tryz.prog G 19 [.agg (cEdu e).toArray] [] (fun F v A => v = .agg (cEdu (waitsE e)).toArray ∧ A = F) := by
  refine Ctr.intro Tryz.func19 rfl (by kernel_rfl) rfl (fun F => ?_)
  simp only [List.nil_append]
  have hst := wf_i64 ho.2.2.2.2.2.2.2.2
  have hok : okEdu { e with kind := 0 } := ⟨by show (Lit.int .i64 0).wf = true; decide, ho.2⟩
  refine sr' ?_
  refine RunL.boxA (xs := (cEdu e)) rfl (Wt.none rfl) rfl ?_; intro b1
  refine RunL.alloc zz23 (Wt.none rfl) rfl ?_; intro b2
  refine nl' (sr' (pp' (Pure.fieldAddr rfl fo23_0) ?_))
  refine RunL.store1A (cs' := (cEdu ({ e with kind := 0 }))) rfl rfl (by first | ((repeat (first | (with_reducible exact F0 _) | apply F1)); done) | (repeat (first | exact F0 _ | apply F1))) sz3 (by rfl) (by first | exact Nat.le_of_ble_eq_true rfl | (simp; done) | (simp; omega)) rfl (Wt.none rfl) ?_
  refine nl' (sr' (lA' (cEdu ({ e with kind := 0 })) rfl agg23 sz23 ?_))
  refine ca' rfl rfl (s := Good3_ctr (e := { e with kind := 0 }) hok) (q := ?_)
  rintro _ _ ⟨rfl, hA_⟩
  replace hA_ := hA_.symm; subst hA_
  refine RunL.alloc zz23 (Wt.none rfl) rfl ?_; intro b3
  refine sW' (cEdu ((goodE { e with kind := 0 }))) rfl rfl sz23 ?_
  refine nl' (sr' (pp' (Pure.fieldAddr rfl fo23_10) (l1' rfl agg3 ?_)))
  refine ca' rfl rfl (s := EventOf_ctr (z := e.stamp) hst) (q := ?_)
  rintro _ _ ⟨rfl, hA_⟩
  replace hA_ := hA_.symm; subst hA_
  refine pp' (Pure.fieldAddr rfl fo23_3) ?_
  refine RunL.store1A (cs' := (cEdu ((waitsE e)))) rfl rfl (by first | ((repeat (first | (with_reducible exact F0 _) | apply F1)); done) | (repeat (first | exact F0 _ | apply F1))) sz9 (by rfl) (by first | exact Nat.le_of_ble_eq_true rfl | (simp; done) | (simp; omega)) rfl (Wt.none rfl) ?_
  refine nl' (sr' (lA' (cEdu ((waitsE e))) rfl agg23 sz23 ?_))
  refine sW' (cEdu ((waitsE e))) rfl rfl sz23 ?_
  refine nl' ?_
  exact rt' Tryz.func19 (resV1 rfl (Rv.cellN (us := (cEdu ((waitsE e)))) rfl (by first | ((repeat (first | (with_reducible exact F0 _) | apply F1)); done) | (repeat (first | exact F0 _ | apply F1))) agg23 sz23 (by first | exact Nat.le_of_ble_eq_true rfl | (simp; done) | (simp; omega)) rfl)) (by exact ⟨rfl, rfl⟩)

set_option maxHeartbeats 1000000 in
set_option maxRecDepth 100000 in
theorem like_ctr {G : Gp} {a a' : Option Addr} {c c' : Nat} {xs : List M} (h : SlR G 115 6 a xs.length (xs.flatMap cM)) (h' : SlR G 117 6 a' xs.length (xs.flatMap cM)) (hb : xs.length ≤ 1000000) :
    Ctr Tryz.prog G 24 [.slice a xs.length c, .slice a' xs.length c'] [] (fun F v A => v = .bool true ∧ A = F) := by
  refine Ctr.intro Tryz.func24 rfl (by kernel_rfl) rfl (fun F => ?_)
  simp only [List.nil_append]
  refine sr' (as' rfl (nl' (sq' (sr' (mv' rfl (pp' (Pure.lenSl rfl rfl und55) (mv' rfl (pp' (Pure.lenSl rfl rfl und61) (pp' (Pure.neq rfl rfl) (nl' ?_))))))))))
  refine Run.cond rfl (fun hc1 => ?_) (fun hc1 => ?_)
  · try simp only [Z] at hc1
    exfalso
    first | exact hc1 rfl | exact hc1 trivial | (simp at hc1; done)
  try simp only [Z] at hc1
  refine sk' (sq' (sr' (as' rfl (nl' (bl' ?_)))))
  refine kp' [0, 1, 5] ?_
  refine lp' F (fun n e_ A => ∃ i : Nat, i ≤ xs.length ∧ n = xs.length - i ∧ e_ = [(0, .slice a xs.length c), (1, .slice a' xs.length c'), (5, .int .i64 (i : Nat))] ∧ A = F) (xs.length) (by exact ⟨0, by omega, rfl, rfl, rfl⟩) ?_
  rintro n _ _ ⟨i, hi, rfl, rfl, hA_⟩ ih
  replace hA_ := hA_.symm; subst hA_
  refine sq' (sr' (mv' rfl (mv' rfl (pp' (Pure.lenSl rfl rfl und55) (pp' (Pure.lss rfl rfl) (nl' ?_))))))
  refine Run.cond rfl (fun h1 => ?_) (fun h1 => ?_)
  · try simp only [Z] at h1
    obtain ⟨x, hx⟩ := get_some (xs := xs) (i := i) (by omega)
    obtain ⟨b1, T1, pre1, post1, hp1, hro1⟩ := h.open1 (show 0 < xs.length by omega)
    obtain ⟨b2, T2, pre2, post2, hp2, hro2⟩ := h'.open1 (show 0 < xs.length by omega)
    refine sk' (sq' (bl' (sq' ?_)))
    refine Run.regionD' (by kernel_rfl) (by kernel_rfl) (fun hok42 => ?_)
    refine dp' 0 hok42 rfl (Pure.move rfl) (dp' 1 hok42 rfl (Pure.move rfl) ?_)
    refine dp' 2 hok42 rfl (Pure.indexAddr (opvSl rfl hp1) rfl und55 sz115 (by omega) (by omega)) ?_
    refine dp' 3 hok42 rfl (Pure.fieldAddr rfl fo115_0) ?_
    refine RunD.loadNR (vs := (cK x.k)) (i := 4) hok42 rfl (by kernel_rfl) rfl hro1 agg34 sz34 (elemN_len (pre := pre1) (post := post1) (f := cM) (sz := 6) (j := 0) (n := 4) (fun _ _ => rfl) hx (by decide)) ((elemN_at (pre := pre1) (post := post1) (f := cM) (sz := 6) (j := 0) (n := 4) (fun _ _ => rfl) hx (by decide)).trans rfl) (Wt.none rfl) rfl ?_
    refine dp' 5 hok42 rfl (Pure.move rfl) (dp' 6 hok42 rfl (Pure.move rfl) ?_)
    refine dp' 7 hok42 rfl (Pure.indexAddr (opvSl rfl hp2) rfl und61 sz117 (by omega) (by omega)) ?_
    refine dp' 8 hok42 rfl (Pure.fieldAddr rfl fo117_0) ?_
    refine RunD.loadNR (vs := (cK x.k)) (i := 9) hok42 rfl (by kernel_rfl) rfl hro2 agg33 sz33 (elemN_len (pre := pre2) (post := post2) (f := cM) (sz := 6) (j := 0) (n := 4) (fun _ _ => rfl) hx (by decide)) ((elemN_at (pre := pre2) (post := post2) (f := cM) (sz := 6) (j := 0) (n := 4) (fun _ _ => rfl) hx (by decide)).trans rfl) (Wt.none rfl) rfl ?_
    refine dp' 10 hok42 rfl (Pure.aneq rfl rfl eqg33 (eqv33 (x.k) (x.k)) (by decide)) ?_
    refine dp' 11 hok42 rfl (Pure.move rfl) ?_
    refine RunD.split (d := 28) rfl (fun hg2 => ?_) (fun hg2 => ?_)
    · try simp only [Z] at hg2
      exfalso
      first | exact hg2 rfl | exact hg2 trivial | (simp at hg2; done)
    try simp only [Z] at hg2
    refine dp' 12 hok42 rfl (Pure.move rfl) (dp' 13 hok42 rfl (Pure.move rfl) ?_)
    refine dp' 14 hok42 rfl (Pure.indexAddr (opvSl rfl hp1) rfl und55 sz115 (by omega) (by omega)) ?_
    refine dp' 15 hok42 rfl (Pure.fieldAddr rfl fo115_1) ?_
    refine RunD.loadNR (vs := (cPos x.pos)) (i := 16) hok42 rfl (by kernel_rfl) rfl hro1 agg69 sz69 (elemN_len (pre := pre1) (post := post1) (f := cM) (sz := 6) (j := 4) (n := 2) (fun _ _ => rfl) hx (by decide)) ((elemN_at (pre := pre1) (post := post1) (f := cM) (sz := 6) (j := 4) (n := 2) (fun _ _ => rfl) hx (by decide)).trans rfl) (Wt.yes rfl rfl rfl) rfl ?_
    refine dp' 17 hok42 rfl (Pure.move rfl) (dp' 18 hok42 rfl (Pure.move rfl) ?_)
    refine dp' 19 hok42 rfl (Pure.indexAddr (opvSl rfl hp2) rfl und61 sz117 (by omega) (by omega)) ?_
    refine dp' 20 hok42 rfl (Pure.fieldAddr rfl fo117_1) ?_
    refine RunD.loadNR (vs := (cPos x.pos)) (i := 21) hok42 rfl (by kernel_rfl) rfl hro2 agg69 sz69 (elemN_len (pre := pre2) (post := post2) (f := cM) (sz := 6) (j := 4) (n := 2) (fun _ _ => rfl) hx (by decide)) ((elemN_at (pre := pre2) (post := post2) (f := cM) (sz := 6) (j := 4) (n := 2) (fun _ _ => rfl) hx (by decide)).trans rfl) (Wt.yes rfl rfl rfl) rfl ?_
    refine dp' 22 hok42 rfl (Pure.aneq rfl rfl eqg69 (eqv69 (x.pos) (x.pos)) (by decide)) ?_
    refine dp' 23 hok42 rfl (Pure.pickF rfl rfl) ?_
    refine RunD.nilR (by kernel_rfl) ?_
    refine Run.cond rfl (fun hc3 => ?_) (fun hc3 => ?_)
    · try simp only [Z] at hc3
      exfalso
      first | exact hc3 rfl | exact hc3 trivial | (simp at hc3; done)
    try simp only [Z] at hc3
    refine sk' (ib' (rg' (mv' rfl ?_)))
    first | refine RunL.pure (Pure.addI rfl rfl (by omega)) (Wt.none rfl) rfl rfl ?_ | refine RunL.pure (Pure.add rfl rfl) (Wt.none rfl) rfl rfl ?_
    refine as' rfl (nl' ?_)
    refine kp' [0, 1, 5] ?_
    exact ag' F ih (by exact ⟨i + 1, by omega, rfl, rfl, rfl⟩)
  · try simp only [Z] at h1
    refine ex' rfl (sr' (as' rfl (nl' ?_)))
    exact rt' Tryz.func24 (res1 rfl rfl) (by exact ⟨rfl, rfl⟩)

set_option maxHeartbeats 1000000 in
set_option maxRecDepth 100000 in
theorem keys_ctr {G : Gp} {a a' : Option Addr} {c c' : Nat} {xs : List K} (h : SlR G 34 4 a xs.length (xs.flatMap cK)) (h' : SlR G 33 4 a' xs.length (xs.flatMap cK)) (hb : xs.length ≤ 1000000) :
    Ctr Tryz.prog G 36 [.slice a xs.length c, .slice a' xs.length c'] [] (fun F v A => v = .bool true ∧ A = F) := by
  refine Ctr.intro Tryz.func36 rfl (by kernel_rfl) rfl (fun F => ?_)
  simp only [List.nil_append]
  refine sr' (as' rfl (nl' (sq' (sr' (mv' rfl (pp' (Pure.lenSl rfl rfl und51) (mv' rfl (pp' (Pure.lenSl rfl rfl und89) (pp' (Pure.neq rfl rfl) (nl' ?_))))))))))
  refine Run.cond rfl (fun hc1 => ?_) (fun hc1 => ?_)
  · try simp only [Z] at hc1
    exfalso
    first | exact hc1 rfl | exact hc1 trivial | (simp at hc1; done)
  try simp only [Z] at hc1
  refine sk' (sq' (sr' (as' rfl (nl' (bl' ?_)))))
  refine kp' [0, 1, 5] ?_
  refine lp' F (fun n e_ A => ∃ i : Nat, i ≤ xs.length ∧ n = xs.length - i ∧ e_ = [(0, .slice a xs.length c), (1, .slice a' xs.length c'), (5, .int .i64 (i : Nat))] ∧ A = F) (xs.length) (by exact ⟨0, by omega, rfl, rfl, rfl⟩) ?_
  rintro n _ _ ⟨i, hi, rfl, rfl, hA_⟩ ih
  replace hA_ := hA_.symm; subst hA_
  refine sq' (sr' (mv' rfl (mv' rfl (pp' (Pure.lenSl rfl rfl und51) (pp' (Pure.lss rfl rfl) (nl' ?_))))))
  refine Run.cond rfl (fun h1 => ?_) (fun h1 => ?_)
  · try simp only [Z] at h1
    obtain ⟨x, hx⟩ := get_some (xs := xs) (i := i) (by omega)
    obtain ⟨b1, T1, pre1, post1, hp1, hro1⟩ := h.open1 (show 0 < xs.length by omega)
    obtain ⟨b2, T2, pre2, post2, hp2, hro2⟩ := h'.open1 (show 0 < xs.length by omega)
    refine sk' (sq' (bl' (sq' ?_)))
    refine Run.regionD' (by kernel_rfl) (by kernel_rfl) (fun hok42 => ?_)
    refine dp' 0 hok42 rfl (Pure.move rfl) (dp' 1 hok42 rfl (Pure.move rfl) ?_)
    refine dp' 2 hok42 rfl (Pure.indexAddr (opvSl rfl hp1) rfl und51 sz34 (by omega) (by omega)) ?_
    refine RunD.loadNR (vs := (cK x)) (i := 3) hok42 rfl (by kernel_rfl) rfl hro1 agg34 sz34 (elemN_len (pre := pre1) (post := post1) (f := cK) (sz := 4) (j := 0) (n := 4) (fun _ _ => rfl) hx (by decide)) ((elemN_at (pre := pre1) (post := post1) (f := cK) (sz := 4) (j := 0) (n := 4) (fun _ _ => rfl) hx (by decide)).trans rfl) (Wt.none rfl) rfl ?_
    refine dp' 4 hok42 rfl (Pure.move rfl) (dp' 5 hok42 rfl (Pure.move rfl) ?_)
    refine dp' 6 hok42 rfl (Pure.indexAddr (opvSl rfl hp2) rfl und89 sz33 (by omega) (by omega)) ?_
    refine RunD.loadNR (vs := (cK x)) (i := 7) hok42 rfl (by kernel_rfl) rfl hro2 agg33 sz33 (elemN_len (pre := pre2) (post := post2) (f := cK) (sz := 4) (j := 0) (n := 4) (fun _ _ => rfl) hx (by decide)) ((elemN_at (pre := pre2) (post := post2) (f := cK) (sz := 4) (j := 0) (n := 4) (fun _ _ => rfl) hx (by decide)).trans rfl) (Wt.none rfl) rfl ?_
    refine dp' 8 hok42 rfl (Pure.aneq rfl rfl eqg33 (eqv33 (x) (x)) (by decide)) ?_
    refine RunD.nilR (by kernel_rfl) ?_
    refine Run.cond rfl (fun hc2 => ?_) (fun hc2 => ?_)
    · try simp only [Z] at hc2
      exfalso
      first | exact hc2 rfl | exact hc2 trivial | (simp at hc2; done)
    try simp only [Z] at hc2
    refine sk' (ib' (rg' (mv' rfl ?_)))
    first | refine RunL.pure (Pure.addI rfl rfl (by omega)) (Wt.none rfl) rfl rfl ?_ | refine RunL.pure (Pure.add rfl rfl) (Wt.none rfl) rfl rfl ?_
    refine as' rfl (nl' ?_)
    refine kp' [0, 1, 5] ?_
    exact ag' F ih (by exact ⟨i + 1, by omega, rfl, rfl, rfl⟩)
  · try simp only [Z] at h1
    refine ex' rfl (sr' (as' rfl (nl' ?_)))
    exact rt' Tryz.func36 (res1 rfl rfl) (by exact ⟨rfl, rfl⟩)

set_option maxHeartbeats 1000000 in
set_option maxRecDepth 100000 in
theorem same_ctr {G : Gp} {a a' : Option Addr} {c c' : Nat} {xs : List Edu} (h : SlR G 23 11 a xs.length (xs.flatMap cEdu)) (h' : SlR G 23 11 a' xs.length (xs.flatMap cEdu)) (hb : xs.length ≤ 1000000) :
    Ctr Tryz.prog G 39 [.slice a xs.length c, .slice a' xs.length c'] [] (fun F v A => v = .bool true ∧ A = F) := by
  refine Ctr.intro Tryz.func39 rfl (by kernel_rfl) rfl (fun F => ?_)
  simp only [List.nil_append]
  refine sr' (as' rfl (nl' (sq' (sr' (mv' rfl (pp' (Pure.lenSl rfl rfl und25) (mv' rfl (pp' (Pure.lenSl rfl rfl und25) (pp' (Pure.neq rfl rfl) (nl' ?_))))))))))
  refine Run.cond rfl (fun hc1 => ?_) (fun hc1 => ?_)
  · try simp only [Z] at hc1
    exfalso
    first | exact hc1 rfl | exact hc1 trivial | (simp at hc1; done)
  try simp only [Z] at hc1
  refine sk' (sq' (sr' (as' rfl (nl' (bl' ?_)))))
  refine kp' [0, 1, 5] ?_
  refine lp' F (fun n e_ A => ∃ i : Nat, i ≤ xs.length ∧ n = xs.length - i ∧ e_ = [(0, .slice a xs.length c), (1, .slice a' xs.length c'), (5, .int .i64 (i : Nat))] ∧ A = F) (xs.length) (by exact ⟨0, by omega, rfl, rfl, rfl⟩) ?_
  rintro n _ _ ⟨i, hi, rfl, rfl, hA_⟩ ih
  replace hA_ := hA_.symm; subst hA_
  refine sq' (sr' (mv' rfl (mv' rfl (pp' (Pure.lenSl rfl rfl und25) (pp' (Pure.lss rfl rfl) (nl' ?_))))))
  refine Run.cond rfl (fun h1 => ?_) (fun h1 => ?_)
  · try simp only [Z] at h1
    obtain ⟨x, hx⟩ := get_some (xs := xs) (i := i) (by omega)
    obtain ⟨b1, T1, pre1, post1, hp1, hro1⟩ := h.open1 (show 0 < xs.length by omega)
    obtain ⟨b2, T2, pre2, post2, hp2, hro2⟩ := h'.open1 (show 0 < xs.length by omega)
    refine sk' (sq' (bl' (sq' ?_)))
    refine Run.regionD' (by kernel_rfl) (by kernel_rfl) (fun hok42 => ?_)
    refine dp' 0 hok42 rfl (Pure.move rfl) (dp' 1 hok42 rfl (Pure.move rfl) ?_)
    refine dp' 2 hok42 rfl (Pure.indexAddr (opvSl rfl hp1) rfl und25 sz23 (by omega) (by omega)) ?_
    refine RunD.loadNR (vs := (cEdu x)) (i := 3) hok42 rfl (by kernel_rfl) rfl hro1 agg23 sz23 (elemN_len (pre := pre1) (post := post1) (f := cEdu) (sz := 11) (j := 0) (n := 11) (fun _ _ => rfl) hx (by decide)) ((elemN_at (pre := pre1) (post := post1) (f := cEdu) (sz := 11) (j := 0) (n := 11) (fun _ _ => rfl) hx (by decide)).trans rfl) (Wt.none rfl) rfl ?_
    refine dp' 4 hok42 rfl (Pure.move rfl) (dp' 5 hok42 rfl (Pure.move rfl) ?_)
    refine dp' 6 hok42 rfl (Pure.indexAddr (opvSl rfl hp2) rfl und25 sz23 (by omega) (by omega)) ?_
    refine RunD.loadNR (vs := (cEdu x)) (i := 7) hok42 rfl (by kernel_rfl) rfl hro2 agg23 sz23 (elemN_len (pre := pre2) (post := post2) (f := cEdu) (sz := 11) (j := 0) (n := 11) (fun _ _ => rfl) hx (by decide)) ((elemN_at (pre := pre2) (post := post2) (f := cEdu) (sz := 11) (j := 0) (n := 11) (fun _ _ => rfl) hx (by decide)).trans rfl) (Wt.none rfl) rfl ?_
    refine dp' 8 hok42 rfl (Pure.aneq rfl rfl eqg23 (eqv23 (x) (x)) (by decide)) ?_
    refine RunD.nilR (by kernel_rfl) ?_
    refine Run.cond rfl (fun hc2 => ?_) (fun hc2 => ?_)
    · try simp only [Z] at hc2
      exfalso
      first | exact hc2 rfl | exact hc2 trivial | (simp at hc2; done)
    try simp only [Z] at hc2
    refine sk' (ib' (rg' (mv' rfl ?_)))
    first | refine RunL.pure (Pure.addI rfl rfl (by omega)) (Wt.none rfl) rfl rfl ?_ | refine RunL.pure (Pure.add rfl rfl) (Wt.none rfl) rfl rfl ?_
    refine as' rfl (nl' ?_)
    refine kp' [0, 1, 5] ?_
    exact ag' F ih (by exact ⟨i + 1, by omega, rfl, rfl, rfl⟩)
  · try simp only [Z] at h1
    refine ex' rfl (sr' (as' rfl (nl' ?_)))
    exact rt' Tryz.func39 (res1 rfl rfl) (by exact ⟨rfl, rfl⟩)

end Go.Proofs.YtaaondbmkibkkaaGreat
