/- What is told is one's own. -/
import Derived.Test.YtghmmjifmnmbgaaL1
set_option linter.unusedVariables false
set_option linter.unusedSimpArgs false
set_option linter.unusedSectionVars false
namespace Go.Proofs.Ytghmmjifmnmbgaa
open Go Csl


set_option maxHeartbeats 8000000 in
set_option maxRecDepth 100000 in
theorem DagOwns_ctr {G : Gp} {ag : Option Addr} {cg : Nat} {gs : List GG} (hgs : SlR G 66 4 ag gs.length (gs.flatMap cGG)) (hgi : GsIn G gs)  {k : Int} {z : ByteArray} (hkw : -9223372036854775808 ≤ k ∧ k ≤ 9223372036854775807) :
    Ctr Try.prog G 6 [.slice ag gs.length cg, .int .i64 k, .string z] [] (fun F v A => v = .bool true ∧ A = F) := by
  refine Ctr.intro Try.func6 rfl (by kernel_rfl) rfl (fun F => ?_)
  simp only [List.nil_append]
  obtain ⟨xs, hxs, hgx⟩ := hgi
  have hgsx : SlR G 66 4 ag xs.length (xs.flatMap cGX) := by rw [← hxs, List.length_map, gx_flat] at hgs; exact hgs
  have hgl : gs.length = xs.length := by rw [← hxs, List.length_map]
  have hmg := madeL_good (room := (⟨#[33, 114, 58, 115, 49]⟩ : ByteArray)) (by decide +kernel) xs
  have hml := madeL_len (⟨#[33, 114, 58, 115, 49]⟩ : ByteArray) xs
  have hmw := madeL_sm (room := (⟨#[33, 114, 58, 115, 49]⟩ : ByteArray)) (by decide) xs
  have hmf : ∀ v ∈ (madeL (⟨#[33, 114, 58, 115, 49]⟩ : ByteArray) xs), evWf v := fun v hv => (hmw v hv).wf
  refine Run.sr ?_
  refine RunL.as rfl rfl ?_
  refine RunL.nil ?_
  refine Run.sr ?_
  refine RunL.mv rfl rfl ?_
  rw [hgl]
  refine RunL.call rfl rfl (by rfl) (by repeat (first | (with_reducible exact Take.nil _) | (apply Take.cons (by first | ((repeat (first | (with_reducible exact F0 _) | apply F1)); done) | (repeat (first | exact F0 _ | apply F1)))))) (rdMade_ctr (room := (⟨#[33, 114, 58, 115, 49]⟩ : ByteArray)) (xs := xs) (by decide +kernel) (by decide) hgsx hgx) (Wt.none rfl) rfl ?_
  rintro _ _ ⟨K, D, hD, rfl, hA_⟩
  replace hA_ := hA_.symm; subst hA_
  refine RunL.alloc zz30 (Wt.none rfl) rfl ?_; intro b7
  refine RunL.storeW (xs := (cDD D)) rfl rfl (by first | ((repeat (first | (with_reducible exact F0 _) | apply F1)); done) | (repeat (first | exact F0 _ | apply F1))) sz30 (by rfl) (by rfl) (by rfl) (Wt.none rfl) ?_
  refine RunL.nil ?_
  refine Run.lendAll (Q := Pool K) Lends.Pool (by first | ((repeat (first | (with_reducible exact F0 _) | apply F1)); done) | (repeat (first | exact F0 _ | apply F1))) (fun GhK hleGhK hK => ?_)
  replace hgsx := hgsx.mono hleGhK
  replace hgx := hgx.mono hleGhK
  have hd := HasD.hp (G' := GhK) hD hK
  obtain ⟨hroom, ys, hyl, hdn, hds, hdc, hdk⟩ := id hd
  have hyn := ES_len hyl
  have hml9 : ((madeL (⟨#[33, 114, 58, 115, 49]⟩ : ByteArray) xs)).length ≤ 9 := by omega
  refine Run.sr ?_
  first | refine RunL.loadA (vs := (cDD D)) rfl (by first | ((repeat (first | (with_reducible exact F0 _) | apply F1)); done) | (repeat (first | exact F0 _ | apply F1))) agg30 sz30 (by first | exact Nat.le_of_ble_eq_true rfl | (simp; done) | (simp; omega)) rfl (Wt.none rfl) rfl ?_ | refine RunL.loadNR (vs := (cDD D)) rfl (by assumption) agg30 sz30 (by first | exact Nat.le_of_ble_eq_true rfl | (simp; done) | (simp; omega)) rfl (Wt.none rfl) rfl ?_
  refine RunL.call rfl rfl (by rfl) (by repeat (first | (with_reducible exact Take.nil _) | (apply Take.cons (by first | ((repeat (first | (with_reducible exact F0 _) | apply F1)); done) | (repeat (first | exact F0 _ | apply F1)))))) (build_ctr hd hmg hmf (by omega)) (Wt.none rfl) rfl ?_
  rintro _ _ ⟨p, rfl, hA_⟩
  replace hA_ := hA_.symm; subst hA_
  refine RunL.as rfl rfl ?_
  refine RunL.nil ?_
  refine Run.seq ?_
  refine Run.sr ?_
  refine RunL.mv rfl rfl ?_
  refine RunL.pure (Pure.ptrEqNil rfl rfl und36) (Wt.none rfl) rfl rfl ?_
  refine RunL.nil ?_
  refine Run.condF rfl ?_
  refine Run.skip ?_
  refine Run.sr ?_
  refine RunL.mv rfl rfl ?_
  refine RunL.call rfl rfl (by rfl) (by repeat (first | (with_reducible exact Take.nil _) | (apply Take.cons (by first | ((repeat (first | (with_reducible exact F0 _) | apply F1)); done) | (repeat (first | exact F0 _ | apply F1)))))) (FewC_ctr (s := z) (m := 3) (by decide) (by decide)) (Wt.none rfl) rfl ?_
  rintro _ _ ⟨rfl, hA_⟩
  replace hA_ := hA_.symm; subst hA_
  refine RunL.as rfl rfl ?_
  refine RunL.nil ?_
  refine Run.sr ?_
  refine RunL.mv rfl rfl ?_
  refine RunL.call rfl rfl (by rfl) (by repeat (first | (with_reducible exact Take.nil _) | (apply Take.cons (by first | ((repeat (first | (with_reducible exact F0 _) | apply F1)); done) | (repeat (first | exact F0 _ | apply F1)))))) (Ctr.lend (Q := Dg p (⟨#[33, 114, 58, 115, 49]⟩ : ByteArray) (madeL (⟨#[33, 114, 58, 115, 49]⟩ : ByteArray) xs)) Lends.Dg cb23 (fun G' hle hr => All_ctr hr (by omega))) (Wt.none rfl) rfl ?_
  rintro _ _ ⟨_, rfl, az, cz, zs, hza, hzn, rfl, hA_⟩
  replace hA_ := hA_.symm; subst hA_
  refine RunL.as rfl rfl ?_
  refine RunL.nil ?_
  refine Run.starsAny zs (by first | ((repeat (first | (with_reducible exact F0 _) | apply F1)); done) | (repeat (first | exact F0 _ | apply F1))) ?_
  refine Run.lendAll (Q := Sl 24 6 az (zs).length cz ((zs).flatMap cES)) Lends.Sl (by first | ((repeat (first | (with_reducible exact F0 _) | apply F1)); done) | (repeat (first | exact F0 _ | apply F1))) (fun Ghz hleGhz hz => ?_)
  replace hgsx := hgsx.mono hleGhz
  replace hgx := hgx.mono hleGhz
  replace hd := hd.mono hleGhz
  replace hds := hds.mono hleGhz
  replace hdk := hdk.mono hleGhz
  obtain ⟨hz, hzc⟩ := hz
  have hzm : ∀ y ∈ zs, y.1 ∈ (madeL (⟨#[33, 114, 58, 115, 49]⟩ : ByteArray) xs) := fun y hy => allOf_mem.1 (by rw [← hza]; exact List.mem_map.2 ⟨y, hy, rfl⟩)
  have hzl : zs.length = ((madeL (⟨#[33, 114, 58, 115, 49]⟩ : ByteArray) xs)).length := by rw [← allOf_len (madeL (⟨#[33, 114, 58, 115, 49]⟩ : ByteArray) xs), ← hza, List.length_map]
  refine Run.seq ?_
  refine Run.sr ?_
  refine RunL.as rfl rfl ?_
  refine RunL.nil ?_
  refine Run.block ?_
  refine Run.keep (.cons rfl (.cons rfl (.cons rfl (.cons rfl (.cons rfl (.cons rfl (.nil)))))) : Keep _ [1, 2, 7, 8, 9, 10] _) ?_
  refine Run.loopF (F := F) (fun n e_ A => ∃ (i : Nat), i ≤ zs.length ∧ n = zs.length - i ∧ e_ = [(1, .int .i64 k), (2, .string (cut z 3)), (7, .pointer (some ⟨b7, 0, none⟩)), (8, .pointer (some ⟨p, 0, none⟩)), (9, .slice az zs.length cz), (10, .int .i64 (i : Nat))] ∧ A = row b7 30 (cDD D) :: Stars (zs.map slAny) :: Dg p (⟨#[33, 114, 58, 115, 49]⟩ : ByteArray) (madeL (⟨#[33, 114, 58, 115, 49]⟩ : ByteArray) xs) :: F) (zs.length) (by exact ⟨0, by omega, rfl, rfl, rfl⟩) (by repeat (first | (with_reducible exact Fin.done (by repeat (first | (with_reducible exact Rest.here) | apply Rest.there))) | (apply Fin.cons (by first | ((repeat (first | (with_reducible exact F0 _) | apply F1)); done) | (repeat (first | exact F0 _ | apply F1)))))) ?_
  rintro n _ _ ⟨i, hi, rfl, rfl, hA_⟩ ih
  replace hA_ := hA_.symm; subst hA_
  refine Run.seq ?_
  refine Run.sr ?_
  refine RunL.mv rfl rfl ?_
  refine RunL.mv rfl rfl ?_
  refine RunL.pure (Pure.lenSl rfl rfl und28) (Wt.none rfl) rfl rfl ?_
  refine RunL.pure (Pure.lss rfl rfl) (Wt.none rfl) rfl rfl ?_
  refine RunL.nil ?_
  refine Run.cond rfl (fun h2 => ?_) (fun h2 => ?_)
  · try simp only [ZA, ZB, ZC, ZD, ZE, ZF, ZG, ZH, ZI, ZJ, ZK, ZL, ZM, ZN, ZO, ZP, ZQ, ZR] at h2
    obtain ⟨y, hzi⟩ := get_some (xs := zs) (i := i) (by omega)
    obtain ⟨bz, Tz, prz, poz, hpz, hroz⟩ := hz.open1 (show 0 < zs.length by omega)
    have hyn2 : (y.1.evn y.2).par.n = y.1.ps.length := hzn y (List.mem_of_getElem? hzi)
    have hy4 := evOk_len (hmg.mem (hzm y (List.mem_of_getElem? hzi))).1
    have ih1 := ih
    refine Run.skip ?_
    refine Run.seq ?_
    refine Run.block ?_
    refine Run.sr ?_
    refine RunL.as rfl rfl ?_
    refine RunL.nil ?_
    refine Run.block ?_
    refine Run.keep (.cons rfl (.cons rfl (.cons rfl (.cons rfl (.cons rfl (.cons rfl (.cons rfl (.nil))))))) : Keep _ [1, 2, 7, 8, 9, 10, 11] _) ?_
    refine Run.loopF (F := F) (fun n e_ A => ∃ (j : Nat), j ≤ y.1.ps.length ∧ n = y.1.ps.length - j ∧ e_ = [(1, .int .i64 k), (2, .string (cut z 3)), (7, .pointer (some ⟨b7, 0, none⟩)), (8, .pointer (some ⟨p, 0, none⟩)), (9, .slice az zs.length cz), (10, .int .i64 (i : Nat)), (11, .int .i64 (j : Nat))] ∧ A = row b7 30 (cDD D) :: Stars (zs.map slAny) :: Dg p (⟨#[33, 114, 58, 115, 49]⟩ : ByteArray) (madeL (⟨#[33, 114, 58, 115, 49]⟩ : ByteArray) xs) :: F) (y.1.ps.length) (by exact ⟨0, by omega, rfl, rfl, rfl⟩) (by repeat (first | (with_reducible exact Fin.done (by repeat (first | (with_reducible exact Rest.here) | apply Rest.there))) | (apply Fin.cons (by first | ((repeat (first | (with_reducible exact F0 _) | apply F1)); done) | (repeat (first | exact F0 _ | apply F1)))))) ?_
    rintro n _ _ ⟨j, hj, rfl, rfl, hA_⟩ ih
    replace hA_ := hA_.symm; subst hA_
    refine Run.seq ?_
    refine Run.sr ?_
    refine RunL.mv rfl rfl ?_
    refine RunL.mv rfl rfl ?_
    refine RunL.mv rfl rfl ?_
    refine RunL.pure (Pure.indexAddr (opvSl rfl hpz) rfl und28 sz24 (by omega) (by omega)) (Wt.none rfl) rfl rfl ?_
    refine RunL.pure (Pure.fieldAddr rfl fo24_2) (Wt.none rfl) rfl rfl ?_
    refine RunL.load1R rfl hroz ((elem_at (pre := prz) (post := poz) (f := cES) (sz := 6) (j := 2) (fun _ _ => rfl) hzi (by decide)).trans rfl) agg22 (Wt.none rfl) rfl ?_
    refine RunL.pure (Pure.lenSl rfl rfl und22) (Wt.none rfl) rfl rfl ?_
    refine RunL.pure (Pure.lss rfl rfl) (Wt.none rfl) rfl rfl ?_
    refine RunL.nil ?_
    refine Run.cond rfl (fun h3 => ?_) (fun h3 => ?_)
    · try simp only [ZA, ZB, ZC, ZD, ZE, ZF, ZG, ZH, ZI, ZJ, ZK, ZL, ZM, ZN, ZO, ZP, ZQ, ZR] at h3
      refine Run.skip ?_
      refine Run.starsPeel (s := (zs.take i).map slAny) (t := (zs.drop (i + 1)).map slAny) (Q := slAny y) _ (by first | ((repeat (first | (with_reducible exact F0 _) | apply F1)); done) | (repeat (first | exact F0 _ | apply F1))) (split_map slAny hzi) ?_
      refine Run.openAny (by first | ((repeat (first | (with_reducible exact F0 _) | apply F1)); done) | (repeat (first | exact F0 _ | apply F1))) ?_; intro qs hqs
      refine Run.openSl (n := qs.length) (a := y.2.a) (by first | ((repeat (first | (with_reducible exact F0 _) | apply F1)); done) | (repeat (first | exact F0 _ | apply F1))) (by omega) ?_; intro b9 pr9 po9 hpa hs1 hs2 hs3
      obtain ⟨q0, hq0⟩ := get_some (xs := qs) (i := j) (by omega)
      refine Run.seq ?_
      refine Run.block ?_
      refine Run.region ?_
      refine RunL.mv rfl rfl ?_
      refine RunL.mv rfl rfl ?_
      refine RunL.pure (Pure.indexAddr (opvSl rfl hpz) rfl und28 sz24 (by omega) (by omega)) (Wt.none rfl) rfl rfl ?_
      refine RunL.pure (Pure.fieldAddr rfl fo24_2) (Wt.none rfl) rfl rfl ?_
      refine RunL.load1R rfl hroz ((elem_at (pre := prz) (post := poz) (f := cES) (sz := 6) (j := 2) (fun _ _ => rfl) hzi (by decide)).trans rfl) agg22 (Wt.none rfl) rfl ?_
      refine RunL.mv rfl rfl ?_
      refine RunL.mv rfl rfl ?_
      refine RunL.pure (Pure.indexAddr (opvSl rfl hpa) rfl und22 sz9 (by omega) (by omega)) (Wt.none rfl) rfl rfl ?_
      refine RunL.store1A rfl rfl (by first | ((repeat (first | (with_reducible exact F0 _) | apply F1)); done) | (repeat (first | exact F0 _ | apply F1))) sz9 (by rfl) (by simp; omega) (set1_el (f := Value.string) (y := (cut z 3)) (by omega)) (Wt.none rfl) ?_
      refine RunL.nil ?_
      refine Run.inBlock ?_
      rw [Int.toNat_natCast]
      refine Run.mkSl (b := b9) (pre := pr9) (post := po9) (sz := 1) (n := (qs.set j (cut z 3)).length) (cs := (qs.set j (cut z 3)).map Value.string) (by first | ((repeat (first | (with_reducible exact F0 _) | apply F1)); done) | (repeat (first | exact F0 _ | apply F1))) (by simp) (by rw [List.length_set]; exact hs2) (by rw [List.length_set]; exact hs3) ?_
      rw [← hpa]
      refine Run.mkAny (y := y) (qs.set j (cut z 3)) (by rw [List.length_set]; exact hqs) (by repeat (first | (with_reducible exact Take.nil _) | (apply Take.cons (by first | ((repeat (first | (with_reducible exact F0 _) | apply F1)); done) | (repeat (first | exact F0 _ | apply F1)))))) ?_
      refine Run.starsBack (s := (zs.take i).map slAny) (t := (zs.drop (i + 1)).map slAny) (zs.map slAny) (by repeat (first | (with_reducible exact Take.nil _) | (apply Take.cons (by first | ((repeat (first | (with_reducible exact F0 _) | apply F1)); done) | (repeat (first | exact F0 _ | apply F1)))))) (split_map slAny hzi).symm ?_
      refine Run.region ?_
      refine RunL.mv rfl rfl ?_
      first | refine RunL.pure (Pure.addI rfl rfl (by omega)) (Wt.none rfl) rfl rfl ?_ | refine RunL.pure (Pure.add rfl rfl) (Wt.none rfl) rfl rfl ?_
      refine RunL.as rfl rfl ?_
      refine RunL.nil ?_
      refine Run.keep (.cons rfl (.cons rfl (.cons rfl (.cons rfl (.cons rfl (.cons rfl (.cons rfl (.nil))))))) : Keep _ [1, 2, 7, 8, 9, 10, 11] _) ?_
      refine Run.againF (F := F) ih (by exact ⟨j + 1, by omega, rfl, rfl, rfl⟩) (by repeat (first | (with_reducible exact Fin.done (by repeat (first | (with_reducible exact Rest.here) | apply Rest.there))) | (apply Fin.cons (by first | ((repeat (first | (with_reducible exact F0 _) | apply F1)); done) | (repeat (first | exact F0 _ | apply F1)))))) ?_
      omega
    · try simp only [ZA, ZB, ZC, ZD, ZE, ZF, ZG, ZH, ZI, ZJ, ZK, ZL, ZM, ZN, ZO, ZP, ZQ, ZR] at h3
      have ih := ih1
      refine Run.exit rfl ?_
      refine Run.inBlock ?_
      refine Run.region ?_
      refine RunL.mv rfl rfl ?_
      first | refine RunL.pure (Pure.addI rfl rfl (by omega)) (Wt.none rfl) rfl rfl ?_ | refine RunL.pure (Pure.add rfl rfl) (Wt.none rfl) rfl rfl ?_
      refine RunL.as rfl rfl ?_
      refine RunL.nil ?_
      refine Run.keep (.cons rfl (.cons rfl (.cons rfl (.cons rfl (.cons rfl (.cons rfl (.nil)))))) : Keep _ [1, 2, 7, 8, 9, 10] _) ?_
      refine Run.againF (F := F) ih (by exact ⟨i + 1, by omega, rfl, rfl, rfl⟩) (by repeat (first | (with_reducible exact Fin.done (by repeat (first | (with_reducible exact Rest.here) | apply Rest.there))) | (apply Fin.cons (by first | ((repeat (first | (with_reducible exact F0 _) | apply F1)); done) | (repeat (first | exact F0 _ | apply F1)))))) ?_
      omega
  · try simp only [ZA, ZB, ZC, ZD, ZE, ZF, ZG, ZH, ZI, ZJ, ZK, ZL, ZM, ZN, ZO, ZP, ZQ, ZR] at h2
    refine Run.exit rfl ?_
    refine Run.sr ?_
    refine RunL.pure (Pure.fieldAddr rfl fo30_0) (Wt.none rfl) rfl rfl ?_
    first | refine RunL.load1 rfl (by first | ((repeat (first | (with_reducible exact F0 _) | apply F1)); done) | (repeat (first | exact F0 _ | apply F1))) (by rfl) agg9 (Wt.none rfl) rfl ?_ | refine RunL.load1R rfl (by assumption) (by rfl) agg9 (Wt.none rfl) rfl ?_
    refine RunL.pure (Pure.buildL (ps := [(0, _), (1, _), (4, _)]) (zs := [(.string .empty), (.string .empty), (.slice none 0 0), (.string .empty), (.string .empty), (.int .i64 0)]) (xs := (cEvn ((⟨⟨#[36, 120]⟩, D.room, ⟨none, 0, 0⟩, .empty, ⟨#[64, 97, 58, 115, 49]⟩, 0⟩ : Evn)))) pl24 rfl rfl rfl rfl) (Wt.none rfl) rfl rfl ?_
    refine RunL.alloc zz24 (Wt.none rfl) rfl ?_; intro b12
    refine RunL.storeW (xs := (cEvn ((⟨⟨#[36, 120]⟩, D.room, ⟨none, 0, 0⟩, .empty, ⟨#[64, 97, 58, 115, 49]⟩, 0⟩ : Evn)))) rfl rfl (by first | ((repeat (first | (with_reducible exact F0 _) | apply F1)); done) | (repeat (first | exact F0 _ | apply F1))) sz24 (by rfl) (by rfl) (by rfl) (Wt.none rfl) ?_
    refine RunL.nil ?_
    refine Run.seq ?_
    refine Run.cut (fun e_ A => ∃ (b12 : Nat) (aa : Option Addr) (ca : Nat) (pp : List ByteArray), (pp = [] ∨ ∃ v ∈ (madeL (⟨#[33, 114, 58, 115, 49]⟩ : ByteArray) xs), pp = [v.id]) ∧ e_ = [(2, .string (cut z 3)), (7, .pointer (some ⟨b7, 0, none⟩)), (8, .pointer (some ⟨p, 0, none⟩)), (12, .pointer (some ⟨b12, 0, none⟩))] ∧ A = row b12 24 (cEvn (⟨⟨#[36, 120]⟩, D.room, ⟨aa, pp.length, ca⟩, .empty, ⟨#[64, 97, 58, 115, 49]⟩, 0⟩ : Evn)) :: Sl 9 1 aa pp.length ca (pp.map Value.string) :: row b7 30 (cDD D) :: Dg p (⟨#[33, 114, 58, 115, 49]⟩ : ByteArray) (madeL (⟨#[33, 114, 58, 115, 49]⟩ : ByteArray) xs) :: F) (fun e A hM => ?_) (fun hk => ?_)
    · obtain ⟨b12, aa, ca, pp, hpp, rfl, hA_⟩ := hM
      replace hA_ := hA_.symm; subst hA_
      have hpl : pp.length ≤ 1 := by rcases hpp with rfl | ⟨v, _, rfl⟩ <;> simp
      have hrc := own_rc (room := (⟨#[33, 114, 58, 115, 49]⟩ : ByteArray)) (by decide +kernel) hpp
      have how := own_wf (room := (⟨#[33, 114, 58, 115, 49]⟩ : ByteArray)) (by decide) hpp
      have hev : Evn.ev (⟨⟨#[36, 120]⟩, D.room, ⟨aa, pp.length, ca⟩, .empty, ⟨#[64, 97, 58, 115, 49]⟩, 0⟩ : Evn) pp = (ownV (⟨#[33, 114, 58, 115, 49]⟩ : ByteArray) pp) := by show (⟨_, D.room, _, _, _, _⟩ : Evt) = _; rw [hroom]; rfl
      have hno : EL.has (madeL (⟨#[33, 114, 58, 115, 49]⟩ : ByteArray) xs) (ownV (⟨#[33, 114, 58, 115, 49]⟩ : ByteArray) pp).id = false := own_no (by show (⟨#[36, 120]⟩ : ByteArray).size ≠ 3; decide)
      have hgx2 : EL.get ((madeL (⟨#[33, 114, 58, 115, 49]⟩ : ByteArray) xs) ++ [ownV (⟨#[33, 114, 58, 115, 49]⟩ : ByteArray) pp]) ⟨#[36, 120]⟩ = some (ownV (⟨#[33, 114, 58, 115, 49]⟩ : ByteArray) pp) := get_snoc hno
      have hhn : EL.has ((madeL (⟨#[33, 114, 58, 115, 49]⟩ : ByteArray) xs) ++ [ownV (⟨#[33, 114, 58, 115, 49]⟩ : ByteArray) pp]) ⟨#[36, 110, 111, 110, 101]⟩ = false := by
        rw [has_app, own_no (by decide)]
        exact has_no.2 fun v hv q => by
          obtain rfl := List.mem_singleton.1 hv
          exact absurd (congrArg ByteArray.size q) (by show (⟨#[36, 120]⟩ : ByteArray).size ≠ (⟨#[36, 110, 111, 110, 101]⟩ : ByteArray).size; decide)
      have hgn := get_nil.2 hhn
      refine Run.sr ?_
      refine RunL.as rfl rfl ?_
      refine RunL.nil ?_
      refine Run.sr ?_
      refine RunL.mv rfl rfl ?_
      refine RunL.pure (Pure.fieldAddr rfl fo24_2) (Wt.none rfl) rfl rfl ?_
      first | refine RunL.load1 rfl (by first | ((repeat (first | (with_reducible exact F0 _) | apply F1)); done) | (repeat (first | exact F0 _ | apply F1))) (by rfl) agg22 (Wt.none rfl) rfl ?_ | refine RunL.load1R rfl (by assumption) (by rfl) agg22 (Wt.none rfl) rfl ?_
      refine RunL.append0 (m := pp.length) rfl rfl rfl rfl und22 und22 rfl sz9 zz9 rfl by9 (by omega) (by omega) (fun w sw => (sw.find (p := Sl 9 1 aa pp.length ca (pp.map Value.string)) (by first | ((repeat (first | (with_reducible exact F0 _) | apply F1)); done) | (repeat (first | exact F0 _ | apply F1)))).src) (Wt.none rfl) rfl ?_; intro ak ck
      refine RunL.as rfl rfl ?_
      refine RunL.nil ?_
      refine Run.sr ?_
      refine RunL.mv rfl rfl ?_
      first | refine RunL.loadA (vs := (cEvn ((⟨⟨#[36, 120]⟩, D.room, ⟨aa, pp.length, ca⟩, .empty, ⟨#[64, 97, 58, 115, 49]⟩, 0⟩ : Evn)))) rfl (by first | ((repeat (first | (with_reducible exact F0 _) | apply F1)); done) | (repeat (first | exact F0 _ | apply F1))) agg24 sz24 (by first | exact Nat.le_of_ble_eq_true rfl | (simp; done) | (simp; omega)) rfl (Wt.none rfl) rfl ?_ | refine RunL.loadNR (vs := (cEvn ((⟨⟨#[36, 120]⟩, D.room, ⟨aa, pp.length, ca⟩, .empty, ⟨#[64, 97, 58, 115, 49]⟩, 0⟩ : Evn)))) rfl (by assumption) agg24 sz24 (by first | exact Nat.le_of_ble_eq_true rfl | (simp; done) | (simp; omega)) rfl (Wt.none rfl) rfl ?_
      refine RunL.call rfl rfl (by rfl) (by repeat (first | (with_reducible exact Take.nil _) | (apply Take.cons (by first | ((repeat (first | (with_reducible exact F0 _) | apply F1)); done) | (repeat (first | exact F0 _ | apply F1)))))) (Ctr.lend (Q := Sl 9 1 aa pp.length ca (pp.map Value.string)) (R := fun G => SlR G 9 1 _ _ _ ∧ _ ≤ _) Lends.Sl cb25 (fun G' hle hr => Add_ctr (e := (⟨⟨#[36, 120]⟩, D.room, ⟨aa, pp.length, ca⟩, .empty, ⟨#[64, 97, 58, 115, 49]⟩, 0⟩ : Evn)) (ps := pp) ⟨rfl, hr.1⟩ (by rw [hev]; exact how) (by omega))) (Wt.none rfl) rfl ?_
      rintro _ _ ⟨_, rfl, rfl, hA_⟩
      replace hA_ := hA_.symm; subst hA_
      rw [hev, hrc, addL_ok hrc]
      refine RunL.as rfl rfl ?_
      refine RunL.nil ?_
      refine Run.seq ?_
      refine Run.cut (fun e_ A => e_ = [(7, .pointer (some ⟨b7, 0, none⟩)), (8, .pointer (some ⟨p, 0, none⟩)), (13, .slice ak pp.length ck), (14, .int .i64 0)] ∧ A = Sl 9 1 ak pp.length ck (pp.map Value.string) :: row b7 30 (cDD D) :: Dg p (⟨#[33, 114, 58, 115, 49]⟩ : ByteArray) ((madeL (⟨#[33, 114, 58, 115, 49]⟩ : ByteArray) xs) ++ [ownV (⟨#[33, 114, 58, 115, 49]⟩ : ByteArray) pp]) :: F) (fun e A hM => ?_) (fun hk => ?_)
      · obtain ⟨rfl, hA_⟩ := hM
        replace hA_ := hA_.symm; subst hA_
        refine Run.sr ?_
        refine RunL.mv rfl rfl ?_
        refine RunL.call rfl rfl (by rfl) (by repeat (first | (with_reducible exact Take.nil _) | (apply Take.cons (by first | ((repeat (first | (with_reducible exact F0 _) | apply F1)); done) | (repeat (first | exact F0 _ | apply F1)))))) (Ctr.lend Lends.Dg cb26 (fun G' hle hr => EventD_ctr (id := ⟨#[36, 120]⟩) hr)) (Wt.none rfl) rfl ?_
        rintro _ _ ⟨_, hA2, hev⟩
        rcases hev with ⟨h1, rfl, hA_⟩ | ⟨u, a1, c1, hgu, rfl, hA_⟩
        · skip
          exfalso; rw [hgx2] at h1; cases h1
        · skip
          obtain rfl : _ = u := Option.some.inj ((hgx2).symm.trans hgu)
          subst hA_
          subst hA2
          refine RunL.mv rfl rfl ?_
          refine RunL.pure (Pure.extract rfl rfl) (Wt.none rfl) rfl rfl ?_
          refine RunL.pure (Pure.extract rfl rfl) (Wt.none rfl) rfl rfl ?_
          refine RunL.alloc zz24 (Wt.none rfl) rfl ?_; intro b15
          refine RunL.storeW (xs := (cEvn (((ownV (⟨#[33, 114, 58, 115, 49]⟩ : ByteArray) pp).evn ⟨a1, pp.length, c1⟩)))) rfl rfl (by first | ((repeat (first | (with_reducible exact F0 _) | apply F1)); done) | (repeat (first | exact F0 _ | apply F1))) sz24 (by rfl) (by rfl) (by rfl) (Wt.none rfl) ?_
          refine RunL.as rfl rfl ?_
          refine RunL.nil ?_
          refine Run.seq ?_
          refine Run.sr ?_
          refine RunL.mv rfl rfl ?_
          refine RunL.pure (Pure.neq rfl rfl) (Wt.none rfl) rfl rfl ?_
          refine RunL.mv rfl rfl ?_
          refine RunL.split (d := 97) rfl (fun hg1 => ?_) (fun hg1 => ?_)
          · try simp only [ZA, ZB, ZC, ZD, ZE, ZF, ZG, ZH, ZI, ZJ, ZK, ZL, ZM, ZN, ZO, ZP, ZQ, ZR] at hg1
            exfalso
            first | exact hg1 rfl | (simp at hg1; done)
          try simp only [ZA, ZB, ZC, ZD, ZE, ZF, ZG, ZH, ZI, ZJ, ZK, ZL, ZM, ZN, ZO, ZP, ZQ, ZR] at hg1
          refine RunL.pure (Pure.move rfl) (Wt.yes rfl rfl rfl) rfl rfl ?_
          refine RunL.pure (Pure.not rfl) (Wt.yes rfl rfl rfl) rfl rfl ?_
          refine RunL.pure (Pure.pickF rfl rfl) (Wt.none rfl) rfl rfl ?_
          refine RunL.mv rfl rfl ?_
          refine RunL.split (d := 101) rfl (fun hg2 => ?_) (fun hg2 => ?_)
          · try simp only [ZA, ZB, ZC, ZD, ZE, ZF, ZG, ZH, ZI, ZJ, ZK, ZL, ZM, ZN, ZO, ZP, ZQ, ZR] at hg2
            exfalso
            first | exact hg2 rfl | (simp at hg2; done)
          try simp only [ZA, ZB, ZC, ZD, ZE, ZF, ZG, ZH, ZI, ZJ, ZK, ZL, ZM, ZN, ZO, ZP, ZQ, ZR] at hg2
          refine RunL.pure (Pure.fieldAddr rfl fo24_2) (Wt.yes rfl rfl rfl) rfl rfl ?_
          first | refine RunL.load1 rfl (by first | ((repeat (first | (with_reducible exact F0 _) | apply F1)); done) | (repeat (first | exact F0 _ | apply F1))) (by rfl) agg22 (Wt.yes rfl rfl rfl) rfl ?_ | refine RunL.load1R rfl (by assumption) (by rfl) agg22 (Wt.yes rfl rfl rfl) rfl ?_
          refine RunL.pure (Pure.move rfl) (Wt.yes rfl rfl rfl) rfl rfl ?_
          refine RunL.call rfl rfl (by rfl) (by repeat (first | (with_reducible exact Take.nil _) | (apply Take.cons (by first | ((repeat (first | (with_reducible exact F0 _) | apply F1)); done) | (repeat (first | exact F0 _ | apply F1)))))) ((Ctr.lend2 (Q1 := Sl 9 1 a1 pp.length c1 (pp.map Value.string)) (Q2 := Sl 9 1 ak pp.length ck (pp.map Value.string)) (R1 := fun G => SlR G 9 1 _ _ _ ∧ _ ≤ _) (R2 := fun G => SlR G 9 1 _ _ _ ∧ _ ≤ _) Lends.Sl Lends.Sl cb27 (fun G G' h q => ⟨q.1.mono h, q.2⟩) (fun G' hle hr hr2 => TextsR_ctr hr.1 hr2.1 (by omega)))) (Wt.yes rfl rfl rfl) rfl ?_
          rintro _ _ ⟨_, rfl, rfl, hA_⟩
          replace hA_ := hA_.symm; subst hA_
          refine RunL.pure (Pure.not rfl) (Wt.yes rfl rfl rfl) rfl rfl ?_
          refine RunL.pure (Pure.pickF rfl rfl) (Wt.none rfl) rfl rfl ?_
          refine RunL.nil ?_
          refine Run.cond rfl (fun hc3 => ?_) (fun hc3 => ?_)
          · try simp only [ZA, ZB, ZC, ZD, ZE, ZF, ZG, ZH, ZI, ZJ, ZK, ZL, ZM, ZN, ZO, ZP, ZQ, ZR] at hc3
            exfalso
            first | exact hc3 rfl | (simp at hc3; done)
          try simp only [ZA, ZB, ZC, ZD, ZE, ZF, ZG, ZH, ZI, ZJ, ZK, ZL, ZM, ZN, ZO, ZP, ZQ, ZR] at hc3
          refine Run.skip ?_
          refine Run.seq ?_
          refine Run.sr ?_
          refine RunL.as rfl rfl ?_
          refine RunL.nil ?_
          refine Run.block ?_
          refine Run.keep (.cons rfl (.cons rfl (.cons rfl (.nil))) : Keep _ [7, 8, 17] _) ?_
          refine Run.loopF (F := F) (fun n e_ A => ∃ (i : Nat), i ≤ ((madeL (⟨#[33, 114, 58, 115, 49]⟩ : ByteArray) xs)).length ∧ n = ((madeL (⟨#[33, 114, 58, 115, 49]⟩ : ByteArray) xs)).length - i ∧ e_ = [(7, .pointer (some ⟨b7, 0, none⟩)), (8, .pointer (some ⟨p, 0, none⟩)), (17, .int .i64 (i : Nat))] ∧ A = row b7 30 (cDD D) :: Dg p (⟨#[33, 114, 58, 115, 49]⟩ : ByteArray) ((madeL (⟨#[33, 114, 58, 115, 49]⟩ : ByteArray) xs) ++ [ownV (⟨#[33, 114, 58, 115, 49]⟩ : ByteArray) pp]) :: F) (((madeL (⟨#[33, 114, 58, 115, 49]⟩ : ByteArray) xs)).length) (by exact ⟨0, by omega, rfl, rfl, rfl⟩) (by repeat (first | (with_reducible exact Fin.done (by repeat (first | (with_reducible exact Rest.here) | apply Rest.there))) | (apply Fin.cons (by first | ((repeat (first | (with_reducible exact F0 _) | apply F1)); done) | (repeat (first | exact F0 _ | apply F1)))))) ?_
          rintro n _ _ ⟨i, hi, rfl, rfl, hA_⟩ ih
          replace hA_ := hA_.symm; subst hA_
          refine Run.seq ?_
          refine Run.sr ?_
          refine RunL.mv rfl rfl ?_
          refine RunL.pure (Pure.fieldAddr rfl fo30_1) (Wt.none rfl) rfl rfl ?_
          first | refine RunL.load1 rfl (by first | ((repeat (first | (with_reducible exact F0 _) | apply F1)); done) | (repeat (first | exact F0 _ | apply F1))) (by rfl) agg28 (Wt.none rfl) rfl ?_ | refine RunL.load1R rfl (by assumption) (by rfl) agg28 (Wt.none rfl) rfl ?_
          refine RunL.pure (Pure.lenSl rfl rfl und28) (Wt.none rfl) rfl rfl ?_
          refine RunL.pure (Pure.lss rfl rfl) (Wt.none rfl) rfl rfl ?_
          refine RunL.nil ?_
          refine Run.cond rfl (fun h6 => ?_) (fun h6 => ?_)
          · try simp only [ZA, ZB, ZC, ZD, ZE, ZF, ZG, ZH, ZI, ZJ, ZK, ZL, ZM, ZN, ZO, ZP, ZQ, ZR] at h6
            obtain ⟨v, hv⟩ := get_some (xs := (madeL (⟨#[33, 114, 58, 115, 49]⟩ : ByteArray) xs)) (i := i) (by omega)
            obtain ⟨s, hy⟩ := ES_get hyl hv
            have hvm := List.mem_of_getElem? hv
            have hym := List.mem_of_getElem? hy
            obtain ⟨be, Te, pree, poste, hpe, hroe⟩ := hds.open1 (show 0 < ys.length by omega)
            have hge : EL.get ((madeL (⟨#[33, 114, 58, 115, 49]⟩ : ByteArray) xs) ++ [ownV (⟨#[33, 114, 58, 115, 49]⟩ : ByteArray) pp]) v.id = some v := get_app (hmg.get hvm)
            have hvl := evOk_len (hmg.mem hvm).1
            refine Run.skip ?_
            refine Run.seq ?_
            refine Run.block ?_
            refine Run.sr ?_
            refine RunL.mv rfl rfl ?_
            refine RunL.pure (Pure.fieldAddr rfl fo30_1) (Wt.none rfl) rfl rfl ?_
            first | refine RunL.load1 rfl (by first | ((repeat (first | (with_reducible exact F0 _) | apply F1)); done) | (repeat (first | exact F0 _ | apply F1))) (by rfl) agg28 (Wt.none rfl) rfl ?_ | refine RunL.load1R rfl (by assumption) (by rfl) agg28 (Wt.none rfl) rfl ?_
            refine RunL.mv rfl rfl ?_
            refine RunL.pure (Pure.indexAddr (opvSl rfl hpe) rfl und28 sz24 (by omega) (by omega)) (Wt.none rfl) rfl rfl ?_
            refine RunL.pure (Pure.fieldAddr rfl fo24_0) (Wt.none rfl) rfl rfl ?_
            refine RunL.load1R rfl hroe ((elem_at (pre := pree) (post := poste) (f := cES) (sz := 6) (j := 0) (fun _ _ => rfl) hy (by decide)).trans rfl) agg9 (Wt.none rfl) rfl ?_
            refine RunL.call rfl rfl (by rfl) (by repeat (first | (with_reducible exact Take.nil _) | (apply Take.cons (by first | ((repeat (first | (with_reducible exact F0 _) | apply F1)); done) | (repeat (first | exact F0 _ | apply F1)))))) (Ctr.lend Lends.Dg cb26 (fun G' hle hr => EventD_ctr (id := v.id) hr)) (Wt.none rfl) rfl ?_
            rintro _ _ ⟨_, hA2, hev⟩
            rcases hev with ⟨h1, rfl, hA_⟩ | ⟨u, a1, c1, hgu, rfl, hA_⟩
            · skip
              exfalso; rw [hge] at h1; cases h1
            · skip
              obtain rfl : _ = u := Option.some.inj ((hge).symm.trans hgu)
              subst hA_
              subst hA2
              refine RunL.mv rfl rfl ?_
              refine RunL.pure (Pure.extract rfl rfl) (Wt.none rfl) rfl rfl ?_
              refine RunL.pure (Pure.extract rfl rfl) (Wt.none rfl) rfl rfl ?_
              refine RunL.alloc zz24 (Wt.none rfl) rfl ?_; intro b18
              refine RunL.storeW (xs := (cEvn ((v.evn ⟨a1, v.ps.length, c1⟩)))) rfl rfl (by first | ((repeat (first | (with_reducible exact F0 _) | apply F1)); done) | (repeat (first | exact F0 _ | apply F1))) sz24 (by rfl) (by rfl) (by rfl) (Wt.none rfl) ?_
              refine RunL.as rfl rfl ?_
              refine RunL.nil ?_
              refine Run.seq ?_
              refine Run.regionD' (by kernel_rfl) (by kernel_rfl) (fun hok302 => ?_)
              refine RunD.lend (Q := row b18 24 _) Lends.row (by first | ((repeat (first | (with_reducible exact F0 _) | apply F1)); done) | (repeat (first | exact F0 _ | apply F1))) ?_; intro gl1 hlegl1 hl1 backgl1
              have hgsx_gl1 := hgsx.mono hlegl1
              have hgx_gl1 := hgx.mono hlegl1
              have hd_gl1 := hd.mono hlegl1
              have hds_gl1 := hds.mono hlegl1
              have hdk_gl1 := hdk.mono hlegl1
              have hz_gl1 := hz.mono hlegl1
              have hroe_gl1 := hroe.mono hlegl1
              refine RunD.lend (Q := row b7 30 _) Lends.row (by first | ((repeat (first | (with_reducible exact F0 _) | apply F1)); done) | (repeat (first | exact F0 _ | apply F1))) ?_; intro gl2 hlegl2 hl2 backgl2
              have hl1 := hl1.mono hlegl2
              have hgsx_gl2 := hgsx_gl1.mono hlegl2
              have hgx_gl2 := hgx_gl1.mono hlegl2
              have hd_gl2 := hd_gl1.mono hlegl2
              have hds_gl2 := hds_gl1.mono hlegl2
              have hdk_gl2 := hdk_gl1.mono hlegl2
              have hz_gl2 := hz_gl1.mono hlegl2
              have hroe_gl2 := hroe_gl1.mono hlegl2
              refine RunD.pure (i := 0) hok302 rfl (by kernel_rfl) (Pure.move rfl) (Wt.none rfl) rfl rfl ?_
              refine RunD.pure (i := 1) hok302 rfl (by kernel_rfl) (Pure.not rfl) (Wt.none rfl) rfl rfl ?_
              refine RunD.pure (i := 2) hok302 rfl (by kernel_rfl) (Pure.move rfl) (Wt.none rfl) rfl rfl ?_
              refine RunD.split (d := 128) rfl (fun hg4 => ?_) (fun hg4 => ?_)
              · try simp only [ZA, ZB, ZC, ZD, ZE, ZF, ZG, ZH, ZI, ZJ, ZK, ZL, ZM, ZN, ZO, ZP, ZQ, ZR] at hg4
                exfalso
                first | exact hg4 rfl | (simp at hg4; done)
              try simp only [ZA, ZB, ZC, ZD, ZE, ZF, ZG, ZH, ZI, ZJ, ZK, ZL, ZM, ZN, ZO, ZP, ZQ, ZR] at hg4
              refine RunD.loadNR (vs := (cEvn ((v.evn ⟨a1, v.ps.length, c1⟩)))) (i := 3) hok302 rfl (by kernel_rfl) rfl (by assumption) agg24 sz24 (by first | exact Nat.le_of_ble_eq_true rfl | (simp; done) | (simp; omega)) rfl (Wt.yes rfl rfl rfl) rfl ?_
              refine RunD.pure (i := 4) hok302 rfl (by kernel_rfl) (Pure.fieldAddr rfl fo30_1) (Wt.yes rfl rfl rfl) rfl rfl ?_
              refine RunD.load1R (i := 5) hok302 rfl (by kernel_rfl) rfl (by assumption) (by rfl) agg28 (Wt.yes rfl rfl rfl) rfl ?_
              refine RunD.pure (i := 6) hok302 rfl (by kernel_rfl) (Pure.move rfl) (Wt.yes rfl rfl rfl) rfl rfl ?_
              refine RunD.pure (i := 7) hok302 rfl (by kernel_rfl) (Pure.indexAddr (opvSl rfl hpe) rfl und28 sz24 (by omega) (by omega)) (Wt.yes rfl rfl rfl) rfl rfl ?_
              refine RunD.loadNR (vs := (cEvn ((v.evn s)))) (i := 8) hok302 rfl (by kernel_rfl) rfl hroe_gl2 agg24 sz24 (elemN_len (pre := pree) (post := poste) (f := cES) (sz := 6) (j := 0) (n := 6) (fun _ _ => rfl) hy (by decide)) ((elemN_at (pre := pree) (post := poste) (f := cES) (sz := 6) (j := 0) (n := 6) (fun _ _ => rfl) hy (by decide)).trans rfl) (Wt.yes rfl rfl rfl) rfl ?_
              refine RunD.one (i := 9) (by kernel_rfl) rfl ?_
              refine RunL.call rfl rfl (by rfl) (by repeat (first | (with_reducible exact Take.nil _) | (apply Take.cons (by first | ((repeat (first | (with_reducible exact F0 _) | apply F1)); done) | (repeat (first | exact F0 _ | apply F1)))))) (Ctr.lend (R := fun G => SlR G 9 1 _ _ _ ∧ _ ≤ _) Lends.Sl cb16 (fun G' hle hr => rdSame_ctr (e := v.evn ⟨a1, v.ps.length, c1⟩) (ps := v.ps) (f := v.evn s) (qs := v.ps) ⟨rfl, hr.1⟩ ((hdk_gl2 _ hym).mono hle) (by omega))) (Wt.yes rfl rfl rfl) rfl ?_
              rintro _ _ ⟨_, rfl, rfl, hA_⟩
              replace hA_ := hA_.symm; subst hA_
              rw [evSame_eq, ev_evn, ev_evn]
              refine RunL.nilD' ?_
              refine RunD.pure (i := 10) hok302 rfl (by kernel_rfl) (Pure.not rfl) (Wt.yes rfl rfl rfl) rfl rfl ?_
              refine RunD.pure (i := 11) hok302 rfl (by kernel_rfl) (Pure.pickF rfl rfl) (Wt.none rfl) rfl rfl ?_
              refine RunD.nilB (by kernel_rfl) (fun w sw => backgl1 _ _ (backgl2 _ _ (sw))) ?_
              refine Run.cond rfl (fun hc5 => ?_) (fun hc5 => ?_)
              · try simp only [ZA, ZB, ZC, ZD, ZE, ZF, ZG, ZH, ZI, ZJ, ZK, ZL, ZM, ZN, ZO, ZP, ZQ, ZR] at hc5
                exfalso
                first | exact hc5 rfl | (simp at hc5; done)
              try simp only [ZA, ZB, ZC, ZD, ZE, ZF, ZG, ZH, ZI, ZJ, ZK, ZL, ZM, ZN, ZO, ZP, ZQ, ZR] at hc5
              refine Run.skip ?_
              refine Run.inBlock ?_
              refine Run.region ?_
              refine RunL.mv rfl rfl ?_
              first | refine RunL.pure (Pure.addI rfl rfl (by omega)) (Wt.none rfl) rfl rfl ?_ | refine RunL.pure (Pure.add rfl rfl) (Wt.none rfl) rfl rfl ?_
              refine RunL.as rfl rfl ?_
              refine RunL.nil ?_
              refine Run.keep (.cons rfl (.cons rfl (.cons rfl (.nil))) : Keep _ [7, 8, 17] _) ?_
              refine Run.againF (F := F) ih (by exact ⟨i + 1, by omega, rfl, rfl, rfl⟩) (by repeat (first | (with_reducible exact Fin.done (by repeat (first | (with_reducible exact Rest.here) | apply Rest.there))) | (apply Fin.cons (by first | ((repeat (first | (with_reducible exact F0 _) | apply F1)); done) | (repeat (first | exact F0 _ | apply F1)))))) ?_
              omega
          · try simp only [ZA, ZB, ZC, ZD, ZE, ZF, ZG, ZH, ZI, ZJ, ZK, ZL, ZM, ZN, ZO, ZP, ZQ, ZR] at h6
            refine Run.exit rfl ?_
            refine Run.sr ?_
            refine RunL.mv rfl rfl ?_
            refine RunL.call rfl rfl (by rfl) (by repeat (first | (with_reducible exact Take.nil _) | (apply Take.cons (by first | ((repeat (first | (with_reducible exact F0 _) | apply F1)); done) | (repeat (first | exact F0 _ | apply F1)))))) (Ctr.lend Lends.Dg cb26 (fun G' hle hr => EventD_ctr (id := ⟨#[36, 110, 111, 110, 101]⟩) hr)) (Wt.none rfl) rfl ?_
            rintro _ _ ⟨_, hA2, hev⟩
            rcases hev with ⟨h1, rfl, hA_⟩ | ⟨u, a1, c1, hgu, rfl, hA_⟩
            · skip
              subst hA_
              subst hA2
              refine RunL.mv rfl rfl ?_
              refine RunL.pure (Pure.extract rfl rfl) (Wt.none rfl) rfl rfl ?_
              refine RunL.pure (Pure.extract rfl rfl) (Wt.none rfl) rfl rfl ?_
              refine RunL.alloc zz24 (Wt.none rfl) rfl ?_; intro b20
              refine RunL.storeW (xs := (cEvn noEv)) rfl rfl (by first | ((repeat (first | (with_reducible exact F0 _) | apply F1)); done) | (repeat (first | exact F0 _ | apply F1))) sz24 (by rfl) (by rfl) (by rfl) (Wt.none rfl) ?_
              refine RunL.as rfl rfl ?_
              refine RunL.nil ?_
              refine Run.sr ?_
              refine RunL.mv rfl rfl ?_
              refine RunL.pure (Pure.not rfl) (Wt.none rfl) rfl rfl ?_
              refine RunL.mv rfl rfl ?_
              refine RunL.split (d := 145) rfl (fun hg6 => ?_) (fun hg6 => ?_)
              rotate_left
              · try simp only [ZA, ZB, ZC, ZD, ZE, ZF, ZG, ZH, ZI, ZJ, ZK, ZL, ZM, ZN, ZO, ZP, ZQ, ZR] at hg6
                exfalso
                first | exact hg6 rfl | (simp at hg6; done)
              try simp only [ZA, ZB, ZC, ZD, ZE, ZF, ZG, ZH, ZI, ZJ, ZK, ZL, ZM, ZN, ZO, ZP, ZQ, ZR] at hg6
              refine RunL.pure (Pure.move rfl) (Wt.yes rfl rfl rfl) rfl rfl ?_
              refine RunL.call rfl rfl (by rfl) (by repeat (first | (with_reducible exact Take.nil _) | (apply Take.cons (by first | ((repeat (first | (with_reducible exact F0 _) | apply F1)); done) | (repeat (first | exact F0 _ | apply F1)))))) (Ctr.lend Lends.Dg cb28 (fun G' hle hr => HasD_ctr (id := ⟨#[36, 110, 111, 110, 101]⟩) hr)) (Wt.yes rfl rfl rfl) rfl ?_
              rintro _ _ ⟨_, rfl, rfl, hA_⟩
              replace hA_ := hA_.symm; subst hA_
              rw [hhn]
              refine RunL.pure (Pure.not rfl) (Wt.yes rfl rfl rfl) rfl rfl ?_
              refine RunL.pure (Pure.pickT rfl rfl) (Wt.none rfl) rfl rfl ?_
              refine RunL.mv rfl rfl ?_
              refine RunL.split (d := 150) rfl (fun hg7 => ?_) (fun hg7 => ?_)
              rotate_left
              · try simp only [ZA, ZB, ZC, ZD, ZE, ZF, ZG, ZH, ZI, ZJ, ZK, ZL, ZM, ZN, ZO, ZP, ZQ, ZR] at hg7
                exfalso
                first | exact hg7 rfl | (simp at hg7; done)
              try simp only [ZA, ZB, ZC, ZD, ZE, ZF, ZG, ZH, ZI, ZJ, ZK, ZL, ZM, ZN, ZO, ZP, ZQ, ZR] at hg7
              refine RunL.call rfl rfl (by rfl) (by repeat (first | (with_reducible exact Take.nil _) | (apply Take.cons (by first | ((repeat (first | (with_reducible exact F0 _) | apply F1)); done) | (repeat (first | exact F0 _ | apply F1)))))) (lives_ctr) (Wt.yes rfl rfl rfl) rfl ?_
              rintro _ _ ⟨rfl, hA_⟩
              replace hA_ := hA_.symm; subst hA_
              refine RunL.pure (Pure.pickT rfl rfl) (Wt.none rfl) rfl rfl ?_
              refine RunL.as rfl rfl ?_
              refine RunL.nil ?_
              exact Run.ret Try.func6 (res1 rfl rfl) (by exact ⟨rfl, rfl⟩) (by repeat (first | (with_reducible exact Fin.done (by repeat (first | (with_reducible exact Rest.here) | apply Rest.there))) | (apply Fin.cons (by first | ((repeat (first | (with_reducible exact F0 _) | apply F1)); done) | (repeat (first | exact F0 _ | apply F1))))))
            · skip
              exfalso; rw [hgn] at hgu; cases hgu
      · skip
        refine Run.sr ?_
        refine RunL.pure (Pure.fieldAddr rfl fo24_2) (Wt.none rfl) rfl rfl ?_
        first | refine RunL.load1 rfl (by first | ((repeat (first | (with_reducible exact F0 _) | apply F1)); done) | (repeat (first | exact F0 _ | apply F1))) (by rfl) agg22 (Wt.none rfl) rfl ?_ | refine RunL.load1R rfl (by assumption) (by rfl) agg22 (Wt.none rfl) rfl ?_
        refine RunL.pure (Pure.lenSl rfl rfl und22) (Wt.none rfl) rfl rfl ?_
        refine RunL.pure (Pure.gtr rfl rfl) (Wt.none rfl) rfl rfl ?_
        refine RunL.nil ?_
        refine Run.cond rfl (fun h5 => ?_) (fun h5 => ?_)
        · try simp only [ZA, ZB, ZC, ZD, ZE, ZF, ZG, ZH, ZI, ZJ, ZK, ZL, ZM, ZN, ZO, ZP, ZQ, ZR] at h5
          refine Run.openSl (n := pp.length) (a := aa) (by first | ((repeat (first | (with_reducible exact F0 _) | apply F1)); done) | (repeat (first | exact F0 _ | apply F1))) (by omega) ?_; intro b9 pr9 po9 hpa hs1 hs2 hs3
          obtain ⟨q0, hq0⟩ := get_some (xs := pp) (i := 0) (by omega)
          refine Run.region ?_
          refine RunL.pure (Pure.fieldAddr rfl fo24_2) (Wt.none rfl) rfl rfl ?_
          first | refine RunL.load1 rfl (by first | ((repeat (first | (with_reducible exact F0 _) | apply F1)); done) | (repeat (first | exact F0 _ | apply F1))) (by rfl) agg22 (Wt.none rfl) rfl ?_ | refine RunL.load1R rfl (by assumption) (by rfl) agg22 (Wt.none rfl) rfl ?_
          refine RunL.mv rfl rfl ?_
          refine RunL.pure (Pure.indexAddr (opvSl rfl hpa) rfl und22 sz9 (by omega) (by omega)) (Wt.none rfl) rfl rfl ?_
          refine RunL.store1A rfl rfl (by first | ((repeat (first | (with_reducible exact F0 _) | apply F1)); done) | (repeat (first | exact F0 _ | apply F1))) sz9 (by rfl) (by simp; omega) (set1_el (f := Value.string) (y := (cut z 3)) (by omega)) (Wt.none rfl) ?_
          refine RunL.nil ?_
          refine Run.keep (.cons rfl (.cons rfl (.cons rfl (.cons rfl (.nil)))) : Keep _ [7, 8, 13, 14] _) ?_
          exact Run.meetF (F := F) hk (by exact ⟨rfl, rfl⟩) (by repeat (first | (with_reducible exact Fin.done (by repeat (first | (with_reducible exact Rest.here) | apply Rest.there))) | (apply Fin.cons (by first | ((repeat (first | (with_reducible exact F0 _) | apply F1)); done) | (repeat (first | exact F0 _ | apply F1))))))
        · try simp only [ZA, ZB, ZC, ZD, ZE, ZF, ZG, ZH, ZI, ZJ, ZK, ZL, ZM, ZN, ZO, ZP, ZQ, ZR] at h5
          refine Run.skip ?_
          refine Run.keep (.cons rfl (.cons rfl (.cons rfl (.cons rfl (.nil)))) : Keep _ [7, 8, 13, 14] _) ?_
          exact Run.meetF (F := F) hk (by exact ⟨rfl, rfl⟩) (by repeat (first | (with_reducible exact Fin.done (by repeat (first | (with_reducible exact Rest.here) | apply Rest.there))) | (apply Fin.cons (by first | ((repeat (first | (with_reducible exact F0 _) | apply F1)); done) | (repeat (first | exact F0 _ | apply F1))))))
    · skip
      refine Run.sr ?_
      refine RunL.pure (Pure.fieldAddr rfl fo30_1) (Wt.none rfl) rfl rfl ?_
      first | refine RunL.load1 rfl (by first | ((repeat (first | (with_reducible exact F0 _) | apply F1)); done) | (repeat (first | exact F0 _ | apply F1))) (by rfl) agg28 (Wt.none rfl) rfl ?_ | refine RunL.load1R rfl (by assumption) (by rfl) agg28 (Wt.none rfl) rfl ?_
      refine RunL.pure (Pure.lenSl rfl rfl und28) (Wt.none rfl) rfl rfl ?_
      refine RunL.pure (Pure.gtr rfl rfl) (Wt.none rfl) rfl rfl ?_
      refine RunL.nil ?_
      refine Run.cond rfl (fun h4 => ?_) (fun h4 => ?_)
      · try simp only [ZA, ZB, ZC, ZD, ZE, ZF, ZG, ZH, ZI, ZJ, ZK, ZL, ZM, ZN, ZO, ZP, ZQ, ZR] at h4
        have hal := around_lt (z := k) (m := (D.l.n : Nat)) (by omega)
        obtain ⟨q, hq⟩ : ∃ q : Nat, around k (D.l.n : Nat) = (q : Nat) := ⟨(around k (D.l.n : Nat)).toNat, by omega⟩
        obtain ⟨v, hv⟩ := get_some (xs := (madeL (⟨#[33, 114, 58, 115, 49]⟩ : ByteArray) xs)) (i := q) (by omega)
        obtain ⟨s, hy⟩ := ES_get hyl hv
        obtain ⟨be, Te, pree, poste, hpe, hroe⟩ := hds.open1 (show 0 < ys.length by omega)
        refine Run.regionD' (by kernel_rfl) (by kernel_rfl) (fun hok446 => ?_)
        refine RunD.lend (Q := row b7 30 _) Lends.row (by first | ((repeat (first | (with_reducible exact F0 _) | apply F1)); done) | (repeat (first | exact F0 _ | apply F1))) ?_; intro gl3 hlegl3 hl3 backgl3
        have hgsx_gl3 := hgsx.mono hlegl3
        have hgx_gl3 := hgx.mono hlegl3
        have hd_gl3 := hd.mono hlegl3
        have hds_gl3 := hds.mono hlegl3
        have hdk_gl3 := hdk.mono hlegl3
        have hz_gl3 := hz.mono hlegl3
        have hroe_gl3 := hroe.mono hlegl3
        refine RunD.pure (i := 0) hok446 rfl (by kernel_rfl) (Pure.fieldAddr rfl fo30_1) (Wt.none rfl) rfl rfl ?_
        refine RunD.load1R (i := 1) hok446 rfl (by kernel_rfl) rfl (by assumption) (by rfl) agg28 (Wt.none rfl) rfl ?_
        refine RunD.pure (i := 2) hok446 rfl (by kernel_rfl) (Pure.move rfl) (Wt.none rfl) rfl rfl ?_
        refine RunD.pure (i := 3) hok446 rfl (by kernel_rfl) (Pure.fieldAddr rfl fo30_1) (Wt.none rfl) rfl rfl ?_
        refine RunD.load1R (i := 4) hok446 rfl (by kernel_rfl) rfl (by assumption) (by rfl) agg28 (Wt.none rfl) rfl ?_
        refine RunD.pure (i := 5) hok446 rfl (by kernel_rfl) (Pure.lenSl rfl rfl und28) (Wt.none rfl) rfl rfl ?_
        refine RunD.one (i := 6) (by kernel_rfl) rfl ?_
        refine RunL.call rfl rfl (by rfl) (by repeat (first | (with_reducible exact Take.nil _) | (apply Take.cons (by first | ((repeat (first | (with_reducible exact F0 _) | apply F1)); done) | (repeat (first | exact F0 _ | apply F1)))))) (Around_ctr (z := k) (m := (D.l.n : Nat)) hkw (by omega)) (Wt.none rfl) rfl ?_
        rintro _ _ ⟨rfl, hA_⟩
        replace hA_ := hA_.symm; subst hA_
        rw [hq]
        refine RunL.nilD' ?_
        refine RunD.pure (i := 7) hok446 rfl (by kernel_rfl) (Pure.indexAddr (opvSl rfl hpe) rfl und28 sz24 (by omega) (by omega)) (Wt.none rfl) rfl rfl ?_
        refine RunD.pure (i := 8) hok446 rfl (by kernel_rfl) (Pure.fieldAddr rfl fo24_0) (Wt.none rfl) rfl rfl ?_
        refine RunD.load1R (i := 9) hok446 rfl (by kernel_rfl) rfl hroe_gl3 ((elem_at (pre := pree) (post := poste) (f := cES) (sz := 6) (j := 0) (fun _ _ => rfl) hy (by decide)).trans rfl) agg9 (Wt.none rfl) rfl ?_
        refine RunD.one (i := 10) (by kernel_rfl) rfl ?_
        refine RunL.lit (vals := [_]) (vs := [_]) und22 sz9 zz9 rfl rfl rfl rfl rfl rfl (by simp [Value.cells, bv, cDD, cEvn, cGG, cNde, cPos]) rfl (Wt.none rfl) rfl ?_; intro b73
        refine RunL.nilD' ?_
        refine RunD.pure (i := 11) hok446 rfl (by kernel_rfl) (Pure.fieldAddr rfl fo24_2) (Wt.none rfl) rfl rfl ?_
        refine RunD.one (i := 12) (by kernel_rfl) rfl ?_
        refine RunL.store1A (cs' := (cEvn ((⟨⟨#[36, 120]⟩, D.room, ⟨some ⟨b73, 0, none⟩, 1, 1⟩, .empty, ⟨#[64, 97, 58, 115, 49]⟩, 0⟩ : Evn)))) rfl rfl (by first | ((repeat (first | (with_reducible exact F0 _) | apply F1)); done) | (repeat (first | exact F0 _ | apply F1))) sz22 (by rfl) (by first | exact Nat.le_of_ble_eq_true rfl | (simp; done) | (simp; omega)) rfl (Wt.none rfl) ?_
        refine RunL.nilD' ?_
        refine RunD.nilB (by kernel_rfl) (fun w sw => backgl3 _ _ (sw)) ?_
        refine Run.keep (.cons rfl (.cons rfl (.cons rfl (.cons rfl (.nil)))) : Keep _ [2, 7, 8, 12] _) ?_
        exact Run.meetF (F := F) hk (by exact ⟨b12, some ⟨b73, 0, none⟩, 1, [v.id], .inr ⟨v, List.mem_of_getElem? hv, rfl⟩, rfl, rfl⟩) (by repeat (first | (with_reducible exact Fin.done (by repeat (first | (with_reducible exact Rest.here) | apply Rest.there))) | (apply Fin.cons (by first | ((repeat (first | (with_reducible exact F0 _) | apply F1)); done) | (repeat (first | exact F0 _ | apply F1))))))
      · try simp only [ZA, ZB, ZC, ZD, ZE, ZF, ZG, ZH, ZI, ZJ, ZK, ZL, ZM, ZN, ZO, ZP, ZQ, ZR] at h4
        refine Run.skip ?_
        refine Run.nilSl 9 1 ?_
        refine Run.keep (.cons rfl (.cons rfl (.cons rfl (.cons rfl (.nil)))) : Keep _ [2, 7, 8, 12] _) ?_
        exact Run.meetF (F := F) hk (by exact ⟨b12, none, 0, [], .inl rfl, rfl, rfl⟩) (by repeat (first | (with_reducible exact Fin.done (by repeat (first | (with_reducible exact Rest.here) | apply Rest.there))) | (apply Fin.cons (by first | ((repeat (first | (with_reducible exact F0 _) | apply F1)); done) | (repeat (first | exact F0 _ | apply F1))))))

end Go.Proofs.Ytghmmjifmnmbgaa
