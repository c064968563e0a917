/- Heaps: entries dropped, put. -/
import Derived.Test.YtppamndllgojnaaH5
set_option linter.unusedVariables false
set_option linter.unusedSimpArgs false
set_option linter.unusedSectionVars false
namespace Go.Proofs.Ytppamndllgojnaa
open Go Csl
theorem sz53 : sizeIs Try.prog 53 = some 1 := by kernel_rfl
theorem pl45 : placesOf Try.prog 45 = some ([(0, 1), (1, 1)], (.agg #[(.int .i64 0), (.string .empty)])) := by kernel_rfl
theorem by45 : bytesIs Try.prog 45 = some 24 := by kernel_rfl

namespace Csl
theorem HqOk.miss {V : List E} {at_ tl : List (ByteArray × Int)} (h : HqOk V at_ tl) {k : ByteArray} (hz : mget k at_ = Option.none) : HqOk V at_ (mdel k tl) := by rw [mdel_absent (h.hasnt hz)]; exact h
theorem HqOk.rest {V W : List E} {at_ at' tl : List (ByteArray × Int)} {x : E} (h : HqOk V at_ tl) (p : V.Perm (x :: W)) {W' : List E} (p' : W'.Perm W) (ho : HpOk W') (hix : Ix W' at' (fun _ => False)) (ka : KN at') : HqOk W' at' (mdel x.key tl) := by
  have p2 : tl.Perm ((x.key, x.tick) :: W.map ofE) := by
    have h4 := (h.perm.symm.trans p).map ofE
    rw [List.map_map] at h4
    have e5 : List.map (ofE ∘ toE) tl = tl := by rw [show ofE ∘ toE = id from rfl, List.map_id]
    rw [e5] at h4; exact h4
  have p3 := (mdel_perm h.kn p2).symm.map toE
  rw [List.map_map, show toE ∘ ofE = id from rfl, List.map_id] at p3
  exact ⟨p'.trans p3, h.kn.mdel, ka, ho, hix⟩
theorem HqOk.put {V W : List E} {at_ at' tl : List (ByteArray × Int)} {k : ByteArray} {t : Int} (h : HqOk V at_ (mdel k tl)) (hn : KN tl) (p : W.Perm (V ++ [⟨t, k⟩])) (ho : HpOk W) (hix : Ix W at' (fun _ => False)) (ka : KN at') : HqOk W at' (mput k t tl) := by
  refine ⟨?_, hn.mput, ka, ho, hix⟩
  have p2 : (V ++ [(⟨t, k⟩ : E)]).Perm ((⟨t, k⟩ : E) :: (mdel k tl).map toE) := (List.perm_append_comm (l₁ := V) (l₂ := [(⟨t, k⟩ : E)])).trans (h.perm.cons _)
  have p3 := ((mput_perm_del (k := k) (v := t) hn).map toE).symm
  exact p.trans (p2.trans p3)
theorem HqOk.kd1 {V : List E} {at_ tl : List (ByteArray × Int)} {k : ByteArray} {t : Int} (h : HqOk V at_ (mdel k tl)) (hn : KN tl) : KyD (V ++ [⟨t, k⟩]) ∧ mget k at_ = none := by
  have hk : mget k (mdel k tl) = none := by rw [mget_mdel hn, if_pos rfl]
  have ha : mget k at_ = none := by
    cases hq : mget k at_ with
    | none => rfl
    | some z => obtain ⟨j, x, _, _, _, h4⟩ := h.has hq; rw [hk] at h4; cases h4
  refine ⟨?_, ha⟩
  unfold KyD
  rw [List.map_append, List.nodup_append]
  refine ⟨h.kd, by simp, fun a hm b hb => ?_⟩
  simp at hb; subst hb
  intro e; subst e
  obtain ⟨x, hx, rfl⟩ := List.mem_map.1 hm
  obtain ⟨q, hq, rfl⟩ := List.mem_map.1 (h.perm.mem_iff.1 hx)
  have h1 := mget_of_mem (k := q.1) (v := q.2) h.kn hq
  have h2 : some q.2 = Option.none := h1.symm.trans hk
  cases h2
theorem Ix.behind {V : List E} {at_ : List (ByteArray × Int)} {e : E} (h : Ix V at_ (fun _ => False)) : Ix (V ++ [e]) at_ (· = e.key) := by
  refine ⟨fun j y hy ho => ?_, fun k z ho hz => ?_⟩
  · rcases Nat.lt_or_ge j V.length with q | q
    · rw [List.getElem?_append_left q] at hy; exact h.1 j y hy id
    · rw [List.getElem?_append_right q] at hy
      have := (List.getElem?_eq_some_iff.1 hy).1
      simp at this
      rw [show j - V.length = 0 from by omega] at hy
      simp at hy; subst hy; exact absurd rfl ho
  · obtain ⟨j, y, rfl, hy, rfl⟩ := h.2 k z id hz
    exact ⟨j, y, rfl, by rw [List.getElem?_append_left (List.getElem?_eq_some_iff.1 hy).1]; exact hy, rfl⟩
end Csl

set_option maxHeartbeats 4000000 in
set_option maxRecDepth 100000 in
theorem Drop_ctr {G : Gp} {p : Nat} {tl : List (ByteArray × Int)} {k : ByteArray} (hb : tl.length ≤ 1000) :
    Ctr Try.prog G 22 [.pointer (some ⟨p, 0, none⟩), .string k] [Hq p tl] (fun F v A => v = .bool (mget k tl).isSome ∧ A = Hq p (mdel k tl) :: F) := by
  refine Ctr.intro Try.func22 rfl (by kernel_rfl) rfl (fun F => ?_)
  simp only [List.cons_append, List.nil_append]
  refine Run.openH (by first | ((repeat (first | (with_reducible exact F0 _) | apply F1)); done) | (repeat (first | exact F0 _ | apply F1))) ?_; intro V at_ hok
  refine Run.openA (by first | ((repeat (first | (with_reducible exact F0 _) | apply F1)); done) | (repeat (first | exact F0 _ | apply F1))) ?_; intro a cap r
  refine Run.sr ?_
  refine RunL.as rfl rfl ?_
  refine RunL.nil ?_
  refine Run.sr ?_
  refine RunL.mv rfl rfl ?_
  refine RunL.pure (Pure.nilCheck rfl) (Wt.none rfl) rfl rfl ?_
  refine RunL.pure (Pure.fieldAddr rfl fo60_1) (Wt.none rfl) rfl rfl ?_
  first | refine RunL.load1 rfl (by first | ((repeat (first | (with_reducible exact F0 _) | apply F1)); done) | (repeat (first | exact F0 _ | apply F1))) (by rfl) agg58 (Wt.none rfl) rfl ?_ | refine RunL.load1R rfl (by assumption) (by rfl) agg58 (Wt.none rfl) rfl ?_
  refine RunL.mv rfl rfl ?_
  first | refine RunL.lookup (k := k) rfl rfl (by first | ((repeat (first | (with_reducible exact F0 _) | apply F1)); done) | (repeat (first | exact F0 _ | apply F1))) und58 zz3 (KeyT.string und9) (Wt.none rfl) rfl ?_ | refine RunL.lookupR (k := k) rfl rfl (by assumption) und58 zz3 (KeyT.string und9) (Wt.none rfl) rfl ?_
  rcases hq : mget k at_ with _ | z
  · skip
    refine RunL.mv rfl rfl ?_
    refine RunL.pure (Pure.extract rfl rfl) (Wt.none rfl) rfl rfl ?_
    refine RunL.pure (Pure.extract rfl rfl) (Wt.none rfl) rfl rfl ?_
    refine RunL.as rfl rfl ?_
    refine RunL.as rfl rfl ?_
    refine RunL.nil ?_
    refine Run.seq ?_
    refine Run.sr ?_
    refine RunL.mv rfl rfl ?_
    refine RunL.pure (Pure.not rfl) (Wt.none rfl) rfl rfl ?_
    refine RunL.nil ?_
    refine Run.cond rfl (fun hc1 => ?_) (fun hc1 => ?_)
    rotate_left
    · try simp only [ZA, ZB, ZC, ZD, ZE, ZF, ZG, ZH, ZI, ZJ, ZK, ZL, ZM, ZN, ZO, ZP, ZQ, ZR] at hc1
      exfalso
      simp at hc1
    try simp only [ZA, ZB, ZC, ZD, ZE, ZF, ZG, ZH, ZI, ZJ, ZK, ZL, ZM, ZN, ZO, ZP, ZQ, ZR] at hc1
    refine Run.sr ?_
    refine RunL.as rfl rfl ?_
    refine RunL.nil ?_
    refine Run.mkA (V) (by repeat (first | (with_reducible exact Take.nil _) | (apply Take.cons (by first | ((repeat (first | (with_reducible exact F0 _) | apply F1)); done) | (repeat (first | exact F0 _ | apply F1)))))) (by simp) ?_
    refine Run.mkH (hok.miss hq) (by repeat (first | (with_reducible exact Take.nil _) | (apply Take.cons (by first | ((repeat (first | (with_reducible exact F0 _) | apply F1)); done) | (repeat (first | exact F0 _ | apply F1)))))) ?_
    exact Run.ret Try.func22 (res1 rfl rfl) (by exact ⟨by rw [hok.hasnt hq]; rfl, rfl⟩) (by repeat (first | (with_reducible exact Fin.done (by repeat (first | (with_reducible exact Rest.here) | apply Rest.there))) | (apply Fin.cons (by first | ((repeat (first | (with_reducible exact F0 _) | apply F1)); done) | (repeat (first | exact F0 _ | apply F1))))))
  · skip
    refine RunL.mv rfl rfl ?_
    refine RunL.pure (Pure.extract rfl rfl) (Wt.none rfl) rfl rfl ?_
    refine RunL.pure (Pure.extract rfl rfl) (Wt.none rfl) rfl rfl ?_
    refine RunL.as rfl rfl ?_
    refine RunL.as rfl rfl ?_
    refine RunL.nil ?_
    refine Run.seq ?_
    refine Run.sr ?_
    refine RunL.mv rfl rfl ?_
    refine RunL.pure (Pure.not rfl) (Wt.none rfl) rfl rfl ?_
    refine RunL.nil ?_
    refine Run.cond rfl (fun hc2 => ?_) (fun hc2 => ?_)
    · try simp only [ZA, ZB, ZC, ZD, ZE, ZF, ZG, ZH, ZI, ZJ, ZK, ZL, ZM, ZN, ZO, ZP, ZQ, ZR] at hc2
      exfalso
      simp at hc2
    try simp only [ZA, ZB, ZC, ZD, ZE, ZF, ZG, ZH, ZI, ZJ, ZK, ZL, ZM, ZN, ZO, ZP, ZQ, ZR] at hc2
    obtain ⟨i, x, rfl, hxi, rfl, hmg⟩ := hok.has hq
    have hil := (List.getElem?_eq_some_iff.1 hxi).1
    have hV := hok.len
    obtain ⟨en, hen⟩ := get_some (xs := V) (i := V.length - 1) (by omega)
    refine Run.skip ?_
    refine Run.sr ?_
    refine RunL.mv rfl rfl ?_
    refine RunL.pure (Pure.nilCheck rfl) (Wt.none rfl) rfl rfl ?_
    refine RunL.pure (Pure.fieldAddr rfl fo60_1) (Wt.none rfl) rfl rfl ?_
    first | refine RunL.load1 rfl (by first | ((repeat (first | (with_reducible exact F0 _) | apply F1)); done) | (repeat (first | exact F0 _ | apply F1))) (by rfl) agg58 (Wt.none rfl) rfl ?_ | refine RunL.load1R rfl (by assumption) (by rfl) agg58 (Wt.none rfl) rfl ?_
    refine RunL.mv rfl rfl ?_
    refine RunL.delete (k := x.key) rfl rfl rfl (by first | ((repeat (first | (with_reducible exact F0 _) | apply F1)); done) | (repeat (first | exact F0 _ | apply F1))) und58 (KeyT.string und9) (Wt.none rfl) ?_
    refine RunL.openSl (a := a) (n := (V).length) (by first | ((repeat (first | (with_reducible exact F0 _) | apply F1)); done) | (repeat (first | exact F0 _ | apply F1))) (by omega) ?_; rintro b2 pre2 post2 rfl hsl1 hsl2 hsl3
    refine RunL.nil ?_
    refine Run.sr ?_
    refine RunL.mv rfl rfl ?_
    refine RunL.pure (Pure.nilCheck rfl) (Wt.none rfl) rfl rfl ?_
    refine RunL.pure (Pure.fieldAddr rfl fo60_0) (Wt.none rfl) rfl rfl ?_
    first | refine RunL.load1 rfl (by first | ((repeat (first | (with_reducible exact F0 _) | apply F1)); done) | (repeat (first | exact F0 _ | apply F1))) (by rfl) agg53 (Wt.none rfl) rfl ?_ | refine RunL.load1R rfl (by assumption) (by rfl) agg53 (Wt.none rfl) rfl ?_
    refine RunL.pure (Pure.lenSl rfl rfl und53) (Wt.none rfl) rfl rfl ?_
    first | refine RunL.pure (Pure.subI rfl rfl (by omega)) (Wt.none rfl) rfl rfl ?_ | refine RunL.pure (Pure.sub rfl rfl) (Wt.none rfl) rfl rfl ?_
    refine RunL.as rfl rfl ?_
    refine RunL.nil ?_
    refine Run.sr ?_
    refine RunL.mv rfl rfl ?_
    refine RunL.pure (Pure.nilCheck rfl) (Wt.none rfl) rfl rfl ?_
    refine RunL.pure (Pure.fieldAddr rfl fo60_0) (Wt.none rfl) rfl rfl ?_
    first | refine RunL.load1 rfl (by first | ((repeat (first | (with_reducible exact F0 _) | apply F1)); done) | (repeat (first | exact F0 _ | apply F1))) (by rfl) agg53 (Wt.none rfl) rfl ?_ | refine RunL.load1R rfl (by assumption) (by rfl) agg53 (Wt.none rfl) rfl ?_
    refine RunL.mv rfl rfl ?_
    refine RunL.pure (Pure.indexAddr rfl rfl und53 sz45 (by omega) (by omega)) (Wt.none rfl) rfl rfl ?_
    refine RunL.loadA (vs := (cE en)) rfl (by first | ((repeat (first | (with_reducible exact F0 _) | apply F1)); done) | (repeat (first | exact F0 _ | apply F1))) agg45 sz45 (elemN_len (f := cE) (sz := 2) (j := 0) (n := 2) (fun _ _ => rfl) (show V[((V.length : Nat) - 1 : Int).toNat]? = some en from by rw [show ((V.length : Nat) - 1 : Int).toNat = V.length - 1 from by omega]; exact hen) (by decide)) ((elemN_at (f := cE) (sz := 2) (j := 0) (n := 2) (fun _ _ => rfl) (show V[((V.length : Nat) - 1 : Int).toNat]? = some en from by rw [show ((V.length : Nat) - 1 : Int).toNat = V.length - 1 from by omega]; exact hen) (by decide)).trans rfl) (Wt.none rfl) rfl ?_
    refine RunL.alloc zz45 (Wt.none rfl) rfl ?_; intro b8
    refine RunL.storeW (xs := (cE en)) rfl rfl (by first | ((repeat (first | (with_reducible exact F0 _) | apply F1)); done) | (repeat (first | exact F0 _ | apply F1))) sz45 (by rfl) (by rfl) (by rfl) (Wt.none rfl) ?_
    refine RunL.nil ?_
    refine Run.sr ?_
    refine RunL.mv rfl rfl ?_
    refine RunL.mv rfl rfl ?_
    refine RunL.pure (Pure.nilCheck rfl) (Wt.none rfl) rfl rfl ?_
    refine RunL.pure (Pure.fieldAddr rfl fo60_0) (Wt.none rfl) rfl rfl ?_
    first | refine RunL.load1 rfl (by first | ((repeat (first | (with_reducible exact F0 _) | apply F1)); done) | (repeat (first | exact F0 _ | apply F1))) (by rfl) agg53 (Wt.none rfl) rfl ?_ | refine RunL.load1R rfl (by assumption) (by rfl) agg53 (Wt.none rfl) rfl ?_
    refine RunL.mv rfl rfl ?_
    refine RunL.pure (Pure.sliceTo rfl rfl und53 sz45 (by first | omega | (simp; done) | (simp; omega)) (by first | omega | (simp; done) | (simp; omega))) (Wt.none rfl) rfl rfl ?_
    refine RunL.pure (Pure.nilCheck rfl) (Wt.none rfl) rfl rfl ?_
    refine RunL.pure (Pure.fieldAddr rfl fo60_0) (Wt.none rfl) rfl rfl ?_
    refine RunL.store1 rfl rfl (by first | ((repeat (first | (with_reducible exact F0 _) | apply F1)); done) | (repeat (first | exact F0 _ | apply F1))) sz53 (by rfl) (by simp) (Wt.none rfl) ?_
    try simp only [List.set_cons_zero, List.set_cons_succ]
    refine RunL.nil ?_
    refine Run.mkSl (b := b2) (pre := pre2) (post := post2) (sz := 2) (cs := (V).flatMap cE) (n := (V).length) (by first | ((repeat (first | (with_reducible exact F0 _) | apply F1)); done) | (repeat (first | exact F0 _ | apply F1))) hsl1 (by simpa using hsl2) (by simpa using hsl3) ?_
    refine Run.toSlF (xs := V) (f := cE) (V.length - 1) (fun _ _ => rfl) (by first | ((repeat (first | (with_reducible exact F0 _) | apply F1)); done) | (repeat (first | exact F0 _ | apply F1))) (by omega) ?_
    refine Run.seq ?_
    refine Run.sr ?_
    refine RunL.mv rfl rfl ?_
    refine RunL.mv rfl rfl ?_
    refine RunL.pure (Pure.lss rfl rfl) (Wt.none rfl) rfl rfl ?_
    refine RunL.nil ?_
    refine Run.cond rfl (fun h8 => ?_) (fun h8 => ?_)
    · try simp only [ZA, ZB, ZC, ZD, ZE, ZF, ZG, ZH, ZI, ZJ, ZK, ZL, ZM, ZN, ZO, ZP, ZQ, ZR] at h8
      refine Run.sr ?_
      refine RunL.mv rfl rfl ?_
      refine RunL.mv rfl rfl ?_
      first | refine RunL.loadA (vs := (cE en)) rfl (by first | ((repeat (first | (with_reducible exact F0 _) | apply F1)); done) | (repeat (first | exact F0 _ | apply F1))) agg45 sz45 (by first | exact Nat.le_of_ble_eq_true rfl | (simp; done) | (simp; omega)) rfl (Wt.none rfl) rfl ?_ | refine RunL.loadNR (vs := (cE en)) rfl (by assumption) agg45 sz45 (by first | exact Nat.le_of_ble_eq_true rfl | (simp; done) | (simp; omega)) rfl (Wt.none rfl) rfl ?_
      refine RunL.mkA ((V.take (V.length - 1))) (by repeat (first | (with_reducible exact Take.nil _) | (apply Take.cons (by first | ((repeat (first | (with_reducible exact F0 _) | apply F1)); done) | (repeat (first | exact F0 _ | apply F1)))))) (by simp) ?_
      refine RunL.call rfl rfl (by rfl) (by repeat (first | (with_reducible exact Take.nil _) | (apply Take.cons (by first | ((repeat (first | (with_reducible exact F0 _) | apply F1)); done) | (repeat (first | exact F0 _ | apply F1)))))) (set_ctr (l := (V.take (V.length - 1))) (at_ := mdel x.key at_) (i := i) (en := en) (by simp; omega) (by simp; omega)) (Wt.none rfl) rfl ?_
      rintro _ _ ⟨rfl, hA_⟩
      replace hA_ := hA_.symm; subst hA_
      have hlp := last_perm hxi hen (by omega)
      have hkd2 := hok.kd.tail hlp
      refine RunL.nil ?_
      refine Run.sr ?_
      refine RunL.mv rfl rfl ?_
      refine RunL.mv rfl rfl ?_
      refine RunL.call rfl rfl (by rfl) (by repeat (first | (with_reducible exact Take.nil _) | (apply Take.cons (by first | ((repeat (first | (with_reducible exact F0 _) | apply F1)); done) | (repeat (first | exact F0 _ | apply F1)))))) (down_ctr (l0 := (V.take (V.length - 1)).set i en) (i0 := i) (en := en) (by rw [List.getElem?_set, if_pos rfl, if_pos (by simp; omega)]) (hok.hp.dn (by omega)) hkd2 ((Ix.del hok.kd hok.ka hok.ix hxi hen (by omega)).weak (fun _ q => q.elim)) hok.ka.mdel.mput (by simp; omega)) (Wt.none rfl) rfl ?_
      rintro _ _ ⟨j, W, at', rfl, hW, hWj, hWu, hWx, hWn, hA_⟩
      replace hA_ := hA_.symm; subst hA_
      have hkd3 := hkd2.perm hW.symm
      have hWl : W.length ≤ 1000 := by rw [hW.length_eq]; simp; omega
      refine RunL.nil ?_
      refine Run.openA (by first | ((repeat (first | (with_reducible exact F0 _) | apply F1)); done) | (repeat (first | exact F0 _ | apply F1))) ?_; intro a3 cap3 r3
      refine Run.regionD' (by kernel_rfl) (by kernel_rfl) (fun hok130 => ?_)
      refine RunD.lend (Q := row b8 45 _) Lends.row (by first | ((repeat (first | (with_reducible exact F0 _) | apply F1)); done) | (repeat (first | exact F0 _ | apply F1))) ?_; intro gl1 hlegl1 hl1 backgl1
      refine RunD.pure (i := 0) hok130 rfl (by kernel_rfl) (Pure.move rfl) (Wt.none rfl) rfl rfl ?_
      refine RunD.pure (i := 1) hok130 rfl (by kernel_rfl) (Pure.move rfl) (Wt.none rfl) rfl rfl ?_
      refine RunD.pure (i := 2) hok130 rfl (by kernel_rfl) (Pure.nilCheck rfl) (Wt.none rfl) rfl rfl ?_
      refine RunD.pure (i := 3) hok130 rfl (by kernel_rfl) (Pure.fieldAddr rfl fo60_1) (Wt.none rfl) rfl rfl ?_
      refine RunD.pure (i := 5) hok130 rfl (by kernel_rfl) (Pure.fieldAddr rfl fo45_1) (Wt.none rfl) rfl rfl ?_
      refine RunD.load1R (i := 6) hok130 rfl (by kernel_rfl) rfl (by assumption) (by rfl) agg9 (Wt.none rfl) rfl ?_
      refine RunD.one (i := 4) (by kernel_rfl) rfl ?_
      first | refine RunL.load1 rfl (by first | ((repeat (first | (with_reducible exact F0 _) | apply F1)); done) | (repeat (first | exact F0 _ | apply F1))) (by rfl) agg58 (Wt.none rfl) rfl ?_ | refine RunL.load1R rfl (by assumption) (by rfl) agg58 (Wt.none rfl) rfl ?_
      refine RunL.nilD' ?_
      refine RunD.one (i := 7) (by kernel_rfl) rfl ?_
      first | refine RunL.lookup (k := en.key) rfl rfl (by first | ((repeat (first | (with_reducible exact F0 _) | apply F1)); done) | (repeat (first | exact F0 _ | apply F1))) und58 zz3 (KeyT.string und9) (Wt.none rfl) rfl ?_ | refine RunL.lookupR (k := en.key) rfl rfl (by assumption) und58 zz3 (KeyT.string und9) (Wt.none rfl) rfl ?_
      refine RunL.nilD' ?_
      rw [hWx.1 j en hWj id]
      refine RunD.one (i := 8) (by kernel_rfl) rfl ?_
      refine RunL.mkA (W) (by repeat (first | (with_reducible exact Take.nil _) | (apply Take.cons (by first | ((repeat (first | (with_reducible exact F0 _) | apply F1)); done) | (repeat (first | exact F0 _ | apply F1)))))) (by simp) ?_
      refine RunL.call rfl rfl (by rfl) (by repeat (first | (with_reducible exact Take.nil _) | (apply Take.cons (by first | ((repeat (first | (with_reducible exact F0 _) | apply F1)); done) | (repeat (first | exact F0 _ | apply F1)))))) (up_ctr (i0 := j) (en := en) hWj hWu hkd3 (hWx.weak (fun _ q => q.elim)) hWn hWl) (Wt.none rfl) rfl ?_
      rintro _ _ ⟨W2, at2, rfl, hP, hH, hI, hN, hA_⟩
      replace hA_ := hA_.symm; subst hA_
      refine RunL.nilD' ?_
      refine RunD.nilB (by kernel_rfl) (fun w sw => backgl1 _ _ (sw)) ?_
      refine Run.sr ?_
      refine RunL.as rfl rfl ?_
      refine RunL.nil ?_
      refine Run.mkH (hok.rest hlp (hP.trans hW) hH hI hN) (by repeat (first | (with_reducible exact Take.nil _) | (apply Take.cons (by first | ((repeat (first | (with_reducible exact F0 _) | apply F1)); done) | (repeat (first | exact F0 _ | apply F1)))))) ?_
      exact Run.ret Try.func22 (res1 rfl rfl) (by exact ⟨by rw [hmg]; rfl, rfl⟩) (by repeat (first | (with_reducible exact Fin.done (by repeat (first | (with_reducible exact Rest.here) | apply Rest.there))) | (apply Fin.cons (by first | ((repeat (first | (with_reducible exact F0 _) | apply F1)); done) | (repeat (first | exact F0 _ | apply F1))))))
    · try simp only [ZA, ZB, ZC, ZD, ZE, ZF, ZG, ZH, ZI, ZJ, ZK, ZL, ZM, ZN, ZO, ZP, ZQ, ZR] at h8
      obtain rfl : i = V.length - 1 := by omega
      refine Run.skip ?_
      refine Run.sr ?_
      refine RunL.as rfl rfl ?_
      refine RunL.nil ?_
      refine Run.mkA ((V.take (V.length - 1))) (by repeat (first | (with_reducible exact Take.nil _) | (apply Take.cons (by first | ((repeat (first | (with_reducible exact F0 _) | apply F1)); done) | (repeat (first | exact F0 _ | apply F1)))))) (by simp) ?_
      refine Run.mkH (hok.rest (last_perm0 hxi) (List.Perm.refl _) (hok.hp.front _) (Ix.delLast hok.kd hok.ka hok.ix hxi) hok.ka.mdel) (by repeat (first | (with_reducible exact Take.nil _) | (apply Take.cons (by first | ((repeat (first | (with_reducible exact F0 _) | apply F1)); done) | (repeat (first | exact F0 _ | apply F1)))))) ?_
      exact Run.ret Try.func22 (res1 rfl rfl) (by exact ⟨by rw [hmg]; rfl, rfl⟩) (by repeat (first | (with_reducible exact Fin.done (by repeat (first | (with_reducible exact Rest.here) | apply Rest.there))) | (apply Fin.cons (by first | ((repeat (first | (with_reducible exact F0 _) | apply F1)); done) | (repeat (first | exact F0 _ | apply F1))))))

set_option maxHeartbeats 4000000 in
set_option maxRecDepth 100000 in
theorem HPut_ctr {G : Gp} {p : Nat} {tl : List (ByteArray × Int)} {k : ByteArray} {t : Int} (hn : KN tl) (hb : tl.length < 1000) :
    Ctr Try.prog G 10 [.pointer (some ⟨p, 0, none⟩), .int .i64 t, .string k] [Hq p tl] (fun F v A => v = .tuple #[] ∧ A = Hq p (mput k t tl) :: F) := by
  refine Ctr.intro Try.func10 rfl (by kernel_rfl) rfl (fun F => ?_)
  simp only [List.cons_append, List.nil_append]
  have hdl : (mdel k tl).length ≤ tl.length := by
    cases hq : mget k tl with
    | none => rw [mdel_absent hq]; exact Nat.le_refl _
    | some z => have := mdel_len hq; omega
  refine Run.sr ?_
  refine RunL.mv rfl rfl ?_
  refine RunL.mv rfl rfl ?_
  refine RunL.call rfl rfl (by rfl) (by repeat (first | (with_reducible exact Take.nil _) | (apply Take.cons (by first | ((repeat (first | (with_reducible exact F0 _) | apply F1)); done) | (repeat (first | exact F0 _ | apply F1)))))) (Drop_ctr (by omega)) (Wt.none rfl) rfl ?_
  rintro _ _ ⟨rfl, hA_⟩
  replace hA_ := hA_.symm; subst hA_
  refine RunL.nil ?_
  refine Run.openH (by first | ((repeat (first | (with_reducible exact F0 _) | apply F1)); done) | (repeat (first | exact F0 _ | apply F1))) ?_; intro V at_ hok
  have hV := hok.len
  obtain ⟨hkd, hka0⟩ := hok.kd1 (t := t) hn
  have hVn : (V ++ [(⟨t, k⟩ : E)]).length = V.length + 1 := by simp
  refine Run.openA (by first | ((repeat (first | (with_reducible exact F0 _) | apply F1)); done) | (repeat (first | exact F0 _ | apply F1))) ?_; intro a cap r
  refine Run.sr ?_
  refine RunL.mv rfl rfl ?_
  refine RunL.mv rfl rfl ?_
  refine RunL.pure (Pure.nilCheck rfl) (Wt.none rfl) rfl rfl ?_
  refine RunL.pure (Pure.fieldAddr rfl fo60_0) (Wt.none rfl) rfl rfl ?_
  first | refine RunL.load1 rfl (by first | ((repeat (first | (with_reducible exact F0 _) | apply F1)); done) | (repeat (first | exact F0 _ | apply F1))) (by rfl) agg53 (Wt.none rfl) rfl ?_ | refine RunL.load1R rfl (by assumption) (by rfl) agg53 (Wt.none rfl) rfl ?_
  refine RunL.mv rfl rfl ?_
  refine RunL.mv rfl rfl ?_
  refine RunL.pure (Pure.buildL (ps := [(0, _), (1, _)]) (zs := [(.int .i64 0), (.string .empty)]) (xs := (cE ((⟨t, k⟩ : E)))) pl45 rfl rfl rfl rfl) (Wt.none rfl) rfl rfl ?_
  refine RunL.lit (vals := [_]) (vs := ([⟨t, k⟩] : List E).flatMap cE) und53 sz45 zz45 rfl rfl rfl rfl rfl rfl (by simp [Value.cells, bv, cE, cOO]) rfl (Wt.none rfl) rfl ?_; intro b17
  refine RunL.append (m := 1) (n' := (V ++ [(⟨t, k⟩ : E)]).length) (cs' := (V ++ [(⟨t, k⟩ : E)]).flatMap cE) rfl rfl (by first | ((repeat (first | (with_reducible exact F0 _) | apply F1)); done) | (repeat (first | exact F0 _ | apply F1))) rfl rfl und53 und53 rfl sz45 zz45 rfl by45 (by omega) (by omega) (fun w sw => sw.src) (isOne_flat (f := cE) (xs := [⟨t, k⟩]) (fun _ => rfl)) (by simp) (by rw [flatMap_app]) (Wt.none rfl) rfl ?_; intro a1 c1
  refine RunL.pure (Pure.nilCheck rfl) (Wt.none rfl) rfl rfl ?_
  refine RunL.pure (Pure.fieldAddr rfl fo60_0) (Wt.none rfl) rfl rfl ?_
  refine RunL.store1 rfl rfl (by first | ((repeat (first | (with_reducible exact F0 _) | apply F1)); done) | (repeat (first | exact F0 _ | apply F1))) sz53 (by rfl) (by simp) (Wt.none rfl) ?_
  try simp only [List.set_cons_zero, List.set_cons_succ]
  refine RunL.nil ?_
  refine Run.region ?_
  refine RunL.mv rfl rfl ?_
  refine RunL.mv rfl rfl ?_
  refine RunL.pure (Pure.nilCheck rfl) (Wt.none rfl) rfl rfl ?_
  refine RunL.pure (Pure.fieldAddr rfl fo60_0) (Wt.none rfl) rfl rfl ?_
  first | refine RunL.load1 rfl (by first | ((repeat (first | (with_reducible exact F0 _) | apply F1)); done) | (repeat (first | exact F0 _ | apply F1))) (by rfl) agg53 (Wt.none rfl) rfl ?_ | refine RunL.load1R rfl (by assumption) (by rfl) agg53 (Wt.none rfl) rfl ?_
  refine RunL.pure (Pure.lenSl rfl rfl und53) (Wt.none rfl) rfl rfl ?_
  first | refine RunL.pure (Pure.subI rfl rfl (by omega)) (Wt.none rfl) rfl rfl ?_ | refine RunL.pure (Pure.sub rfl rfl) (Wt.none rfl) rfl rfl ?_
  rw [show ((((V ++ [(⟨t, k⟩ : E)]).length : Nat) : Int) - 1) = ((V.length : Nat) : Int) from by simp]
  refine RunL.mkA (V ++ [(⟨t, k⟩ : E)]) (by repeat (first | (with_reducible exact Take.nil _) | (apply Take.cons (by first | ((repeat (first | (with_reducible exact F0 _) | apply F1)); done) | (repeat (first | exact F0 _ | apply F1)))))) (by simp) ?_
  refine RunL.call rfl rfl (by rfl) (by repeat (first | (with_reducible exact Take.nil _) | (apply Take.cons (by first | ((repeat (first | (with_reducible exact F0 _) | apply F1)); done) | (repeat (first | exact F0 _ | apply F1)))))) (up_ctr (l0 := V ++ [(⟨t, k⟩ : E)]) (i0 := V.length) (en := ⟨t, k⟩) (by rw [List.getElem?_append_right (Nat.le_refl _), Nat.sub_self]; rfl) (hok.hp.behind _) hkd hok.ix.behind hok.ka (by simp; omega)) (Wt.none rfl) rfl ?_
  rintro _ _ ⟨W2, at2, rfl, hP, hH, hI, hN, hA_⟩
  replace hA_ := hA_.symm; subst hA_
  refine RunL.nil ?_
  refine Run.mkH (hok.put hn hP hH hI hN) (by repeat (first | (with_reducible exact Take.nil _) | (apply Take.cons (by first | ((repeat (first | (with_reducible exact F0 _) | apply F1)); done) | (repeat (first | exact F0 _ | apply F1)))))) ?_
  exact Run.fin Try.func10 (res0 rfl) (by exact ⟨rfl, rfl⟩) (by repeat (first | (with_reducible exact Fin.done (by repeat (first | (with_reducible exact Rest.here) | apply Rest.there))) | (apply Fin.cons (by first | ((repeat (first | (with_reducible exact F0 _) | apply F1)); done) | (repeat (first | exact F0 _ | apply F1))))))

end Go.Proofs.Ytppamndllgojnaa
