/- Entries in whatever row. -/
import Derived.Test.YtppamndllgojnaaR3
set_option linter.unusedVariables false
set_option linter.unusedSimpArgs false
set_option linter.unusedSectionVars false
namespace Go.Proofs.Ytppamndllgojnaa
open Go Csl
theorem by31 : bytesIs Try.prog 31 = some 32 := by kernel_rfl

namespace Csl
theorem okFew {o : OO} (h : okOO o) : okOO (fewO o) := ⟨h.1, h.2.1, by have := cut_size o.key 4; simp only [fewO]; omega⟩
end Csl

namespace Csl
def ktO (o : OO) : ByteArray × Int := (o.key, o.tick)
theorem put_new {xs : List OO} {o : OO} (h : ((xs ++ [o]).map OO.key).Nodup) : mput o.key o.tick (xs.map ktO) = (xs ++ [o]).map ktO := by
  have hk : mget o.key (xs.map ktO) = none := by
    rw [mget_none, List.map_map]
    rw [List.map_append, List.nodup_append] at h
    intro q
    exact h.2.2 _ q _ (by simp) rfl
  have hm : midx o.key (xs.map ktO) 0 = none := by
    have h1 := midx_get o.key (xs.map ktO) 0
    rw [hk] at h1
    cases hz : midx o.key (xs.map ktO) 0 with
    | none => rfl
    | some z => rw [hz] at h1; cases h1
  rw [mput_new hm, List.map_append]; rfl
theorem put_a {os : List OO} (hn : (os.map OO.key).Nodup) {j : Nat} {o : OO} (h : os[j]? = some o) : mput o.key o.tick ((os.take j).map ktO) = (os.take (j + 1)).map ktO := by
  have e : os.take (j + 1) = os.take j ++ [o] := by rw [List.take_add_one, h]; rfl
  rw [e]
  refine put_new ?_
  rw [← e]
  exact hn.sublist ((List.take_sublist _ _).map _)
theorem put_b {os : List OO} (hn : (os.map OO.key).Nodup) {j : Nat} {o : OO} (hj : j < os.length) (h : os[os.length - 1 - j]? = some o) : mput o.key o.tick ((os.drop (os.length - j)).reverse.map ktO) = (os.drop (os.length - (j + 1))).reverse.map ktO := by
  have e : os.drop (os.length - (j + 1)) = o :: os.drop (os.length - j) := by
    have h1 := List.getElem?_eq_some_iff.1 h
    rw [show os.length - (j + 1) = os.length - 1 - j by omega, ← List.getElem_cons_drop (h := h1.1), h1.2, show os.length - 1 - j + 1 = os.length - j by omega]
  rw [e, List.reverse_cons]
  refine put_new ?_
  rw [← List.reverse_cons, ← e, List.map_reverse]
  exact (List.reverse_perm _).nodup_iff.2 (hn.sublist ((List.drop_sublist _ _).map _))
theorem kn_o {os : List OO} (hn : (os.map OO.key).Nodup) : KN (os.map ktO) := by
  unfold KN; rw [List.map_map]; exact hn
theorem snoc_o {os : List OO} {o : OO} (hn : (os.map OO.key).Nodup) (h : mget o.key (os.map ktO) = none) : ((os ++ [o]).map OO.key).Nodup := by
  rw [List.map_append, List.nodup_append]
  refine ⟨hn, by simp, ?_⟩
  intro x hx y hy e
  simp only [List.map_cons, List.map_nil, List.mem_singleton] at hy
  subst hy; subst e
  rw [mget_none, List.map_map] at h
  exact h hx
end Csl

set_option maxHeartbeats 8000000 in
set_option maxRecDepth 100000 in
theorem HeapRow_ctr {G : Gp} {a : Option Addr} {l : List OO} {cap : Nat} (h : SlR G 31 3 a l.length (l.flatMap cOO)) (hok : ∀ o ∈ l, okOO o) (hb : l.length ≤ 9223372036854775807) :
    Ctr Try.prog G 5 [.slice a l.length cap] [] (fun F v A => v = .bool true ∧ A = F) := by
  refine Ctr.intro Try.func5 rfl (by kernel_rfl) rfl (fun F => ?_)
  simp only [List.nil_append]
  refine Run.sr ?_
  refine RunL.as rfl rfl ?_
  refine RunL.nil ?_
  refine Run.sr ?_
  refine RunL.call rfl rfl (by rfl) (by repeat (first | (with_reducible exact Take.nil _) | (apply Take.cons (by first | ((repeat (first | (with_reducible exact F0 _) | apply F1)); done) | (repeat (first | exact F0 _ | apply F1)))))) (HNew_ctr) (Wt.none rfl) rfl ?_
  rintro _ _ ⟨pa, rfl, hA_⟩
  replace hA_ := hA_.symm; subst hA_
  refine RunL.as rfl rfl ?_
  refine RunL.nil ?_
  refine Run.sr ?_
  refine RunL.call rfl rfl (by rfl) (by repeat (first | (with_reducible exact Take.nil _) | (apply Take.cons (by first | ((repeat (first | (with_reducible exact F0 _) | apply F1)); done) | (repeat (first | exact F0 _ | apply F1)))))) (HNew_ctr) (Wt.none rfl) rfl ?_
  rintro _ _ ⟨pb, rfl, hA_⟩
  replace hA_ := hA_.symm; subst hA_
  refine RunL.as rfl rfl ?_
  refine RunL.nil ?_
  refine Run.seq ?_
  refine Run.sr ?_
  refine RunL.mv rfl rfl ?_
  refine RunL.pure (Pure.ptrEqNil rfl rfl und24) (Wt.none rfl) rfl rfl ?_
  refine RunL.mv rfl rfl ?_
  refine RunL.pure (Pure.move rfl) (Wt.yes rfl rfl rfl) rfl rfl ?_
  refine RunL.pure (Pure.ptrEqNil rfl rfl und24) (Wt.yes rfl rfl rfl) rfl rfl ?_
  refine RunL.pure (Pure.pickF rfl rfl) (Wt.none rfl) rfl rfl ?_
  refine RunL.nil ?_
  refine Run.condF rfl ?_
  refine Run.skip ?_
  refine Run.sr ?_
  refine RunL.pure (Pure.buildL (ps := []) (zs := [(.slice none 0 0)]) (xs := [_]) pl29 rfl rfl rfl rfl) (Wt.none rfl) rfl rfl ?_
  refine RunL.box rfl (Wt.none rfl) rfl ?_; intro b21
  refine RunL.as rfl rfl ?_
  refine RunL.nil ?_
  refine Run.nilSl 36 2 ?_
  refine Run.mkR (q := b21) (a := none) (cap := 0) (n := 0) (cs := []) [] (by repeat (first | (with_reducible exact Take.nil _) | (apply Take.cons (by first | ((repeat (first | (with_reducible exact F0 _) | apply F1)); done) | (repeat (first | exact F0 _ | apply F1)))))) rfl rfl ?_
  refine Run.sr ?_
  refine RunL.as rfl rfl ?_
  refine RunL.nil ?_
  refine Run.nilSl 31 3 ?_
  refine Run.seq ?_
  refine Run.sr ?_
  refine RunL.as rfl rfl ?_
  refine RunL.nil ?_
  refine Run.block ?_
  refine Run.keep (.cons rfl (.cons rfl (.cons rfl (.cons rfl (.cons rfl (.cons rfl (.nil)))))) : Keep _ [0, 3, 4, 5, 6, 7] _) ?_
  refine Run.loopF (F := F) (fun n e_ A => ∃ (i : Nat) (os : List OO) (ao : Option Addr) (co : Nat), i ≤ 12 ∧ os.length ≤ i ∧ (os.map OO.key).Nodup ∧ n = 12 - i ∧ e_ = [(0, .slice a l.length cap), (3, .pointer (some ⟨pa, 0, none⟩)), (4, .pointer (some ⟨pb, 0, none⟩)), (5, .pointer (some ⟨b21, 0, none⟩)), (6, .slice ao os.length co), (7, .int .i64 (i : Nat))] ∧ A = Hq pa [] :: Hq pb [] :: RH b21 (os.map ktO) :: Sl 31 3 ao os.length co (os.flatMap cOO) :: F) (12) (by exact ⟨0, [], none, 0, by omega, by simp, List.nodup_nil, rfl, rfl, rfl⟩) (by repeat (first | (with_reducible exact Fin.done (by repeat (first | (with_reducible exact Rest.here) | apply Rest.there))) | (apply Fin.cons (by first | ((repeat (first | (with_reducible exact F0 _) | apply F1)); done) | (repeat (first | exact F0 _ | apply F1)))))) ?_
  rintro n _ _ ⟨i, os, ao, co, hi, hol, hnd, rfl, rfl, hA_⟩ ih
  replace hA_ := hA_.symm; subst hA_
  refine Run.seq ?_
  refine Run.sr ?_
  refine RunL.mv rfl rfl ?_
  refine RunL.mv rfl rfl ?_
  refine RunL.pure (Pure.lenSl rfl rfl und22) (Wt.none rfl) rfl rfl ?_
  refine RunL.pure (Pure.lss rfl rfl) (Wt.none rfl) rfl rfl ?_
  refine RunL.mv rfl rfl ?_
  refine RunL.split (d := 26) rfl (fun h1 => ?_) (fun h1 => ?_)
  · try simp only [ZA, ZB, ZC, ZD, ZE, ZF, ZG, ZH, ZI, ZJ, ZK, ZL, ZM, ZN, ZO, ZP, ZQ, ZR] at h1
    refine RunL.pure (Pure.move rfl) (Wt.yes rfl rfl rfl) rfl rfl ?_
    refine RunL.pure (Pure.lss rfl rfl) (Wt.yes rfl rfl rfl) rfl rfl ?_
    refine RunL.pure (Pure.pickT rfl rfl) (Wt.none rfl) rfl rfl ?_
    refine RunL.nil ?_
    refine Run.cond rfl (fun h2 => ?_) (fun h2 => ?_)
    · try simp only [ZA, ZB, ZC, ZD, ZE, ZF, ZG, ZH, ZI, ZJ, ZK, ZL, ZM, ZN, ZO, ZP, ZQ, ZR] at h2
      obtain ⟨b, T', pre, post, rfl, hro⟩ := h.open1 (show 0 < l.length by omega)
      obtain ⟨o, ho⟩ := get_some (xs := l) (i := i) (by omega)
      have hoo := hok o (List.mem_of_getElem? ho)
      have hof := okFew hoo
      have hkn := kn_o hnd
      have hlm : (os.map ktO).length ≤ 12 := by rw [List.length_map]; omega
      refine Run.skip ?_
      refine Run.seq ?_
      refine Run.block ?_
      refine Run.sr ?_
      refine RunL.mv rfl rfl ?_
      refine RunL.mv rfl rfl ?_
      refine RunL.pure (Pure.indexAddr rfl rfl und22 sz31 (by omega) (by omega)) (Wt.none rfl) rfl rfl ?_
      refine RunL.loadNR (vs := (cOO o)) rfl hro agg31 sz31 (elemN_len (f := cOO) (sz := 3) (j := 0) (n := 3) (fun _ _ => rfl) ho (by decide)) ((elemN_at (f := cOO) (sz := 3) (j := 0) (n := 3) (fun _ _ => rfl) ho (by decide)).trans rfl) (Wt.none rfl) rfl ?_
      refine RunL.call rfl rfl (by rfl) (by repeat (first | (with_reducible exact Take.nil _) | (apply Take.cons (by first | ((repeat (first | (with_reducible exact F0 _) | apply F1)); done) | (repeat (first | exact F0 _ | apply F1)))))) (few_ctr) (Wt.none rfl) rfl ?_
      rintro _ _ ⟨rfl, hA_⟩
      replace hA_ := hA_.symm; subst hA_
      refine RunL.alloc zz31 (Wt.none rfl) rfl ?_; intro b8
      refine RunL.storeW (xs := (cOO ((fewO o)))) rfl rfl (by first | ((repeat (first | (with_reducible exact F0 _) | apply F1)); done) | (repeat (first | exact F0 _ | apply F1))) sz31 (by rfl) (by rfl) (by rfl) (Wt.none rfl) ?_
      refine RunL.nil ?_
      refine Run.sr ?_
      refine RunL.mv rfl rfl ?_
      refine RunL.pure (Pure.fieldAddr rfl fo31_2) (Wt.none rfl) rfl rfl ?_
      first | refine RunL.load1 rfl (by first | ((repeat (first | (with_reducible exact F0 _) | apply F1)); done) | (repeat (first | exact F0 _ | apply F1))) (by rfl) agg9 (Wt.none rfl) rfl ?_ | refine RunL.load1R rfl (by assumption) (by rfl) agg9 (Wt.none rfl) rfl ?_
      refine RunL.call rfl rfl (by rfl) (by repeat (first | (with_reducible exact Take.nil _) | (apply Take.cons (by first | ((repeat (first | (with_reducible exact F0 _) | apply F1)); done) | (repeat (first | exact F0 _ | apply F1)))))) (rAt_ctr (k := (fewO o).key) hkn (by omega)) (Wt.none rfl) rfl ?_
      rintro _ _ ⟨rfl, hA_⟩
      replace hA_ := hA_.symm; subst hA_
      refine RunL.mv rfl rfl ?_
      refine RunL.pure (Pure.extract rfl rfl) (Wt.none rfl) rfl rfl ?_
      refine RunL.pure (Pure.extract rfl rfl) (Wt.none rfl) rfl rfl ?_
      refine RunL.as rfl rfl ?_
      refine RunL.as rfl rfl ?_
      refine RunL.nil ?_
      refine Run.sr ?_
      refine RunL.mv rfl rfl ?_
      refine RunL.pure (Pure.not rfl) (Wt.none rfl) rfl rfl ?_
      refine RunL.nil ?_
      refine Run.cond rfl (fun h3 => ?_) (fun h3 => ?_)
      · try simp only [ZA, ZB, ZC, ZD, ZE, ZF, ZG, ZH, ZI, ZJ, ZK, ZL, ZM, ZN, ZO, ZP, ZQ, ZR] at h3
        have hnn : mget (fewO o).key (os.map ktO) = none := by simpa using h3
        have hn2 := snoc_o hnd hnn
        refine Run.sr ?_
        refine RunL.mv rfl rfl ?_
        first | refine RunL.loadA (vs := (cOO ((fewO o)))) rfl (by first | ((repeat (first | (with_reducible exact F0 _) | apply F1)); done) | (repeat (first | exact F0 _ | apply F1))) agg31 sz31 (by first | exact Nat.le_of_ble_eq_true rfl | (simp; done) | (simp; omega)) rfl (Wt.none rfl) rfl ?_ | refine RunL.loadNR (vs := (cOO ((fewO o)))) rfl (by assumption) agg31 sz31 (by first | exact Nat.le_of_ble_eq_true rfl | (simp; done) | (simp; omega)) rfl (Wt.none rfl) rfl ?_
        refine RunL.lit (vals := [_]) (vs := ([(fewO o)] : List OO).flatMap cOO) und22 sz31 zz31 rfl rfl rfl rfl rfl rfl (by simp [Value.cells, bv, cE, cOO]) rfl (Wt.none rfl) rfl ?_; intro b48
        refine RunL.append (m := 1) (n' := (os ++ [(fewO o)]).length) (cs' := (os ++ [(fewO o)]).flatMap cOO) rfl rfl (by first | ((repeat (first | (with_reducible exact F0 _) | apply F1)); done) | (repeat (first | exact F0 _ | apply F1))) rfl rfl und22 und22 rfl sz31 zz31 rfl by31 (by omega) (by omega) (fun w sw => sw.src) (isOne_flat (f := cOO) (fun _ => rfl)) (by simp) (by rw [List.flatMap_append]) (Wt.none rfl) rfl ?_; intro a3 c3
        refine RunL.as rfl rfl ?_
        refine RunL.nil ?_
        refine Run.region ?_
        refine RunL.mv rfl rfl ?_
        refine RunL.pure (Pure.fieldAddr rfl fo31_1) (Wt.none rfl) rfl rfl ?_
        first | refine RunL.load1 rfl (by first | ((repeat (first | (with_reducible exact F0 _) | apply F1)); done) | (repeat (first | exact F0 _ | apply F1))) (by rfl) agg3 (Wt.none rfl) rfl ?_ | refine RunL.load1R rfl (by assumption) (by rfl) agg3 (Wt.none rfl) rfl ?_
        refine RunL.pure (Pure.fieldAddr rfl fo31_2) (Wt.none rfl) rfl rfl ?_
        first | refine RunL.load1 rfl (by first | ((repeat (first | (with_reducible exact F0 _) | apply F1)); done) | (repeat (first | exact F0 _ | apply F1))) (by rfl) agg9 (Wt.none rfl) rfl ?_ | refine RunL.load1R rfl (by assumption) (by rfl) agg9 (Wt.none rfl) rfl ?_
        refine RunL.call rfl rfl (by rfl) (by repeat (first | (with_reducible exact Take.nil _) | (apply Take.cons (by first | ((repeat (first | (with_reducible exact F0 _) | apply F1)); done) | (repeat (first | exact F0 _ | apply F1)))))) (rHPut_ctr (k := (fewO o).key) (t := (fewO o).tick) hkn (by omega)) (Wt.none rfl) rfl ?_
        rintro _ _ ⟨rfl, hA_⟩
        replace hA_ := hA_.symm; subst hA_
        rw [put_new hn2]
        refine RunL.nil ?_
        refine Run.inBlock ?_
        refine Run.region ?_
        refine RunL.mv rfl rfl ?_
        first | refine RunL.pure (Pure.addI rfl rfl (by omega)) (Wt.none rfl) rfl rfl ?_ | refine RunL.pure (Pure.add rfl rfl) (Wt.none rfl) rfl rfl ?_
        refine RunL.as rfl rfl ?_
        refine RunL.nil ?_
        refine Run.keep (.cons rfl (.cons rfl (.cons rfl (.cons rfl (.cons rfl (.cons rfl (.nil)))))) : Keep _ [0, 3, 4, 5, 6, 7] _) ?_
        refine Run.againF (F := F) ih (by exact ⟨i + 1, os ++ [(fewO o)], a3, c3, by omega, by simp; omega, hn2, rfl, rfl, rfl⟩) (by repeat (first | (with_reducible exact Fin.done (by repeat (first | (with_reducible exact Rest.here) | apply Rest.there))) | (apply Fin.cons (by first | ((repeat (first | (with_reducible exact F0 _) | apply F1)); done) | (repeat (first | exact F0 _ | apply F1)))))) ?_
        omega
      · try simp only [ZA, ZB, ZC, ZD, ZE, ZF, ZG, ZH, ZI, ZJ, ZK, ZL, ZM, ZN, ZO, ZP, ZQ, ZR] at h3
        refine Run.skip ?_
        refine Run.inBlock ?_
        refine Run.region ?_
        refine RunL.mv rfl rfl ?_
        first | refine RunL.pure (Pure.addI rfl rfl (by omega)) (Wt.none rfl) rfl rfl ?_ | refine RunL.pure (Pure.add rfl rfl) (Wt.none rfl) rfl rfl ?_
        refine RunL.as rfl rfl ?_
        refine RunL.nil ?_
        refine Run.keep (.cons rfl (.cons rfl (.cons rfl (.cons rfl (.cons rfl (.cons rfl (.nil)))))) : Keep _ [0, 3, 4, 5, 6, 7] _) ?_
        refine Run.againF (F := F) ih (by exact ⟨i + 1, os, ao, co, by omega, by omega, hnd, rfl, rfl, rfl⟩) (by repeat (first | (with_reducible exact Fin.done (by repeat (first | (with_reducible exact Rest.here) | apply Rest.there))) | (apply Fin.cons (by first | ((repeat (first | (with_reducible exact F0 _) | apply F1)); done) | (repeat (first | exact F0 _ | apply F1)))))) ?_
        omega
    · try simp only [ZA, ZB, ZC, ZD, ZE, ZF, ZG, ZH, ZI, ZJ, ZK, ZL, ZM, ZN, ZO, ZP, ZQ, ZR] at h2
      refine Run.exit rfl ?_
      refine Run.lendAll (Q := Sl 31 3 ao os.length co _) Lends.Sl (by first | ((repeat (first | (with_reducible exact F0 _) | apply F1)); done) | (repeat (first | exact F0 _ | apply F1))) (fun GhO hleGhO hO => ?_)
      replace h := h.mono hleGhO
      obtain ⟨hO, hOc⟩ := hO
      have hd0 : (os.drop (os.length - 0)).reverse.map ktO = [] := by simp
      refine Run.seq ?_
      refine Run.sr ?_
      refine RunL.as rfl rfl ?_
      refine RunL.nil ?_
      refine Run.block ?_
      refine Run.keep (.cons rfl (.cons rfl (.cons rfl (.cons rfl (.cons rfl (.nil))))) : Keep _ [3, 4, 5, 6, 11] _) ?_
      refine Run.loopF (F := F) (fun n e_ A => ∃ (j : Nat), j ≤ os.length ∧ n = os.length - j ∧ e_ = [(3, .pointer (some ⟨pa, 0, none⟩)), (4, .pointer (some ⟨pb, 0, none⟩)), (5, .pointer (some ⟨b21, 0, none⟩)), (6, .slice ao os.length co), (11, .int .i64 (j : Nat))] ∧ A = Hq pa ((os.take j).map ktO) :: Hq pb ((os.drop (os.length - j)).reverse.map ktO) :: RH b21 (os.map ktO) :: F) (os.length) (by exact ⟨0, by omega, rfl, rfl, by rw [hd0]⟩) (by repeat (first | (with_reducible exact Fin.done (by repeat (first | (with_reducible exact Rest.here) | apply Rest.there))) | (apply Fin.cons (by first | ((repeat (first | (with_reducible exact F0 _) | apply F1)); done) | (repeat (first | exact F0 _ | apply F1)))))) ?_
      rintro n _ _ ⟨j, hj, rfl, rfl, hA_⟩ ih
      replace hA_ := hA_.symm; subst hA_
      refine Run.seq ?_
      refine Run.sr ?_
      refine RunL.mv rfl rfl ?_
      refine RunL.mv rfl rfl ?_
      refine RunL.pure (Pure.lenSl rfl rfl und22) (Wt.none rfl) rfl rfl ?_
      refine RunL.pure (Pure.lss rfl rfl) (Wt.none rfl) rfl rfl ?_
      refine RunL.nil ?_
      refine Run.cond rfl (fun h8 => ?_) (fun h8 => ?_)
      · try simp only [ZA, ZB, ZC, ZD, ZE, ZF, ZG, ZH, ZI, ZJ, ZK, ZL, ZM, ZN, ZO, ZP, ZQ, ZR] at h8
        obtain ⟨oa, hoa⟩ := get_some (xs := os) (i := j) (by omega)
        obtain ⟨ob, hob⟩ := get_some (xs := os) (i := os.length - 1 - j) (by omega)
        obtain ⟨bo, To, preo, posto, hpo, hroo⟩ := hO.open1 (show 0 < os.length by omega)
        have hob' : os[(((os.length : Nat) : Int) - 1 - (j : Nat)).toNat]? = some ob := by rw [show (((os.length : Nat) : Int) - 1 - (j : Nat)).toNat = os.length - 1 - j by omega]; exact hob
        have hpa := put_a hnd hoa
        have hpb := put_b hnd (by omega) hob
        have hl1 : ((os.take j).map ktO).length ≤ 12 := by rw [List.length_map, List.length_take]; omega
        have hl2 : ((os.drop (os.length - j)).reverse.map ktO).length ≤ 12 := by rw [List.length_map, List.length_reverse, List.length_drop]; omega
        have hk1 : KN ((os.take j).map ktO) := kn_o (hnd.sublist ((List.take_sublist _ _).map _))
        have hk2 : KN ((os.drop (os.length - j)).reverse.map ktO) := kn_o (by rw [List.map_reverse]; exact (List.reverse_perm _).nodup_iff.2 (hnd.sublist ((List.drop_sublist _ _).map _)))
        refine Run.skip ?_
        refine Run.seq ?_
        refine Run.block ?_
        refine Run.seq ?_
        refine Run.regionD' (by kernel_rfl) (by kernel_rfl) (fun hok178 => ?_)
        refine RunD.pure (i := 0) hok178 rfl (by kernel_rfl) (Pure.move rfl) (Wt.none rfl) rfl rfl ?_
        refine RunD.pure (i := 1) hok178 rfl (by kernel_rfl) (Pure.move rfl) (Wt.none rfl) rfl rfl ?_
        refine RunD.pure (i := 2) hok178 rfl (by kernel_rfl) (Pure.move rfl) (Wt.none rfl) rfl rfl ?_
        refine RunD.pure (i := 3) hok178 rfl (by kernel_rfl) (Pure.indexAddr (opvSl rfl hpo) rfl und22 sz31 (by omega) (by omega)) (Wt.none rfl) rfl rfl ?_
        refine RunD.pure (i := 4) hok178 rfl (by kernel_rfl) (Pure.fieldAddr rfl fo31_1) (Wt.none rfl) rfl rfl ?_
        refine RunD.load1R (i := 5) hok178 rfl (by kernel_rfl) rfl hroo ((elem_at (pre := preo) (post := posto) (f := cOO) (sz := 3) (j := 1) (fun _ _ => rfl) hoa (by decide)).trans rfl) agg3 (Wt.none rfl) rfl ?_
        refine RunD.pure (i := 6) hok178 rfl (by kernel_rfl) (Pure.move rfl) (Wt.none rfl) rfl rfl ?_
        refine RunD.pure (i := 7) hok178 rfl (by kernel_rfl) (Pure.move rfl) (Wt.none rfl) rfl rfl ?_
        refine RunD.pure (i := 8) hok178 rfl (by kernel_rfl) (Pure.indexAddr (opvSl rfl hpo) rfl und22 sz31 (by omega) (by omega)) (Wt.none rfl) rfl rfl ?_
        refine RunD.pure (i := 9) hok178 rfl (by kernel_rfl) (Pure.fieldAddr rfl fo31_2) (Wt.none rfl) rfl rfl ?_
        refine RunD.load1R (i := 10) hok178 rfl (by kernel_rfl) rfl hroo ((elem_at (pre := preo) (post := posto) (f := cOO) (sz := 3) (j := 2) (fun _ _ => rfl) hoa (by decide)).trans rfl) agg9 (Wt.none rfl) rfl ?_
        refine RunD.one (i := 11) (by kernel_rfl) rfl ?_
        refine RunL.call rfl rfl (by rfl) (by repeat (first | (with_reducible exact Take.nil _) | (apply Take.cons (by first | ((repeat (first | (with_reducible exact F0 _) | apply F1)); done) | (repeat (first | exact F0 _ | apply F1)))))) (HPut_ctr (p := pa) (k := oa.key) (t := oa.tick) hk1 (by omega)) (Wt.none rfl) rfl ?_
        rintro _ _ ⟨rfl, hA_⟩
        replace hA_ := hA_.symm; subst hA_
        rw [hpa]
        refine RunL.nilD' ?_
        refine RunD.nilR (by kernel_rfl) ?_
        refine Run.regionD' (by kernel_rfl) (by kernel_rfl) (fun hok197 => ?_)
        refine RunD.pure (i := 0) hok197 rfl (by kernel_rfl) (Pure.move rfl) (Wt.none rfl) rfl rfl ?_
        refine RunD.pure (i := 1) hok197 rfl (by kernel_rfl) (Pure.move rfl) (Wt.none rfl) rfl rfl ?_
        refine RunD.pure (i := 2) hok197 rfl (by kernel_rfl) (Pure.move rfl) (Wt.none rfl) rfl rfl ?_
        refine RunD.pure (i := 3) hok197 rfl (by kernel_rfl) (Pure.lenSl rfl rfl und22) (Wt.none rfl) rfl rfl ?_
        first | refine RunD.pure (i := 4) hok197 rfl (by kernel_rfl) (Pure.subI rfl rfl (by omega)) (Wt.none rfl) rfl rfl ?_ | refine RunD.pure (i := 4) hok197 rfl (by kernel_rfl) (Pure.sub rfl rfl) (Wt.none rfl) rfl rfl ?_
        refine RunD.pure (i := 5) hok197 rfl (by kernel_rfl) (Pure.move rfl) (Wt.none rfl) rfl rfl ?_
        first | refine RunD.pure (i := 6) hok197 rfl (by kernel_rfl) (Pure.subI rfl rfl (by omega)) (Wt.none rfl) rfl rfl ?_ | refine RunD.pure (i := 6) hok197 rfl (by kernel_rfl) (Pure.sub rfl rfl) (Wt.none rfl) rfl rfl ?_
        refine RunD.pure (i := 7) hok197 rfl (by kernel_rfl) (Pure.indexAddr (opvSl rfl hpo) rfl und22 sz31 (by omega) (by omega)) (Wt.none rfl) rfl rfl ?_
        refine RunD.pure (i := 8) hok197 rfl (by kernel_rfl) (Pure.fieldAddr rfl fo31_1) (Wt.none rfl) rfl rfl ?_
        refine RunD.load1R (i := 9) hok197 rfl (by kernel_rfl) rfl hroo ((elem_at (pre := preo) (post := posto) (f := cOO) (sz := 3) (j := 1) (fun _ _ => rfl) hob' (by decide)).trans rfl) agg3 (Wt.none rfl) rfl ?_
        refine RunD.pure (i := 10) hok197 rfl (by kernel_rfl) (Pure.move rfl) (Wt.none rfl) rfl rfl ?_
        refine RunD.pure (i := 11) hok197 rfl (by kernel_rfl) (Pure.move rfl) (Wt.none rfl) rfl rfl ?_
        refine RunD.pure (i := 12) hok197 rfl (by kernel_rfl) (Pure.lenSl rfl rfl und22) (Wt.none rfl) rfl rfl ?_
        first | refine RunD.pure (i := 13) hok197 rfl (by kernel_rfl) (Pure.subI rfl rfl (by omega)) (Wt.none rfl) rfl rfl ?_ | refine RunD.pure (i := 13) hok197 rfl (by kernel_rfl) (Pure.sub rfl rfl) (Wt.none rfl) rfl rfl ?_
        refine RunD.pure (i := 14) hok197 rfl (by kernel_rfl) (Pure.move rfl) (Wt.none rfl) rfl rfl ?_
        first | refine RunD.pure (i := 15) hok197 rfl (by kernel_rfl) (Pure.subI rfl rfl (by omega)) (Wt.none rfl) rfl rfl ?_ | refine RunD.pure (i := 15) hok197 rfl (by kernel_rfl) (Pure.sub rfl rfl) (Wt.none rfl) rfl rfl ?_
        refine RunD.pure (i := 16) hok197 rfl (by kernel_rfl) (Pure.indexAddr (opvSl rfl hpo) rfl und22 sz31 (by omega) (by omega)) (Wt.none rfl) rfl rfl ?_
        refine RunD.pure (i := 17) hok197 rfl (by kernel_rfl) (Pure.fieldAddr rfl fo31_2) (Wt.none rfl) rfl rfl ?_
        refine RunD.load1R (i := 18) hok197 rfl (by kernel_rfl) rfl hroo ((elem_at (pre := preo) (post := posto) (f := cOO) (sz := 3) (j := 2) (fun _ _ => rfl) hob' (by decide)).trans rfl) agg9 (Wt.none rfl) rfl ?_
        refine RunD.one (i := 19) (by kernel_rfl) rfl ?_
        refine RunL.call rfl rfl (by rfl) (by repeat (first | (with_reducible exact Take.nil _) | (apply Take.cons (by first | ((repeat (first | (with_reducible exact F0 _) | apply F1)); done) | (repeat (first | exact F0 _ | apply F1)))))) (HPut_ctr (p := pb) (k := ob.key) (t := ob.tick) hk2 (by omega)) (Wt.none rfl) rfl ?_
        rintro _ _ ⟨rfl, hA_⟩
        replace hA_ := hA_.symm; subst hA_
        rw [hpb]
        refine RunL.nilD' ?_
        refine RunD.nilR (by kernel_rfl) ?_
        refine Run.inBlock ?_
        refine Run.region ?_
        refine RunL.mv rfl rfl ?_
        first | refine RunL.pure (Pure.addI rfl rfl (by omega)) (Wt.none rfl) rfl rfl ?_ | refine RunL.pure (Pure.add rfl rfl) (Wt.none rfl) rfl rfl ?_
        refine RunL.as rfl rfl ?_
        refine RunL.nil ?_
        refine Run.keep (.cons rfl (.cons rfl (.cons rfl (.cons rfl (.cons rfl (.nil))))) : Keep _ [3, 4, 5, 6, 11] _) ?_
        refine Run.againF (F := F) ih (by exact ⟨j + 1, by omega, rfl, rfl, rfl⟩) (by repeat (first | (with_reducible exact Fin.done (by repeat (first | (with_reducible exact Rest.here) | apply Rest.there))) | (apply Fin.cons (by first | ((repeat (first | (with_reducible exact F0 _) | apply F1)); done) | (repeat (first | exact F0 _ | apply F1)))))) ?_
        omega
      · try simp only [ZA, ZB, ZC, ZD, ZE, ZF, ZG, ZH, ZI, ZJ, ZK, ZL, ZM, ZN, ZO, ZP, ZQ, ZR] at h8
        obtain rfl : j = os.length := by omega
        have hE := EL_len (os.map ktO)
        have hlo : (os.map ktO).length ≤ 12 := by rw [List.length_map]; omega
        have hrv : EL ((os.drop (os.length - os.length)).reverse.map ktO) = EL (os.map ktO) := by
          rw [Nat.sub_self, List.drop_zero]
          exact EL_congr (kn_o (by rw [List.map_reverse]; exact (List.reverse_perm _).nodup_iff.2 hnd)) ((List.reverse_perm os).map ktO)
        have hlb : ((os.drop (os.length - os.length)).reverse.map ktO).length ≤ 12 := by rw [Nat.sub_self, List.drop_zero, List.length_map, List.length_reverse]; omega
        rw [List.take_length]
        refine Run.exit rfl ?_
        refine Run.openR (q := b21) (by first | ((repeat (first | (with_reducible exact F0 _) | apply F1)); done) | (repeat (first | exact F0 _ | apply F1))) ?_; intro ar capr
        refine Run.seq ?_
        refine Run.regionD' (by kernel_rfl) (by kernel_rfl) (fun hok245 => ?_)
        refine RunD.lend (Q := row b21 29 _) Lends.row (by first | ((repeat (first | (with_reducible exact F0 _) | apply F1)); done) | (repeat (first | exact F0 _ | apply F1))) ?_; intro g1 hleg1 hg1 backg1
        have h_g1 := h.mono hleg1
        have hO_g1 := hO.mono hleg1
        refine RunD.pure (i := 0) hok245 rfl (by kernel_rfl) (Pure.move rfl) (Wt.none rfl) rfl rfl ?_
        refine RunD.pure (i := 2) hok245 rfl (by kernel_rfl) (Pure.move rfl) (Wt.none rfl) rfl rfl ?_
        refine RunD.pure (i := 3) hok245 rfl (by kernel_rfl) (Pure.nilCheck rfl) (Wt.none rfl) rfl rfl ?_
        refine RunD.pure (i := 4) hok245 rfl (by kernel_rfl) (Pure.fieldAddr rfl fo29_0) (Wt.none rfl) rfl rfl ?_
        refine RunD.load1R (i := 5) hok245 rfl (by kernel_rfl) rfl (by assumption) (by rfl) agg27 (Wt.none rfl) rfl ?_
        refine RunD.one (i := 1) (by kernel_rfl) rfl ?_
        refine RunL.call rfl rfl (by rfl) (by repeat (first | (with_reducible exact Take.nil _) | (apply Take.cons (by first | ((repeat (first | (with_reducible exact F0 _) | apply F1)); done) | (repeat (first | exact F0 _ | apply F1)))))) (HAll_ctr (p := pa) (by omega)) (Wt.none rfl) rfl ?_
        rintro _ _ ⟨za, zc, rfl, hA_⟩
        replace hA_ := hA_.symm; subst hA_
        refine RunL.nilD' ?_
        refine RunD.one (i := 6) (by kernel_rfl) rfl ?_
        refine RunL.call rfl rfl (by rfl) (by repeat (first | (with_reducible exact Take.nil _) | (apply Take.cons (by first | ((repeat (first | (with_reducible exact F0 _) | apply F1)); done) | (repeat (first | exact F0 _ | apply F1)))))) (sameO_ctr (by rw [EL_len]; omega)) (Wt.none rfl) rfl ?_
        rintro _ _ ⟨rfl, hA_⟩
        replace hA_ := hA_.symm; subst hA_
        refine RunL.nilD' ?_
        refine RunD.pure (i := 7) hok245 rfl (by kernel_rfl) (Pure.move rfl) (Wt.none rfl) rfl rfl ?_
        refine RunD.split (d := 101) rfl (fun hg1 => ?_) (fun hg1 => ?_)
        rotate_left
        · try simp only [ZA, ZB, ZC, ZD, ZE, ZF, ZG, ZH, ZI, ZJ, ZK, ZL, ZM, ZN, ZO, ZP, ZQ, ZR] at hg1
          exfalso
          first | exact hg1 rfl | exact hg1 trivial | (simp at hg1; done)
        try simp only [ZA, ZB, ZC, ZD, ZE, ZF, ZG, ZH, ZI, ZJ, ZK, ZL, ZM, ZN, ZO, ZP, ZQ, ZR] at hg1
        refine RunD.pure (i := 8) hok245 rfl (by kernel_rfl) (Pure.move rfl) (Wt.yes rfl rfl rfl) rfl rfl ?_
        refine RunD.pure (i := 10) hok245 rfl (by kernel_rfl) (Pure.move rfl) (Wt.yes rfl rfl rfl) rfl rfl ?_
        refine RunD.pure (i := 11) hok245 rfl (by kernel_rfl) (Pure.nilCheck rfl) (Wt.yes rfl rfl rfl) rfl rfl ?_
        refine RunD.pure (i := 12) hok245 rfl (by kernel_rfl) (Pure.fieldAddr rfl fo29_0) (Wt.yes rfl rfl rfl) rfl rfl ?_
        refine RunD.load1R (i := 13) hok245 rfl (by kernel_rfl) rfl (by assumption) (by rfl) agg27 (Wt.yes rfl rfl rfl) rfl ?_
        refine RunD.one (i := 9) (by kernel_rfl) rfl ?_
        refine RunL.call rfl rfl (by rfl) (by repeat (first | (with_reducible exact Take.nil _) | (apply Take.cons (by first | ((repeat (first | (with_reducible exact F0 _) | apply F1)); done) | (repeat (first | exact F0 _ | apply F1)))))) (HAll_ctr (p := pb) (by omega)) (Wt.yes rfl rfl rfl) rfl ?_
        rintro _ _ ⟨zb, zd, rfl, hA_⟩
        replace hA_ := hA_.symm; subst hA_
        rw [hrv]
        refine RunL.nilD' ?_
        refine RunD.one (i := 14) (by kernel_rfl) rfl ?_
        refine RunL.call rfl rfl (by rfl) (by repeat (first | (with_reducible exact Take.nil _) | (apply Take.cons (by first | ((repeat (first | (with_reducible exact F0 _) | apply F1)); done) | (repeat (first | exact F0 _ | apply F1)))))) (sameO_ctr (a := zb) (by rw [EL_len]; omega)) (Wt.yes rfl rfl rfl) rfl ?_
        rintro _ _ ⟨rfl, hA_⟩
        replace hA_ := hA_.symm; subst hA_
        refine RunL.nilD' ?_
        refine RunD.pure (i := 15) hok245 rfl (by kernel_rfl) (Pure.pickT rfl rfl) (Wt.none rfl) rfl rfl ?_
        refine RunD.pure (i := 16) hok245 rfl (by kernel_rfl) (Pure.move rfl) (Wt.none rfl) rfl rfl ?_
        refine RunD.split (d := 110) rfl (fun hg2 => ?_) (fun hg2 => ?_)
        rotate_left
        · try simp only [ZA, ZB, ZC, ZD, ZE, ZF, ZG, ZH, ZI, ZJ, ZK, ZL, ZM, ZN, ZO, ZP, ZQ, ZR] at hg2
          exfalso
          first | exact hg2 rfl | exact hg2 trivial | (simp at hg2; done)
        try simp only [ZA, ZB, ZC, ZD, ZE, ZF, ZG, ZH, ZI, ZJ, ZK, ZL, ZM, ZN, ZO, ZP, ZQ, ZR] at hg2
        refine RunD.one (i := 17) (by kernel_rfl) rfl ?_
        refine RunL.call rfl rfl (by rfl) (by repeat (first | (with_reducible exact Take.nil _) | (apply Take.cons (by first | ((repeat (first | (with_reducible exact F0 _) | apply F1)); done) | (repeat (first | exact F0 _ | apply F1)))))) (lives_ctr) (Wt.yes rfl rfl rfl) rfl ?_
        rintro _ _ ⟨rfl, hA_⟩
        replace hA_ := hA_.symm; subst hA_
        refine RunL.nilD' ?_
        refine RunD.pure (i := 18) hok245 rfl (by kernel_rfl) (Pure.pickT rfl rfl) (Wt.none rfl) rfl rfl ?_
        refine RunD.pure (i := 19) hok245 rfl (by kernel_rfl) (Pure.assign rfl) (Wt.none rfl) rfl rfl ?_
        refine RunD.nilB (by kernel_rfl) (fun w sw => backg1 _ _ (sw)) ?_
        exact Run.ret Try.func5 (res1 rfl rfl) (by exact ⟨rfl, rfl⟩) (by repeat (first | (with_reducible exact Fin.done (by repeat (first | (with_reducible exact Rest.here) | apply Rest.there))) | (apply Fin.cons (by first | ((repeat (first | (with_reducible exact F0 _) | apply F1)); done) | (repeat (first | exact F0 _ | apply F1))))))
  · try simp only [ZA, ZB, ZC, ZD, ZE, ZF, ZG, ZH, ZI, ZJ, ZK, ZL, ZM, ZN, ZO, ZP, ZQ, ZR] at h1
    refine RunL.not (Wt.no rfl rfl rfl) rfl rfl ?_
    refine RunL.not (Wt.no rfl rfl rfl) rfl rfl ?_
    refine RunL.pure (Pure.pickF rfl rfl) (Wt.none rfl) rfl rfl ?_
    refine RunL.nil ?_
    refine Run.condF rfl ?_
    refine Run.exit rfl ?_
    refine Run.lendAll (Q := Sl 31 3 ao os.length co _) Lends.Sl (by first | ((repeat (first | (with_reducible exact F0 _) | apply F1)); done) | (repeat (first | exact F0 _ | apply F1))) (fun GhO hleGhO hO => ?_)
    replace h := h.mono hleGhO
    obtain ⟨hO, hOc⟩ := hO
    have hd0 : (os.drop (os.length - 0)).reverse.map ktO = [] := by simp
    refine Run.seq ?_
    refine Run.sr ?_
    refine RunL.as rfl rfl ?_
    refine RunL.nil ?_
    refine Run.block ?_
    refine Run.keep (.cons rfl (.cons rfl (.cons rfl (.cons rfl (.cons rfl (.nil))))) : Keep _ [3, 4, 5, 6, 11] _) ?_
    refine Run.loopF (F := F) (fun n e_ A => ∃ (j : Nat), j ≤ os.length ∧ n = os.length - j ∧ e_ = [(3, .pointer (some ⟨pa, 0, none⟩)), (4, .pointer (some ⟨pb, 0, none⟩)), (5, .pointer (some ⟨b21, 0, none⟩)), (6, .slice ao os.length co), (11, .int .i64 (j : Nat))] ∧ A = Hq pa ((os.take j).map ktO) :: Hq pb ((os.drop (os.length - j)).reverse.map ktO) :: RH b21 (os.map ktO) :: F) (os.length) (by exact ⟨0, by omega, rfl, rfl, by rw [hd0]⟩) (by repeat (first | (with_reducible exact Fin.done (by repeat (first | (with_reducible exact Rest.here) | apply Rest.there))) | (apply Fin.cons (by first | ((repeat (first | (with_reducible exact F0 _) | apply F1)); done) | (repeat (first | exact F0 _ | apply F1)))))) ?_
    rintro n _ _ ⟨j, hj, rfl, rfl, hA_⟩ ih
    replace hA_ := hA_.symm; subst hA_
    refine Run.seq ?_
    refine Run.sr ?_
    refine RunL.mv rfl rfl ?_
    refine RunL.mv rfl rfl ?_
    refine RunL.pure (Pure.lenSl rfl rfl und22) (Wt.none rfl) rfl rfl ?_
    refine RunL.pure (Pure.lss rfl rfl) (Wt.none rfl) rfl rfl ?_
    refine RunL.nil ?_
    refine Run.cond rfl (fun h8 => ?_) (fun h8 => ?_)
    · try simp only [ZA, ZB, ZC, ZD, ZE, ZF, ZG, ZH, ZI, ZJ, ZK, ZL, ZM, ZN, ZO, ZP, ZQ, ZR] at h8
      obtain ⟨oa, hoa⟩ := get_some (xs := os) (i := j) (by omega)
      obtain ⟨ob, hob⟩ := get_some (xs := os) (i := os.length - 1 - j) (by omega)
      obtain ⟨bo, To, preo, posto, hpo, hroo⟩ := hO.open1 (show 0 < os.length by omega)
      have hob' : os[(((os.length : Nat) : Int) - 1 - (j : Nat)).toNat]? = some ob := by rw [show (((os.length : Nat) : Int) - 1 - (j : Nat)).toNat = os.length - 1 - j by omega]; exact hob
      have hpa := put_a hnd hoa
      have hpb := put_b hnd (by omega) hob
      have hl1 : ((os.take j).map ktO).length ≤ 12 := by rw [List.length_map, List.length_take]; omega
      have hl2 : ((os.drop (os.length - j)).reverse.map ktO).length ≤ 12 := by rw [List.length_map, List.length_reverse, List.length_drop]; omega
      have hk1 : KN ((os.take j).map ktO) := kn_o (hnd.sublist ((List.take_sublist _ _).map _))
      have hk2 : KN ((os.drop (os.length - j)).reverse.map ktO) := kn_o (by rw [List.map_reverse]; exact (List.reverse_perm _).nodup_iff.2 (hnd.sublist ((List.drop_sublist _ _).map _)))
      refine Run.skip ?_
      refine Run.seq ?_
      refine Run.block ?_
      refine Run.seq ?_
      refine Run.regionD' (by kernel_rfl) (by kernel_rfl) (fun hok347 => ?_)
      refine RunD.pure (i := 0) hok347 rfl (by kernel_rfl) (Pure.move rfl) (Wt.none rfl) rfl rfl ?_
      refine RunD.pure (i := 1) hok347 rfl (by kernel_rfl) (Pure.move rfl) (Wt.none rfl) rfl rfl ?_
      refine RunD.pure (i := 2) hok347 rfl (by kernel_rfl) (Pure.move rfl) (Wt.none rfl) rfl rfl ?_
      refine RunD.pure (i := 3) hok347 rfl (by kernel_rfl) (Pure.indexAddr (opvSl rfl hpo) rfl und22 sz31 (by omega) (by omega)) (Wt.none rfl) rfl rfl ?_
      refine RunD.pure (i := 4) hok347 rfl (by kernel_rfl) (Pure.fieldAddr rfl fo31_1) (Wt.none rfl) rfl rfl ?_
      refine RunD.load1R (i := 5) hok347 rfl (by kernel_rfl) rfl hroo ((elem_at (pre := preo) (post := posto) (f := cOO) (sz := 3) (j := 1) (fun _ _ => rfl) hoa (by decide)).trans rfl) agg3 (Wt.none rfl) rfl ?_
      refine RunD.pure (i := 6) hok347 rfl (by kernel_rfl) (Pure.move rfl) (Wt.none rfl) rfl rfl ?_
      refine RunD.pure (i := 7) hok347 rfl (by kernel_rfl) (Pure.move rfl) (Wt.none rfl) rfl rfl ?_
      refine RunD.pure (i := 8) hok347 rfl (by kernel_rfl) (Pure.indexAddr (opvSl rfl hpo) rfl und22 sz31 (by omega) (by omega)) (Wt.none rfl) rfl rfl ?_
      refine RunD.pure (i := 9) hok347 rfl (by kernel_rfl) (Pure.fieldAddr rfl fo31_2) (Wt.none rfl) rfl rfl ?_
      refine RunD.load1R (i := 10) hok347 rfl (by kernel_rfl) rfl hroo ((elem_at (pre := preo) (post := posto) (f := cOO) (sz := 3) (j := 2) (fun _ _ => rfl) hoa (by decide)).trans rfl) agg9 (Wt.none rfl) rfl ?_
      refine RunD.one (i := 11) (by kernel_rfl) rfl ?_
      refine RunL.call rfl rfl (by rfl) (by repeat (first | (with_reducible exact Take.nil _) | (apply Take.cons (by first | ((repeat (first | (with_reducible exact F0 _) | apply F1)); done) | (repeat (first | exact F0 _ | apply F1)))))) (HPut_ctr (p := pa) (k := oa.key) (t := oa.tick) hk1 (by omega)) (Wt.none rfl) rfl ?_
      rintro _ _ ⟨rfl, hA_⟩
      replace hA_ := hA_.symm; subst hA_
      rw [hpa]
      refine RunL.nilD' ?_
      refine RunD.nilR (by kernel_rfl) ?_
      refine Run.regionD' (by kernel_rfl) (by kernel_rfl) (fun hok366 => ?_)
      refine RunD.pure (i := 0) hok366 rfl (by kernel_rfl) (Pure.move rfl) (Wt.none rfl) rfl rfl ?_
      refine RunD.pure (i := 1) hok366 rfl (by kernel_rfl) (Pure.move rfl) (Wt.none rfl) rfl rfl ?_
      refine RunD.pure (i := 2) hok366 rfl (by kernel_rfl) (Pure.move rfl) (Wt.none rfl) rfl rfl ?_
      refine RunD.pure (i := 3) hok366 rfl (by kernel_rfl) (Pure.lenSl rfl rfl und22) (Wt.none rfl) rfl rfl ?_
      first | refine RunD.pure (i := 4) hok366 rfl (by kernel_rfl) (Pure.subI rfl rfl (by omega)) (Wt.none rfl) rfl rfl ?_ | refine RunD.pure (i := 4) hok366 rfl (by kernel_rfl) (Pure.sub rfl rfl) (Wt.none rfl) rfl rfl ?_
      refine RunD.pure (i := 5) hok366 rfl (by kernel_rfl) (Pure.move rfl) (Wt.none rfl) rfl rfl ?_
      first | refine RunD.pure (i := 6) hok366 rfl (by kernel_rfl) (Pure.subI rfl rfl (by omega)) (Wt.none rfl) rfl rfl ?_ | refine RunD.pure (i := 6) hok366 rfl (by kernel_rfl) (Pure.sub rfl rfl) (Wt.none rfl) rfl rfl ?_
      refine RunD.pure (i := 7) hok366 rfl (by kernel_rfl) (Pure.indexAddr (opvSl rfl hpo) rfl und22 sz31 (by omega) (by omega)) (Wt.none rfl) rfl rfl ?_
      refine RunD.pure (i := 8) hok366 rfl (by kernel_rfl) (Pure.fieldAddr rfl fo31_1) (Wt.none rfl) rfl rfl ?_
      refine RunD.load1R (i := 9) hok366 rfl (by kernel_rfl) rfl hroo ((elem_at (pre := preo) (post := posto) (f := cOO) (sz := 3) (j := 1) (fun _ _ => rfl) hob' (by decide)).trans rfl) agg3 (Wt.none rfl) rfl ?_
      refine RunD.pure (i := 10) hok366 rfl (by kernel_rfl) (Pure.move rfl) (Wt.none rfl) rfl rfl ?_
      refine RunD.pure (i := 11) hok366 rfl (by kernel_rfl) (Pure.move rfl) (Wt.none rfl) rfl rfl ?_
      refine RunD.pure (i := 12) hok366 rfl (by kernel_rfl) (Pure.lenSl rfl rfl und22) (Wt.none rfl) rfl rfl ?_
      first | refine RunD.pure (i := 13) hok366 rfl (by kernel_rfl) (Pure.subI rfl rfl (by omega)) (Wt.none rfl) rfl rfl ?_ | refine RunD.pure (i := 13) hok366 rfl (by kernel_rfl) (Pure.sub rfl rfl) (Wt.none rfl) rfl rfl ?_
      refine RunD.pure (i := 14) hok366 rfl (by kernel_rfl) (Pure.move rfl) (Wt.none rfl) rfl rfl ?_
      first | refine RunD.pure (i := 15) hok366 rfl (by kernel_rfl) (Pure.subI rfl rfl (by omega)) (Wt.none rfl) rfl rfl ?_ | refine RunD.pure (i := 15) hok366 rfl (by kernel_rfl) (Pure.sub rfl rfl) (Wt.none rfl) rfl rfl ?_
      refine RunD.pure (i := 16) hok366 rfl (by kernel_rfl) (Pure.indexAddr (opvSl rfl hpo) rfl und22 sz31 (by omega) (by omega)) (Wt.none rfl) rfl rfl ?_
      refine RunD.pure (i := 17) hok366 rfl (by kernel_rfl) (Pure.fieldAddr rfl fo31_2) (Wt.none rfl) rfl rfl ?_
      refine RunD.load1R (i := 18) hok366 rfl (by kernel_rfl) rfl hroo ((elem_at (pre := preo) (post := posto) (f := cOO) (sz := 3) (j := 2) (fun _ _ => rfl) hob' (by decide)).trans rfl) agg9 (Wt.none rfl) rfl ?_
      refine RunD.one (i := 19) (by kernel_rfl) rfl ?_
      refine RunL.call rfl rfl (by rfl) (by repeat (first | (with_reducible exact Take.nil _) | (apply Take.cons (by first | ((repeat (first | (with_reducible exact F0 _) | apply F1)); done) | (repeat (first | exact F0 _ | apply F1)))))) (HPut_ctr (p := pb) (k := ob.key) (t := ob.tick) hk2 (by omega)) (Wt.none rfl) rfl ?_
      rintro _ _ ⟨rfl, hA_⟩
      replace hA_ := hA_.symm; subst hA_
      rw [hpb]
      refine RunL.nilD' ?_
      refine RunD.nilR (by kernel_rfl) ?_
      refine Run.inBlock ?_
      refine Run.region ?_
      refine RunL.mv rfl rfl ?_
      first | refine RunL.pure (Pure.addI rfl rfl (by omega)) (Wt.none rfl) rfl rfl ?_ | refine RunL.pure (Pure.add rfl rfl) (Wt.none rfl) rfl rfl ?_
      refine RunL.as rfl rfl ?_
      refine RunL.nil ?_
      refine Run.keep (.cons rfl (.cons rfl (.cons rfl (.cons rfl (.cons rfl (.nil))))) : Keep _ [3, 4, 5, 6, 11] _) ?_
      refine Run.againF (F := F) ih (by exact ⟨j + 1, by omega, rfl, rfl, rfl⟩) (by repeat (first | (with_reducible exact Fin.done (by repeat (first | (with_reducible exact Rest.here) | apply Rest.there))) | (apply Fin.cons (by first | ((repeat (first | (with_reducible exact F0 _) | apply F1)); done) | (repeat (first | exact F0 _ | apply F1)))))) ?_
      omega
    · try simp only [ZA, ZB, ZC, ZD, ZE, ZF, ZG, ZH, ZI, ZJ, ZK, ZL, ZM, ZN, ZO, ZP, ZQ, ZR] at h8
      obtain rfl : j = os.length := by omega
      have hE := EL_len (os.map ktO)
      have hlo : (os.map ktO).length ≤ 12 := by rw [List.length_map]; omega
      have hrv : EL ((os.drop (os.length - os.length)).reverse.map ktO) = EL (os.map ktO) := by
        rw [Nat.sub_self, List.drop_zero]
        exact EL_congr (kn_o (by rw [List.map_reverse]; exact (List.reverse_perm _).nodup_iff.2 hnd)) ((List.reverse_perm os).map ktO)
      have hlb : ((os.drop (os.length - os.length)).reverse.map ktO).length ≤ 12 := by rw [Nat.sub_self, List.drop_zero, List.length_map, List.length_reverse]; omega
      rw [List.take_length]
      refine Run.exit rfl ?_
      refine Run.openR (q := b21) (by first | ((repeat (first | (with_reducible exact F0 _) | apply F1)); done) | (repeat (first | exact F0 _ | apply F1))) ?_; intro ar capr
      refine Run.seq ?_
      refine Run.regionD' (by kernel_rfl) (by kernel_rfl) (fun hok414 => ?_)
      refine RunD.lend (Q := row b21 29 _) Lends.row (by first | ((repeat (first | (with_reducible exact F0 _) | apply F1)); done) | (repeat (first | exact F0 _ | apply F1))) ?_; intro g1 hleg1 hg1 backg1
      have h_g1 := h.mono hleg1
      have hO_g1 := hO.mono hleg1
      refine RunD.pure (i := 0) hok414 rfl (by kernel_rfl) (Pure.move rfl) (Wt.none rfl) rfl rfl ?_
      refine RunD.pure (i := 2) hok414 rfl (by kernel_rfl) (Pure.move rfl) (Wt.none rfl) rfl rfl ?_
      refine RunD.pure (i := 3) hok414 rfl (by kernel_rfl) (Pure.nilCheck rfl) (Wt.none rfl) rfl rfl ?_
      refine RunD.pure (i := 4) hok414 rfl (by kernel_rfl) (Pure.fieldAddr rfl fo29_0) (Wt.none rfl) rfl rfl ?_
      refine RunD.load1R (i := 5) hok414 rfl (by kernel_rfl) rfl (by assumption) (by rfl) agg27 (Wt.none rfl) rfl ?_
      refine RunD.one (i := 1) (by kernel_rfl) rfl ?_
      refine RunL.call rfl rfl (by rfl) (by repeat (first | (with_reducible exact Take.nil _) | (apply Take.cons (by first | ((repeat (first | (with_reducible exact F0 _) | apply F1)); done) | (repeat (first | exact F0 _ | apply F1)))))) (HAll_ctr (p := pa) (by omega)) (Wt.none rfl) rfl ?_
      rintro _ _ ⟨za, zc, rfl, hA_⟩
      replace hA_ := hA_.symm; subst hA_
      refine RunL.nilD' ?_
      refine RunD.one (i := 6) (by kernel_rfl) rfl ?_
      refine RunL.call rfl rfl (by rfl) (by repeat (first | (with_reducible exact Take.nil _) | (apply Take.cons (by first | ((repeat (first | (with_reducible exact F0 _) | apply F1)); done) | (repeat (first | exact F0 _ | apply F1)))))) (sameO_ctr (by rw [EL_len]; omega)) (Wt.none rfl) rfl ?_
      rintro _ _ ⟨rfl, hA_⟩
      replace hA_ := hA_.symm; subst hA_
      refine RunL.nilD' ?_
      refine RunD.pure (i := 7) hok414 rfl (by kernel_rfl) (Pure.move rfl) (Wt.none rfl) rfl rfl ?_
      refine RunD.split (d := 101) rfl (fun hg3 => ?_) (fun hg3 => ?_)
      rotate_left
      · try simp only [ZA, ZB, ZC, ZD, ZE, ZF, ZG, ZH, ZI, ZJ, ZK, ZL, ZM, ZN, ZO, ZP, ZQ, ZR] at hg3
        exfalso
        first | exact hg3 rfl | exact hg3 trivial | (simp at hg3; done)
      try simp only [ZA, ZB, ZC, ZD, ZE, ZF, ZG, ZH, ZI, ZJ, ZK, ZL, ZM, ZN, ZO, ZP, ZQ, ZR] at hg3
      refine RunD.pure (i := 8) hok414 rfl (by kernel_rfl) (Pure.move rfl) (Wt.yes rfl rfl rfl) rfl rfl ?_
      refine RunD.pure (i := 10) hok414 rfl (by kernel_rfl) (Pure.move rfl) (Wt.yes rfl rfl rfl) rfl rfl ?_
      refine RunD.pure (i := 11) hok414 rfl (by kernel_rfl) (Pure.nilCheck rfl) (Wt.yes rfl rfl rfl) rfl rfl ?_
      refine RunD.pure (i := 12) hok414 rfl (by kernel_rfl) (Pure.fieldAddr rfl fo29_0) (Wt.yes rfl rfl rfl) rfl rfl ?_
      refine RunD.load1R (i := 13) hok414 rfl (by kernel_rfl) rfl (by assumption) (by rfl) agg27 (Wt.yes rfl rfl rfl) rfl ?_
      refine RunD.one (i := 9) (by kernel_rfl) rfl ?_
      refine RunL.call rfl rfl (by rfl) (by repeat (first | (with_reducible exact Take.nil _) | (apply Take.cons (by first | ((repeat (first | (with_reducible exact F0 _) | apply F1)); done) | (repeat (first | exact F0 _ | apply F1)))))) (HAll_ctr (p := pb) (by omega)) (Wt.yes rfl rfl rfl) rfl ?_
      rintro _ _ ⟨zb, zd, rfl, hA_⟩
      replace hA_ := hA_.symm; subst hA_
      rw [hrv]
      refine RunL.nilD' ?_
      refine RunD.one (i := 14) (by kernel_rfl) rfl ?_
      refine RunL.call rfl rfl (by rfl) (by repeat (first | (with_reducible exact Take.nil _) | (apply Take.cons (by first | ((repeat (first | (with_reducible exact F0 _) | apply F1)); done) | (repeat (first | exact F0 _ | apply F1)))))) (sameO_ctr (a := zb) (by rw [EL_len]; omega)) (Wt.yes rfl rfl rfl) rfl ?_
      rintro _ _ ⟨rfl, hA_⟩
      replace hA_ := hA_.symm; subst hA_
      refine RunL.nilD' ?_
      refine RunD.pure (i := 15) hok414 rfl (by kernel_rfl) (Pure.pickT rfl rfl) (Wt.none rfl) rfl rfl ?_
      refine RunD.pure (i := 16) hok414 rfl (by kernel_rfl) (Pure.move rfl) (Wt.none rfl) rfl rfl ?_
      refine RunD.split (d := 110) rfl (fun hg4 => ?_) (fun hg4 => ?_)
      rotate_left
      · try simp only [ZA, ZB, ZC, ZD, ZE, ZF, ZG, ZH, ZI, ZJ, ZK, ZL, ZM, ZN, ZO, ZP, ZQ, ZR] at hg4
        exfalso
        first | exact hg4 rfl | exact hg4 trivial | (simp at hg4; done)
      try simp only [ZA, ZB, ZC, ZD, ZE, ZF, ZG, ZH, ZI, ZJ, ZK, ZL, ZM, ZN, ZO, ZP, ZQ, ZR] at hg4
      refine RunD.one (i := 17) (by kernel_rfl) rfl ?_
      refine RunL.call rfl rfl (by rfl) (by repeat (first | (with_reducible exact Take.nil _) | (apply Take.cons (by first | ((repeat (first | (with_reducible exact F0 _) | apply F1)); done) | (repeat (first | exact F0 _ | apply F1)))))) (lives_ctr) (Wt.yes rfl rfl rfl) rfl ?_
      rintro _ _ ⟨rfl, hA_⟩
      replace hA_ := hA_.symm; subst hA_
      refine RunL.nilD' ?_
      refine RunD.pure (i := 18) hok414 rfl (by kernel_rfl) (Pure.pickT rfl rfl) (Wt.none rfl) rfl rfl ?_
      refine RunD.pure (i := 19) hok414 rfl (by kernel_rfl) (Pure.assign rfl) (Wt.none rfl) rfl rfl ?_
      refine RunD.nilB (by kernel_rfl) (fun w sw => backg1 _ _ (sw)) ?_
      exact Run.ret Try.func5 (res1 rfl rfl) (by exact ⟨rfl, rfl⟩) (by repeat (first | (with_reducible exact Fin.done (by repeat (first | (with_reducible exact Rest.here) | apply Rest.there))) | (apply Fin.cons (by first | ((repeat (first | (with_reducible exact F0 _) | apply F1)); done) | (repeat (first | exact F0 _ | apply F1))))))

end Go.Proofs.Ytppamndllgojnaa
