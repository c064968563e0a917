/- Heaps: asked, cleared, what is due. -/
import Derived.Test.YtppamndllgojnaaH6
set_option linter.unusedVariables false
set_option linter.unusedSimpArgs false
set_option linter.unusedSectionVars false
namespace Go.Proofs.Ytppamndllgojnaa
open Go Csl
theorem pl60 : placesOf Try.prog 60 = some ([(0, 1), (1, 1)], (.agg #[(.slice none 0 0), (.map none)])) := by kernel_rfl
theorem und34 : Try.prog.underlying 34 = some (Go.TypeDesc.slice 9) := Try.underlying34
theorem sz9 : sizeIs Try.prog 9 = some 1 := by kernel_rfl
theorem zz9 : zeroIs Try.prog 9 = some (.string .empty) := by kernel_rfl
theorem by9 : bytesIs Try.prog 9 = some 16 := by kernel_rfl

namespace Csl
def overT (t : Int) (e : E) : Bool := decide (e.tick ≤ t)
theorem takeWhile_eq {α : Type} {p : α → Bool} : ∀ {l : List α} {j : Nat}, (∀ i x, i < j → l[i]? = some x → p x = true) → (∀ x, l[j]? = some x → p x = false) → j ≤ l.length → l.takeWhile p = l.take j ∧ l.dropWhile p = l.drop j
  | [], j, _, _, hj => by have : j = 0 := by simpa using hj
                          subst this; simp
  | x :: l, 0, _, h2, _ => by have := h2 x rfl; simp [List.takeWhile_cons, List.dropWhile_cons, this]
  | x :: l, j + 1, h1, h2, hj => by
    have hx := h1 0 x (by omega) rfl
    have ih := takeWhile_eq (p := p) (l := l) (j := j) (fun i y hi hy => h1 (i + 1) y (by omega) (by simpa using hy)) (fun y hy => h2 y (by simpa using hy)) (by simpa using hj)
    simp [List.takeWhile_cons, List.dropWhile_cons, hx, ih]
/-- What is left behind 't'. -/
def afterT (tl : List (ByteArray × Int)) (t : Int) : List (ByteArray × Int) := ((EL tl).dropWhile (overT t)).map ofE
def dueK (tl : List (ByteArray × Int)) (t : Int) : List ByteArray := ((EL tl).takeWhile (overT t)).map E.key
theorem EL_rest {tl : List (ByteArray × Int)} (hn : KN tl) {l : List E} (hs : l.Sublist (EL tl)) : KN (l.map ofE) ∧ EL (l.map ofE) = l := by
  have hp : (l.map ofE).map toE = l := by rw [List.map_map, show toE ∘ ofE = id from rfl, List.map_id]
  refine ⟨?_, (EL_eq ((EL_sd hn).sub hs) (by rw [hp])).symm⟩
  have h1 : ((EL tl).map ofE).map (·.1) = (EL tl).map E.key := by rw [List.map_map]; rfl
  have h2 : KN ((EL tl).map ofE) := hn.perm (by
    have h4 := (EL_perm tl).map ofE
    rw [List.map_map, show ofE ∘ toE = id from rfl, List.map_id] at h4
    exact h4.symm)
  unfold KN at h2 ⊢
  exact List.Nodup.sublist ((hs.map ofE).map _) h2
theorem afterT_KN {tl : List (ByteArray × Int)} (hn : KN tl) (t : Int) : KN (afterT tl t) := (EL_rest hn (List.dropWhile_sublist _)).1
theorem afterT_EL {tl : List (ByteArray × Int)} (hn : KN tl) (t : Int) : EL (afterT tl t) = (EL tl).dropWhile (overT t) := (EL_rest hn (List.dropWhile_sublist _)).2
theorem afterT_len {tl : List (ByteArray × Int)} (hn : KN tl) (t : Int) : (afterT tl t).length ≤ tl.length := by
  unfold afterT; rw [List.length_map, ← EL_len tl]; exact (List.dropWhile_sublist _).length_le
theorem HqOk.perm' {V : List E} {at_ tl tl' : List (ByteArray × Int)} (h : HqOk V at_ tl) (p : tl.Perm tl') : HqOk V at_ tl' := ⟨h.perm.trans (p.map _), h.kn.perm p, h.ka, h.hp, h.ix⟩
theorem EL_inj {tl tl' : List (ByteArray × Int)} (h : EL tl = EL tl') : tl.Perm tl' := by
  have p := ((EL_perm tl).symm.trans ((List.Perm.of_eq h).trans (EL_perm tl'))).map ofE
  rwa [List.map_map, List.map_map, show ofE ∘ toE = id from rfl, List.map_id, List.map_id] at p
theorem HqOk.empty : HqOk [] [] [] := ⟨List.Perm.refl _, List.nodup_nil, List.nodup_nil, fun j x y _ hx _ => by simp at hx, fun j y hy _ => by simp at hy, fun k z _ hz => by cases hz⟩
def noE : E := ⟨0, .empty⟩
end Csl

set_option maxRecDepth 100000 in
theorem HNew_ctr {G : Gp} :
    Ctr Try.prog G 8 [] [] (fun F v A => ∃ p, v = .pointer (some ⟨p, 0, none⟩) ∧ A = Hq p [] :: F) := by
  refine Ctr.intro Try.func8 rfl (by kernel_rfl) rfl (fun F => ?_)
  simp only [List.nil_append]
  refine Run.sr ?_
  refine RunL.as rfl rfl ?_
  refine RunL.nil ?_
  refine Run.sr ?_
  refine RunL.makeMap (Wt.none rfl) rfl ?_; intro b1
  refine RunL.pure (Pure.buildL (ps := [(1, _)]) (zs := [(.slice none 0 0), (.map none)]) (xs := [_, _]) pl60 rfl rfl rfl rfl) (Wt.none rfl) rfl rfl ?_
  refine RunL.box rfl (Wt.none rfl) rfl ?_; intro b3
  refine RunL.as rfl rfl ?_
  refine RunL.nil ?_
  refine Run.nilSl 45 2 ?_
  refine Run.mkA (n := 0) (at_ := []) [] (by repeat (first | (with_reducible exact Take.nil _) | (apply Take.cons (by first | ((repeat (first | (with_reducible exact F0 _) | apply F1)); done) | (repeat (first | exact F0 _ | apply F1)))))) rfl ?_
  refine Run.mkH (HqOk.empty) (by repeat (first | (with_reducible exact Take.nil _) | (apply Take.cons (by first | ((repeat (first | (with_reducible exact F0 _) | apply F1)); done) | (repeat (first | exact F0 _ | apply F1)))))) ?_
  exact Run.ret Try.func8 (res1 rfl rfl) (by exact ⟨_, rfl, rfl⟩) (by repeat (first | (with_reducible exact Fin.done (by repeat (first | (with_reducible exact Rest.here) | apply Rest.there))) | (apply Fin.cons (by first | ((repeat (first | (with_reducible exact F0 _) | apply F1)); done) | (repeat (first | exact F0 _ | apply F1))))))

set_option maxRecDepth 100000 in
theorem HLen_ctr {G : Gp} {p : Nat} {tl : List (ByteArray × Int)} :
    Ctr Try.prog G 13 [.pointer (some ⟨p, 0, none⟩)] [Hq p tl] (fun F v A => v = .int .i64 tl.length ∧ A = Hq p tl :: F) := by
  refine Ctr.intro Try.func13 rfl (by kernel_rfl) rfl (fun F => ?_)
  simp only [List.cons_append, List.nil_append]
  refine Run.openH (by first | ((repeat (first | (with_reducible exact F0 _) | apply F1)); done) | (repeat (first | exact F0 _ | apply F1))) ?_; intro V at_ hok
  refine Run.openA (by first | ((repeat (first | (with_reducible exact F0 _) | apply F1)); done) | (repeat (first | exact F0 _ | apply F1))) ?_; intro a cap r
  refine Run.sr ?_
  refine RunL.as rfl rfl ?_
  refine RunL.nil ?_
  refine Run.sr ?_
  refine RunL.mv rfl rfl ?_
  refine RunL.pure (Pure.nilCheck rfl) (Wt.none rfl) rfl rfl ?_
  refine RunL.pure (Pure.fieldAddr rfl fo60_0) (Wt.none rfl) rfl rfl ?_
  first | refine RunL.load1 rfl (by first | ((repeat (first | (with_reducible exact F0 _) | apply F1)); done) | (repeat (first | exact F0 _ | apply F1))) (by rfl) agg53 (Wt.none rfl) rfl ?_ | refine RunL.load1R rfl (by assumption) (by rfl) agg53 (Wt.none rfl) rfl ?_
  refine RunL.pure (Pure.lenSl rfl rfl und53) (Wt.none rfl) rfl rfl ?_
  refine RunL.as rfl rfl ?_
  refine RunL.nil ?_
  refine Run.mkA (V) (by repeat (first | (with_reducible exact Take.nil _) | (apply Take.cons (by first | ((repeat (first | (with_reducible exact F0 _) | apply F1)); done) | (repeat (first | exact F0 _ | apply F1)))))) (by simp) ?_
  refine Run.mkH (hok) (by repeat (first | (with_reducible exact Take.nil _) | (apply Take.cons (by first | ((repeat (first | (with_reducible exact F0 _) | apply F1)); done) | (repeat (first | exact F0 _ | apply F1)))))) ?_
  exact Run.ret Try.func13 (res1 rfl rfl) (by exact ⟨by rw [hok.len], rfl⟩) (by repeat (first | (with_reducible exact Fin.done (by repeat (first | (with_reducible exact Rest.here) | apply Rest.there))) | (apply Fin.cons (by first | ((repeat (first | (with_reducible exact F0 _) | apply F1)); done) | (repeat (first | exact F0 _ | apply F1))))))

set_option maxRecDepth 100000 in
theorem HAt_ctr {G : Gp} {p : Nat} {tl : List (ByteArray × Int)} {k : ByteArray} :
    Ctr Try.prog G 20 [.pointer (some ⟨p, 0, none⟩), .string k] [Hq p tl] (fun F v A => v = .tuple #[.int .i64 ((mget k tl).getD 0), .bool (mget k tl).isSome] ∧ A = Hq p tl :: F) := by
  refine Ctr.intro Try.func20 rfl (by kernel_rfl) rfl (fun F => ?_)
  simp only [List.cons_append, List.nil_append]
  refine Run.openH (by first | ((repeat (first | (with_reducible exact F0 _) | apply F1)); done) | (repeat (first | exact F0 _ | apply F1))) ?_; intro V at_ hok
  refine Run.openA (by first | ((repeat (first | (with_reducible exact F0 _) | apply F1)); done) | (repeat (first | exact F0 _ | apply F1))) ?_; intro a cap r
  refine Run.sr ?_
  refine RunL.as rfl rfl ?_
  refine RunL.as rfl rfl ?_
  refine RunL.nil ?_
  refine Run.sr ?_
  refine RunL.mv rfl rfl ?_
  refine RunL.pure (Pure.nilCheck rfl) (Wt.none rfl) rfl rfl ?_
  refine RunL.pure (Pure.fieldAddr rfl fo60_1) (Wt.none rfl) rfl rfl ?_
  first | refine RunL.load1 rfl (by first | ((repeat (first | (with_reducible exact F0 _) | apply F1)); done) | (repeat (first | exact F0 _ | apply F1))) (by rfl) agg58 (Wt.none rfl) rfl ?_ | refine RunL.load1R rfl (by assumption) (by rfl) agg58 (Wt.none rfl) rfl ?_
  refine RunL.mv rfl rfl ?_
  first | refine RunL.lookup (k := k) rfl rfl (by first | ((repeat (first | (with_reducible exact F0 _) | apply F1)); done) | (repeat (first | exact F0 _ | apply F1))) und58 zz3 (KeyT.string und9) (Wt.none rfl) rfl ?_ | refine RunL.lookupR (k := k) rfl rfl (by assumption) und58 zz3 (KeyT.string und9) (Wt.none rfl) rfl ?_
  rcases hq : mget k at_ with _ | z
  · skip
    refine RunL.mv rfl rfl ?_
    refine RunL.pure (Pure.extract rfl rfl) (Wt.none rfl) rfl rfl ?_
    refine RunL.pure (Pure.extract rfl rfl) (Wt.none rfl) rfl rfl ?_
    refine RunL.as rfl rfl ?_
    refine RunL.as rfl rfl ?_
    refine RunL.nil ?_
    refine Run.seq ?_
    refine Run.sr ?_
    refine RunL.mv rfl rfl ?_
    refine RunL.pure (Pure.not rfl) (Wt.none rfl) rfl rfl ?_
    refine RunL.nil ?_
    refine Run.cond rfl (fun hc1 => ?_) (fun hc1 => ?_)
    rotate_left
    · try simp only [ZA, ZB, ZC, ZD, ZE, ZF, ZG, ZH, ZI, ZJ, ZK, ZL, ZM, ZN, ZO, ZP, ZQ, ZR] at hc1
      exfalso
      simp at hc1
    try simp only [ZA, ZB, ZC, ZD, ZE, ZF, ZG, ZH, ZI, ZJ, ZK, ZL, ZM, ZN, ZO, ZP, ZQ, ZR] at hc1
    refine Run.sr ?_
    refine RunL.as rfl rfl ?_
    refine RunL.as rfl rfl ?_
    refine RunL.nil ?_
    refine Run.mkA (V) (by repeat (first | (with_reducible exact Take.nil _) | (apply Take.cons (by first | ((repeat (first | (with_reducible exact F0 _) | apply F1)); done) | (repeat (first | exact F0 _ | apply F1)))))) (by simp) ?_
    refine Run.mkH (hok) (by repeat (first | (with_reducible exact Take.nil _) | (apply Take.cons (by first | ((repeat (first | (with_reducible exact F0 _) | apply F1)); done) | (repeat (first | exact F0 _ | apply F1)))))) ?_
    exact Run.ret Try.func20 (res2 rfl rfl rfl) (by exact ⟨by rw [hok.hasnt hq]; rfl, rfl⟩) (by repeat (first | (with_reducible exact Fin.done (by repeat (first | (with_reducible exact Rest.here) | apply Rest.there))) | (apply Fin.cons (by first | ((repeat (first | (with_reducible exact F0 _) | apply F1)); done) | (repeat (first | exact F0 _ | apply F1))))))
  · skip
    refine RunL.mv rfl rfl ?_
    refine RunL.pure (Pure.extract rfl rfl) (Wt.none rfl) rfl rfl ?_
    refine RunL.pure (Pure.extract rfl rfl) (Wt.none rfl) rfl rfl ?_
    refine RunL.as rfl rfl ?_
    refine RunL.as rfl rfl ?_
    refine RunL.nil ?_
    refine Run.seq ?_
    refine Run.sr ?_
    refine RunL.mv rfl rfl ?_
    refine RunL.pure (Pure.not rfl) (Wt.none rfl) rfl rfl ?_
    refine RunL.nil ?_
    refine Run.cond rfl (fun hc2 => ?_) (fun hc2 => ?_)
    · try simp only [ZA, ZB, ZC, ZD, ZE, ZF, ZG, ZH, ZI, ZJ, ZK, ZL, ZM, ZN, ZO, ZP, ZQ, ZR] at hc2
      exfalso
      simp at hc2
    try simp only [ZA, ZB, ZC, ZD, ZE, ZF, ZG, ZH, ZI, ZJ, ZK, ZL, ZM, ZN, ZO, ZP, ZQ, ZR] at hc2
    obtain ⟨i, x, rfl, hxi, rfl, hmg⟩ := hok.has hq
    have hil := (List.getElem?_eq_some_iff.1 hxi).1
    refine Run.openSl (a := a) (n := V.length) (by first | ((repeat (first | (with_reducible exact F0 _) | apply F1)); done) | (repeat (first | exact F0 _ | apply F1))) (by omega) ?_; rintro b2 pre2 post2 rfl hsl1 hsl2 hsl3
    refine Run.skip ?_
    refine Run.sr ?_
    refine RunL.mv rfl rfl ?_
    refine RunL.pure (Pure.nilCheck rfl) (Wt.none rfl) rfl rfl ?_
    refine RunL.pure (Pure.fieldAddr rfl fo60_0) (Wt.none rfl) rfl rfl ?_
    first | refine RunL.load1 rfl (by first | ((repeat (first | (with_reducible exact F0 _) | apply F1)); done) | (repeat (first | exact F0 _ | apply F1))) (by rfl) agg53 (Wt.none rfl) rfl ?_ | refine RunL.load1R rfl (by assumption) (by rfl) agg53 (Wt.none rfl) rfl ?_
    refine RunL.mv rfl rfl ?_
    refine RunL.pure (Pure.indexAddr rfl rfl und53 sz45 (by omega) (by omega)) (Wt.none rfl) rfl rfl ?_
    refine RunL.pure (Pure.fieldAddr rfl fo45_0) (Wt.none rfl) rfl rfl ?_
    refine RunL.load1 rfl (by first | ((repeat (first | (with_reducible exact F0 _) | apply F1)); done) | (repeat (first | exact F0 _ | apply F1))) ((elem_at (f := cE) (sz := 2) (j := 0) (fun _ _ => rfl) (show V[(i : Int).toNat]? = some x from hxi) (by decide)).trans rfl) agg3 (Wt.none rfl) rfl ?_
    refine RunL.as rfl rfl ?_
    refine RunL.as rfl rfl ?_
    refine RunL.nil ?_
    refine Run.mkSl (b := b2) (pre := pre2) (post := post2) (sz := 2) (cs := (V).flatMap cE) (n := (V).length) (by first | ((repeat (first | (with_reducible exact F0 _) | apply F1)); done) | (repeat (first | exact F0 _ | apply F1))) hsl1 (by simpa using hsl2) (by simpa using hsl3) ?_
    refine Run.mkA (V) (by repeat (first | (with_reducible exact Take.nil _) | (apply Take.cons (by first | ((repeat (first | (with_reducible exact F0 _) | apply F1)); done) | (repeat (first | exact F0 _ | apply F1)))))) (by simp) ?_
    refine Run.mkH (hok) (by repeat (first | (with_reducible exact Take.nil _) | (apply Take.cons (by first | ((repeat (first | (with_reducible exact F0 _) | apply F1)); done) | (repeat (first | exact F0 _ | apply F1)))))) ?_
    exact Run.ret Try.func20 (res2 rfl rfl rfl) (by exact ⟨by rw [hmg]; rfl, rfl⟩) (by repeat (first | (with_reducible exact Fin.done (by repeat (first | (with_reducible exact Rest.here) | apply Rest.there))) | (apply Fin.cons (by first | ((repeat (first | (with_reducible exact F0 _) | apply F1)); done) | (repeat (first | exact F0 _ | apply F1))))))

set_option maxRecDepth 100000 in
theorem HFirst_ctr {G : Gp} {p : Nat} {tl : List (ByteArray × Int)} :
    Ctr Try.prog G 19 [.pointer (some ⟨p, 0, none⟩)] [Hq p tl] (fun F v A => v = .tuple #[.agg (cE (((EL tl)[0]?).getD noE)).toArray, .bool ((EL tl)[0]?).isSome] ∧ A = Hq p tl :: F) := by
  refine Ctr.intro Try.func19 rfl (by kernel_rfl) rfl (fun F => ?_)
  simp only [List.cons_append, List.nil_append]
  refine Run.openH (by first | ((repeat (first | (with_reducible exact F0 _) | apply F1)); done) | (repeat (first | exact F0 _ | apply F1))) ?_; intro V at_ hok
  refine Run.openA (by first | ((repeat (first | (with_reducible exact F0 _) | apply F1)); done) | (repeat (first | exact F0 _ | apply F1))) ?_; intro a cap r
  refine Run.sr ?_
  refine RunL.alloc zz45 (Wt.none rfl) rfl ?_; intro b2
  refine RunL.as rfl rfl ?_
  refine RunL.nil ?_
  refine Run.seq ?_
  refine Run.sr ?_
  refine RunL.mv rfl rfl ?_
  refine RunL.pure (Pure.nilCheck rfl) (Wt.none rfl) rfl rfl ?_
  refine RunL.pure (Pure.fieldAddr rfl fo60_0) (Wt.none rfl) rfl rfl ?_
  first | refine RunL.load1 rfl (by first | ((repeat (first | (with_reducible exact F0 _) | apply F1)); done) | (repeat (first | exact F0 _ | apply F1))) (by rfl) agg53 (Wt.none rfl) rfl ?_ | refine RunL.load1R rfl (by assumption) (by rfl) agg53 (Wt.none rfl) rfl ?_
  refine RunL.pure (Pure.lenSl rfl rfl und53) (Wt.none rfl) rfl rfl ?_
  refine RunL.pure (Pure.eql rfl rfl) (Wt.none rfl) rfl rfl ?_
  refine RunL.nil ?_
  refine Run.cond rfl (fun h1 => ?_) (fun h1 => ?_)
  · try simp only [ZA, ZB, ZC, ZD, ZE, ZF, ZG, ZH, ZI, ZJ, ZK, ZL, ZM, ZN, ZO, ZP, ZQ, ZR] at h1
    refine Run.sr ?_
    refine RunL.pure (Pure.buildL (ps := []) (zs := [(.int .i64 0), (.string .empty)]) (xs := (cE noE)) pl45 rfl rfl rfl rfl) (Wt.none rfl) rfl rfl ?_
    refine RunL.storeW (xs := (cE noE)) rfl rfl (by first | ((repeat (first | (with_reducible exact F0 _) | apply F1)); done) | (repeat (first | exact F0 _ | apply F1))) sz45 (by rfl) (by rfl) (by rfl) (Wt.none rfl) ?_
    refine RunL.as rfl rfl ?_
    refine RunL.nil ?_
    refine Run.mkA (V) (by repeat (first | (with_reducible exact Take.nil _) | (apply Take.cons (by first | ((repeat (first | (with_reducible exact F0 _) | apply F1)); done) | (repeat (first | exact F0 _ | apply F1)))))) (by simp) ?_
    refine Run.mkH (hok) (by repeat (first | (with_reducible exact Take.nil _) | (apply Take.cons (by first | ((repeat (first | (with_reducible exact F0 _) | apply F1)); done) | (repeat (first | exact F0 _ | apply F1)))))) ?_
    exact Run.ret Try.func19 (resV2 rfl (Rv.cellN (us := (cE noE)) rfl (by first | ((repeat (first | (with_reducible exact F0 _) | apply F1)); done) | (repeat (first | exact F0 _ | apply F1))) agg45 sz45 (by first | exact Nat.le_of_ble_eq_true rfl | (simp; done) | (simp; omega)) rfl) (Rv.tmp rfl)) (by exact ⟨by rw [List.getElem?_eq_none (by rw [EL_len, ← hok.len]; omega)]; rfl, rfl⟩) (by repeat (first | (with_reducible exact Fin.done (by repeat (first | (with_reducible exact Rest.here) | apply Rest.there))) | (apply Fin.cons (by first | ((repeat (first | (with_reducible exact F0 _) | apply F1)); done) | (repeat (first | exact F0 _ | apply F1))))))
  · try simp only [ZA, ZB, ZC, ZD, ZE, ZF, ZG, ZH, ZI, ZJ, ZK, ZL, ZM, ZN, ZO, ZP, ZQ, ZR] at h1
    obtain ⟨x, hx⟩ := get_some (xs := V) (i := 0) (by omega)
    have hh := EL_head hok.kn hok.perm hok.hp hx
    refine Run.openSl (a := a) (n := V.length) (by first | ((repeat (first | (with_reducible exact F0 _) | apply F1)); done) | (repeat (first | exact F0 _ | apply F1))) (by omega) ?_; rintro b2 pre2 post2 rfl hsl1 hsl2 hsl3
    refine Run.skip ?_
    refine Run.sr ?_
    refine RunL.mv rfl rfl ?_
    refine RunL.pure (Pure.nilCheck rfl) (Wt.none rfl) rfl rfl ?_
    refine RunL.pure (Pure.fieldAddr rfl fo60_0) (Wt.none rfl) rfl rfl ?_
    first | refine RunL.load1 rfl (by first | ((repeat (first | (with_reducible exact F0 _) | apply F1)); done) | (repeat (first | exact F0 _ | apply F1))) (by rfl) agg53 (Wt.none rfl) rfl ?_ | refine RunL.load1R rfl (by assumption) (by rfl) agg53 (Wt.none rfl) rfl ?_
    refine RunL.pure (Pure.indexAddr rfl rfl und53 sz45 (by omega) (by omega)) (Wt.none rfl) rfl rfl ?_
    refine RunL.loadA (vs := (cE x)) rfl (by first | ((repeat (first | (with_reducible exact F0 _) | apply F1)); done) | (repeat (first | exact F0 _ | apply F1))) agg45 sz45 (elemN_len (f := cE) (sz := 2) (j := 0) (n := 2) (fun _ _ => rfl) hx (by decide)) ((elemN_at (f := cE) (sz := 2) (j := 0) (n := 2) (fun _ _ => rfl) hx (by decide)).trans rfl) (Wt.none rfl) rfl ?_
    refine RunL.storeW (xs := (cE x)) rfl rfl (by first | ((repeat (first | (with_reducible exact F0 _) | apply F1)); done) | (repeat (first | exact F0 _ | apply F1))) sz45 (by rfl) (by rfl) (by rfl) (Wt.none rfl) ?_
    refine RunL.as rfl rfl ?_
    refine RunL.nil ?_
    refine Run.mkSl (b := b2) (pre := pre2) (post := post2) (sz := 2) (cs := (V).flatMap cE) (n := (V).length) (by first | ((repeat (first | (with_reducible exact F0 _) | apply F1)); done) | (repeat (first | exact F0 _ | apply F1))) hsl1 (by simpa using hsl2) (by simpa using hsl3) ?_
    refine Run.mkA (V) (by repeat (first | (with_reducible exact Take.nil _) | (apply Take.cons (by first | ((repeat (first | (with_reducible exact F0 _) | apply F1)); done) | (repeat (first | exact F0 _ | apply F1)))))) (by simp) ?_
    refine Run.mkH (hok) (by repeat (first | (with_reducible exact Take.nil _) | (apply Take.cons (by first | ((repeat (first | (with_reducible exact F0 _) | apply F1)); done) | (repeat (first | exact F0 _ | apply F1)))))) ?_
    exact Run.ret Try.func19 (resV2 rfl (Rv.cellN (us := (cE x)) rfl (by first | ((repeat (first | (with_reducible exact F0 _) | apply F1)); done) | (repeat (first | exact F0 _ | apply F1))) agg45 sz45 (by first | exact Nat.le_of_ble_eq_true rfl | (simp; done) | (simp; omega)) rfl) (Rv.tmp rfl)) (by exact ⟨by rw [hh]; rfl, rfl⟩) (by repeat (first | (with_reducible exact Fin.done (by repeat (first | (with_reducible exact Rest.here) | apply Rest.there))) | (apply Fin.cons (by first | ((repeat (first | (with_reducible exact F0 _) | apply F1)); done) | (repeat (first | exact F0 _ | apply F1))))))

set_option maxRecDepth 100000 in
theorem HClear_ctr {G : Gp} {p : Nat} {tl : List (ByteArray × Int)} :
    Ctr Try.prog G 29 [.pointer (some ⟨p, 0, none⟩)] [Hq p tl] (fun F v A => v = .tuple #[] ∧ A = Hq p [] :: F) := by
  refine Ctr.intro Try.func29 rfl (by kernel_rfl) rfl (fun F => ?_)
  simp only [List.cons_append, List.nil_append]
  refine Run.openH (by first | ((repeat (first | (with_reducible exact F0 _) | apply F1)); done) | (repeat (first | exact F0 _ | apply F1))) ?_; intro V at_ hok
  refine Run.openA (by first | ((repeat (first | (with_reducible exact F0 _) | apply F1)); done) | (repeat (first | exact F0 _ | apply F1))) ?_; intro a cap r
  refine Run.sr ?_
  refine RunL.mv rfl rfl ?_
  refine RunL.pure (Pure.nilCheck rfl) (Wt.none rfl) rfl rfl ?_
  refine RunL.pure (Pure.fieldAddr rfl fo60_1) (Wt.none rfl) rfl rfl ?_
  first | refine RunL.load1 rfl (by first | ((repeat (first | (with_reducible exact F0 _) | apply F1)); done) | (repeat (first | exact F0 _ | apply F1))) (by rfl) agg58 (Wt.none rfl) rfl ?_ | refine RunL.load1R rfl (by assumption) (by rfl) agg58 (Wt.none rfl) rfl ?_
  refine RunL.clearMap rfl rfl (by first | ((repeat (first | (with_reducible exact F0 _) | apply F1)); done) | (repeat (first | exact F0 _ | apply F1))) und58 (Wt.none rfl) ?_
  refine RunL.nil ?_
  refine Run.region ?_
  refine RunL.mv rfl rfl ?_
  refine RunL.mv rfl rfl ?_
  refine RunL.pure (Pure.nilCheck rfl) (Wt.none rfl) rfl rfl ?_
  refine RunL.pure (Pure.fieldAddr rfl fo60_0) (Wt.none rfl) rfl rfl ?_
  first | refine RunL.load1 rfl (by first | ((repeat (first | (with_reducible exact F0 _) | apply F1)); done) | (repeat (first | exact F0 _ | apply F1))) (by rfl) agg53 (Wt.none rfl) rfl ?_ | refine RunL.load1R rfl (by assumption) (by rfl) agg53 (Wt.none rfl) rfl ?_
  refine RunL.pure (Pure.sliceTo rfl rfl und53 sz45 (by first | omega | (simp; done) | (simp; omega)) (by first | omega | (simp; done) | (simp; omega))) (Wt.none rfl) rfl rfl ?_
  refine RunL.pure (Pure.nilCheck rfl) (Wt.none rfl) rfl rfl ?_
  refine RunL.pure (Pure.fieldAddr rfl fo60_0) (Wt.none rfl) rfl rfl ?_
  refine RunL.store1 rfl rfl (by first | ((repeat (first | (with_reducible exact F0 _) | apply F1)); done) | (repeat (first | exact F0 _ | apply F1))) sz53 (by rfl) (by simp) (Wt.none rfl) ?_
  try simp only [List.set_cons_zero, List.set_cons_succ]
  refine RunL.nil ?_
  refine Run.toSlF (xs := V) (f := cE) 0 (fun _ _ => rfl) (by first | ((repeat (first | (with_reducible exact F0 _) | apply F1)); done) | (repeat (first | exact F0 _ | apply F1))) (by omega) ?_
  refine Run.mkA (at_ := []) ([]) (by repeat (first | (with_reducible exact Take.nil _) | (apply Take.cons (by first | ((repeat (first | (with_reducible exact F0 _) | apply F1)); done) | (repeat (first | exact F0 _ | apply F1)))))) (by simp) ?_
  refine Run.mkH (HqOk.empty) (by repeat (first | (with_reducible exact Take.nil _) | (apply Take.cons (by first | ((repeat (first | (with_reducible exact F0 _) | apply F1)); done) | (repeat (first | exact F0 _ | apply F1)))))) ?_
  exact Run.fin Try.func29 (res0 rfl) (by exact ⟨rfl, rfl⟩) (by repeat (first | (with_reducible exact Fin.done (by repeat (first | (with_reducible exact Rest.here) | apply Rest.there))) | (apply Fin.cons (by first | ((repeat (first | (with_reducible exact F0 _) | apply F1)); done) | (repeat (first | exact F0 _ | apply F1))))))

set_option maxHeartbeats 4000000 in
set_option maxRecDepth 100000 in
theorem HDue_ctr {G : Gp} {p : Nat} {tl : List (ByteArray × Int)} {t : Int} (hn : KN tl) (hb : tl.length ≤ 1000) :
    Ctr Try.prog G 12 [.pointer (some ⟨p, 0, none⟩), .int .i64 t] [Hq p tl] (fun F v A => ∃ ao co, v = .slice ao (dueK tl t).length co ∧ A = Hq p (afterT tl t) :: Sl 9 1 ao (dueK tl t).length co ((dueK tl t).map Value.string) :: F) := by
  refine Ctr.intro Try.func12 rfl (by kernel_rfl) rfl (fun F => ?_)
  simp only [List.cons_append, List.nil_append]
  refine Run.nilSl 9 1 ?_
  refine Run.sr ?_
  refine RunL.as rfl rfl ?_
  refine RunL.nil ?_
  refine Run.sr ?_
  refine RunL.as rfl rfl ?_
  refine RunL.nil ?_
  refine Run.seq ?_
  refine Run.block ?_
  refine Run.keep (.cons rfl (.cons rfl (.cons rfl (.nil))) : Keep _ [0, 1, 5] _) ?_
  refine Run.loopF (F := F) (fun n e A => ∃ (j : Nat) (tl' : List (ByteArray × Int)) (os : List ByteArray) (ao : Option Addr) (co : Nat), j ≤ (EL tl).length ∧ KN tl' ∧ EL tl' = (EL tl).drop j ∧ os = ((EL tl).take j).map E.key ∧ (∀ i x, i < j → (EL tl)[i]? = some x → overT t x = true) ∧ n = (EL tl).length - j ∧ e = [(0, .pointer (some ⟨p, 0, none⟩)), (1, .int .i64 t), (5, .slice ao os.length co)] ∧ A = Hq p tl' :: Sl 9 1 ao os.length co (os.map Value.string) :: F) ((EL tl).length) (by exact ⟨0, tl, [], none, 0, by omega, hn, rfl, rfl, fun i x hi => by omega, rfl, rfl, rfl⟩) (by repeat (first | (with_reducible exact Fin.done (by repeat (first | (with_reducible exact Rest.here) | apply Rest.there))) | (apply Fin.cons (by first | ((repeat (first | (with_reducible exact F0 _) | apply F1)); done) | (repeat (first | exact F0 _ | apply F1)))))) ?_
  rintro n _ _ ⟨j, tl', os, ao, co, hj, hn', hel, hos, hpre, rfl, rfl, hA_⟩ ih
  replace hA_ := hA_.symm; subst hA_
  have hEl := EL_len tl
  have hlj : tl'.length = (EL tl).length - j := by rw [← EL_len tl', hel, List.length_drop]
  have hol : os.length = j := by rw [hos]; simp; omega
  refine Run.openH (by first | ((repeat (first | (with_reducible exact F0 _) | apply F1)); done) | (repeat (first | exact F0 _ | apply F1))) ?_; intro V at_ hok
  have hV := hok.len
  refine Run.openA (by first | ((repeat (first | (with_reducible exact F0 _) | apply F1)); done) | (repeat (first | exact F0 _ | apply F1))) ?_; intro a cap r
  refine Run.seq ?_
  refine Run.sr ?_
  refine RunL.mv rfl rfl ?_
  refine RunL.pure (Pure.nilCheck rfl) (Wt.none rfl) rfl rfl ?_
  refine RunL.pure (Pure.fieldAddr rfl fo60_0) (Wt.none rfl) rfl rfl ?_
  first | refine RunL.load1 rfl (by first | ((repeat (first | (with_reducible exact F0 _) | apply F1)); done) | (repeat (first | exact F0 _ | apply F1))) (by rfl) agg53 (Wt.none rfl) rfl ?_ | refine RunL.load1R rfl (by assumption) (by rfl) agg53 (Wt.none rfl) rfl ?_
  refine RunL.pure (Pure.lenSl rfl rfl und53) (Wt.none rfl) rfl rfl ?_
  refine RunL.pure (Pure.gtr rfl rfl) (Wt.none rfl) rfl rfl ?_
  refine RunL.mv rfl rfl ?_
  refine RunL.split (d := 12) rfl (fun h1 => ?_) (fun h1 => ?_)
  · try simp only [ZA, ZB, ZC, ZD, ZE, ZF, ZG, ZH, ZI, ZJ, ZK, ZL, ZM, ZN, ZO, ZP, ZQ, ZR] at h1
    obtain ⟨x, hx⟩ := get_some (xs := V) (i := 0) (by omega)
    have hh := EL_head hok.kn hok.perm hok.hp hx
    have hxj : (EL tl)[j]? = some x := by rw [hel, List.getElem?_drop] at hh; exact hh
    refine RunL.openSl (a := a) (n := V.length) (by first | ((repeat (first | (with_reducible exact F0 _) | apply F1)); done) | (repeat (first | exact F0 _ | apply F1))) (by omega) ?_; rintro b2 pre2 post2 rfl hsl1 hsl2 hsl3
    refine RunL.pure (Pure.move rfl) (Wt.yes rfl rfl rfl) rfl rfl ?_
    refine RunL.pure (Pure.nilCheck rfl) (Wt.yes rfl rfl rfl) rfl rfl ?_
    refine RunL.pure (Pure.fieldAddr rfl fo60_0) (Wt.yes rfl rfl rfl) rfl rfl ?_
    first | refine RunL.load1 rfl (by first | ((repeat (first | (with_reducible exact F0 _) | apply F1)); done) | (repeat (first | exact F0 _ | apply F1))) (by rfl) agg53 (Wt.yes rfl rfl rfl) rfl ?_ | refine RunL.load1R rfl (by assumption) (by rfl) agg53 (Wt.yes rfl rfl rfl) rfl ?_
    refine RunL.pure (Pure.indexAddr rfl rfl und53 sz45 (by omega) (by omega)) (Wt.yes rfl rfl rfl) rfl rfl ?_
    refine RunL.pure (Pure.fieldAddr rfl fo45_0) (Wt.yes rfl rfl rfl) rfl rfl ?_
    refine RunL.load1 rfl (by first | ((repeat (first | (with_reducible exact F0 _) | apply F1)); done) | (repeat (first | exact F0 _ | apply F1))) ((elem_at (f := cE) (sz := 2) (j := 0) (fun _ _ => rfl) (show V[(0 : Int).toNat]? = some x from hx) (by decide)).trans rfl) agg3 (Wt.yes rfl rfl rfl) rfl ?_
    refine RunL.pure (Pure.move rfl) (Wt.yes rfl rfl rfl) rfl rfl ?_
    refine RunL.pure (Pure.leq rfl rfl) (Wt.yes rfl rfl rfl) rfl rfl ?_
    refine RunL.pure (Pure.pickT rfl rfl) (Wt.none rfl) rfl rfl ?_
    refine RunL.nil ?_
    refine Run.cond rfl (fun h2 => ?_) (fun h2 => ?_)
    · try simp only [ZA, ZB, ZC, ZD, ZE, ZF, ZG, ZH, ZI, ZJ, ZK, ZL, ZM, ZN, ZO, ZP, ZQ, ZR] at h2
      refine Run.skip ?_
      refine Run.block ?_
      refine Run.sr ?_
      refine RunL.mv rfl rfl ?_
      refine RunL.mv rfl rfl ?_
      refine RunL.pure (Pure.nilCheck rfl) (Wt.none rfl) rfl rfl ?_
      refine RunL.pure (Pure.fieldAddr rfl fo60_0) (Wt.none rfl) rfl rfl ?_
      first | refine RunL.load1 rfl (by first | ((repeat (first | (with_reducible exact F0 _) | apply F1)); done) | (repeat (first | exact F0 _ | apply F1))) (by rfl) agg53 (Wt.none rfl) rfl ?_ | refine RunL.load1R rfl (by assumption) (by rfl) agg53 (Wt.none rfl) rfl ?_
      refine RunL.pure (Pure.indexAddr rfl rfl und53 sz45 (by omega) (by omega)) (Wt.none rfl) rfl rfl ?_
      refine RunL.pure (Pure.fieldAddr rfl fo45_1) (Wt.none rfl) rfl rfl ?_
      refine RunL.load1 rfl (by first | ((repeat (first | (with_reducible exact F0 _) | apply F1)); done) | (repeat (first | exact F0 _ | apply F1))) ((elem_at (f := cE) (sz := 2) (j := 1) (fun _ _ => rfl) (show V[(0 : Int).toNat]? = some x from hx) (by decide)).trans rfl) agg9 (Wt.none rfl) rfl ?_
      refine RunL.lit (vals := [_]) (vs := ([x.key] : List ByteArray).map Value.string) und34 sz9 zz9 rfl rfl rfl rfl rfl rfl (by simp [Value.cells, bv, cE, cOO]) rfl (Wt.none rfl) rfl ?_; intro b31
      refine RunL.append (m := 1) (n' := (os ++ [x.key]).length) (cs' := (os ++ [x.key]).map Value.string) rfl rfl (by first | ((repeat (first | (with_reducible exact F0 _) | apply F1)); done) | (repeat (first | exact F0 _ | apply F1))) rfl rfl und34 und34 rfl sz9 zz9 rfl by9 (by omega) (by omega) (fun w sw => sw.src) (by simp [Value.isOne]) (by simp) (by simp) (Wt.none rfl) rfl ?_; intro a1 c1
      refine RunL.as rfl rfl ?_
      refine RunL.nil ?_
      refine Run.region ?_
      refine RunL.mv rfl rfl ?_
      refine RunL.mv rfl rfl ?_
      refine RunL.pure (Pure.nilCheck rfl) (Wt.none rfl) rfl rfl ?_
      refine RunL.pure (Pure.fieldAddr rfl fo60_0) (Wt.none rfl) rfl rfl ?_
      first | refine RunL.load1 rfl (by first | ((repeat (first | (with_reducible exact F0 _) | apply F1)); done) | (repeat (first | exact F0 _ | apply F1))) (by rfl) agg53 (Wt.none rfl) rfl ?_ | refine RunL.load1R rfl (by assumption) (by rfl) agg53 (Wt.none rfl) rfl ?_
      refine RunL.pure (Pure.indexAddr rfl rfl und53 sz45 (by omega) (by omega)) (Wt.none rfl) rfl rfl ?_
      refine RunL.pure (Pure.fieldAddr rfl fo45_1) (Wt.none rfl) rfl rfl ?_
      refine RunL.load1 rfl (by first | ((repeat (first | (with_reducible exact F0 _) | apply F1)); done) | (repeat (first | exact F0 _ | apply F1))) ((elem_at (f := cE) (sz := 2) (j := 1) (fun _ _ => rfl) (show V[(0 : Int).toNat]? = some x from hx) (by decide)).trans rfl) agg9 (Wt.none rfl) rfl ?_
      refine RunL.mkSl (b := b2) (pre := pre2) (post := post2) (sz := 2) (cs := (V).flatMap cE) (n := (V).length) (by first | ((repeat (first | (with_reducible exact F0 _) | apply F1)); done) | (repeat (first | exact F0 _ | apply F1))) hsl1 (by simpa using hsl2) (by simpa using hsl3) ?_
      refine RunL.mkA (V) (by repeat (first | (with_reducible exact Take.nil _) | (apply Take.cons (by first | ((repeat (first | (with_reducible exact F0 _) | apply F1)); done) | (repeat (first | exact F0 _ | apply F1)))))) (by simp) ?_
      refine RunL.mkH (hok) (by repeat (first | (with_reducible exact Take.nil _) | (apply Take.cons (by first | ((repeat (first | (with_reducible exact F0 _) | apply F1)); done) | (repeat (first | exact F0 _ | apply F1)))))) ?_
      refine RunL.call rfl rfl (by rfl) (by repeat (first | (with_reducible exact Take.nil _) | (apply Take.cons (by first | ((repeat (first | (with_reducible exact F0 _) | apply F1)); done) | (repeat (first | exact F0 _ | apply F1)))))) (Drop_ctr (by omega)) (Wt.none rfl) rfl ?_
      rintro _ _ ⟨rfl, hA_⟩
      replace hA_ := hA_.symm; subst hA_
      refine RunL.nil ?_
      refine Run.inBlock ?_
      refine Run.keep (.cons rfl (.cons rfl (.cons rfl (.nil))) : Keep _ [0, 1, 5] _) ?_
      refine Run.againF (F := F) ih (by exact ⟨j + 1, mdel x.key tl', os ++ [x.key], _, _, by omega, hn'.mdel, by rw [← EL_del hn' hh, hel]; simp, by rw [hos, List.take_add_one, hxj]; simp, lt_succ_of hpre hxj (by simp [overT]; omega), rfl, rfl, rfl⟩) (by repeat (first | (with_reducible exact Fin.done (by repeat (first | (with_reducible exact Rest.here) | apply Rest.there))) | (apply Fin.cons (by first | ((repeat (first | (with_reducible exact F0 _) | apply F1)); done) | (repeat (first | exact F0 _ | apply F1)))))) ?_
      omega
    · try simp only [ZA, ZB, ZC, ZD, ZE, ZF, ZG, ZH, ZI, ZJ, ZK, ZL, ZM, ZN, ZO, ZP, ZQ, ZR] at h2
      obtain ⟨e1, e2⟩ := takeWhile_eq hpre (fun y hy => by rw [hxj] at hy; cases hy; simp [overT]; omega) hj
      have e3 : dueK tl t = os := by unfold dueK; rw [e1, hos]
      have e4 : tl'.Perm (afterT tl t) := EL_inj (by rw [afterT_EL hn, e2, hel])
      refine Run.exit rfl ?_
      refine Run.sr ?_
      refine RunL.mv rfl rfl ?_
      refine RunL.as rfl rfl ?_
      refine RunL.nil ?_
      refine Run.mkSl (b := b2) (pre := pre2) (post := post2) (sz := 2) (cs := (V).flatMap cE) (n := (V).length) (by first | ((repeat (first | (with_reducible exact F0 _) | apply F1)); done) | (repeat (first | exact F0 _ | apply F1))) hsl1 (by simpa using hsl2) (by simpa using hsl3) ?_
      refine Run.mkA (V) (by repeat (first | (with_reducible exact Take.nil _) | (apply Take.cons (by first | ((repeat (first | (with_reducible exact F0 _) | apply F1)); done) | (repeat (first | exact F0 _ | apply F1)))))) (by simp) ?_
      refine Run.mkH (hok.perm' e4) (by repeat (first | (with_reducible exact Take.nil _) | (apply Take.cons (by first | ((repeat (first | (with_reducible exact F0 _) | apply F1)); done) | (repeat (first | exact F0 _ | apply F1)))))) ?_
      exact Run.ret Try.func12 (res1 rfl rfl) (by exact ⟨_, _, by rw [e3], by rw [e3]⟩) (by repeat (first | (with_reducible exact Fin.done (by repeat (first | (with_reducible exact Rest.here) | apply Rest.there))) | (apply Fin.cons (by first | ((repeat (first | (with_reducible exact F0 _) | apply F1)); done) | (repeat (first | exact F0 _ | apply F1))))))
  · try simp only [ZA, ZB, ZC, ZD, ZE, ZF, ZG, ZH, ZI, ZJ, ZK, ZL, ZM, ZN, ZO, ZP, ZQ, ZR] at h1
    obtain ⟨e1, e2⟩ := takeWhile_eq hpre (fun y hy => by have := (List.getElem?_eq_some_iff.1 hy).1; omega) hj
    have e3 : dueK tl t = os := by unfold dueK; rw [e1, hos]
    have e4 : tl'.Perm (afterT tl t) := EL_inj (by rw [afterT_EL hn, e2, hel])
    refine RunL.not (Wt.no rfl rfl rfl) rfl rfl ?_
    refine RunL.not (Wt.no rfl rfl rfl) rfl rfl ?_
    refine RunL.not (Wt.no rfl rfl rfl) rfl rfl ?_
    refine RunL.not (Wt.no rfl rfl rfl) rfl rfl ?_
    refine RunL.not (Wt.no rfl rfl rfl) rfl rfl ?_
    refine RunL.not (Wt.no rfl rfl rfl) rfl rfl ?_
    refine RunL.not (Wt.no rfl rfl rfl) rfl rfl ?_
    refine RunL.not (Wt.no rfl rfl rfl) rfl rfl ?_
    refine RunL.not (Wt.no rfl rfl rfl) rfl rfl ?_
    refine RunL.pure (Pure.pickF rfl rfl) (Wt.none rfl) rfl rfl ?_
    refine RunL.nil ?_
    refine Run.condF rfl ?_
    refine Run.exit rfl ?_
    refine Run.sr ?_
    refine RunL.mv rfl rfl ?_
    refine RunL.as rfl rfl ?_
    refine RunL.nil ?_
    refine Run.mkA (V) (by repeat (first | (with_reducible exact Take.nil _) | (apply Take.cons (by first | ((repeat (first | (with_reducible exact F0 _) | apply F1)); done) | (repeat (first | exact F0 _ | apply F1)))))) (by simp) ?_
    refine Run.mkH (hok.perm' e4) (by repeat (first | (with_reducible exact Take.nil _) | (apply Take.cons (by first | ((repeat (first | (with_reducible exact F0 _) | apply F1)); done) | (repeat (first | exact F0 _ | apply F1)))))) ?_
    exact Run.ret Try.func12 (res1 rfl rfl) (by exact ⟨_, _, by rw [e3], by rw [e3]⟩) (by repeat (first | (with_reducible exact Fin.done (by repeat (first | (with_reducible exact Rest.here) | apply Rest.there))) | (apply Fin.cons (by first | ((repeat (first | (with_reducible exact F0 _) | apply F1)); done) | (repeat (first | exact F0 _ | apply F1))))))

end Go.Proofs.Ytppamndllgojnaa
