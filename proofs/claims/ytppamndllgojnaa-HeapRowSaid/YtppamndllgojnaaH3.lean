/- Heaps: what is ahead, an entry laid. -/
import Derived.Test.YtppamndllgojnaaH2
set_option linter.unusedVariables false
set_option linter.unusedSimpArgs false
set_option linter.unusedSectionVars false
namespace Go.Proofs.Ytppamndllgojnaa
open Go Csl
theorem cb39 : Callable Try.prog 39 := ⟨_, Try.func39, by kernel_rfl, by kernel_rfl⟩
theorem fo45_0 : fieldOff Try.prog 45 0 = some 0 := by kernel_rfl
theorem fo45_1 : fieldOff Try.prog 45 1 = some 1 := by kernel_rfl
theorem zz3 : zeroIs Try.prog 3 = some (.int .i64 0) := by kernel_rfl
theorem fo60_0 : fieldOff Try.prog 60 0 = some 0 := by kernel_rfl
theorem agg53 : isAggOf Try.prog 53 = some false := by kernel_rfl
theorem und53 : Try.prog.underlying 53 = some (Go.TypeDesc.slice 45) := Try.underlying53
theorem fo60_1 : fieldOff Try.prog 60 1 = some 1 := by kernel_rfl
theorem agg58 : isAggOf Try.prog 58 = some false := by kernel_rfl
theorem und58 : Try.prog.underlying 58 = some (Go.TypeDesc.map 9 3) := Try.underlying58

namespace Csl
def HqA (p : Nat) (l : List E) (at_ : List (ByteArray × Int)) : HProp := Ex (fun _ : Option Addr × Nat × Nat => True) (fun x => [row p 60 [.slice x.1 l.length x.2.1, .map (some x.2.2)], Sl 45 2 x.1 l.length x.2.1 (l.flatMap cE), Mp x.2.2 (menc Value.string (Value.int .i64) at_)])
def Hq (p : Nat) (tl : List (ByteArray × Int)) : HProp := Ex (fun x : List E × List (ByteArray × Int) => HqOk x.1 x.2 tl) (fun x => [HqA p x.1 x.2])
section
variable {c : Cx} {G : Gp} {ops : Array Oper} {kk : KT} {e : Env} {A A' : List HProp} {lo : List Oper} {st : List Item} {p r n cap : Nat} {a : Option Addr} {l : List E} {at_ tl : List (ByteArray × Int)}
theorem Run.openA (hf : Find (HqA p l at_) A A') (next : ∀ a cap r, Run c G st e (row p 60 [.slice a l.length cap, .map (some r)] :: Sl 45 2 a l.length cap (l.flatMap cE) :: Mp r (menc Value.string (Value.int .i64) at_) :: A')) : Run c G st e A := Run.openEx hf fun x _ => next x.1 x.2.1 x.2.2
theorem RunL.openA (hf : Find (HqA p l at_) A A') (next : ∀ a cap r, RunL c G ops lo kk e (row p 60 [.slice a l.length cap, .map (some r)] :: Sl 45 2 a l.length cap (l.flatMap cE) :: Mp r (menc Value.string (Value.int .i64) at_) :: A')) : RunL c G ops lo kk e A := RunL.openEx hf fun x _ => next x.1 x.2.1 x.2.2
theorem Run.mkA (l : List E) (ht : Take [row p 60 [.slice a n cap, .map (some r)], Sl 45 2 a l.length cap (l.flatMap cE), Mp r (menc Value.string (Value.int .i64) at_)] A A') (hn : n = l.length) (next : Run c G st e (HqA p l at_ :: A')) : Run c G st e A := Run.mkEx (a, cap, r) (by subst hn; exact ht) trivial next
theorem RunL.mkA (l : List E) (ht : Take [row p 60 [.slice a n cap, .map (some r)], Sl 45 2 a l.length cap (l.flatMap cE), Mp r (menc Value.string (Value.int .i64) at_)] A A') (hn : n = l.length) (next : RunL c G ops lo kk e (HqA p l at_ :: A')) : RunL c G ops lo kk e A := RunL.mkEx (a, cap, r) (by subst hn; exact ht) trivial next
theorem Run.openH (hf : Find (Hq p tl) A A') (next : ∀ V at_, HqOk V at_ tl → Run c G st e (HqA p V at_ :: A')) : Run c G st e A := Run.openEx hf fun x h => next x.1 x.2 h
theorem RunL.openH (hf : Find (Hq p tl) A A') (next : ∀ V at_, HqOk V at_ tl → RunL c G ops lo kk e (HqA p V at_ :: A')) : RunL c G ops lo kk e A := RunL.openEx hf fun x h => next x.1 x.2 h
theorem Run.mkH {V : List E} (h : HqOk V at_ tl) (ht : Take [HqA p V at_] A A') (next : Run c G st e (Hq p tl :: A')) : Run c G st e A := Run.mkEx (V, at_) ht h next
theorem RunL.mkH {V : List E} (h : HqOk V at_ tl) (ht : Take [HqA p V at_] A A') (next : RunL c G ops lo kk e (Hq p tl :: A')) : RunL c G ops lo kk e A := RunL.mkEx (V, at_) ht h next
end
end Csl

set_option maxRecDepth 100000 in
theorem ahead_ctr {G : Gp} {x y : E} :
    Ctr Try.prog G 35 [.agg (cE x).toArray, .agg (cE y).toArray] [] (fun F v A => v = .int .i64 (cmpE x y) ∧ A = F) := by
  refine Ctr.intro Try.func35 rfl (by kernel_rfl) rfl (fun F => ?_)
  simp only [List.nil_append]
  refine Run.sr ?_
  refine RunL.boxA (xs := (cE x)) rfl (Wt.none rfl) rfl ?_; intro b2
  refine RunL.boxA (xs := (cE y)) rfl (Wt.none rfl) rfl ?_; intro b3
  refine RunL.as rfl rfl ?_
  refine RunL.nil ?_
  refine Run.lendAll (Q := row b2 45 _) Lends.row (by first | ((repeat (first | (with_reducible exact F0 _) | apply F1)); done) | (repeat (first | exact F0 _ | apply F1))) (fun G2 hleG2 hrb2 => ?_)
  refine Run.lendAll (Q := row b3 45 _) Lends.row (by first | ((repeat (first | (with_reducible exact F0 _) | apply F1)); done) | (repeat (first | exact F0 _ | apply F1))) (fun G3 hleG3 hrb3 => ?_)
  replace hrb2 := hrb2.mono hleG3
  refine Run.seq ?_
  refine Run.regionD' (by kernel_rfl) (by kernel_rfl) (fun hok9 => ?_)
  refine RunD.pure (i := 0) hok9 rfl (by kernel_rfl) (Pure.fieldAddr rfl fo45_0) (Wt.none rfl) rfl rfl ?_
  refine RunD.load1R (i := 1) hok9 rfl (by kernel_rfl) rfl (by assumption) (by rfl) agg3 (Wt.none rfl) rfl ?_
  refine RunD.pure (i := 2) hok9 rfl (by kernel_rfl) (Pure.fieldAddr rfl fo45_0) (Wt.none rfl) rfl rfl ?_
  refine RunD.load1R (i := 3) hok9 rfl (by kernel_rfl) rfl (by assumption) (by rfl) agg3 (Wt.none rfl) rfl ?_
  refine RunD.pure (i := 5) hok9 rfl (by kernel_rfl) (Pure.fieldAddr rfl fo45_1) (Wt.none rfl) rfl rfl ?_
  refine RunD.load1R (i := 6) hok9 rfl (by kernel_rfl) rfl (by assumption) (by rfl) agg9 (Wt.none rfl) rfl ?_
  refine RunD.pure (i := 7) hok9 rfl (by kernel_rfl) (Pure.fieldAddr rfl fo45_1) (Wt.none rfl) rfl rfl ?_
  refine RunD.load1R (i := 8) hok9 rfl (by kernel_rfl) rfl (by assumption) (by rfl) agg9 (Wt.none rfl) rfl ?_
  refine RunD.one (i := 4) (by kernel_rfl) rfl ?_
  refine RunL.call rfl rfl (by rfl) (by repeat (first | (with_reducible exact Take.nil _) | (apply Take.cons (by first | ((repeat (first | (with_reducible exact F0 _) | apply F1)); done) | (repeat (first | exact F0 _ | apply F1)))))) (cmpI_ctr) (Wt.none rfl) rfl ?_
  rintro _ _ ⟨rfl, hA_⟩
  replace hA_ := hA_.symm; subst hA_
  refine RunL.nilD' ?_
  refine RunD.one (i := 9) (by kernel_rfl) rfl ?_
  refine RunL.call rfl rfl (by rfl) (by repeat (first | (with_reducible exact Take.nil _) | (apply Take.cons (by first | ((repeat (first | (with_reducible exact F0 _) | apply F1)); done) | (repeat (first | exact F0 _ | apply F1)))))) (cmpS_ctr) (Wt.none rfl) rfl ?_
  rintro _ _ ⟨rfl, hA_⟩
  replace hA_ := hA_.symm; subst hA_
  refine RunL.nilD' ?_
  refine RunD.one (i := 10) (by kernel_rfl) rfl ?_
  refine RunL.lit (vals := [_, _]) (vs := [_, _]) und23 sz3 zz3 rfl rfl rfl rfl rfl rfl (by simp [Value.cells, bv, cE, cOO]) rfl (Wt.none rfl) rfl ?_; intro b15
  refine RunL.nilD' ?_
  refine RunD.one (i := 11) (by kernel_rfl) rfl ?_
  refine RunL.call rfl rfl (by rfl) (by repeat (first | (with_reducible exact Take.nil _) | (apply Take.cons (by first | ((repeat (first | (with_reducible exact F0 _) | apply F1)); done) | (repeat (first | exact F0 _ | apply F1)))))) (Ctr.lend (R := fun G => SlR G 3 1 _ _ _ ∧ _ ≤ _) Lends.Sl cb39 (fun G' hle hr => Or_ctr (zs := [cmpI x.tick y.tick, cmpS x.key y.key]) hr.1 (by simp))) (Wt.none rfl) rfl ?_
  rintro _ _ ⟨_, rfl, rfl, hA_⟩
  replace hA_ := hA_.symm; subst hA_
  refine RunL.nilD' ?_
  refine RunD.pure (i := 12) hok9 rfl (by kernel_rfl) (Pure.assign rfl) (Wt.none rfl) rfl rfl ?_
  refine RunD.nilR (by kernel_rfl) ?_
  exact Run.ret Try.func35 (res1 rfl rfl) (by exact ⟨by simp only [orL, orI_zero]; rfl, rfl⟩) (by repeat (first | (with_reducible exact Fin.done (by repeat (first | (with_reducible exact Rest.here) | apply Rest.there))) | (apply Fin.cons (by first | ((repeat (first | (with_reducible exact F0 _) | apply F1)); done) | (repeat (first | exact F0 _ | apply F1))))))

set_option maxRecDepth 100000 in
theorem set_ctr {G : Gp} {p : Nat} {l : List E} {at_ : List (ByteArray × Int)} {i : Nat} {en : E} (hi : i < l.length) (hb : l.length ≤ 1000000) :
    Ctr Try.prog G 31 [.pointer (some ⟨p, 0, none⟩), .int .i64 (i : Nat), .agg (cE en).toArray] [HqA p l at_] (fun F v A => v = .tuple #[] ∧ A = HqA p (l.set i en) (mput en.key (i : Int) at_) :: F) := by
  refine Ctr.intro Try.func31 rfl (by kernel_rfl) rfl (fun F => ?_)
  simp only [List.cons_append, List.nil_append]
  refine Run.sr ?_
  refine RunL.boxA (xs := (cE en)) rfl (Wt.none rfl) rfl ?_; intro b5
  refine RunL.nil ?_
  refine Run.lendAll (Q := row b5 45 _) Lends.row (by first | ((repeat (first | (with_reducible exact F0 _) | apply F1)); done) | (repeat (first | exact F0 _ | apply F1))) (fun G5 hleG5 hrb5 => ?_)
  obtain ⟨x, hx⟩ := get_some hi
  refine Run.openA (by first | ((repeat (first | (with_reducible exact F0 _) | apply F1)); done) | (repeat (first | exact F0 _ | apply F1))) ?_; intro a cap r
  refine Run.openSl (a := a) (n := (l).length) (by first | ((repeat (first | (with_reducible exact F0 _) | apply F1)); done) | (repeat (first | exact F0 _ | apply F1))) (by omega) ?_; rintro b2 pre2 post2 rfl hsl1 hsl2 hsl3
  refine Run.seq ?_
  refine Run.regionD' (by kernel_rfl) (by kernel_rfl) (fun hok8 => ?_)
  refine RunD.lend (Q := row p 60 _) Lends.row (by first | ((repeat (first | (with_reducible exact F0 _) | apply F1)); done) | (repeat (first | exact F0 _ | apply F1))) ?_; intro g1 hleg1 hg1 backg1
  have hrb5_g1 := hrb5.mono hleg1
  refine RunD.pure (i := 0) hok8 rfl (by kernel_rfl) (Pure.move rfl) (Wt.none rfl) rfl rfl ?_
  refine RunD.pure (i := 1) hok8 rfl (by kernel_rfl) (Pure.nilCheck rfl) (Wt.none rfl) rfl rfl ?_
  refine RunD.pure (i := 2) hok8 rfl (by kernel_rfl) (Pure.fieldAddr rfl fo60_0) (Wt.none rfl) rfl rfl ?_
  refine RunD.load1R (i := 3) hok8 rfl (by kernel_rfl) rfl (by assumption) (by rfl) agg53 (Wt.none rfl) rfl ?_
  refine RunD.pure (i := 4) hok8 rfl (by kernel_rfl) (Pure.move rfl) (Wt.none rfl) rfl rfl ?_
  refine RunD.loadNR (vs := (cE en)) (i := 5) hok8 rfl (by kernel_rfl) rfl (by assumption) agg45 sz45 (by first | exact Nat.le_of_ble_eq_true rfl | (simp; done) | (simp; omega)) rfl (Wt.none rfl) rfl ?_
  refine RunD.pure (i := 6) hok8 rfl (by kernel_rfl) (Pure.indexAddr rfl rfl und53 sz45 (by omega) (by omega)) (Wt.none rfl) rfl rfl ?_
  refine RunD.one (i := 7) (by kernel_rfl) rfl ?_
  refine RunL.storeA (xs := (cE en)) rfl rfl (by first | ((repeat (first | (with_reducible exact F0 _) | apply F1)); done) | (repeat (first | exact F0 _ | apply F1))) sz45 (by rfl) (by rfl) (elemN_len (f := cE) (sz := 2) (j := 0) (n := 2) (fun _ _ => rfl) hx (by decide)) (setRange_el (f := cE) (sz := 2) (j := 0) (y := en) (fun _ _ => rfl) hx (Nat.le_of_ble_eq_true rfl) rfl) (Wt.none rfl) ?_
  refine RunL.nilD' ?_
  refine RunD.nilB (by kernel_rfl) (fun w sw => backg1 _ _ (sw)) ?_
  refine Run.mkSl (b := b2) (pre := pre2) (post := post2) (sz := 2) (cs := ((l.set i en)).flatMap cE) (n := ((l.set i en)).length) (by first | ((repeat (first | (with_reducible exact F0 _) | apply F1)); done) | (repeat (first | exact F0 _ | apply F1))) (flatMap_length (fun _ _ => rfl)) (by simpa using hsl2) (by simpa using hsl3) ?_
  refine Run.regionD' (by kernel_rfl) (by kernel_rfl) (fun hok23 => ?_)
  refine RunD.lend (Q := row p 60 _) Lends.row (by first | ((repeat (first | (with_reducible exact F0 _) | apply F1)); done) | (repeat (first | exact F0 _ | apply F1))) ?_; intro g1 hleg1 hg1 backg1
  have hrb5_g1 := hrb5.mono hleg1
  refine RunD.pure (i := 0) hok23 rfl (by kernel_rfl) (Pure.move rfl) (Wt.none rfl) rfl rfl ?_
  refine RunD.pure (i := 1) hok23 rfl (by kernel_rfl) (Pure.nilCheck rfl) (Wt.none rfl) rfl rfl ?_
  refine RunD.pure (i := 2) hok23 rfl (by kernel_rfl) (Pure.fieldAddr rfl fo60_1) (Wt.none rfl) rfl rfl ?_
  refine RunD.load1R (i := 3) hok23 rfl (by kernel_rfl) rfl (by assumption) (by rfl) agg58 (Wt.none rfl) rfl ?_
  refine RunD.pure (i := 4) hok23 rfl (by kernel_rfl) (Pure.fieldAddr rfl fo45_1) (Wt.none rfl) rfl rfl ?_
  refine RunD.load1R (i := 5) hok23 rfl (by kernel_rfl) rfl (by assumption) (by rfl) agg9 (Wt.none rfl) rfl ?_
  refine RunD.pure (i := 6) hok23 rfl (by kernel_rfl) (Pure.move rfl) (Wt.none rfl) rfl rfl ?_
  refine RunD.one (i := 7) (by kernel_rfl) rfl ?_
  refine RunL.mapUpdate (k := en.key) (v := (i : Int)) (ev := (Value.int .i64)) rfl rfl rfl (by first | ((repeat (first | (with_reducible exact F0 _) | apply F1)); done) | (repeat (first | exact F0 _ | apply F1))) und58 (KeyT.string und9) (Wt.none rfl) ?_
  refine RunL.nilD' ?_
  refine RunD.nilB (by kernel_rfl) (fun w sw => backg1 _ _ (sw)) ?_
  refine Run.mkA (l.set i en) (by repeat (first | (with_reducible exact Take.nil _) | (apply Take.cons (by first | ((repeat (first | (with_reducible exact F0 _) | apply F1)); done) | (repeat (first | exact F0 _ | apply F1)))))) (by simp) ?_
  exact Run.fin Try.func31 (res0 rfl) (by exact ⟨rfl, rfl⟩) (by repeat (first | (with_reducible exact Fin.done (by repeat (first | (with_reducible exact Rest.here) | apply Rest.there))) | (apply Fin.cons (by first | ((repeat (first | (with_reducible exact F0 _) | apply F1)); done) | (repeat (first | exact F0 _ | apply F1))))))

end Go.Proofs.Ytppamndllgojnaa
