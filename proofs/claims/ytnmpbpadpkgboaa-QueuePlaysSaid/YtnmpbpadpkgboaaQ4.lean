/- All of them. -/
import Derived.Test.YtnmpbpadpkgboaaQ3
set_option linter.unusedVariables false
set_option linter.unusedSimpArgs false
set_option linter.unusedSectionVars false
namespace Go.Proofs.Ytnmpbpadpkgboaa
open Go Csl


set_option maxHeartbeats 4000000 in
set_option maxRecDepth 100000 in
theorem All_ctr {G : Gp} {p : Nat} {most lost : Int} {ks : List Key} {m : List (Key × Edu)} {l : List Edu} (hl : l.length = ks.length) (hm : ∀ (i : Nat) (k : Key), ks[i]? = some k → ∃ e, l[i]? = some e ∧ mget k m = some e) (hb : ks.length ≤ 1000) :
    Ctr Try.prog G 21 [.pointer (some ⟨p, 0, none⟩)] [QuA p most lost ks m] (fun F v A => ∃ a c, v = .slice a ks.length c ∧ A = Sl 31 11 a ks.length c ((l).flatMap cEdu) :: QuA p most lost ks m :: F) := by
  refine Ctr.intro Try.func21 rfl (by kernel_rfl) rfl (fun F => ?_)
  simp only [List.cons_append, List.nil_append]
  refine Run.openQ (by first | ((repeat (first | (with_reducible exact Find.here _) | apply Find.there)); done) | (repeat (first | exact Find.here _ | apply Find.there))) ?_; intro a cap r
  refine Run.slLen (T := 42) (sz := 5) (n := ks.length) (by first | ((repeat (first | (with_reducible exact Find.here _) | apply Find.there)); done) | (repeat (first | exact Find.here _ | apply Find.there))) ?_; intro ⟨_, hcap⟩
  refine Run.sr ?_
  refine RunL.as rfl rfl ?_
  refine RunL.nil ?_
  refine Run.sr ?_
  refine RunL.as rfl rfl ?_
  refine RunL.nil ?_
  refine Run.nilSl 31 11 ?_
  refine Run.seq ?_
  refine Run.sr ?_
  refine RunL.mv rfl rfl ?_
  refine RunL.pure (Pure.nilCheck rfl) (Wt.none rfl) rfl rfl ?_
  refine RunL.pure (Pure.fieldAddr rfl fo64_1) (Wt.none rfl) rfl rfl ?_
  first | refine RunL.load1 rfl (by first | ((repeat (first | (with_reducible exact Find.here _) | apply Find.there)); done) | (repeat (first | exact Find.here _ | apply Find.there))) (by rfl) agg62 (Wt.none rfl) rfl ?_ | refine RunL.load1R rfl (by assumption) (by rfl) agg62 (Wt.none rfl) rfl ?_
  refine RunL.pure (Pure.lenSl rfl rfl und62) (Wt.none rfl) rfl rfl ?_
  refine RunL.mv rfl rfl ?_
  refine RunL.nil ?_
  refine Run.block ?_
  refine Run.keep (.cons rfl (.cons rfl (.cons rfl (.cons rfl (.cons rfl (.nil))))) : Keep _ [0, 3, 9, 10, 11] _) ?_
  refine Run.loopF (F := F) (fun n e_ A => ∃ (i : Nat) (a' : Option Addr) (c' : Nat), i ≤ ks.length ∧ n = ks.length - i ∧ e_ = [(0, .pointer (some ⟨p, 0, none⟩)), (3, .slice a' i c'), (9, .slice a ks.length cap), (10, .int .i64 (ks.length : Nat)), (11, .int .i64 (i : Nat))] ∧ A = Sl 31 11 a' i c' ((l.take i).flatMap cEdu) :: row p 64 [.int .i64 most, .slice a ks.length cap, .map (some r), .int .i64 lost] :: Sl 42 5 a ks.length cap ((ks).flatMap cKey) :: Mp r (menc eK eE m) :: F) (ks.length) (by exact ⟨0, none, 0, by omega, rfl, rfl, rfl⟩) (by repeat (first | (with_reducible exact Fin.done (by repeat (first | (with_reducible exact Rest.here) | apply Rest.there))) | (apply Fin.cons (by first | ((repeat (first | (with_reducible exact Find.here _) | apply Find.there)); done) | (repeat (first | exact Find.here _ | apply Find.there)))))) ?_
  rintro n _ _ ⟨i, a', c', hi, rfl, rfl, hA_⟩ ih
  replace hA_ := hA_.symm; subst hA_
  refine Run.sr ?_
  refine RunL.pure (Pure.lss rfl rfl) (Wt.none rfl) rfl rfl ?_
  refine RunL.nil ?_
  refine Run.seq ?_
  refine Run.cond rfl (fun h1 => ?_) (fun h1 => ?_)
  · try simp only [decide_eq_true_eq, decide_eq_false_iff_not, beq_iff_eq, beq_eq_false_iff_ne, bne_iff_ne, ne_eq, Bool.not_eq_true', Bool.not_eq_false', Bool.not_eq_true, Bool.not_eq_false, Int.not_lt, Int.not_le, Decidable.not_not, bne_eq_false_iff_eq, gt_iff_lt, ge_iff_le, Bool.or_eq_true, Bool.and_eq_true] at h1
    obtain ⟨k, hk⟩ := get_some (xs := ks) (i := i) (by omega)
    obtain ⟨x, hx, hg⟩ := hm i k hk
    have htk : l.take i ++ [x] = l.take (i + 1) := by rw [List.take_add_one, hx]; rfl
    refine Run.openSl (a := a) (n := ks.length) (by first | ((repeat (first | (with_reducible exact Find.here _) | apply Find.there)); done) | (repeat (first | exact Find.here _ | apply Find.there))) (by omega) ?_; rintro b2 pre2 post2 rfl hsl1 hsl2 hsl3
    refine Run.skip ?_
    refine Run.seq ?_
    refine Run.block ?_
    refine Run.sr ?_
    refine RunL.pure (Pure.indexAddr rfl rfl und62 sz42 (by omega) (by omega)) (Wt.none rfl) rfl rfl ?_
    refine RunL.loadA (vs := (cKey k)) rfl (by first | ((repeat (first | (with_reducible exact Find.here _) | apply Find.there)); done) | (repeat (first | exact Find.here _ | apply Find.there))) agg42 sz42 (elemN_len (f := cKey) (sz := 5) (j := 0) (n := 5) (fun _ _ => rfl) hk (by decide)) ((elemN_at (f := cKey) (sz := 5) (j := 0) (n := 5) (fun _ _ => rfl) hk (by decide)).trans rfl) (Wt.none rfl) rfl ?_
    refine RunL.alloc zz42 (Wt.none rfl) rfl ?_; intro b5
    refine RunL.storeW (xs := (cKey k)) rfl rfl (by first | ((repeat (first | (with_reducible exact Find.here _) | apply Find.there)); done) | (repeat (first | exact Find.here _ | apply Find.there))) sz42 (by rfl) (by rfl) (by rfl) (Wt.none rfl) ?_
    refine RunL.nil ?_
    refine Run.mkSl (b := b2) (pre := pre2) (post := post2) (sz := 5) (cs := (ks).flatMap cKey) (n := ks.length) (by first | ((repeat (first | (with_reducible exact Find.here _) | apply Find.there)); done) | (repeat (first | exact Find.here _ | apply Find.there))) hsl1 hsl2 hsl3 ?_
    refine Run.regionD' (by kernel_rfl) (by kernel_rfl) (fun hok41 => ?_)
    refine RunD.lend (Q := row b5 42 _) Lends.row (by first | ((repeat (first | (with_reducible exact Find.here _) | apply Find.there)); done) | (repeat (first | exact Find.here _ | apply Find.there))) ?_; intro gl1 hlegl1 hl1 backgl1
    refine RunD.lend (Q := row p 64 _) Lends.row (by first | ((repeat (first | (with_reducible exact Find.here _) | apply Find.there)); done) | (repeat (first | exact Find.here _ | apply Find.there))) ?_; intro g1 hleg1 hr1 backg1
    try (replace hl1 := hl1.mono hleg1)
    refine RunD.lend (Q := Mp r _) Lends.Mp (by first | ((repeat (first | (with_reducible exact Find.here _) | apply Find.there)); done) | (repeat (first | exact Find.here _ | apply Find.there))) ?_; intro g2 hleg2 hm2 backg2
    try (replace hl1 := hl1.mono hleg2)
    try (replace hr1 := hr1.mono hleg2)
    refine RunD.pure (i := 0) hok41 rfl (by kernel_rfl) (Pure.move rfl) (Wt.none rfl) rfl rfl ?_
    refine RunD.pure (i := 1) hok41 rfl (by kernel_rfl) (Pure.move rfl) (Wt.none rfl) rfl rfl ?_
    refine RunD.pure (i := 2) hok41 rfl (by kernel_rfl) (Pure.nilCheck rfl) (Wt.none rfl) rfl rfl ?_
    refine RunD.pure (i := 3) hok41 rfl (by kernel_rfl) (Pure.fieldAddr rfl fo64_2) (Wt.none rfl) rfl rfl ?_
    refine RunD.load1R (i := 4) hok41 rfl (by kernel_rfl) rfl (by assumption) (by rfl) agg61 (Wt.none rfl) rfl ?_
    refine RunD.loadNR (vs := (cKey k)) (i := 5) hok41 rfl (by kernel_rfl) rfl (by assumption) agg42 sz42 (by first | exact Nat.le_of_ble_eq_true rfl | (simp; done) | (simp; omega)) rfl (Wt.none rfl) rfl ?_
    refine RunD.lookupR (k := k) (i := 6) hok41 rfl (by kernel_rfl) rfl rfl (by assumption) und61 zz31 key42 (Wt.none rfl) rfl ?_
    rw [hg, show ∀ z, mval eE z (some x) = .agg (cEdu x).toArray from fun _ => rfl]
    refine RunD.one (i := 7) (by kernel_rfl) rfl ?_
    refine RunL.lit (vals := [_]) (vs := ([x] : List Edu).flatMap cEdu) und37 sz31 zz31 rfl rfl rfl rfl rfl rfl (by simp [Value.cells, bv, cEdu, cKey, cQst]) rfl (Wt.none rfl) rfl ?_; intro b22
    refine RunL.nilD' ?_
    refine RunD.one (i := 8) (by kernel_rfl) rfl ?_
    refine RunL.append (m := 1) (n' := (i + 1)) (cs' := (l.take (i + 1)).flatMap cEdu) rfl rfl (by first | ((repeat (first | (with_reducible exact Find.here _) | apply Find.there)); done) | (repeat (first | exact Find.here _ | apply Find.there))) rfl rfl und37 und37 rfl sz31 zz31 rfl by31 (by omega) (by omega) (fun w sw => sw.src) (isOne_flat (f := cEdu) (fun _ => rfl)) rfl (by rw [← htk, flatMap_app]) (Wt.none rfl) rfl ?_; intro a2 c2
    refine RunL.nilD' ?_
    refine RunD.pure (i := 9) hok41 rfl (by kernel_rfl) (Pure.assign rfl) (Wt.none rfl) rfl rfl ?_
    refine RunD.nilB (by kernel_rfl) (fun w sw => backgl1 _ _ (backg1 _ _ (backg2 _ _ (sw)))) ?_
    refine Run.inBlock ?_
    refine Run.region ?_
    first | refine RunL.pure (Pure.addI rfl rfl (by omega)) (Wt.none rfl) rfl rfl ?_ | refine RunL.pure (Pure.add rfl rfl) (Wt.none rfl) rfl rfl ?_
    refine RunL.mv rfl rfl ?_
    refine RunL.nil ?_
    refine Run.keep (.cons rfl (.cons rfl (.cons rfl (.cons rfl (.cons rfl (.nil))))) : Keep _ [0, 3, 9, 10, 11] _) ?_
    refine Run.againF (F := F) ih (by exact ⟨i + 1, a2, c2, by omega, rfl, rfl, rfl⟩) (by repeat (first | (with_reducible exact Fin.done (by repeat (first | (with_reducible exact Rest.here) | apply Rest.there))) | (apply Fin.cons (by first | ((repeat (first | (with_reducible exact Find.here _) | apply Find.there)); done) | (repeat (first | exact Find.here _ | apply Find.there)))))) ?_
    omega
  · try simp only [decide_eq_true_eq, decide_eq_false_iff_not, beq_iff_eq, beq_eq_false_iff_ne, bne_iff_ne, ne_eq, Bool.not_eq_true', Bool.not_eq_false', Bool.not_eq_true, Bool.not_eq_false, Int.not_lt, Int.not_le, Decidable.not_not, bne_eq_false_iff_eq, gt_iff_lt, ge_iff_le, Bool.or_eq_true, Bool.and_eq_true] at h1
    refine Run.exit rfl ?_
    refine Run.sr ?_
    refine RunL.mv rfl rfl ?_
    refine RunL.as rfl rfl ?_
    refine RunL.nil ?_
    obtain rfl : i = ks.length := by omega
    rw [← hl, List.take_length, hl]
    refine Run.mkQ ks (by repeat (first | (with_reducible exact Take.nil _) | (apply Take.cons (by first | ((repeat (first | (with_reducible exact Find.here _) | apply Find.there)); done) | (repeat (first | exact Find.here _ | apply Find.there)))))) rfl ?_
    exact Run.ret Try.func21 (res1 rfl rfl) (by exact ⟨_, _, rfl, rfl⟩) (by repeat (first | (with_reducible exact Fin.done (by repeat (first | (with_reducible exact Rest.here) | apply Rest.there))) | (apply Fin.cons (by first | ((repeat (first | (with_reducible exact Find.here _) | apply Find.there)); done) | (repeat (first | exact Find.here _ | apply Find.there))))))

end Go.Proofs.Ytnmpbpadpkgboaa
