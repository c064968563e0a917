/- An index tells. -/
import Derived.Test.YtcmkafellcfbeaaGreatY2
set_option linter.unusedVariables false
set_option linter.unusedSimpArgs false
set_option linter.unusedSectionVars false
namespace Go.Proofs.YtcmkafellcfbeaaGreat
open Go Csl


set_option maxHeartbeats 4000000 in
set_option maxRecDepth 100000 in
theorem of_ctr {G : Gp} {p : Nat} {K : Hp} {room : ByteArray} {l : EL} {sl : Sli} {ys : ES} (hx : IxF room l K sl ys) {id : ByteArray} :
    Ctr Tryz.prog G 30 [.pointer (some ⟨p, 0, none⟩), .string id] [Ix p l K sl] (fun F v A => ∃ (K1 : Hp) (m : Nat) (tbl : List (ByteArray × Nat)), Hp.le K K1 ∧ TbF l K1 tbl ∧ v = mval eM (.map none) (mget id tbl) ∧ A = row p 73 [.slice sl.a sl.n sl.c, .int .u32 1, .int .i32 0, .int .u32 0, .map (some m)] :: Mp m (menc eS eM tbl) :: Pool K1 :: F) := by
  refine Ctr.intro Tryz.func30 rfl (by kernel_rfl) rfl (fun F => ?_)
  simp only [List.cons_append, List.nil_append]
  refine Run.openIx (by first | ((repeat (first | (with_reducible exact F0 _) | apply F1)); done) | (repeat (first | exact F0 _ | apply F1))) (fun K1 hle => ?_) (fun K1 m tbl hle ht => ?_)
  · skip
    have hx1 := hx.le hle
    refine Run.sr ?_
    refine RunL.as rfl rfl ?_
    refine RunL.nil ?_
    refine Run.sr ?_
    refine RunL.mv rfl rfl ?_
    refine RunL.pure (Pure.nilCheck rfl) (Wt.none rfl) rfl rfl ?_
    refine RunL.pure (Pure.fieldAddr rfl fo73_1) (Wt.none rfl) rfl rfl ?_
    refine RunL.mv rfl rfl ?_
    refine RunL.pure (Pure.makeFunc rfl rfl) (Wt.none rfl) rfl rfl ?_
    refine RunL.call rfl rfl (by rfl) (by repeat (first | (with_reducible exact Take.nil _) | (apply Take.cons (by first | ((repeat (first | (with_reducible exact F0 _) | apply F1)); done) | (repeat (first | exact F0 _ | apply F1)))))) (DoN_ctr hx1.1 hx1.2.1 hx1.2.2.1 hx1.2.2.2) (Wt.none rfl) rfl ?_
    rintro _ _ ⟨rfl, K2, m, tbl, hle2, htk, htok, hA_⟩
    replace hA_ := hA_.symm; subst hA_
    refine RunL.nil ?_
    refine Run.sr ?_
    refine RunL.mv rfl rfl ?_
    refine RunL.pure (Pure.nilCheck rfl) (Wt.none rfl) rfl rfl ?_
    refine RunL.pure (Pure.fieldAddr rfl fo73_2) (Wt.none rfl) rfl rfl ?_
    first | refine RunL.load1 rfl (by first | ((repeat (first | (with_reducible exact F0 _) | apply F1)); done) | (repeat (first | exact F0 _ | apply F1))) (by rfl) agg71 (Wt.none rfl) rfl ?_ | refine RunL.load1R rfl (by assumption) (by rfl) agg71 (Wt.none rfl) rfl ?_
    refine RunL.mv rfl rfl ?_
    first | refine RunL.lookup (k := id) rfl rfl (by first | ((repeat (first | (with_reducible exact F0 _) | apply F1)); done) | (repeat (first | exact F0 _ | apply F1))) und71 zz74 (KeyT.string und9) (Wt.none rfl) rfl ?_ | refine RunL.lookupR (k := id) rfl rfl (by assumption) und71 zz74 (KeyT.string und9) (Wt.none rfl) rfl ?_ | refine RunL.lookupNil (k := id) rfl rfl und71 zz74 (KeyT.string und9) (Wt.none rfl) rfl ?_
    refine RunL.as rfl rfl ?_
    refine RunL.nil ?_
    exact Run.ret Tryz.func30 (res1 rfl rfl) (by exact ⟨K2, m, tbl, hle.trans hle2, ⟨htk, htok⟩, rfl, rfl⟩) (by repeat (first | (with_reducible exact Fin.done (by repeat (first | (with_reducible exact Rest.here) | apply Rest.there))) | (apply Fin.cons (by first | ((repeat (first | (with_reducible exact F0 _) | apply F1)); done) | (repeat (first | exact F0 _ | apply F1))))))
  · skip
    refine Run.sr ?_
    refine RunL.as rfl rfl ?_
    refine RunL.nil ?_
    refine Run.sr ?_
    refine RunL.mv rfl rfl ?_
    refine RunL.pure (Pure.nilCheck rfl) (Wt.none rfl) rfl rfl ?_
    refine RunL.pure (Pure.fieldAddr rfl fo73_1) (Wt.none rfl) rfl rfl ?_
    refine RunL.mv rfl rfl ?_
    refine RunL.pure (Pure.makeFunc rfl rfl) (Wt.none rfl) rfl rfl ?_
    refine RunL.call rfl rfl (by rfl) (by repeat (first | (with_reducible exact Take.nil _) | (apply Take.cons (by first | ((repeat (first | (with_reducible exact F0 _) | apply F1)); done) | (repeat (first | exact F0 _ | apply F1)))))) (DoY_ctr) (Wt.none rfl) rfl ?_
    rintro _ _ ⟨rfl, hA_⟩
    replace hA_ := hA_.symm; subst hA_
    refine RunL.nil ?_
    refine Run.sr ?_
    refine RunL.mv rfl rfl ?_
    refine RunL.pure (Pure.nilCheck rfl) (Wt.none rfl) rfl rfl ?_
    refine RunL.pure (Pure.fieldAddr rfl fo73_2) (Wt.none rfl) rfl rfl ?_
    first | refine RunL.load1 rfl (by first | ((repeat (first | (with_reducible exact F0 _) | apply F1)); done) | (repeat (first | exact F0 _ | apply F1))) (by rfl) agg71 (Wt.none rfl) rfl ?_ | refine RunL.load1R rfl (by assumption) (by rfl) agg71 (Wt.none rfl) rfl ?_
    refine RunL.mv rfl rfl ?_
    first | refine RunL.lookup (k := id) rfl rfl (by first | ((repeat (first | (with_reducible exact F0 _) | apply F1)); done) | (repeat (first | exact F0 _ | apply F1))) und71 zz74 (KeyT.string und9) (Wt.none rfl) rfl ?_ | refine RunL.lookupR (k := id) rfl rfl (by assumption) und71 zz74 (KeyT.string und9) (Wt.none rfl) rfl ?_ | refine RunL.lookupNil (k := id) rfl rfl und71 zz74 (KeyT.string und9) (Wt.none rfl) rfl ?_
    refine RunL.as rfl rfl ?_
    refine RunL.nil ?_
    exact Run.ret Tryz.func30 (res1 rfl rfl) (by exact ⟨K1, m, tbl, hle, ht, rfl, rfl⟩) (by repeat (first | (with_reducible exact Fin.done (by repeat (first | (with_reducible exact Rest.here) | apply Rest.there))) | (apply Fin.cons (by first | ((repeat (first | (with_reducible exact F0 _) | apply F1)); done) | (repeat (first | exact F0 _ | apply F1))))))

set_option maxHeartbeats 4000000 in
set_option maxRecDepth 100000 in
theorem Ahead_ctr {G : Gp} {p : Nat} {K : Hp} {room : ByteArray} {l : EL} {sl : Sli} {ys : ES} (hx : IxF room l K sl ys) {a b : ByteArray} :
    Ctr Tryz.prog G 10 [.pointer (some ⟨p, 0, none⟩), .string a, .string b] [Ix p l K sl] (fun F v A => v = .bool (ancOf l b a) ∧ A = Ix p l K sl :: F) := by
  refine Ctr.intro Tryz.func10 rfl (by kernel_rfl) rfl (fun F => ?_)
  simp only [List.cons_append, List.nil_append]
  refine Run.sr ?_
  refine RunL.as rfl rfl ?_
  refine RunL.nil ?_
  refine Run.sr ?_
  refine RunL.mv rfl rfl ?_
  refine RunL.mv rfl rfl ?_
  refine RunL.call rfl rfl (by rfl) (by repeat (first | (with_reducible exact Take.nil _) | (apply Take.cons (by first | ((repeat (first | (with_reducible exact F0 _) | apply F1)); done) | (repeat (first | exact F0 _ | apply F1)))))) (of_ctr hx) (Wt.none rfl) rfl ?_
  rintro _ _ ⟨K1, m, tbl, hle, ht, rfl, hA_⟩
  replace hA_ := hA_.symm; subst hA_
  cases hm : mget b tbl with
| none => ?_
| some r => ?_
  · skip
    refine RunL.mv rfl rfl ?_
    first | refine RunL.lookup (k := a) rfl rfl (by first | ((repeat (first | (with_reducible exact F0 _) | apply F1)); done) | (repeat (first | exact F0 _ | apply F1))) und74 zz3 (KeyT.string und9) (Wt.none rfl) rfl ?_ | refine RunL.lookupR (k := a) rfl rfl (by assumption) und74 zz3 (KeyT.string und9) (Wt.none rfl) rfl ?_ | refine RunL.lookupNil (k := a) rfl rfl und74 zz3 (KeyT.string und9) (Wt.none rfl) rfl ?_
    refine RunL.pure (Pure.gtr rfl rfl) (Wt.none rfl) rfl rfl ?_
    refine RunL.as rfl rfl ?_
    refine RunL.nil ?_
    refine Run.mkIxY hle ht (by repeat (first | (with_reducible exact Take.nil _) | (apply Take.cons (by first | ((repeat (first | (with_reducible exact F0 _) | apply F1)); done) | (repeat (first | exact F0 _ | apply F1)))))) ?_
    exact Run.ret Tryz.func10 (res1 rfl rfl) (by exact ⟨by rw [ancOf_none (ht.none.1 hm)]; rfl, rfl⟩) (by repeat (first | (with_reducible exact Fin.done (by repeat (first | (with_reducible exact Rest.here) | apply Rest.there))) | (apply Fin.cons (by first | ((repeat (first | (with_reducible exact F0 _) | apply F1)); done) | (repeat (first | exact F0 _ | apply F1))))))
  · skip
    obtain ⟨es, hmr0, hanc⟩ := ht.2 _ (mget_mem hm)
    refine RunL.lendB (Q := Pool K1) Lends.Pool (by first | ((repeat (first | (with_reducible exact F0 _) | apply F1)); done) | (repeat (first | exact F0 _ | apply F1))) (fun gp hlegp hK backgp => ?_)
    have hmr := hmr0.hp (G' := gp) hK
    refine RunL.mv rfl rfl ?_
    first | refine RunL.lookup (k := a) rfl rfl (by first | ((repeat (first | (with_reducible exact F0 _) | apply F1)); done) | (repeat (first | exact F0 _ | apply F1))) und74 zz3 (KeyT.string und9) (Wt.none rfl) rfl ?_ | refine RunL.lookupR (k := a) rfl rfl (by assumption) und74 zz3 (KeyT.string und9) (Wt.none rfl) rfl ?_ | refine RunL.lookupNil (k := a) rfl rfl und74 zz3 (KeyT.string und9) (Wt.none rfl) rfl ?_
    rw [hanc.2 a, anc_val]
    refine RunL.pure (Pure.gtr rfl rfl) (Wt.none rfl) rfl rfl ?_
    refine RunL.as rfl rfl ?_
    refine RunL.nil ?_
    refine Run.backB backgp ?_
    refine Run.mkIxY hle ht (by repeat (first | (with_reducible exact Take.nil _) | (apply Take.cons (by first | ((repeat (first | (with_reducible exact F0 _) | apply F1)); done) | (repeat (first | exact F0 _ | apply F1)))))) ?_
    exact Run.ret Tryz.func10 (res1 rfl rfl) (by exact ⟨by cases ancOf l b a <;> rfl, rfl⟩) (by repeat (first | (with_reducible exact Fin.done (by repeat (first | (with_reducible exact Rest.here) | apply Rest.there))) | (apply Fin.cons (by first | ((repeat (first | (with_reducible exact F0 _) | apply F1)); done) | (repeat (first | exact F0 _ | apply F1))))))

set_option maxHeartbeats 4000000 in
set_option maxRecDepth 100000 in
theorem LenX_ctr {G : Gp} {p : Nat} {K : Hp} {room : ByteArray} {l : EL} {sl : Sli} {ys : ES} (hx : IxF room l K sl ys) :
    Ctr Tryz.prog G 17 [.pointer (some ⟨p, 0, none⟩)] [Ix p l K sl] (fun F v A => v = .int .i64 (l.length : Nat) ∧ A = Ix p l K sl :: F) := by
  refine Ctr.intro Tryz.func17 rfl (by kernel_rfl) rfl (fun F => ?_)
  simp only [List.cons_append, List.nil_append]
  refine Run.openIx (by first | ((repeat (first | (with_reducible exact F0 _) | apply F1)); done) | (repeat (first | exact F0 _ | apply F1))) (fun K1 hle => ?_) (fun K1 m tbl hle ht => ?_)
  · skip
    refine Run.sr ?_
    refine RunL.as rfl rfl ?_
    refine RunL.nil ?_
    refine Run.sr ?_
    refine RunL.mv rfl rfl ?_
    refine RunL.pure (Pure.nilCheck rfl) (Wt.none rfl) rfl rfl ?_
    refine RunL.pure (Pure.fieldAddr rfl fo73_0) (Wt.none rfl) rfl rfl ?_
    refine RunL.load1 rfl (by first | ((repeat (first | (with_reducible exact F0 _) | apply F1)); done) | (repeat (first | exact F0 _ | apply F1))) (by rfl) agg24 (Wt.none rfl) rfl ?_
    refine RunL.pure (Pure.lenSl rfl rfl und24) (Wt.none rfl) rfl rfl ?_
    refine RunL.as rfl rfl ?_
    refine RunL.nil ?_
    refine Run.mkIxN (l := l) hle (by repeat (first | (with_reducible exact Take.nil _) | (apply Take.cons (by first | ((repeat (first | (with_reducible exact F0 _) | apply F1)); done) | (repeat (first | exact F0 _ | apply F1)))))) ?_
    exact Run.ret Tryz.func17 (res1 rfl rfl) (by exact ⟨by rw [hx.2.2.1.1, ← ES_len hx.2.1, allOf_len], rfl⟩) (by repeat (first | (with_reducible exact Fin.done (by repeat (first | (with_reducible exact Rest.here) | apply Rest.there))) | (apply Fin.cons (by first | ((repeat (first | (with_reducible exact F0 _) | apply F1)); done) | (repeat (first | exact F0 _ | apply F1))))))
  · skip
    refine Run.sr ?_
    refine RunL.as rfl rfl ?_
    refine RunL.nil ?_
    refine Run.sr ?_
    refine RunL.mv rfl rfl ?_
    refine RunL.pure (Pure.nilCheck rfl) (Wt.none rfl) rfl rfl ?_
    refine RunL.pure (Pure.fieldAddr rfl fo73_0) (Wt.none rfl) rfl rfl ?_
    refine RunL.load1 rfl (by first | ((repeat (first | (with_reducible exact F0 _) | apply F1)); done) | (repeat (first | exact F0 _ | apply F1))) (by rfl) agg24 (Wt.none rfl) rfl ?_
    refine RunL.pure (Pure.lenSl rfl rfl und24) (Wt.none rfl) rfl rfl ?_
    refine RunL.as rfl rfl ?_
    refine RunL.nil ?_
    refine Run.mkIxY hle ht (by repeat (first | (with_reducible exact Take.nil _) | (apply Take.cons (by first | ((repeat (first | (with_reducible exact F0 _) | apply F1)); done) | (repeat (first | exact F0 _ | apply F1)))))) ?_
    exact Run.ret Tryz.func17 (res1 rfl rfl) (by exact ⟨by rw [hx.2.2.1.1, ← ES_len hx.2.1, allOf_len], rfl⟩) (by repeat (first | (with_reducible exact Fin.done (by repeat (first | (with_reducible exact Rest.here) | apply Rest.there))) | (apply Fin.cons (by first | ((repeat (first | (with_reducible exact F0 _) | apply F1)); done) | (repeat (first | exact F0 _ | apply F1))))))

set_option maxHeartbeats 4000000 in
set_option maxRecDepth 100000 in
theorem Of_ctr {G : Gp} {pd : Nat} {room : ByteArray} {l : EL} (h : DgR G pd room l) (hb : l.length ≤ 1000) :
    Ctr Tryz.prog G 9 [.pointer (some ⟨pd, 0, none⟩)] [] (fun F v A => ∃ (p : Nat) (K : Hp) (sl : Sli) (ys : ES), IxF room l K sl ys ∧ v = .pointer (some ⟨p, 0, none⟩) ∧ A = Ix p l K sl :: F) := by
  refine Ctr.intro Tryz.func9 rfl (by kernel_rfl) rfl (fun F => ?_)
  simp only [List.nil_append]
  refine Run.sr ?_
  refine RunL.as rfl rfl ?_
  refine RunL.nil ?_
  refine Run.sr ?_
  refine RunL.mv rfl rfl ?_
  refine RunL.call rfl rfl (by rfl) (by repeat (first | (with_reducible exact Take.nil _) | (apply Take.cons (by first | ((repeat (first | (with_reducible exact F0 _) | apply F1)); done) | (repeat (first | exact F0 _ | apply F1)))))) (All_ctr h hb) (Wt.none rfl) rfl ?_
  rintro _ _ ⟨a, cap, ys, hza, hzn, rfl, hA_⟩
  replace hA_ := hA_.symm; subst hA_
  refine RunL.pure (Pure.buildL (ps := [(0, _)]) (zs := [(.slice none 0 0), (.int .u32 0), (.int .i32 0), (.int .u32 0), (.map none)]) (xs := [_, _, _, _, _]) pl73 rfl rfl rfl rfl) (Wt.none rfl) rfl rfl ?_
  refine RunL.box rfl (Wt.none rfl) rfl ?_; intro b6
  refine RunL.as rfl rfl ?_
  refine RunL.nil ?_
  obtain ⟨xs, hxl, hgd, hxk, hdr⟩ := h
  subst hxl
  refine Run.slLen2 (T := 33) (sz := 6) (a := a) (n := ys.length) (cap := cap) (cs := ys.flatMap cES) (by first | ((repeat (first | (with_reducible exact F0 _) | apply F1)); done) | (repeat (first | exact F0 _ | apply F1))) ?_; intro hsl
  refine Run.poolNew ?_
  refine Run.poolSl (T := 33) (sz := 6) (a := a) (n := ys.length) (cap := cap) (cs := ys.flatMap cES) (by repeat (first | (with_reducible exact Take.nil _) | (apply Take.cons (by first | ((repeat (first | (with_reducible exact F0 _) | apply F1)); done) | (repeat (first | exact F0 _ | apply F1)))))) ?_; intro K1 hle1 hsl1
  refine Run.poolPs ys (by repeat (first | (with_reducible exact Take.nil _) | (apply Take.cons (by first | ((repeat (first | (with_reducible exact F0 _) | apply F1)); done) | (repeat (first | exact F0 _ | apply F1)))))) ?_; intro K2 hle2 hsl2
  have hf : IxF room xs.evs K2 ⟨a, ys.length, cap⟩ ys := ⟨hgd, hza, ⟨rfl, hsl1.pool hle2, hsl.2, fun y hy => ⟨hzn y hy, hsl2 y hy⟩⟩, by have := ES_len hza; rw [allOf_len] at this; show ys.length ≤ _; omega⟩
  refine Run.mkIxN (l := xs.evs) (sl := ⟨a, ys.length, cap⟩) (Hp.le_refl K2) (by repeat (first | (with_reducible exact Take.nil _) | (apply Take.cons (by first | ((repeat (first | (with_reducible exact F0 _) | apply F1)); done) | (repeat (first | exact F0 _ | apply F1)))))) ?_
  exact Run.ret Tryz.func9 (res1 rfl rfl) (by exact ⟨_, K2, ⟨a, ys.length, cap⟩, ys, hf, rfl, rfl⟩) (by repeat (first | (with_reducible exact Fin.done (by repeat (first | (with_reducible exact Rest.here) | apply Rest.there))) | (apply Fin.cons (by first | ((repeat (first | (with_reducible exact F0 _) | apply F1)); done) | (repeat (first | exact F0 _ | apply F1))))))

end Go.Proofs.YtcmkafellcfbeaaGreat
