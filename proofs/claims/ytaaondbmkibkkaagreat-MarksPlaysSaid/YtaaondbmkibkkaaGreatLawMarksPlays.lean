/- For every input the call of MarksPlays returns true and what came in reads as it did; no condition beyond the row's own. -/
import Derived.Test.YtaaondbmkibkkaaGreatRows
import Derived.Test.YtaaondbmkibkkaaGreatQ12
import Derived.WalkKit
import Derived.ProofKit
import Derived.OpenShut
import Derived.ShutString
import Derived.ChangeOld
import Derived.Below
import Derived.SizedLaws
namespace Go.Proofs.YtaaondbmkibkkaaGreat.marksPlays
open Go.ChangeShapes Go.WideShapes Go.ChangeAt Go.RowKit
open Go.ChangeMaps (open_string shut_string)
open Csl
set_option linter.unusedVariables false
theorem own : ownKnob Tryz.prog.godebug = none := by kernel_rfl
theorem laidOut : laidOutB Tryz.prog = true := by kernel_rfl
set_option maxRecDepth 100000 in
theorem lifted (os : Os) (started : os.Started) (H : Type) (enc : TypeId × Value → H) :
    ReturnsInHanded {} Tryz.checked os 7 .any (Rows.marksPlaysSpec.pre6 enc Tryz.prog Tryz.f7 Rows.marksPlaysRow.domain false) (Rows.marksPlaysSpec.post enc Tryz.prog Tryz.f7 false true false false) := by
  refine returnsInHanded_of_change_sized (C := Tryz.checked) own started (by kernel_rfl) Tryz.func7
    (ChangeSpec.witness6 (enc := enc) (C := Tryz.checked) false ⟨#[], #[.int .i64 0, .slice none 0 0, .slice none 0 0, .slice none 0 0, .slice none 0 0], []⟩ 8 (by kernel_rfl) (by kernel_rfl) (by kernel_rfl) (by kernel_rfl)) ?_
  intro W base args ds gs before hval0 hW hcnd hsz0 _
  have hsz : (DataW.weightsEach Tryz.prog (Tryz.f7.params.toList ++ Rows.marksPlaysSpec.plain.varTypes Tryz.prog) (ds ++ gs)).all (· ≤ reachBytes) = true := hsz0
  have hval : ∀ (j : Nat) t v, Tryz.f7.params[j]? = some t → args[j]? = some v → Value.okWide Tryz.prog W .any base t v := hval0
  have hW' := hW
  obtain ⟨p, q, hA0, hV, rfl, hfz, hnd⟩ := hW
  have hA : DataW.TrodAll enc Tryz.prog W 0 (fun _ => true) true Tryz.f7.params.toList args.toList ds p := hA0
  rw [Tryz.params7] at hA hval hsz
  obtain ⟨v0, vs0, d0, ds0, p0, q0, hargs, rfl, rfl, h0, r0⟩ := trodAll_cons hA
  obtain ⟨v1, vs1, d1, ds1, p1, q1, rfl, rfl, rfl, h1, r1⟩ := trodAll_cons r0
  obtain ⟨v2, vs2, d2, ds2, p2, q2, rfl, rfl, rfl, h2, r2⟩ := trodAll_cons r1
  obtain ⟨v3, vs3, d3, ds3, p3, q3, rfl, rfl, rfl, h3, r3⟩ := trodAll_cons r2
  obtain ⟨v4, vs4, d4, ds4, p4, q4, rfl, rfl, rfl, h4, r4⟩ := trodAll_cons r3
  obtain ⟨rfl, rfl, rfl⟩ := trodAll_nil r4
  obtain rfl : args = #[v0, v1, v2, v3, v4] := by cases args; simp_all
  obtain ⟨rfl, rfl⟩ := trodVars_none hV
  obtain ⟨a0, rfl, rfl, rfl, w0⟩ := open_int Tryz.underlying3 (hval 0 3 v0 rfl rfl) h0
  obtain ⟨a1, len1, cap1, rfl⟩ := okWide_slice Tryz.underlying42 (hval 1 42 v1 rfl rfl)
  have k1 := h1
  have lt1 : ∀ x ∈ p1, x.block < W.heap.size := by obtain ⟨m, hm⟩ := k1; exact DataW.trod_lt m _ _ _ hm
  have t1 : Tr enc Tryz.prog W 42 [.slice a1 len1 cap1] := Tr.of h1
  obtain ⟨b1, rfl, f1, g1, c1⟩ := t1.rows (f := cGG) (φ := (fun x : GG => okGG x ∧ Tr enc Tryz.prog W 43 [.slice x.par.a x.par.n x.par.c])) (sz := 4) 130 Tryz.underlying42 (by kernel_rfl) (by decide) (fun _ => rfl) (fun vs q => tr130 q)
  obtain ⟨a2, len2, cap2, rfl⟩ := okWide_slice Tryz.underlying42 (hval 2 42 v2 rfl rfl)
  have k2 := h2
  have lt2 : ∀ x ∈ p2, x.block < W.heap.size := by obtain ⟨m, hm⟩ := k2; exact DataW.trod_lt m _ _ _ hm
  have t2 : Tr enc Tryz.prog W 42 [.slice a2 len2 cap2] := Tr.of h2
  obtain ⟨b2, rfl, f2, g2, c2⟩ := t2.rows (f := cGG) (φ := (fun x : GG => okGG x ∧ Tr enc Tryz.prog W 43 [.slice x.par.a x.par.n x.par.c])) (sz := 4) 130 Tryz.underlying42 (by kernel_rfl) (by decide) (fun _ => rfl) (fun vs q => tr130 q)
  obtain ⟨a3, len3, cap3, rfl⟩ := okWide_slice Tryz.underlying25 (hval 3 25 v3 rfl rfl)
  have k3 := h3
  have lt3 : ∀ x ∈ p3, x.block < W.heap.size := by obtain ⟨m, hm⟩ := k3; exact DataW.trod_lt m _ _ _ hm
  have t3 : Tr enc Tryz.prog W 25 [.slice a3 len3 cap3] := Tr.of h3
  obtain ⟨b3, rfl, f3, g3, c3⟩ := t3.rows (f := cEdu) (φ := okEdu) (sz := 11) 23 Tryz.underlying25 (by kernel_rfl) (by decide) (fun _ => rfl) (fun vs q => tr23 q)
  obtain ⟨a4, len4, cap4, rfl⟩ := okWide_slice Tryz.underlying80 (hval 4 80 v4 rfl rfl)
  have k4 := h4
  have lt4 : ∀ x ∈ p4, x.block < W.heap.size := by obtain ⟨m, hm⟩ := k4; exact DataW.trod_lt m _ _ _ hm
  have t4 : Tr enc Tryz.prog W 80 [.slice a4 len4 cap4] := Tr.of h4
  obtain ⟨b4, rfl, f4, g4, c4⟩ := t4.rows1 (f := Value.bool) (φ := (fun _ : Bool => True)) 4 Tryz.underlying80 (by kernel_rfl) (fun vs q => (q.bool Tryz.underlying4).imp fun b h => ⟨h, trivial⟩)
  clear hA0 hval0 hsz0 hsz
  refine (Ctr.walk (MarksPlays_ctr (wf_i64 w0) g1 (gs_in (fun x hx => ⟨(f1 x hx).1, (f1 x hx).2.rows1 (f := Value.int .i64) (φ := fun z : Int => (Lit.int .i64 z).wf = true) 3 Tryz.underlying43 (by kernel_rfl) (fun vs q => q.int Tryz.underlying3)⟩)) g2 (gs_in (fun x hx => ⟨(f2 x hx).1, (f2 x hx).2.rows1 (f := Value.int .i64) (φ := fun z : Int => (Lit.int .i64 z).wf = true) 3 Tryz.underlying43 (by kernel_rfl) (fun vs q => q.int Tryz.underlying3)⟩)) g3 f3 g4 (by have q := c4.2; unfold maxLen at q; omega))).mono fun e W' ⟨he, bel⟩ => ?_
  subst he
  exact ⟨_, rfl, _, _, _, [], _, [], hW', trodAll_mk1 (shut_bool Tryz.underlying4 _), (trodAll_cons_mk (shut_int Tryz.underlying3 w0) (trodAll_cons_mk (Below.trod laidOut (by kernel_rfl) (of_decide_eq_true (by kernel_rfl)) k1 bel lt1) (trodAll_cons_mk (Below.trod laidOut (by kernel_rfl) (of_decide_eq_true (by kernel_rfl)) k2 bel lt2) (trodAll_cons_mk (Below.trod laidOut (by kernel_rfl) (of_decide_eq_true (by kernel_rfl)) k3 bel lt3) (trodAll_cons_mk (Below.trod laidOut (by kernel_rfl) (of_decide_eq_true (by kernel_rfl)) k4 bel lt4) trodAll_mk0))))), rfl, bel.frame _, fun h => by cases h⟩
theorem over : Rows.marksPlaysRow.holds Tryz.pinned (OpenSpec.ofChange Rows.marksPlaysSpec) :=
  OpenClaim.holds_of_wide 7 Tryz.f7 rfl rfl rfl rfl rfl rfl rfl ⟨rfl, rfl, rfl, rfl, rfl⟩ rfl rfl rfl rfl rfl (by kernel_rfl) Tryz.func7 (by kernel_rfl)
    (of_decide_eq_true (by kernel_rfl)) (by unfold Func.isWrapper; first | (rw [if_pos (by decide +kernel)]; kernel_rfl) | (rw [if_neg (by decide +kernel)]; exact ⟨rfl, rfl⟩))
    (fun os started H enc _ => lifted os started H enc)
theorem proved : Rows.MarksPlaysSaid := over
#print axioms proved
end Go.Proofs.YtaaondbmkibkkaaGreat.marksPlays
namespace Go.Proofs.YtaaondbmkibkkaaGreat
theorem marksPlays_holds : Rows.MarksPlaysSaid := marksPlays.proved
end Go.Proofs.YtaaondbmkibkkaaGreat
