/- Over one atom. -/
import Derived.Test.YtnmpbpadpkgboaaQ6
set_option linter.unusedVariables false
set_option linter.unusedSimpArgs false
set_option linter.unusedSectionVars false
namespace Go.Proofs.Ytnmpbpadpkgboaa
open Go Csl


theorem qdrop_ctr {G : Gp} {p : Nat} {most lost : Int} {l : List Edu} {k : Key} (hb : l.length ≤ 1000) : Ctr Try.prog G 32 [.pointer (some ⟨p, 0, none⟩), .agg (cKey k).toArray] [Qu p most lost l] (fun F v A => v = .tuple #[] ∧ A = Qu p most lost (offK l k) :: F) := by
  unfold Qu
  refine Ctr.exPre cb32 fun x h => (drop_ctr (k := k) (by rw [h.len]; omega)).postConv fun F v A q => ?_
  obtain ⟨rfl, rfl⟩ := q
  exact ⟨_, ⟨rfl, rfl⟩, fun w s => St.mkEx (x := (x.1.filter (fun y => decide (y ≠ k)), mdel k x.2)) (h.off k) s⟩
theorem qLen_ctr {G : Gp} {p : Nat} {most lost : Int} {l : List Edu}  : Ctr Try.prog G 14 [.pointer (some ⟨p, 0, none⟩)] [Qu p most lost l] (fun F v A => v = .int .i64 (l.length : Nat) ∧ A = Qu p most lost l :: F) := by
  unfold Qu
  refine Ctr.exPre cb14 fun x h => (Len_ctr).postConv fun F v A q => ?_
  obtain ⟨rfl, rfl⟩ := q
  exact ⟨_, ⟨by rw [h.len], rfl⟩, fun w s => St.mkEx (x := x) h s⟩
theorem qLost_ctr {G : Gp} {p : Nat} {most lost : Int} {l : List Edu}  : Ctr Try.prog G 15 [.pointer (some ⟨p, 0, none⟩)] [Qu p most lost l] (fun F v A => v = .int .i64 lost ∧ A = Qu p most lost l :: F) := by
  unfold Qu
  refine Ctr.exPre cb15 fun x h => (Lost_ctr).postConv fun F v A q => ?_
  obtain ⟨rfl, rfl⟩ := q
  exact ⟨_, ⟨rfl, rfl⟩, fun w s => St.mkEx (x := x) h s⟩
theorem qHas_ctr {G : Gp} {p : Nat} {most lost : Int} {l : List Edu} {k : Key} : Ctr Try.prog G 17 [.pointer (some ⟨p, 0, none⟩), .agg (cKey k).toArray] [Qu p most lost l] (fun F v A => v = .tuple #[.agg (cEdu ((l.find? (fun x => decide (eKey x = k))).getD zeroE)).toArray, .bool (l.find? (fun x => decide (eKey x = k))).isSome] ∧ A = Qu p most lost l :: F) := by
  unfold Qu
  refine Ctr.exPre cb17 fun x h => (Has_ctr (k := k)).postConv fun F v A q => ?_
  obtain ⟨rfl, rfl⟩ := q
  exact ⟨_, ⟨by rw [h.2.1], rfl⟩, fun w s => St.mkEx (x := x) h s⟩
theorem qAll_ctr {G : Gp} {p : Nat} {most lost : Int} {l : List Edu} (hb : l.length ≤ 1000) : Ctr Try.prog G 21 [.pointer (some ⟨p, 0, none⟩)] [Qu p most lost l] (fun F v A => ∃ a c, v = .slice a l.length c ∧ A = Sl 31 11 a l.length c ((l).flatMap cEdu) :: Qu p most lost l :: F) := by
  unfold Qu
  refine Ctr.exPre cb21 fun x h => (All_ctr (l := l) h.len.symm (fun i k hk => ?_) (by rw [h.len]; omega)).postConv fun F v A q => ?_
  · have hk' := hk
    rw [h.1, List.getElem?_map, Option.map_eq_some_iff] at hk'
    obtain ⟨e, he, rfl⟩ := hk'
    exact ⟨e, he, h.at_ he⟩
  · obtain ⟨a, c, rfl, rfl⟩ := q
    refine ⟨_, ⟨a, c, by rw [h.len], rfl⟩, fun w s => ?_⟩
    have s2 := St.mkEx (φ := fun x : List Key × List (Key × Edu) => QueOk x.1 x.2 l) (L := fun x => [QuA p most lost x.1 x.2]) (x := x) h (s.perm (List.Perm.swap _ _ _))
    rw [h.len] at s2
    exact s2.perm (List.Perm.swap _ _ _)
theorem qNew_ctr {G : Gp} {z : Int} : Ctr Try.prog G 10 [.int .i64 z] [] (fun F v A => ((1 ≤ z ∧ z ≤ 120) ∧ ∃ p, v = .tuple #[.pointer (some ⟨p, 0, none⟩), .int .i64 0] ∧ A = Qu p z 0 [] :: F) ∨ (¬ (1 ≤ z ∧ z ≤ 120) ∧ v = .tuple #[.pointer none, .int .i64 1] ∧ A = F)) :=
  New_ctr.postConv fun F v A q => by
    rcases q with ⟨h, p, rfl, rfl⟩ | ⟨h, rfl, rfl⟩
    · exact ⟨_, .inl ⟨h, p, rfl, rfl⟩, fun w s => St.mkEx (x := ([], [])) QueOk.nil s⟩
    · exact ⟨_, .inr ⟨h, rfl, rfl⟩, fun w s => s⟩
end Go.Proofs.Ytnmpbpadpkgboaa
