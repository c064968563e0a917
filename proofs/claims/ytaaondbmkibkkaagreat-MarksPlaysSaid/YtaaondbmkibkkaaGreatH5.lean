/- The reference: in the pool. -/
import Derived.Test.YtaaondbmkibkkaaGreatH2
set_option linter.unusedVariables false
set_option linter.unusedSimpArgs false
set_option linter.unusedSectionVars false
namespace Go.Proofs.YtaaondbmkibkkaaGreat
open Go Csl


/-- Adding, where all lies in the pool. -/
theorem rdAddK_ctr {G : Gp} {K : Hp} {D : DD} {room : ByteArray} {l : EL} (hd : HasD (gk K) D room l) (hb : l.length ≤ 1000) {e : Evn} {ps : List ByteArray} (hp : HasPs (gk K) e ps) (hw : evWf (e.ev ps)) :
    Ctr Tryz.prog G 66 [.agg (cDD D).toArray, .agg (cEvn e).toArray] [Pool K] (fun F v A => ∃ K' D', Hp.le K K' ∧ HasD (gk K') D' room (addL room l (e.ev ps)) ∧ v = .tuple #[.agg (cDD D').toArray, .int .i64 (addRc room l (e.ev ps))] ∧ A = Pool K' :: F) := by
  obtain ⟨hroom, ys, hyl, hes⟩ := id hd
  refine (Ctr.lend Lends.Pool cb66 (fun G' hle hK => rdAdd_ctr hroom hyl (hes.hp hK) hb (hp.hp hK) hw)).postSt ?_
  rintro F v A w ⟨A', rfl, h⟩ s
  rcases h with ⟨hne, rfl, rfl⟩ | ⟨h0, a, c, rfl, rfl⟩
  · exact ⟨_, ⟨K, D, Hp.le_refl K, by rw [addL_no hne]; exact hd, rfl, rfl⟩, s⟩
  · have s1 := s.perm (.swap _ _ _)
    have hl := s1.Sl_length
    obtain ⟨K', h1, h2, s'⟩ := s1.poolSl
    refine ⟨_, ⟨K', _, h1, ?_, by rw [h0], rfl⟩, s'⟩
    rw [addL_ok h0]
    refine ⟨rfl, _, by rw [List.map_append, hyl]; rfl, rfl, h2, hl.2, fun y hy => ?_⟩
    rcases List.mem_append.1 hy with hy | hy
    · exact (hes.2.2.2 y hy).hp h1
    · obtain rfl := List.mem_singleton.1 hy; exact hp.hp h1
end Go.Proofs.YtaaondbmkibkkaaGreat
