/- Lending with a way back; contracts over states; many atoms in one. Nothing of a program stands here. -/
import Derived.Test.YtghmmjifmnmbgaaCsl26
set_option linter.unusedVariables false
set_option linter.unusedSimpArgs false
namespace Go.Proofs.Ytghmmjifmnmbgaa.Csl
open Go
section
variable {c : Cx} {G G' : Gp} {ops : Array Oper} {kk : KT} {e : Env} {A A' : List HProp} {lo : List Oper} {st : List Item} {Q : HProp} {R : Gp → Prop}
/-- What is lent, until it is given back. -/
theorem Run.lendB (hl : Lends Q R) (hf : Find Q A A') (next : ∀ G' : Gp, Gp.le G G' → R G' → (∀ A' w', St G' A' w' → St G (Q :: A') w') → Run c G' st e A') : Run c G st e A := fun a w h s => by
  obtain ⟨K, r, s', back⟩ := hl G A' w (s.find hf)
  exact next _ Gp.le_join r back a w h s'
theorem RunL.lendB (hl : Lends Q R) (hf : Find Q A A') (next : ∀ G' : Gp, Gp.le G G' → R G' → (∀ A' w', St G' A' w' → St G (Q :: A') w') → RunL c G' ops lo kk e A') : RunL c G ops lo kk e A := fun a w h s => by
  obtain ⟨K, r, s', back⟩ := hl G A' w (s.find hf)
  exact next _ Gp.le_join r back a w h s'
theorem Run.backB (back : ∀ A' w', St G' A' w' → St G (Q :: A') w') (next : Run c G st e (Q :: A)) : Run c G' st e A := fun a w h s => next a w h (back _ _ s)
theorem RunL.backB (back : ∀ A' w', St G' A' w' → St G (Q :: A') w') (next : RunL c G ops lo kk e (Q :: A)) : RunL c G' ops lo kk e A := fun a w h s => next a w h (back _ _ s)
end
section
variable {P : Program} {G : Gp} {f : FuncId} {args : List Value} {pre pre' : List HProp} {post post' : Post}
theorem Ctr.postSt (h : Ctr P G f args pre post) (i : ∀ F v A w, post F v A → St G A w → ∃ A', post' F v A' ∧ St G A' w) : Ctr P G f args pre post' :=
  ⟨h.1, fun F w s => (h.2 F w s).mono fun e w' ⟨v, A, e1, p, s'⟩ => by
    obtain ⟨A', p', s2⟩ := i F v A w' p s'
    exact ⟨v, A', e1, p', s2⟩⟩
theorem Ctr.preSt (h : Ctr P G f args pre post) (i : ∀ F w, St G (pre' ++ F) w → St G (pre ++ F) w) : Ctr P G f args pre' post := ⟨h.1, fun F w s => h.2 F w (i F w s)⟩
/-- What a contract needs may hang on what the state tells. -/
theorem Ctr.exSt {X : Type} {L : X → List HProp} (hc : Callable P f) (h : ∀ x, Ctr P G f args (L x) post) (i : ∀ F w, St G (pre ++ F) w → ∃ x, St G (L x ++ F) w) : Ctr P G f args pre post := ⟨hc, fun F w s => by
  obtain ⟨x, s'⟩ := i F w s
  exact (h x).2 F w s'⟩
end
/-! ### Many atoms in one -/
def Stars (L : List HProp) : HProp := fun h => stars L h
theorem St.stars_split {G : Gp} {A : List HProp} {w : World} {L : List HProp} : St G (Stars L :: A) w ↔ St G (L ++ A) w := by
  constructor
  · rintro ⟨h, g, s, d, h1, h2, d', e, p, a⟩
    exact ⟨h, g, s, d, stars_append.2 ⟨h1, h2, d', e, p, a⟩⟩
  · rintro ⟨h, g, s, d, a⟩
    obtain ⟨h1, h2, d', e, p, a'⟩ := stars_append.1 a
    exact ⟨h, g, s, d, h1, h2, d', e, p, a'⟩
theorem St.stars_peel {G : Gp} {A : List HProp} {w : World} {s t : List HProp} {Q : HProp} : St G (Stars (s ++ Q :: t) :: A) w ↔ St G (Q :: Stars (s ++ t) :: A) w := by
  have pm : ((s ++ Q :: t) ++ A).Perm (Q :: ((s ++ t) ++ A)) := by
    rw [List.append_assoc, List.append_assoc]; exact List.perm_middle
  constructor
  · intro q
    have q1 := (St.stars_split.1 q).perm pm
    have q2 : St G ((s ++ t) ++ (Q :: A)) w := q1.perm (List.perm_middle.symm)
    exact (St.stars_split.2 q2).perm (.swap _ _ _)
  · intro q
    have q1 := St.stars_split.1 (q.perm (.swap _ _ _))
    have q2 : St G (Q :: ((s ++ t) ++ A)) w := q1.perm List.perm_middle
    exact St.stars_split.2 (q2.perm pm.symm)
theorem St.stars_nil {G : Gp} {A : List HProp} {w : World} (s : St G A w) : St G (Stars [] :: A) w := St.stars_split.2 s
section
variable {c : Cx} {G : Gp} {ops : Array Oper} {kk : KT} {e : Env} {A A' : List HProp} {lo : List Oper} {st : List Item} {s t : List HProp} {Q : HProp}
theorem Run.starsNil (next : Run c G st e (Stars [] :: A)) : Run c G st e A := fun ac w h q => next ac w h q.stars_nil
theorem RunL.starsNil (next : RunL c G ops lo kk e (Stars [] :: A)) : RunL c G ops lo kk e A := fun ac w h q => next ac w h q.stars_nil
theorem Run.starsPeel (L : List HProp) (hf : Find (Stars L) A A') (hl : L = s ++ Q :: t) (next : Run c G st e (Q :: Stars (s ++ t) :: A')) : Run c G st e A := fun ac w h q => next ac w h (St.stars_peel.1 (by rw [← hl]; exact q.find hf))
theorem RunL.starsPeel (L : List HProp) (hf : Find (Stars L) A A') (hl : L = s ++ Q :: t) (next : RunL c G ops lo kk e (Q :: Stars (s ++ t) :: A')) : RunL c G ops lo kk e A := fun ac w h q => next ac w h (St.stars_peel.1 (by rw [← hl]; exact q.find hf))
theorem Run.starsBack (L : List HProp) {Q : HProp} (ht : Take [Q, Stars (s ++ t)] A A') (hl : s ++ Q :: t = L) (next : Run c G st e (Stars L :: A')) : Run c G st e A := fun ac w h q => next ac w h (by rw [← hl]; exact St.stars_peel.2 (q.perm ht.perm))
theorem RunL.starsBack (L : List HProp) {Q : HProp} (ht : Take [Q, Stars (s ++ t)] A A') (hl : s ++ Q :: t = L) (next : RunL c G ops lo kk e (Stars L :: A')) : RunL c G ops lo kk e A := fun ac w h q => next ac w h (by rw [← hl]; exact St.stars_peel.2 (q.perm ht.perm))
end
/-- Many slices go into the pool. -/
theorem St.poolStars {G : Gp} {T : TypeId} {sz : Nat} {α : Type} {a : α → Option Addr} {n cap : α → Nat} {cs : α → List Value} : ∀ (l : List α) {A : List HProp} {w : World} {K : Hp}, St G (Stars (l.map fun x => Sl T sz (a x) (n x) (cap x) (cs x)) :: Pool K :: A) w →
    ∃ K', Hp.le K K' ∧ (∀ x ∈ l, SlR (gk K') T sz (a x) (n x) (cs x)) ∧ St G (Pool K' :: A) w
  | [], A, w, K, s => ⟨K, Hp.le_refl K, (fun x hx => by cases hx), St.stars_split.1 s⟩
  | x :: l, A, w, K, s => by
    have s1 : St G (Sl T sz (a x) (n x) (cap x) (cs x) :: Stars (l.map fun x => Sl T sz (a x) (n x) (cap x) (cs x)) :: Pool K :: A) w := St.stars_peel (s := []).1 s
    have s2 := s1.perm (.swap _ _ _)
    have s3 : St G (Stars (l.map fun x => Sl T sz (a x) (n x) (cap x) (cs x)) :: Pool K :: Sl T sz (a x) (n x) (cap x) (cs x) :: A) w := s2.perm (.cons _ (.swap _ _ _))
    obtain ⟨K1, h1, h2, s4⟩ := St.poolStars l s3
    obtain ⟨K2, h3, h4, s5⟩ := (s4.perm (.swap _ _ _)).poolSl
    refine ⟨K2, h1.trans h3, fun y hy => ?_, s5⟩
    rcases List.mem_cons.1 hy with rfl | hy
    · exact h4
    · exact (h2 y hy).pool h3
end Go.Proofs.Ytghmmjifmnmbgaa.Csl
