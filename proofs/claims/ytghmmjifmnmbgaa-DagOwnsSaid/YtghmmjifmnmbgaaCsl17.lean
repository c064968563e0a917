/- Loops whose rounds drop what is not kept. Nothing of a program stands here. -/
import Derived.Test.YtghmmjifmnmbgaaCsl16
set_option linter.unusedVariables false
set_option linter.unusedSimpArgs false
namespace Go.Proofs.Ytghmmjifmnmbgaa.Csl
open Go
theorem Run.againF {c : Cx} {G : Gp} {k : List Item} {e : Env} {F A A2 : List HProp} {I : Nat → Env → List HProp → Prop} {n m : Nat} (ih : ∀ m e' A', m < n → I m e' A' → Run c G k e' A') (hI : I m e A2) (t : Fin F A2 A) (hlt : m < n) : Run c G k e A := Run.fit t (ih m e A2 hlt hI)
theorem Run.meetF {c : Cx} {G : Gp} {k : List Item} {e : Env} {F A A2 : List HProp} {M : Env → List HProp → Prop} (hk : ∀ e A, M e A → Run c G k e A) (hM : M e A2) (t : Fin F A2 A) : Run c G k e A := Run.fit t (hk e A2 hM)
theorem Run.loopF {c : Cx} {G : Gp} {k : List Item} {e : Env} {F A A2 : List HProp} {x : Code} (I : Nat → Env → List HProp → Prop) (n : Nat) (h0 : I n e A2) (t : Fin F A2 A)
    (round : ∀ n e A, I n e A → (∀ m e' A', m < n → I m e' A' → Run c G (.inLoop x :: k) e' A') → Run c G (.code x :: .inLoop x :: k) e A) : Run c G (.code (.loop x) :: k) e A := Run.fit t (Run.loopR I n h0 round)
end Go.Proofs.Ytghmmjifmnmbgaa.Csl
