/-
  No cell of these rows narrows 'for every input' (looked for: loops, veiled, ifaces, maps, wideKeys, modest, calm, conditions, laid).
  DERIVED. THE GIVEN ROWS OF THIS SEAT. 7 by the template 'for every input the law returns true; each argument reads behind the call as it read before'; 0 by the template 'total and deterministic' (their statements: YtghmmjifmnmbgaaTotals.lean).
  GIVEN WITH THE SEED: the statements are not yours to turn. If you find one false, say at which input.
  Laid BY PROGRAM, IN A SANDBOX (cutbox-rows.mjs): the forced cells as the released guide's own fill.sh prints them over the translation e3dcf5713a58ce2f… (all of the seat's roots in one cut). By AI agents, Wed Nov 11 2026. No macro, syntax, notation, axiom, sorry.
-/
import Derived.Test.YtghmmjifmnmbgaaChecked
import GoSem.Claim
import GoSem.ClaimJoined
import GoSem.ClaimMapViews
import Derived.JoinedTies
import Derived.KernelRfl
namespace Go.Proofs.Ytghmmjifmnmbgaa
/- THE CELL 'sum', in the pinned program and in every row, IS THE sha256 OF THE DUMP (.gsa) THAT YtghmmjifmnmbgaaProg.lean LOADS. Nothing in Lean hashes anything: it is a label: what it is worth is what the hold of that sum in a sandbox is worth. -/
noncomputable def Try.pinned : Pinned := { name := "ytghmmjifmnmbgaa", sum := "e3dcf5713a58ce2fb8d67fc76ee03390ac5a98aa6d226a5075cd0a47ccc8a00f", checked := Try.checked }
namespace Rows
def none {H : Type} : Left H := { results := [], args := [] }

/-- 'concourselaw07.DagMay': WHATEVER THE INPUT: true; the input reads as it did. -/
def dagMaySpec : ChangeSpec := { name := "dagMay", fn := fun _ => fun
  | [d1, d2, d3, d4] => { results := [.lit (.bool true)], args := [d1, d2, d3, d4] }
  | _ => none }
def dagMayRow : OpenClaim := { program := "ytghmmjifmnmbgaa", sum := "e3dcf5713a58ce2fb8d67fc76ee03390ac5a98aa6d226a5075cd0a47ccc8a00f", func := "concourse/concourselaw07.DagMay", spec := "dagMay", inPlace := ["internal/bytealg.IndexByteString", "internal/bytealg.IndexString"], unfollowed := true, recurses := true, named := ["internal/bytealg.MaxLen"], apart := false }
def DagMaySaid : Prop := dagMayRow.holds Try.pinned (OpenSpec.ofChange dagMaySpec)

/-- ITS FALSE NEIGHBOUR: 'it returns false'. Refute it at one input. -/
def dagMayWrong : ChangeSpec := { name := "dagMay", fn := fun _ => fun
  | [d1, d2, d3, d4] => { results := [.lit (.bool false)], args := [d1, d2, d3, d4] }
  | _ => none }
def DagMayWrongFalsely : Prop := dagMayRow.holds Try.pinned (OpenSpec.ofChange dagMayWrong)

/-- 'concourselaw07.DagDepths': WHATEVER THE INPUT: true; the input reads as it did. -/
def dagDepthsSpec : ChangeSpec := { name := "dagDepths", fn := fun _ => fun
  | [d] => { results := [.lit (.bool true)], args := [d] }
  | _ => none }
def dagDepthsRow : OpenClaim := { program := "ytghmmjifmnmbgaa", sum := "e3dcf5713a58ce2fb8d67fc76ee03390ac5a98aa6d226a5075cd0a47ccc8a00f", func := "concourse/concourselaw07.DagDepths", spec := "dagDepths", inPlace := ["internal/bytealg.IndexByteString", "internal/bytealg.IndexString"], unfollowed := true, recurses := true, named := ["internal/bytealg.MaxLen"], apart := false }
def DagDepthsSaid : Prop := dagDepthsRow.holds Try.pinned (OpenSpec.ofChange dagDepthsSpec)

/-- ITS FALSE NEIGHBOUR: 'it returns false'. Refute it at one input. -/
def dagDepthsWrong : ChangeSpec := { name := "dagDepths", fn := fun _ => fun
  | [d] => { results := [.lit (.bool false)], args := [d] }
  | _ => none }
def DagDepthsWrongFalsely : Prop := dagDepthsRow.holds Try.pinned (OpenSpec.ofChange dagDepthsWrong)

/-- 'concourselaw07.DagRow': WHATEVER THE INPUT: true; the input reads as it did. -/
def dagRowSpec : ChangeSpec := { name := "dagRow", fn := fun _ => fun
  | [d1, d2, d3] => { results := [.lit (.bool true)], args := [d1, d2, d3] }
  | _ => none }
def dagRowRow : OpenClaim := { program := "ytghmmjifmnmbgaa", sum := "e3dcf5713a58ce2fb8d67fc76ee03390ac5a98aa6d226a5075cd0a47ccc8a00f", func := "concourse/concourselaw07.DagRow", spec := "dagRow", inPlace := ["internal/bytealg.IndexByteString", "internal/bytealg.IndexString"], unfollowed := true, recurses := true, named := ["internal/bytealg.MaxLen"], apart := false }
def DagRowSaid : Prop := dagRowRow.holds Try.pinned (OpenSpec.ofChange dagRowSpec)

/-- ITS FALSE NEIGHBOUR: 'it returns false'. Refute it at one input. -/
def dagRowWrong : ChangeSpec := { name := "dagRow", fn := fun _ => fun
  | [d1, d2, d3] => { results := [.lit (.bool false)], args := [d1, d2, d3] }
  | _ => none }
def DagRowWrongFalsely : Prop := dagRowRow.holds Try.pinned (OpenSpec.ofChange dagRowWrong)

/-- 'concourselaw07.DagOwns': WHATEVER THE INPUT: true; the input reads as it did. -/
def dagOwnsSpec : ChangeSpec := { name := "dagOwns", fn := fun _ => fun
  | [d1, d2, d3] => { results := [.lit (.bool true)], args := [d1, d2, d3] }
  | _ => none }
def dagOwnsRow : OpenClaim := { program := "ytghmmjifmnmbgaa", sum := "e3dcf5713a58ce2fb8d67fc76ee03390ac5a98aa6d226a5075cd0a47ccc8a00f", func := "concourse/concourselaw07.DagOwns", spec := "dagOwns", inPlace := ["internal/bytealg.IndexByteString", "internal/bytealg.IndexString"], unfollowed := true, recurses := true, named := ["internal/bytealg.MaxLen"], apart := false }
def DagOwnsSaid : Prop := dagOwnsRow.holds Try.pinned (OpenSpec.ofChange dagOwnsSpec)

/-- ITS FALSE NEIGHBOUR: 'it returns false'. Refute it at one input. -/
def dagOwnsWrong : ChangeSpec := { name := "dagOwns", fn := fun _ => fun
  | [d1, d2, d3] => { results := [.lit (.bool false)], args := [d1, d2, d3] }
  | _ => none }
def DagOwnsWrongFalsely : Prop := dagOwnsRow.holds Try.pinned (OpenSpec.ofChange dagOwnsWrong)

/-- 'concourselaw07.DagAdds': WHATEVER THE INPUT: true; the input reads as it did. -/
def dagAddsSpec : ChangeSpec := { name := "dagAdds", fn := fun _ => fun
  | [d1, d2, d3] => { results := [.lit (.bool true)], args := [d1, d2, d3] }
  | _ => none }
def dagAddsRow : OpenClaim := { program := "ytghmmjifmnmbgaa", sum := "e3dcf5713a58ce2fb8d67fc76ee03390ac5a98aa6d226a5075cd0a47ccc8a00f", func := "concourse/concourselaw07.DagAdds", spec := "dagAdds", inPlace := ["internal/bytealg.IndexByteString", "internal/bytealg.IndexString"], unfollowed := true, recurses := true, named := ["internal/bytealg.MaxLen"], apart := false }
def DagAddsSaid : Prop := dagAddsRow.holds Try.pinned (OpenSpec.ofChange dagAddsSpec)

/-- ITS FALSE NEIGHBOUR: 'it returns false'. Refute it at one input. -/
def dagAddsWrong : ChangeSpec := { name := "dagAdds", fn := fun _ => fun
  | [d1, d2, d3] => { results := [.lit (.bool false)], args := [d1, d2, d3] }
  | _ => none }
def DagAddsWrongFalsely : Prop := dagAddsRow.holds Try.pinned (OpenSpec.ofChange dagAddsWrong)

/-- 'concourselaw07.DagOrder': WHATEVER THE INPUT: true; the input reads as it did. -/
def dagOrderSpec : ChangeSpec := { name := "dagOrder", fn := fun _ => fun
  | [d1, d2] => { results := [.lit (.bool true)], args := [d1, d2] }
  | _ => none }
def dagOrderRow : OpenClaim := { program := "ytghmmjifmnmbgaa", sum := "e3dcf5713a58ce2fb8d67fc76ee03390ac5a98aa6d226a5075cd0a47ccc8a00f", func := "concourse/concourselaw07.DagOrder", spec := "dagOrder", inPlace := ["internal/bytealg.IndexByteString", "internal/bytealg.IndexString"], unfollowed := true, recurses := true, named := ["internal/bytealg.MaxLen"], apart := false }
def DagOrderSaid : Prop := dagOrderRow.holds Try.pinned (OpenSpec.ofChange dagOrderSpec)

/-- ITS FALSE NEIGHBOUR: 'it returns false'. Refute it at one input. -/
def dagOrderWrong : ChangeSpec := { name := "dagOrder", fn := fun _ => fun
  | [d1, d2] => { results := [.lit (.bool false)], args := [d1, d2] }
  | _ => none }
def DagOrderWrongFalsely : Prop := dagOrderRow.holds Try.pinned (OpenSpec.ofChange dagOrderWrong)

/-- 'concourselaw07.DagRefuses': WHATEVER THE INPUT: true; the input reads as it did. -/
def dagRefusesSpec : ChangeSpec := { name := "dagRefuses", fn := fun _ => fun
  | [d1, d2, d3, d4] => { results := [.lit (.bool true)], args := [d1, d2, d3, d4] }
  | _ => none }
def dagRefusesRow : OpenClaim := { program := "ytghmmjifmnmbgaa", sum := "e3dcf5713a58ce2fb8d67fc76ee03390ac5a98aa6d226a5075cd0a47ccc8a00f", func := "concourse/concourselaw07.DagRefuses", spec := "dagRefuses", inPlace := ["internal/bytealg.IndexByteString", "internal/bytealg.IndexString"], unfollowed := true, recurses := true, named := ["internal/bytealg.MaxLen"], apart := false }
def DagRefusesSaid : Prop := dagRefusesRow.holds Try.pinned (OpenSpec.ofChange dagRefusesSpec)

/-- ITS FALSE NEIGHBOUR: 'it returns false'. Refute it at one input. -/
def dagRefusesWrong : ChangeSpec := { name := "dagRefuses", fn := fun _ => fun
  | [d1, d2, d3, d4] => { results := [.lit (.bool false)], args := [d1, d2, d3, d4] }
  | _ => none }
def DagRefusesWrongFalsely : Prop := dagRefusesRow.holds Try.pinned (OpenSpec.ofChange dagRefusesWrong)

/- THE SECOND FORM. 'bulk': how many values and letters a reading holds, each counted each time it is reached (what is shared counts as often as it is met; a slice's spare places count too). A statement '..UptoSaid' is the law's where the arguments, and the package variables that the reading takes, are together of bulk at most 1048576: NARROWER than '..Said'. Prove '..Said' where nothing that the law and all that it calls make is longer than what came in: it says more and counts as full. Else prove '..UptoSaid'. A law counts once. -/
mutual
def uptoBulk {H : Type} : DataW H → Nat
  | .lit (.string bytes) => bytes.length + 1
  | .lit _ => 1
  | .nil => 1
  | .ptr d => uptoBulk d + 1
  | .slice elems spare => uptoBulkAll elems + uptoBulkAll spare + 1
  | .agg parts => uptoBulkAll parts + 1
  | .iface _ d => uptoBulk d + 1
  | .map entries => uptoBulkEntries entries + 1
  | .held _ => 1
def uptoBulkAll {H : Type} : List (DataW H) → Nat
  | [] => 0
  | d :: r => uptoBulk d + uptoBulkAll r
def uptoBulkEntries {H : Type} : List (Lit × DataW H) → Nat
  | [] => 0
  | x :: r => uptoBulkEntry x + uptoBulkEntries r
def uptoBulkEntry {H : Type} : Lit × DataW H → Nat
  | (.string bytes, d) => bytes.length + uptoBulk d + 1
  | (_, d) => uptoBulk d + 1
 end
def uptoSmall : (H : Type) → List (DataW H) → Bool := fun _ ds => decide (uptoBulkAll ds ≤ 1048576)
def OpenSpec.upto (s : _root_.Go.ChangeSpec) : _root_.Go.OpenSpec := { _root_.Go.OpenSpec.ofChange s with cond := some uptoSmall }

/-- 'concourselaw07.DagMay', WHERE WHAT IT READS IS OF BULK AT MOST 1048576: true; the input reads as it did. -/
def dagMayUptoRow : OpenClaim := { program := "ytghmmjifmnmbgaa", sum := "e3dcf5713a58ce2fb8d67fc76ee03390ac5a98aa6d226a5075cd0a47ccc8a00f", func := "concourse/concourselaw07.DagMay", spec := "dagMay", inPlace := ["internal/bytealg.IndexByteString", "internal/bytealg.IndexString"], unfollowed := true, recurses := true, named := ["internal/bytealg.MaxLen"], apart := false, narrowed := true }
def DagMayUptoSaid : Prop := dagMayUptoRow.holds Try.pinned (OpenSpec.upto dagMaySpec)

/-- 'concourselaw07.DagDepths', WHERE WHAT IT READS IS OF BULK AT MOST 1048576: true; the input reads as it did. -/
def dagDepthsUptoRow : OpenClaim := { program := "ytghmmjifmnmbgaa", sum := "e3dcf5713a58ce2fb8d67fc76ee03390ac5a98aa6d226a5075cd0a47ccc8a00f", func := "concourse/concourselaw07.DagDepths", spec := "dagDepths", inPlace := ["internal/bytealg.IndexByteString", "internal/bytealg.IndexString"], unfollowed := true, recurses := true, named := ["internal/bytealg.MaxLen"], apart := false, narrowed := true }
def DagDepthsUptoSaid : Prop := dagDepthsUptoRow.holds Try.pinned (OpenSpec.upto dagDepthsSpec)

/-- 'concourselaw07.DagRow', WHERE WHAT IT READS IS OF BULK AT MOST 1048576: true; the input reads as it did. -/
def dagRowUptoRow : OpenClaim := { program := "ytghmmjifmnmbgaa", sum := "e3dcf5713a58ce2fb8d67fc76ee03390ac5a98aa6d226a5075cd0a47ccc8a00f", func := "concourse/concourselaw07.DagRow", spec := "dagRow", inPlace := ["internal/bytealg.IndexByteString", "internal/bytealg.IndexString"], unfollowed := true, recurses := true, named := ["internal/bytealg.MaxLen"], apart := false, narrowed := true }
def DagRowUptoSaid : Prop := dagRowUptoRow.holds Try.pinned (OpenSpec.upto dagRowSpec)

/-- 'concourselaw07.DagOwns', WHERE WHAT IT READS IS OF BULK AT MOST 1048576: true; the input reads as it did. -/
def dagOwnsUptoRow : OpenClaim := { program := "ytghmmjifmnmbgaa", sum := "e3dcf5713a58ce2fb8d67fc76ee03390ac5a98aa6d226a5075cd0a47ccc8a00f", func := "concourse/concourselaw07.DagOwns", spec := "dagOwns", inPlace := ["internal/bytealg.IndexByteString", "internal/bytealg.IndexString"], unfollowed := true, recurses := true, named := ["internal/bytealg.MaxLen"], apart := false, narrowed := true }
def DagOwnsUptoSaid : Prop := dagOwnsUptoRow.holds Try.pinned (OpenSpec.upto dagOwnsSpec)

/-- 'concourselaw07.DagAdds', WHERE WHAT IT READS IS OF BULK AT MOST 1048576: true; the input reads as it did. -/
def dagAddsUptoRow : OpenClaim := { program := "ytghmmjifmnmbgaa", sum := "e3dcf5713a58ce2fb8d67fc76ee03390ac5a98aa6d226a5075cd0a47ccc8a00f", func := "concourse/concourselaw07.DagAdds", spec := "dagAdds", inPlace := ["internal/bytealg.IndexByteString", "internal/bytealg.IndexString"], unfollowed := true, recurses := true, named := ["internal/bytealg.MaxLen"], apart := false, narrowed := true }
def DagAddsUptoSaid : Prop := dagAddsUptoRow.holds Try.pinned (OpenSpec.upto dagAddsSpec)

/-- 'concourselaw07.DagOrder', WHERE WHAT IT READS IS OF BULK AT MOST 1048576: true; the input reads as it did. -/
def dagOrderUptoRow : OpenClaim := { program := "ytghmmjifmnmbgaa", sum := "e3dcf5713a58ce2fb8d67fc76ee03390ac5a98aa6d226a5075cd0a47ccc8a00f", func := "concourse/concourselaw07.DagOrder", spec := "dagOrder", inPlace := ["internal/bytealg.IndexByteString", "internal/bytealg.IndexString"], unfollowed := true, recurses := true, named := ["internal/bytealg.MaxLen"], apart := false, narrowed := true }
def DagOrderUptoSaid : Prop := dagOrderUptoRow.holds Try.pinned (OpenSpec.upto dagOrderSpec)

/-- 'concourselaw07.DagRefuses', WHERE WHAT IT READS IS OF BULK AT MOST 1048576: true; the input reads as it did. -/
def dagRefusesUptoRow : OpenClaim := { program := "ytghmmjifmnmbgaa", sum := "e3dcf5713a58ce2fb8d67fc76ee03390ac5a98aa6d226a5075cd0a47ccc8a00f", func := "concourse/concourselaw07.DagRefuses", spec := "dagRefuses", inPlace := ["internal/bytealg.IndexByteString", "internal/bytealg.IndexString"], unfollowed := true, recurses := true, named := ["internal/bytealg.MaxLen"], apart := false, narrowed := true }
def DagRefusesUptoSaid : Prop := dagRefusesUptoRow.holds Try.pinned (OpenSpec.upto dagRefusesSpec)

end Rows
end Go.Proofs.Ytghmmjifmnmbgaa
