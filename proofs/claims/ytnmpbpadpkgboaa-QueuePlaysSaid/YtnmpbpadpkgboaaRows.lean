/-
  No cell of these rows narrows 'for every input' (looked for: loops, veiled, ifaces, maps, wideKeys, modest, calm, conditions, laid).
  DERIVED. THE GIVEN ROWS OF THIS SEAT. 6 by the template 'for every input the law returns true; each argument reads behind the call as it read before'; 0 by the template 'total and deterministic' (their statements: YtnmpbpadpkgboaaTotals.lean).
  GIVEN WITH THE SEED: the statements are not yours to turn. If you find one false, say at which input.
  Laid BY PROGRAM, IN A SANDBOX (cutbox-rows.mjs): the forced cells as the released guide's own fill.sh prints them over the translation d0005d6cd3ee9d26… (all of the seat's roots in one cut). By AI agents, Wed Nov 11 2026. No macro, syntax, notation, axiom, sorry.
-/
import Derived.Test.YtnmpbpadpkgboaaChecked
import GoSem.Claim
import GoSem.ClaimJoined
import GoSem.ClaimMapViews
import Derived.JoinedTies
import Derived.KernelRfl
namespace Go.Proofs.Ytnmpbpadpkgboaa
/- THE CELL 'sum', in the pinned program and in every row, IS THE sha256 OF THE DUMP (.gsa) THAT YtnmpbpadpkgboaaProg.lean LOADS. Nothing in Lean hashes anything: it is a label: what it is worth is what the hold of that sum in a sandbox is worth. -/
noncomputable def Try.pinned : Pinned := { name := "ytnmpbpadpkgboaa", sum := "d0005d6cd3ee9d26440a8e770f1a3f53c180b152ae755f7b5a7535577f1f8efc", checked := Try.checked }
namespace Rows
def none {H : Type} : Left H := { results := [], args := [] }

/-- 'concourselaw17.QueueNews': WHATEVER THE INPUT: true; the input reads as it did. -/
def queueNewsSpec : ChangeSpec := { name := "queueNews", fn := fun _ => fun
  | [d] => { results := [.lit (.bool true)], args := [d] }
  | _ => none }
def queueNewsRow : OpenClaim := { program := "ytnmpbpadpkgboaa", sum := "d0005d6cd3ee9d26440a8e770f1a3f53c180b152ae755f7b5a7535577f1f8efc", func := "concourse/concourselaw17.QueueNews", spec := "queueNews", inPlace := ["internal/bytealg.IndexByteString", "internal/bytealg.IndexString", "internal/bytealg.Compare"], unfollowed := true, recurses := true, named := ["internal/bytealg.MaxLen"], plainKeys := false, apart := false }
def QueueNewsSaid : Prop := queueNewsRow.holds Try.pinned (OpenSpec.ofChange queueNewsSpec)

/-- ITS FALSE NEIGHBOUR: 'it returns false'. Refute it at one input. -/
def queueNewsWrong : ChangeSpec := { name := "queueNews", fn := fun _ => fun
  | [d] => { results := [.lit (.bool false)], args := [d] }
  | _ => none }
def QueueNewsWrongFalsely : Prop := queueNewsRow.holds Try.pinned (OpenSpec.ofChange queueNewsWrong)

/-- 'concourselaw17.QueueBounds': WHATEVER THE INPUT: true; the input reads as it did. -/
def queueBoundsSpec : ChangeSpec := { name := "queueBounds", fn := fun _ => fun
  | [d1, d2] => { results := [.lit (.bool true)], args := [d1, d2] }
  | _ => none }
def queueBoundsRow : OpenClaim := { program := "ytnmpbpadpkgboaa", sum := "d0005d6cd3ee9d26440a8e770f1a3f53c180b152ae755f7b5a7535577f1f8efc", func := "concourse/concourselaw17.QueueBounds", spec := "queueBounds", inPlace := ["internal/bytealg.IndexByteString", "internal/bytealg.IndexString", "internal/bytealg.Compare"], unfollowed := true, recurses := true, named := ["internal/bytealg.MaxLen"], plainKeys := false, apart := false }
def QueueBoundsSaid : Prop := queueBoundsRow.holds Try.pinned (OpenSpec.ofChange queueBoundsSpec)

/-- ITS FALSE NEIGHBOUR: 'it returns false'. Refute it at one input. -/
def queueBoundsWrong : ChangeSpec := { name := "queueBounds", fn := fun _ => fun
  | [d1, d2] => { results := [.lit (.bool false)], args := [d1, d2] }
  | _ => none }
def QueueBoundsWrongFalsely : Prop := queueBoundsRow.holds Try.pinned (OpenSpec.ofChange queueBoundsWrong)

/-- 'concourselaw17.QueueKeys': WHATEVER THE INPUT: true; the input reads as it did. -/
def queueKeysSpec : ChangeSpec := { name := "queueKeys", fn := fun _ => fun
  | [d] => { results := [.lit (.bool true)], args := [d] }
  | _ => none }
def queueKeysRow : OpenClaim := { program := "ytnmpbpadpkgboaa", sum := "d0005d6cd3ee9d26440a8e770f1a3f53c180b152ae755f7b5a7535577f1f8efc", func := "concourse/concourselaw17.QueueKeys", spec := "queueKeys", inPlace := ["internal/bytealg.IndexByteString", "internal/bytealg.IndexString", "internal/bytealg.Compare"], unfollowed := true, recurses := true, named := ["internal/bytealg.MaxLen"], plainKeys := false, apart := false }
def QueueKeysSaid : Prop := queueKeysRow.holds Try.pinned (OpenSpec.ofChange queueKeysSpec)

/-- ITS FALSE NEIGHBOUR: 'it returns false'. Refute it at one input. -/
def queueKeysWrong : ChangeSpec := { name := "queueKeys", fn := fun _ => fun
  | [d] => { results := [.lit (.bool false)], args := [d] }
  | _ => none }
def QueueKeysWrongFalsely : Prop := queueKeysRow.holds Try.pinned (OpenSpec.ofChange queueKeysWrong)

/-- 'concourselaw17.QueueTakes': WHATEVER THE INPUT: true; the input reads as it did. -/
def queueTakesSpec : ChangeSpec := { name := "queueTakes", fn := fun _ => fun
  | [d1, d2] => { results := [.lit (.bool true)], args := [d1, d2] }
  | _ => none }
def queueTakesRow : OpenClaim := { program := "ytnmpbpadpkgboaa", sum := "d0005d6cd3ee9d26440a8e770f1a3f53c180b152ae755f7b5a7535577f1f8efc", func := "concourse/concourselaw17.QueueTakes", spec := "queueTakes", inPlace := ["internal/bytealg.IndexByteString", "internal/bytealg.IndexString", "internal/bytealg.Compare"], unfollowed := true, recurses := true, named := ["internal/bytealg.MaxLen"], plainKeys := false, apart := false }
def QueueTakesSaid : Prop := queueTakesRow.holds Try.pinned (OpenSpec.ofChange queueTakesSpec)

/-- ITS FALSE NEIGHBOUR: 'it returns false'. Refute it at one input. -/
def queueTakesWrong : ChangeSpec := { name := "queueTakes", fn := fun _ => fun
  | [d1, d2] => { results := [.lit (.bool false)], args := [d1, d2] }
  | _ => none }
def QueueTakesWrongFalsely : Prop := queueTakesRow.holds Try.pinned (OpenSpec.ofChange queueTakesWrong)

/-- 'concourselaw17.QueueRow': WHATEVER THE INPUT: true; the input reads as it did. -/
def queueRowSpec : ChangeSpec := { name := "queueRow", fn := fun _ => fun
  | [d] => { results := [.lit (.bool true)], args := [d] }
  | _ => none }
def queueRowRow : OpenClaim := { program := "ytnmpbpadpkgboaa", sum := "d0005d6cd3ee9d26440a8e770f1a3f53c180b152ae755f7b5a7535577f1f8efc", func := "concourse/concourselaw17.QueueRow", spec := "queueRow", inPlace := ["internal/bytealg.IndexByteString", "internal/bytealg.IndexString", "internal/bytealg.Compare"], unfollowed := true, recurses := true, named := ["internal/bytealg.MaxLen"], plainKeys := false, apart := false }
def QueueRowSaid : Prop := queueRowRow.holds Try.pinned (OpenSpec.ofChange queueRowSpec)

/-- ITS FALSE NEIGHBOUR: 'it returns false'. Refute it at one input. -/
def queueRowWrong : ChangeSpec := { name := "queueRow", fn := fun _ => fun
  | [d] => { results := [.lit (.bool false)], args := [d] }
  | _ => none }
def QueueRowWrongFalsely : Prop := queueRowRow.holds Try.pinned (OpenSpec.ofChange queueRowWrong)

/-- 'concourselaw17.QueuePlays': WHATEVER THE INPUT: true; the input reads as it did. -/
def queuePlaysSpec : ChangeSpec := { name := "queuePlays", fn := fun _ => fun
  | [d1, d2, d3] => { results := [.lit (.bool true)], args := [d1, d2, d3] }
  | _ => none }
def queuePlaysRow : OpenClaim := { program := "ytnmpbpadpkgboaa", sum := "d0005d6cd3ee9d26440a8e770f1a3f53c180b152ae755f7b5a7535577f1f8efc", func := "concourse/concourselaw17.QueuePlays", spec := "queuePlays", inPlace := ["internal/bytealg.IndexByteString", "internal/bytealg.IndexString", "internal/bytealg.Compare"], unfollowed := true, recurses := true, named := ["internal/bytealg.MaxLen"], plainKeys := false, apart := false }
def QueuePlaysSaid : Prop := queuePlaysRow.holds Try.pinned (OpenSpec.ofChange queuePlaysSpec)

/-- ITS FALSE NEIGHBOUR: 'it returns false'. Refute it at one input. -/
def queuePlaysWrong : ChangeSpec := { name := "queuePlays", fn := fun _ => fun
  | [d1, d2, d3] => { results := [.lit (.bool false)], args := [d1, d2, d3] }
  | _ => none }
def QueuePlaysWrongFalsely : Prop := queuePlaysRow.holds Try.pinned (OpenSpec.ofChange queuePlaysWrong)

/- THE SECOND FORM. 'bulk': how many values and letters a reading holds, each counted each time it is reached (what is shared counts as often as it is met; a slice's spare places count too). A statement '..UptoSaid' is the law's where the arguments, and the package variables that the reading takes, are together of bulk at most 1048576: NARROWER than '..Said'. Prove '..Said' where nothing that the law and all that it calls make is longer than what came in: it says more and counts as full. Else prove '..UptoSaid'. A law counts once. -/
mutual
def uptoBulk {H : Type} : DataW H → Nat
  | .lit (.string bytes) => bytes.length + 1
  | .lit _ => 1
  | .nil => 1
  | .ptr d => uptoBulk d + 1
  | .slice elems spare => uptoBulkAll elems + uptoBulkAll spare + 1
  | .agg parts => uptoBulkAll parts + 1
  | .iface _ d => uptoBulk d + 1
  | .map entries => uptoBulkEntries entries + 1
  | .held _ => 1
def uptoBulkAll {H : Type} : List (DataW H) → Nat
  | [] => 0
  | d :: r => uptoBulk d + uptoBulkAll r
def uptoBulkEntries {H : Type} : List (Lit × DataW H) → Nat
  | [] => 0
  | x :: r => uptoBulkEntry x + uptoBulkEntries r
def uptoBulkEntry {H : Type} : Lit × DataW H → Nat
  | (.string bytes, d) => bytes.length + uptoBulk d + 1
  | (_, d) => uptoBulk d + 1
 end
def uptoSmall : (H : Type) → List (DataW H) → Bool := fun _ ds => decide (uptoBulkAll ds ≤ 1048576)
def OpenSpec.upto (s : _root_.Go.ChangeSpec) : _root_.Go.OpenSpec := { _root_.Go.OpenSpec.ofChange s with cond := some uptoSmall }

/-- 'concourselaw17.QueueNews', WHERE WHAT IT READS IS OF BULK AT MOST 1048576: true; the input reads as it did. -/
def queueNewsUptoRow : OpenClaim := { program := "ytnmpbpadpkgboaa", sum := "d0005d6cd3ee9d26440a8e770f1a3f53c180b152ae755f7b5a7535577f1f8efc", func := "concourse/concourselaw17.QueueNews", spec := "queueNews", inPlace := ["internal/bytealg.IndexByteString", "internal/bytealg.IndexString", "internal/bytealg.Compare"], unfollowed := true, recurses := true, named := ["internal/bytealg.MaxLen"], plainKeys := false, apart := false, narrowed := true }
def QueueNewsUptoSaid : Prop := queueNewsUptoRow.holds Try.pinned (OpenSpec.upto queueNewsSpec)

/-- 'concourselaw17.QueueBounds', WHERE WHAT IT READS IS OF BULK AT MOST 1048576: true; the input reads as it did. -/
def queueBoundsUptoRow : OpenClaim := { program := "ytnmpbpadpkgboaa", sum := "d0005d6cd3ee9d26440a8e770f1a3f53c180b152ae755f7b5a7535577f1f8efc", func := "concourse/concourselaw17.QueueBounds", spec := "queueBounds", inPlace := ["internal/bytealg.IndexByteString", "internal/bytealg.IndexString", "internal/bytealg.Compare"], unfollowed := true, recurses := true, named := ["internal/bytealg.MaxLen"], plainKeys := false, apart := false, narrowed := true }
def QueueBoundsUptoSaid : Prop := queueBoundsUptoRow.holds Try.pinned (OpenSpec.upto queueBoundsSpec)

/-- 'concourselaw17.QueueKeys', WHERE WHAT IT READS IS OF BULK AT MOST 1048576: true; the input reads as it did. -/
def queueKeysUptoRow : OpenClaim := { program := "ytnmpbpadpkgboaa", sum := "d0005d6cd3ee9d26440a8e770f1a3f53c180b152ae755f7b5a7535577f1f8efc", func := "concourse/concourselaw17.QueueKeys", spec := "queueKeys", inPlace := ["internal/bytealg.IndexByteString", "internal/bytealg.IndexString", "internal/bytealg.Compare"], unfollowed := true, recurses := true, named := ["internal/bytealg.MaxLen"], plainKeys := false, apart := false, narrowed := true }
def QueueKeysUptoSaid : Prop := queueKeysUptoRow.holds Try.pinned (OpenSpec.upto queueKeysSpec)

/-- 'concourselaw17.QueueTakes', WHERE WHAT IT READS IS OF BULK AT MOST 1048576: true; the input reads as it did. -/
def queueTakesUptoRow : OpenClaim := { program := "ytnmpbpadpkgboaa", sum := "d0005d6cd3ee9d26440a8e770f1a3f53c180b152ae755f7b5a7535577f1f8efc", func := "concourse/concourselaw17.QueueTakes", spec := "queueTakes", inPlace := ["internal/bytealg.IndexByteString", "internal/bytealg.IndexString", "internal/bytealg.Compare"], unfollowed := true, recurses := true, named := ["internal/bytealg.MaxLen"], plainKeys := false, apart := false, narrowed := true }
def QueueTakesUptoSaid : Prop := queueTakesUptoRow.holds Try.pinned (OpenSpec.upto queueTakesSpec)

/-- 'concourselaw17.QueueRow', WHERE WHAT IT READS IS OF BULK AT MOST 1048576: true; the input reads as it did. -/
def queueRowUptoRow : OpenClaim := { program := "ytnmpbpadpkgboaa", sum := "d0005d6cd3ee9d26440a8e770f1a3f53c180b152ae755f7b5a7535577f1f8efc", func := "concourse/concourselaw17.QueueRow", spec := "queueRow", inPlace := ["internal/bytealg.IndexByteString", "internal/bytealg.IndexString", "internal/bytealg.Compare"], unfollowed := true, recurses := true, named := ["internal/bytealg.MaxLen"], plainKeys := false, apart := false, narrowed := true }
def QueueRowUptoSaid : Prop := queueRowUptoRow.holds Try.pinned (OpenSpec.upto queueRowSpec)

/-- 'concourselaw17.QueuePlays', WHERE WHAT IT READS IS OF BULK AT MOST 1048576: true; the input reads as it did. -/
def queuePlaysUptoRow : OpenClaim := { program := "ytnmpbpadpkgboaa", sum := "d0005d6cd3ee9d26440a8e770f1a3f53c180b152ae755f7b5a7535577f1f8efc", func := "concourse/concourselaw17.QueuePlays", spec := "queuePlays", inPlace := ["internal/bytealg.IndexByteString", "internal/bytealg.IndexString", "internal/bytealg.Compare"], unfollowed := true, recurses := true, named := ["internal/bytealg.MaxLen"], plainKeys := false, apart := false, narrowed := true }
def QueuePlaysUptoSaid : Prop := queuePlaysUptoRow.holds Try.pinned (OpenSpec.upto queuePlaysSpec)

end Rows
end Go.Proofs.Ytnmpbpadpkgboaa
