/-
  No cell of these rows narrows 'for every input' (looked for: loops, veiled, ifaces, maps, wideKeys, modest, calm, conditions, laid).
  DERIVED. THE GIVEN ROWS OF THIS SEAT. 5 by the template 'for every input the law returns true; each argument reads behind the call as it read before'; 0 by the template 'total and deterministic' (their statements: YtppamndllgojnaaTotals.lean).
  GIVEN WITH THE SEED: the statements are not yours to turn. If you find one false, say at which input.
  Laid BY PROGRAM, IN A SANDBOX (cutbox-rows.mjs): the forced cells as the released guide's own fill.sh prints them over the translation b3f89160b1de3592… (all of the seat's roots in one cut). By AI agents, Wed Nov 11 2026. No macro, syntax, notation, axiom, sorry.
-/
import Derived.Test.YtppamndllgojnaaChecked
import GoSem.Claim
import GoSem.ClaimJoined
import GoSem.ClaimMapViews
import Derived.JoinedTies
import Derived.KernelRfl
namespace Go.Proofs.Ytppamndllgojnaa
/- THE CELL 'sum', in the pinned program and in every row, IS THE sha256 OF THE DUMP (.gsa) THAT YtppamndllgojnaaProg.lean LOADS. Nothing in Lean hashes anything: it is a label: what it is worth is what the hold of that sum in a sandbox is worth. -/
noncomputable def Try.pinned : Pinned := { name := "ytppamndllgojnaa", sum := "b3f89160b1de3592a3fbd19366e46744c50fee98b4d9ced64dcd5a860214ece4", checked := Try.checked }
namespace Rows
def none {H : Type} : Left H := { results := [], args := [] }

/-- 'concourselaw06.HeapOnce': WHATEVER THE INPUT: true; the input reads as it did. -/
def heapOnceSpec : ChangeSpec := { name := "heapOnce", fn := fun _ => fun
  | [d1, d2] => { results := [.lit (.bool true)], args := [d1, d2] }
  | _ => none }
def heapOnceRow : OpenClaim := { program := "ytppamndllgojnaa", sum := "b3f89160b1de3592a3fbd19366e46744c50fee98b4d9ced64dcd5a860214ece4", func := "concourse/concourselaw06.HeapOnce", spec := "heapOnce", apart := false }
def HeapOnceSaid : Prop := heapOnceRow.holds Try.pinned (OpenSpec.ofChange heapOnceSpec)

/-- ITS FALSE NEIGHBOUR: 'it returns false'. Refute it at one input. -/
def heapOnceWrong : ChangeSpec := { name := "heapOnce", fn := fun _ => fun
  | [d1, d2] => { results := [.lit (.bool false)], args := [d1, d2] }
  | _ => none }
def HeapOnceWrongFalsely : Prop := heapOnceRow.holds Try.pinned (OpenSpec.ofChange heapOnceWrong)

/-- 'concourselaw06.HeapAsks': WHATEVER THE INPUT: true; the input reads as it did. -/
def heapAsksSpec : ChangeSpec := { name := "heapAsks", fn := fun _ => fun
  | [d1, d2] => { results := [.lit (.bool true)], args := [d1, d2] }
  | _ => none }
def heapAsksRow : OpenClaim := { program := "ytppamndllgojnaa", sum := "b3f89160b1de3592a3fbd19366e46744c50fee98b4d9ced64dcd5a860214ece4", func := "concourse/concourselaw06.HeapAsks", spec := "heapAsks", apart := false }
def HeapAsksSaid : Prop := heapAsksRow.holds Try.pinned (OpenSpec.ofChange heapAsksSpec)

/-- ITS FALSE NEIGHBOUR: 'it returns false'. Refute it at one input. -/
def heapAsksWrong : ChangeSpec := { name := "heapAsks", fn := fun _ => fun
  | [d1, d2] => { results := [.lit (.bool false)], args := [d1, d2] }
  | _ => none }
def HeapAsksWrongFalsely : Prop := heapAsksRow.holds Try.pinned (OpenSpec.ofChange heapAsksWrong)

/-- 'concourselaw06.HeapRow': WHATEVER THE INPUT: true; the input reads as it did. -/
def heapRowSpec : ChangeSpec := { name := "heapRow", fn := fun _ => fun
  | [d] => { results := [.lit (.bool true)], args := [d] }
  | _ => none }
def heapRowRow : OpenClaim := { program := "ytppamndllgojnaa", sum := "b3f89160b1de3592a3fbd19366e46744c50fee98b4d9ced64dcd5a860214ece4", func := "concourse/concourselaw06.HeapRow", spec := "heapRow", unfollowed := true, recurses := true, apart := false }
def HeapRowSaid : Prop := heapRowRow.holds Try.pinned (OpenSpec.ofChange heapRowSpec)

/-- ITS FALSE NEIGHBOUR: 'it returns false'. Refute it at one input. -/
def heapRowWrong : ChangeSpec := { name := "heapRow", fn := fun _ => fun
  | [d] => { results := [.lit (.bool false)], args := [d] }
  | _ => none }
def HeapRowWrongFalsely : Prop := heapRowRow.holds Try.pinned (OpenSpec.ofChange heapRowWrong)

/-- 'concourselaw06.HeapPlays': WHATEVER THE INPUT: true; the input reads as it did. -/
def heapPlaysSpec : ChangeSpec := { name := "heapPlays", fn := fun _ => fun
  | [d] => { results := [.lit (.bool true)], args := [d] }
  | _ => none }
def heapPlaysRow : OpenClaim := { program := "ytppamndllgojnaa", sum := "b3f89160b1de3592a3fbd19366e46744c50fee98b4d9ced64dcd5a860214ece4", func := "concourse/concourselaw06.HeapPlays", spec := "heapPlays", unfollowed := true, recurses := true, apart := false }
def HeapPlaysSaid : Prop := heapPlaysRow.holds Try.pinned (OpenSpec.ofChange heapPlaysSpec)

/-- ITS FALSE NEIGHBOUR: 'it returns false'. Refute it at one input. -/
def heapPlaysWrong : ChangeSpec := { name := "heapPlays", fn := fun _ => fun
  | [d] => { results := [.lit (.bool false)], args := [d] }
  | _ => none }
def HeapPlaysWrongFalsely : Prop := heapPlaysRow.holds Try.pinned (OpenSpec.ofChange heapPlaysWrong)

/-- 'concourselaw06.HeapMoves': WHATEVER THE INPUT: true; the input reads as it did. -/
def heapMovesSpec : ChangeSpec := { name := "heapMoves", fn := fun _ => fun
  | [d1, d2, d3] => { results := [.lit (.bool true)], args := [d1, d2, d3] }
  | _ => none }
def heapMovesRow : OpenClaim := { program := "ytppamndllgojnaa", sum := "b3f89160b1de3592a3fbd19366e46744c50fee98b4d9ced64dcd5a860214ece4", func := "concourse/concourselaw06.HeapMoves", spec := "heapMoves", unfollowed := true, recurses := true, apart := false }
def HeapMovesSaid : Prop := heapMovesRow.holds Try.pinned (OpenSpec.ofChange heapMovesSpec)

/-- ITS FALSE NEIGHBOUR: 'it returns false'. Refute it at one input. -/
def heapMovesWrong : ChangeSpec := { name := "heapMoves", fn := fun _ => fun
  | [d1, d2, d3] => { results := [.lit (.bool false)], args := [d1, d2, d3] }
  | _ => none }
def HeapMovesWrongFalsely : Prop := heapMovesRow.holds Try.pinned (OpenSpec.ofChange heapMovesWrong)

/- THE SECOND FORM. 'bulk': how many values and letters a reading holds, each counted each time it is reached (what is shared counts as often as it is met; a slice's spare places count too). A statement '..UptoSaid' is the law's where the arguments, and the package variables that the reading takes, are together of bulk at most 1048576: NARROWER than '..Said'. Prove '..Said' where nothing that the law and all that it calls make is longer than what came in: it says more and counts as full. Else prove '..UptoSaid'. A law counts once. -/
mutual
def uptoBulk {H : Type} : DataW H → Nat
  | .lit (.string bytes) => bytes.length + 1
  | .lit _ => 1
  | .nil => 1
  | .ptr d => uptoBulk d + 1
  | .slice elems spare => uptoBulkAll elems + uptoBulkAll spare + 1
  | .agg parts => uptoBulkAll parts + 1
  | .iface _ d => uptoBulk d + 1
  | .map entries => uptoBulkEntries entries + 1
  | .held _ => 1
def uptoBulkAll {H : Type} : List (DataW H) → Nat
  | [] => 0
  | d :: r => uptoBulk d + uptoBulkAll r
def uptoBulkEntries {H : Type} : List (Lit × DataW H) → Nat
  | [] => 0
  | x :: r => uptoBulkEntry x + uptoBulkEntries r
def uptoBulkEntry {H : Type} : Lit × DataW H → Nat
  | (.string bytes, d) => bytes.length + uptoBulk d + 1
  | (_, d) => uptoBulk d + 1
 end
def uptoSmall : (H : Type) → List (DataW H) → Bool := fun _ ds => decide (uptoBulkAll ds ≤ 1048576)
def OpenSpec.upto (s : _root_.Go.ChangeSpec) : _root_.Go.OpenSpec := { _root_.Go.OpenSpec.ofChange s with cond := some uptoSmall }

/-- 'concourselaw06.HeapOnce', WHERE WHAT IT READS IS OF BULK AT MOST 1048576: true; the input reads as it did. -/
def heapOnceUptoRow : OpenClaim := { program := "ytppamndllgojnaa", sum := "b3f89160b1de3592a3fbd19366e46744c50fee98b4d9ced64dcd5a860214ece4", func := "concourse/concourselaw06.HeapOnce", spec := "heapOnce", apart := false, narrowed := true }
def HeapOnceUptoSaid : Prop := heapOnceUptoRow.holds Try.pinned (OpenSpec.upto heapOnceSpec)

/-- 'concourselaw06.HeapAsks', WHERE WHAT IT READS IS OF BULK AT MOST 1048576: true; the input reads as it did. -/
def heapAsksUptoRow : OpenClaim := { program := "ytppamndllgojnaa", sum := "b3f89160b1de3592a3fbd19366e46744c50fee98b4d9ced64dcd5a860214ece4", func := "concourse/concourselaw06.HeapAsks", spec := "heapAsks", apart := false, narrowed := true }
def HeapAsksUptoSaid : Prop := heapAsksUptoRow.holds Try.pinned (OpenSpec.upto heapAsksSpec)

/-- 'concourselaw06.HeapRow', WHERE WHAT IT READS IS OF BULK AT MOST 1048576: true; the input reads as it did. -/
def heapRowUptoRow : OpenClaim := { program := "ytppamndllgojnaa", sum := "b3f89160b1de3592a3fbd19366e46744c50fee98b4d9ced64dcd5a860214ece4", func := "concourse/concourselaw06.HeapRow", spec := "heapRow", unfollowed := true, recurses := true, apart := false, narrowed := true }
def HeapRowUptoSaid : Prop := heapRowUptoRow.holds Try.pinned (OpenSpec.upto heapRowSpec)

/-- 'concourselaw06.HeapPlays', WHERE WHAT IT READS IS OF BULK AT MOST 1048576: true; the input reads as it did. -/
def heapPlaysUptoRow : OpenClaim := { program := "ytppamndllgojnaa", sum := "b3f89160b1de3592a3fbd19366e46744c50fee98b4d9ced64dcd5a860214ece4", func := "concourse/concourselaw06.HeapPlays", spec := "heapPlays", unfollowed := true, recurses := true, apart := false, narrowed := true }
def HeapPlaysUptoSaid : Prop := heapPlaysUptoRow.holds Try.pinned (OpenSpec.upto heapPlaysSpec)

/-- 'concourselaw06.HeapMoves', WHERE WHAT IT READS IS OF BULK AT MOST 1048576: true; the input reads as it did. -/
def heapMovesUptoRow : OpenClaim := { program := "ytppamndllgojnaa", sum := "b3f89160b1de3592a3fbd19366e46744c50fee98b4d9ced64dcd5a860214ece4", func := "concourse/concourselaw06.HeapMoves", spec := "heapMoves", unfollowed := true, recurses := true, apart := false, narrowed := true }
def HeapMovesUptoSaid : Prop := heapMovesUptoRow.holds Try.pinned (OpenSpec.upto heapMovesSpec)

end Rows
end Go.Proofs.Ytppamndllgojnaa
