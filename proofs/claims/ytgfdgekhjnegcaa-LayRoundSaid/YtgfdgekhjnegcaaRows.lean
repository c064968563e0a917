/-
  No cell of these rows narrows 'for every input' (looked for: loops, veiled, ifaces, maps, wideKeys, modest, calm, conditions, laid).
  DERIVED. THE GIVEN ROWS OF THIS SEAT. 6 by the template 'for every input the law returns true; each argument reads behind the call as it read before'; 0 by the template 'total and deterministic' (their statements: YtgfdgekhjnegcaaTotals.lean).
  GIVEN WITH THE SEED: the statements are not yours to turn. If you find one false, say at which input.
  Laid BY PROGRAM, IN A SANDBOX (cutbox-rows.mjs): the forced cells as the released guide's own fill.sh prints them over the translation 5b160145eb57aa8e… (all of the seat's roots in one cut). By AI agents, Wed Nov 11 2026. No macro, syntax, notation, axiom, sorry.
-/
import Derived.Test.YtgfdgekhjnegcaaChecked
import GoSem.Claim
import GoSem.ClaimJoined
import GoSem.ClaimMapViews
import Derived.JoinedTies
import Derived.KernelRfl
namespace Go.Proofs.Ytgfdgekhjnegcaa
/- THE CELL 'sum', in the pinned program and in every row, IS THE sha256 OF THE DUMP (.gsa) THAT YtgfdgekhjnegcaaProg.lean LOADS. Nothing in Lean hashes anything: it is a label: what it is worth is what the hold of that sum in a sandbox is worth. -/
noncomputable def Try.pinned : Pinned := { name := "ytgfdgekhjnegcaa", sum := "5b160145eb57aa8ef03b28c1dca73a6b952b54c836c4856a1cf3ea55229a05a5", checked := Try.checked }
namespace Rows
def none {H : Type} : Left H := { results := [], args := [] }

/-- 'concourselaw02.LayPuts': WHATEVER THE INPUT: true; the input reads as it did. -/
def layPutsSpec : ChangeSpec := { name := "layPuts", fn := fun _ => fun
  | [d1, d2, d3, d4] => { results := [.lit (.bool true)], args := [d1, d2, d3, d4] }
  | _ => none }
def layPutsRow : OpenClaim := { program := "ytgfdgekhjnegcaa", sum := "5b160145eb57aa8ef03b28c1dca73a6b952b54c836c4856a1cf3ea55229a05a5", func := "concourse/concourselaw02.LayPuts", spec := "layPuts", recurses := true, apart := false }
def LayPutsSaid : Prop := layPutsRow.holds Try.pinned (OpenSpec.ofChange layPutsSpec)

/-- ITS FALSE NEIGHBOUR: 'it returns false'. Refute it at one input. -/
def layPutsWrong : ChangeSpec := { name := "layPuts", fn := fun _ => fun
  | [d1, d2, d3, d4] => { results := [.lit (.bool false)], args := [d1, d2, d3, d4] }
  | _ => none }
def LayPutsWrongFalsely : Prop := layPutsRow.holds Try.pinned (OpenSpec.ofChange layPutsWrong)

/-- 'concourselaw02.LayForms': WHATEVER THE INPUT: true; the input reads as it did. -/
def layFormsSpec : ChangeSpec := { name := "layForms", fn := fun _ => fun
  | [d1, d2] => { results := [.lit (.bool true)], args := [d1, d2] }
  | _ => none }
def layFormsRow : OpenClaim := { program := "ytgfdgekhjnegcaa", sum := "5b160145eb57aa8ef03b28c1dca73a6b952b54c836c4856a1cf3ea55229a05a5", func := "concourse/concourselaw02.LayForms", spec := "layForms", apart := false }
def LayFormsSaid : Prop := layFormsRow.holds Try.pinned (OpenSpec.ofChange layFormsSpec)

/-- ITS FALSE NEIGHBOUR: 'it returns false'. Refute it at one input. -/
def layFormsWrong : ChangeSpec := { name := "layForms", fn := fun _ => fun
  | [d1, d2] => { results := [.lit (.bool false)], args := [d1, d2] }
  | _ => none }
def LayFormsWrongFalsely : Prop := layFormsRow.holds Try.pinned (OpenSpec.ofChange layFormsWrong)

/-- 'concourselaw02.LayOwns': WHATEVER THE INPUT: true; the input reads as it did. -/
def layOwnsSpec : ChangeSpec := { name := "layOwns", fn := fun _ => fun
  | [d1, d2, d3] => { results := [.lit (.bool true)], args := [d1, d2, d3] }
  | _ => none }
def layOwnsRow : OpenClaim := { program := "ytgfdgekhjnegcaa", sum := "5b160145eb57aa8ef03b28c1dca73a6b952b54c836c4856a1cf3ea55229a05a5", func := "concourse/concourselaw02.LayOwns", spec := "layOwns", recurses := true, apart := false }
def LayOwnsSaid : Prop := layOwnsRow.holds Try.pinned (OpenSpec.ofChange layOwnsSpec)

/-- ITS FALSE NEIGHBOUR: 'it returns false'. Refute it at one input. -/
def layOwnsWrong : ChangeSpec := { name := "layOwns", fn := fun _ => fun
  | [d1, d2, d3] => { results := [.lit (.bool false)], args := [d1, d2, d3] }
  | _ => none }
def LayOwnsWrongFalsely : Prop := layOwnsRow.holds Try.pinned (OpenSpec.ofChange layOwnsWrong)

/-- 'concourselaw02.LayCuts': WHATEVER THE INPUT: true; the input reads as it did. -/
def layCutsSpec : ChangeSpec := { name := "layCuts", fn := fun _ => fun
  | [d1, d2] => { results := [.lit (.bool true)], args := [d1, d2] }
  | _ => none }
def layCutsRow : OpenClaim := { program := "ytgfdgekhjnegcaa", sum := "5b160145eb57aa8ef03b28c1dca73a6b952b54c836c4856a1cf3ea55229a05a5", func := "concourse/concourselaw02.LayCuts", spec := "layCuts", apart := false }
def LayCutsSaid : Prop := layCutsRow.holds Try.pinned (OpenSpec.ofChange layCutsSpec)

/-- ITS FALSE NEIGHBOUR: 'it returns false'. Refute it at one input. -/
def layCutsWrong : ChangeSpec := { name := "layCuts", fn := fun _ => fun
  | [d1, d2] => { results := [.lit (.bool false)], args := [d1, d2] }
  | _ => none }
def LayCutsWrongFalsely : Prop := layCutsRow.holds Try.pinned (OpenSpec.ofChange layCutsWrong)

/-- 'concourselaw02.LayReads': WHATEVER THE INPUT: true; the input reads as it did. -/
def layReadsSpec : ChangeSpec := { name := "layReads", fn := fun _ => fun
  | [d1, d2] => { results := [.lit (.bool true)], args := [d1, d2] }
  | _ => none }
def layReadsRow : OpenClaim := { program := "ytgfdgekhjnegcaa", sum := "5b160145eb57aa8ef03b28c1dca73a6b952b54c836c4856a1cf3ea55229a05a5", func := "concourse/concourselaw02.LayReads", spec := "layReads", recurses := true, apart := false }
def LayReadsSaid : Prop := layReadsRow.holds Try.pinned (OpenSpec.ofChange layReadsSpec)

/-- ITS FALSE NEIGHBOUR: 'it returns false'. Refute it at one input. -/
def layReadsWrong : ChangeSpec := { name := "layReads", fn := fun _ => fun
  | [d1, d2] => { results := [.lit (.bool false)], args := [d1, d2] }
  | _ => none }
def LayReadsWrongFalsely : Prop := layReadsRow.holds Try.pinned (OpenSpec.ofChange layReadsWrong)

/-- 'concourselaw02.LayRound': WHATEVER THE INPUT: true; the input reads as it did. -/
def layRoundSpec : ChangeSpec := { name := "layRound", fn := fun _ => fun
  | [d1, d2, d3] => { results := [.lit (.bool true)], args := [d1, d2, d3] }
  | _ => none }
def layRoundRow : OpenClaim := { program := "ytgfdgekhjnegcaa", sum := "5b160145eb57aa8ef03b28c1dca73a6b952b54c836c4856a1cf3ea55229a05a5", func := "concourse/concourselaw02.LayRound", spec := "layRound", apart := false }
def LayRoundSaid : Prop := layRoundRow.holds Try.pinned (OpenSpec.ofChange layRoundSpec)

/-- ITS FALSE NEIGHBOUR: 'it returns false'. Refute it at one input. -/
def layRoundWrong : ChangeSpec := { name := "layRound", fn := fun _ => fun
  | [d1, d2, d3] => { results := [.lit (.bool false)], args := [d1, d2, d3] }
  | _ => none }
def LayRoundWrongFalsely : Prop := layRoundRow.holds Try.pinned (OpenSpec.ofChange layRoundWrong)

/- THE SECOND FORM. 'bulk': how many values and letters a reading holds, each counted each time it is reached (what is shared counts as often as it is met; a slice's spare places count too). A statement '..UptoSaid' is the law's where the arguments, and the package variables that the reading takes, are together of bulk at most 1048576: NARROWER than '..Said'. Prove '..Said' where nothing that the law and all that it calls make is longer than what came in: it says more and counts as full. Else prove '..UptoSaid'. A law counts once. -/
mutual
def uptoBulk {H : Type} : DataW H → Nat
  | .lit (.string bytes) => bytes.length + 1
  | .lit _ => 1
  | .nil => 1
  | .ptr d => uptoBulk d + 1
  | .slice elems spare => uptoBulkAll elems + uptoBulkAll spare + 1
  | .agg parts => uptoBulkAll parts + 1
  | .iface _ d => uptoBulk d + 1
  | .map entries => uptoBulkEntries entries + 1
  | .held _ => 1
def uptoBulkAll {H : Type} : List (DataW H) → Nat
  | [] => 0
  | d :: r => uptoBulk d + uptoBulkAll r
def uptoBulkEntries {H : Type} : List (Lit × DataW H) → Nat
  | [] => 0
  | x :: r => uptoBulkEntry x + uptoBulkEntries r
def uptoBulkEntry {H : Type} : Lit × DataW H → Nat
  | (.string bytes, d) => bytes.length + uptoBulk d + 1
  | (_, d) => uptoBulk d + 1
 end
def uptoSmall : (H : Type) → List (DataW H) → Bool := fun _ ds => decide (uptoBulkAll ds ≤ 1048576)
def OpenSpec.upto (s : _root_.Go.ChangeSpec) : _root_.Go.OpenSpec := { _root_.Go.OpenSpec.ofChange s with cond := some uptoSmall }

/-- 'concourselaw02.LayPuts', WHERE WHAT IT READS IS OF BULK AT MOST 1048576: true; the input reads as it did. -/
def layPutsUptoRow : OpenClaim := { program := "ytgfdgekhjnegcaa", sum := "5b160145eb57aa8ef03b28c1dca73a6b952b54c836c4856a1cf3ea55229a05a5", func := "concourse/concourselaw02.LayPuts", spec := "layPuts", recurses := true, apart := false, narrowed := true }
def LayPutsUptoSaid : Prop := layPutsUptoRow.holds Try.pinned (OpenSpec.upto layPutsSpec)

/-- 'concourselaw02.LayForms', WHERE WHAT IT READS IS OF BULK AT MOST 1048576: true; the input reads as it did. -/
def layFormsUptoRow : OpenClaim := { program := "ytgfdgekhjnegcaa", sum := "5b160145eb57aa8ef03b28c1dca73a6b952b54c836c4856a1cf3ea55229a05a5", func := "concourse/concourselaw02.LayForms", spec := "layForms", apart := false, narrowed := true }
def LayFormsUptoSaid : Prop := layFormsUptoRow.holds Try.pinned (OpenSpec.upto layFormsSpec)

/-- 'concourselaw02.LayOwns', WHERE WHAT IT READS IS OF BULK AT MOST 1048576: true; the input reads as it did. -/
def layOwnsUptoRow : OpenClaim := { program := "ytgfdgekhjnegcaa", sum := "5b160145eb57aa8ef03b28c1dca73a6b952b54c836c4856a1cf3ea55229a05a5", func := "concourse/concourselaw02.LayOwns", spec := "layOwns", recurses := true, apart := false, narrowed := true }
def LayOwnsUptoSaid : Prop := layOwnsUptoRow.holds Try.pinned (OpenSpec.upto layOwnsSpec)

/-- 'concourselaw02.LayCuts', WHERE WHAT IT READS IS OF BULK AT MOST 1048576: true; the input reads as it did. -/
def layCutsUptoRow : OpenClaim := { program := "ytgfdgekhjnegcaa", sum := "5b160145eb57aa8ef03b28c1dca73a6b952b54c836c4856a1cf3ea55229a05a5", func := "concourse/concourselaw02.LayCuts", spec := "layCuts", apart := false, narrowed := true }
def LayCutsUptoSaid : Prop := layCutsUptoRow.holds Try.pinned (OpenSpec.upto layCutsSpec)

/-- 'concourselaw02.LayReads', WHERE WHAT IT READS IS OF BULK AT MOST 1048576: true; the input reads as it did. -/
def layReadsUptoRow : OpenClaim := { program := "ytgfdgekhjnegcaa", sum := "5b160145eb57aa8ef03b28c1dca73a6b952b54c836c4856a1cf3ea55229a05a5", func := "concourse/concourselaw02.LayReads", spec := "layReads", recurses := true, apart := false, narrowed := true }
def LayReadsUptoSaid : Prop := layReadsUptoRow.holds Try.pinned (OpenSpec.upto layReadsSpec)

/-- 'concourselaw02.LayRound', WHERE WHAT IT READS IS OF BULK AT MOST 1048576: true; the input reads as it did. -/
def layRoundUptoRow : OpenClaim := { program := "ytgfdgekhjnegcaa", sum := "5b160145eb57aa8ef03b28c1dca73a6b952b54c836c4856a1cf3ea55229a05a5", func := "concourse/concourselaw02.LayRound", spec := "layRound", apart := false, narrowed := true }
def LayRoundUptoSaid : Prop := layRoundUptoRow.holds Try.pinned (OpenSpec.upto layRoundSpec)

end Rows
end Go.Proofs.Ytgfdgekhjnegcaa
