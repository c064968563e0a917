/-
  No cell of these rows narrows 'for every input' (looked for: loops, veiled, ifaces, maps, wideKeys, modest, calm, conditions, laid).
  DERIVED. THE GIVEN ROWS OF THIS SEAT. 6 by the template 'for every input the law returns true; each argument reads behind the call as it read before'; 0 by the template 'total and deterministic' (their statements: YtnigincgolhodaaTotals.lean).
  GIVEN WITH THE SEED: the statements are not yours to turn. If you find one false, say at which input.
  Laid BY PROGRAM, IN A SANDBOX (cutbox-rows.mjs): the forced cells as the released guide's own fill.sh prints them over the translation 90f0a765f1c74934… (all of the seat's roots in one cut). By AI agents, Wed Nov 11 2026. No macro, syntax, notation, axiom, sorry.
-/
import Derived.Test.YtnigincgolhodaaChecked
import GoSem.Claim
import GoSem.ClaimJoined
import GoSem.ClaimMapViews
import Derived.JoinedTies
import Derived.KernelRfl
namespace Go.Proofs.Ytnigincgolhodaa
/- THE CELL 'sum', in the pinned program and in every row, IS THE sha256 OF THE DUMP (.gsa) THAT YtnigincgolhodaaProg.lean LOADS. Nothing in Lean hashes anything: it is a label: what it is worth is what the hold of that sum in a sandbox is worth. -/
noncomputable def Try.pinned : Pinned := { name := "ytnigincgolhodaa", sum := "90f0a765f1c74934976a177da4680bd7da33195f08295578c8cd6bd97299db6c", checked := Try.checked }
namespace Rows
def none {H : Type} : Left H := { results := [], args := [] }

/-- 'concourselaw03.EduMay': WHATEVER THE INPUT: true; the input reads as it did. -/
def eduMaySpec : ChangeSpec := { name := "eduMay", fn := fun _ => fun
  | [d1, d2] => { results := [.lit (.bool true)], args := [d1, d2] }
  | _ => none }
def eduMayRow : OpenClaim := { program := "ytnigincgolhodaa", sum := "90f0a765f1c74934976a177da4680bd7da33195f08295578c8cd6bd97299db6c", func := "concourse/concourselaw03.EduMay", spec := "eduMay", inPlace := ["internal/bytealg.IndexByteString", "internal/bytealg.IndexString"], unfollowed := true, recurses := true, named := ["internal/bytealg.MaxLen"], apart := false }
def EduMaySaid : Prop := eduMayRow.holds Try.pinned (OpenSpec.ofChange eduMaySpec)

/-- ITS FALSE NEIGHBOUR: 'it returns false'. Refute it at one input. -/
def eduMayWrong : ChangeSpec := { name := "eduMay", fn := fun _ => fun
  | [d1, d2] => { results := [.lit (.bool false)], args := [d1, d2] }
  | _ => none }
def EduMayWrongFalsely : Prop := eduMayRow.holds Try.pinned (OpenSpec.ofChange eduMayWrong)

/-- 'concourselaw03.EduKeys': WHATEVER THE INPUT: true; the input reads as it did. -/
def eduKeysSpec : ChangeSpec := { name := "eduKeys", fn := fun _ => fun
  | [d1, d2] => { results := [.lit (.bool true)], args := [d1, d2] }
  | _ => none }
def eduKeysRow : OpenClaim := { program := "ytnigincgolhodaa", sum := "90f0a765f1c74934976a177da4680bd7da33195f08295578c8cd6bd97299db6c", func := "concourse/concourselaw03.EduKeys", spec := "eduKeys", inPlace := ["internal/bytealg.IndexByteString", "internal/bytealg.IndexString"], unfollowed := true, recurses := true, named := ["internal/bytealg.MaxLen"], apart := false }
def EduKeysSaid : Prop := eduKeysRow.holds Try.pinned (OpenSpec.ofChange eduKeysSpec)

/-- ITS FALSE NEIGHBOUR: 'it returns false'. Refute it at one input. -/
def eduKeysWrong : ChangeSpec := { name := "eduKeys", fn := fun _ => fun
  | [d1, d2] => { results := [.lit (.bool false)], args := [d1, d2] }
  | _ => none }
def EduKeysWrongFalsely : Prop := eduKeysRow.holds Try.pinned (OpenSpec.ofChange eduKeysWrong)

/-- 'concourselaw03.EduRow': WHATEVER THE INPUT: true; the input reads as it did. -/
def eduRowSpec : ChangeSpec := { name := "eduRow", fn := fun _ => fun
  | [d1, d2, d3] => { results := [.lit (.bool true)], args := [d1, d2, d3] }
  | _ => none }
def eduRowRow : OpenClaim := { program := "ytnigincgolhodaa", sum := "90f0a765f1c74934976a177da4680bd7da33195f08295578c8cd6bd97299db6c", func := "concourse/concourselaw03.EduRow", spec := "eduRow", inPlace := ["internal/bytealg.Compare", "internal/bytealg.IndexByteString", "internal/bytealg.IndexString"], unfollowed := true, recurses := true, named := ["internal/bytealg.MaxLen"], apart := false }
def EduRowSaid : Prop := eduRowRow.holds Try.pinned (OpenSpec.ofChange eduRowSpec)

/-- ITS FALSE NEIGHBOUR: 'it returns false'. Refute it at one input. -/
def eduRowWrong : ChangeSpec := { name := "eduRow", fn := fun _ => fun
  | [d1, d2, d3] => { results := [.lit (.bool false)], args := [d1, d2, d3] }
  | _ => none }
def EduRowWrongFalsely : Prop := eduRowRow.holds Try.pinned (OpenSpec.ofChange eduRowWrong)

/-- 'concourselaw03.EduStamps': WHATEVER THE INPUT: true; the input reads as it did. -/
def eduStampsSpec : ChangeSpec := { name := "eduStamps", fn := fun _ => fun
  | [d1, d2, d3, d4] => { results := [.lit (.bool true)], args := [d1, d2, d3, d4] }
  | _ => none }
def eduStampsRow : OpenClaim := { program := "ytnigincgolhodaa", sum := "90f0a765f1c74934976a177da4680bd7da33195f08295578c8cd6bd97299db6c", func := "concourse/concourselaw03.EduStamps", spec := "eduStamps", inPlace := ["internal/bytealg.IndexByteString", "internal/bytealg.IndexString", "internal/bytealg.Compare"], unfollowed := true, recurses := true, named := ["internal/bytealg.MaxLen"], apart := false }
def EduStampsSaid : Prop := eduStampsRow.holds Try.pinned (OpenSpec.ofChange eduStampsSpec)

/-- ITS FALSE NEIGHBOUR: 'it returns false'. Refute it at one input. -/
def eduStampsWrong : ChangeSpec := { name := "eduStamps", fn := fun _ => fun
  | [d1, d2, d3, d4] => { results := [.lit (.bool false)], args := [d1, d2, d3, d4] }
  | _ => none }
def EduStampsWrongFalsely : Prop := eduStampsRow.holds Try.pinned (OpenSpec.ofChange eduStampsWrong)

/-- 'concourselaw03.EduReads': WHATEVER THE INPUT: true; the input reads as it did. -/
def eduReadsSpec : ChangeSpec := { name := "eduReads", fn := fun _ => fun
  | [d1, d2, d3, d4] => { results := [.lit (.bool true)], args := [d1, d2, d3, d4] }
  | _ => none }
def eduReadsRow : OpenClaim := { program := "ytnigincgolhodaa", sum := "90f0a765f1c74934976a177da4680bd7da33195f08295578c8cd6bd97299db6c", func := "concourse/concourselaw03.EduReads", spec := "eduReads", inPlace := ["internal/bytealg.IndexByteString", "internal/bytealg.IndexString"], unfollowed := true, recurses := true, named := ["internal/bytealg.MaxLen"], apart := false }
def EduReadsSaid : Prop := eduReadsRow.holds Try.pinned (OpenSpec.ofChange eduReadsSpec)

/-- ITS FALSE NEIGHBOUR: 'it returns false'. Refute it at one input. -/
def eduReadsWrong : ChangeSpec := { name := "eduReads", fn := fun _ => fun
  | [d1, d2, d3, d4] => { results := [.lit (.bool false)], args := [d1, d2, d3, d4] }
  | _ => none }
def EduReadsWrongFalsely : Prop := eduReadsRow.holds Try.pinned (OpenSpec.ofChange eduReadsWrong)

/-- 'concourselaw03.EduRound': WHATEVER THE INPUT: true; the input reads as it did. -/
def eduRoundSpec : ChangeSpec := { name := "eduRound", fn := fun _ => fun
  | [d1, d2] => { results := [.lit (.bool true)], args := [d1, d2] }
  | _ => none }
def eduRoundRow : OpenClaim := { program := "ytnigincgolhodaa", sum := "90f0a765f1c74934976a177da4680bd7da33195f08295578c8cd6bd97299db6c", func := "concourse/concourselaw03.EduRound", spec := "eduRound", inPlace := ["internal/bytealg.IndexByteString", "internal/bytealg.IndexString"], unfollowed := true, recurses := true, named := ["internal/bytealg.MaxLen"], apart := false }
def EduRoundSaid : Prop := eduRoundRow.holds Try.pinned (OpenSpec.ofChange eduRoundSpec)

/-- ITS FALSE NEIGHBOUR: 'it returns false'. Refute it at one input. -/
def eduRoundWrong : ChangeSpec := { name := "eduRound", fn := fun _ => fun
  | [d1, d2] => { results := [.lit (.bool false)], args := [d1, d2] }
  | _ => none }
def EduRoundWrongFalsely : Prop := eduRoundRow.holds Try.pinned (OpenSpec.ofChange eduRoundWrong)

/- THE SECOND FORM. 'bulk': how many values and letters a reading holds, each counted each time it is reached (what is shared counts as often as it is met; a slice's spare places count too). A statement '..UptoSaid' is the law's where the arguments, and the package variables that the reading takes, are together of bulk at most 1048576: NARROWER than '..Said'. Prove '..Said' where nothing that the law and all that it calls make is longer than what came in: it says more and counts as full. Else prove '..UptoSaid'. A law counts once. -/
mutual
def uptoBulk {H : Type} : DataW H → Nat
  | .lit (.string bytes) => bytes.length + 1
  | .lit _ => 1
  | .nil => 1
  | .ptr d => uptoBulk d + 1
  | .slice elems spare => uptoBulkAll elems + uptoBulkAll spare + 1
  | .agg parts => uptoBulkAll parts + 1
  | .iface _ d => uptoBulk d + 1
  | .map entries => uptoBulkEntries entries + 1
  | .held _ => 1
def uptoBulkAll {H : Type} : List (DataW H) → Nat
  | [] => 0
  | d :: r => uptoBulk d + uptoBulkAll r
def uptoBulkEntries {H : Type} : List (Lit × DataW H) → Nat
  | [] => 0
  | x :: r => uptoBulkEntry x + uptoBulkEntries r
def uptoBulkEntry {H : Type} : Lit × DataW H → Nat
  | (.string bytes, d) => bytes.length + uptoBulk d + 1
  | (_, d) => uptoBulk d + 1
 end
def uptoSmall : (H : Type) → List (DataW H) → Bool := fun _ ds => decide (uptoBulkAll ds ≤ 1048576)
def OpenSpec.upto (s : _root_.Go.ChangeSpec) : _root_.Go.OpenSpec := { _root_.Go.OpenSpec.ofChange s with cond := some uptoSmall }

/-- 'concourselaw03.EduMay', WHERE WHAT IT READS IS OF BULK AT MOST 1048576: true; the input reads as it did. -/
def eduMayUptoRow : OpenClaim := { program := "ytnigincgolhodaa", sum := "90f0a765f1c74934976a177da4680bd7da33195f08295578c8cd6bd97299db6c", func := "concourse/concourselaw03.EduMay", spec := "eduMay", inPlace := ["internal/bytealg.IndexByteString", "internal/bytealg.IndexString"], unfollowed := true, recurses := true, named := ["internal/bytealg.MaxLen"], apart := false, narrowed := true }
def EduMayUptoSaid : Prop := eduMayUptoRow.holds Try.pinned (OpenSpec.upto eduMaySpec)

/-- 'concourselaw03.EduKeys', WHERE WHAT IT READS IS OF BULK AT MOST 1048576: true; the input reads as it did. -/
def eduKeysUptoRow : OpenClaim := { program := "ytnigincgolhodaa", sum := "90f0a765f1c74934976a177da4680bd7da33195f08295578c8cd6bd97299db6c", func := "concourse/concourselaw03.EduKeys", spec := "eduKeys", inPlace := ["internal/bytealg.IndexByteString", "internal/bytealg.IndexString"], unfollowed := true, recurses := true, named := ["internal/bytealg.MaxLen"], apart := false, narrowed := true }
def EduKeysUptoSaid : Prop := eduKeysUptoRow.holds Try.pinned (OpenSpec.upto eduKeysSpec)

/-- 'concourselaw03.EduRow', WHERE WHAT IT READS IS OF BULK AT MOST 1048576: true; the input reads as it did. -/
def eduRowUptoRow : OpenClaim := { program := "ytnigincgolhodaa", sum := "90f0a765f1c74934976a177da4680bd7da33195f08295578c8cd6bd97299db6c", func := "concourse/concourselaw03.EduRow", spec := "eduRow", inPlace := ["internal/bytealg.Compare", "internal/bytealg.IndexByteString", "internal/bytealg.IndexString"], unfollowed := true, recurses := true, named := ["internal/bytealg.MaxLen"], apart := false, narrowed := true }
def EduRowUptoSaid : Prop := eduRowUptoRow.holds Try.pinned (OpenSpec.upto eduRowSpec)

/-- 'concourselaw03.EduStamps', WHERE WHAT IT READS IS OF BULK AT MOST 1048576: true; the input reads as it did. -/
def eduStampsUptoRow : OpenClaim := { program := "ytnigincgolhodaa", sum := "90f0a765f1c74934976a177da4680bd7da33195f08295578c8cd6bd97299db6c", func := "concourse/concourselaw03.EduStamps", spec := "eduStamps", inPlace := ["internal/bytealg.IndexByteString", "internal/bytealg.IndexString", "internal/bytealg.Compare"], unfollowed := true, recurses := true, named := ["internal/bytealg.MaxLen"], apart := false, narrowed := true }
def EduStampsUptoSaid : Prop := eduStampsUptoRow.holds Try.pinned (OpenSpec.upto eduStampsSpec)

/-- 'concourselaw03.EduReads', WHERE WHAT IT READS IS OF BULK AT MOST 1048576: true; the input reads as it did. -/
def eduReadsUptoRow : OpenClaim := { program := "ytnigincgolhodaa", sum := "90f0a765f1c74934976a177da4680bd7da33195f08295578c8cd6bd97299db6c", func := "concourse/concourselaw03.EduReads", spec := "eduReads", inPlace := ["internal/bytealg.IndexByteString", "internal/bytealg.IndexString"], unfollowed := true, recurses := true, named := ["internal/bytealg.MaxLen"], apart := false, narrowed := true }
def EduReadsUptoSaid : Prop := eduReadsUptoRow.holds Try.pinned (OpenSpec.upto eduReadsSpec)

/-- 'concourselaw03.EduRound', WHERE WHAT IT READS IS OF BULK AT MOST 1048576: true; the input reads as it did. -/
def eduRoundUptoRow : OpenClaim := { program := "ytnigincgolhodaa", sum := "90f0a765f1c74934976a177da4680bd7da33195f08295578c8cd6bd97299db6c", func := "concourse/concourselaw03.EduRound", spec := "eduRound", inPlace := ["internal/bytealg.IndexByteString", "internal/bytealg.IndexString"], unfollowed := true, recurses := true, named := ["internal/bytealg.MaxLen"], apart := false, narrowed := true }
def EduRoundUptoSaid : Prop := eduRoundUptoRow.holds Try.pinned (OpenSpec.upto eduRoundSpec)

end Rows
end Go.Proofs.Ytnigincgolhodaa
