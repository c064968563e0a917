/-
  No cell of these rows narrows 'for every input' (looked for: loops, veiled, ifaces, maps, wideKeys, modest, calm, conditions, laid).
  DERIVED. THE GIVEN ROWS OF THIS SEAT. 5 by the template 'for every input the law returns true; each argument reads behind the call as it read before'; 0 by the template 'total and deterministic' (their statements: YtbgjfpaigndbmaaTotals.lean).
  GIVEN WITH THE SEED: the statements are not yours to turn. If you find one false, say at which input.
  Laid BY PROGRAM, IN A SANDBOX (cutbox-rows.mjs): the forced cells as the released guide's own fill.sh prints them over the translation 89dd1f59f53263b2… (all of the seat's roots in one cut). By AI agents, Wed Nov 11 2026. No macro, syntax, notation, axiom, sorry.
-/
import Derived.Test.YtbgjfpaigndbmaaChecked
import GoSem.Claim
import GoSem.ClaimJoined
import GoSem.ClaimMapViews
import Derived.JoinedTies
import Derived.KernelRfl
namespace Go.Proofs.Ytbgjfpaigndbmaa
/- THE CELL 'sum', in the pinned program and in every row, IS THE sha256 OF THE DUMP (.gsa) THAT YtbgjfpaigndbmaaProg.lean LOADS. Nothing in Lean hashes anything: it is a label: what it is worth is what the hold of that sum in a sandbox is worth. -/
noncomputable def Try.pinned : Pinned := { name := "ytbgjfpaigndbmaa", sum := "89dd1f59f53263b243fe2bd655e3c0af204f7c2e5d41fec700388f69a9c19f63", checked := Try.checked }
namespace Rows
def none {H : Type} : Left H := { results := [], args := [] }

/-- 'concourselaw04.ParcelMay': WHATEVER THE INPUT: true; the input reads as it did. -/
def parcelMaySpec : ChangeSpec := { name := "parcelMay", fn := fun _ => fun
  | [d1, d2] => { results := [.lit (.bool true)], args := [d1, d2] }
  | _ => none }
def parcelMayRow : OpenClaim := { program := "ytbgjfpaigndbmaa", sum := "89dd1f59f53263b243fe2bd655e3c0af204f7c2e5d41fec700388f69a9c19f63", func := "concourse/concourselaw04.ParcelMay", spec := "parcelMay", inPlace := ["internal/bytealg.IndexByteString", "internal/bytealg.IndexString"], unfollowed := true, recurses := true, named := ["internal/bytealg.MaxLen"], apart := false }
def ParcelMaySaid : Prop := parcelMayRow.holds Try.pinned (OpenSpec.ofChange parcelMaySpec)

/-- ITS FALSE NEIGHBOUR: 'it returns false'. Refute it at one input. -/
def parcelMayWrong : ChangeSpec := { name := "parcelMay", fn := fun _ => fun
  | [d1, d2] => { results := [.lit (.bool false)], args := [d1, d2] }
  | _ => none }
def ParcelMayWrongFalsely : Prop := parcelMayRow.holds Try.pinned (OpenSpec.ofChange parcelMayWrong)

/-- 'concourselaw04.ParcelSame': WHATEVER THE INPUT: true; the input reads as it did. -/
def parcelSameSpec : ChangeSpec := { name := "parcelSame", fn := fun _ => fun
  | [d1, d2] => { results := [.lit (.bool true)], args := [d1, d2] }
  | _ => none }
def parcelSameRow : OpenClaim := { program := "ytbgjfpaigndbmaa", sum := "89dd1f59f53263b243fe2bd655e3c0af204f7c2e5d41fec700388f69a9c19f63", func := "concourse/concourselaw04.ParcelSame", spec := "parcelSame", inPlace := ["internal/bytealg.IndexByteString", "internal/bytealg.IndexString"], unfollowed := true, recurses := true, named := ["internal/bytealg.MaxLen"], apart := false }
def ParcelSameSaid : Prop := parcelSameRow.holds Try.pinned (OpenSpec.ofChange parcelSameSpec)

/-- ITS FALSE NEIGHBOUR: 'it returns false'. Refute it at one input. -/
def parcelSameWrong : ChangeSpec := { name := "parcelSame", fn := fun _ => fun
  | [d1, d2] => { results := [.lit (.bool false)], args := [d1, d2] }
  | _ => none }
def ParcelSameWrongFalsely : Prop := parcelSameRow.holds Try.pinned (OpenSpec.ofChange parcelSameWrong)

/-- 'concourselaw04.ParcelReads': WHATEVER THE INPUT: true; the input reads as it did. -/
def parcelReadsSpec : ChangeSpec := { name := "parcelReads", fn := fun _ => fun
  | [d1, d2, d3, d4] => { results := [.lit (.bool true)], args := [d1, d2, d3, d4] }
  | _ => none }
def parcelReadsRow : OpenClaim := { program := "ytbgjfpaigndbmaa", sum := "89dd1f59f53263b243fe2bd655e3c0af204f7c2e5d41fec700388f69a9c19f63", func := "concourse/concourselaw04.ParcelReads", spec := "parcelReads", inPlace := ["internal/bytealg.IndexByteString", "internal/bytealg.IndexString"], unfollowed := true, recurses := true, named := ["internal/bytealg.MaxLen"], apart := false }
def ParcelReadsSaid : Prop := parcelReadsRow.holds Try.pinned (OpenSpec.ofChange parcelReadsSpec)

/-- ITS FALSE NEIGHBOUR: 'it returns false'. Refute it at one input. -/
def parcelReadsWrong : ChangeSpec := { name := "parcelReads", fn := fun _ => fun
  | [d1, d2, d3, d4] => { results := [.lit (.bool false)], args := [d1, d2, d3, d4] }
  | _ => none }
def ParcelReadsWrongFalsely : Prop := parcelReadsRow.holds Try.pinned (OpenSpec.ofChange parcelReadsWrong)

/-- 'concourselaw04.ParcelRound': WHATEVER THE INPUT: true; the input reads as it did. -/
def parcelRoundSpec : ChangeSpec := { name := "parcelRound", fn := fun _ => fun
  | [d] => { results := [.lit (.bool true)], args := [d] }
  | _ => none }
def parcelRoundRow : OpenClaim := { program := "ytbgjfpaigndbmaa", sum := "89dd1f59f53263b243fe2bd655e3c0af204f7c2e5d41fec700388f69a9c19f63", func := "concourse/concourselaw04.ParcelRound", spec := "parcelRound", inPlace := ["internal/bytealg.IndexByteString", "internal/bytealg.IndexString"], unfollowed := true, recurses := true, named := ["internal/bytealg.MaxLen"], apart := false }
def ParcelRoundSaid : Prop := parcelRoundRow.holds Try.pinned (OpenSpec.ofChange parcelRoundSpec)

/-- ITS FALSE NEIGHBOUR: 'it returns false'. Refute it at one input. -/
def parcelRoundWrong : ChangeSpec := { name := "parcelRound", fn := fun _ => fun
  | [d] => { results := [.lit (.bool false)], args := [d] }
  | _ => none }
def ParcelRoundWrongFalsely : Prop := parcelRoundRow.holds Try.pinned (OpenSpec.ofChange parcelRoundWrong)

/-- 'concourselaw04.ParcelMany': WHATEVER THE INPUT: true; the input reads as it did. -/
def parcelManySpec : ChangeSpec := { name := "parcelMany", fn := fun _ => fun
  | [d1, d2] => { results := [.lit (.bool true)], args := [d1, d2] }
  | _ => none }
def parcelManyRow : OpenClaim := { program := "ytbgjfpaigndbmaa", sum := "89dd1f59f53263b243fe2bd655e3c0af204f7c2e5d41fec700388f69a9c19f63", func := "concourse/concourselaw04.ParcelMany", spec := "parcelMany", inPlace := ["internal/bytealg.IndexByteString", "internal/bytealg.IndexString"], unfollowed := true, recurses := true, named := ["internal/bytealg.MaxLen"], apart := false }
def ParcelManySaid : Prop := parcelManyRow.holds Try.pinned (OpenSpec.ofChange parcelManySpec)

/-- ITS FALSE NEIGHBOUR: 'it returns false'. Refute it at one input. -/
def parcelManyWrong : ChangeSpec := { name := "parcelMany", fn := fun _ => fun
  | [d1, d2] => { results := [.lit (.bool false)], args := [d1, d2] }
  | _ => none }
def ParcelManyWrongFalsely : Prop := parcelManyRow.holds Try.pinned (OpenSpec.ofChange parcelManyWrong)

/- THE SECOND FORM. 'bulk': how many values and letters a reading holds, each counted each time it is reached (what is shared counts as often as it is met; a slice's spare places count too). A statement '..UptoSaid' is the law's where the arguments, and the package variables that the reading takes, are together of bulk at most 1048576: NARROWER than '..Said'. Prove '..Said' where nothing that the law and all that it calls make is longer than what came in: it says more and counts as full. Else prove '..UptoSaid'. A law counts once. -/
mutual
def uptoBulk {H : Type} : DataW H → Nat
  | .lit (.string bytes) => bytes.length + 1
  | .lit _ => 1
  | .nil => 1
  | .ptr d => uptoBulk d + 1
  | .slice elems spare => uptoBulkAll elems + uptoBulkAll spare + 1
  | .agg parts => uptoBulkAll parts + 1
  | .iface _ d => uptoBulk d + 1
  | .map entries => uptoBulkEntries entries + 1
  | .held _ => 1
def uptoBulkAll {H : Type} : List (DataW H) → Nat
  | [] => 0
  | d :: r => uptoBulk d + uptoBulkAll r
def uptoBulkEntries {H : Type} : List (Lit × DataW H) → Nat
  | [] => 0
  | x :: r => uptoBulkEntry x + uptoBulkEntries r
def uptoBulkEntry {H : Type} : Lit × DataW H → Nat
  | (.string bytes, d) => bytes.length + uptoBulk d + 1
  | (_, d) => uptoBulk d + 1
 end
def uptoSmall : (H : Type) → List (DataW H) → Bool := fun _ ds => decide (uptoBulkAll ds ≤ 1048576)
def OpenSpec.upto (s : _root_.Go.ChangeSpec) : _root_.Go.OpenSpec := { _root_.Go.OpenSpec.ofChange s with cond := some uptoSmall }

/-- 'concourselaw04.ParcelMay', WHERE WHAT IT READS IS OF BULK AT MOST 1048576: true; the input reads as it did. -/
def parcelMayUptoRow : OpenClaim := { program := "ytbgjfpaigndbmaa", sum := "89dd1f59f53263b243fe2bd655e3c0af204f7c2e5d41fec700388f69a9c19f63", func := "concourse/concourselaw04.ParcelMay", spec := "parcelMay", inPlace := ["internal/bytealg.IndexByteString", "internal/bytealg.IndexString"], unfollowed := true, recurses := true, named := ["internal/bytealg.MaxLen"], apart := false, narrowed := true }
def ParcelMayUptoSaid : Prop := parcelMayUptoRow.holds Try.pinned (OpenSpec.upto parcelMaySpec)

/-- 'concourselaw04.ParcelSame', WHERE WHAT IT READS IS OF BULK AT MOST 1048576: true; the input reads as it did. -/
def parcelSameUptoRow : OpenClaim := { program := "ytbgjfpaigndbmaa", sum := "89dd1f59f53263b243fe2bd655e3c0af204f7c2e5d41fec700388f69a9c19f63", func := "concourse/concourselaw04.ParcelSame", spec := "parcelSame", inPlace := ["internal/bytealg.IndexByteString", "internal/bytealg.IndexString"], unfollowed := true, recurses := true, named := ["internal/bytealg.MaxLen"], apart := false, narrowed := true }
def ParcelSameUptoSaid : Prop := parcelSameUptoRow.holds Try.pinned (OpenSpec.upto parcelSameSpec)

/-- 'concourselaw04.ParcelReads', WHERE WHAT IT READS IS OF BULK AT MOST 1048576: true; the input reads as it did. -/
def parcelReadsUptoRow : OpenClaim := { program := "ytbgjfpaigndbmaa", sum := "89dd1f59f53263b243fe2bd655e3c0af204f7c2e5d41fec700388f69a9c19f63", func := "concourse/concourselaw04.ParcelReads", spec := "parcelReads", inPlace := ["internal/bytealg.IndexByteString", "internal/bytealg.IndexString"], unfollowed := true, recurses := true, named := ["internal/bytealg.MaxLen"], apart := false, narrowed := true }
def ParcelReadsUptoSaid : Prop := parcelReadsUptoRow.holds Try.pinned (OpenSpec.upto parcelReadsSpec)

/-- 'concourselaw04.ParcelRound', WHERE WHAT IT READS IS OF BULK AT MOST 1048576: true; the input reads as it did. -/
def parcelRoundUptoRow : OpenClaim := { program := "ytbgjfpaigndbmaa", sum := "89dd1f59f53263b243fe2bd655e3c0af204f7c2e5d41fec700388f69a9c19f63", func := "concourse/concourselaw04.ParcelRound", spec := "parcelRound", inPlace := ["internal/bytealg.IndexByteString", "internal/bytealg.IndexString"], unfollowed := true, recurses := true, named := ["internal/bytealg.MaxLen"], apart := false, narrowed := true }
def ParcelRoundUptoSaid : Prop := parcelRoundUptoRow.holds Try.pinned (OpenSpec.upto parcelRoundSpec)

/-- 'concourselaw04.ParcelMany', WHERE WHAT IT READS IS OF BULK AT MOST 1048576: true; the input reads as it did. -/
def parcelManyUptoRow : OpenClaim := { program := "ytbgjfpaigndbmaa", sum := "89dd1f59f53263b243fe2bd655e3c0af204f7c2e5d41fec700388f69a9c19f63", func := "concourse/concourselaw04.ParcelMany", spec := "parcelMany", inPlace := ["internal/bytealg.IndexByteString", "internal/bytealg.IndexString"], unfollowed := true, recurses := true, named := ["internal/bytealg.MaxLen"], apart := false, narrowed := true }
def ParcelManyUptoSaid : Prop := parcelManyUptoRow.holds Try.pinned (OpenSpec.upto parcelManySpec)

end Rows
end Go.Proofs.Ytbgjfpaigndbmaa
