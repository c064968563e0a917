/-
  No cell of these rows narrows 'for every input' (looked for: loops, veiled, ifaces, maps, wideKeys, modest, calm, conditions, laid).
  DERIVED. THE GIVEN ROWS OF THIS SEAT. 6 by the template 'for every input the law returns true; each argument reads behind the call as it read before'; 0 by the template 'total and deterministic' (their statements: YtlfldbkpndmdhaaTotals.lean).
  GIVEN WITH THE SEED: the statements are not yours to turn. If you find one false, say at which input.
  Laid BY PROGRAM, IN A SANDBOX (cutbox-rows.mjs): the forced cells as the released guide's own fill.sh prints them over the translation a1d4478d4e43ed29… (all of the seat's roots in one cut). By AI agents, Wed Nov 11 2026. No macro, syntax, notation, axiom, sorry.
-/
import Derived.Test.YtlfldbkpndmdhaaChecked
import GoSem.Claim
import GoSem.ClaimJoined
import GoSem.ClaimMapViews
import Derived.JoinedTies
import Derived.KernelRfl
namespace Go.Proofs.Ytlfldbkpndmdhaa
/- THE CELL 'sum', in the pinned program and in every row, IS THE sha256 OF THE DUMP (.gsa) THAT YtlfldbkpndmdhaaProg.lean LOADS. Nothing in Lean hashes anything: it is a label: what it is worth is what the hold of that sum in a sandbox is worth. -/
noncomputable def Try.pinned : Pinned := { name := "ytlfldbkpndmdhaa", sum := "a1d4478d4e43ed290a9cc918b25580517fcdb455b7198331409d6f39824c90c5", checked := Try.checked }
namespace Rows
def none {H : Type} : Left H := { results := [], args := [] }

/-- 'concourselaw01.NameParts': WHATEVER THE INPUT: true; the input reads as it did. -/
def namePartsSpec : ChangeSpec := { name := "nameParts", fn := fun _ => fun
  | [d1, d2, d3] => { results := [.lit (.bool true)], args := [d1, d2, d3] }
  | _ => none }
def namePartsRow : OpenClaim := { program := "ytlfldbkpndmdhaa", sum := "a1d4478d4e43ed290a9cc918b25580517fcdb455b7198331409d6f39824c90c5", func := "concourse/concourselaw01.NameParts", spec := "nameParts", inPlace := ["internal/bytealg.IndexByteString", "internal/bytealg.IndexString"], unfollowed := true, recurses := true, named := ["internal/bytealg.MaxLen"], apart := false }
def NamePartsSaid : Prop := namePartsRow.holds Try.pinned (OpenSpec.ofChange namePartsSpec)

/-- ITS FALSE NEIGHBOUR: 'it returns false'. Refute it at one input. -/
def namePartsWrong : ChangeSpec := { name := "nameParts", fn := fun _ => fun
  | [d1, d2, d3] => { results := [.lit (.bool false)], args := [d1, d2, d3] }
  | _ => none }
def NamePartsWrongFalsely : Prop := namePartsRow.holds Try.pinned (OpenSpec.ofChange namePartsWrong)

/-- 'concourselaw01.NameApart': WHATEVER THE INPUT: true; the input reads as it did. -/
def nameApartSpec : ChangeSpec := { name := "nameApart", fn := fun _ => fun
  | [d1, d2, d3, d4] => { results := [.lit (.bool true)], args := [d1, d2, d3, d4] }
  | _ => none }
def nameApartRow : OpenClaim := { program := "ytlfldbkpndmdhaa", sum := "a1d4478d4e43ed290a9cc918b25580517fcdb455b7198331409d6f39824c90c5", func := "concourse/concourselaw01.NameApart", spec := "nameApart", inPlace := ["internal/bytealg.IndexByteString", "internal/bytealg.IndexString"], unfollowed := true, recurses := true, named := ["internal/bytealg.MaxLen"], apart := false }
def NameApartSaid : Prop := nameApartRow.holds Try.pinned (OpenSpec.ofChange nameApartSpec)

/-- ITS FALSE NEIGHBOUR: 'it returns false'. Refute it at one input. -/
def nameApartWrong : ChangeSpec := { name := "nameApart", fn := fun _ => fun
  | [d1, d2, d3, d4] => { results := [.lit (.bool false)], args := [d1, d2, d3, d4] }
  | _ => none }
def NameApartWrongFalsely : Prop := nameApartRow.holds Try.pinned (OpenSpec.ofChange nameApartWrong)

/-- 'concourselaw01.NameKinds': WHATEVER THE INPUT: true; the input reads as it did. -/
def nameKindsSpec : ChangeSpec := { name := "nameKinds", fn := fun _ => fun
  | [d1, d2, d3, d4] => { results := [.lit (.bool true)], args := [d1, d2, d3, d4] }
  | _ => none }
def nameKindsRow : OpenClaim := { program := "ytlfldbkpndmdhaa", sum := "a1d4478d4e43ed290a9cc918b25580517fcdb455b7198331409d6f39824c90c5", func := "concourse/concourselaw01.NameKinds", spec := "nameKinds", inPlace := ["internal/bytealg.IndexByteString", "internal/bytealg.IndexString"], unfollowed := true, recurses := true, named := ["internal/bytealg.MaxLen"], apart := false }
def NameKindsSaid : Prop := nameKindsRow.holds Try.pinned (OpenSpec.ofChange nameKindsSpec)

/-- ITS FALSE NEIGHBOUR: 'it returns false'. Refute it at one input. -/
def nameKindsWrong : ChangeSpec := { name := "nameKinds", fn := fun _ => fun
  | [d1, d2, d3, d4] => { results := [.lit (.bool false)], args := [d1, d2, d3, d4] }
  | _ => none }
def NameKindsWrongFalsely : Prop := nameKindsRow.holds Try.pinned (OpenSpec.ofChange nameKindsWrong)

/-- 'concourselaw01.NameLong': WHATEVER THE INPUT: true; the input reads as it did. -/
def nameLongSpec : ChangeSpec := { name := "nameLong", fn := fun _ => fun
  | [d] => { results := [.lit (.bool true)], args := [d] }
  | _ => none }
def nameLongRow : OpenClaim := { program := "ytlfldbkpndmdhaa", sum := "a1d4478d4e43ed290a9cc918b25580517fcdb455b7198331409d6f39824c90c5", func := "concourse/concourselaw01.NameLong", spec := "nameLong", inPlace := ["internal/bytealg.IndexByteString", "internal/bytealg.IndexString"], unfollowed := true, recurses := true, named := ["internal/bytealg.MaxLen"], apart := false }
def NameLongSaid : Prop := nameLongRow.holds Try.pinned (OpenSpec.ofChange nameLongSpec)

/-- ITS FALSE NEIGHBOUR: 'it returns false'. Refute it at one input. -/
def nameLongWrong : ChangeSpec := { name := "nameLong", fn := fun _ => fun
  | [d] => { results := [.lit (.bool false)], args := [d] }
  | _ => none }
def NameLongWrongFalsely : Prop := nameLongRow.holds Try.pinned (OpenSpec.ofChange nameLongWrong)

/-- 'concourselaw01.NameMakes': WHATEVER THE INPUT: true; the input reads as it did. -/
def nameMakesSpec : ChangeSpec := { name := "nameMakes", fn := fun _ => fun
  | [d1, d2, d3, d4, d5] => { results := [.lit (.bool true)], args := [d1, d2, d3, d4, d5] }
  | _ => none }
def nameMakesRow : OpenClaim := { program := "ytlfldbkpndmdhaa", sum := "a1d4478d4e43ed290a9cc918b25580517fcdb455b7198331409d6f39824c90c5", func := "concourse/concourselaw01.NameMakes", spec := "nameMakes", inPlace := ["internal/bytealg.IndexByteString", "internal/bytealg.IndexString"], unfollowed := true, recurses := true, named := ["internal/bytealg.MaxLen"], apart := false }
def NameMakesSaid : Prop := nameMakesRow.holds Try.pinned (OpenSpec.ofChange nameMakesSpec)

/-- ITS FALSE NEIGHBOUR: 'it returns false'. Refute it at one input. -/
def nameMakesWrong : ChangeSpec := { name := "nameMakes", fn := fun _ => fun
  | [d1, d2, d3, d4, d5] => { results := [.lit (.bool false)], args := [d1, d2, d3, d4, d5] }
  | _ => none }
def NameMakesWrongFalsely : Prop := nameMakesRow.holds Try.pinned (OpenSpec.ofChange nameMakesWrong)

/-- 'concourselaw01.NameAgain': WHATEVER THE INPUT: true; the input reads as it did. -/
def nameAgainSpec : ChangeSpec := { name := "nameAgain", fn := fun _ => fun
  | [d1, d2, d3, d4] => { results := [.lit (.bool true)], args := [d1, d2, d3, d4] }
  | _ => none }
def nameAgainRow : OpenClaim := { program := "ytlfldbkpndmdhaa", sum := "a1d4478d4e43ed290a9cc918b25580517fcdb455b7198331409d6f39824c90c5", func := "concourse/concourselaw01.NameAgain", spec := "nameAgain", inPlace := ["internal/bytealg.IndexByteString", "internal/bytealg.IndexString"], unfollowed := true, recurses := true, named := ["internal/bytealg.MaxLen"], apart := false }
def NameAgainSaid : Prop := nameAgainRow.holds Try.pinned (OpenSpec.ofChange nameAgainSpec)

/-- ITS FALSE NEIGHBOUR: 'it returns false'. Refute it at one input. -/
def nameAgainWrong : ChangeSpec := { name := "nameAgain", fn := fun _ => fun
  | [d1, d2, d3, d4] => { results := [.lit (.bool false)], args := [d1, d2, d3, d4] }
  | _ => none }
def NameAgainWrongFalsely : Prop := nameAgainRow.holds Try.pinned (OpenSpec.ofChange nameAgainWrong)

/- THE SECOND FORM. 'bulk': how many values and letters a reading holds, each counted each time it is reached (what is shared counts as often as it is met; a slice's spare places count too). A statement '..UptoSaid' is the law's where the arguments, and the package variables that the reading takes, are together of bulk at most 1048576: NARROWER than '..Said'. Prove '..Said' where nothing that the law and all that it calls make is longer than what came in: it says more and counts as full. Else prove '..UptoSaid'. A law counts once. -/
mutual
def uptoBulk {H : Type} : DataW H → Nat
  | .lit (.string bytes) => bytes.length + 1
  | .lit _ => 1
  | .nil => 1
  | .ptr d => uptoBulk d + 1
  | .slice elems spare => uptoBulkAll elems + uptoBulkAll spare + 1
  | .agg parts => uptoBulkAll parts + 1
  | .iface _ d => uptoBulk d + 1
  | .map entries => uptoBulkEntries entries + 1
  | .held _ => 1
def uptoBulkAll {H : Type} : List (DataW H) → Nat
  | [] => 0
  | d :: r => uptoBulk d + uptoBulkAll r
def uptoBulkEntries {H : Type} : List (Lit × DataW H) → Nat
  | [] => 0
  | x :: r => uptoBulkEntry x + uptoBulkEntries r
def uptoBulkEntry {H : Type} : Lit × DataW H → Nat
  | (.string bytes, d) => bytes.length + uptoBulk d + 1
  | (_, d) => uptoBulk d + 1
 end
def uptoSmall : (H : Type) → List (DataW H) → Bool := fun _ ds => decide (uptoBulkAll ds ≤ 1048576)
def OpenSpec.upto (s : _root_.Go.ChangeSpec) : _root_.Go.OpenSpec := { _root_.Go.OpenSpec.ofChange s with cond := some uptoSmall }

/-- 'concourselaw01.NameParts', WHERE WHAT IT READS IS OF BULK AT MOST 1048576: true; the input reads as it did. -/
def namePartsUptoRow : OpenClaim := { program := "ytlfldbkpndmdhaa", sum := "a1d4478d4e43ed290a9cc918b25580517fcdb455b7198331409d6f39824c90c5", func := "concourse/concourselaw01.NameParts", spec := "nameParts", inPlace := ["internal/bytealg.IndexByteString", "internal/bytealg.IndexString"], unfollowed := true, recurses := true, named := ["internal/bytealg.MaxLen"], apart := false, narrowed := true }
def NamePartsUptoSaid : Prop := namePartsUptoRow.holds Try.pinned (OpenSpec.upto namePartsSpec)

/-- 'concourselaw01.NameApart', WHERE WHAT IT READS IS OF BULK AT MOST 1048576: true; the input reads as it did. -/
def nameApartUptoRow : OpenClaim := { program := "ytlfldbkpndmdhaa", sum := "a1d4478d4e43ed290a9cc918b25580517fcdb455b7198331409d6f39824c90c5", func := "concourse/concourselaw01.NameApart", spec := "nameApart", inPlace := ["internal/bytealg.IndexByteString", "internal/bytealg.IndexString"], unfollowed := true, recurses := true, named := ["internal/bytealg.MaxLen"], apart := false, narrowed := true }
def NameApartUptoSaid : Prop := nameApartUptoRow.holds Try.pinned (OpenSpec.upto nameApartSpec)

/-- 'concourselaw01.NameKinds', WHERE WHAT IT READS IS OF BULK AT MOST 1048576: true; the input reads as it did. -/
def nameKindsUptoRow : OpenClaim := { program := "ytlfldbkpndmdhaa", sum := "a1d4478d4e43ed290a9cc918b25580517fcdb455b7198331409d6f39824c90c5", func := "concourse/concourselaw01.NameKinds", spec := "nameKinds", inPlace := ["internal/bytealg.IndexByteString", "internal/bytealg.IndexString"], unfollowed := true, recurses := true, named := ["internal/bytealg.MaxLen"], apart := false, narrowed := true }
def NameKindsUptoSaid : Prop := nameKindsUptoRow.holds Try.pinned (OpenSpec.upto nameKindsSpec)

/-- 'concourselaw01.NameLong', WHERE WHAT IT READS IS OF BULK AT MOST 1048576: true; the input reads as it did. -/
def nameLongUptoRow : OpenClaim := { program := "ytlfldbkpndmdhaa", sum := "a1d4478d4e43ed290a9cc918b25580517fcdb455b7198331409d6f39824c90c5", func := "concourse/concourselaw01.NameLong", spec := "nameLong", inPlace := ["internal/bytealg.IndexByteString", "internal/bytealg.IndexString"], unfollowed := true, recurses := true, named := ["internal/bytealg.MaxLen"], apart := false, narrowed := true }
def NameLongUptoSaid : Prop := nameLongUptoRow.holds Try.pinned (OpenSpec.upto nameLongSpec)

/-- 'concourselaw01.NameMakes', WHERE WHAT IT READS IS OF BULK AT MOST 1048576: true; the input reads as it did. -/
def nameMakesUptoRow : OpenClaim := { program := "ytlfldbkpndmdhaa", sum := "a1d4478d4e43ed290a9cc918b25580517fcdb455b7198331409d6f39824c90c5", func := "concourse/concourselaw01.NameMakes", spec := "nameMakes", inPlace := ["internal/bytealg.IndexByteString", "internal/bytealg.IndexString"], unfollowed := true, recurses := true, named := ["internal/bytealg.MaxLen"], apart := false, narrowed := true }
def NameMakesUptoSaid : Prop := nameMakesUptoRow.holds Try.pinned (OpenSpec.upto nameMakesSpec)

/-- 'concourselaw01.NameAgain', WHERE WHAT IT READS IS OF BULK AT MOST 1048576: true; the input reads as it did. -/
def nameAgainUptoRow : OpenClaim := { program := "ytlfldbkpndmdhaa", sum := "a1d4478d4e43ed290a9cc918b25580517fcdb455b7198331409d6f39824c90c5", func := "concourse/concourselaw01.NameAgain", spec := "nameAgain", inPlace := ["internal/bytealg.IndexByteString", "internal/bytealg.IndexString"], unfollowed := true, recurses := true, named := ["internal/bytealg.MaxLen"], apart := false, narrowed := true }
def NameAgainUptoSaid : Prop := nameAgainUptoRow.holds Try.pinned (OpenSpec.upto nameAgainSpec)

end Rows
end Go.Proofs.Ytlfldbkpndmdhaa
