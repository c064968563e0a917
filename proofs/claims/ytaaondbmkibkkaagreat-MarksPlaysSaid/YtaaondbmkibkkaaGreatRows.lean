/-
  No cell of these rows narrows 'for every input' (looked for: loops, veiled, ifaces, maps, wideKeys, modest, calm, conditions, laid).
  DERIVED. THE GIVEN ROWS OF THIS SEAT. 5 by the template 'for every input the law returns true; each argument reads behind the call as it read before'; 0 by the template 'total and deterministic' (their statements: YtaaondbmkibkkaaGreatTotals.lean).
  GIVEN WITH THE SEED: the statements are not yours to turn. If you find one false, say at which input.
  Laid BY PROGRAM, IN A SANDBOX (cutbox-rows.mjs): the forced cells as the released guide's own fill.sh prints them over the translation 169feba1a526eb35… (all of the seat's roots in one cut). By AI agents, Wed Nov 11 2026. No macro, syntax, notation, axiom, sorry.
-/
import Derived.Test.YtaaondbmkibkkaaGreatChecked
import GoSem.Claim
import GoSem.ClaimJoined
import GoSem.ClaimMapViews
import Derived.JoinedTies
import Derived.KernelRfl
namespace Go.Proofs.YtaaondbmkibkkaaGreat
/- THE CELL 'sum', in the pinned program and in every row, IS THE sha256 OF THE DUMP (.gsa) THAT YtaaondbmkibkkaaGreatProg.lean LOADS. Nothing in Lean hashes anything: it is a label: what it is worth is what the hold of that sum in a sandbox is worth. -/
noncomputable def Tryz.pinned : Pinned := { name := "ytaaondbmkibkkaagreat", sum := "169feba1a526eb35feadf12e3f54814f6fcdb71dd5732f1564619ba4ed939fa6", checked := Tryz.checked }
namespace Rows
def none {H : Type} : Left H := { results := [], args := [] }

/-- 'concourselaw13.MarksOf': WHATEVER THE INPUT: true; the input reads as it did. -/
def marksOfSpec : ChangeSpec := { name := "marksOf", fn := fun _ => fun
  | [d] => { results := [.lit (.bool true)], args := [d] }
  | _ => none }
def marksOfRow : OpenClaim := { program := "ytaaondbmkibkkaagreat", sum := "169feba1a526eb35feadf12e3f54814f6fcdb71dd5732f1564619ba4ed939fa6", func := "concourse/concourselaw13.MarksOf", spec := "marksOf", inPlace := ["internal/bytealg.IndexByteString", "internal/bytealg.IndexString"], unfollowed := true, recurses := true, named := ["internal/bytealg.MaxLen"], plainKeys := false, apart := false }
def MarksOfSaid : Prop := marksOfRow.holds Tryz.pinned (OpenSpec.ofChange marksOfSpec)

/-- ITS FALSE NEIGHBOUR: 'it returns false'. Refute it at one input. -/
def marksOfWrong : ChangeSpec := { name := "marksOf", fn := fun _ => fun
  | [d] => { results := [.lit (.bool false)], args := [d] }
  | _ => none }
def MarksOfWrongFalsely : Prop := marksOfRow.holds Tryz.pinned (OpenSpec.ofChange marksOfWrong)

/-- 'concourselaw13.MarksOrder': WHATEVER THE INPUT: true; the input reads as it did. -/
def marksOrderSpec : ChangeSpec := { name := "marksOrder", fn := fun _ => fun
  | [d1, d2, d3, d4] => { results := [.lit (.bool true)], args := [d1, d2, d3, d4] }
  | _ => none }
def marksOrderRow : OpenClaim := { program := "ytaaondbmkibkkaagreat", sum := "169feba1a526eb35feadf12e3f54814f6fcdb71dd5732f1564619ba4ed939fa6", func := "concourse/concourselaw13.MarksOrder", spec := "marksOrder", inPlace := ["internal/bytealg.IndexByteString", "internal/bytealg.IndexString"], unfollowed := true, recurses := true, named := ["internal/bytealg.MaxLen"], plainKeys := false, apart := false }
def MarksOrderSaid : Prop := marksOrderRow.holds Tryz.pinned (OpenSpec.ofChange marksOrderSpec)

/-- ITS FALSE NEIGHBOUR: 'it returns false'. Refute it at one input. -/
def marksOrderWrong : ChangeSpec := { name := "marksOrder", fn := fun _ => fun
  | [d1, d2, d3, d4] => { results := [.lit (.bool false)], args := [d1, d2, d3, d4] }
  | _ => none }
def MarksOrderWrongFalsely : Prop := marksOrderRow.holds Tryz.pinned (OpenSpec.ofChange marksOrderWrong)

/-- 'concourselaw13.MarksOn': WHATEVER THE INPUT: true; the input reads as it did. -/
def marksOnSpec : ChangeSpec := { name := "marksOn", fn := fun _ => fun
  | [d1, d2, d3] => { results := [.lit (.bool true)], args := [d1, d2, d3] }
  | _ => none }
def marksOnRow : OpenClaim := { program := "ytaaondbmkibkkaagreat", sum := "169feba1a526eb35feadf12e3f54814f6fcdb71dd5732f1564619ba4ed939fa6", func := "concourse/concourselaw13.MarksOn", spec := "marksOn", inPlace := ["internal/bytealg.IndexByteString", "internal/bytealg.IndexString"], unfollowed := true, recurses := true, named := ["internal/bytealg.MaxLen"], plainKeys := false, apart := false }
def MarksOnSaid : Prop := marksOnRow.holds Tryz.pinned (OpenSpec.ofChange marksOnSpec)

/-- ITS FALSE NEIGHBOUR: 'it returns false'. Refute it at one input. -/
def marksOnWrong : ChangeSpec := { name := "marksOn", fn := fun _ => fun
  | [d1, d2, d3] => { results := [.lit (.bool false)], args := [d1, d2, d3] }
  | _ => none }
def MarksOnWrongFalsely : Prop := marksOnRow.holds Tryz.pinned (OpenSpec.ofChange marksOnWrong)

/-- 'concourselaw13.MarksWait': WHATEVER THE INPUT: true; the input reads as it did. -/
def marksWaitSpec : ChangeSpec := { name := "marksWait", fn := fun _ => fun
  | [d1, d2, d3] => { results := [.lit (.bool true)], args := [d1, d2, d3] }
  | _ => none }
def marksWaitRow : OpenClaim := { program := "ytaaondbmkibkkaagreat", sum := "169feba1a526eb35feadf12e3f54814f6fcdb71dd5732f1564619ba4ed939fa6", func := "concourse/concourselaw13.MarksWait", spec := "marksWait", inPlace := ["internal/bytealg.IndexByteString", "internal/bytealg.IndexString"], unfollowed := true, recurses := true, named := ["internal/bytealg.MaxLen"], plainKeys := false, apart := false }
def MarksWaitSaid : Prop := marksWaitRow.holds Tryz.pinned (OpenSpec.ofChange marksWaitSpec)

/-- ITS FALSE NEIGHBOUR: 'it returns false'. Refute it at one input. -/
def marksWaitWrong : ChangeSpec := { name := "marksWait", fn := fun _ => fun
  | [d1, d2, d3] => { results := [.lit (.bool false)], args := [d1, d2, d3] }
  | _ => none }
def MarksWaitWrongFalsely : Prop := marksWaitRow.holds Tryz.pinned (OpenSpec.ofChange marksWaitWrong)

/-- 'concourselaw13.MarksPlays': WHATEVER THE INPUT: true; the input reads as it did. -/
def marksPlaysSpec : ChangeSpec := { name := "marksPlays", fn := fun _ => fun
  | [d1, d2, d3, d4, d5] => { results := [.lit (.bool true)], args := [d1, d2, d3, d4, d5] }
  | _ => none }
def marksPlaysRow : OpenClaim := { program := "ytaaondbmkibkkaagreat", sum := "169feba1a526eb35feadf12e3f54814f6fcdb71dd5732f1564619ba4ed939fa6", func := "concourse/concourselaw13.MarksPlays", spec := "marksPlays", inPlace := ["internal/bytealg.IndexByteString", "internal/bytealg.IndexString"], unfollowed := true, recurses := true, named := ["internal/bytealg.MaxLen"], plainKeys := false, apart := false }
def MarksPlaysSaid : Prop := marksPlaysRow.holds Tryz.pinned (OpenSpec.ofChange marksPlaysSpec)

/-- ITS FALSE NEIGHBOUR: 'it returns false'. Refute it at one input. -/
def marksPlaysWrong : ChangeSpec := { name := "marksPlays", fn := fun _ => fun
  | [d1, d2, d3, d4, d5] => { results := [.lit (.bool false)], args := [d1, d2, d3, d4, d5] }
  | _ => none }
def MarksPlaysWrongFalsely : Prop := marksPlaysRow.holds Tryz.pinned (OpenSpec.ofChange marksPlaysWrong)

/- THE SECOND FORM. 'bulk': how many values and letters a reading holds, each counted each time it is reached (what is shared counts as often as it is met; a slice's spare places count too). A statement '..UptoSaid' is the law's where the arguments, and the package variables that the reading takes, are together of bulk at most 1048576: NARROWER than '..Said'. Prove '..Said' where nothing that the law and all that it calls make is longer than what came in: it says more and counts as full. Else prove '..UptoSaid'. A law counts once. -/
mutual
def uptoBulk {H : Type} : DataW H → Nat
  | .lit (.string bytes) => bytes.length + 1
  | .lit _ => 1
  | .nil => 1
  | .ptr d => uptoBulk d + 1
  | .slice elems spare => uptoBulkAll elems + uptoBulkAll spare + 1
  | .agg parts => uptoBulkAll parts + 1
  | .iface _ d => uptoBulk d + 1
  | .map entries => uptoBulkEntries entries + 1
  | .held _ => 1
def uptoBulkAll {H : Type} : List (DataW H) → Nat
  | [] => 0
  | d :: r => uptoBulk d + uptoBulkAll r
def uptoBulkEntries {H : Type} : List (Lit × DataW H) → Nat
  | [] => 0
  | x :: r => uptoBulkEntry x + uptoBulkEntries r
def uptoBulkEntry {H : Type} : Lit × DataW H → Nat
  | (.string bytes, d) => bytes.length + uptoBulk d + 1
  | (_, d) => uptoBulk d + 1
 end
def uptoSmall : (H : Type) → List (DataW H) → Bool := fun _ ds => decide (uptoBulkAll ds ≤ 1048576)
def OpenSpec.upto (s : _root_.Go.ChangeSpec) : _root_.Go.OpenSpec := { _root_.Go.OpenSpec.ofChange s with cond := some uptoSmall }

/-- 'concourselaw13.MarksOf', WHERE WHAT IT READS IS OF BULK AT MOST 1048576: true; the input reads as it did. -/
def marksOfUptoRow : OpenClaim := { program := "ytaaondbmkibkkaagreat", sum := "169feba1a526eb35feadf12e3f54814f6fcdb71dd5732f1564619ba4ed939fa6", func := "concourse/concourselaw13.MarksOf", spec := "marksOf", inPlace := ["internal/bytealg.IndexByteString", "internal/bytealg.IndexString"], unfollowed := true, recurses := true, named := ["internal/bytealg.MaxLen"], plainKeys := false, apart := false, narrowed := true }
def MarksOfUptoSaid : Prop := marksOfUptoRow.holds Tryz.pinned (OpenSpec.upto marksOfSpec)

/-- 'concourselaw13.MarksOrder', WHERE WHAT IT READS IS OF BULK AT MOST 1048576: true; the input reads as it did. -/
def marksOrderUptoRow : OpenClaim := { program := "ytaaondbmkibkkaagreat", sum := "169feba1a526eb35feadf12e3f54814f6fcdb71dd5732f1564619ba4ed939fa6", func := "concourse/concourselaw13.MarksOrder", spec := "marksOrder", inPlace := ["internal/bytealg.IndexByteString", "internal/bytealg.IndexString"], unfollowed := true, recurses := true, named := ["internal/bytealg.MaxLen"], plainKeys := false, apart := false, narrowed := true }
def MarksOrderUptoSaid : Prop := marksOrderUptoRow.holds Tryz.pinned (OpenSpec.upto marksOrderSpec)

/-- 'concourselaw13.MarksOn', WHERE WHAT IT READS IS OF BULK AT MOST 1048576: true; the input reads as it did. -/
def marksOnUptoRow : OpenClaim := { program := "ytaaondbmkibkkaagreat", sum := "169feba1a526eb35feadf12e3f54814f6fcdb71dd5732f1564619ba4ed939fa6", func := "concourse/concourselaw13.MarksOn", spec := "marksOn", inPlace := ["internal/bytealg.IndexByteString", "internal/bytealg.IndexString"], unfollowed := true, recurses := true, named := ["internal/bytealg.MaxLen"], plainKeys := false, apart := false, narrowed := true }
def MarksOnUptoSaid : Prop := marksOnUptoRow.holds Tryz.pinned (OpenSpec.upto marksOnSpec)

/-- 'concourselaw13.MarksWait', WHERE WHAT IT READS IS OF BULK AT MOST 1048576: true; the input reads as it did. -/
def marksWaitUptoRow : OpenClaim := { program := "ytaaondbmkibkkaagreat", sum := "169feba1a526eb35feadf12e3f54814f6fcdb71dd5732f1564619ba4ed939fa6", func := "concourse/concourselaw13.MarksWait", spec := "marksWait", inPlace := ["internal/bytealg.IndexByteString", "internal/bytealg.IndexString"], unfollowed := true, recurses := true, named := ["internal/bytealg.MaxLen"], plainKeys := false, apart := false, narrowed := true }
def MarksWaitUptoSaid : Prop := marksWaitUptoRow.holds Tryz.pinned (OpenSpec.upto marksWaitSpec)

/-- 'concourselaw13.MarksPlays', WHERE WHAT IT READS IS OF BULK AT MOST 1048576: true; the input reads as it did. -/
def marksPlaysUptoRow : OpenClaim := { program := "ytaaondbmkibkkaagreat", sum := "169feba1a526eb35feadf12e3f54814f6fcdb71dd5732f1564619ba4ed939fa6", func := "concourse/concourselaw13.MarksPlays", spec := "marksPlays", inPlace := ["internal/bytealg.IndexByteString", "internal/bytealg.IndexString"], unfollowed := true, recurses := true, named := ["internal/bytealg.MaxLen"], plainKeys := false, apart := false, narrowed := true }
def MarksPlaysUptoSaid : Prop := marksPlaysUptoRow.holds Tryz.pinned (OpenSpec.upto marksPlaysSpec)

end Rows
end Go.Proofs.YtaaondbmkibkkaaGreat
