/-
  No cell of these rows narrows 'for every input' (looked for: loops, veiled, ifaces, maps, wideKeys, modest, calm, conditions, laid).
  DERIVED. THE GIVEN ROWS OF THIS SEAT. 6 by the template 'for every input the law returns true; each argument reads behind the call as it read before'; 0 by the template 'total and deterministic' (their statements: YtaeacdhilekcbaaTotals.lean).
  GIVEN WITH THE SEED: the statements are not yours to turn. If you find one false, say at which input.
  Laid BY PROGRAM, IN A SANDBOX (cutbox-rows.mjs): the forced cells as the released guide's own fill.sh prints them over the translation 6f3e7348958f7b0c… (all of the seat's roots in one cut). By AI agents, Wed Nov 11 2026. No macro, syntax, notation, axiom, sorry.
-/
import Derived.Test.YtaeacdhilekcbaaChecked
import GoSem.Claim
import GoSem.ClaimJoined
import GoSem.ClaimMapViews
import Derived.JoinedTies
import Derived.KernelRfl
namespace Go.Proofs.Ytaeacdhilekcbaa
/- THE CELL 'sum', in the pinned program and in every row, IS THE sha256 OF THE DUMP (.gsa) THAT YtaeacdhilekcbaaProg.lean LOADS. Nothing in Lean hashes anything: it is a label: what it is worth is what the hold of that sum in a sandbox is worth. -/
noncomputable def Try.pinned : Pinned := { name := "ytaeacdhilekcbaa", sum := "6f3e7348958f7b0c78f10cb49cee1ba514cb4257c2cc1241a223d48bd443f17b", checked := Try.checked }
namespace Rows
def none {H : Type} : Left H := { results := [], args := [] }

/-- 'concourselaw11.ReceiptGets': WHATEVER THE INPUT: true; the input reads as it did. -/
def receiptGetsSpec : ChangeSpec := { name := "receiptGets", fn := fun _ => fun
  | [d1, d2] => { results := [.lit (.bool true)], args := [d1, d2] }
  | _ => none }
def receiptGetsRow : OpenClaim := { program := "ytaeacdhilekcbaa", sum := "6f3e7348958f7b0c78f10cb49cee1ba514cb4257c2cc1241a223d48bd443f17b", func := "concourse/concourselaw11.ReceiptGets", spec := "receiptGets", recurses := true, plainKeys := false, apart := false }
def ReceiptGetsSaid : Prop := receiptGetsRow.holds Try.pinned (OpenSpec.ofChange receiptGetsSpec)

/-- ITS FALSE NEIGHBOUR: 'it returns false'. Refute it at one input. -/
def receiptGetsWrong : ChangeSpec := { name := "receiptGets", fn := fun _ => fun
  | [d1, d2] => { results := [.lit (.bool false)], args := [d1, d2] }
  | _ => none }
def ReceiptGetsWrongFalsely : Prop := receiptGetsRow.holds Try.pinned (OpenSpec.ofChange receiptGetsWrong)

/-- 'concourselaw11.ReceiptOn': WHATEVER THE INPUT: true; the input reads as it did. -/
def receiptOnSpec : ChangeSpec := { name := "receiptOn", fn := fun _ => fun
  | [d] => { results := [.lit (.bool true)], args := [d] }
  | _ => none }
def receiptOnRow : OpenClaim := { program := "ytaeacdhilekcbaa", sum := "6f3e7348958f7b0c78f10cb49cee1ba514cb4257c2cc1241a223d48bd443f17b", func := "concourse/concourselaw11.ReceiptOn", spec := "receiptOn", recurses := true, plainKeys := false, apart := false }
def ReceiptOnSaid : Prop := receiptOnRow.holds Try.pinned (OpenSpec.ofChange receiptOnSpec)

/-- ITS FALSE NEIGHBOUR: 'it returns false'. Refute it at one input. -/
def receiptOnWrong : ChangeSpec := { name := "receiptOn", fn := fun _ => fun
  | [d] => { results := [.lit (.bool false)], args := [d] }
  | _ => none }
def ReceiptOnWrongFalsely : Prop := receiptOnRow.holds Try.pinned (OpenSpec.ofChange receiptOnWrong)

/-- 'concourselaw11.ReceiptRow': WHATEVER THE INPUT: true; the input reads as it did. -/
def receiptRowSpec : ChangeSpec := { name := "receiptRow", fn := fun _ => fun
  | [d1, d2, d3] => { results := [.lit (.bool true)], args := [d1, d2, d3] }
  | _ => none }
def receiptRowRow : OpenClaim := { program := "ytaeacdhilekcbaa", sum := "6f3e7348958f7b0c78f10cb49cee1ba514cb4257c2cc1241a223d48bd443f17b", func := "concourse/concourselaw11.ReceiptRow", spec := "receiptRow", recurses := true, plainKeys := false, apart := false }
def ReceiptRowSaid : Prop := receiptRowRow.holds Try.pinned (OpenSpec.ofChange receiptRowSpec)

/-- ITS FALSE NEIGHBOUR: 'it returns false'. Refute it at one input. -/
def receiptRowWrong : ChangeSpec := { name := "receiptRow", fn := fun _ => fun
  | [d1, d2, d3] => { results := [.lit (.bool false)], args := [d1, d2, d3] }
  | _ => none }
def ReceiptRowWrongFalsely : Prop := receiptRowRow.holds Try.pinned (OpenSpec.ofChange receiptRowWrong)

/-- 'concourselaw11.ReceiptOrder': WHATEVER THE INPUT: true; the input reads as it did. -/
def receiptOrderSpec : ChangeSpec := { name := "receiptOrder", fn := fun _ => fun
  | [d1, d2] => { results := [.lit (.bool true)], args := [d1, d2] }
  | _ => none }
def receiptOrderRow : OpenClaim := { program := "ytaeacdhilekcbaa", sum := "6f3e7348958f7b0c78f10cb49cee1ba514cb4257c2cc1241a223d48bd443f17b", func := "concourse/concourselaw11.ReceiptOrder", spec := "receiptOrder", unfollowed := true, recurses := true, plainKeys := false, apart := false }
def ReceiptOrderSaid : Prop := receiptOrderRow.holds Try.pinned (OpenSpec.ofChange receiptOrderSpec)

/-- ITS FALSE NEIGHBOUR: 'it returns false'. Refute it at one input. -/
def receiptOrderWrong : ChangeSpec := { name := "receiptOrder", fn := fun _ => fun
  | [d1, d2] => { results := [.lit (.bool false)], args := [d1, d2] }
  | _ => none }
def ReceiptOrderWrongFalsely : Prop := receiptOrderRow.holds Try.pinned (OpenSpec.ofChange receiptOrderWrong)

/-- 'concourselaw11.ReceiptMerges': WHATEVER THE INPUT: true; the input reads as it did. -/
def receiptMergesSpec : ChangeSpec := { name := "receiptMerges", fn := fun _ => fun
  | [d1, d2] => { results := [.lit (.bool true)], args := [d1, d2] }
  | _ => none }
def receiptMergesRow : OpenClaim := { program := "ytaeacdhilekcbaa", sum := "6f3e7348958f7b0c78f10cb49cee1ba514cb4257c2cc1241a223d48bd443f17b", func := "concourse/concourselaw11.ReceiptMerges", spec := "receiptMerges", unfollowed := true, recurses := true, plainKeys := false, apart := false }
def ReceiptMergesSaid : Prop := receiptMergesRow.holds Try.pinned (OpenSpec.ofChange receiptMergesSpec)

/-- ITS FALSE NEIGHBOUR: 'it returns false'. Refute it at one input. -/
def receiptMergesWrong : ChangeSpec := { name := "receiptMerges", fn := fun _ => fun
  | [d1, d2] => { results := [.lit (.bool false)], args := [d1, d2] }
  | _ => none }
def ReceiptMergesWrongFalsely : Prop := receiptMergesRow.holds Try.pinned (OpenSpec.ofChange receiptMergesWrong)

/-- 'concourselaw11.ReceiptPuts': WHATEVER THE INPUT: true; the input reads as it did. -/
def receiptPutsSpec : ChangeSpec := { name := "receiptPuts", fn := fun _ => fun
  | [d] => { results := [.lit (.bool true)], args := [d] }
  | _ => none }
def receiptPutsRow : OpenClaim := { program := "ytaeacdhilekcbaa", sum := "6f3e7348958f7b0c78f10cb49cee1ba514cb4257c2cc1241a223d48bd443f17b", func := "concourse/concourselaw11.ReceiptPuts", spec := "receiptPuts", unfollowed := true, recurses := true, plainKeys := false, apart := false }
def ReceiptPutsSaid : Prop := receiptPutsRow.holds Try.pinned (OpenSpec.ofChange receiptPutsSpec)

/-- ITS FALSE NEIGHBOUR: 'it returns false'. Refute it at one input. -/
def receiptPutsWrong : ChangeSpec := { name := "receiptPuts", fn := fun _ => fun
  | [d] => { results := [.lit (.bool false)], args := [d] }
  | _ => none }
def ReceiptPutsWrongFalsely : Prop := receiptPutsRow.holds Try.pinned (OpenSpec.ofChange receiptPutsWrong)

/- THE SECOND FORM. 'bulk': how many values and letters a reading holds, each counted each time it is reached (what is shared counts as often as it is met; a slice's spare places count too). A statement '..UptoSaid' is the law's where the arguments, and the package variables that the reading takes, are together of bulk at most 1048576: NARROWER than '..Said'. Prove '..Said' where nothing that the law and all that it calls make is longer than what came in: it says more and counts as full. Else prove '..UptoSaid'. A law counts once. -/
mutual
def uptoBulk {H : Type} : DataW H → Nat
  | .lit (.string bytes) => bytes.length + 1
  | .lit _ => 1
  | .nil => 1
  | .ptr d => uptoBulk d + 1
  | .slice elems spare => uptoBulkAll elems + uptoBulkAll spare + 1
  | .agg parts => uptoBulkAll parts + 1
  | .iface _ d => uptoBulk d + 1
  | .map entries => uptoBulkEntries entries + 1
  | .held _ => 1
def uptoBulkAll {H : Type} : List (DataW H) → Nat
  | [] => 0
  | d :: r => uptoBulk d + uptoBulkAll r
def uptoBulkEntries {H : Type} : List (Lit × DataW H) → Nat
  | [] => 0
  | x :: r => uptoBulkEntry x + uptoBulkEntries r
def uptoBulkEntry {H : Type} : Lit × DataW H → Nat
  | (.string bytes, d) => bytes.length + uptoBulk d + 1
  | (_, d) => uptoBulk d + 1
 end
def uptoSmall : (H : Type) → List (DataW H) → Bool := fun _ ds => decide (uptoBulkAll ds ≤ 1048576)
def OpenSpec.upto (s : _root_.Go.ChangeSpec) : _root_.Go.OpenSpec := { _root_.Go.OpenSpec.ofChange s with cond := some uptoSmall }

/-- 'concourselaw11.ReceiptGets', WHERE WHAT IT READS IS OF BULK AT MOST 1048576: true; the input reads as it did. -/
def receiptGetsUptoRow : OpenClaim := { program := "ytaeacdhilekcbaa", sum := "6f3e7348958f7b0c78f10cb49cee1ba514cb4257c2cc1241a223d48bd443f17b", func := "concourse/concourselaw11.ReceiptGets", spec := "receiptGets", recurses := true, plainKeys := false, apart := false, narrowed := true }
def ReceiptGetsUptoSaid : Prop := receiptGetsUptoRow.holds Try.pinned (OpenSpec.upto receiptGetsSpec)

/-- 'concourselaw11.ReceiptOn', WHERE WHAT IT READS IS OF BULK AT MOST 1048576: true; the input reads as it did. -/
def receiptOnUptoRow : OpenClaim := { program := "ytaeacdhilekcbaa", sum := "6f3e7348958f7b0c78f10cb49cee1ba514cb4257c2cc1241a223d48bd443f17b", func := "concourse/concourselaw11.ReceiptOn", spec := "receiptOn", recurses := true, plainKeys := false, apart := false, narrowed := true }
def ReceiptOnUptoSaid : Prop := receiptOnUptoRow.holds Try.pinned (OpenSpec.upto receiptOnSpec)

/-- 'concourselaw11.ReceiptRow', WHERE WHAT IT READS IS OF BULK AT MOST 1048576: true; the input reads as it did. -/
def receiptRowUptoRow : OpenClaim := { program := "ytaeacdhilekcbaa", sum := "6f3e7348958f7b0c78f10cb49cee1ba514cb4257c2cc1241a223d48bd443f17b", func := "concourse/concourselaw11.ReceiptRow", spec := "receiptRow", recurses := true, plainKeys := false, apart := false, narrowed := true }
def ReceiptRowUptoSaid : Prop := receiptRowUptoRow.holds Try.pinned (OpenSpec.upto receiptRowSpec)

/-- 'concourselaw11.ReceiptOrder', WHERE WHAT IT READS IS OF BULK AT MOST 1048576: true; the input reads as it did. -/
def receiptOrderUptoRow : OpenClaim := { program := "ytaeacdhilekcbaa", sum := "6f3e7348958f7b0c78f10cb49cee1ba514cb4257c2cc1241a223d48bd443f17b", func := "concourse/concourselaw11.ReceiptOrder", spec := "receiptOrder", unfollowed := true, recurses := true, plainKeys := false, apart := false, narrowed := true }
def ReceiptOrderUptoSaid : Prop := receiptOrderUptoRow.holds Try.pinned (OpenSpec.upto receiptOrderSpec)

/-- 'concourselaw11.ReceiptMerges', WHERE WHAT IT READS IS OF BULK AT MOST 1048576: true; the input reads as it did. -/
def receiptMergesUptoRow : OpenClaim := { program := "ytaeacdhilekcbaa", sum := "6f3e7348958f7b0c78f10cb49cee1ba514cb4257c2cc1241a223d48bd443f17b", func := "concourse/concourselaw11.ReceiptMerges", spec := "receiptMerges", unfollowed := true, recurses := true, plainKeys := false, apart := false, narrowed := true }
def ReceiptMergesUptoSaid : Prop := receiptMergesUptoRow.holds Try.pinned (OpenSpec.upto receiptMergesSpec)

/-- 'concourselaw11.ReceiptPuts', WHERE WHAT IT READS IS OF BULK AT MOST 1048576: true; the input reads as it did. -/
def receiptPutsUptoRow : OpenClaim := { program := "ytaeacdhilekcbaa", sum := "6f3e7348958f7b0c78f10cb49cee1ba514cb4257c2cc1241a223d48bd443f17b", func := "concourse/concourselaw11.ReceiptPuts", spec := "receiptPuts", unfollowed := true, recurses := true, plainKeys := false, apart := false, narrowed := true }
def ReceiptPutsUptoSaid : Prop := receiptPutsUptoRow.holds Try.pinned (OpenSpec.upto receiptPutsSpec)

end Rows
end Go.Proofs.Ytaeacdhilekcbaa
