/-
  No cell of these rows narrows 'for every input' (looked for: loops, veiled, ifaces, maps, wideKeys, modest, calm, conditions, laid).
  DERIVED. THE GIVEN ROWS OF THIS SEAT. 6 by the template 'for every input the law returns true; each argument reads behind the call as it read before'; 0 by the template 'total and deterministic' (their statements: YtbndnmmceccbkaaTotals.lean).
  GIVEN WITH THE SEED: the statements are not yours to turn. If you find one false, say at which input.
  Laid BY PROGRAM, IN A SANDBOX (cutbox-rows.mjs): the forced cells as the released guide's own fill.sh prints them over the translation 8c99c139bc547d2f… (all of the seat's roots in one cut). By AI agents, Wed Nov 11 2026. No macro, syntax, notation, axiom, sorry.
-/
import Derived.Test.YtbndnmmceccbkaaChecked
import GoSem.Claim
import GoSem.ClaimJoined
import GoSem.ClaimMapViews
import Derived.JoinedTies
import Derived.KernelRfl
namespace Go.Proofs.Ytbndnmmceccbkaa
/- THE CELL 'sum', in the pinned program and in every row, IS THE sha256 OF THE DUMP (.gsa) THAT YtbndnmmceccbkaaProg.lean LOADS. Nothing in Lean hashes anything: it is a label: what it is worth is what the hold of that sum in a sandbox is worth. -/
noncomputable def Try.pinned : Pinned := { name := "ytbndnmmceccbkaa", sum := "8c99c139bc547d2f6bc881f12cde5139f28e362b597ce5c97d4a63f47d9de21f", checked := Try.checked }
namespace Rows
def none {H : Type} : Left H := { results := [], args := [] }

/-- 'smithylaw14.HeapThings': WHATEVER THE INPUT: true; the input reads as it did. -/
def heapThingsSpec : ChangeSpec := { name := "heapThings", fn := fun _ => fun
  | [d] => { results := [.lit (.bool true)], args := [d] }
  | _ => none }
def heapThingsRow : OpenClaim := { program := "ytbndnmmceccbkaa", sum := "8c99c139bc547d2f6bc881f12cde5139f28e362b597ce5c97d4a63f47d9de21f", func := "smithy/smithylaw14.HeapThings", spec := "heapThings", unfollowed := true, recurses := true, apart := false }
def HeapThingsSaid : Prop := heapThingsRow.holds Try.pinned (OpenSpec.ofChange heapThingsSpec)

/-- ITS FALSE NEIGHBOUR: 'it returns false'. Refute it at one input. -/
def heapThingsWrong : ChangeSpec := { name := "heapThings", fn := fun _ => fun
  | [d] => { results := [.lit (.bool false)], args := [d] }
  | _ => none }
def HeapThingsWrongFalsely : Prop := heapThingsRow.holds Try.pinned (OpenSpec.ofChange heapThingsWrong)

/-- 'smithylaw14.HeapNumbers': WHATEVER THE INPUT: true; the input reads as it did. -/
def heapNumbersSpec : ChangeSpec := { name := "heapNumbers", fn := fun _ => fun
  | [d1, d2] => { results := [.lit (.bool true)], args := [d1, d2] }
  | _ => none }
def heapNumbersRow : OpenClaim := { program := "ytbndnmmceccbkaa", sum := "8c99c139bc547d2f6bc881f12cde5139f28e362b597ce5c97d4a63f47d9de21f", func := "smithy/smithylaw14.HeapNumbers", spec := "heapNumbers", unfollowed := true, recurses := true, apart := false }
def HeapNumbersSaid : Prop := heapNumbersRow.holds Try.pinned (OpenSpec.ofChange heapNumbersSpec)

/-- ITS FALSE NEIGHBOUR: 'it returns false'. Refute it at one input. -/
def heapNumbersWrong : ChangeSpec := { name := "heapNumbers", fn := fun _ => fun
  | [d1, d2] => { results := [.lit (.bool false)], args := [d1, d2] }
  | _ => none }
def HeapNumbersWrongFalsely : Prop := heapNumbersRow.holds Try.pinned (OpenSpec.ofChange heapNumbersWrong)

/-- 'smithylaw14.HeapLays': WHATEVER THE INPUT: true; the input reads as it did. -/
def heapLaysSpec : ChangeSpec := { name := "heapLays", fn := fun _ => fun
  | [d1, d2] => { results := [.lit (.bool true)], args := [d1, d2] }
  | _ => none }
def heapLaysRow : OpenClaim := { program := "ytbndnmmceccbkaa", sum := "8c99c139bc547d2f6bc881f12cde5139f28e362b597ce5c97d4a63f47d9de21f", func := "smithy/smithylaw14.HeapLays", spec := "heapLays", unfollowed := true, recurses := true, apart := false }
def HeapLaysSaid : Prop := heapLaysRow.holds Try.pinned (OpenSpec.ofChange heapLaysSpec)

/-- ITS FALSE NEIGHBOUR: 'it returns false'. Refute it at one input. -/
def heapLaysWrong : ChangeSpec := { name := "heapLays", fn := fun _ => fun
  | [d1, d2] => { results := [.lit (.bool false)], args := [d1, d2] }
  | _ => none }
def HeapLaysWrongFalsely : Prop := heapLaysRow.holds Try.pinned (OpenSpec.ofChange heapLaysWrong)

/-- 'smithylaw14.HeapReads': WHATEVER THE INPUT: true; the input reads as it did. -/
def heapReadsSpec : ChangeSpec := { name := "heapReads", fn := fun _ => fun
  | [d1, d2, d3] => { results := [.lit (.bool true)], args := [d1, d2, d3] }
  | _ => none }
def heapReadsRow : OpenClaim := { program := "ytbndnmmceccbkaa", sum := "8c99c139bc547d2f6bc881f12cde5139f28e362b597ce5c97d4a63f47d9de21f", func := "smithy/smithylaw14.HeapReads", spec := "heapReads", unfollowed := true, recurses := true, apart := false }
def HeapReadsSaid : Prop := heapReadsRow.holds Try.pinned (OpenSpec.ofChange heapReadsSpec)

/-- ITS FALSE NEIGHBOUR: 'it returns false'. Refute it at one input. -/
def heapReadsWrong : ChangeSpec := { name := "heapReads", fn := fun _ => fun
  | [d1, d2, d3] => { results := [.lit (.bool false)], args := [d1, d2, d3] }
  | _ => none }
def HeapReadsWrongFalsely : Prop := heapReadsRow.holds Try.pinned (OpenSpec.ofChange heapReadsWrong)

/-- 'smithylaw14.HeapBack': WHATEVER THE INPUT: true; the input reads as it did. -/
def heapBackSpec : ChangeSpec := { name := "heapBack", fn := fun _ => fun
  | [d1, d2] => { results := [.lit (.bool true)], args := [d1, d2] }
  | _ => none }
def heapBackRow : OpenClaim := { program := "ytbndnmmceccbkaa", sum := "8c99c139bc547d2f6bc881f12cde5139f28e362b597ce5c97d4a63f47d9de21f", func := "smithy/smithylaw14.HeapBack", spec := "heapBack", unfollowed := true, recurses := true, apart := false }
def HeapBackSaid : Prop := heapBackRow.holds Try.pinned (OpenSpec.ofChange heapBackSpec)

/-- ITS FALSE NEIGHBOUR: 'it returns false'. Refute it at one input. -/
def heapBackWrong : ChangeSpec := { name := "heapBack", fn := fun _ => fun
  | [d1, d2] => { results := [.lit (.bool false)], args := [d1, d2] }
  | _ => none }
def HeapBackWrongFalsely : Prop := heapBackRow.holds Try.pinned (OpenSpec.ofChange heapBackWrong)

/-- 'smithylaw14.HeapTurned': WHATEVER THE INPUT: true; the input reads as it did. -/
def heapTurnedSpec : ChangeSpec := { name := "heapTurned", fn := fun _ => fun
  | [d1, d2] => { results := [.lit (.bool true)], args := [d1, d2] }
  | _ => none }
def heapTurnedRow : OpenClaim := { program := "ytbndnmmceccbkaa", sum := "8c99c139bc547d2f6bc881f12cde5139f28e362b597ce5c97d4a63f47d9de21f", func := "smithy/smithylaw14.HeapTurned", spec := "heapTurned", unfollowed := true, recurses := true, apart := false }
def HeapTurnedSaid : Prop := heapTurnedRow.holds Try.pinned (OpenSpec.ofChange heapTurnedSpec)

/-- ITS FALSE NEIGHBOUR: 'it returns false'. Refute it at one input. -/
def heapTurnedWrong : ChangeSpec := { name := "heapTurned", fn := fun _ => fun
  | [d1, d2] => { results := [.lit (.bool false)], args := [d1, d2] }
  | _ => none }
def HeapTurnedWrongFalsely : Prop := heapTurnedRow.holds Try.pinned (OpenSpec.ofChange heapTurnedWrong)

/- THE SECOND FORM. 'bulk': how many values and letters a reading holds, each counted each time it is reached (what is shared counts as often as it is met; a slice's spare places count too). A statement '..UptoSaid' is the law's where the arguments, and the package variables that the reading takes, are together of bulk at most 1048576: NARROWER than '..Said'. Prove '..Said' where nothing that the law and all that it calls make is longer than what came in: it says more and counts as full. Else prove '..UptoSaid'. A law counts once. -/
mutual
def uptoBulk {H : Type} : DataW H → Nat
  | .lit (.string bytes) => bytes.length + 1
  | .lit _ => 1
  | .nil => 1
  | .ptr d => uptoBulk d + 1
  | .slice elems spare => uptoBulkAll elems + uptoBulkAll spare + 1
  | .agg parts => uptoBulkAll parts + 1
  | .iface _ d => uptoBulk d + 1
  | .map entries => uptoBulkEntries entries + 1
  | .held _ => 1
def uptoBulkAll {H : Type} : List (DataW H) → Nat
  | [] => 0
  | d :: r => uptoBulk d + uptoBulkAll r
def uptoBulkEntries {H : Type} : List (Lit × DataW H) → Nat
  | [] => 0
  | x :: r => uptoBulkEntry x + uptoBulkEntries r
def uptoBulkEntry {H : Type} : Lit × DataW H → Nat
  | (.string bytes, d) => bytes.length + uptoBulk d + 1
  | (_, d) => uptoBulk d + 1
 end
def uptoSmall : (H : Type) → List (DataW H) → Bool := fun _ ds => decide (uptoBulkAll ds ≤ 1048576)
def OpenSpec.upto (s : _root_.Go.ChangeSpec) : _root_.Go.OpenSpec := { _root_.Go.OpenSpec.ofChange s with cond := some uptoSmall }

/-- 'smithylaw14.HeapThings', WHERE WHAT IT READS IS OF BULK AT MOST 1048576: true; the input reads as it did. -/
def heapThingsUptoRow : OpenClaim := { program := "ytbndnmmceccbkaa", sum := "8c99c139bc547d2f6bc881f12cde5139f28e362b597ce5c97d4a63f47d9de21f", func := "smithy/smithylaw14.HeapThings", spec := "heapThings", unfollowed := true, recurses := true, apart := false, narrowed := true }
def HeapThingsUptoSaid : Prop := heapThingsUptoRow.holds Try.pinned (OpenSpec.upto heapThingsSpec)

/-- 'smithylaw14.HeapNumbers', WHERE WHAT IT READS IS OF BULK AT MOST 1048576: true; the input reads as it did. -/
def heapNumbersUptoRow : OpenClaim := { program := "ytbndnmmceccbkaa", sum := "8c99c139bc547d2f6bc881f12cde5139f28e362b597ce5c97d4a63f47d9de21f", func := "smithy/smithylaw14.HeapNumbers", spec := "heapNumbers", unfollowed := true, recurses := true, apart := false, narrowed := true }
def HeapNumbersUptoSaid : Prop := heapNumbersUptoRow.holds Try.pinned (OpenSpec.upto heapNumbersSpec)

/-- 'smithylaw14.HeapLays', WHERE WHAT IT READS IS OF BULK AT MOST 1048576: true; the input reads as it did. -/
def heapLaysUptoRow : OpenClaim := { program := "ytbndnmmceccbkaa", sum := "8c99c139bc547d2f6bc881f12cde5139f28e362b597ce5c97d4a63f47d9de21f", func := "smithy/smithylaw14.HeapLays", spec := "heapLays", unfollowed := true, recurses := true, apart := false, narrowed := true }
def HeapLaysUptoSaid : Prop := heapLaysUptoRow.holds Try.pinned (OpenSpec.upto heapLaysSpec)

/-- 'smithylaw14.HeapReads', WHERE WHAT IT READS IS OF BULK AT MOST 1048576: true; the input reads as it did. -/
def heapReadsUptoRow : OpenClaim := { program := "ytbndnmmceccbkaa", sum := "8c99c139bc547d2f6bc881f12cde5139f28e362b597ce5c97d4a63f47d9de21f", func := "smithy/smithylaw14.HeapReads", spec := "heapReads", unfollowed := true, recurses := true, apart := false, narrowed := true }
def HeapReadsUptoSaid : Prop := heapReadsUptoRow.holds Try.pinned (OpenSpec.upto heapReadsSpec)

/-- 'smithylaw14.HeapBack', WHERE WHAT IT READS IS OF BULK AT MOST 1048576: true; the input reads as it did. -/
def heapBackUptoRow : OpenClaim := { program := "ytbndnmmceccbkaa", sum := "8c99c139bc547d2f6bc881f12cde5139f28e362b597ce5c97d4a63f47d9de21f", func := "smithy/smithylaw14.HeapBack", spec := "heapBack", unfollowed := true, recurses := true, apart := false, narrowed := true }
def HeapBackUptoSaid : Prop := heapBackUptoRow.holds Try.pinned (OpenSpec.upto heapBackSpec)

/-- 'smithylaw14.HeapTurned', WHERE WHAT IT READS IS OF BULK AT MOST 1048576: true; the input reads as it did. -/
def heapTurnedUptoRow : OpenClaim := { program := "ytbndnmmceccbkaa", sum := "8c99c139bc547d2f6bc881f12cde5139f28e362b597ce5c97d4a63f47d9de21f", func := "smithy/smithylaw14.HeapTurned", spec := "heapTurned", unfollowed := true, recurses := true, apart := false, narrowed := true }
def HeapTurnedUptoSaid : Prop := heapTurnedUptoRow.holds Try.pinned (OpenSpec.upto heapTurnedSpec)

end Rows
end Go.Proofs.Ytbndnmmceccbkaa
