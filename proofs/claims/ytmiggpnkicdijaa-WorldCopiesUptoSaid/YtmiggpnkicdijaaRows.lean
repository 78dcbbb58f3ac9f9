/-
  No cell of these rows narrows 'for every input' (looked for: loops, veiled, ifaces, maps, wideKeys, modest, calm, conditions, laid).
  DERIVED. THE GIVEN ROWS OF THIS SEAT. 6 by the template 'for every input the law returns true; each argument reads behind the call as it read before'; 0 by the template 'total and deterministic' (their statements: YtmiggpnkicdijaaTotals.lean).
  GIVEN WITH THE SEED: the statements are not yours to turn. If you find one false, say at which input.
  Laid BY PROGRAM, IN A SANDBOX (cutbox-rows.mjs): the forced cells as the released guide's own fill.sh prints them over the translation 61037f424af38cb3… (all of the seat's roots in one cut). By AI agents, Wed Nov 11 2026. No macro, syntax, notation, axiom, sorry.
-/
import Derived.Test.YtmiggpnkicdijaaChecked
import GoSem.Claim
import GoSem.ClaimJoined
import GoSem.ClaimMapViews
import Derived.JoinedTies
import Derived.KernelRfl
namespace Go.Proofs.Ytmiggpnkicdijaa
/- THE CELL 'sum', in the pinned program and in every row, IS THE sha256 OF THE DUMP (.gsa) THAT YtmiggpnkicdijaaProg.lean LOADS. Nothing in Lean hashes anything: it is a label: what it is worth is what the hold of that sum in a sandbox is worth. -/
noncomputable def Try.pinned : Pinned := { name := "ytmiggpnkicdijaa", sum := "61037f424af38cb3557e5395656fe81642dd8ea910e0f5273f7636a314d97ba3", checked := Try.checked }
namespace Rows
def none {H : Type} : Left H := { results := [], args := [] }

/-- 'smithylaw02.WorldTells': WHATEVER THE INPUT: true; the input reads as it did. -/
def worldTellsSpec : ChangeSpec := { name := "worldTells", fn := fun _ => fun
  | [d1, d2] => { results := [.lit (.bool true)], args := [d1, d2] }
  | _ => none }
def worldTellsRow : OpenClaim := { program := "ytmiggpnkicdijaa", sum := "61037f424af38cb3557e5395656fe81642dd8ea910e0f5273f7636a314d97ba3", func := "smithy/smithylaw02.WorldTells", spec := "worldTells", inPlace := ["internal/bytealg.IndexByteString"], apart := false }
def WorldTellsSaid : Prop := worldTellsRow.holds Try.pinned (OpenSpec.ofChange worldTellsSpec)

/-- ITS FALSE NEIGHBOUR: 'it returns false'. Refute it at one input. -/
def worldTellsWrong : ChangeSpec := { name := "worldTells", fn := fun _ => fun
  | [d1, d2] => { results := [.lit (.bool false)], args := [d1, d2] }
  | _ => none }
def WorldTellsWrongFalsely : Prop := worldTellsRow.holds Try.pinned (OpenSpec.ofChange worldTellsWrong)

/-- 'smithylaw02.WorldLines': WHATEVER THE INPUT: true; the input reads as it did. -/
def worldLinesSpec : ChangeSpec := { name := "worldLines", fn := fun _ => fun
  | [d] => { results := [.lit (.bool true)], args := [d] }
  | _ => none }
def worldLinesRow : OpenClaim := { program := "ytmiggpnkicdijaa", sum := "61037f424af38cb3557e5395656fe81642dd8ea910e0f5273f7636a314d97ba3", func := "smithy/smithylaw02.WorldLines", spec := "worldLines", inPlace := ["internal/bytealg.IndexByteString"], apart := false }
def WorldLinesSaid : Prop := worldLinesRow.holds Try.pinned (OpenSpec.ofChange worldLinesSpec)

/-- ITS FALSE NEIGHBOUR: 'it returns false'. Refute it at one input. -/
def worldLinesWrong : ChangeSpec := { name := "worldLines", fn := fun _ => fun
  | [d] => { results := [.lit (.bool false)], args := [d] }
  | _ => none }
def WorldLinesWrongFalsely : Prop := worldLinesRow.holds Try.pinned (OpenSpec.ofChange worldLinesWrong)

/-- 'smithylaw02.WorldFull': WHATEVER THE INPUT: true; the input reads as it did. -/
def worldFullSpec : ChangeSpec := { name := "worldFull", fn := fun _ => fun
  | [d1, d2] => { results := [.lit (.bool true)], args := [d1, d2] }
  | _ => none }
def worldFullRow : OpenClaim := { program := "ytmiggpnkicdijaa", sum := "61037f424af38cb3557e5395656fe81642dd8ea910e0f5273f7636a314d97ba3", func := "smithy/smithylaw02.WorldFull", spec := "worldFull", inPlace := ["internal/bytealg.IndexByteString"], apart := false }
def WorldFullSaid : Prop := worldFullRow.holds Try.pinned (OpenSpec.ofChange worldFullSpec)

/-- ITS FALSE NEIGHBOUR: 'it returns false'. Refute it at one input. -/
def worldFullWrong : ChangeSpec := { name := "worldFull", fn := fun _ => fun
  | [d1, d2] => { results := [.lit (.bool false)], args := [d1, d2] }
  | _ => none }
def WorldFullWrongFalsely : Prop := worldFullRow.holds Try.pinned (OpenSpec.ofChange worldFullWrong)

/-- 'smithylaw02.WorldKeeps': WHATEVER THE INPUT: true; the input reads as it did. -/
def worldKeepsSpec : ChangeSpec := { name := "worldKeeps", fn := fun _ => fun
  | [d1, d2, d3, d4] => { results := [.lit (.bool true)], args := [d1, d2, d3, d4] }
  | _ => none }
def worldKeepsRow : OpenClaim := { program := "ytmiggpnkicdijaa", sum := "61037f424af38cb3557e5395656fe81642dd8ea910e0f5273f7636a314d97ba3", func := "smithy/smithylaw02.WorldKeeps", spec := "worldKeeps", inPlace := ["internal/bytealg.IndexByteString"], apart := false }
def WorldKeepsSaid : Prop := worldKeepsRow.holds Try.pinned (OpenSpec.ofChange worldKeepsSpec)

/-- ITS FALSE NEIGHBOUR: 'it returns false'. Refute it at one input. -/
def worldKeepsWrong : ChangeSpec := { name := "worldKeeps", fn := fun _ => fun
  | [d1, d2, d3, d4] => { results := [.lit (.bool false)], args := [d1, d2, d3, d4] }
  | _ => none }
def WorldKeepsWrongFalsely : Prop := worldKeepsRow.holds Try.pinned (OpenSpec.ofChange worldKeepsWrong)

/-- 'smithylaw02.WorldPlays': WHATEVER THE INPUT: true; the input reads as it did. -/
def worldPlaysSpec : ChangeSpec := { name := "worldPlays", fn := fun _ => fun
  | [d1, d2] => { results := [.lit (.bool true)], args := [d1, d2] }
  | _ => none }
def worldPlaysRow : OpenClaim := { program := "ytmiggpnkicdijaa", sum := "61037f424af38cb3557e5395656fe81642dd8ea910e0f5273f7636a314d97ba3", func := "smithy/smithylaw02.WorldPlays", spec := "worldPlays", inPlace := ["internal/bytealg.IndexByteString"], unfollowed := true, recurses := true, apart := false }
def WorldPlaysSaid : Prop := worldPlaysRow.holds Try.pinned (OpenSpec.ofChange worldPlaysSpec)

/-- ITS FALSE NEIGHBOUR: 'it returns false'. Refute it at one input. -/
def worldPlaysWrong : ChangeSpec := { name := "worldPlays", fn := fun _ => fun
  | [d1, d2] => { results := [.lit (.bool false)], args := [d1, d2] }
  | _ => none }
def WorldPlaysWrongFalsely : Prop := worldPlaysRow.holds Try.pinned (OpenSpec.ofChange worldPlaysWrong)

/-- 'smithylaw02.WorldCopies': WHATEVER THE INPUT: true; the input reads as it did. -/
def worldCopiesSpec : ChangeSpec := { name := "worldCopies", fn := fun _ => fun
  | [d1, d2, d3, d4] => { results := [.lit (.bool true)], args := [d1, d2, d3, d4] }
  | _ => none }
def worldCopiesRow : OpenClaim := { program := "ytmiggpnkicdijaa", sum := "61037f424af38cb3557e5395656fe81642dd8ea910e0f5273f7636a314d97ba3", func := "smithy/smithylaw02.WorldCopies", spec := "worldCopies", inPlace := ["internal/bytealg.IndexByteString"], unfollowed := true, recurses := true, apart := false }
def WorldCopiesSaid : Prop := worldCopiesRow.holds Try.pinned (OpenSpec.ofChange worldCopiesSpec)

/-- ITS FALSE NEIGHBOUR: 'it returns false'. Refute it at one input. -/
def worldCopiesWrong : ChangeSpec := { name := "worldCopies", fn := fun _ => fun
  | [d1, d2, d3, d4] => { results := [.lit (.bool false)], args := [d1, d2, d3, d4] }
  | _ => none }
def WorldCopiesWrongFalsely : Prop := worldCopiesRow.holds Try.pinned (OpenSpec.ofChange worldCopiesWrong)

/- THE SECOND FORM. 'bulk': how many values and letters a reading holds, each counted each time it is reached (what is shared counts as often as it is met; a slice's spare places count too). A statement '..UptoSaid' is the law's where the arguments, and the package variables that the reading takes, are together of bulk at most 1048576: NARROWER than '..Said'. Prove '..Said' where nothing that the law and all that it calls make is longer than what came in: it says more and counts as full. Else prove '..UptoSaid'. A law counts once. -/
mutual
def uptoBulk {H : Type} : DataW H → Nat
  | .lit (.string bytes) => bytes.length + 1
  | .lit _ => 1
  | .nil => 1
  | .ptr d => uptoBulk d + 1
  | .slice elems spare => uptoBulkAll elems + uptoBulkAll spare + 1
  | .agg parts => uptoBulkAll parts + 1
  | .iface _ d => uptoBulk d + 1
  | .map entries => uptoBulkEntries entries + 1
  | .held _ => 1
def uptoBulkAll {H : Type} : List (DataW H) → Nat
  | [] => 0
  | d :: r => uptoBulk d + uptoBulkAll r
def uptoBulkEntries {H : Type} : List (Lit × DataW H) → Nat
  | [] => 0
  | x :: r => uptoBulkEntry x + uptoBulkEntries r
def uptoBulkEntry {H : Type} : Lit × DataW H → Nat
  | (.string bytes, d) => bytes.length + uptoBulk d + 1
  | (_, d) => uptoBulk d + 1
 end
def uptoSmall : (H : Type) → List (DataW H) → Bool := fun _ ds => decide (uptoBulkAll ds ≤ 1048576)
def OpenSpec.upto (s : _root_.Go.ChangeSpec) : _root_.Go.OpenSpec := { _root_.Go.OpenSpec.ofChange s with cond := some uptoSmall }

/-- 'smithylaw02.WorldTells', WHERE WHAT IT READS IS OF BULK AT MOST 1048576: true; the input reads as it did. -/
def worldTellsUptoRow : OpenClaim := { program := "ytmiggpnkicdijaa", sum := "61037f424af38cb3557e5395656fe81642dd8ea910e0f5273f7636a314d97ba3", func := "smithy/smithylaw02.WorldTells", spec := "worldTells", inPlace := ["internal/bytealg.IndexByteString"], apart := false, narrowed := true }
def WorldTellsUptoSaid : Prop := worldTellsUptoRow.holds Try.pinned (OpenSpec.upto worldTellsSpec)

/-- 'smithylaw02.WorldLines', WHERE WHAT IT READS IS OF BULK AT MOST 1048576: true; the input reads as it did. -/
def worldLinesUptoRow : OpenClaim := { program := "ytmiggpnkicdijaa", sum := "61037f424af38cb3557e5395656fe81642dd8ea910e0f5273f7636a314d97ba3", func := "smithy/smithylaw02.WorldLines", spec := "worldLines", inPlace := ["internal/bytealg.IndexByteString"], apart := false, narrowed := true }
def WorldLinesUptoSaid : Prop := worldLinesUptoRow.holds Try.pinned (OpenSpec.upto worldLinesSpec)

/-- 'smithylaw02.WorldFull', WHERE WHAT IT READS IS OF BULK AT MOST 1048576: true; the input reads as it did. -/
def worldFullUptoRow : OpenClaim := { program := "ytmiggpnkicdijaa", sum := "61037f424af38cb3557e5395656fe81642dd8ea910e0f5273f7636a314d97ba3", func := "smithy/smithylaw02.WorldFull", spec := "worldFull", inPlace := ["internal/bytealg.IndexByteString"], apart := false, narrowed := true }
def WorldFullUptoSaid : Prop := worldFullUptoRow.holds Try.pinned (OpenSpec.upto worldFullSpec)

/-- 'smithylaw02.WorldKeeps', WHERE WHAT IT READS IS OF BULK AT MOST 1048576: true; the input reads as it did. -/
def worldKeepsUptoRow : OpenClaim := { program := "ytmiggpnkicdijaa", sum := "61037f424af38cb3557e5395656fe81642dd8ea910e0f5273f7636a314d97ba3", func := "smithy/smithylaw02.WorldKeeps", spec := "worldKeeps", inPlace := ["internal/bytealg.IndexByteString"], apart := false, narrowed := true }
def WorldKeepsUptoSaid : Prop := worldKeepsUptoRow.holds Try.pinned (OpenSpec.upto worldKeepsSpec)

/-- 'smithylaw02.WorldPlays', WHERE WHAT IT READS IS OF BULK AT MOST 1048576: true; the input reads as it did. -/
def worldPlaysUptoRow : OpenClaim := { program := "ytmiggpnkicdijaa", sum := "61037f424af38cb3557e5395656fe81642dd8ea910e0f5273f7636a314d97ba3", func := "smithy/smithylaw02.WorldPlays", spec := "worldPlays", inPlace := ["internal/bytealg.IndexByteString"], unfollowed := true, recurses := true, apart := false, narrowed := true }
def WorldPlaysUptoSaid : Prop := worldPlaysUptoRow.holds Try.pinned (OpenSpec.upto worldPlaysSpec)

/-- 'smithylaw02.WorldCopies', WHERE WHAT IT READS IS OF BULK AT MOST 1048576: true; the input reads as it did. -/
def worldCopiesUptoRow : OpenClaim := { program := "ytmiggpnkicdijaa", sum := "61037f424af38cb3557e5395656fe81642dd8ea910e0f5273f7636a314d97ba3", func := "smithy/smithylaw02.WorldCopies", spec := "worldCopies", inPlace := ["internal/bytealg.IndexByteString"], unfollowed := true, recurses := true, apart := false, narrowed := true }
def WorldCopiesUptoSaid : Prop := worldCopiesUptoRow.holds Try.pinned (OpenSpec.upto worldCopiesSpec)

end Rows
end Go.Proofs.Ytmiggpnkicdijaa
