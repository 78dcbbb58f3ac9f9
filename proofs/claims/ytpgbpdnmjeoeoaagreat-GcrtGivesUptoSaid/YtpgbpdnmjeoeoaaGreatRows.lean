/-
  No cell of these rows narrows 'for every input' (looked for: loops, veiled, ifaces, maps, wideKeys, modest, calm, conditions, laid).
  DERIVED. THE GIVEN ROWS OF THIS SEAT. 4 by the template 'for every input the law returns true; each argument reads behind the call as it read before'; 0 by the template 'total and deterministic' (their statements: YtpgbpdnmjeoeoaaGreatTotals.lean).
  GIVEN WITH THE SEED: the statements are not yours to turn. If you find one false, say at which input.
  Laid BY PROGRAM, IN A SANDBOX (cutbox-rows.mjs): the forced cells as the released guide's own fill.sh prints them over the translation 5520d73d340b3f55… (all of the seat's roots in one cut). By AI agents, Wed Nov 11 2026. No macro, syntax, notation, axiom, sorry.
-/
import Derived.Test.YtpgbpdnmjeoeoaaGreatChecked
import GoSem.Claim
import GoSem.ClaimJoined
import GoSem.ClaimMapViews
import Derived.JoinedTies
import Derived.KernelRfl
namespace Go.Proofs.YtpgbpdnmjeoeoaaGreat
/- THE CELL 'sum', in the pinned program and in every row, IS THE sha256 OF THE DUMP (.gsa) THAT YtpgbpdnmjeoeoaaGreatProg.lean LOADS. Nothing in Lean hashes anything: it is a label: what it is worth is what the hold of that sum in a sandbox is worth. -/
noncomputable def Tryz.pinned : Pinned := { name := "ytpgbpdnmjeoeoaagreat", sum := "5520d73d340b3f55e0500c69e713511d4628e09f4898642a4a38981bfa4778be", checked := Tryz.checked }
namespace Rows
def none {H : Type} : Left H := { results := [], args := [] }

/-- 'smithylaw15.GcrtStarts': WHATEVER THE INPUT: true; the input reads as it did. -/
def gcrtStartsSpec : ChangeSpec := { name := "gcrtStarts", fn := fun _ => fun
  | [d] => { results := [.lit (.bool true)], args := [d] }
  | _ => none }
def gcrtStartsRow : OpenClaim := { program := "ytpgbpdnmjeoeoaagreat", sum := "5520d73d340b3f55e0500c69e713511d4628e09f4898642a4a38981bfa4778be", func := "smithy/smithylaw15.GcrtStarts", spec := "gcrtStarts", inPlace := ["math.Float64frombits", "math.Float64bits"], unfollowed := true, recurses := true, apart := false }
def GcrtStartsSaid : Prop := gcrtStartsRow.holds Tryz.pinned (OpenSpec.ofChange gcrtStartsSpec)

/-- ITS FALSE NEIGHBOUR: 'it returns false'. Refute it at one input. -/
def gcrtStartsWrong : ChangeSpec := { name := "gcrtStarts", fn := fun _ => fun
  | [d] => { results := [.lit (.bool false)], args := [d] }
  | _ => none }
def GcrtStartsWrongFalsely : Prop := gcrtStartsRow.holds Tryz.pinned (OpenSpec.ofChange gcrtStartsWrong)

/-- 'smithylaw15.GcrtGives': WHATEVER THE INPUT: true; the input reads as it did. -/
def gcrtGivesSpec : ChangeSpec := { name := "gcrtGives", fn := fun _ => fun
  | [d1, d2, d3] => { results := [.lit (.bool true)], args := [d1, d2, d3] }
  | _ => none }
def gcrtGivesRow : OpenClaim := { program := "ytpgbpdnmjeoeoaagreat", sum := "5520d73d340b3f55e0500c69e713511d4628e09f4898642a4a38981bfa4778be", func := "smithy/smithylaw15.GcrtGives", spec := "gcrtGives", inPlace := ["math.Float64frombits", "math.Float64bits"], unfollowed := true, recurses := true, apart := false }
def GcrtGivesSaid : Prop := gcrtGivesRow.holds Tryz.pinned (OpenSpec.ofChange gcrtGivesSpec)

/-- ITS FALSE NEIGHBOUR: 'it returns false'. Refute it at one input. -/
def gcrtGivesWrong : ChangeSpec := { name := "gcrtGives", fn := fun _ => fun
  | [d1, d2, d3] => { results := [.lit (.bool false)], args := [d1, d2, d3] }
  | _ => none }
def GcrtGivesWrongFalsely : Prop := gcrtGivesRow.holds Tryz.pinned (OpenSpec.ofChange gcrtGivesWrong)

/-- 'smithylaw15.GcrtLeaves': WHATEVER THE INPUT: true; the input reads as it did. -/
def gcrtLeavesSpec : ChangeSpec := { name := "gcrtLeaves", fn := fun _ => fun
  | [d1, d2, d3] => { results := [.lit (.bool true)], args := [d1, d2, d3] }
  | _ => none }
def gcrtLeavesRow : OpenClaim := { program := "ytpgbpdnmjeoeoaagreat", sum := "5520d73d340b3f55e0500c69e713511d4628e09f4898642a4a38981bfa4778be", func := "smithy/smithylaw15.GcrtLeaves", spec := "gcrtLeaves", inPlace := ["math.Float64frombits", "math.Float64bits"], unfollowed := true, recurses := true, apart := false }
def GcrtLeavesSaid : Prop := gcrtLeavesRow.holds Tryz.pinned (OpenSpec.ofChange gcrtLeavesSpec)

/-- ITS FALSE NEIGHBOUR: 'it returns false'. Refute it at one input. -/
def gcrtLeavesWrong : ChangeSpec := { name := "gcrtLeaves", fn := fun _ => fun
  | [d1, d2, d3] => { results := [.lit (.bool false)], args := [d1, d2, d3] }
  | _ => none }
def GcrtLeavesWrongFalsely : Prop := gcrtLeavesRow.holds Tryz.pinned (OpenSpec.ofChange gcrtLeavesWrong)

/-- 'smithylaw15.GcrtEnds': WHATEVER THE INPUT: true; the input reads as it did. -/
def gcrtEndsSpec : ChangeSpec := { name := "gcrtEnds", fn := fun _ => fun
  | [d1, d2] => { results := [.lit (.bool true)], args := [d1, d2] }
  | _ => none }
def gcrtEndsRow : OpenClaim := { program := "ytpgbpdnmjeoeoaagreat", sum := "5520d73d340b3f55e0500c69e713511d4628e09f4898642a4a38981bfa4778be", func := "smithy/smithylaw15.GcrtEnds", spec := "gcrtEnds", inPlace := ["math.Float64frombits", "math.Float64bits"], unfollowed := true, recurses := true, apart := false }
def GcrtEndsSaid : Prop := gcrtEndsRow.holds Tryz.pinned (OpenSpec.ofChange gcrtEndsSpec)

/-- ITS FALSE NEIGHBOUR: 'it returns false'. Refute it at one input. -/
def gcrtEndsWrong : ChangeSpec := { name := "gcrtEnds", fn := fun _ => fun
  | [d1, d2] => { results := [.lit (.bool false)], args := [d1, d2] }
  | _ => none }
def GcrtEndsWrongFalsely : Prop := gcrtEndsRow.holds Tryz.pinned (OpenSpec.ofChange gcrtEndsWrong)

/- THE SECOND FORM. 'bulk': how many values and letters a reading holds, each counted each time it is reached (what is shared counts as often as it is met; a slice's spare places count too). A statement '..UptoSaid' is the law's where the arguments, and the package variables that the reading takes, are together of bulk at most 1048576: NARROWER than '..Said'. Prove '..Said' where nothing that the law and all that it calls make is longer than what came in: it says more and counts as full. Else prove '..UptoSaid'. A law counts once. -/
mutual
def uptoBulk {H : Type} : DataW H → Nat
  | .lit (.string bytes) => bytes.length + 1
  | .lit _ => 1
  | .nil => 1
  | .ptr d => uptoBulk d + 1
  | .slice elems spare => uptoBulkAll elems + uptoBulkAll spare + 1
  | .agg parts => uptoBulkAll parts + 1
  | .iface _ d => uptoBulk d + 1
  | .map entries => uptoBulkEntries entries + 1
  | .held _ => 1
def uptoBulkAll {H : Type} : List (DataW H) → Nat
  | [] => 0
  | d :: r => uptoBulk d + uptoBulkAll r
def uptoBulkEntries {H : Type} : List (Lit × DataW H) → Nat
  | [] => 0
  | x :: r => uptoBulkEntry x + uptoBulkEntries r
def uptoBulkEntry {H : Type} : Lit × DataW H → Nat
  | (.string bytes, d) => bytes.length + uptoBulk d + 1
  | (_, d) => uptoBulk d + 1
 end
def uptoSmall : (H : Type) → List (DataW H) → Bool := fun _ ds => decide (uptoBulkAll ds ≤ 1048576)
def OpenSpec.upto (s : _root_.Go.ChangeSpec) : _root_.Go.OpenSpec := { _root_.Go.OpenSpec.ofChange s with cond := some uptoSmall }

/-- 'smithylaw15.GcrtStarts', WHERE WHAT IT READS IS OF BULK AT MOST 1048576: true; the input reads as it did. -/
def gcrtStartsUptoRow : OpenClaim := { program := "ytpgbpdnmjeoeoaagreat", sum := "5520d73d340b3f55e0500c69e713511d4628e09f4898642a4a38981bfa4778be", func := "smithy/smithylaw15.GcrtStarts", spec := "gcrtStarts", inPlace := ["math.Float64frombits", "math.Float64bits"], unfollowed := true, recurses := true, apart := false, narrowed := true }
def GcrtStartsUptoSaid : Prop := gcrtStartsUptoRow.holds Tryz.pinned (OpenSpec.upto gcrtStartsSpec)

/-- 'smithylaw15.GcrtGives', WHERE WHAT IT READS IS OF BULK AT MOST 1048576: true; the input reads as it did. -/
def gcrtGivesUptoRow : OpenClaim := { program := "ytpgbpdnmjeoeoaagreat", sum := "5520d73d340b3f55e0500c69e713511d4628e09f4898642a4a38981bfa4778be", func := "smithy/smithylaw15.GcrtGives", spec := "gcrtGives", inPlace := ["math.Float64frombits", "math.Float64bits"], unfollowed := true, recurses := true, apart := false, narrowed := true }
def GcrtGivesUptoSaid : Prop := gcrtGivesUptoRow.holds Tryz.pinned (OpenSpec.upto gcrtGivesSpec)

/-- 'smithylaw15.GcrtLeaves', WHERE WHAT IT READS IS OF BULK AT MOST 1048576: true; the input reads as it did. -/
def gcrtLeavesUptoRow : OpenClaim := { program := "ytpgbpdnmjeoeoaagreat", sum := "5520d73d340b3f55e0500c69e713511d4628e09f4898642a4a38981bfa4778be", func := "smithy/smithylaw15.GcrtLeaves", spec := "gcrtLeaves", inPlace := ["math.Float64frombits", "math.Float64bits"], unfollowed := true, recurses := true, apart := false, narrowed := true }
def GcrtLeavesUptoSaid : Prop := gcrtLeavesUptoRow.holds Tryz.pinned (OpenSpec.upto gcrtLeavesSpec)

/-- 'smithylaw15.GcrtEnds', WHERE WHAT IT READS IS OF BULK AT MOST 1048576: true; the input reads as it did. -/
def gcrtEndsUptoRow : OpenClaim := { program := "ytpgbpdnmjeoeoaagreat", sum := "5520d73d340b3f55e0500c69e713511d4628e09f4898642a4a38981bfa4778be", func := "smithy/smithylaw15.GcrtEnds", spec := "gcrtEnds", inPlace := ["math.Float64frombits", "math.Float64bits"], unfollowed := true, recurses := true, apart := false, narrowed := true }
def GcrtEndsUptoSaid : Prop := gcrtEndsUptoRow.holds Tryz.pinned (OpenSpec.upto gcrtEndsSpec)

end Rows
end Go.Proofs.YtpgbpdnmjeoeoaaGreat
