/-
  No cell of these rows narrows 'for every input' (looked for: loops, veiled, ifaces, maps, wideKeys, modest, calm, conditions, laid).
  DERIVED. THE GIVEN ROWS OF THIS SEAT. 4 by the template 'for every input the law returns true; each argument reads behind the call as it read before'; 0 by the template 'total and deterministic' (their statements: YtabkedlmpaoloaaTotals.lean).
  GIVEN WITH THE SEED: the statements are not yours to turn. If you find one false, say at which input.
  Laid BY PROGRAM, IN A SANDBOX (cutbox-rows.mjs): the forced cells as the released guide's own fill.sh prints them over the translation 715b1ce1c75be1d7… (all of the seat's roots in one cut). By AI agents, Wed Nov 11 2026. No macro, syntax, notation, axiom, sorry.
-/
import Derived.Test.YtabkedlmpaoloaaChecked
import GoSem.Claim
import GoSem.ClaimJoined
import GoSem.ClaimMapViews
import Derived.JoinedTies
import Derived.KernelRfl
namespace Go.Proofs.Ytabkedlmpaoloaa
/- THE CELL 'sum', in the pinned program and in every row, IS THE sha256 OF THE DUMP (.gsa) THAT YtabkedlmpaoloaaProg.lean LOADS. Nothing in Lean hashes anything: it is a label: what it is worth is what the hold of that sum in a sandbox is worth. -/
noncomputable def Try.pinned : Pinned := { name := "ytabkedlmpaoloaa", sum := "715b1ce1c75be1d7e19798d13d998385acfdedd9bc3a8ef3b1d2dc91c3820cba", checked := Try.checked }
namespace Rows
def none {H : Type} : Left H := { results := [], args := [] }

/-- 'smithylaw22.AsmMoves': WHATEVER THE INPUT: true; the input reads as it did. -/
def asmMovesSpec : ChangeSpec := { name := "asmMoves", fn := fun _ => fun
  | [d1, d2, d3, d4] => { results := [.lit (.bool true)], args := [d1, d2, d3, d4] }
  | _ => none }
def asmMovesRow : OpenClaim := { program := "ytabkedlmpaoloaa", sum := "715b1ce1c75be1d7e19798d13d998385acfdedd9bc3a8ef3b1d2dc91c3820cba", func := "smithy/smithylaw22.AsmMoves", spec := "asmMoves", unfollowed := true, recurses := true, apart := false }
def AsmMovesSaid : Prop := asmMovesRow.holds Try.pinned (OpenSpec.ofChange asmMovesSpec)

/-- ITS FALSE NEIGHBOUR: 'it returns false'. Refute it at one input. -/
def asmMovesWrong : ChangeSpec := { name := "asmMoves", fn := fun _ => fun
  | [d1, d2, d3, d4] => { results := [.lit (.bool false)], args := [d1, d2, d3, d4] }
  | _ => none }
def AsmMovesWrongFalsely : Prop := asmMovesRow.holds Try.pinned (OpenSpec.ofChange asmMovesWrong)

/-- 'smithylaw22.AsmLays': WHATEVER THE INPUT: true; the input reads as it did. -/
def asmLaysSpec : ChangeSpec := { name := "asmLays", fn := fun _ => fun
  | [d1, d2] => { results := [.lit (.bool true)], args := [d1, d2] }
  | _ => none }
def asmLaysRow : OpenClaim := { program := "ytabkedlmpaoloaa", sum := "715b1ce1c75be1d7e19798d13d998385acfdedd9bc3a8ef3b1d2dc91c3820cba", func := "smithy/smithylaw22.AsmLays", spec := "asmLays", unfollowed := true, recurses := true, apart := false }
def AsmLaysSaid : Prop := asmLaysRow.holds Try.pinned (OpenSpec.ofChange asmLaysSpec)

/-- ITS FALSE NEIGHBOUR: 'it returns false'. Refute it at one input. -/
def asmLaysWrong : ChangeSpec := { name := "asmLays", fn := fun _ => fun
  | [d1, d2] => { results := [.lit (.bool false)], args := [d1, d2] }
  | _ => none }
def AsmLaysWrongFalsely : Prop := asmLaysRow.holds Try.pinned (OpenSpec.ofChange asmLaysWrong)

/-- 'smithylaw22.AsmReaches': WHATEVER THE INPUT: true; the input reads as it did. -/
def asmReachesSpec : ChangeSpec := { name := "asmReaches", fn := fun _ => fun
  | [d1, d2] => { results := [.lit (.bool true)], args := [d1, d2] }
  | _ => none }
def asmReachesRow : OpenClaim := { program := "ytabkedlmpaoloaa", sum := "715b1ce1c75be1d7e19798d13d998385acfdedd9bc3a8ef3b1d2dc91c3820cba", func := "smithy/smithylaw22.AsmReaches", spec := "asmReaches", unfollowed := true, recurses := true, apart := false }
def AsmReachesSaid : Prop := asmReachesRow.holds Try.pinned (OpenSpec.ofChange asmReachesSpec)

/-- ITS FALSE NEIGHBOUR: 'it returns false'. Refute it at one input. -/
def asmReachesWrong : ChangeSpec := { name := "asmReaches", fn := fun _ => fun
  | [d1, d2] => { results := [.lit (.bool false)], args := [d1, d2] }
  | _ => none }
def AsmReachesWrongFalsely : Prop := asmReachesRow.holds Try.pinned (OpenSpec.ofChange asmReachesWrong)

/-- 'smithylaw22.AsmReads': WHATEVER THE INPUT: true; the input reads as it did. -/
def asmReadsSpec : ChangeSpec := { name := "asmReads", fn := fun _ => fun
  | [d1, d2] => { results := [.lit (.bool true)], args := [d1, d2] }
  | _ => none }
def asmReadsRow : OpenClaim := { program := "ytabkedlmpaoloaa", sum := "715b1ce1c75be1d7e19798d13d998385acfdedd9bc3a8ef3b1d2dc91c3820cba", func := "smithy/smithylaw22.AsmReads", spec := "asmReads", unfollowed := true, recurses := true, apart := false }
def AsmReadsSaid : Prop := asmReadsRow.holds Try.pinned (OpenSpec.ofChange asmReadsSpec)

/-- ITS FALSE NEIGHBOUR: 'it returns false'. Refute it at one input. -/
def asmReadsWrong : ChangeSpec := { name := "asmReads", fn := fun _ => fun
  | [d1, d2] => { results := [.lit (.bool false)], args := [d1, d2] }
  | _ => none }
def AsmReadsWrongFalsely : Prop := asmReadsRow.holds Try.pinned (OpenSpec.ofChange asmReadsWrong)

/- THE SECOND FORM. 'bulk': how many values and letters a reading holds, each counted each time it is reached (what is shared counts as often as it is met; a slice's spare places count too). A statement '..UptoSaid' is the law's where the arguments, and the package variables that the reading takes, are together of bulk at most 1048576: NARROWER than '..Said'. Prove '..Said' where nothing that the law and all that it calls make is longer than what came in: it says more and counts as full. Else prove '..UptoSaid'. A law counts once. -/
mutual
def uptoBulk {H : Type} : DataW H → Nat
  | .lit (.string bytes) => bytes.length + 1
  | .lit _ => 1
  | .nil => 1
  | .ptr d => uptoBulk d + 1
  | .slice elems spare => uptoBulkAll elems + uptoBulkAll spare + 1
  | .agg parts => uptoBulkAll parts + 1
  | .iface _ d => uptoBulk d + 1
  | .map entries => uptoBulkEntries entries + 1
  | .held _ => 1
def uptoBulkAll {H : Type} : List (DataW H) → Nat
  | [] => 0
  | d :: r => uptoBulk d + uptoBulkAll r
def uptoBulkEntries {H : Type} : List (Lit × DataW H) → Nat
  | [] => 0
  | x :: r => uptoBulkEntry x + uptoBulkEntries r
def uptoBulkEntry {H : Type} : Lit × DataW H → Nat
  | (.string bytes, d) => bytes.length + uptoBulk d + 1
  | (_, d) => uptoBulk d + 1
 end
def uptoSmall : (H : Type) → List (DataW H) → Bool := fun _ ds => decide (uptoBulkAll ds ≤ 1048576)
def OpenSpec.upto (s : _root_.Go.ChangeSpec) : _root_.Go.OpenSpec := { _root_.Go.OpenSpec.ofChange s with cond := some uptoSmall }

/-- 'smithylaw22.AsmMoves', WHERE WHAT IT READS IS OF BULK AT MOST 1048576: true; the input reads as it did. -/
def asmMovesUptoRow : OpenClaim := { program := "ytabkedlmpaoloaa", sum := "715b1ce1c75be1d7e19798d13d998385acfdedd9bc3a8ef3b1d2dc91c3820cba", func := "smithy/smithylaw22.AsmMoves", spec := "asmMoves", unfollowed := true, recurses := true, apart := false, narrowed := true }
def AsmMovesUptoSaid : Prop := asmMovesUptoRow.holds Try.pinned (OpenSpec.upto asmMovesSpec)

/-- 'smithylaw22.AsmLays', WHERE WHAT IT READS IS OF BULK AT MOST 1048576: true; the input reads as it did. -/
def asmLaysUptoRow : OpenClaim := { program := "ytabkedlmpaoloaa", sum := "715b1ce1c75be1d7e19798d13d998385acfdedd9bc3a8ef3b1d2dc91c3820cba", func := "smithy/smithylaw22.AsmLays", spec := "asmLays", unfollowed := true, recurses := true, apart := false, narrowed := true }
def AsmLaysUptoSaid : Prop := asmLaysUptoRow.holds Try.pinned (OpenSpec.upto asmLaysSpec)

/-- 'smithylaw22.AsmReaches', WHERE WHAT IT READS IS OF BULK AT MOST 1048576: true; the input reads as it did. -/
def asmReachesUptoRow : OpenClaim := { program := "ytabkedlmpaoloaa", sum := "715b1ce1c75be1d7e19798d13d998385acfdedd9bc3a8ef3b1d2dc91c3820cba", func := "smithy/smithylaw22.AsmReaches", spec := "asmReaches", unfollowed := true, recurses := true, apart := false, narrowed := true }
def AsmReachesUptoSaid : Prop := asmReachesUptoRow.holds Try.pinned (OpenSpec.upto asmReachesSpec)

/-- 'smithylaw22.AsmReads', WHERE WHAT IT READS IS OF BULK AT MOST 1048576: true; the input reads as it did. -/
def asmReadsUptoRow : OpenClaim := { program := "ytabkedlmpaoloaa", sum := "715b1ce1c75be1d7e19798d13d998385acfdedd9bc3a8ef3b1d2dc91c3820cba", func := "smithy/smithylaw22.AsmReads", spec := "asmReads", unfollowed := true, recurses := true, apart := false, narrowed := true }
def AsmReadsUptoSaid : Prop := asmReadsUptoRow.holds Try.pinned (OpenSpec.upto asmReadsSpec)

end Rows
end Go.Proofs.Ytabkedlmpaoloaa
