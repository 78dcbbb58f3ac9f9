/-
  No cell of these rows narrows 'for every input' (looked for: loops, veiled, ifaces, maps, wideKeys, modest, calm, conditions, laid).
  DERIVED. THE GIVEN ROWS OF THIS SEAT. 3 by the template 'for every input the law returns true; each argument reads behind the call as it read before'; 0 by the template 'total and deterministic' (their statements: YtlfklgganokgdaaTotals.lean).
  GIVEN WITH THE SEED: the statements are not yours to turn. If you find one false, say at which input.
  Laid BY PROGRAM, IN A SANDBOX (cutbox-rows.mjs): the forced cells as the released guide's own fill.sh prints them over the translation db294994e48724fb… (all of the seat's roots in one cut). By AI agents, Wed Nov 11 2026. No macro, syntax, notation, axiom, sorry.
-/
import Derived.Test.YtlfklgganokgdaaChecked
import GoSem.Claim
import GoSem.ClaimJoined
import GoSem.ClaimMapViews
import Derived.JoinedTies
import Derived.KernelRfl
namespace Go.Proofs.Ytlfklgganokgdaa
/- THE CELL 'sum', in the pinned program and in every row, IS THE sha256 OF THE DUMP (.gsa) THAT YtlfklgganokgdaaProg.lean LOADS. Nothing in Lean hashes anything: it is a label: what it is worth is what the hold of that sum in a sandbox is worth. -/
noncomputable def Try.pinned : Pinned := { name := "ytlfklgganokgdaa", sum := "db294994e48724fb256855ff9143f2cd781d3c70b8d0fd45316c47a1621fa42a", checked := Try.checked }
namespace Rows
def none {H : Type} : Left H := { results := [], args := [] }

/-- 'smithylaw13.WordForms': WHATEVER THE INPUT: true; the input reads as it did. -/
def wordFormsSpec : ChangeSpec := { name := "wordForms", fn := fun _ => fun
  | [d] => { results := [.lit (.bool true)], args := [d] }
  | _ => none }
def wordFormsRow : OpenClaim := { program := "ytlfklgganokgdaa", sum := "db294994e48724fb256855ff9143f2cd781d3c70b8d0fd45316c47a1621fa42a", func := "smithy/smithylaw13.WordForms", spec := "wordForms", inPlace := ["internal/bytealg.IndexByteString", "math.Float64frombits", "math.Float64bits"], unfollowed := true, recurses := true, apart := false }
def WordFormsSaid : Prop := wordFormsRow.holds Try.pinned (OpenSpec.ofChange wordFormsSpec)

/-- ITS FALSE NEIGHBOUR: 'it returns false'. Refute it at one input. -/
def wordFormsWrong : ChangeSpec := { name := "wordForms", fn := fun _ => fun
  | [d] => { results := [.lit (.bool false)], args := [d] }
  | _ => none }
def WordFormsWrongFalsely : Prop := wordFormsRow.holds Try.pinned (OpenSpec.ofChange wordFormsWrong)

/-- 'smithylaw13.WordStrictly': WHATEVER THE INPUT: true; the input reads as it did. -/
def wordStrictlySpec : ChangeSpec := { name := "wordStrictly", fn := fun _ => fun
  | [d1, d2, d3] => { results := [.lit (.bool true)], args := [d1, d2, d3] }
  | _ => none }
def wordStrictlyRow : OpenClaim := { program := "ytlfklgganokgdaa", sum := "db294994e48724fb256855ff9143f2cd781d3c70b8d0fd45316c47a1621fa42a", func := "smithy/smithylaw13.WordStrictly", spec := "wordStrictly", inPlace := ["internal/bytealg.IndexByteString", "math.Float64frombits", "math.Float64bits"], unfollowed := true, recurses := true, apart := false }
def WordStrictlySaid : Prop := wordStrictlyRow.holds Try.pinned (OpenSpec.ofChange wordStrictlySpec)

/-- ITS FALSE NEIGHBOUR: 'it returns false'. Refute it at one input. -/
def wordStrictlyWrong : ChangeSpec := { name := "wordStrictly", fn := fun _ => fun
  | [d1, d2, d3] => { results := [.lit (.bool false)], args := [d1, d2, d3] }
  | _ => none }
def WordStrictlyWrongFalsely : Prop := wordStrictlyRow.holds Try.pinned (OpenSpec.ofChange wordStrictlyWrong)

/-- 'smithylaw13.WordSplits': WHATEVER THE INPUT: true; the input reads as it did. -/
def wordSplitsSpec : ChangeSpec := { name := "wordSplits", fn := fun _ => fun
  | [d1, d2, d3] => { results := [.lit (.bool true)], args := [d1, d2, d3] }
  | _ => none }
def wordSplitsRow : OpenClaim := { program := "ytlfklgganokgdaa", sum := "db294994e48724fb256855ff9143f2cd781d3c70b8d0fd45316c47a1621fa42a", func := "smithy/smithylaw13.WordSplits", spec := "wordSplits", inPlace := ["internal/bytealg.IndexByteString", "math.Float64frombits", "math.Float64bits"], unfollowed := true, recurses := true, apart := false }
def WordSplitsSaid : Prop := wordSplitsRow.holds Try.pinned (OpenSpec.ofChange wordSplitsSpec)

/-- ITS FALSE NEIGHBOUR: 'it returns false'. Refute it at one input. -/
def wordSplitsWrong : ChangeSpec := { name := "wordSplits", fn := fun _ => fun
  | [d1, d2, d3] => { results := [.lit (.bool false)], args := [d1, d2, d3] }
  | _ => none }
def WordSplitsWrongFalsely : Prop := wordSplitsRow.holds Try.pinned (OpenSpec.ofChange wordSplitsWrong)

/- THE SECOND FORM. 'bulk': how many values and letters a reading holds, each counted each time it is reached (what is shared counts as often as it is met; a slice's spare places count too). A statement '..UptoSaid' is the law's where the arguments, and the package variables that the reading takes, are together of bulk at most 1048576: NARROWER than '..Said'. Prove '..Said' where nothing that the law and all that it calls make is longer than what came in: it says more and counts as full. Else prove '..UptoSaid'. A law counts once. -/
mutual
def uptoBulk {H : Type} : DataW H → Nat
  | .lit (.string bytes) => bytes.length + 1
  | .lit _ => 1
  | .nil => 1
  | .ptr d => uptoBulk d + 1
  | .slice elems spare => uptoBulkAll elems + uptoBulkAll spare + 1
  | .agg parts => uptoBulkAll parts + 1
  | .iface _ d => uptoBulk d + 1
  | .map entries => uptoBulkEntries entries + 1
  | .held _ => 1
def uptoBulkAll {H : Type} : List (DataW H) → Nat
  | [] => 0
  | d :: r => uptoBulk d + uptoBulkAll r
def uptoBulkEntries {H : Type} : List (Lit × DataW H) → Nat
  | [] => 0
  | x :: r => uptoBulkEntry x + uptoBulkEntries r
def uptoBulkEntry {H : Type} : Lit × DataW H → Nat
  | (.string bytes, d) => bytes.length + uptoBulk d + 1
  | (_, d) => uptoBulk d + 1
 end
def uptoSmall : (H : Type) → List (DataW H) → Bool := fun _ ds => decide (uptoBulkAll ds ≤ 1048576)
def OpenSpec.upto (s : _root_.Go.ChangeSpec) : _root_.Go.OpenSpec := { _root_.Go.OpenSpec.ofChange s with cond := some uptoSmall }

/-- 'smithylaw13.WordForms', WHERE WHAT IT READS IS OF BULK AT MOST 1048576: true; the input reads as it did. -/
def wordFormsUptoRow : OpenClaim := { program := "ytlfklgganokgdaa", sum := "db294994e48724fb256855ff9143f2cd781d3c70b8d0fd45316c47a1621fa42a", func := "smithy/smithylaw13.WordForms", spec := "wordForms", inPlace := ["internal/bytealg.IndexByteString", "math.Float64frombits", "math.Float64bits"], unfollowed := true, recurses := true, apart := false, narrowed := true }
def WordFormsUptoSaid : Prop := wordFormsUptoRow.holds Try.pinned (OpenSpec.upto wordFormsSpec)

/-- 'smithylaw13.WordStrictly', WHERE WHAT IT READS IS OF BULK AT MOST 1048576: true; the input reads as it did. -/
def wordStrictlyUptoRow : OpenClaim := { program := "ytlfklgganokgdaa", sum := "db294994e48724fb256855ff9143f2cd781d3c70b8d0fd45316c47a1621fa42a", func := "smithy/smithylaw13.WordStrictly", spec := "wordStrictly", inPlace := ["internal/bytealg.IndexByteString", "math.Float64frombits", "math.Float64bits"], unfollowed := true, recurses := true, apart := false, narrowed := true }
def WordStrictlyUptoSaid : Prop := wordStrictlyUptoRow.holds Try.pinned (OpenSpec.upto wordStrictlySpec)

/-- 'smithylaw13.WordSplits', WHERE WHAT IT READS IS OF BULK AT MOST 1048576: true; the input reads as it did. -/
def wordSplitsUptoRow : OpenClaim := { program := "ytlfklgganokgdaa", sum := "db294994e48724fb256855ff9143f2cd781d3c70b8d0fd45316c47a1621fa42a", func := "smithy/smithylaw13.WordSplits", spec := "wordSplits", inPlace := ["internal/bytealg.IndexByteString", "math.Float64frombits", "math.Float64bits"], unfollowed := true, recurses := true, apart := false, narrowed := true }
def WordSplitsUptoSaid : Prop := wordSplitsUptoRow.holds Try.pinned (OpenSpec.upto wordSplitsSpec)

end Rows
end Go.Proofs.Ytlfklgganokgdaa
