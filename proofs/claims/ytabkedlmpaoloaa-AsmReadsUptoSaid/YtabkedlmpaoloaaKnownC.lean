/-
  THE CONSTANT LINES, by the kernel.
-/
import Derived.Test.YtabkedlmpaoloaaRes
namespace Go.Proofs.Ytabkedlmpaoloaa
open Go Go.RowKit
set_option linter.unusedSimpArgs false
def kl1 : List Line := [⟨2, ⟨0, 0, 0, 0, 0, 0⟩, 1, 0, 0⟩, ⟨3, ⟨0, 0, 0, 0, 0, 0⟩, 1, 0, 0⟩]
def kl2 : List Line := [⟨4, ⟨0, 0, 0, 0, 0, 0⟩, 1, 4, 0⟩, ⟨5, ⟨0, 0, 0, 0, 0, 0⟩, 1, 0, 0⟩, ⟨2, ⟨0, 0, 0, 0, 0, 0⟩, 1, 0, 0⟩, ⟨6, ⟨0, 0, 0, 0, 0, 0⟩, 1, 0, 3⟩]
theorem known1 : asmE kl1 0 = 0 ∧ asmB kl1 0 = [235, 254] := by decide +kernel
theorem known2 : asmE kl2 4194304 = 0 ∧ asmB kl2 4194304 = [116, 5, 232, 0, 0, 0, 0, 72, 199, 195, 7, 0, 64, 0] := by decide +kernel
end Go.Proofs.Ytabkedlmpaoloaa
