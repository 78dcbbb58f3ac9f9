/-
  ONE IMAGE AND ITS FILE.
-/
import Derived.Test.YtckkcncgglfbbaaWrite
import Derived.Test.YtckkcncgglfbbaaLoad
namespace Go.Proofs.Ytckkcncgglfbbaa
open Go Go.RowKit
def lit : Img := ⟨4194304, [⟨4194304, 1, 5, [195]⟩]⟩
theorem lit_ok : ImgOk lit := by
  refine ⟨by decide, by decide, by decide, fun s hs => ?_⟩
  simp only [lit, List.mem_singleton] at hs
  subst hs
  exact ⟨by decide, by decide, by decide, by decide, by decide, by decide, by decide⟩
theorem lit_facts : ∃ bs : List UInt8, WriteF lit = bs ∧ bs.length = 4097 ∧ bs.getD 0 0 = 127 ∧ bs.getD 4096 0 = 195 ∧ LoadF bs = some lit ∧ checkedB lit true = true :=
  ⟨WriteF lit, rfl, by decide +kernel, by decide +kernel, by decide +kernel, by decide +kernel, by decide +kernel⟩
end Go.Proofs.Ytckkcncgglfbbaa
