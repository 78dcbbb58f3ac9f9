/-
  WHAT lines become may be, all of it.
-/
import Derived.Test.YtabkedlmpaoloaaLst
import Derived.Test.YtabkedlmpaoloaaJmp
namespace Go.Proofs.Ytabkedlmpaoloaa
open Go Go.RowKit
set_option linter.unusedSimpArgs false
set_option linter.unusedVariables false
set_option linter.unnecessarySimpa false
theorem insL_good {l : List Line} (hlo : ∀ x ∈ l, LineOk x) {at_ : Int} (ha : 0 ≤ at_) (hle : laidE l at_ = 0) : Good (insL l at_) := by
  have hk : ∀ x ∈ insL l at_, ∃ j, j < l.length ∧ insAt l (tgF l) (sizesF l) at_ j = some x := by
    intro x hx
    unfold insL outN at hx
    rw [List.mem_filterMap] at hx
    obtain ⟨j, hj, h⟩ := hx
    exact ⟨j, List.mem_range.1 hj, h⟩
  refine ⟨fun x hx => ?_, fun x hx => ?_⟩
  · obtain ⟨j, hj, h⟩ := hk x hx
    exact (ins_kept ha hle hj h).valid
  · obtain ⟨j, hj, h⟩ := hk x hx
    have hA := ins_kept ha hle hj h
    obtain ⟨hc, hat, htot⟩ := laidE_at hle
    have hP : ∀ k, k ≤ l.length → pre (sizesF l) k ≤ pre (sizesF l) l.length := fun k hk => pre_mono _ hk
    by_cases h1 : (l.getD j default).kind = 1
    · unfold insAt insF at h
      rw [if_pos h1] at h
      cases h
      exact (hlo _ (getD_mem' hj)).ins.imm
    · have ht := hP _ (Nat.le_of_lt (hA.goes h1).1)
      have hj1 := hP (j + 1) (by omega)
      unfold I64
      by_cases h6 : (l.getD j default).kind = 6
      · rw [hA.imm6 h6]
        omega
      · rw [hA.immW h1 h6]
        omega
theorem reads_err {l : List Line} (hlo : ∀ x ∈ l, LineOk x) {at_ : Int} (ha : 0 ≤ at_) : asmE l at_ = laidE l at_ ∧ (¬ laidE l at_ = 0 → asmB l at_ = [] ∧ resL l at_ = []) ∧ (laidE l at_ = 0 → asmB l at_ = (insL l at_).flatMap encF) := by
  by_cases hle : laidE l at_ = 0
  · have hg := insL_good hlo ha hle
    have hall : (insL l at_).all validF = true := List.all_eq_true.2 hg.valid
    refine ⟨?_, fun q => absurd hle q, fun _ => ?_⟩
    · rw [asmE, if_neg (fun q => q hle), resL_ok hle, allE, if_pos hall, hle]
    · rw [asmB, resL_ok hle, allB, if_pos hall]
  · refine ⟨?_, fun _ => ⟨?_, resL_no hle⟩, fun q => absurd q hle⟩
    · rw [asmE, if_pos hle]
    · rw [asmB, resL_no hle]
      rfl
end Go.Proofs.Ytabkedlmpaoloaa
