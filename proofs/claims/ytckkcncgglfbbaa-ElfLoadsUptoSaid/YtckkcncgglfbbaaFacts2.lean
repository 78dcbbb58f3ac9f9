/-
  CLOSED FACTS on the types and functions of the seat's program, each by the kernel: those that the law on loading needs. Printed by program.
-/
import Derived.Test.YtckkcncgglfbbaaRows
import Derived.Test.YtckkcncgglfbbaaAw20
namespace Go.Proofs.Ytckkcncgglfbbaa
open Go
theorem ce_14 : calleeB Try.prog 14 = true := by kernel_rfl
theorem ce_15 : calleeB Try.prog 15 = true := by kernel_rfl
theorem ce_18 : calleeB Try.prog 18 = true := by kernel_rfl
theorem ce_27 : calleeB Try.prog 27 = true := by kernel_rfl
theorem ce_28 : calleeB Try.prog 28 = true := by kernel_rfl
end Go.Proofs.Ytckkcncgglfbbaa
