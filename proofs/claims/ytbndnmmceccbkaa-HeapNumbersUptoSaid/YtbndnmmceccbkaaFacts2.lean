/-
  CLOSED FACTS on the types and functions of the seat's program, each by the kernel: those that the laws on spoiled graphs need. Printed by program.
-/
import Derived.Test.YtbndnmmceccbkaaRows
import Derived.Test.YtbndnmmceccbkaaAw20
namespace Go.Proofs.Ytbndnmmceccbkaa
open Go
theorem bo_4 : isBoolB Try.prog 4 = true := by kernel_rfl
theorem ce_17 : calleeB Try.prog 17 = true := by kernel_rfl
theorem ce_20 : calleeB Try.prog 20 = true := by kernel_rfl
theorem ce_22 : calleeB Try.prog 22 = true := by kernel_rfl
theorem ce_41 : calleeB Try.prog 41 = true := by kernel_rfl
theorem el_61 : elemOf Try.prog 61 = some (3, 1, 8, [.int .i64 0]) := by kernel_rfl
theorem so_61 : sliceOf Try.prog 61 = some 3 := by kernel_rfl
theorem ss_61 : sliceSz Try.prog 61 = some (3, 1) := by kernel_rfl
end Go.Proofs.Ytbndnmmceccbkaa
