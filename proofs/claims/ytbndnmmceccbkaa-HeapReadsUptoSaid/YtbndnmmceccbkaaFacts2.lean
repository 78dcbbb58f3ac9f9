/-
  CLOSED FACTS on the types and functions of the seat's program, each by the kernel: those that the laws on spoiled graphs need. Printed by program.
-/
import Derived.Test.YtbndnmmceccbkaaRows
import Derived.Test.YtbndnmmceccbkaaAw20
namespace Go.Proofs.Ytbndnmmceccbkaa
open Go
theorem ag_75 : aggSize Try.prog 75 = some (false, 1) := by kernel_rfl
theorem bo_4 : isBoolB Try.prog 4 = true := by kernel_rfl
theorem ce_17 : calleeB Try.prog 17 = true := by kernel_rfl
theorem ce_20 : calleeB Try.prog 20 = true := by kernel_rfl
theorem ce_22 : calleeB Try.prog 22 = true := by kernel_rfl
theorem ce_26 : calleeB Try.prog 26 = true := by kernel_rfl
theorem ce_41 : calleeB Try.prog 41 = true := by kernel_rfl
theorem ce_51 : calleeB Try.prog 51 = true := by kernel_rfl
theorem ce_52 : calleeB Try.prog 52 = true := by kernel_rfl
theorem ce_60 : calleeB Try.prog 60 = true := by kernel_rfl
theorem el_61 : elemOf Try.prog 61 = some (3, 1, 8, [.int .i64 0]) := by kernel_rfl
theorem fo_77_0 : fieldOff Try.prog 77 0 = some 0 := by kernel_rfl
theorem fo_77_1 : fieldOff Try.prog 77 1 = some 1 := by kernel_rfl
theorem fo_77_2 : fieldOff Try.prog 77 2 = some 2 := by kernel_rfl
theorem fo_77_3 : fieldOff Try.prog 77 3 = some 3 := by kernel_rfl
theorem mp_75 : mapOf Try.prog 75 = some ((.int .u64), 29, 3, .int .i64 0) := by kernel_rfl
theorem sh_77 : structShape Try.prog 77 = some ([.slice none 0 0, .int .u64 0, .map none, .slice none 0 0], [(0, 1), (1, 1), (2, 1), (3, 1)]) := by kernel_rfl
theorem so_61 : sliceOf Try.prog 61 = some 3 := by kernel_rfl
theorem ss_61 : sliceSz Try.prog 61 = some (3, 1) := by kernel_rfl
end Go.Proofs.Ytbndnmmceccbkaa
