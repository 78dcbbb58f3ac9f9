/-
  CLOSED FACTS on the types and functions of the seat's program, each by the kernel: where fields lie, sizes, kinds. Printed by program.
-/
import Derived.Test.YtckkcncgglfbbaaRows
import Derived.Test.YtckkcncgglfbbaaAw15
namespace Go.Proofs.Ytckkcncgglfbbaa
open Go
theorem ag_22 : aggSize Try.prog 22 = some (false, 1) := by kernel_rfl
theorem ag_23 : aggSize Try.prog 23 = some (false, 1) := by kernel_rfl
theorem ag_25 : aggSize Try.prog 25 = some (true, 2) := by kernel_rfl
theorem ag_27 : aggSize Try.prog 27 = some (false, 1) := by kernel_rfl
theorem ag_3 : aggSize Try.prog 3 = some (false, 1) := by kernel_rfl
theorem ag_42 : aggSize Try.prog 42 = some (true, 4) := by kernel_rfl
theorem ag_47 : aggSize Try.prog 47 = some (false, 1) := by kernel_rfl
theorem ag_5 : aggSize Try.prog 5 = some (false, 1) := by kernel_rfl
theorem by_27 : isBytes Try.prog 27 = true := by kernel_rfl
theorem ce_10 : calleeB Try.prog 10 = true := by kernel_rfl
theorem ce_11 : calleeB Try.prog 11 = true := by kernel_rfl
theorem ce_16 : calleeB Try.prog 16 = true := by kernel_rfl
theorem ce_17 : calleeB Try.prog 17 = true := by kernel_rfl
theorem ce_20 : calleeB Try.prog 20 = true := by kernel_rfl
theorem ce_21 : calleeB Try.prog 21 = true := by kernel_rfl
theorem ce_22 : calleeB Try.prog 22 = true := by kernel_rfl
theorem ce_23 : calleeB Try.prog 23 = true := by kernel_rfl
theorem ce_24 : calleeB Try.prog 24 = true := by kernel_rfl
theorem ce_25 : calleeB Try.prog 25 = true := by kernel_rfl
theorem ce_26 : calleeB Try.prog 26 = true := by kernel_rfl
theorem ce_29 : calleeB Try.prog 29 = true := by kernel_rfl
theorem ce_30 : calleeB Try.prog 30 = true := by kernel_rfl
theorem ce_31 : calleeB Try.prog 31 = true := by kernel_rfl
theorem ce_32 : calleeB Try.prog 32 = true := by kernel_rfl
theorem ce_33 : calleeB Try.prog 33 = true := by kernel_rfl
theorem ce_34 : calleeB Try.prog 34 = true := by kernel_rfl
theorem ce_35 : calleeB Try.prog 35 = true := by kernel_rfl
theorem ce_36 : calleeB Try.prog 36 = true := by kernel_rfl
theorem ce_37 : calleeB Try.prog 37 = true := by kernel_rfl
theorem ce_38 : calleeB Try.prog 38 = true := by kernel_rfl
theorem ce_39 : calleeB Try.prog 39 = true := by kernel_rfl
theorem ce_40 : calleeB Try.prog 40 = true := by kernel_rfl
theorem el_23 : elemOf Try.prog 23 = some (42, 4, 48, [.int .u64 0, .int .u64 0, .int .i64 0, .slice none 0 0]) := by kernel_rfl
theorem el_27 : elemOf Try.prog 27 = some (5, 1, 1, [.int .u8 0]) := by kernel_rfl
theorem el_49 : elemOf Try.prog 49 = some (47, 1, 2, [.int .u16 0]) := by kernel_rfl
theorem el_51 : elemOf Try.prog 51 = some (22, 1, 8, [.int .u64 0]) := by kernel_rfl
theorem fo_25_0 : fieldOff Try.prog 25 0 = some 0 := by kernel_rfl
theorem fo_25_1 : fieldOff Try.prog 25 1 = some 1 := by kernel_rfl
theorem fo_42_0 : fieldOff Try.prog 42 0 = some 0 := by kernel_rfl
theorem fo_42_1 : fieldOff Try.prog 42 1 = some 1 := by kernel_rfl
theorem fo_42_2 : fieldOff Try.prog 42 2 = some 2 := by kernel_rfl
theorem fo_42_3 : fieldOff Try.prog 42 3 = some 3 := by kernel_rfl
theorem kd_22 : kindOf Try.prog 22 = some .u64 := by kernel_rfl
theorem kd_3 : kindOf Try.prog 3 = some .i64 := by kernel_rfl
theorem kd_45 : kindOf Try.prog 45 = some .u32 := by kernel_rfl
theorem kd_47 : kindOf Try.prog 47 = some .u16 := by kernel_rfl
theorem kd_5 : kindOf Try.prog 5 = some .u8 := by kernel_rfl
theorem sh_25 : structShape Try.prog 25 = some ([.int .u64 0, .slice none 0 0], [(0, 1), (1, 1)]) := by kernel_rfl
theorem sh_42 : structShape Try.prog 42 = some ([.int .u64 0, .int .u64 0, .int .i64 0, .slice none 0 0], [(0, 1), (1, 1), (2, 1), (3, 1)]) := by kernel_rfl
theorem so_23 : sliceOf Try.prog 23 = some 42 := by kernel_rfl
theorem so_27 : sliceOf Try.prog 27 = some 5 := by kernel_rfl
theorem so_49 : sliceOf Try.prog 49 = some 47 := by kernel_rfl
theorem so_51 : sliceOf Try.prog 51 = some 22 := by kernel_rfl
theorem ss_23 : sliceSz Try.prog 23 = some (42, 4) := by kernel_rfl
theorem ss_27 : sliceSz Try.prog 27 = some (5, 1) := by kernel_rfl
theorem ss_49 : sliceSz Try.prog 49 = some (47, 1) := by kernel_rfl
theorem ss_51 : sliceSz Try.prog 51 = some (22, 1) := by kernel_rfl
theorem st_9 : isStr Try.prog 9 = true := by kernel_rfl
theorem zc_25 : zeroCellsOf Try.prog 25 = some [.int .u64 0, .slice none 0 0] := by kernel_rfl
theorem zc_42 : zeroCellsOf Try.prog 42 = some [.int .u64 0, .int .u64 0, .int .i64 0, .slice none 0 0] := by kernel_rfl
end Go.Proofs.Ytckkcncgglfbbaa
