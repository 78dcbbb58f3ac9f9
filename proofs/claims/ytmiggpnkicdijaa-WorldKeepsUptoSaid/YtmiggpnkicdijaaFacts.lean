/-
  CLOSED FACTS on the types and functions of the seat's program, each by the kernel: where fields lie, sizes, kinds. Printed by program.
-/
import Derived.Test.YtmiggpnkicdijaaRows
import Derived.Test.YtmiggpnkicdijaaAw19
namespace Go.Proofs.Ytmiggpnkicdijaa
open Go
theorem ag_26 : aggSize Try.prog 26 = some (false, 1) := by kernel_rfl
theorem ag_3 : aggSize Try.prog 3 = some (false, 1) := by kernel_rfl
theorem ag_33 : aggSize Try.prog 33 = some (false, 1) := by kernel_rfl
theorem ag_46 : aggSize Try.prog 46 = some (true, 2) := by kernel_rfl
theorem ag_51 : aggSize Try.prog 51 = some (false, 1) := by kernel_rfl
theorem ag_64 : aggSize Try.prog 64 = some (false, 1) := by kernel_rfl
theorem ag_67 : aggSize Try.prog 67 = some (true, 3) := by kernel_rfl
theorem ag_71 : aggSize Try.prog 71 = some (false, 1) := by kernel_rfl
theorem ag_9 : aggSize Try.prog 9 = some (false, 1) := by kernel_rfl
theorem ar_68 : arrOf Try.prog 68 = some (19, 3) := by kernel_rfl
theorem by_71 : isBytes Try.prog 71 = true := by kernel_rfl
theorem ce_10 : calleeB Try.prog 10 = true := by kernel_rfl
theorem ce_11 : calleeB Try.prog 11 = true := by kernel_rfl
theorem ce_12 : calleeB Try.prog 12 = true := by kernel_rfl
theorem ce_13 : calleeB Try.prog 13 = true := by kernel_rfl
theorem ce_14 : calleeB Try.prog 14 = true := by kernel_rfl
theorem ce_15 : calleeB Try.prog 15 = true := by kernel_rfl
theorem ce_16 : calleeB Try.prog 16 = true := by kernel_rfl
theorem ce_17 : calleeB Try.prog 17 = true := by kernel_rfl
theorem ce_18 : calleeB Try.prog 18 = true := by kernel_rfl
theorem ce_19 : calleeB Try.prog 19 = true := by kernel_rfl
theorem ce_20 : calleeB Try.prog 20 = true := by kernel_rfl
theorem ce_26 : calleeB Try.prog 26 = true := by kernel_rfl
theorem ce_27 : calleeB Try.prog 27 = true := by kernel_rfl
theorem ce_28 : calleeB Try.prog 28 = true := by kernel_rfl
theorem ce_29 : calleeB Try.prog 29 = true := by kernel_rfl
theorem ce_30 : calleeB Try.prog 30 = true := by kernel_rfl
theorem ce_31 : calleeB Try.prog 31 = true := by kernel_rfl
theorem ce_32 : calleeB Try.prog 32 = true := by kernel_rfl
theorem ce_53 : calleeB Try.prog 53 = true := by kernel_rfl
theorem ce_54 : calleeB Try.prog 54 = true := by kernel_rfl
theorem ce_9 : calleeB Try.prog 9 = true := by kernel_rfl
theorem el_26 : elemOf Try.prog 26 = some (46, 2, 32, [.string ⟨#[]⟩, .string ⟨#[]⟩]) := by kernel_rfl
theorem el_33 : elemOf Try.prog 33 = some (36, 3, 40, [.int .i64 0, .string ⟨#[]⟩, .string ⟨#[]⟩]) := by kernel_rfl
theorem el_71 : elemOf Try.prog 71 = some (5, 1, 1, [.int .u8 0]) := by kernel_rfl
theorem fo_28_0 : fieldOff Try.prog 28 0 = some 0 := by kernel_rfl
theorem fo_28_1 : fieldOff Try.prog 28 1 = some 1 := by kernel_rfl
theorem fo_36_0 : fieldOff Try.prog 36 0 = some 0 := by kernel_rfl
theorem fo_36_1 : fieldOff Try.prog 36 1 = some 1 := by kernel_rfl
theorem fo_36_2 : fieldOff Try.prog 36 2 = some 2 := by kernel_rfl
theorem fo_46_0 : fieldOff Try.prog 46 0 = some 0 := by kernel_rfl
theorem fo_46_1 : fieldOff Try.prog 46 1 = some 1 := by kernel_rfl
theorem fo_67_0 : fieldOff Try.prog 67 0 = some 0 := by kernel_rfl
theorem fo_67_1 : fieldOff Try.prog 67 1 = some 1 := by kernel_rfl
theorem fo_67_2 : fieldOff Try.prog 67 2 = some 2 := by kernel_rfl
theorem fo_70_0 : fieldOff Try.prog 70 0 = some 0 := by kernel_rfl
theorem fo_70_1 : fieldOff Try.prog 70 1 = some 1 := by kernel_rfl
theorem fo_70_2 : fieldOff Try.prog 70 2 = some 2 := by kernel_rfl
theorem fo_70_3 : fieldOff Try.prog 70 3 = some 59 := by kernel_rfl
theorem kd_3 : kindOf Try.prog 3 = some .i64 := by kernel_rfl
theorem kd_5 : kindOf Try.prog 5 = some .u8 := by kernel_rfl
theorem kd_51 : kindOf Try.prog 51 = some .u64 := by kernel_rfl
theorem mp_64 : mapOf Try.prog 64 = some (.string, 9, 71, .slice none 0 0) := by kernel_rfl
theorem pn_24 : ptrOf Try.prog 24 = true := by kernel_rfl
theorem pt_99 : ptrTo Try.prog 99 = some 5 := by kernel_rfl
theorem sh_28 : structShape Try.prog 28 = some ([.string ⟨#[]⟩, .slice none 0 0], [(0, 1), (1, 1)]) := by kernel_rfl
theorem sh_36 : structShape Try.prog 36 = some ([.int .i64 0, .string ⟨#[]⟩, .string ⟨#[]⟩], [(0, 1), (1, 1), (2, 1)]) := by kernel_rfl
theorem sh_46 : structShape Try.prog 46 = some ([.string ⟨#[]⟩, .string ⟨#[]⟩], [(0, 1), (1, 1)]) := by kernel_rfl
theorem sh_67 : structShape Try.prog 67 = some ([.int .i64 0, .string ⟨#[]⟩, .int .i64 0], [(0, 1), (1, 1), (2, 1)]) := by kernel_rfl
theorem sh_70 : structShape Try.prog 70 = some ([.map none, .string ⟨#[]⟩, .int .i64 0, .string ⟨#[]⟩, .int .i64 0, .int .i64 0, .string ⟨#[]⟩, .int .i64 0, .int .i64 0, .string ⟨#[]⟩, .int .i64 0, .int .i64 0, .string ⟨#[]⟩, .int .i64 0, .int .i64 0, .string ⟨#[]⟩, .int .i64 0, .int .i64 0, .string ⟨#[]⟩, .int .i64 0, .int .i64 0, .string ⟨#[]⟩, .int .i64 0, .int .i64 0, .string ⟨#[]⟩, .int .i64 0, .int .i64 0, .string ⟨#[]⟩, .int .i64 0, .int .i64 0, .string ⟨#[]⟩, .int .i64 0, .int .i64 0, .string ⟨#[]⟩, .int .i64 0, .int .i64 0, .string ⟨#[]⟩, .int .i64 0, .int .i64 0, .string ⟨#[]⟩, .int .i64 0, .int .i64 0, .string ⟨#[]⟩, .int .i64 0, .int .i64 0, .string ⟨#[]⟩, .int .i64 0, .int .i64 0, .string ⟨#[]⟩, .int .i64 0, .int .i64 0, .string ⟨#[]⟩, .int .i64 0, .int .i64 0, .string ⟨#[]⟩, .int .i64 0, .int .i64 0, .string ⟨#[]⟩, .int .i64 0, .slice none 0 0], [(0, 1), (1, 1), (2, 57), (59, 1)]) := by kernel_rfl
theorem so_22 : sliceOf Try.prog 22 = some 9 := by kernel_rfl
theorem so_23 : sliceOf Try.prog 23 = some 3 := by kernel_rfl
theorem so_26 : sliceOf Try.prog 26 = some 46 := by kernel_rfl
theorem so_33 : sliceOf Try.prog 33 = some 36 := by kernel_rfl
theorem so_44 : sliceOf Try.prog 44 = some 51 := by kernel_rfl
theorem so_71 : sliceOf Try.prog 71 = some 5 := by kernel_rfl
theorem ss_22 : sliceSz Try.prog 22 = some (9, 1) := by kernel_rfl
theorem ss_23 : sliceSz Try.prog 23 = some (3, 1) := by kernel_rfl
theorem ss_26 : sliceSz Try.prog 26 = some (46, 2) := by kernel_rfl
theorem ss_33 : sliceSz Try.prog 33 = some (36, 3) := by kernel_rfl
theorem ss_44 : sliceSz Try.prog 44 = some (51, 1) := by kernel_rfl
theorem ss_71 : sliceSz Try.prog 71 = some (5, 1) := by kernel_rfl
theorem st_9 : isStr Try.prog 9 = true := by kernel_rfl
theorem zc_46 : zeroCellsOf Try.prog 46 = some [.string ⟨#[]⟩, .string ⟨#[]⟩] := by kernel_rfl
end Go.Proofs.Ytmiggpnkicdijaa
