/-
  CLOSED FACTS on the types and functions of the seat's program, each by the kernel: where fields lie, sizes, kinds. Printed by program.
-/
import Derived.Test.YtabkedlmpaoloaaRows
import Derived.Test.YtabkedlmpaoloaaAw21
namespace Go.Proofs.Ytabkedlmpaoloaa
open Go
theorem ag_105 : aggSize Try.prog 105 = some (true, 3) := by kernel_rfl
theorem ag_2 : aggSize Try.prog 2 = some (false, 1) := by kernel_rfl
theorem ag_22 : aggSize Try.prog 22 = some (false, 1) := by kernel_rfl
theorem ag_23 : aggSize Try.prog 23 = some (false, 1) := by kernel_rfl
theorem ag_3 : aggSize Try.prog 3 = some (false, 1) := by kernel_rfl
theorem ag_30 : aggSize Try.prog 30 = some (true, 6) := by kernel_rfl
theorem ag_32 : aggSize Try.prog 32 = some (true, 10) := by kernel_rfl
theorem ag_37 : aggSize Try.prog 37 = some (false, 1) := by kernel_rfl
theorem ag_4 : aggSize Try.prog 4 = some (false, 1) := by kernel_rfl
theorem ag_40 : aggSize Try.prog 40 = some (false, 1) := by kernel_rfl
theorem ag_5 : aggSize Try.prog 5 = some (false, 1) := by kernel_rfl
theorem ag_51 : aggSize Try.prog 51 = some (false, 1) := by kernel_rfl
theorem by_40 : isBytes Try.prog 40 = true := by kernel_rfl
theorem ce_12 : calleeB Try.prog 12 = true := by kernel_rfl
theorem ce_17 : calleeB Try.prog 17 = true := by kernel_rfl
theorem ce_19 : calleeB Try.prog 19 = true := by kernel_rfl
theorem ce_21 : calleeB Try.prog 21 = true := by kernel_rfl
theorem ce_22 : calleeB Try.prog 22 = true := by kernel_rfl
theorem ce_23 : calleeB Try.prog 23 = true := by kernel_rfl
theorem ce_27 : calleeB Try.prog 27 = true := by kernel_rfl
theorem ce_28 : calleeB Try.prog 28 = true := by kernel_rfl
theorem ce_32 : calleeB Try.prog 32 = true := by kernel_rfl
theorem ce_33 : calleeB Try.prog 33 = true := by kernel_rfl
theorem ce_34 : calleeB Try.prog 34 = true := by kernel_rfl
theorem ce_35 : calleeB Try.prog 35 = true := by kernel_rfl
theorem ce_36 : calleeB Try.prog 36 = true := by kernel_rfl
theorem ce_37 : calleeB Try.prog 37 = true := by kernel_rfl
theorem ce_38 : calleeB Try.prog 38 = true := by kernel_rfl
theorem ce_39 : calleeB Try.prog 39 = true := by kernel_rfl
theorem ce_40 : calleeB Try.prog 40 = true := by kernel_rfl
theorem ce_41 : calleeB Try.prog 41 = true := by kernel_rfl
theorem ce_42 : calleeB Try.prog 42 = true := by kernel_rfl
theorem ce_43 : calleeB Try.prog 43 = true := by kernel_rfl
theorem ce_44 : calleeB Try.prog 44 = true := by kernel_rfl
theorem ce_46 : calleeB Try.prog 46 = true := by kernel_rfl
theorem ce_47 : calleeB Try.prog 47 = true := by kernel_rfl
theorem ce_48 : calleeB Try.prog 48 = true := by kernel_rfl
theorem ce_49 : calleeB Try.prog 49 = true := by kernel_rfl
theorem ce_53 : calleeB Try.prog 53 = true := by kernel_rfl
theorem ce_54 : calleeB Try.prog 54 = true := by kernel_rfl
theorem ce_55 : calleeB Try.prog 55 = true := by kernel_rfl
theorem ce_63 : calleeB Try.prog 63 = true := by kernel_rfl
theorem ce_64 : calleeB Try.prog 64 = true := by kernel_rfl
theorem ce_65 : calleeB Try.prog 65 = true := by kernel_rfl
theorem ce_66 : calleeB Try.prog 66 = true := by kernel_rfl
theorem ce_67 : calleeB Try.prog 67 = true := by kernel_rfl
theorem ce_68 : calleeB Try.prog 68 = true := by kernel_rfl
theorem ce_7 : calleeB Try.prog 7 = true := by kernel_rfl
theorem ce_72 : calleeB Try.prog 72 = true := by kernel_rfl
theorem ce_73 : calleeB Try.prog 73 = true := by kernel_rfl
theorem ce_74 : calleeB Try.prog 74 = true := by kernel_rfl
theorem ce_75 : calleeB Try.prog 75 = true := by kernel_rfl
theorem ce_76 : calleeB Try.prog 76 = true := by kernel_rfl
theorem ce_77 : calleeB Try.prog 77 = true := by kernel_rfl
theorem ce_78 : calleeB Try.prog 78 = true := by kernel_rfl
theorem ce_8 : calleeB Try.prog 8 = true := by kernel_rfl
theorem ce_9 : calleeB Try.prog 9 = true := by kernel_rfl
theorem el_22 : elemOf Try.prog 22 = some (32, 10, 80, [.int .i64 0, .int .i64 0, .int .i64 0, .int .i64 0, .int .i64 0, .int .i64 0, .int .i64 0, .int .i64 0, .int .i64 0, .int .i64 0]) := by kernel_rfl
theorem el_24 : elemOf Try.prog 24 = some (30, 6, 48, [.int .i64 0, .int .i64 0, .int .i64 0, .int .i64 0, .int .i64 0, .int .i64 0]) := by kernel_rfl
theorem el_37 : elemOf Try.prog 37 = some (23, 1, 8, [.int .u64 0]) := by kernel_rfl
theorem el_40 : elemOf Try.prog 40 = some (5, 1, 1, [.int .u8 0]) := by kernel_rfl
theorem el_51 : elemOf Try.prog 51 = some (3, 1, 8, [.int .i64 0]) := by kernel_rfl
theorem fl_30 : flatOf Try.prog 30 = some [(0, .i), (1, .i), (2, .i), (3, .i), (4, .i), (5, .i)] := by kernel_rfl
theorem fo_105_0 : fieldOff Try.prog 105 0 = some 0 := by kernel_rfl
theorem fo_105_1 : fieldOff Try.prog 105 1 = some 1 := by kernel_rfl
theorem fo_105_2 : fieldOff Try.prog 105 2 = some 2 := by kernel_rfl
theorem fo_30_0 : fieldOff Try.prog 30 0 = some 0 := by kernel_rfl
theorem fo_30_1 : fieldOff Try.prog 30 1 = some 1 := by kernel_rfl
theorem fo_30_2 : fieldOff Try.prog 30 2 = some 2 := by kernel_rfl
theorem fo_30_3 : fieldOff Try.prog 30 3 = some 3 := by kernel_rfl
theorem fo_30_4 : fieldOff Try.prog 30 4 = some 4 := by kernel_rfl
theorem fo_30_5 : fieldOff Try.prog 30 5 = some 5 := by kernel_rfl
theorem fo_32_0 : fieldOff Try.prog 32 0 = some 0 := by kernel_rfl
theorem fo_32_1 : fieldOff Try.prog 32 1 = some 1 := by kernel_rfl
theorem fo_32_2 : fieldOff Try.prog 32 2 = some 7 := by kernel_rfl
theorem fo_32_3 : fieldOff Try.prog 32 3 = some 8 := by kernel_rfl
theorem fo_32_4 : fieldOff Try.prog 32 4 = some 9 := by kernel_rfl
theorem fo_53_0 : fieldOff Try.prog 53 0 = some 0 := by kernel_rfl
theorem fo_53_1 : fieldOff Try.prog 53 1 = some 1 := by kernel_rfl
theorem fo_53_2 : fieldOff Try.prog 53 2 = some 2 := by kernel_rfl
theorem fo_67_0 : fieldOff Try.prog 67 0 = some 0 := by kernel_rfl
theorem fo_93_0 : fieldOff Try.prog 93 0 = some 0 := by kernel_rfl
theorem fo_93_1 : fieldOff Try.prog 93 1 = some 1 := by kernel_rfl
theorem fo_93_2 : fieldOff Try.prog 93 2 = some 2 := by kernel_rfl
theorem fo_93_3 : fieldOff Try.prog 93 3 = some 3 := by kernel_rfl
theorem kd_2 : kindOf Try.prog 2 = some .i64 := by kernel_rfl
theorem kd_23 : kindOf Try.prog 23 = some .u64 := by kernel_rfl
theorem kd_3 : kindOf Try.prog 3 = some .i64 := by kernel_rfl
theorem kd_5 : kindOf Try.prog 5 = some .u8 := by kernel_rfl
theorem mp_61 : mapOf Try.prog 61 = some ((.int .i64), 3, 3, .int .i64 0) := by kernel_rfl
theorem sh_105 : structShape Try.prog 105 = some ([.int .i64 0, .int .i64 0, .int .i64 0], [(0, 1), (1, 1), (2, 1)]) := by kernel_rfl
theorem sh_30 : structShape Try.prog 30 = some ([.int .i64 0, .int .i64 0, .int .i64 0, .int .i64 0, .int .i64 0, .int .i64 0], [(0, 1), (1, 1), (2, 1), (3, 1), (4, 1), (5, 1)]) := by kernel_rfl
theorem sh_32 : structShape Try.prog 32 = some ([.int .i64 0, .int .i64 0, .int .i64 0, .int .i64 0, .int .i64 0, .int .i64 0, .int .i64 0, .int .i64 0, .int .i64 0, .int .i64 0], [(0, 1), (1, 6), (7, 1), (8, 1), (9, 1)]) := by kernel_rfl
theorem sh_53 : structShape Try.prog 53 = some ([.slice none 0 0, .slice none 0 0, .slice none 0 0], [(0, 1), (1, 1), (2, 1)]) := by kernel_rfl
theorem sh_67 : structShape Try.prog 67 = some ([.slice none 0 0], [(0, 1)]) := by kernel_rfl
theorem sh_93 : structShape Try.prog 93 = some ([.slice none 0 0, .int .i64 0, .bool false, .bool false], [(0, 1), (1, 1), (2, 1), (3, 1)]) := by kernel_rfl
theorem so_22 : sliceOf Try.prog 22 = some 32 := by kernel_rfl
theorem so_24 : sliceOf Try.prog 24 = some 30 := by kernel_rfl
theorem so_37 : sliceOf Try.prog 37 = some 23 := by kernel_rfl
theorem so_40 : sliceOf Try.prog 40 = some 5 := by kernel_rfl
theorem so_51 : sliceOf Try.prog 51 = some 3 := by kernel_rfl
theorem ss_22 : sliceSz Try.prog 22 = some (32, 10) := by kernel_rfl
theorem ss_24 : sliceSz Try.prog 24 = some (30, 6) := by kernel_rfl
theorem ss_37 : sliceSz Try.prog 37 = some (23, 1) := by kernel_rfl
theorem ss_40 : sliceSz Try.prog 40 = some (5, 1) := by kernel_rfl
theorem ss_51 : sliceSz Try.prog 51 = some (3, 1) := by kernel_rfl
theorem st_9 : isStr Try.prog 9 = true := by kernel_rfl
theorem zc_105 : zeroCellsOf Try.prog 105 = some [.int .i64 0, .int .i64 0, .int .i64 0] := by kernel_rfl
theorem zc_3 : zeroCellsOf Try.prog 3 = some [.int .i64 0] := by kernel_rfl
theorem zc_30 : zeroCellsOf Try.prog 30 = some [.int .i64 0, .int .i64 0, .int .i64 0, .int .i64 0, .int .i64 0, .int .i64 0] := by kernel_rfl
theorem zc_32 : zeroCellsOf Try.prog 32 = some [.int .i64 0, .int .i64 0, .int .i64 0, .int .i64 0, .int .i64 0, .int .i64 0, .int .i64 0, .int .i64 0, .int .i64 0, .int .i64 0] := by kernel_rfl
end Go.Proofs.Ytabkedlmpaoloaa
