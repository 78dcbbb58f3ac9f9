/-
  CLOSED FACTS on the types and functions of the seat's program, each by the kernel: where fields lie, sizes, kinds. Printed by program.
-/
import Derived.Test.YtabkedlmpaoloaaRows
import Derived.Test.YtabkedlmpaoloaaAw21
namespace Go.Proofs.Ytabkedlmpaoloaa
open Go
theorem ag_2 : aggSize Try.prog 2 = some (false, 1) := by kernel_rfl
theorem ag_22 : aggSize Try.prog 22 = some (false, 1) := by kernel_rfl
theorem ag_23 : aggSize Try.prog 23 = some (false, 1) := by kernel_rfl
theorem ag_3 : aggSize Try.prog 3 = some (false, 1) := by kernel_rfl
theorem ag_30 : aggSize Try.prog 30 = some (true, 6) := by kernel_rfl
theorem ag_32 : aggSize Try.prog 32 = some (true, 10) := by kernel_rfl
theorem ag_37 : aggSize Try.prog 37 = some (false, 1) := by kernel_rfl
theorem ag_4 : aggSize Try.prog 4 = some (false, 1) := by kernel_rfl
theorem ag_40 : aggSize Try.prog 40 = some (false, 1) := by kernel_rfl
theorem ag_51 : aggSize Try.prog 51 = some (false, 1) := by kernel_rfl
theorem ag_88 : aggSize Try.prog 88 = some (true, 12) := by kernel_rfl
theorem by_40 : isBytes Try.prog 40 = true := by kernel_rfl
theorem ce_10 : calleeB Try.prog 10 = true := by kernel_rfl
theorem ce_11 : calleeB Try.prog 11 = true := by kernel_rfl
theorem ce_12 : calleeB Try.prog 12 = true := by kernel_rfl
theorem ce_13 : calleeB Try.prog 13 = true := by kernel_rfl
theorem ce_14 : calleeB Try.prog 14 = true := by kernel_rfl
theorem ce_15 : calleeB Try.prog 15 = true := by kernel_rfl
theorem ce_16 : calleeB Try.prog 16 = true := by kernel_rfl
theorem ce_17 : calleeB Try.prog 17 = true := by kernel_rfl
theorem ce_18 : calleeB Try.prog 18 = true := by kernel_rfl
theorem ce_19 : calleeB Try.prog 19 = true := by kernel_rfl
theorem ce_20 : calleeB Try.prog 20 = true := by kernel_rfl
theorem ce_22 : calleeB Try.prog 22 = true := by kernel_rfl
theorem ce_23 : calleeB Try.prog 23 = true := by kernel_rfl
theorem ce_24 : calleeB Try.prog 24 = true := by kernel_rfl
theorem ce_25 : calleeB Try.prog 25 = true := by kernel_rfl
theorem ce_26 : calleeB Try.prog 26 = true := by kernel_rfl
theorem ce_27 : calleeB Try.prog 27 = true := by kernel_rfl
theorem ce_28 : calleeB Try.prog 28 = true := by kernel_rfl
theorem ce_29 : calleeB Try.prog 29 = true := by kernel_rfl
theorem ce_30 : calleeB Try.prog 30 = true := by kernel_rfl
theorem ce_31 : calleeB Try.prog 31 = true := by kernel_rfl
theorem ce_32 : calleeB Try.prog 32 = true := by kernel_rfl
theorem ce_33 : calleeB Try.prog 33 = true := by kernel_rfl
theorem ce_34 : calleeB Try.prog 34 = true := by kernel_rfl
theorem ce_35 : calleeB Try.prog 35 = true := by kernel_rfl
theorem ce_36 : calleeB Try.prog 36 = true := by kernel_rfl
theorem ce_37 : calleeB Try.prog 37 = true := by kernel_rfl
theorem ce_38 : calleeB Try.prog 38 = true := by kernel_rfl
theorem ce_39 : calleeB Try.prog 39 = true := by kernel_rfl
theorem ce_40 : calleeB Try.prog 40 = true := by kernel_rfl
theorem ce_41 : calleeB Try.prog 41 = true := by kernel_rfl
theorem ce_43 : calleeB Try.prog 43 = true := by kernel_rfl
theorem ce_44 : calleeB Try.prog 44 = true := by kernel_rfl
theorem ce_45 : calleeB Try.prog 45 = true := by kernel_rfl
theorem ce_46 : calleeB Try.prog 46 = true := by kernel_rfl
theorem ce_47 : calleeB Try.prog 47 = true := by kernel_rfl
theorem ce_48 : calleeB Try.prog 48 = true := by kernel_rfl
theorem ce_49 : calleeB Try.prog 49 = true := by kernel_rfl
theorem ce_50 : calleeB Try.prog 50 = true := by kernel_rfl
theorem ce_51 : calleeB Try.prog 51 = true := by kernel_rfl
theorem ce_52 : calleeB Try.prog 52 = true := by kernel_rfl
theorem ce_53 : calleeB Try.prog 53 = true := by kernel_rfl
theorem ce_55 : calleeB Try.prog 55 = true := by kernel_rfl
theorem ce_56 : calleeB Try.prog 56 = true := by kernel_rfl
theorem ce_57 : calleeB Try.prog 57 = true := by kernel_rfl
theorem ce_58 : calleeB Try.prog 58 = true := by kernel_rfl
theorem ce_59 : calleeB Try.prog 59 = true := by kernel_rfl
theorem ce_60 : calleeB Try.prog 60 = true := by kernel_rfl
theorem ce_61 : calleeB Try.prog 61 = true := by kernel_rfl
theorem ce_62 : calleeB Try.prog 62 = true := by kernel_rfl
theorem ce_69 : calleeB Try.prog 69 = true := by kernel_rfl
theorem ce_7 : calleeB Try.prog 7 = true := by kernel_rfl
theorem ce_70 : calleeB Try.prog 70 = true := by kernel_rfl
theorem ce_71 : calleeB Try.prog 71 = true := by kernel_rfl
theorem ce_8 : calleeB Try.prog 8 = true := by kernel_rfl
theorem ce_9 : calleeB Try.prog 9 = true := by kernel_rfl
theorem el_22 : elemOf Try.prog 22 = some (32, 10, 80, [.int .i64 0, .int .i64 0, .int .i64 0, .int .i64 0, .int .i64 0, .int .i64 0, .int .i64 0, .int .i64 0, .int .i64 0, .int .i64 0]) := by kernel_rfl
theorem el_24 : elemOf Try.prog 24 = some (30, 6, 48, [.int .i64 0, .int .i64 0, .int .i64 0, .int .i64 0, .int .i64 0, .int .i64 0]) := by kernel_rfl
theorem el_37 : elemOf Try.prog 37 = some (23, 1, 8, [.int .u64 0]) := by kernel_rfl
theorem el_40 : elemOf Try.prog 40 = some (5, 1, 1, [.int .u8 0]) := by kernel_rfl
theorem el_51 : elemOf Try.prog 51 = some (3, 1, 8, [.int .i64 0]) := by kernel_rfl
theorem el_55 : elemOf Try.prog 55 = some (2, 1, 8, [.int .i64 0]) := by kernel_rfl
theorem el_85 : elemOf Try.prog 85 = some (88, 12, 112, [.int .i64 0, .int .i64 0, .int .i64 0, .bool false, .int .i64 0, .slice none 0 0, .int .i64 0, .int .i64 0, .int .i64 0, .int .i64 0, .int .i64 0, .int .i64 0]) := by kernel_rfl
theorem fl_30 : flatOf Try.prog 30 = some [(0, .i), (1, .i), (2, .i), (3, .i), (4, .i), (5, .i)] := by kernel_rfl
theorem fo_30_0 : fieldOff Try.prog 30 0 = some 0 := by kernel_rfl
theorem fo_30_1 : fieldOff Try.prog 30 1 = some 1 := by kernel_rfl
theorem fo_30_2 : fieldOff Try.prog 30 2 = some 2 := by kernel_rfl
theorem fo_30_3 : fieldOff Try.prog 30 3 = some 3 := by kernel_rfl
theorem fo_30_4 : fieldOff Try.prog 30 4 = some 4 := by kernel_rfl
theorem fo_30_5 : fieldOff Try.prog 30 5 = some 5 := by kernel_rfl
theorem fo_32_0 : fieldOff Try.prog 32 0 = some 0 := by kernel_rfl
theorem fo_32_1 : fieldOff Try.prog 32 1 = some 1 := by kernel_rfl
theorem fo_32_2 : fieldOff Try.prog 32 2 = some 7 := by kernel_rfl
theorem fo_32_3 : fieldOff Try.prog 32 3 = some 8 := by kernel_rfl
theorem fo_32_4 : fieldOff Try.prog 32 4 = some 9 := by kernel_rfl
theorem fo_53_0 : fieldOff Try.prog 53 0 = some 0 := by kernel_rfl
theorem fo_53_1 : fieldOff Try.prog 53 1 = some 1 := by kernel_rfl
theorem fo_53_2 : fieldOff Try.prog 53 2 = some 2 := by kernel_rfl
theorem fo_67_0 : fieldOff Try.prog 67 0 = some 0 := by kernel_rfl
theorem fo_88_0 : fieldOff Try.prog 88 0 = some 0 := by kernel_rfl
theorem fo_88_1 : fieldOff Try.prog 88 1 = some 1 := by kernel_rfl
theorem fo_88_10 : fieldOff Try.prog 88 10 = some 10 := by kernel_rfl
theorem fo_88_11 : fieldOff Try.prog 88 11 = some 11 := by kernel_rfl
theorem fo_88_2 : fieldOff Try.prog 88 2 = some 2 := by kernel_rfl
theorem fo_88_3 : fieldOff Try.prog 88 3 = some 3 := by kernel_rfl
theorem fo_88_4 : fieldOff Try.prog 88 4 = some 4 := by kernel_rfl
theorem fo_88_5 : fieldOff Try.prog 88 5 = some 5 := by kernel_rfl
theorem fo_88_6 : fieldOff Try.prog 88 6 = some 6 := by kernel_rfl
theorem fo_88_7 : fieldOff Try.prog 88 7 = some 7 := by kernel_rfl
theorem fo_88_8 : fieldOff Try.prog 88 8 = some 8 := by kernel_rfl
theorem fo_88_9 : fieldOff Try.prog 88 9 = some 9 := by kernel_rfl
theorem kd_2 : kindOf Try.prog 2 = some .i64 := by kernel_rfl
theorem kd_23 : kindOf Try.prog 23 = some .u64 := by kernel_rfl
theorem kd_5 : kindOf Try.prog 5 = some .u8 := by kernel_rfl
theorem mp_61 : mapOf Try.prog 61 = some ((.int .i64), 3, 3, .int .i64 0) := by kernel_rfl
theorem sh_30 : structShape Try.prog 30 = some ([.int .i64 0, .int .i64 0, .int .i64 0, .int .i64 0, .int .i64 0, .int .i64 0], [(0, 1), (1, 1), (2, 1), (3, 1), (4, 1), (5, 1)]) := by kernel_rfl
theorem sh_32 : structShape Try.prog 32 = some ([.int .i64 0, .int .i64 0, .int .i64 0, .int .i64 0, .int .i64 0, .int .i64 0, .int .i64 0, .int .i64 0, .int .i64 0, .int .i64 0], [(0, 1), (1, 6), (7, 1), (8, 1), (9, 1)]) := by kernel_rfl
theorem sh_53 : structShape Try.prog 53 = some ([.slice none 0 0, .slice none 0 0, .slice none 0 0], [(0, 1), (1, 1), (2, 1)]) := by kernel_rfl
theorem sh_67 : structShape Try.prog 67 = some ([.slice none 0 0], [(0, 1)]) := by kernel_rfl
theorem sh_88 : structShape Try.prog 88 = some ([.int .i64 0, .int .i64 0, .int .i64 0, .bool false, .int .i64 0, .slice none 0 0, .int .i64 0, .int .i64 0, .int .i64 0, .int .i64 0, .int .i64 0, .int .i64 0], [(0, 1), (1, 1), (2, 1), (3, 1), (4, 1), (5, 1), (6, 1), (7, 1), (8, 1), (9, 1), (10, 1), (11, 1)]) := by kernel_rfl
theorem so_22 : sliceOf Try.prog 22 = some 32 := by kernel_rfl
theorem so_24 : sliceOf Try.prog 24 = some 30 := by kernel_rfl
theorem so_37 : sliceOf Try.prog 37 = some 23 := by kernel_rfl
theorem so_40 : sliceOf Try.prog 40 = some 5 := by kernel_rfl
theorem so_51 : sliceOf Try.prog 51 = some 3 := by kernel_rfl
theorem so_55 : sliceOf Try.prog 55 = some 2 := by kernel_rfl
theorem so_85 : sliceOf Try.prog 85 = some 88 := by kernel_rfl
theorem ss_22 : sliceSz Try.prog 22 = some (32, 10) := by kernel_rfl
theorem ss_24 : sliceSz Try.prog 24 = some (30, 6) := by kernel_rfl
theorem ss_37 : sliceSz Try.prog 37 = some (23, 1) := by kernel_rfl
theorem ss_51 : sliceSz Try.prog 51 = some (3, 1) := by kernel_rfl
theorem ss_55 : sliceSz Try.prog 55 = some (2, 1) := by kernel_rfl
theorem ss_85 : sliceSz Try.prog 85 = some (88, 12) := by kernel_rfl
theorem st_9 : isStr Try.prog 9 = true := by kernel_rfl
theorem zc_3 : zeroCellsOf Try.prog 3 = some [.int .i64 0] := by kernel_rfl
theorem zc_30 : zeroCellsOf Try.prog 30 = some [.int .i64 0, .int .i64 0, .int .i64 0, .int .i64 0, .int .i64 0, .int .i64 0] := by kernel_rfl
theorem zc_32 : zeroCellsOf Try.prog 32 = some [.int .i64 0, .int .i64 0, .int .i64 0, .int .i64 0, .int .i64 0, .int .i64 0, .int .i64 0, .int .i64 0, .int .i64 0, .int .i64 0] := by kernel_rfl
theorem zc_88 : zeroCellsOf Try.prog 88 = some [.int .i64 0, .int .i64 0, .int .i64 0, .bool false, .int .i64 0, .slice none 0 0, .int .i64 0, .int .i64 0, .int .i64 0, .int .i64 0, .int .i64 0, .int .i64 0] := by kernel_rfl
end Go.Proofs.Ytabkedlmpaoloaa
