/-
  CLOSED FACTS on the types and functions of the seat's program, each by the kernel: where fields lie, sizes, kinds. Printed by program.
-/
import Derived.Test.YtbndnmmceccbkaaRows
import Derived.Test.YtbndnmmceccbkaaAw20
namespace Go.Proofs.Ytbndnmmceccbkaa
open Go
theorem ag_2 : aggSize Try.prog 2 = some (false, 1) := by kernel_rfl
theorem ag_22 : aggSize Try.prog 22 = some (false, 1) := by kernel_rfl
theorem ag_24 : aggSize Try.prog 24 = some (true, 4) := by kernel_rfl
theorem ag_25 : aggSize Try.prog 25 = some (false, 1) := by kernel_rfl
theorem ag_27 : aggSize Try.prog 27 = some (true, 2) := by kernel_rfl
theorem ag_29 : aggSize Try.prog 29 = some (false, 1) := by kernel_rfl
theorem ag_3 : aggSize Try.prog 3 = some (false, 1) := by kernel_rfl
theorem ag_40 : aggSize Try.prog 40 = some (false, 1) := by kernel_rfl
theorem ag_41 : aggSize Try.prog 41 = some (false, 1) := by kernel_rfl
theorem ag_5 : aggSize Try.prog 5 = some (false, 1) := by kernel_rfl
theorem ag_54 : aggSize Try.prog 54 = some (true, 2) := by kernel_rfl
theorem ag_64 : aggSize Try.prog 64 = some (false, 1) := by kernel_rfl
theorem ag_65 : aggSize Try.prog 65 = some (false, 1) := by kernel_rfl
theorem ag_82 : aggSize Try.prog 82 = some (false, 1) := by kernel_rfl
theorem ag_9 : aggSize Try.prog 9 = some (false, 1) := by kernel_rfl
theorem by_40 : isBytes Try.prog 40 = true := by kernel_rfl
theorem ce_10 : calleeB Try.prog 10 = true := by kernel_rfl
theorem ce_11 : calleeB Try.prog 11 = true := by kernel_rfl
theorem ce_12 : calleeB Try.prog 12 = true := by kernel_rfl
theorem ce_13 : calleeB Try.prog 13 = true := by kernel_rfl
theorem ce_14 : calleeB Try.prog 14 = true := by kernel_rfl
theorem ce_15 : calleeB Try.prog 15 = true := by kernel_rfl
theorem ce_16 : calleeB Try.prog 16 = true := by kernel_rfl
theorem ce_18 : calleeB Try.prog 18 = true := by kernel_rfl
theorem ce_19 : calleeB Try.prog 19 = true := by kernel_rfl
theorem ce_21 : calleeB Try.prog 21 = true := by kernel_rfl
theorem ce_23 : calleeB Try.prog 23 = true := by kernel_rfl
theorem ce_24 : calleeB Try.prog 24 = true := by kernel_rfl
theorem ce_25 : calleeB Try.prog 25 = true := by kernel_rfl
theorem ce_27 : calleeB Try.prog 27 = true := by kernel_rfl
theorem ce_28 : calleeB Try.prog 28 = true := by kernel_rfl
theorem ce_29 : calleeB Try.prog 29 = true := by kernel_rfl
theorem ce_30 : calleeB Try.prog 30 = true := by kernel_rfl
theorem ce_31 : calleeB Try.prog 31 = true := by kernel_rfl
theorem ce_32 : calleeB Try.prog 32 = true := by kernel_rfl
theorem ce_33 : calleeB Try.prog 33 = true := by kernel_rfl
theorem ce_34 : calleeB Try.prog 34 = true := by kernel_rfl
theorem ce_35 : calleeB Try.prog 35 = true := by kernel_rfl
theorem ce_36 : calleeB Try.prog 36 = true := by kernel_rfl
theorem ce_37 : calleeB Try.prog 37 = true := by kernel_rfl
theorem ce_38 : calleeB Try.prog 38 = true := by kernel_rfl
theorem ce_39 : calleeB Try.prog 39 = true := by kernel_rfl
theorem ce_40 : calleeB Try.prog 40 = true := by kernel_rfl
theorem ce_42 : calleeB Try.prog 42 = true := by kernel_rfl
theorem ce_43 : calleeB Try.prog 43 = true := by kernel_rfl
theorem ce_44 : calleeB Try.prog 44 = true := by kernel_rfl
theorem ce_45 : calleeB Try.prog 45 = true := by kernel_rfl
theorem ce_46 : calleeB Try.prog 46 = true := by kernel_rfl
theorem ce_47 : calleeB Try.prog 47 = true := by kernel_rfl
theorem ce_48 : calleeB Try.prog 48 = true := by kernel_rfl
theorem ce_49 : calleeB Try.prog 49 = true := by kernel_rfl
theorem ce_50 : calleeB Try.prog 50 = true := by kernel_rfl
theorem ce_53 : calleeB Try.prog 53 = true := by kernel_rfl
theorem ce_54 : calleeB Try.prog 54 = true := by kernel_rfl
theorem ce_55 : calleeB Try.prog 55 = true := by kernel_rfl
theorem ce_56 : calleeB Try.prog 56 = true := by kernel_rfl
theorem ce_57 : calleeB Try.prog 57 = true := by kernel_rfl
theorem ce_58 : calleeB Try.prog 58 = true := by kernel_rfl
theorem ce_59 : calleeB Try.prog 59 = true := by kernel_rfl
theorem ce_61 : calleeB Try.prog 61 = true := by kernel_rfl
theorem ce_62 : calleeB Try.prog 62 = true := by kernel_rfl
theorem ce_9 : calleeB Try.prog 9 = true := by kernel_rfl
theorem el_22 : elemOf Try.prog 22 = some (54, 2, 16, [.int .i64 0, .int .i64 0]) := by kernel_rfl
theorem el_25 : elemOf Try.prog 25 = some (24, 4, 56, [.int .i64 0, .int .i64 0, .string ⟨#[]⟩, .slice none 0 0]) := by kernel_rfl
theorem el_40 : elemOf Try.prog 40 = some (5, 1, 1, [.int .u8 0]) := by kernel_rfl
theorem el_41 : elemOf Try.prog 41 = some (29, 1, 8, [.int .u64 0]) := by kernel_rfl
theorem el_65 : elemOf Try.prog 65 = some (2, 1, 8, [.int .i64 0]) := by kernel_rfl
theorem fl_54 : flatOf Try.prog 54 = some [(0, .i), (1, .i)] := by kernel_rfl
theorem fo_24_0 : fieldOff Try.prog 24 0 = some 0 := by kernel_rfl
theorem fo_24_1 : fieldOff Try.prog 24 1 = some 1 := by kernel_rfl
theorem fo_24_2 : fieldOff Try.prog 24 2 = some 2 := by kernel_rfl
theorem fo_24_3 : fieldOff Try.prog 24 3 = some 3 := by kernel_rfl
theorem fo_27_0 : fieldOff Try.prog 27 0 = some 0 := by kernel_rfl
theorem fo_27_1 : fieldOff Try.prog 27 1 = some 1 := by kernel_rfl
theorem fo_54_0 : fieldOff Try.prog 54 0 = some 0 := by kernel_rfl
theorem fo_54_1 : fieldOff Try.prog 54 1 = some 1 := by kernel_rfl
theorem fo_84_0 : fieldOff Try.prog 84 0 = some 0 := by kernel_rfl
theorem fo_84_1 : fieldOff Try.prog 84 1 = some 1 := by kernel_rfl
theorem fo_84_2 : fieldOff Try.prog 84 2 = some 2 := by kernel_rfl
theorem fo_84_3 : fieldOff Try.prog 84 3 = some 3 := by kernel_rfl
theorem kd_2 : kindOf Try.prog 2 = some .i64 := by kernel_rfl
theorem kd_29 : kindOf Try.prog 29 = some .u64 := by kernel_rfl
theorem kd_3 : kindOf Try.prog 3 = some .i64 := by kernel_rfl
theorem kd_5 : kindOf Try.prog 5 = some .u8 := by kernel_rfl
theorem mp_64 : mapOf Try.prog 64 = some ((.int .i64), 2, 2, .int .i64 0) := by kernel_rfl
theorem mp_82 : mapOf Try.prog 82 = some ((.int .u64), 29, 2, .int .i64 0) := by kernel_rfl
theorem sh_24 : structShape Try.prog 24 = some ([.int .i64 0, .int .i64 0, .string ⟨#[]⟩, .slice none 0 0], [(0, 1), (1, 1), (2, 1), (3, 1)]) := by kernel_rfl
theorem sh_27 : structShape Try.prog 27 = some ([.slice none 0 0, .slice none 0 0], [(0, 1), (1, 1)]) := by kernel_rfl
theorem sh_54 : structShape Try.prog 54 = some ([.int .i64 0, .int .i64 0], [(0, 1), (1, 1)]) := by kernel_rfl
theorem sh_84 : structShape Try.prog 84 = some ([.slice none 0 0, .int .u64 0, .map none, .slice none 0 0, .bool false], [(0, 1), (1, 1), (2, 1), (3, 1), (4, 1)]) := by kernel_rfl
theorem so_22 : sliceOf Try.prog 22 = some 54 := by kernel_rfl
theorem so_25 : sliceOf Try.prog 25 = some 24 := by kernel_rfl
theorem so_40 : sliceOf Try.prog 40 = some 5 := by kernel_rfl
theorem so_41 : sliceOf Try.prog 41 = some 29 := by kernel_rfl
theorem so_65 : sliceOf Try.prog 65 = some 2 := by kernel_rfl
theorem ss_22 : sliceSz Try.prog 22 = some (54, 2) := by kernel_rfl
theorem ss_25 : sliceSz Try.prog 25 = some (24, 4) := by kernel_rfl
theorem ss_40 : sliceSz Try.prog 40 = some (5, 1) := by kernel_rfl
theorem ss_41 : sliceSz Try.prog 41 = some (29, 1) := by kernel_rfl
theorem ss_65 : sliceSz Try.prog 65 = some (2, 1) := by kernel_rfl
theorem st_9 : isStr Try.prog 9 = true := by kernel_rfl
theorem zc_24 : zeroCellsOf Try.prog 24 = some [.int .i64 0, .int .i64 0, .string ⟨#[]⟩, .slice none 0 0] := by kernel_rfl
theorem zc_27 : zeroCellsOf Try.prog 27 = some [.slice none 0 0, .slice none 0 0] := by kernel_rfl
theorem zc_41 : zeroCellsOf Try.prog 41 = some [.slice none 0 0] := by kernel_rfl
theorem zc_54 : zeroCellsOf Try.prog 54 = some [.int .i64 0, .int .i64 0] := by kernel_rfl
theorem zc_64 : zeroCellsOf Try.prog 64 = some [.map none] := by kernel_rfl
theorem zc_65 : zeroCellsOf Try.prog 65 = some [.slice none 0 0] := by kernel_rfl
end Go.Proofs.Ytbndnmmceccbkaa
