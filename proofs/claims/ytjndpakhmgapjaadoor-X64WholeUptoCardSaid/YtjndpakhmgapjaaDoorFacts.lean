/-
  CLOSED FACTS on the types and functions of the seat's program, each by the kernel: where fields lie, sizes, kinds. Printed by program.
-/
import Derived.Test.YtjndpakhmgapjaaDoorRows
import Derived.Test.YtjndpakhmgapjaaDoorAw21
namespace Go.Proofs.YtjndpakhmgapjaaDoor
open Go
theorem ag_2 : aggSize Tryd.prog 2 = some (false, 1) := by kernel_rfl
theorem ag_23 : aggSize Tryd.prog 23 = some (true, 6) := by kernel_rfl
theorem ag_24 : aggSize Tryd.prog 24 = some (false, 1) := by kernel_rfl
theorem ag_3 : aggSize Tryd.prog 3 = some (false, 1) := by kernel_rfl
theorem ag_4 : aggSize Tryd.prog 4 = some (false, 1) := by kernel_rfl
theorem ag_5 : aggSize Tryd.prog 5 = some (false, 1) := by kernel_rfl
theorem ag_87 : aggSize Tryd.prog 87 = some (true, 3) := by kernel_rfl
theorem ag_9 : aggSize Tryd.prog 9 = some (false, 1) := by kernel_rfl
theorem by_24 : isBytes Tryd.prog 24 = true := by kernel_rfl
theorem ce_11 : calleeB Tryd.prog 11 = true := by kernel_rfl
theorem ce_12 : calleeB Tryd.prog 12 = true := by kernel_rfl
theorem ce_14 : calleeB Tryd.prog 14 = true := by kernel_rfl
theorem ce_16 : calleeB Tryd.prog 16 = true := by kernel_rfl
theorem ce_17 : calleeB Tryd.prog 17 = true := by kernel_rfl
theorem ce_20 : calleeB Tryd.prog 20 = true := by kernel_rfl
theorem ce_22 : calleeB Tryd.prog 22 = true := by kernel_rfl
theorem ce_26 : calleeB Tryd.prog 26 = true := by kernel_rfl
theorem ce_27 : calleeB Tryd.prog 27 = true := by kernel_rfl
theorem ce_28 : calleeB Tryd.prog 28 = true := by kernel_rfl
theorem ce_29 : calleeB Tryd.prog 29 = true := by kernel_rfl
theorem ce_30 : calleeB Tryd.prog 30 = true := by kernel_rfl
theorem ce_31 : calleeB Tryd.prog 31 = true := by kernel_rfl
theorem ce_32 : calleeB Tryd.prog 32 = true := by kernel_rfl
theorem ce_33 : calleeB Tryd.prog 33 = true := by kernel_rfl
theorem ce_34 : calleeB Tryd.prog 34 = true := by kernel_rfl
theorem ce_35 : calleeB Tryd.prog 35 = true := by kernel_rfl
theorem ce_36 : calleeB Tryd.prog 36 = true := by kernel_rfl
theorem ce_37 : calleeB Tryd.prog 37 = true := by kernel_rfl
theorem ce_38 : calleeB Tryd.prog 38 = true := by kernel_rfl
theorem ce_39 : calleeB Tryd.prog 39 = true := by kernel_rfl
theorem ce_40 : calleeB Tryd.prog 40 = true := by kernel_rfl
theorem ce_41 : calleeB Tryd.prog 41 = true := by kernel_rfl
theorem ce_44 : calleeB Tryd.prog 44 = true := by kernel_rfl
theorem ce_55 : calleeB Tryd.prog 55 = true := by kernel_rfl
theorem ce_56 : calleeB Tryd.prog 56 = true := by kernel_rfl
theorem ce_58 : calleeB Tryd.prog 58 = true := by kernel_rfl
theorem ce_59 : calleeB Tryd.prog 59 = true := by kernel_rfl
theorem ce_60 : calleeB Tryd.prog 60 = true := by kernel_rfl
theorem ce_61 : calleeB Tryd.prog 61 = true := by kernel_rfl
theorem ce_62 : calleeB Tryd.prog 62 = true := by kernel_rfl
theorem ce_63 : calleeB Tryd.prog 63 = true := by kernel_rfl
theorem ce_68 : calleeB Tryd.prog 68 = true := by kernel_rfl
theorem ce_72 : calleeB Tryd.prog 72 = true := by kernel_rfl
theorem ce_73 : calleeB Tryd.prog 73 = true := by kernel_rfl
theorem ce_74 : calleeB Tryd.prog 74 = true := by kernel_rfl
theorem ce_75 : calleeB Tryd.prog 75 = true := by kernel_rfl
theorem ce_76 : calleeB Tryd.prog 76 = true := by kernel_rfl
theorem ce_77 : calleeB Tryd.prog 77 = true := by kernel_rfl
theorem ce_78 : calleeB Tryd.prog 78 = true := by kernel_rfl
theorem el_24 : elemOf Tryd.prog 24 = some (5, 1, 1, [.int .u8 0]) := by kernel_rfl
theorem el_36 : elemOf Tryd.prog 36 = some (23, 6, 48, [.int .i64 0, .int .i64 0, .int .i64 0, .int .i64 0, .int .i64 0, .int .i64 0]) := by kernel_rfl
theorem el_43 : elemOf Tryd.prog 43 = some (3, 1, 8, [.int .i64 0]) := by kernel_rfl
theorem el_81 : elemOf Tryd.prog 81 = some (9, 1, 16, [.string ⟨#[]⟩]) := by kernel_rfl
theorem fl_23 : flatOf Tryd.prog 23 = some [(0, .i), (1, .i), (2, .i), (3, .i), (4, .i), (5, .i)] := by kernel_rfl
theorem fo_23_0 : fieldOff Tryd.prog 23 0 = some 0 := by kernel_rfl
theorem fo_23_1 : fieldOff Tryd.prog 23 1 = some 1 := by kernel_rfl
theorem fo_23_2 : fieldOff Tryd.prog 23 2 = some 2 := by kernel_rfl
theorem fo_23_3 : fieldOff Tryd.prog 23 3 = some 3 := by kernel_rfl
theorem fo_23_4 : fieldOff Tryd.prog 23 4 = some 4 := by kernel_rfl
theorem fo_23_5 : fieldOff Tryd.prog 23 5 = some 5 := by kernel_rfl
theorem fo_49_0 : fieldOff Tryd.prog 49 0 = some 0 := by kernel_rfl
theorem fo_68_0 : fieldOff Tryd.prog 68 0 = some 0 := by kernel_rfl
theorem fo_68_1 : fieldOff Tryd.prog 68 1 = some 1 := by kernel_rfl
theorem fo_68_2 : fieldOff Tryd.prog 68 2 = some 2 := by kernel_rfl
theorem fo_68_3 : fieldOff Tryd.prog 68 3 = some 3 := by kernel_rfl
theorem fo_87_0 : fieldOff Tryd.prog 87 0 = some 0 := by kernel_rfl
theorem fo_87_1 : fieldOff Tryd.prog 87 1 = some 1 := by kernel_rfl
theorem fo_87_2 : fieldOff Tryd.prog 87 2 = some 2 := by kernel_rfl
theorem kd_2 : kindOf Tryd.prog 2 = some .i64 := by kernel_rfl
theorem kd_3 : kindOf Tryd.prog 3 = some .i64 := by kernel_rfl
theorem kd_5 : kindOf Tryd.prog 5 = some .u8 := by kernel_rfl
theorem kd_78 : kindOf Tryd.prog 78 = some .u64 := by kernel_rfl
theorem sh_23 : structShape Tryd.prog 23 = some ([.int .i64 0, .int .i64 0, .int .i64 0, .int .i64 0, .int .i64 0, .int .i64 0], [(0, 1), (1, 1), (2, 1), (3, 1), (4, 1), (5, 1)]) := by kernel_rfl
theorem sh_49 : structShape Tryd.prog 49 = some ([.slice none 0 0], [(0, 1)]) := by kernel_rfl
theorem sh_68 : structShape Tryd.prog 68 = some ([.slice none 0 0, .int .i64 0, .bool false, .bool false], [(0, 1), (1, 1), (2, 1), (3, 1)]) := by kernel_rfl
theorem sh_87 : structShape Tryd.prog 87 = some ([.int .i64 0, .int .i64 0, .int .i64 0], [(0, 1), (1, 1), (2, 1)]) := by kernel_rfl
theorem so_24 : sliceOf Tryd.prog 24 = some 5 := by kernel_rfl
theorem so_36 : sliceOf Tryd.prog 36 = some 23 := by kernel_rfl
theorem so_43 : sliceOf Tryd.prog 43 = some 3 := by kernel_rfl
theorem ss_24 : sliceSz Tryd.prog 24 = some (5, 1) := by kernel_rfl
theorem ss_36 : sliceSz Tryd.prog 36 = some (23, 6) := by kernel_rfl
theorem ss_43 : sliceSz Tryd.prog 43 = some (3, 1) := by kernel_rfl
theorem ss_81 : sliceSz Tryd.prog 81 = some (9, 1) := by kernel_rfl
theorem st_9 : isStr Tryd.prog 9 = true := by kernel_rfl
theorem zc_23 : zeroCellsOf Tryd.prog 23 = some [.int .i64 0, .int .i64 0, .int .i64 0, .int .i64 0, .int .i64 0, .int .i64 0] := by kernel_rfl
theorem zc_3 : zeroCellsOf Tryd.prog 3 = some [.int .i64 0] := by kernel_rfl
theorem zc_87 : zeroCellsOf Tryd.prog 87 = some [.int .i64 0, .int .i64 0, .int .i64 0] := by kernel_rfl
theorem zc_9 : zeroCellsOf Tryd.prog 9 = some [.string ⟨#[]⟩] := by kernel_rfl
end Go.Proofs.YtjndpakhmgapjaaDoor
