/-
  TEXTS of small numbers; words.
-/
import Derived.Test.YtjndpakhmgapjaaDoorDec
namespace Go.Proofs.YtjndpakhmgapjaaDoor
open Go Go.RowKit
set_option linter.unusedSimpArgs false
set_option linter.unusedVariables false
set_option linter.unnecessarySimpa false
def wordsL : List (List UInt8) := [[109, 111, 118, 101], [99, 111, 110, 115, 116], [108, 111, 97, 100], [115, 116, 111, 114, 101], [108, 101, 97], [97, 100, 100], [111, 114], [97, 100, 99], [115, 98, 98], [97, 110, 100], [115, 117, 98], [120, 111, 114], [99, 109, 112], [116, 101, 115, 116], [97, 100, 100, 73], [111, 114, 73], [97, 110, 100, 73], [115, 117, 98, 73], [120, 111, 114, 73], [99, 109, 112, 73], [105, 109, 117, 108], [109, 117, 108], [100, 105, 118], [110, 101, 103], [110, 111, 116], [115, 104, 108], [115, 104, 114], [115, 97, 114], [115, 104, 108, 73], [115, 104, 114, 73], [115, 97, 114, 73], [115, 101, 116], [98, 121, 116, 101], [109, 111, 118, 101, 73, 102], [106, 117, 109, 112], [106, 117, 109, 112, 73, 102], [99, 97, 108, 108], [99, 97, 108, 108, 84, 111], [106, 117, 109, 112, 84, 111], [114, 101, 116], [112, 117, 115, 104], [112, 111, 112], [115, 121, 115], [116, 114, 97, 112], [116, 111, 88], [102, 114, 111, 109, 88], [97, 100, 100, 88], [109, 117, 108, 88], [115, 117, 98, 88], [100, 105, 118, 88], [99, 109, 112, 88], [105, 110, 116, 88]]
def digitsL : List UInt8 := [48, 49, 50, 51, 52, 53, 54, 55, 56, 57, 97, 98, 99, 100, 101, 102, 103, 104, 105, 106, 107, 108, 109, 110, 111, 112, 113, 114, 115, 116, 117, 118, 119, 120, 121, 122]
def pairsL : List UInt8 := [48, 48, 48, 49, 48, 50, 48, 51, 48, 52, 48, 53, 48, 54, 48, 55, 48, 56, 48, 57, 49, 48, 49, 49, 49, 50, 49, 51, 49, 52, 49, 53, 49, 54, 49, 55, 49, 56, 49, 57, 50, 48, 50, 49, 50, 50, 50, 51, 50, 52, 50, 53, 50, 54, 50, 55, 50, 56, 50, 57, 51, 48, 51, 49, 51, 50, 51, 51, 51, 52, 51, 53, 51, 54, 51, 55, 51, 56, 51, 57, 52, 48, 52, 49, 52, 50, 52, 51, 52, 52, 52, 53, 52, 54, 52, 55, 52, 56, 52, 57, 53, 48, 53, 49, 53, 50, 53, 51, 53, 52, 53, 53, 53, 54, 53, 55, 53, 56, 53, 57, 54, 48, 54, 49, 54, 50, 54, 51, 54, 52, 54, 53, 54, 54, 54, 55, 54, 56, 54, 57, 55, 48, 55, 49, 55, 50, 55, 51, 55, 52, 55, 53, 55, 54, 55, 55, 55, 56, 55, 57, 56, 48, 56, 49, 56, 50, 56, 51, 56, 52, 56, 53, 56, 54, 56, 55, 56, 56, 56, 57, 57, 48, 57, 49, 57, 50, 57, 51, 57, 52, 57, 53, 57, 54, 57, 55, 57, 56, 57, 57]
def smallT (n : Int) : List UInt8 := if n < 10 then (digitsL.drop n.toNat).take ((n + 1).toNat - n.toNat) else (pairsL.drop (n * 2).toNat).take ((n * 2 + 2).toNat - (n * 2).toNat)
def wordT (k : Int) : List UInt8 := wordsL.getD (k.toNat - 1) []
def putOn (f has : Int) : Bool := !decide (bitsOf .and .i64 f has = 0)
def putT (f has n : Int) (s : List UInt8) : List UInt8 := if putOn f has = true then s ++ (32 :: smallT n) else s
theorem word_get {j : Nat} (h : j < 52) : (wordsL.map sv)[j * 1]? = some (sv (wordsL.getD j [])) := by
  have : j < wordsL.length := h
  simp [this]
theorem small_len (n : Int) : (smallT n).length ≤ 200 := by
  unfold smallT
  split
  · rw [List.length_take, List.length_drop]
    have : digitsL.length = 36 := rfl
    omega
  · rw [List.length_take, List.length_drop]
    have : pairsL.length = 200 := rfl
    omega
def ik0 : Ins := ⟨41, 15, 0, 0, 0, 0⟩
def ik1 : Ins := ⟨3, 9, 3, 0, 1, -1⟩
theorem kv0 : validF ik0 = true := by decide +kernel
theorem kv1 : validF ik1 = true ∧ encF ik1 = [76, 15, 182, 139, 255, 255, 255, 255] := by decide +kernel
theorem kd0 : decI [65, 87, 0] = ik0 ∧ decN [65, 87, 0] = 2 ∧ decE [65, 87, 0] = 0 := by decide +kernel
theorem kf0 : (fieldsF 41).1 = 1 := by decide +kernel
theorem kt0 : putT 1 16 0 (putT 1 8 0 (putT 1 4 0 (putT 1 2 0 (putT 1 1 15 (wordT 41))))) = [112, 117, 115, 104, 32, 49, 53] := by decide +kernel
theorem kp (f has n : Int) (s : List UInt8) : (putT f has n s).length ≤ s.length + 201 := by
  have := small_len n
  unfold putT
  split
  · rw [List.length_append, List.length_cons]; omega
  · omega
end Go.Proofs.YtjndpakhmgapjaaDoor
