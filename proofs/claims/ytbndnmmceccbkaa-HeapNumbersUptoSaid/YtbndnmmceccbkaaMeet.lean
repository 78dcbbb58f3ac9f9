/-
  THE DOCUMENT'S NUMBERING: a row of numbers beside the row of what was met.
-/
import Derived.Test.YtbndnmmceccbkaaFresh
namespace Go.Proofs.Ytbndnmmceccbkaa
open Go Go.RowKit
def numAt (row : List Int) (i : Nat) : Int := match ixOf row (i : Int) with
  | some k => (k : Int)
  | none => -1
def numL (n : Nat) (row : List Int) : List Int := (List.range n).map (numAt row)
theorem numL_len (n : Nat) (row : List Int) : (numL n row).length = n := by simp [numL]
theorem numL_get {n i : Nat} (row : List Int) (h : i < n) : (numL n row).getD i 0 = numAt row i := by
  simp [numL, h]
theorem numAt_some {row : List Int} {z : Int} {k : Nat} (h0 : 0 ≤ z) (h : ixOf row z = some k) : numAt row z.toNat = k := by
  rw [numAt, Int.toNat_of_nonneg h0, h]
theorem numAt_none {row : List Int} {z : Int} (h0 : 0 ≤ z) (h : ixOf row z = none) : numAt row z.toNat = -1 := by
  rw [numAt, Int.toNat_of_nonneg h0, h]
theorem ixOf_snoc_ne : ∀ {row : List Int} {z y : Int}, y ≠ z → ixOf (row ++ [z]) y = ixOf row y
  | [], z, y, h => by simp only [List.nil_append, ixOf]; rw [if_neg (fun e => h e.symm)]; rfl
  | x :: r, z, y, h => by
    simp only [List.cons_append, ixOf]
    rw [ixOf_snoc_ne h]
theorem ixOf_snoc_eq : ∀ {row : List Int} {z : Int}, ixOf row z = none → ixOf (row ++ [z]) z = some row.length
  | [], z, _ => by simp [ixOf]
  | x :: r, z, h => by
    simp only [ixOf] at h
    split at h
    · cases h
    · rename_i hx
      simp only [List.cons_append, ixOf]
      rw [if_neg hx, ixOf_snoc_eq (by simpa using h)]
      rfl
theorem num_set {n : Nat} {row : List Int} {z : Int} (h0 : 0 ≤ z) (h1 : z < (n : Int)) (h : ixOf row z = none) : ((numL n row).map z64).set (z.toNat * 1) (.v (.int .i64 (row.length : Int))) = (numL n (row ++ [z])).map z64 := by
  rw [Nat.mul_one]
  apply List.ext_getElem?
  intro i
  rw [List.getElem?_set, List.getElem?_map, List.getElem?_map, numL, numL, List.getElem?_map, List.getElem?_map]
  rcases Nat.lt_or_ge i n with hi | hi
  · rw [List.getElem?_range hi]
    simp only [Option.map_some, List.length_map, List.length_range]
    by_cases e : z.toNat = i
    · rw [if_pos e, if_pos (by omega), numAt, show (i : Int) = z by omega, ixOf_snoc_eq h]; rfl
    · rw [if_neg e, numAt, numAt, ixOf_snoc_ne (by omega)]
  · rw [if_neg (by omega), List.getElem?_eq_none (by simp; omega)]
    rfl
theorem numL_nil (n : Nat) : numL n [] = List.replicate n (-1) := by
  apply List.ext_getElem?
  intro i
  rw [numL, List.getElem?_map, List.getElem?_replicate]
  rcases Nat.lt_or_ge i n with hi | hi
  · rw [List.getElem?_range hi, if_pos hi]; rfl
  · rw [List.getElem?_eq_none (by simp; omega), if_neg (by omega)]; rfl
theorem fillm (n j : Nat) (h : j < n) : ((List.replicate j (-1 : Int)).map z64 ++ List.replicate (n - j) (z64 0)).set (j * 1) (.v (.int .i64 (-1))) = (List.replicate (j + 1) (-1 : Int)).map z64 ++ List.replicate (n - (j + 1)) (z64 0) := by
  rw [Nat.mul_one, List.set_append_right _ _ (by simp), List.length_map, List.length_replicate, Nat.sub_self, show n - j = (n - (j + 1)) + 1 by omega, List.replicate_succ, List.set_cons_zero, List.replicate_succ', List.map_append, List.append_assoc]
  rfl
theorem fillm0 (n : Nat) : (List.replicate n (List.map T.v [Value.int .i64 0])).flatten = (List.replicate 0 (-1 : Int)).map z64 ++ List.replicate (n - 0) (z64 0) := by
  show (List.replicate n [z64 0]).flatten = _
  simp
theorem same_graphEq (g h : Graph) : (decide (checkF g = 0) && decide (checkF h = 0) && graphEq (canonG g) (canonG h)) = sameF g h := by
  rw [sameF, graphEq]
  cases decide (checkF g = 0) <;> cases decide (checkF h = 0) <;> simp
end Go.Proofs.Ytbndnmmceccbkaa
