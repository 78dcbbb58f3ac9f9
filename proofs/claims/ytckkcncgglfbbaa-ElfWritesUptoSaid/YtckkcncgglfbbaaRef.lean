/-
  THE DOCUMENT'S ANSWER, in the words of the package's own: numbers' bytes, headers, rows.
-/
import Derived.Test.YtckkcncgglfbbaaBack
namespace Go.Proofs.Ytckkcncgglfbbaa
open Go Go.RowKit
theorem len_leb {k : Nat} {x : Int} : ((leBytes k x).map u8).length = k * 1 := by simp [leBytes_length]
theorem u8_small {x : Int} (h0 : 0 ≤ x) (h1 : x ≤ 255) : T.v (.int .u8 x) = u8 (UInt8.ofNat (x % 256).toNat) := by
  rw [← u8_emod, Int.emod_eq_of_lt h0 (by omega)]
theorem le2_small {x : Int} (h0 : 0 ≤ x) (h1 : x ≤ 255) : (leBytes 2 x).map u8 = [.v (.int .u8 x), .v (.int .u8 0)] := by
  have h : x / 256 = 0 := Int.ediv_eq_zero_of_lt h0 (by omega)
  simp only [leBytes, List.map_cons, List.map_nil, ← u8_emod, h]
  rw [Int.emod_eq_of_lt h0 (by omega)]
  rfl
theorem le4_small {x : Int} (h0 : 0 ≤ x) (h1 : x ≤ 255) : (leBytes 4 x).map u8 = [.v (.int .u8 x), .v (.int .u8 0), .v (.int .u8 0), .v (.int .u8 0)] := by
  have h : x / 256 = 0 := Int.ediv_eq_zero_of_lt h0 (by omega)
  simp only [leBytes, List.map_cons, List.map_nil, ← u8_emod, h]
  rw [Int.emod_eq_of_lt h0 (by omega)]
  rfl
theorem six16_cells {n : Nat} (hn : n ≤ 64) : ((six16 n).flatMap (leBytes 2)).map u8 = [.v (.int .u8 64), .v (.int .u8 0), .v (.int .u8 56), .v (.int .u8 0), .v (.int .u8 (n : Int)), .v (.int .u8 0), .v (.int .u8 64), .v (.int .u8 0), .v (.int .u8 0), .v (.int .u8 0), .v (.int .u8 0), .v (.int .u8 0)] := by
  simp only [six16, List.flatMap_cons, List.flatMap_nil, List.map_append, List.append_nil, List.map_nil]
  rw [le2_small (x := 64) (by decide) (by decide), le2_small (x := 56) (by decide) (by decide), le2_small (x := (n : Int)) (by omega) (by omega), le2_small (x := 0) (by decide) (by decide)]
  rfl
theorem eight_cells : (leBytes 2 2 ++ leBytes 2 62 ++ leBytes 4 1).map u8 = [.v (.int .u8 2), .v (.int .u8 0), .v (.int .u8 62), .v (.int .u8 0), .v (.int .u8 1), .v (.int .u8 0), .v (.int .u8 0), .v (.int .u8 0)] := rfl
theorem twelve_zero : leBytes 12 0 = leBytes 8 0 ++ leBytes 4 0 := rfl
/-- The header, piece by piece. -/
theorem hdr_cells (i : Img) (hn : i.segs.length ≤ 64) : (((((List.map u8 magic16 ++ [.v (.int .u8 2), .v (.int .u8 0), .v (.int .u8 62), .v (.int .u8 0), .v (.int .u8 1), .v (.int .u8 0), .v (.int .u8 0), .v (.int .u8 0)]) ++ List.map u8 (leBytes 8 i.entry)) ++ List.map u8 (leBytes 8 64)) ++ List.map u8 (leBytes 12 0)) ++
    [.v (.int .u8 64), .v (.int .u8 0), .v (.int .u8 56), .v (.int .u8 0), .v (.int .u8 (i.segs.length : Int)), .v (.int .u8 0), .v (.int .u8 64), .v (.int .u8 0), .v (.int .u8 0), .v (.int .u8 0), .v (.int .u8 0), .v (.int .u8 0)]) = List.map u8 (hdrF i) := by
  rw [← eight_cells, ← six16_cells hn, twelve_zero]
  simp only [hdrF, hdrA, List.map_append, List.append_assoc]
theorem row_cells (bs : List UInt8) (s : Seg) (p : Int) (h1 : 1 ≤ s.may) (h2 : s.may ≤ 7) : ((((((List.map u8 bs ++ [.v (.int .u8 1), .v (.int .u8 0), .v (.int .u8 0), .v (.int .u8 0), .v (.int .u8 s.may), .v (.int .u8 0), .v (.int .u8 0), .v (.int .u8 0)]) ++ List.map u8 (leBytes 8 p)) ++ List.map u8 (leBytes 8 s.at_)) ++ List.map u8 (leBytes 8 s.at_)) ++
    List.map u8 (leBytes 8 (s.data.length : Int))) ++ List.map u8 (leBytes 8 s.size)) ++ List.map u8 (leBytes 8 4096) = List.map u8 (bs ++ rowF s p) := by
  have e : [T.v (.int .u8 1), .v (.int .u8 0), .v (.int .u8 0), .v (.int .u8 0), .v (.int .u8 s.may), .v (.int .u8 0), .v (.int .u8 0), .v (.int .u8 0)] = (leBytes 4 1).map u8 ++ (leBytes 4 s.may).map u8 := by
    rw [le4_small (x := s.may) (by omega) (by omega)]
    rfl
  rw [e]
  simp only [rowF, six64, List.flatMap_cons, List.flatMap_nil, List.map_append, List.append_assoc, List.append_nil]
theorem hdr_len8 : (52 : Nat) + 12 = 64 := rfl
end Go.Proofs.Ytckkcncgglfbbaa
