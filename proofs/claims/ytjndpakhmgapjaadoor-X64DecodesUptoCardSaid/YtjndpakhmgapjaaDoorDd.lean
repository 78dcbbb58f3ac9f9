/-
  TEXTS JOINED: Each, Kinds, Dec, Back.
-/
import Derived.Test.YtjndpakhmgapjaaDoorDc
set_option linter.unusedSimpArgs false
set_option linter.unusedVariables false
set_option linter.unusedSectionVars false
set_option linter.unnecessarySimpa false
namespace Go.Proofs.YtjndpakhmgapjaaDoor
open Go Go.RowKit
set_option linter.unusedSimpArgs false
set_option linter.unusedVariables false
set_option linter.unnecessarySimpa false
theorem fld0 {n : Int} (h : fieldR 0 n = true) : n = 0 := by
  simpa [fieldR] using h
theorem leBytes_mod : ∀ (k m : Nat) (n : Int), k ≤ m → leBytes k (n % 256 ^ m) = leBytes k n
  | 0, _, _, _ => rfl
  | k + 1, 0, _, h => absurd h (by omega)
  | k + 1, m + 1, n, h => by
    have e0 : (256 : Int) ^ (m + 1) = 256 ^ m * 256 := Int.pow_succ ..
    have hp : (0 : Int) < 256 ^ m := Int.pow_pos (by decide)
    have e1 : n % 256 ^ (m + 1) % 256 = n % 256 := Int.emod_emod_of_dvd n ⟨256 ^ m, by rw [e0, Int.mul_comm]⟩
    have e2 : n % 256 ^ (m + 1) / 256 = (n / 256) % 256 ^ m := by
      have a1 := Int.emod_add_mul_ediv n (256 ^ (m + 1))
      have a2 := Int.emod_nonneg n (show (256 : Int) ^ (m + 1) ≠ 0 by rw [e0]; omega)
      have a3 := Int.emod_lt_of_pos n (show (0 : Int) < 256 ^ (m + 1) by rw [e0]; omega)
      have b1 : n / 256 = 256 ^ m * (n / 256 ^ (m + 1)) + n % 256 ^ (m + 1) / 256 := by
        have : n = 256 * (256 ^ m * (n / 256 ^ (m + 1))) + n % 256 ^ (m + 1) := by
          have e3 : 256 * (256 ^ m * (n / 256 ^ (m + 1))) = 256 ^ (m + 1) * (n / 256 ^ (m + 1)) := by rw [e0, ← Int.mul_assoc, Int.mul_comm 256]
          omega
        omega
      have b2 : 0 ≤ n % 256 ^ (m + 1) / 256 := by omega
      have b3 : n % 256 ^ (m + 1) / 256 < 256 ^ m := by omega
      rw [b1, Int.add_comm, Int.add_mul_emod_self_left, Int.emod_eq_of_lt b2 b3]
    rw [leBytes, leBytes, e1, e2, leBytes_mod k m (n / 256) (by omega)]
theorem imm_mod {k : Nat} (hk : k ≤ 8) (n : Int) : immF n k = leBytes k (n % 18446744073709551616) := (leBytes_mod k 8 n hk).symm
theorem mem_tail (q q' n : Int) (h : q' = q) : (if q % 8 = 4 then [(36 : UInt8)] else []) ++ immF n 4 = (if (decide ((2 : Int) = 2) && decide (q' % 8 = 4)) = true then [36] else []) ++ leBytes 4 (n % 18446744073709551616) := by
  subst h
  rw [imm_mod (by decide)]
  by_cases hq : q' % 8 = 4
  · rw [if_pos hq, if_pos (by simp [hq])]
  · rw [if_neg hq, if_neg (by simp [hq])]
theorem list2 {α : Type} {a b : α} {l m : List α} (h1 : a = b) (h2 : l = m) : a :: l = b :: m := by rw [h1, h2]
theorem bad0_of {i : Ins} (h : (fieldsF i.kind).2 = true) (hd : 0 ≤ i.d ∧ i.d ≤ 15) (hs : 0 ≤ i.s ∧ i.s ≤ 15) (hc : 0 ≤ i.cond ∧ i.cond ≤ 15) : bad0 i = false := by
  rw [bad0, h, inF_of hd.1 hd.2, inF_of hs.1 hs.2, inF_of hc.1 hc.2]
  rfl
theorem form0 {d s c z n k : Int} (h : fitsF ⟨1, 0, 0, true, 1, [137], 3, 0, 2, 1, 0, 0⟩ ⟨k, d, s, c, z, n⟩ = true) : validF ⟨k, d, s, c, z, n⟩ = true ∧ encF ⟨k, d, s, c, z, n⟩ = bytesF ⟨1, 0, 0, true, 1, [137], 3, 0, 2, 1, 0, 0⟩ ⟨k, d, s, c, z, n⟩ := by
  simp only [fitsF, Bool.and_eq_true, decide_eq_true_eq] at h
  obtain ⟨⟨⟨⟨⟨hk, hz⟩, hd⟩, hs⟩, hc⟩, hn⟩ := h
  subst hk; subst hz
  have dr := field_range hd
  have sr := field_range hs
  obtain rfl := fld0 hc
  obtain rfl : n = 0 := of_decide_eq_true hn
  refine ⟨valid_mk (bad0_of rfl dr sr ⟨Int.le_refl _, show (0 : Int) ≤ 15 by decide⟩) ?_, ?_⟩
  · have e : sizedF ⟨1, d, s, 0, 0, 0⟩ = true := by rw [sizedF, if_neg (by dsimp only; decide), if_neg (by dsimp only; decide), if_neg (by dsimp only; decide)]; rfl
    rw [e, none_any _ 1 _ (by dsimp only; decide), none_any _ 2 _ (by dsimp only; decide), none_zero _ 4, none_zero _ 8, none_zero _ 16]
    rfl
  · show byteOf (rexN true s d) :: 137 :: byteOf (twoN s d) :: [] = byteOf (64 + 8 * 1 + 4 * (s / 8) + (d + 0) / 8) :: byteOf (137 + 0 + 0) :: byteOf (64 * 3 + 8 * (s % 8) + (d + 0) % 8) :: []
    exact list2 (congrArg byteOf (by simp only [rexN, if_true, if_false, Bool.false_eq_true]; omega)) (list2 (rfl) (list2 (congrArg byteOf (by simp only [memN, twoN]; omega)) (rfl)))
theorem form1 {d s c z n k : Int} (h : fitsF ⟨2, 0, 0, true, 1, [199], 3, 0, 2, 0, 0, 6⟩ ⟨k, d, s, c, z, n⟩ = true) : validF ⟨k, d, s, c, z, n⟩ = true ∧ encF ⟨k, d, s, c, z, n⟩ = bytesF ⟨2, 0, 0, true, 1, [199], 3, 0, 2, 0, 0, 6⟩ ⟨k, d, s, c, z, n⟩ := by
  simp only [fitsF, Bool.and_eq_true, decide_eq_true_eq] at h
  obtain ⟨⟨⟨⟨⟨hk, hz⟩, hd⟩, hs⟩, hc⟩, hn⟩ := h
  subst hk; subst hz
  have dr := field_range hd
  obtain rfl := fld0 hs
  obtain rfl := fld0 hc
  have hn : smallF n = true := hn
  refine ⟨valid_mk (bad0_of rfl dr ⟨Int.le_refl _, show (0 : Int) ≤ 15 by decide⟩ ⟨Int.le_refl _, show (0 : Int) ≤ 15 by decide⟩) ?_, ?_⟩
  · have e : sizedF ⟨2, d, 0, 0, 0, n⟩ = true := by rw [sizedF, if_neg (by dsimp only; decide), if_neg (by dsimp only; decide), if_neg (by dsimp only; decide)]; rfl
    rw [e, none_any _ 1 _ (by dsimp only; decide), none_zero _ 2, none_any _ 4 _ (by dsimp only; decide), none_zero _ 8, none_zero _ 16]
    rfl
  · rw [show encF ⟨2, d, 0, 0, 0, n⟩ = (if smallF n = true then byteOf (rexN true 0 d) :: 199 :: byteOf (twoN 0 d) :: immF n 4 else byteOf (rexN true 0 d) :: byteOf (184 + d % 8) :: immF n 8) from rfl, if_pos hn]
    show byteOf (rexN true 0 d) :: 199 :: byteOf (twoN 0 d) :: immF n 4 = byteOf (64 + 8 * 1 + 4 * (0 / 8) + (d + 0) / 8) :: byteOf (199 + 0 + 0) :: byteOf (64 * 3 + 8 * (0) + (d + 0) % 8) :: leBytes 4 (n % 18446744073709551616)
    exact list2 (congrArg byteOf (by simp only [rexN, if_true, if_false, Bool.false_eq_true]; omega)) (list2 (rfl) (list2 (congrArg byteOf (by simp only [memN, twoN]; omega)) (imm_mod (by decide) n)))
theorem form2 {d s c z n k : Int} (h : fitsF ⟨2, 0, 0, true, 1, [184], -1, 0, 3, 0, 0, 7⟩ ⟨k, d, s, c, z, n⟩ = true) : validF ⟨k, d, s, c, z, n⟩ = true ∧ encF ⟨k, d, s, c, z, n⟩ = bytesF ⟨2, 0, 0, true, 1, [184], -1, 0, 3, 0, 0, 7⟩ ⟨k, d, s, c, z, n⟩ := by
  simp only [fitsF, Bool.and_eq_true, decide_eq_true_eq] at h
  obtain ⟨⟨⟨⟨⟨hk, hz⟩, hd⟩, hs⟩, hc⟩, hn⟩ := h
  subst hk; subst hz
  have dr := field_range hd
  obtain rfl := fld0 hs
  obtain rfl := fld0 hc
  have hn : smallF n = false := by simpa using (show (!smallF n) = true from hn)
  refine ⟨valid_mk (bad0_of rfl dr ⟨Int.le_refl _, show (0 : Int) ≤ 15 by decide⟩ ⟨Int.le_refl _, show (0 : Int) ≤ 15 by decide⟩) ?_, ?_⟩
  · have e : sizedF ⟨2, d, 0, 0, 0, n⟩ = true := by rw [sizedF, if_neg (by dsimp only; decide), if_neg (by dsimp only; decide), if_neg (by dsimp only; decide)]; rfl
    rw [e, none_any _ 1 _ (by dsimp only; decide), none_zero _ 2, none_any _ 4 _ (by dsimp only; decide), none_zero _ 8, none_zero _ 16]
    rfl
  · rw [show encF ⟨2, d, 0, 0, 0, n⟩ = (if smallF n = true then byteOf (rexN true 0 d) :: 199 :: byteOf (twoN 0 d) :: immF n 4 else byteOf (rexN true 0 d) :: byteOf (184 + d % 8) :: immF n 8) from rfl, if_neg (by rw [hn]; decide)]
    show byteOf (rexN true 0 d) :: byteOf (184 + d % 8) :: immF n 8 = byteOf (64 + 8 * 1 + 4 * (0 / 8) + (0 + d) / 8) :: byteOf (184 + 0 + d % 8) :: leBytes 8 (n % 18446744073709551616)
    exact list2 (congrArg byteOf (by simp only [rexN, if_true, if_false, Bool.false_eq_true]; omega)) (list2 (congrArg byteOf (by omega)) (imm_mod (by decide) n))
theorem form3 {d s c z n k : Int} (h : fitsF ⟨3, 8, 0, true, 1, [139], 2, 0, 1, 2, 0, 6⟩ ⟨k, d, s, c, z, n⟩ = true) : validF ⟨k, d, s, c, z, n⟩ = true ∧ encF ⟨k, d, s, c, z, n⟩ = bytesF ⟨3, 8, 0, true, 1, [139], 2, 0, 1, 2, 0, 6⟩ ⟨k, d, s, c, z, n⟩ := by
  simp only [fitsF, Bool.and_eq_true, decide_eq_true_eq] at h
  obtain ⟨⟨⟨⟨⟨hk, hz⟩, hd⟩, hs⟩, hc⟩, hn⟩ := h
  subst hk; subst hz
  have dr := field_range hd
  have sr := field_range hs
  obtain rfl := fld0 hc
  have hn : smallF n = true := hn
  refine ⟨valid_mk (bad0_of rfl dr sr ⟨Int.le_refl _, show (0 : Int) ≤ 15 by decide⟩) ?_, ?_⟩
  · have e : sizedF ⟨3, d, s, 0, 8, n⟩ = true := by rw [sizedF, if_pos (by dsimp only; decide), hn]; rfl
    rw [e, none_any _ 1 _ (by dsimp only; decide), none_any _ 2 _ (by dsimp only; decide), none_any _ 4 _ (by dsimp only; decide), none_zero _ 8, none_any _ 16 _ (by dsimp only; decide)]
    rfl
  · show byteOf (rexN true d s) :: 139 :: byteOf (memN d s) :: ((if s % 8 = 4 then [(36 : UInt8)] else []) ++ immF n 4) = byteOf (64 + 8 * 1 + 4 * (d / 8) + (s + 0) / 8) :: byteOf (139 + 0 + 0) :: byteOf (64 * 2 + 8 * (d % 8) + (s + 0) % 8) :: ((if (decide ((2 : Int) = 2) && decide ((s + 0) % 8 = 4)) = true then [36] else []) ++ leBytes 4 (n % 18446744073709551616))
    exact list2 (congrArg byteOf (by simp only [rexN, if_true, if_false, Bool.false_eq_true]; omega)) (list2 (rfl) (list2 (congrArg byteOf (by simp only [memN, twoN]; omega)) (mem_tail _ _ _ (by omega))))
theorem form4 {d s c z n k : Int} (h : fitsF ⟨3, 4, 0, true, 0, [139], 2, 0, 1, 2, 0, 6⟩ ⟨k, d, s, c, z, n⟩ = true) : validF ⟨k, d, s, c, z, n⟩ = true ∧ encF ⟨k, d, s, c, z, n⟩ = bytesF ⟨3, 4, 0, true, 0, [139], 2, 0, 1, 2, 0, 6⟩ ⟨k, d, s, c, z, n⟩ := by
  simp only [fitsF, Bool.and_eq_true, decide_eq_true_eq] at h
  obtain ⟨⟨⟨⟨⟨hk, hz⟩, hd⟩, hs⟩, hc⟩, hn⟩ := h
  subst hk; subst hz
  have dr := field_range hd
  have sr := field_range hs
  obtain rfl := fld0 hc
  have hn : smallF n = true := hn
  refine ⟨valid_mk (bad0_of rfl dr sr ⟨Int.le_refl _, show (0 : Int) ≤ 15 by decide⟩) ?_, ?_⟩
  · have e : sizedF ⟨3, d, s, 0, 4, n⟩ = true := by rw [sizedF, if_pos (by dsimp only; decide), hn]; rfl
    rw [e, none_any _ 1 _ (by dsimp only; decide), none_any _ 2 _ (by dsimp only; decide), none_any _ 4 _ (by dsimp only; decide), none_zero _ 8, none_any _ 16 _ (by dsimp only; decide)]
    rfl
  · show byteOf (rexN false d s) :: 139 :: byteOf (memN d s) :: ((if s % 8 = 4 then [(36 : UInt8)] else []) ++ immF n 4) = byteOf (64 + 8 * 0 + 4 * (d / 8) + (s + 0) / 8) :: byteOf (139 + 0 + 0) :: byteOf (64 * 2 + 8 * (d % 8) + (s + 0) % 8) :: ((if (decide ((2 : Int) = 2) && decide ((s + 0) % 8 = 4)) = true then [36] else []) ++ leBytes 4 (n % 18446744073709551616))
    exact list2 (congrArg byteOf (by simp only [rexN, if_true, if_false, Bool.false_eq_true]; omega)) (list2 (rfl) (list2 (congrArg byteOf (by simp only [memN, twoN]; omega)) (mem_tail _ _ _ (by omega))))
theorem form5 {d s c z n k : Int} (h : fitsF ⟨3, 1, 0, true, 1, [15, 182], 2, 0, 1, 2, 0, 6⟩ ⟨k, d, s, c, z, n⟩ = true) : validF ⟨k, d, s, c, z, n⟩ = true ∧ encF ⟨k, d, s, c, z, n⟩ = bytesF ⟨3, 1, 0, true, 1, [15, 182], 2, 0, 1, 2, 0, 6⟩ ⟨k, d, s, c, z, n⟩ := by
  simp only [fitsF, Bool.and_eq_true, decide_eq_true_eq] at h
  obtain ⟨⟨⟨⟨⟨hk, hz⟩, hd⟩, hs⟩, hc⟩, hn⟩ := h
  subst hk; subst hz
  have dr := field_range hd
  have sr := field_range hs
  obtain rfl := fld0 hc
  have hn : smallF n = true := hn
  refine ⟨valid_mk (bad0_of rfl dr sr ⟨Int.le_refl _, show (0 : Int) ≤ 15 by decide⟩) ?_, ?_⟩
  · have e : sizedF ⟨3, d, s, 0, 1, n⟩ = true := by rw [sizedF, if_pos (by dsimp only; decide), hn]; rfl
    rw [e, none_any _ 1 _ (by dsimp only; decide), none_any _ 2 _ (by dsimp only; decide), none_any _ 4 _ (by dsimp only; decide), none_zero _ 8, none_any _ 16 _ (by dsimp only; decide)]
    rfl
  · show byteOf (rexN true d s) :: 15 :: 182 :: byteOf (memN d s) :: ((if s % 8 = 4 then [(36 : UInt8)] else []) ++ immF n 4) = byteOf (64 + 8 * 1 + 4 * (d / 8) + (s + 0) / 8) :: byteOf (15 + 0 + 0) :: byteOf (182 + 0 + 0) :: byteOf (64 * 2 + 8 * (d % 8) + (s + 0) % 8) :: ((if (decide ((2 : Int) = 2) && decide ((s + 0) % 8 = 4)) = true then [36] else []) ++ leBytes 4 (n % 18446744073709551616))
    exact list2 (congrArg byteOf (by simp only [rexN, if_true, if_false, Bool.false_eq_true]; omega)) (list2 (rfl) (list2 (rfl) (list2 (congrArg byteOf (by simp only [memN, twoN]; omega)) (mem_tail _ _ _ (by omega)))))
theorem form6 {d s c z n k : Int} (h : fitsF ⟨4, 8, 0, true, 1, [137], 2, 0, 2, 1, 0, 6⟩ ⟨k, d, s, c, z, n⟩ = true) : validF ⟨k, d, s, c, z, n⟩ = true ∧ encF ⟨k, d, s, c, z, n⟩ = bytesF ⟨4, 8, 0, true, 1, [137], 2, 0, 2, 1, 0, 6⟩ ⟨k, d, s, c, z, n⟩ := by
  simp only [fitsF, Bool.and_eq_true, decide_eq_true_eq] at h
  obtain ⟨⟨⟨⟨⟨hk, hz⟩, hd⟩, hs⟩, hc⟩, hn⟩ := h
  subst hk; subst hz
  have dr := field_range hd
  have sr := field_range hs
  obtain rfl := fld0 hc
  have hn : smallF n = true := hn
  refine ⟨valid_mk (bad0_of rfl dr sr ⟨Int.le_refl _, show (0 : Int) ≤ 15 by decide⟩) ?_, ?_⟩
  · have e : sizedF ⟨4, d, s, 0, 8, n⟩ = true := by rw [sizedF, if_pos (by dsimp only; decide), hn]; rfl
    rw [e, none_any _ 1 _ (by dsimp only; decide), none_any _ 2 _ (by dsimp only; decide), none_any _ 4 _ (by dsimp only; decide), none_zero _ 8, none_any _ 16 _ (by dsimp only; decide)]
    rfl
  · show byteOf (rexN true s d) :: 137 :: byteOf (memN s d) :: ((if d % 8 = 4 then [(36 : UInt8)] else []) ++ immF n 4) = byteOf (64 + 8 * 1 + 4 * (s / 8) + (d + 0) / 8) :: byteOf (137 + 0 + 0) :: byteOf (64 * 2 + 8 * (s % 8) + (d + 0) % 8) :: ((if (decide ((2 : Int) = 2) && decide ((d + 0) % 8 = 4)) = true then [36] else []) ++ leBytes 4 (n % 18446744073709551616))
    exact list2 (congrArg byteOf (by simp only [rexN, if_true, if_false, Bool.false_eq_true]; omega)) (list2 (rfl) (list2 (congrArg byteOf (by simp only [memN, twoN]; omega)) (mem_tail _ _ _ (by omega))))
theorem form7 {d s c z n k : Int} (h : fitsF ⟨4, 4, 0, true, 0, [137], 2, 0, 2, 1, 0, 6⟩ ⟨k, d, s, c, z, n⟩ = true) : validF ⟨k, d, s, c, z, n⟩ = true ∧ encF ⟨k, d, s, c, z, n⟩ = bytesF ⟨4, 4, 0, true, 0, [137], 2, 0, 2, 1, 0, 6⟩ ⟨k, d, s, c, z, n⟩ := by
  simp only [fitsF, Bool.and_eq_true, decide_eq_true_eq] at h
  obtain ⟨⟨⟨⟨⟨hk, hz⟩, hd⟩, hs⟩, hc⟩, hn⟩ := h
  subst hk; subst hz
  have dr := field_range hd
  have sr := field_range hs
  obtain rfl := fld0 hc
  have hn : smallF n = true := hn
  refine ⟨valid_mk (bad0_of rfl dr sr ⟨Int.le_refl _, show (0 : Int) ≤ 15 by decide⟩) ?_, ?_⟩
  · have e : sizedF ⟨4, d, s, 0, 4, n⟩ = true := by rw [sizedF, if_pos (by dsimp only; decide), hn]; rfl
    rw [e, none_any _ 1 _ (by dsimp only; decide), none_any _ 2 _ (by dsimp only; decide), none_any _ 4 _ (by dsimp only; decide), none_zero _ 8, none_any _ 16 _ (by dsimp only; decide)]
    rfl
  · show byteOf (rexN false s d) :: 137 :: byteOf (memN s d) :: ((if d % 8 = 4 then [(36 : UInt8)] else []) ++ immF n 4) = byteOf (64 + 8 * 0 + 4 * (s / 8) + (d + 0) / 8) :: byteOf (137 + 0 + 0) :: byteOf (64 * 2 + 8 * (s % 8) + (d + 0) % 8) :: ((if (decide ((2 : Int) = 2) && decide ((d + 0) % 8 = 4)) = true then [36] else []) ++ leBytes 4 (n % 18446744073709551616))
    exact list2 (congrArg byteOf (by simp only [rexN, if_true, if_false, Bool.false_eq_true]; omega)) (list2 (rfl) (list2 (congrArg byteOf (by simp only [memN, twoN]; omega)) (mem_tail _ _ _ (by omega))))
theorem form8 {d s c z n k : Int} (h : fitsF ⟨4, 1, 0, true, 0, [136], 2, 0, 2, 1, 0, 6⟩ ⟨k, d, s, c, z, n⟩ = true) : validF ⟨k, d, s, c, z, n⟩ = true ∧ encF ⟨k, d, s, c, z, n⟩ = bytesF ⟨4, 1, 0, true, 0, [136], 2, 0, 2, 1, 0, 6⟩ ⟨k, d, s, c, z, n⟩ := by
  simp only [fitsF, Bool.and_eq_true, decide_eq_true_eq] at h
  obtain ⟨⟨⟨⟨⟨hk, hz⟩, hd⟩, hs⟩, hc⟩, hn⟩ := h
  subst hk; subst hz
  have dr := field_range hd
  have sr := field_range hs
  obtain rfl := fld0 hc
  have hn : smallF n = true := hn
  refine ⟨valid_mk (bad0_of rfl dr sr ⟨Int.le_refl _, show (0 : Int) ≤ 15 by decide⟩) ?_, ?_⟩
  · have e : sizedF ⟨4, d, s, 0, 1, n⟩ = true := by rw [sizedF, if_pos (by dsimp only; decide), hn]; rfl
    rw [e, none_any _ 1 _ (by dsimp only; decide), none_any _ 2 _ (by dsimp only; decide), none_any _ 4 _ (by dsimp only; decide), none_zero _ 8, none_any _ 16 _ (by dsimp only; decide)]
    rfl
  · show byteOf (rexN false s d) :: 136 :: byteOf (memN s d) :: ((if d % 8 = 4 then [(36 : UInt8)] else []) ++ immF n 4) = byteOf (64 + 8 * 0 + 4 * (s / 8) + (d + 0) / 8) :: byteOf (136 + 0 + 0) :: byteOf (64 * 2 + 8 * (s % 8) + (d + 0) % 8) :: ((if (decide ((2 : Int) = 2) && decide ((d + 0) % 8 = 4)) = true then [36] else []) ++ leBytes 4 (n % 18446744073709551616))
    exact list2 (congrArg byteOf (by simp only [rexN, if_true, if_false, Bool.false_eq_true]; omega)) (list2 (rfl) (list2 (congrArg byteOf (by simp only [memN, twoN]; omega)) (mem_tail _ _ _ (by omega))))
theorem form9 {d s c z n k : Int} (h : fitsF ⟨5, 0, 0, true, 1, [141], 2, 0, 1, 2, 0, 6⟩ ⟨k, d, s, c, z, n⟩ = true) : validF ⟨k, d, s, c, z, n⟩ = true ∧ encF ⟨k, d, s, c, z, n⟩ = bytesF ⟨5, 0, 0, true, 1, [141], 2, 0, 1, 2, 0, 6⟩ ⟨k, d, s, c, z, n⟩ := by
  simp only [fitsF, Bool.and_eq_true, decide_eq_true_eq] at h
  obtain ⟨⟨⟨⟨⟨hk, hz⟩, hd⟩, hs⟩, hc⟩, hn⟩ := h
  subst hk; subst hz
  have dr := field_range hd
  have sr := field_range hs
  obtain rfl := fld0 hc
  have hn : smallF n = true := hn
  refine ⟨valid_mk (bad0_of rfl dr sr ⟨Int.le_refl _, show (0 : Int) ≤ 15 by decide⟩) ?_, ?_⟩
  · have e : sizedF ⟨5, d, s, 0, 0, n⟩ = true := by rw [sizedF, if_neg (by dsimp only; decide), if_neg (by dsimp only; decide), if_neg (by dsimp only; decide), hn, Bool.or_true]
    rw [e, none_any _ 1 _ (by dsimp only; decide), none_any _ 2 _ (by dsimp only; decide), none_any _ 4 _ (by dsimp only; decide), none_zero _ 8, none_zero _ 16]
    rfl
  · show byteOf (rexN true d s) :: 141 :: byteOf (memN d s) :: ((if s % 8 = 4 then [(36 : UInt8)] else []) ++ immF n 4) = byteOf (64 + 8 * 1 + 4 * (d / 8) + (s + 0) / 8) :: byteOf (141 + 0 + 0) :: byteOf (64 * 2 + 8 * (d % 8) + (s + 0) % 8) :: ((if (decide ((2 : Int) = 2) && decide ((s + 0) % 8 = 4)) = true then [36] else []) ++ leBytes 4 (n % 18446744073709551616))
    exact list2 (congrArg byteOf (by simp only [rexN, if_true, if_false, Bool.false_eq_true]; omega)) (list2 (rfl) (list2 (congrArg byteOf (by simp only [memN, twoN]; omega)) (mem_tail _ _ _ (by omega))))
theorem form10 {d s c z n k : Int} (h : fitsF ⟨6, 0, 0, true, 1, [1], 3, 0, 2, 1, 0, 0⟩ ⟨k, d, s, c, z, n⟩ = true) : validF ⟨k, d, s, c, z, n⟩ = true ∧ encF ⟨k, d, s, c, z, n⟩ = bytesF ⟨6, 0, 0, true, 1, [1], 3, 0, 2, 1, 0, 0⟩ ⟨k, d, s, c, z, n⟩ := by
  simp only [fitsF, Bool.and_eq_true, decide_eq_true_eq] at h
  obtain ⟨⟨⟨⟨⟨hk, hz⟩, hd⟩, hs⟩, hc⟩, hn⟩ := h
  subst hk; subst hz
  have dr := field_range hd
  have sr := field_range hs
  obtain rfl := fld0 hc
  obtain rfl : n = 0 := of_decide_eq_true hn
  refine ⟨valid_mk (bad0_of rfl dr sr ⟨Int.le_refl _, show (0 : Int) ≤ 15 by decide⟩) ?_, ?_⟩
  · have e : sizedF ⟨6, d, s, 0, 0, 0⟩ = true := by rw [sizedF, if_neg (by dsimp only; decide), if_neg (by dsimp only; decide), if_neg (by dsimp only; decide)]; rfl
    rw [e, none_any _ 1 _ (by dsimp only; decide), none_any _ 2 _ (by dsimp only; decide), none_zero _ 4, none_zero _ 8, none_zero _ 16]
    rfl
  · show byteOf (rexN true s d) :: 1 :: byteOf (twoN s d) :: [] = byteOf (64 + 8 * 1 + 4 * (s / 8) + (d + 0) / 8) :: byteOf (1 + 0 + 0) :: byteOf (64 * 3 + 8 * (s % 8) + (d + 0) % 8) :: []
    exact list2 (congrArg byteOf (by simp only [rexN, if_true, if_false, Bool.false_eq_true]; omega)) (list2 (rfl) (list2 (congrArg byteOf (by simp only [memN, twoN]; omega)) (rfl)))
theorem form11 {d s c z n k : Int} (h : fitsF ⟨7, 0, 0, true, 1, [9], 3, 0, 2, 1, 0, 0⟩ ⟨k, d, s, c, z, n⟩ = true) : validF ⟨k, d, s, c, z, n⟩ = true ∧ encF ⟨k, d, s, c, z, n⟩ = bytesF ⟨7, 0, 0, true, 1, [9], 3, 0, 2, 1, 0, 0⟩ ⟨k, d, s, c, z, n⟩ := by
  simp only [fitsF, Bool.and_eq_true, decide_eq_true_eq] at h
  obtain ⟨⟨⟨⟨⟨hk, hz⟩, hd⟩, hs⟩, hc⟩, hn⟩ := h
  subst hk; subst hz
  have dr := field_range hd
  have sr := field_range hs
  obtain rfl := fld0 hc
  obtain rfl : n = 0 := of_decide_eq_true hn
  refine ⟨valid_mk (bad0_of rfl dr sr ⟨Int.le_refl _, show (0 : Int) ≤ 15 by decide⟩) ?_, ?_⟩
  · have e : sizedF ⟨7, d, s, 0, 0, 0⟩ = true := by rw [sizedF, if_neg (by dsimp only; decide), if_neg (by dsimp only; decide), if_neg (by dsimp only; decide)]; rfl
    rw [e, none_any _ 1 _ (by dsimp only; decide), none_any _ 2 _ (by dsimp only; decide), none_zero _ 4, none_zero _ 8, none_zero _ 16]
    rfl
  · show byteOf (rexN true s d) :: 9 :: byteOf (twoN s d) :: [] = byteOf (64 + 8 * 1 + 4 * (s / 8) + (d + 0) / 8) :: byteOf (9 + 0 + 0) :: byteOf (64 * 3 + 8 * (s % 8) + (d + 0) % 8) :: []
    exact list2 (congrArg byteOf (by simp only [rexN, if_true, if_false, Bool.false_eq_true]; omega)) (list2 (rfl) (list2 (congrArg byteOf (by simp only [memN, twoN]; omega)) (rfl)))
theorem form12 {d s c z n k : Int} (h : fitsF ⟨8, 0, 0, true, 1, [17], 3, 0, 2, 1, 0, 0⟩ ⟨k, d, s, c, z, n⟩ = true) : validF ⟨k, d, s, c, z, n⟩ = true ∧ encF ⟨k, d, s, c, z, n⟩ = bytesF ⟨8, 0, 0, true, 1, [17], 3, 0, 2, 1, 0, 0⟩ ⟨k, d, s, c, z, n⟩ := by
  simp only [fitsF, Bool.and_eq_true, decide_eq_true_eq] at h
  obtain ⟨⟨⟨⟨⟨hk, hz⟩, hd⟩, hs⟩, hc⟩, hn⟩ := h
  subst hk; subst hz
  have dr := field_range hd
  have sr := field_range hs
  obtain rfl := fld0 hc
  obtain rfl : n = 0 := of_decide_eq_true hn
  refine ⟨valid_mk (bad0_of rfl dr sr ⟨Int.le_refl _, show (0 : Int) ≤ 15 by decide⟩) ?_, ?_⟩
  · have e : sizedF ⟨8, d, s, 0, 0, 0⟩ = true := by rw [sizedF, if_neg (by dsimp only; decide), if_neg (by dsimp only; decide), if_neg (by dsimp only; decide)]; rfl
    rw [e, none_any _ 1 _ (by dsimp only; decide), none_any _ 2 _ (by dsimp only; decide), none_zero _ 4, none_zero _ 8, none_zero _ 16]
    rfl
  · show byteOf (rexN true s d) :: 17 :: byteOf (twoN s d) :: [] = byteOf (64 + 8 * 1 + 4 * (s / 8) + (d + 0) / 8) :: byteOf (17 + 0 + 0) :: byteOf (64 * 3 + 8 * (s % 8) + (d + 0) % 8) :: []
    exact list2 (congrArg byteOf (by simp only [rexN, if_true, if_false, Bool.false_eq_true]; omega)) (list2 (rfl) (list2 (congrArg byteOf (by simp only [memN, twoN]; omega)) (rfl)))
theorem form13 {d s c z n k : Int} (h : fitsF ⟨9, 0, 0, true, 1, [25], 3, 0, 2, 1, 0, 0⟩ ⟨k, d, s, c, z, n⟩ = true) : validF ⟨k, d, s, c, z, n⟩ = true ∧ encF ⟨k, d, s, c, z, n⟩ = bytesF ⟨9, 0, 0, true, 1, [25], 3, 0, 2, 1, 0, 0⟩ ⟨k, d, s, c, z, n⟩ := by
  simp only [fitsF, Bool.and_eq_true, decide_eq_true_eq] at h
  obtain ⟨⟨⟨⟨⟨hk, hz⟩, hd⟩, hs⟩, hc⟩, hn⟩ := h
  subst hk; subst hz
  have dr := field_range hd
  have sr := field_range hs
  obtain rfl := fld0 hc
  obtain rfl : n = 0 := of_decide_eq_true hn
  refine ⟨valid_mk (bad0_of rfl dr sr ⟨Int.le_refl _, show (0 : Int) ≤ 15 by decide⟩) ?_, ?_⟩
  · have e : sizedF ⟨9, d, s, 0, 0, 0⟩ = true := by rw [sizedF, if_neg (by dsimp only; decide), if_neg (by dsimp only; decide), if_neg (by dsimp only; decide)]; rfl
    rw [e, none_any _ 1 _ (by dsimp only; decide), none_any _ 2 _ (by dsimp only; decide), none_zero _ 4, none_zero _ 8, none_zero _ 16]
    rfl
  · show byteOf (rexN true s d) :: 25 :: byteOf (twoN s d) :: [] = byteOf (64 + 8 * 1 + 4 * (s / 8) + (d + 0) / 8) :: byteOf (25 + 0 + 0) :: byteOf (64 * 3 + 8 * (s % 8) + (d + 0) % 8) :: []
    exact list2 (congrArg byteOf (by simp only [rexN, if_true, if_false, Bool.false_eq_true]; omega)) (list2 (rfl) (list2 (congrArg byteOf (by simp only [memN, twoN]; omega)) (rfl)))
theorem form14 {d s c z n k : Int} (h : fitsF ⟨10, 0, 0, true, 1, [33], 3, 0, 2, 1, 0, 0⟩ ⟨k, d, s, c, z, n⟩ = true) : validF ⟨k, d, s, c, z, n⟩ = true ∧ encF ⟨k, d, s, c, z, n⟩ = bytesF ⟨10, 0, 0, true, 1, [33], 3, 0, 2, 1, 0, 0⟩ ⟨k, d, s, c, z, n⟩ := by
  simp only [fitsF, Bool.and_eq_true, decide_eq_true_eq] at h
  obtain ⟨⟨⟨⟨⟨hk, hz⟩, hd⟩, hs⟩, hc⟩, hn⟩ := h
  subst hk; subst hz
  have dr := field_range hd
  have sr := field_range hs
  obtain rfl := fld0 hc
  obtain rfl : n = 0 := of_decide_eq_true hn
  refine ⟨valid_mk (bad0_of rfl dr sr ⟨Int.le_refl _, show (0 : Int) ≤ 15 by decide⟩) ?_, ?_⟩
  · have e : sizedF ⟨10, d, s, 0, 0, 0⟩ = true := by rw [sizedF, if_neg (by dsimp only; decide), if_neg (by dsimp only; decide), if_neg (by dsimp only; decide)]; rfl
    rw [e, none_any _ 1 _ (by dsimp only; decide), none_any _ 2 _ (by dsimp only; decide), none_zero _ 4, none_zero _ 8, none_zero _ 16]
    rfl
  · show byteOf (rexN true s d) :: 33 :: byteOf (twoN s d) :: [] = byteOf (64 + 8 * 1 + 4 * (s / 8) + (d + 0) / 8) :: byteOf (33 + 0 + 0) :: byteOf (64 * 3 + 8 * (s % 8) + (d + 0) % 8) :: []
    exact list2 (congrArg byteOf (by simp only [rexN, if_true, if_false, Bool.false_eq_true]; omega)) (list2 (rfl) (list2 (congrArg byteOf (by simp only [memN, twoN]; omega)) (rfl)))
theorem form15 {d s c z n k : Int} (h : fitsF ⟨11, 0, 0, true, 1, [41], 3, 0, 2, 1, 0, 0⟩ ⟨k, d, s, c, z, n⟩ = true) : validF ⟨k, d, s, c, z, n⟩ = true ∧ encF ⟨k, d, s, c, z, n⟩ = bytesF ⟨11, 0, 0, true, 1, [41], 3, 0, 2, 1, 0, 0⟩ ⟨k, d, s, c, z, n⟩ := by
  simp only [fitsF, Bool.and_eq_true, decide_eq_true_eq] at h
  obtain ⟨⟨⟨⟨⟨hk, hz⟩, hd⟩, hs⟩, hc⟩, hn⟩ := h
  subst hk; subst hz
  have dr := field_range hd
  have sr := field_range hs
  obtain rfl := fld0 hc
  obtain rfl : n = 0 := of_decide_eq_true hn
  refine ⟨valid_mk (bad0_of rfl dr sr ⟨Int.le_refl _, show (0 : Int) ≤ 15 by decide⟩) ?_, ?_⟩
  · have e : sizedF ⟨11, d, s, 0, 0, 0⟩ = true := by rw [sizedF, if_neg (by dsimp only; decide), if_neg (by dsimp only; decide), if_neg (by dsimp only; decide)]; rfl
    rw [e, none_any _ 1 _ (by dsimp only; decide), none_any _ 2 _ (by dsimp only; decide), none_zero _ 4, none_zero _ 8, none_zero _ 16]
    rfl
  · show byteOf (rexN true s d) :: 41 :: byteOf (twoN s d) :: [] = byteOf (64 + 8 * 1 + 4 * (s / 8) + (d + 0) / 8) :: byteOf (41 + 0 + 0) :: byteOf (64 * 3 + 8 * (s % 8) + (d + 0) % 8) :: []
    exact list2 (congrArg byteOf (by simp only [rexN, if_true, if_false, Bool.false_eq_true]; omega)) (list2 (rfl) (list2 (congrArg byteOf (by simp only [memN, twoN]; omega)) (rfl)))
theorem form16 {d s c z n k : Int} (h : fitsF ⟨12, 0, 0, true, 1, [49], 3, 0, 2, 1, 0, 0⟩ ⟨k, d, s, c, z, n⟩ = true) : validF ⟨k, d, s, c, z, n⟩ = true ∧ encF ⟨k, d, s, c, z, n⟩ = bytesF ⟨12, 0, 0, true, 1, [49], 3, 0, 2, 1, 0, 0⟩ ⟨k, d, s, c, z, n⟩ := by
  simp only [fitsF, Bool.and_eq_true, decide_eq_true_eq] at h
  obtain ⟨⟨⟨⟨⟨hk, hz⟩, hd⟩, hs⟩, hc⟩, hn⟩ := h
  subst hk; subst hz
  have dr := field_range hd
  have sr := field_range hs
  obtain rfl := fld0 hc
  obtain rfl : n = 0 := of_decide_eq_true hn
  refine ⟨valid_mk (bad0_of rfl dr sr ⟨Int.le_refl _, show (0 : Int) ≤ 15 by decide⟩) ?_, ?_⟩
  · have e : sizedF ⟨12, d, s, 0, 0, 0⟩ = true := by rw [sizedF, if_neg (by dsimp only; decide), if_neg (by dsimp only; decide), if_neg (by dsimp only; decide)]; rfl
    rw [e, none_any _ 1 _ (by dsimp only; decide), none_any _ 2 _ (by dsimp only; decide), none_zero _ 4, none_zero _ 8, none_zero _ 16]
    rfl
  · show byteOf (rexN true s d) :: 49 :: byteOf (twoN s d) :: [] = byteOf (64 + 8 * 1 + 4 * (s / 8) + (d + 0) / 8) :: byteOf (49 + 0 + 0) :: byteOf (64 * 3 + 8 * (s % 8) + (d + 0) % 8) :: []
    exact list2 (congrArg byteOf (by simp only [rexN, if_true, if_false, Bool.false_eq_true]; omega)) (list2 (rfl) (list2 (congrArg byteOf (by simp only [memN, twoN]; omega)) (rfl)))
theorem form17 {d s c z n k : Int} (h : fitsF ⟨13, 0, 0, true, 1, [57], 3, 0, 2, 1, 0, 0⟩ ⟨k, d, s, c, z, n⟩ = true) : validF ⟨k, d, s, c, z, n⟩ = true ∧ encF ⟨k, d, s, c, z, n⟩ = bytesF ⟨13, 0, 0, true, 1, [57], 3, 0, 2, 1, 0, 0⟩ ⟨k, d, s, c, z, n⟩ := by
  simp only [fitsF, Bool.and_eq_true, decide_eq_true_eq] at h
  obtain ⟨⟨⟨⟨⟨hk, hz⟩, hd⟩, hs⟩, hc⟩, hn⟩ := h
  subst hk; subst hz
  have dr := field_range hd
  have sr := field_range hs
  obtain rfl := fld0 hc
  obtain rfl : n = 0 := of_decide_eq_true hn
  refine ⟨valid_mk (bad0_of rfl dr sr ⟨Int.le_refl _, show (0 : Int) ≤ 15 by decide⟩) ?_, ?_⟩
  · have e : sizedF ⟨13, d, s, 0, 0, 0⟩ = true := by rw [sizedF, if_neg (by dsimp only; decide), if_neg (by dsimp only; decide), if_neg (by dsimp only; decide)]; rfl
    rw [e, none_any _ 1 _ (by dsimp only; decide), none_any _ 2 _ (by dsimp only; decide), none_zero _ 4, none_zero _ 8, none_zero _ 16]
    rfl
  · show byteOf (rexN true s d) :: 57 :: byteOf (twoN s d) :: [] = byteOf (64 + 8 * 1 + 4 * (s / 8) + (d + 0) / 8) :: byteOf (57 + 0 + 0) :: byteOf (64 * 3 + 8 * (s % 8) + (d + 0) % 8) :: []
    exact list2 (congrArg byteOf (by simp only [rexN, if_true, if_false, Bool.false_eq_true]; omega)) (list2 (rfl) (list2 (congrArg byteOf (by simp only [memN, twoN]; omega)) (rfl)))
theorem form18 {d s c z n k : Int} (h : fitsF ⟨14, 0, 0, true, 1, [133], 3, 0, 2, 1, 0, 0⟩ ⟨k, d, s, c, z, n⟩ = true) : validF ⟨k, d, s, c, z, n⟩ = true ∧ encF ⟨k, d, s, c, z, n⟩ = bytesF ⟨14, 0, 0, true, 1, [133], 3, 0, 2, 1, 0, 0⟩ ⟨k, d, s, c, z, n⟩ := by
  simp only [fitsF, Bool.and_eq_true, decide_eq_true_eq] at h
  obtain ⟨⟨⟨⟨⟨hk, hz⟩, hd⟩, hs⟩, hc⟩, hn⟩ := h
  subst hk; subst hz
  have dr := field_range hd
  have sr := field_range hs
  obtain rfl := fld0 hc
  obtain rfl : n = 0 := of_decide_eq_true hn
  refine ⟨valid_mk (bad0_of rfl dr sr ⟨Int.le_refl _, show (0 : Int) ≤ 15 by decide⟩) ?_, ?_⟩
  · have e : sizedF ⟨14, d, s, 0, 0, 0⟩ = true := by rw [sizedF, if_neg (by dsimp only; decide), if_neg (by dsimp only; decide), if_neg (by dsimp only; decide)]; rfl
    rw [e, none_any _ 1 _ (by dsimp only; decide), none_any _ 2 _ (by dsimp only; decide), none_zero _ 4, none_zero _ 8, none_zero _ 16]
    rfl
  · show byteOf (rexN true s d) :: 133 :: byteOf (twoN s d) :: [] = byteOf (64 + 8 * 1 + 4 * (s / 8) + (d + 0) / 8) :: byteOf (133 + 0 + 0) :: byteOf (64 * 3 + 8 * (s % 8) + (d + 0) % 8) :: []
    exact list2 (congrArg byteOf (by simp only [rexN, if_true, if_false, Bool.false_eq_true]; omega)) (list2 (rfl) (list2 (congrArg byteOf (by simp only [memN, twoN]; omega)) (rfl)))
theorem form19 {d s c z n k : Int} (h : fitsF ⟨15, 0, 0, true, 1, [129], 3, 0, 2, 0, 0, 6⟩ ⟨k, d, s, c, z, n⟩ = true) : validF ⟨k, d, s, c, z, n⟩ = true ∧ encF ⟨k, d, s, c, z, n⟩ = bytesF ⟨15, 0, 0, true, 1, [129], 3, 0, 2, 0, 0, 6⟩ ⟨k, d, s, c, z, n⟩ := by
  simp only [fitsF, Bool.and_eq_true, decide_eq_true_eq] at h
  obtain ⟨⟨⟨⟨⟨hk, hz⟩, hd⟩, hs⟩, hc⟩, hn⟩ := h
  subst hk; subst hz
  have dr := field_range hd
  obtain rfl := fld0 hs
  obtain rfl := fld0 hc
  have hn : smallF n = true := hn
  refine ⟨valid_mk (bad0_of rfl dr ⟨Int.le_refl _, show (0 : Int) ≤ 15 by decide⟩ ⟨Int.le_refl _, show (0 : Int) ≤ 15 by decide⟩) ?_, ?_⟩
  · have e : sizedF ⟨15, d, 0, 0, 0, n⟩ = true := by rw [sizedF, if_neg (by dsimp only; decide), if_neg (by dsimp only; decide), if_neg (by dsimp only; decide), hn, Bool.or_true]
    rw [e, none_any _ 1 _ (by dsimp only; decide), none_zero _ 2, none_any _ 4 _ (by dsimp only; decide), none_zero _ 8, none_zero _ 16]
    rfl
  · show byteOf (rexN true 0 d) :: 129 :: byteOf (twoN 0 d) :: immF n 4 = byteOf (64 + 8 * 1 + 4 * (0 / 8) + (d + 0) / 8) :: byteOf (129 + 0 + 0) :: byteOf (64 * 3 + 8 * (0) + (d + 0) % 8) :: leBytes 4 (n % 18446744073709551616)
    exact list2 (congrArg byteOf (by simp only [rexN, if_true, if_false, Bool.false_eq_true]; omega)) (list2 (rfl) (list2 (congrArg byteOf (by simp only [memN, twoN]; omega)) (imm_mod (by decide) n)))
theorem form20 {d s c z n k : Int} (h : fitsF ⟨16, 0, 0, true, 1, [129], 3, 1, 2, 0, 0, 6⟩ ⟨k, d, s, c, z, n⟩ = true) : validF ⟨k, d, s, c, z, n⟩ = true ∧ encF ⟨k, d, s, c, z, n⟩ = bytesF ⟨16, 0, 0, true, 1, [129], 3, 1, 2, 0, 0, 6⟩ ⟨k, d, s, c, z, n⟩ := by
  simp only [fitsF, Bool.and_eq_true, decide_eq_true_eq] at h
  obtain ⟨⟨⟨⟨⟨hk, hz⟩, hd⟩, hs⟩, hc⟩, hn⟩ := h
  subst hk; subst hz
  have dr := field_range hd
  obtain rfl := fld0 hs
  obtain rfl := fld0 hc
  have hn : smallF n = true := hn
  refine ⟨valid_mk (bad0_of rfl dr ⟨Int.le_refl _, show (0 : Int) ≤ 15 by decide⟩ ⟨Int.le_refl _, show (0 : Int) ≤ 15 by decide⟩) ?_, ?_⟩
  · have e : sizedF ⟨16, d, 0, 0, 0, n⟩ = true := by rw [sizedF, if_neg (by dsimp only; decide), if_neg (by dsimp only; decide), if_neg (by dsimp only; decide), hn, Bool.or_true]
    rw [e, none_any _ 1 _ (by dsimp only; decide), none_zero _ 2, none_any _ 4 _ (by dsimp only; decide), none_zero _ 8, none_zero _ 16]
    rfl
  · show byteOf (rexN true 0 d) :: 129 :: byteOf (twoN 1 d) :: immF n 4 = byteOf (64 + 8 * 1 + 4 * (0 / 8) + (d + 0) / 8) :: byteOf (129 + 0 + 0) :: byteOf (64 * 3 + 8 * (1) + (d + 0) % 8) :: leBytes 4 (n % 18446744073709551616)
    exact list2 (congrArg byteOf (by simp only [rexN, if_true, if_false, Bool.false_eq_true]; omega)) (list2 (rfl) (list2 (congrArg byteOf (by simp only [memN, twoN]; omega)) (imm_mod (by decide) n)))
theorem form21 {d s c z n k : Int} (h : fitsF ⟨17, 0, 0, true, 1, [129], 3, 4, 2, 0, 0, 6⟩ ⟨k, d, s, c, z, n⟩ = true) : validF ⟨k, d, s, c, z, n⟩ = true ∧ encF ⟨k, d, s, c, z, n⟩ = bytesF ⟨17, 0, 0, true, 1, [129], 3, 4, 2, 0, 0, 6⟩ ⟨k, d, s, c, z, n⟩ := by
  simp only [fitsF, Bool.and_eq_true, decide_eq_true_eq] at h
  obtain ⟨⟨⟨⟨⟨hk, hz⟩, hd⟩, hs⟩, hc⟩, hn⟩ := h
  subst hk; subst hz
  have dr := field_range hd
  obtain rfl := fld0 hs
  obtain rfl := fld0 hc
  have hn : smallF n = true := hn
  refine ⟨valid_mk (bad0_of rfl dr ⟨Int.le_refl _, show (0 : Int) ≤ 15 by decide⟩ ⟨Int.le_refl _, show (0 : Int) ≤ 15 by decide⟩) ?_, ?_⟩
  · have e : sizedF ⟨17, d, 0, 0, 0, n⟩ = true := by rw [sizedF, if_neg (by dsimp only; decide), if_neg (by dsimp only; decide), if_neg (by dsimp only; decide), hn, Bool.or_true]
    rw [e, none_any _ 1 _ (by dsimp only; decide), none_zero _ 2, none_any _ 4 _ (by dsimp only; decide), none_zero _ 8, none_zero _ 16]
    rfl
  · show byteOf (rexN true 0 d) :: 129 :: byteOf (twoN 4 d) :: immF n 4 = byteOf (64 + 8 * 1 + 4 * (0 / 8) + (d + 0) / 8) :: byteOf (129 + 0 + 0) :: byteOf (64 * 3 + 8 * (4) + (d + 0) % 8) :: leBytes 4 (n % 18446744073709551616)
    exact list2 (congrArg byteOf (by simp only [rexN, if_true, if_false, Bool.false_eq_true]; omega)) (list2 (rfl) (list2 (congrArg byteOf (by simp only [memN, twoN]; omega)) (imm_mod (by decide) n)))
theorem form22 {d s c z n k : Int} (h : fitsF ⟨18, 0, 0, true, 1, [129], 3, 5, 2, 0, 0, 6⟩ ⟨k, d, s, c, z, n⟩ = true) : validF ⟨k, d, s, c, z, n⟩ = true ∧ encF ⟨k, d, s, c, z, n⟩ = bytesF ⟨18, 0, 0, true, 1, [129], 3, 5, 2, 0, 0, 6⟩ ⟨k, d, s, c, z, n⟩ := by
  simp only [fitsF, Bool.and_eq_true, decide_eq_true_eq] at h
  obtain ⟨⟨⟨⟨⟨hk, hz⟩, hd⟩, hs⟩, hc⟩, hn⟩ := h
  subst hk; subst hz
  have dr := field_range hd
  obtain rfl := fld0 hs
  obtain rfl := fld0 hc
  have hn : smallF n = true := hn
  refine ⟨valid_mk (bad0_of rfl dr ⟨Int.le_refl _, show (0 : Int) ≤ 15 by decide⟩ ⟨Int.le_refl _, show (0 : Int) ≤ 15 by decide⟩) ?_, ?_⟩
  · have e : sizedF ⟨18, d, 0, 0, 0, n⟩ = true := by rw [sizedF, if_neg (by dsimp only; decide), if_neg (by dsimp only; decide), if_neg (by dsimp only; decide), hn, Bool.or_true]
    rw [e, none_any _ 1 _ (by dsimp only; decide), none_zero _ 2, none_any _ 4 _ (by dsimp only; decide), none_zero _ 8, none_zero _ 16]
    rfl
  · show byteOf (rexN true 0 d) :: 129 :: byteOf (twoN 5 d) :: immF n 4 = byteOf (64 + 8 * 1 + 4 * (0 / 8) + (d + 0) / 8) :: byteOf (129 + 0 + 0) :: byteOf (64 * 3 + 8 * (5) + (d + 0) % 8) :: leBytes 4 (n % 18446744073709551616)
    exact list2 (congrArg byteOf (by simp only [rexN, if_true, if_false, Bool.false_eq_true]; omega)) (list2 (rfl) (list2 (congrArg byteOf (by simp only [memN, twoN]; omega)) (imm_mod (by decide) n)))
theorem form23 {d s c z n k : Int} (h : fitsF ⟨19, 0, 0, true, 1, [129], 3, 6, 2, 0, 0, 6⟩ ⟨k, d, s, c, z, n⟩ = true) : validF ⟨k, d, s, c, z, n⟩ = true ∧ encF ⟨k, d, s, c, z, n⟩ = bytesF ⟨19, 0, 0, true, 1, [129], 3, 6, 2, 0, 0, 6⟩ ⟨k, d, s, c, z, n⟩ := by
  simp only [fitsF, Bool.and_eq_true, decide_eq_true_eq] at h
  obtain ⟨⟨⟨⟨⟨hk, hz⟩, hd⟩, hs⟩, hc⟩, hn⟩ := h
  subst hk; subst hz
  have dr := field_range hd
  obtain rfl := fld0 hs
  obtain rfl := fld0 hc
  have hn : smallF n = true := hn
  refine ⟨valid_mk (bad0_of rfl dr ⟨Int.le_refl _, show (0 : Int) ≤ 15 by decide⟩ ⟨Int.le_refl _, show (0 : Int) ≤ 15 by decide⟩) ?_, ?_⟩
  · have e : sizedF ⟨19, d, 0, 0, 0, n⟩ = true := by rw [sizedF, if_neg (by dsimp only; decide), if_neg (by dsimp only; decide), if_neg (by dsimp only; decide), hn, Bool.or_true]
    rw [e, none_any _ 1 _ (by dsimp only; decide), none_zero _ 2, none_any _ 4 _ (by dsimp only; decide), none_zero _ 8, none_zero _ 16]
    rfl
  · show byteOf (rexN true 0 d) :: 129 :: byteOf (twoN 6 d) :: immF n 4 = byteOf (64 + 8 * 1 + 4 * (0 / 8) + (d + 0) / 8) :: byteOf (129 + 0 + 0) :: byteOf (64 * 3 + 8 * (6) + (d + 0) % 8) :: leBytes 4 (n % 18446744073709551616)
    exact list2 (congrArg byteOf (by simp only [rexN, if_true, if_false, Bool.false_eq_true]; omega)) (list2 (rfl) (list2 (congrArg byteOf (by simp only [memN, twoN]; omega)) (imm_mod (by decide) n)))
theorem form24 {d s c z n k : Int} (h : fitsF ⟨20, 0, 0, true, 1, [129], 3, 7, 2, 0, 0, 6⟩ ⟨k, d, s, c, z, n⟩ = true) : validF ⟨k, d, s, c, z, n⟩ = true ∧ encF ⟨k, d, s, c, z, n⟩ = bytesF ⟨20, 0, 0, true, 1, [129], 3, 7, 2, 0, 0, 6⟩ ⟨k, d, s, c, z, n⟩ := by
  simp only [fitsF, Bool.and_eq_true, decide_eq_true_eq] at h
  obtain ⟨⟨⟨⟨⟨hk, hz⟩, hd⟩, hs⟩, hc⟩, hn⟩ := h
  subst hk; subst hz
  have dr := field_range hd
  obtain rfl := fld0 hs
  obtain rfl := fld0 hc
  have hn : smallF n = true := hn
  refine ⟨valid_mk (bad0_of rfl dr ⟨Int.le_refl _, show (0 : Int) ≤ 15 by decide⟩ ⟨Int.le_refl _, show (0 : Int) ≤ 15 by decide⟩) ?_, ?_⟩
  · have e : sizedF ⟨20, d, 0, 0, 0, n⟩ = true := by rw [sizedF, if_neg (by dsimp only; decide), if_neg (by dsimp only; decide), if_neg (by dsimp only; decide), hn, Bool.or_true]
    rw [e, none_any _ 1 _ (by dsimp only; decide), none_zero _ 2, none_any _ 4 _ (by dsimp only; decide), none_zero _ 8, none_zero _ 16]
    rfl
  · show byteOf (rexN true 0 d) :: 129 :: byteOf (twoN 7 d) :: immF n 4 = byteOf (64 + 8 * 1 + 4 * (0 / 8) + (d + 0) / 8) :: byteOf (129 + 0 + 0) :: byteOf (64 * 3 + 8 * (7) + (d + 0) % 8) :: leBytes 4 (n % 18446744073709551616)
    exact list2 (congrArg byteOf (by simp only [rexN, if_true, if_false, Bool.false_eq_true]; omega)) (list2 (rfl) (list2 (congrArg byteOf (by simp only [memN, twoN]; omega)) (imm_mod (by decide) n)))
theorem form25 {d s c z n k : Int} (h : fitsF ⟨21, 0, 0, true, 1, [15, 175], 3, 0, 1, 2, 0, 0⟩ ⟨k, d, s, c, z, n⟩ = true) : validF ⟨k, d, s, c, z, n⟩ = true ∧ encF ⟨k, d, s, c, z, n⟩ = bytesF ⟨21, 0, 0, true, 1, [15, 175], 3, 0, 1, 2, 0, 0⟩ ⟨k, d, s, c, z, n⟩ := by
  simp only [fitsF, Bool.and_eq_true, decide_eq_true_eq] at h
  obtain ⟨⟨⟨⟨⟨hk, hz⟩, hd⟩, hs⟩, hc⟩, hn⟩ := h
  subst hk; subst hz
  have dr := field_range hd
  have sr := field_range hs
  obtain rfl := fld0 hc
  obtain rfl : n = 0 := of_decide_eq_true hn
  refine ⟨valid_mk (bad0_of rfl dr sr ⟨Int.le_refl _, show (0 : Int) ≤ 15 by decide⟩) ?_, ?_⟩
  · have e : sizedF ⟨21, d, s, 0, 0, 0⟩ = true := by rw [sizedF, if_neg (by dsimp only; decide), if_neg (by dsimp only; decide), if_neg (by dsimp only; decide)]; rfl
    rw [e, none_any _ 1 _ (by dsimp only; decide), none_any _ 2 _ (by dsimp only; decide), none_zero _ 4, none_zero _ 8, none_zero _ 16]
    rfl
  · show byteOf (rexN true d s) :: 15 :: 175 :: byteOf (twoN d s) :: [] = byteOf (64 + 8 * 1 + 4 * (d / 8) + (s + 0) / 8) :: byteOf (15 + 0 + 0) :: byteOf (175 + 0 + 0) :: byteOf (64 * 3 + 8 * (d % 8) + (s + 0) % 8) :: []
    exact list2 (congrArg byteOf (by simp only [rexN, if_true, if_false, Bool.false_eq_true]; omega)) (list2 (rfl) (list2 (rfl) (list2 (congrArg byteOf (by simp only [memN, twoN]; omega)) (rfl))))
theorem form26 {d s c z n k : Int} (h : fitsF ⟨22, 0, 0, true, 1, [247], 3, 4, 2, 0, 0, 0⟩ ⟨k, d, s, c, z, n⟩ = true) : validF ⟨k, d, s, c, z, n⟩ = true ∧ encF ⟨k, d, s, c, z, n⟩ = bytesF ⟨22, 0, 0, true, 1, [247], 3, 4, 2, 0, 0, 0⟩ ⟨k, d, s, c, z, n⟩ := by
  simp only [fitsF, Bool.and_eq_true, decide_eq_true_eq] at h
  obtain ⟨⟨⟨⟨⟨hk, hz⟩, hd⟩, hs⟩, hc⟩, hn⟩ := h
  subst hk; subst hz
  have dr := field_range hd
  obtain rfl := fld0 hs
  obtain rfl := fld0 hc
  obtain rfl : n = 0 := of_decide_eq_true hn
  refine ⟨valid_mk (bad0_of rfl dr ⟨Int.le_refl _, show (0 : Int) ≤ 15 by decide⟩ ⟨Int.le_refl _, show (0 : Int) ≤ 15 by decide⟩) ?_, ?_⟩
  · have e : sizedF ⟨22, d, 0, 0, 0, 0⟩ = true := by rw [sizedF, if_neg (by dsimp only; decide), if_neg (by dsimp only; decide), if_neg (by dsimp only; decide)]; rfl
    rw [e, none_any _ 1 _ (by dsimp only; decide), none_zero _ 2, none_zero _ 4, none_zero _ 8, none_zero _ 16]
    rfl
  · show byteOf (rexN true 0 d) :: 247 :: byteOf (twoN 4 d) :: [] = byteOf (64 + 8 * 1 + 4 * (0 / 8) + (d + 0) / 8) :: byteOf (247 + 0 + 0) :: byteOf (64 * 3 + 8 * (4) + (d + 0) % 8) :: []
    exact list2 (congrArg byteOf (by simp only [rexN, if_true, if_false, Bool.false_eq_true]; omega)) (list2 (rfl) (list2 (congrArg byteOf (by simp only [memN, twoN]; omega)) (rfl)))
theorem form27 {d s c z n k : Int} (h : fitsF ⟨23, 0, 0, true, 1, [247], 3, 6, 2, 0, 0, 0⟩ ⟨k, d, s, c, z, n⟩ = true) : validF ⟨k, d, s, c, z, n⟩ = true ∧ encF ⟨k, d, s, c, z, n⟩ = bytesF ⟨23, 0, 0, true, 1, [247], 3, 6, 2, 0, 0, 0⟩ ⟨k, d, s, c, z, n⟩ := by
  simp only [fitsF, Bool.and_eq_true, decide_eq_true_eq] at h
  obtain ⟨⟨⟨⟨⟨hk, hz⟩, hd⟩, hs⟩, hc⟩, hn⟩ := h
  subst hk; subst hz
  have dr := field_range hd
  obtain rfl := fld0 hs
  obtain rfl := fld0 hc
  obtain rfl : n = 0 := of_decide_eq_true hn
  refine ⟨valid_mk (bad0_of rfl dr ⟨Int.le_refl _, show (0 : Int) ≤ 15 by decide⟩ ⟨Int.le_refl _, show (0 : Int) ≤ 15 by decide⟩) ?_, ?_⟩
  · have e : sizedF ⟨23, d, 0, 0, 0, 0⟩ = true := by rw [sizedF, if_neg (by dsimp only; decide), if_neg (by dsimp only; decide), if_neg (by dsimp only; decide)]; rfl
    rw [e, none_any _ 1 _ (by dsimp only; decide), none_zero _ 2, none_zero _ 4, none_zero _ 8, none_zero _ 16]
    rfl
  · show byteOf (rexN true 0 d) :: 247 :: byteOf (twoN 6 d) :: [] = byteOf (64 + 8 * 1 + 4 * (0 / 8) + (d + 0) / 8) :: byteOf (247 + 0 + 0) :: byteOf (64 * 3 + 8 * (6) + (d + 0) % 8) :: []
    exact list2 (congrArg byteOf (by simp only [rexN, if_true, if_false, Bool.false_eq_true]; omega)) (list2 (rfl) (list2 (congrArg byteOf (by simp only [memN, twoN]; omega)) (rfl)))
theorem form28 {d s c z n k : Int} (h : fitsF ⟨24, 0, 0, true, 1, [247], 3, 3, 2, 0, 0, 0⟩ ⟨k, d, s, c, z, n⟩ = true) : validF ⟨k, d, s, c, z, n⟩ = true ∧ encF ⟨k, d, s, c, z, n⟩ = bytesF ⟨24, 0, 0, true, 1, [247], 3, 3, 2, 0, 0, 0⟩ ⟨k, d, s, c, z, n⟩ := by
  simp only [fitsF, Bool.and_eq_true, decide_eq_true_eq] at h
  obtain ⟨⟨⟨⟨⟨hk, hz⟩, hd⟩, hs⟩, hc⟩, hn⟩ := h
  subst hk; subst hz
  have dr := field_range hd
  obtain rfl := fld0 hs
  obtain rfl := fld0 hc
  obtain rfl : n = 0 := of_decide_eq_true hn
  refine ⟨valid_mk (bad0_of rfl dr ⟨Int.le_refl _, show (0 : Int) ≤ 15 by decide⟩ ⟨Int.le_refl _, show (0 : Int) ≤ 15 by decide⟩) ?_, ?_⟩
  · have e : sizedF ⟨24, d, 0, 0, 0, 0⟩ = true := by rw [sizedF, if_neg (by dsimp only; decide), if_neg (by dsimp only; decide), if_neg (by dsimp only; decide)]; rfl
    rw [e, none_any _ 1 _ (by dsimp only; decide), none_zero _ 2, none_zero _ 4, none_zero _ 8, none_zero _ 16]
    rfl
  · show byteOf (rexN true 0 d) :: 247 :: byteOf (twoN 3 d) :: [] = byteOf (64 + 8 * 1 + 4 * (0 / 8) + (d + 0) / 8) :: byteOf (247 + 0 + 0) :: byteOf (64 * 3 + 8 * (3) + (d + 0) % 8) :: []
    exact list2 (congrArg byteOf (by simp only [rexN, if_true, if_false, Bool.false_eq_true]; omega)) (list2 (rfl) (list2 (congrArg byteOf (by simp only [memN, twoN]; omega)) (rfl)))
theorem form29 {d s c z n k : Int} (h : fitsF ⟨25, 0, 0, true, 1, [247], 3, 2, 2, 0, 0, 0⟩ ⟨k, d, s, c, z, n⟩ = true) : validF ⟨k, d, s, c, z, n⟩ = true ∧ encF ⟨k, d, s, c, z, n⟩ = bytesF ⟨25, 0, 0, true, 1, [247], 3, 2, 2, 0, 0, 0⟩ ⟨k, d, s, c, z, n⟩ := by
  simp only [fitsF, Bool.and_eq_true, decide_eq_true_eq] at h
  obtain ⟨⟨⟨⟨⟨hk, hz⟩, hd⟩, hs⟩, hc⟩, hn⟩ := h
  subst hk; subst hz
  have dr := field_range hd
  obtain rfl := fld0 hs
  obtain rfl := fld0 hc
  obtain rfl : n = 0 := of_decide_eq_true hn
  refine ⟨valid_mk (bad0_of rfl dr ⟨Int.le_refl _, show (0 : Int) ≤ 15 by decide⟩ ⟨Int.le_refl _, show (0 : Int) ≤ 15 by decide⟩) ?_, ?_⟩
  · have e : sizedF ⟨25, d, 0, 0, 0, 0⟩ = true := by rw [sizedF, if_neg (by dsimp only; decide), if_neg (by dsimp only; decide), if_neg (by dsimp only; decide)]; rfl
    rw [e, none_any _ 1 _ (by dsimp only; decide), none_zero _ 2, none_zero _ 4, none_zero _ 8, none_zero _ 16]
    rfl
  · show byteOf (rexN true 0 d) :: 247 :: byteOf (twoN 2 d) :: [] = byteOf (64 + 8 * 1 + 4 * (0 / 8) + (d + 0) / 8) :: byteOf (247 + 0 + 0) :: byteOf (64 * 3 + 8 * (2) + (d + 0) % 8) :: []
    exact list2 (congrArg byteOf (by simp only [rexN, if_true, if_false, Bool.false_eq_true]; omega)) (list2 (rfl) (list2 (congrArg byteOf (by simp only [memN, twoN]; omega)) (rfl)))
theorem form30 {d s c z n k : Int} (h : fitsF ⟨26, 0, 0, true, 1, [211], 3, 4, 2, 0, 0, 0⟩ ⟨k, d, s, c, z, n⟩ = true) : validF ⟨k, d, s, c, z, n⟩ = true ∧ encF ⟨k, d, s, c, z, n⟩ = bytesF ⟨26, 0, 0, true, 1, [211], 3, 4, 2, 0, 0, 0⟩ ⟨k, d, s, c, z, n⟩ := by
  simp only [fitsF, Bool.and_eq_true, decide_eq_true_eq] at h
  obtain ⟨⟨⟨⟨⟨hk, hz⟩, hd⟩, hs⟩, hc⟩, hn⟩ := h
  subst hk; subst hz
  have dr := field_range hd
  obtain rfl := fld0 hs
  obtain rfl := fld0 hc
  obtain rfl : n = 0 := of_decide_eq_true hn
  refine ⟨valid_mk (bad0_of rfl dr ⟨Int.le_refl _, show (0 : Int) ≤ 15 by decide⟩ ⟨Int.le_refl _, show (0 : Int) ≤ 15 by decide⟩) ?_, ?_⟩
  · have e : sizedF ⟨26, d, 0, 0, 0, 0⟩ = true := by rw [sizedF, if_neg (by dsimp only; decide), if_neg (by dsimp only; decide), if_neg (by dsimp only; decide)]; rfl
    rw [e, none_any _ 1 _ (by dsimp only; decide), none_zero _ 2, none_zero _ 4, none_zero _ 8, none_zero _ 16]
    rfl
  · show byteOf (rexN true 0 d) :: 211 :: byteOf (twoN 4 d) :: [] = byteOf (64 + 8 * 1 + 4 * (0 / 8) + (d + 0) / 8) :: byteOf (211 + 0 + 0) :: byteOf (64 * 3 + 8 * (4) + (d + 0) % 8) :: []
    exact list2 (congrArg byteOf (by simp only [rexN, if_true, if_false, Bool.false_eq_true]; omega)) (list2 (rfl) (list2 (congrArg byteOf (by simp only [memN, twoN]; omega)) (rfl)))
theorem form31 {d s c z n k : Int} (h : fitsF ⟨27, 0, 0, true, 1, [211], 3, 5, 2, 0, 0, 0⟩ ⟨k, d, s, c, z, n⟩ = true) : validF ⟨k, d, s, c, z, n⟩ = true ∧ encF ⟨k, d, s, c, z, n⟩ = bytesF ⟨27, 0, 0, true, 1, [211], 3, 5, 2, 0, 0, 0⟩ ⟨k, d, s, c, z, n⟩ := by
  simp only [fitsF, Bool.and_eq_true, decide_eq_true_eq] at h
  obtain ⟨⟨⟨⟨⟨hk, hz⟩, hd⟩, hs⟩, hc⟩, hn⟩ := h
  subst hk; subst hz
  have dr := field_range hd
  obtain rfl := fld0 hs
  obtain rfl := fld0 hc
  obtain rfl : n = 0 := of_decide_eq_true hn
  refine ⟨valid_mk (bad0_of rfl dr ⟨Int.le_refl _, show (0 : Int) ≤ 15 by decide⟩ ⟨Int.le_refl _, show (0 : Int) ≤ 15 by decide⟩) ?_, ?_⟩
  · have e : sizedF ⟨27, d, 0, 0, 0, 0⟩ = true := by rw [sizedF, if_neg (by dsimp only; decide), if_neg (by dsimp only; decide), if_neg (by dsimp only; decide)]; rfl
    rw [e, none_any _ 1 _ (by dsimp only; decide), none_zero _ 2, none_zero _ 4, none_zero _ 8, none_zero _ 16]
    rfl
  · show byteOf (rexN true 0 d) :: 211 :: byteOf (twoN 5 d) :: [] = byteOf (64 + 8 * 1 + 4 * (0 / 8) + (d + 0) / 8) :: byteOf (211 + 0 + 0) :: byteOf (64 * 3 + 8 * (5) + (d + 0) % 8) :: []
    exact list2 (congrArg byteOf (by simp only [rexN, if_true, if_false, Bool.false_eq_true]; omega)) (list2 (rfl) (list2 (congrArg byteOf (by simp only [memN, twoN]; omega)) (rfl)))
theorem form32 {d s c z n k : Int} (h : fitsF ⟨28, 0, 0, true, 1, [211], 3, 7, 2, 0, 0, 0⟩ ⟨k, d, s, c, z, n⟩ = true) : validF ⟨k, d, s, c, z, n⟩ = true ∧ encF ⟨k, d, s, c, z, n⟩ = bytesF ⟨28, 0, 0, true, 1, [211], 3, 7, 2, 0, 0, 0⟩ ⟨k, d, s, c, z, n⟩ := by
  simp only [fitsF, Bool.and_eq_true, decide_eq_true_eq] at h
  obtain ⟨⟨⟨⟨⟨hk, hz⟩, hd⟩, hs⟩, hc⟩, hn⟩ := h
  subst hk; subst hz
  have dr := field_range hd
  obtain rfl := fld0 hs
  obtain rfl := fld0 hc
  obtain rfl : n = 0 := of_decide_eq_true hn
  refine ⟨valid_mk (bad0_of rfl dr ⟨Int.le_refl _, show (0 : Int) ≤ 15 by decide⟩ ⟨Int.le_refl _, show (0 : Int) ≤ 15 by decide⟩) ?_, ?_⟩
  · have e : sizedF ⟨28, d, 0, 0, 0, 0⟩ = true := by rw [sizedF, if_neg (by dsimp only; decide), if_neg (by dsimp only; decide), if_neg (by dsimp only; decide)]; rfl
    rw [e, none_any _ 1 _ (by dsimp only; decide), none_zero _ 2, none_zero _ 4, none_zero _ 8, none_zero _ 16]
    rfl
  · show byteOf (rexN true 0 d) :: 211 :: byteOf (twoN 7 d) :: [] = byteOf (64 + 8 * 1 + 4 * (0 / 8) + (d + 0) / 8) :: byteOf (211 + 0 + 0) :: byteOf (64 * 3 + 8 * (7) + (d + 0) % 8) :: []
    exact list2 (congrArg byteOf (by simp only [rexN, if_true, if_false, Bool.false_eq_true]; omega)) (list2 (rfl) (list2 (congrArg byteOf (by simp only [memN, twoN]; omega)) (rfl)))
theorem form33 {d s c z n k : Int} (h : fitsF ⟨29, 0, 0, true, 1, [193], 3, 4, 2, 0, 0, 5⟩ ⟨k, d, s, c, z, n⟩ = true) : validF ⟨k, d, s, c, z, n⟩ = true ∧ encF ⟨k, d, s, c, z, n⟩ = bytesF ⟨29, 0, 0, true, 1, [193], 3, 4, 2, 0, 0, 5⟩ ⟨k, d, s, c, z, n⟩ := by
  simp only [fitsF, Bool.and_eq_true, decide_eq_true_eq] at h
  obtain ⟨⟨⟨⟨⟨hk, hz⟩, hd⟩, hs⟩, hc⟩, hn⟩ := h
  subst hk; subst hz
  have dr := field_range hd
  obtain rfl := fld0 hs
  obtain rfl := fld0 hc
  have hn : inF n 0 63 = true := hn
  refine ⟨valid_mk (bad0_of rfl dr ⟨Int.le_refl _, show (0 : Int) ≤ 15 by decide⟩ ⟨Int.le_refl _, show (0 : Int) ≤ 15 by decide⟩) ?_, ?_⟩
  · have e : sizedF ⟨29, d, 0, 0, 0, n⟩ = true := by rw [sizedF, if_neg (by dsimp only; decide), if_neg (by dsimp only; decide), if_pos (by dsimp only; decide), hn]
    rw [e, none_any _ 1 _ (by dsimp only; decide), none_zero _ 2, none_any _ 4 _ (by dsimp only; decide), none_zero _ 8, none_zero _ 16]
    rfl
  · show byteOf (rexN true 0 d) :: 193 :: byteOf (twoN 4 d) :: immF n 1 = byteOf (64 + 8 * 1 + 4 * (0 / 8) + (d + 0) / 8) :: byteOf (193 + 0 + 0) :: byteOf (64 * 3 + 8 * (4) + (d + 0) % 8) :: leBytes 1 (n % 18446744073709551616)
    exact list2 (congrArg byteOf (by simp only [rexN, if_true, if_false, Bool.false_eq_true]; omega)) (list2 (rfl) (list2 (congrArg byteOf (by simp only [memN, twoN]; omega)) (imm_mod (by decide) n)))
theorem form34 {d s c z n k : Int} (h : fitsF ⟨30, 0, 0, true, 1, [193], 3, 5, 2, 0, 0, 5⟩ ⟨k, d, s, c, z, n⟩ = true) : validF ⟨k, d, s, c, z, n⟩ = true ∧ encF ⟨k, d, s, c, z, n⟩ = bytesF ⟨30, 0, 0, true, 1, [193], 3, 5, 2, 0, 0, 5⟩ ⟨k, d, s, c, z, n⟩ := by
  simp only [fitsF, Bool.and_eq_true, decide_eq_true_eq] at h
  obtain ⟨⟨⟨⟨⟨hk, hz⟩, hd⟩, hs⟩, hc⟩, hn⟩ := h
  subst hk; subst hz
  have dr := field_range hd
  obtain rfl := fld0 hs
  obtain rfl := fld0 hc
  have hn : inF n 0 63 = true := hn
  refine ⟨valid_mk (bad0_of rfl dr ⟨Int.le_refl _, show (0 : Int) ≤ 15 by decide⟩ ⟨Int.le_refl _, show (0 : Int) ≤ 15 by decide⟩) ?_, ?_⟩
  · have e : sizedF ⟨30, d, 0, 0, 0, n⟩ = true := by rw [sizedF, if_neg (by dsimp only; decide), if_neg (by dsimp only; decide), if_pos (by dsimp only; decide), hn]
    rw [e, none_any _ 1 _ (by dsimp only; decide), none_zero _ 2, none_any _ 4 _ (by dsimp only; decide), none_zero _ 8, none_zero _ 16]
    rfl
  · show byteOf (rexN true 0 d) :: 193 :: byteOf (twoN 5 d) :: immF n 1 = byteOf (64 + 8 * 1 + 4 * (0 / 8) + (d + 0) / 8) :: byteOf (193 + 0 + 0) :: byteOf (64 * 3 + 8 * (5) + (d + 0) % 8) :: leBytes 1 (n % 18446744073709551616)
    exact list2 (congrArg byteOf (by simp only [rexN, if_true, if_false, Bool.false_eq_true]; omega)) (list2 (rfl) (list2 (congrArg byteOf (by simp only [memN, twoN]; omega)) (imm_mod (by decide) n)))
theorem form35 {d s c z n k : Int} (h : fitsF ⟨31, 0, 0, true, 1, [193], 3, 7, 2, 0, 0, 5⟩ ⟨k, d, s, c, z, n⟩ = true) : validF ⟨k, d, s, c, z, n⟩ = true ∧ encF ⟨k, d, s, c, z, n⟩ = bytesF ⟨31, 0, 0, true, 1, [193], 3, 7, 2, 0, 0, 5⟩ ⟨k, d, s, c, z, n⟩ := by
  simp only [fitsF, Bool.and_eq_true, decide_eq_true_eq] at h
  obtain ⟨⟨⟨⟨⟨hk, hz⟩, hd⟩, hs⟩, hc⟩, hn⟩ := h
  subst hk; subst hz
  have dr := field_range hd
  obtain rfl := fld0 hs
  obtain rfl := fld0 hc
  have hn : inF n 0 63 = true := hn
  refine ⟨valid_mk (bad0_of rfl dr ⟨Int.le_refl _, show (0 : Int) ≤ 15 by decide⟩ ⟨Int.le_refl _, show (0 : Int) ≤ 15 by decide⟩) ?_, ?_⟩
  · have e : sizedF ⟨31, d, 0, 0, 0, n⟩ = true := by rw [sizedF, if_neg (by dsimp only; decide), if_neg (by dsimp only; decide), if_pos (by dsimp only; decide), hn]
    rw [e, none_any _ 1 _ (by dsimp only; decide), none_zero _ 2, none_any _ 4 _ (by dsimp only; decide), none_zero _ 8, none_zero _ 16]
    rfl
  · show byteOf (rexN true 0 d) :: 193 :: byteOf (twoN 7 d) :: immF n 1 = byteOf (64 + 8 * 1 + 4 * (0 / 8) + (d + 0) / 8) :: byteOf (193 + 0 + 0) :: byteOf (64 * 3 + 8 * (7) + (d + 0) % 8) :: leBytes 1 (n % 18446744073709551616)
    exact list2 (congrArg byteOf (by simp only [rexN, if_true, if_false, Bool.false_eq_true]; omega)) (list2 (rfl) (list2 (congrArg byteOf (by simp only [memN, twoN]; omega)) (imm_mod (by decide) n)))
theorem form36 {d s c z n k : Int} (h : fitsF ⟨32, 0, 0, true, 0, [15, 144], 3, 0, 2, 0, 4, 0⟩ ⟨k, d, s, c, z, n⟩ = true) : validF ⟨k, d, s, c, z, n⟩ = true ∧ encF ⟨k, d, s, c, z, n⟩ = bytesF ⟨32, 0, 0, true, 0, [15, 144], 3, 0, 2, 0, 4, 0⟩ ⟨k, d, s, c, z, n⟩ := by
  simp only [fitsF, Bool.and_eq_true, decide_eq_true_eq] at h
  obtain ⟨⟨⟨⟨⟨hk, hz⟩, hd⟩, hs⟩, hc⟩, hn⟩ := h
  subst hk; subst hz
  have dr := field_range hd
  obtain rfl := fld0 hs
  have cr := field_range hc
  obtain rfl : n = 0 := of_decide_eq_true hn
  refine ⟨valid_mk (bad0_of rfl dr ⟨Int.le_refl _, show (0 : Int) ≤ 15 by decide⟩ cr) ?_, ?_⟩
  · have e : sizedF ⟨32, d, 0, c, 0, 0⟩ = true := by rw [sizedF, if_neg (by dsimp only; decide), if_neg (by dsimp only; decide), if_neg (by dsimp only; decide)]; rfl
    rw [e, none_any _ 1 _ (by dsimp only; decide), none_zero _ 2, none_zero _ 4, none_any _ 8 _ (by dsimp only; decide), none_zero _ 16]
    rfl
  · show byteOf (rexN false 0 d) :: 15 :: byteOf (144 + c) :: byteOf (twoN 0 d) :: [] = byteOf (64 + 8 * 0 + 4 * (0 / 8) + (d + 0) / 8) :: byteOf (15 + 0 + 0) :: byteOf (144 + c + 0) :: byteOf (64 * 3 + 8 * (0) + (d + 0) % 8) :: []
    exact list2 (congrArg byteOf (by simp only [rexN, if_true, if_false, Bool.false_eq_true]; omega)) (list2 (rfl) (list2 (congrArg byteOf (by omega)) (list2 (congrArg byteOf (by simp only [memN, twoN]; omega)) (rfl))))
theorem form37 {d s c z n k : Int} (h : fitsF ⟨33, 0, 0, true, 1, [15, 182], 3, 0, 1, 2, 0, 0⟩ ⟨k, d, s, c, z, n⟩ = true) : validF ⟨k, d, s, c, z, n⟩ = true ∧ encF ⟨k, d, s, c, z, n⟩ = bytesF ⟨33, 0, 0, true, 1, [15, 182], 3, 0, 1, 2, 0, 0⟩ ⟨k, d, s, c, z, n⟩ := by
  simp only [fitsF, Bool.and_eq_true, decide_eq_true_eq] at h
  obtain ⟨⟨⟨⟨⟨hk, hz⟩, hd⟩, hs⟩, hc⟩, hn⟩ := h
  subst hk; subst hz
  have dr := field_range hd
  have sr := field_range hs
  obtain rfl := fld0 hc
  obtain rfl : n = 0 := of_decide_eq_true hn
  refine ⟨valid_mk (bad0_of rfl dr sr ⟨Int.le_refl _, show (0 : Int) ≤ 15 by decide⟩) ?_, ?_⟩
  · have e : sizedF ⟨33, d, s, 0, 0, 0⟩ = true := by rw [sizedF, if_neg (by dsimp only; decide), if_neg (by dsimp only; decide), if_neg (by dsimp only; decide)]; rfl
    rw [e, none_any _ 1 _ (by dsimp only; decide), none_any _ 2 _ (by dsimp only; decide), none_zero _ 4, none_zero _ 8, none_zero _ 16]
    rfl
  · show byteOf (rexN true d s) :: 15 :: 182 :: byteOf (twoN d s) :: [] = byteOf (64 + 8 * 1 + 4 * (d / 8) + (s + 0) / 8) :: byteOf (15 + 0 + 0) :: byteOf (182 + 0 + 0) :: byteOf (64 * 3 + 8 * (d % 8) + (s + 0) % 8) :: []
    exact list2 (congrArg byteOf (by simp only [rexN, if_true, if_false, Bool.false_eq_true]; omega)) (list2 (rfl) (list2 (rfl) (list2 (congrArg byteOf (by simp only [memN, twoN]; omega)) (rfl))))
theorem form38 {d s c z n k : Int} (h : fitsF ⟨34, 0, 0, true, 1, [15, 64], 3, 0, 1, 2, 4, 0⟩ ⟨k, d, s, c, z, n⟩ = true) : validF ⟨k, d, s, c, z, n⟩ = true ∧ encF ⟨k, d, s, c, z, n⟩ = bytesF ⟨34, 0, 0, true, 1, [15, 64], 3, 0, 1, 2, 4, 0⟩ ⟨k, d, s, c, z, n⟩ := by
  simp only [fitsF, Bool.and_eq_true, decide_eq_true_eq] at h
  obtain ⟨⟨⟨⟨⟨hk, hz⟩, hd⟩, hs⟩, hc⟩, hn⟩ := h
  subst hk; subst hz
  have dr := field_range hd
  have sr := field_range hs
  have cr := field_range hc
  obtain rfl : n = 0 := of_decide_eq_true hn
  refine ⟨valid_mk (bad0_of rfl dr sr cr) ?_, ?_⟩
  · have e : sizedF ⟨34, d, s, c, 0, 0⟩ = true := by rw [sizedF, if_neg (by dsimp only; decide), if_neg (by dsimp only; decide), if_neg (by dsimp only; decide)]; rfl
    rw [e, none_any _ 1 _ (by dsimp only; decide), none_any _ 2 _ (by dsimp only; decide), none_zero _ 4, none_any _ 8 _ (by dsimp only; decide), none_zero _ 16]
    rfl
  · show byteOf (rexN true d s) :: 15 :: byteOf (64 + c) :: byteOf (twoN d s) :: [] = byteOf (64 + 8 * 1 + 4 * (d / 8) + (s + 0) / 8) :: byteOf (15 + 0 + 0) :: byteOf (64 + c + 0) :: byteOf (64 * 3 + 8 * (d % 8) + (s + 0) % 8) :: []
    exact list2 (congrArg byteOf (by simp only [rexN, if_true, if_false, Bool.false_eq_true]; omega)) (list2 (rfl) (list2 (congrArg byteOf (by omega)) (list2 (congrArg byteOf (by simp only [memN, twoN]; omega)) (rfl))))
theorem form39 {d s c z n k : Int} (h : fitsF ⟨35, 1, 0, false, 0, [235], -1, 0, 0, 0, 0, 5⟩ ⟨k, d, s, c, z, n⟩ = true) : validF ⟨k, d, s, c, z, n⟩ = true ∧ encF ⟨k, d, s, c, z, n⟩ = bytesF ⟨35, 1, 0, false, 0, [235], -1, 0, 0, 0, 0, 5⟩ ⟨k, d, s, c, z, n⟩ := by
  simp only [fitsF, Bool.and_eq_true, decide_eq_true_eq] at h
  obtain ⟨⟨⟨⟨⟨hk, hz⟩, hd⟩, hs⟩, hc⟩, hn⟩ := h
  subst hk; subst hz
  obtain rfl := fld0 hd
  obtain rfl := fld0 hs
  obtain rfl := fld0 hc
  have hn : inF n (-128) 127 = true := hn
  refine ⟨valid_mk (bad0_of rfl ⟨Int.le_refl _, show (0 : Int) ≤ 15 by decide⟩ ⟨Int.le_refl _, show (0 : Int) ≤ 15 by decide⟩ ⟨Int.le_refl _, show (0 : Int) ≤ 15 by decide⟩) ?_, ?_⟩
  · have e : sizedF ⟨35, 0, 0, 0, 1, n⟩ = true := by rw [sizedF, if_neg (by dsimp only; decide), if_pos (by dsimp only; decide), hn]; simp
    rw [e, none_zero _ 1, none_zero _ 2, none_any _ 4 _ (by dsimp only; decide), none_zero _ 8, none_any _ 16 _ (by dsimp only; decide)]
    rfl
  · show 235 :: immF n 1 = byteOf (235 + 0 + 0) :: leBytes 1 (n % 18446744073709551616)
    exact list2 (rfl) (imm_mod (by decide) n)
theorem form40 {d s c z n k : Int} (h : fitsF ⟨35, 4, 0, false, 0, [233], -1, 0, 0, 0, 0, 6⟩ ⟨k, d, s, c, z, n⟩ = true) : validF ⟨k, d, s, c, z, n⟩ = true ∧ encF ⟨k, d, s, c, z, n⟩ = bytesF ⟨35, 4, 0, false, 0, [233], -1, 0, 0, 0, 0, 6⟩ ⟨k, d, s, c, z, n⟩ := by
  simp only [fitsF, Bool.and_eq_true, decide_eq_true_eq] at h
  obtain ⟨⟨⟨⟨⟨hk, hz⟩, hd⟩, hs⟩, hc⟩, hn⟩ := h
  subst hk; subst hz
  obtain rfl := fld0 hd
  obtain rfl := fld0 hs
  obtain rfl := fld0 hc
  have hn : smallF n = true := hn
  refine ⟨valid_mk (bad0_of rfl ⟨Int.le_refl _, show (0 : Int) ≤ 15 by decide⟩ ⟨Int.le_refl _, show (0 : Int) ≤ 15 by decide⟩ ⟨Int.le_refl _, show (0 : Int) ≤ 15 by decide⟩) ?_, ?_⟩
  · have e : sizedF ⟨35, 0, 0, 0, 4, n⟩ = true := by rw [sizedF, if_neg (by dsimp only; decide), if_pos (by dsimp only; decide), hn]; simp
    rw [e, none_zero _ 1, none_zero _ 2, none_any _ 4 _ (by dsimp only; decide), none_zero _ 8, none_any _ 16 _ (by dsimp only; decide)]
    rfl
  · show 233 :: immF n 4 = byteOf (233 + 0 + 0) :: leBytes 4 (n % 18446744073709551616)
    exact list2 (rfl) (imm_mod (by decide) n)
theorem form41 {d s c z n k : Int} (h : fitsF ⟨36, 1, 0, false, 0, [112], -1, 0, 0, 0, 4, 5⟩ ⟨k, d, s, c, z, n⟩ = true) : validF ⟨k, d, s, c, z, n⟩ = true ∧ encF ⟨k, d, s, c, z, n⟩ = bytesF ⟨36, 1, 0, false, 0, [112], -1, 0, 0, 0, 4, 5⟩ ⟨k, d, s, c, z, n⟩ := by
  simp only [fitsF, Bool.and_eq_true, decide_eq_true_eq] at h
  obtain ⟨⟨⟨⟨⟨hk, hz⟩, hd⟩, hs⟩, hc⟩, hn⟩ := h
  subst hk; subst hz
  obtain rfl := fld0 hd
  obtain rfl := fld0 hs
  have cr := field_range hc
  have hn : inF n (-128) 127 = true := hn
  refine ⟨valid_mk (bad0_of rfl ⟨Int.le_refl _, show (0 : Int) ≤ 15 by decide⟩ ⟨Int.le_refl _, show (0 : Int) ≤ 15 by decide⟩ cr) ?_, ?_⟩
  · have e : sizedF ⟨36, 0, 0, c, 1, n⟩ = true := by rw [sizedF, if_neg (by dsimp only; decide), if_pos (by dsimp only; decide), hn]; simp
    rw [e, none_zero _ 1, none_zero _ 2, none_any _ 4 _ (by dsimp only; decide), none_any _ 8 _ (by dsimp only; decide), none_any _ 16 _ (by dsimp only; decide)]
    rfl
  · show byteOf (112 + c) :: immF n 1 = byteOf (112 + c + 0) :: leBytes 1 (n % 18446744073709551616)
    exact list2 (congrArg byteOf (by omega)) (imm_mod (by decide) n)
theorem form42 {d s c z n k : Int} (h : fitsF ⟨36, 4, 0, false, 0, [15, 128], -1, 0, 0, 0, 4, 6⟩ ⟨k, d, s, c, z, n⟩ = true) : validF ⟨k, d, s, c, z, n⟩ = true ∧ encF ⟨k, d, s, c, z, n⟩ = bytesF ⟨36, 4, 0, false, 0, [15, 128], -1, 0, 0, 0, 4, 6⟩ ⟨k, d, s, c, z, n⟩ := by
  simp only [fitsF, Bool.and_eq_true, decide_eq_true_eq] at h
  obtain ⟨⟨⟨⟨⟨hk, hz⟩, hd⟩, hs⟩, hc⟩, hn⟩ := h
  subst hk; subst hz
  obtain rfl := fld0 hd
  obtain rfl := fld0 hs
  have cr := field_range hc
  have hn : smallF n = true := hn
  refine ⟨valid_mk (bad0_of rfl ⟨Int.le_refl _, show (0 : Int) ≤ 15 by decide⟩ ⟨Int.le_refl _, show (0 : Int) ≤ 15 by decide⟩ cr) ?_, ?_⟩
  · have e : sizedF ⟨36, 0, 0, c, 4, n⟩ = true := by rw [sizedF, if_neg (by dsimp only; decide), if_pos (by dsimp only; decide), hn]; simp
    rw [e, none_zero _ 1, none_zero _ 2, none_any _ 4 _ (by dsimp only; decide), none_any _ 8 _ (by dsimp only; decide), none_any _ 16 _ (by dsimp only; decide)]
    rfl
  · show 15 :: byteOf (128 + c) :: immF n 4 = byteOf (15 + 0 + 0) :: byteOf (128 + c + 0) :: leBytes 4 (n % 18446744073709551616)
    exact list2 (rfl) (list2 (congrArg byteOf (by omega)) (imm_mod (by decide) n))
theorem form43 {d s c z n k : Int} (h : fitsF ⟨37, 0, 0, false, 0, [232], -1, 0, 0, 0, 0, 6⟩ ⟨k, d, s, c, z, n⟩ = true) : validF ⟨k, d, s, c, z, n⟩ = true ∧ encF ⟨k, d, s, c, z, n⟩ = bytesF ⟨37, 0, 0, false, 0, [232], -1, 0, 0, 0, 0, 6⟩ ⟨k, d, s, c, z, n⟩ := by
  simp only [fitsF, Bool.and_eq_true, decide_eq_true_eq] at h
  obtain ⟨⟨⟨⟨⟨hk, hz⟩, hd⟩, hs⟩, hc⟩, hn⟩ := h
  subst hk; subst hz
  obtain rfl := fld0 hd
  obtain rfl := fld0 hs
  obtain rfl := fld0 hc
  have hn : smallF n = true := hn
  refine ⟨valid_mk (bad0_of rfl ⟨Int.le_refl _, show (0 : Int) ≤ 15 by decide⟩ ⟨Int.le_refl _, show (0 : Int) ≤ 15 by decide⟩ ⟨Int.le_refl _, show (0 : Int) ≤ 15 by decide⟩) ?_, ?_⟩
  · have e : sizedF ⟨37, 0, 0, 0, 0, n⟩ = true := by rw [sizedF, if_neg (by dsimp only; decide), if_neg (by dsimp only; decide), if_neg (by dsimp only; decide), hn, Bool.or_true]
    rw [e, none_zero _ 1, none_zero _ 2, none_any _ 4 _ (by dsimp only; decide), none_zero _ 8, none_zero _ 16]
    rfl
  · show 232 :: immF n 4 = byteOf (232 + 0 + 0) :: leBytes 4 (n % 18446744073709551616)
    exact list2 (rfl) (imm_mod (by decide) n)
theorem form44 {d s c z n k : Int} (h : fitsF ⟨38, 0, 0, true, 0, [255], 3, 2, 2, 0, 0, 0⟩ ⟨k, d, s, c, z, n⟩ = true) : validF ⟨k, d, s, c, z, n⟩ = true ∧ encF ⟨k, d, s, c, z, n⟩ = bytesF ⟨38, 0, 0, true, 0, [255], 3, 2, 2, 0, 0, 0⟩ ⟨k, d, s, c, z, n⟩ := by
  simp only [fitsF, Bool.and_eq_true, decide_eq_true_eq] at h
  obtain ⟨⟨⟨⟨⟨hk, hz⟩, hd⟩, hs⟩, hc⟩, hn⟩ := h
  subst hk; subst hz
  have dr := field_range hd
  obtain rfl := fld0 hs
  obtain rfl := fld0 hc
  obtain rfl : n = 0 := of_decide_eq_true hn
  refine ⟨valid_mk (bad0_of rfl dr ⟨Int.le_refl _, show (0 : Int) ≤ 15 by decide⟩ ⟨Int.le_refl _, show (0 : Int) ≤ 15 by decide⟩) ?_, ?_⟩
  · have e : sizedF ⟨38, d, 0, 0, 0, 0⟩ = true := by rw [sizedF, if_neg (by dsimp only; decide), if_neg (by dsimp only; decide), if_neg (by dsimp only; decide)]; rfl
    rw [e, none_any _ 1 _ (by dsimp only; decide), none_zero _ 2, none_zero _ 4, none_zero _ 8, none_zero _ 16]
    rfl
  · show byteOf (rexN false 0 d) :: 255 :: byteOf (twoN 2 d) :: [] = byteOf (64 + 8 * 0 + 4 * (0 / 8) + (d + 0) / 8) :: byteOf (255 + 0 + 0) :: byteOf (64 * 3 + 8 * (2) + (d + 0) % 8) :: []
    exact list2 (congrArg byteOf (by simp only [rexN, if_true, if_false, Bool.false_eq_true]; omega)) (list2 (rfl) (list2 (congrArg byteOf (by simp only [memN, twoN]; omega)) (rfl)))
theorem form45 {d s c z n k : Int} (h : fitsF ⟨39, 0, 0, true, 0, [255], 3, 4, 2, 0, 0, 0⟩ ⟨k, d, s, c, z, n⟩ = true) : validF ⟨k, d, s, c, z, n⟩ = true ∧ encF ⟨k, d, s, c, z, n⟩ = bytesF ⟨39, 0, 0, true, 0, [255], 3, 4, 2, 0, 0, 0⟩ ⟨k, d, s, c, z, n⟩ := by
  simp only [fitsF, Bool.and_eq_true, decide_eq_true_eq] at h
  obtain ⟨⟨⟨⟨⟨hk, hz⟩, hd⟩, hs⟩, hc⟩, hn⟩ := h
  subst hk; subst hz
  have dr := field_range hd
  obtain rfl := fld0 hs
  obtain rfl := fld0 hc
  obtain rfl : n = 0 := of_decide_eq_true hn
  refine ⟨valid_mk (bad0_of rfl dr ⟨Int.le_refl _, show (0 : Int) ≤ 15 by decide⟩ ⟨Int.le_refl _, show (0 : Int) ≤ 15 by decide⟩) ?_, ?_⟩
  · have e : sizedF ⟨39, d, 0, 0, 0, 0⟩ = true := by rw [sizedF, if_neg (by dsimp only; decide), if_neg (by dsimp only; decide), if_neg (by dsimp only; decide)]; rfl
    rw [e, none_any _ 1 _ (by dsimp only; decide), none_zero _ 2, none_zero _ 4, none_zero _ 8, none_zero _ 16]
    rfl
  · show byteOf (rexN false 0 d) :: 255 :: byteOf (twoN 4 d) :: [] = byteOf (64 + 8 * 0 + 4 * (0 / 8) + (d + 0) / 8) :: byteOf (255 + 0 + 0) :: byteOf (64 * 3 + 8 * (4) + (d + 0) % 8) :: []
    exact list2 (congrArg byteOf (by simp only [rexN, if_true, if_false, Bool.false_eq_true]; omega)) (list2 (rfl) (list2 (congrArg byteOf (by simp only [memN, twoN]; omega)) (rfl)))
theorem form46 {d s c z n k : Int} (h : fitsF ⟨40, 0, 0, false, 0, [195], -1, 0, 0, 0, 0, 0⟩ ⟨k, d, s, c, z, n⟩ = true) : validF ⟨k, d, s, c, z, n⟩ = true ∧ encF ⟨k, d, s, c, z, n⟩ = bytesF ⟨40, 0, 0, false, 0, [195], -1, 0, 0, 0, 0, 0⟩ ⟨k, d, s, c, z, n⟩ := by
  simp only [fitsF, Bool.and_eq_true, decide_eq_true_eq] at h
  obtain ⟨⟨⟨⟨⟨hk, hz⟩, hd⟩, hs⟩, hc⟩, hn⟩ := h
  subst hk; subst hz
  obtain rfl := fld0 hd
  obtain rfl := fld0 hs
  obtain rfl := fld0 hc
  obtain rfl : n = 0 := of_decide_eq_true hn
  refine ⟨valid_mk (bad0_of rfl ⟨Int.le_refl _, show (0 : Int) ≤ 15 by decide⟩ ⟨Int.le_refl _, show (0 : Int) ≤ 15 by decide⟩ ⟨Int.le_refl _, show (0 : Int) ≤ 15 by decide⟩) ?_, ?_⟩
  · have e : sizedF ⟨40, 0, 0, 0, 0, 0⟩ = true := by rw [sizedF, if_neg (by dsimp only; decide), if_neg (by dsimp only; decide), if_neg (by dsimp only; decide)]; rfl
    rw [e, none_zero _ 1, none_zero _ 2, none_zero _ 4, none_zero _ 8, none_zero _ 16]
    rfl
  · show 195 :: [] = byteOf (195 + 0 + 0) :: []
    exact list2 (rfl) (rfl)
theorem form47 {d s c z n k : Int} (h : fitsF ⟨41, 0, 0, true, 0, [80], -1, 0, 3, 0, 0, 0⟩ ⟨k, d, s, c, z, n⟩ = true) : validF ⟨k, d, s, c, z, n⟩ = true ∧ encF ⟨k, d, s, c, z, n⟩ = bytesF ⟨41, 0, 0, true, 0, [80], -1, 0, 3, 0, 0, 0⟩ ⟨k, d, s, c, z, n⟩ := by
  simp only [fitsF, Bool.and_eq_true, decide_eq_true_eq] at h
  obtain ⟨⟨⟨⟨⟨hk, hz⟩, hd⟩, hs⟩, hc⟩, hn⟩ := h
  subst hk; subst hz
  have dr := field_range hd
  obtain rfl := fld0 hs
  obtain rfl := fld0 hc
  obtain rfl : n = 0 := of_decide_eq_true hn
  refine ⟨valid_mk (bad0_of rfl dr ⟨Int.le_refl _, show (0 : Int) ≤ 15 by decide⟩ ⟨Int.le_refl _, show (0 : Int) ≤ 15 by decide⟩) ?_, ?_⟩
  · have e : sizedF ⟨41, d, 0, 0, 0, 0⟩ = true := by rw [sizedF, if_neg (by dsimp only; decide), if_neg (by dsimp only; decide), if_neg (by dsimp only; decide)]; rfl
    rw [e, none_any _ 1 _ (by dsimp only; decide), none_zero _ 2, none_zero _ 4, none_zero _ 8, none_zero _ 16]
    rfl
  · show byteOf (rexN false 0 d) :: byteOf (80 + d % 8) :: [] = byteOf (64 + 8 * 0 + 4 * (0 / 8) + (0 + d) / 8) :: byteOf (80 + 0 + d % 8) :: []
    exact list2 (congrArg byteOf (by simp only [rexN, if_true, if_false, Bool.false_eq_true]; omega)) (list2 (congrArg byteOf (by omega)) (rfl))
theorem form48 {d s c z n k : Int} (h : fitsF ⟨42, 0, 0, true, 0, [88], -1, 0, 3, 0, 0, 0⟩ ⟨k, d, s, c, z, n⟩ = true) : validF ⟨k, d, s, c, z, n⟩ = true ∧ encF ⟨k, d, s, c, z, n⟩ = bytesF ⟨42, 0, 0, true, 0, [88], -1, 0, 3, 0, 0, 0⟩ ⟨k, d, s, c, z, n⟩ := by
  simp only [fitsF, Bool.and_eq_true, decide_eq_true_eq] at h
  obtain ⟨⟨⟨⟨⟨hk, hz⟩, hd⟩, hs⟩, hc⟩, hn⟩ := h
  subst hk; subst hz
  have dr := field_range hd
  obtain rfl := fld0 hs
  obtain rfl := fld0 hc
  obtain rfl : n = 0 := of_decide_eq_true hn
  refine ⟨valid_mk (bad0_of rfl dr ⟨Int.le_refl _, show (0 : Int) ≤ 15 by decide⟩ ⟨Int.le_refl _, show (0 : Int) ≤ 15 by decide⟩) ?_, ?_⟩
  · have e : sizedF ⟨42, d, 0, 0, 0, 0⟩ = true := by rw [sizedF, if_neg (by dsimp only; decide), if_neg (by dsimp only; decide), if_neg (by dsimp only; decide)]; rfl
    rw [e, none_any _ 1 _ (by dsimp only; decide), none_zero _ 2, none_zero _ 4, none_zero _ 8, none_zero _ 16]
    rfl
  · show byteOf (rexN false 0 d) :: byteOf (88 + d % 8) :: [] = byteOf (64 + 8 * 0 + 4 * (0 / 8) + (0 + d) / 8) :: byteOf (88 + 0 + d % 8) :: []
    exact list2 (congrArg byteOf (by simp only [rexN, if_true, if_false, Bool.false_eq_true]; omega)) (list2 (congrArg byteOf (by omega)) (rfl))
theorem form49 {d s c z n k : Int} (h : fitsF ⟨43, 0, 0, false, 0, [15, 5], -1, 0, 0, 0, 0, 0⟩ ⟨k, d, s, c, z, n⟩ = true) : validF ⟨k, d, s, c, z, n⟩ = true ∧ encF ⟨k, d, s, c, z, n⟩ = bytesF ⟨43, 0, 0, false, 0, [15, 5], -1, 0, 0, 0, 0, 0⟩ ⟨k, d, s, c, z, n⟩ := by
  simp only [fitsF, Bool.and_eq_true, decide_eq_true_eq] at h
  obtain ⟨⟨⟨⟨⟨hk, hz⟩, hd⟩, hs⟩, hc⟩, hn⟩ := h
  subst hk; subst hz
  obtain rfl := fld0 hd
  obtain rfl := fld0 hs
  obtain rfl := fld0 hc
  obtain rfl : n = 0 := of_decide_eq_true hn
  refine ⟨valid_mk (bad0_of rfl ⟨Int.le_refl _, show (0 : Int) ≤ 15 by decide⟩ ⟨Int.le_refl _, show (0 : Int) ≤ 15 by decide⟩ ⟨Int.le_refl _, show (0 : Int) ≤ 15 by decide⟩) ?_, ?_⟩
  · have e : sizedF ⟨43, 0, 0, 0, 0, 0⟩ = true := by rw [sizedF, if_neg (by dsimp only; decide), if_neg (by dsimp only; decide), if_neg (by dsimp only; decide)]; rfl
    rw [e, none_zero _ 1, none_zero _ 2, none_zero _ 4, none_zero _ 8, none_zero _ 16]
    rfl
  · show 15 :: 5 :: [] = byteOf (15 + 0 + 0) :: byteOf (5 + 0 + 0) :: []
    exact list2 (rfl) (list2 (rfl) (rfl))
theorem form50 {d s c z n k : Int} (h : fitsF ⟨44, 0, 0, false, 0, [15, 11], -1, 0, 0, 0, 0, 0⟩ ⟨k, d, s, c, z, n⟩ = true) : validF ⟨k, d, s, c, z, n⟩ = true ∧ encF ⟨k, d, s, c, z, n⟩ = bytesF ⟨44, 0, 0, false, 0, [15, 11], -1, 0, 0, 0, 0, 0⟩ ⟨k, d, s, c, z, n⟩ := by
  simp only [fitsF, Bool.and_eq_true, decide_eq_true_eq] at h
  obtain ⟨⟨⟨⟨⟨hk, hz⟩, hd⟩, hs⟩, hc⟩, hn⟩ := h
  subst hk; subst hz
  obtain rfl := fld0 hd
  obtain rfl := fld0 hs
  obtain rfl := fld0 hc
  obtain rfl : n = 0 := of_decide_eq_true hn
  refine ⟨valid_mk (bad0_of rfl ⟨Int.le_refl _, show (0 : Int) ≤ 15 by decide⟩ ⟨Int.le_refl _, show (0 : Int) ≤ 15 by decide⟩ ⟨Int.le_refl _, show (0 : Int) ≤ 15 by decide⟩) ?_, ?_⟩
  · have e : sizedF ⟨44, 0, 0, 0, 0, 0⟩ = true := by rw [sizedF, if_neg (by dsimp only; decide), if_neg (by dsimp only; decide), if_neg (by dsimp only; decide)]; rfl
    rw [e, none_zero _ 1, none_zero _ 2, none_zero _ 4, none_zero _ 8, none_zero _ 16]
    rfl
  · show 15 :: 11 :: [] = byteOf (15 + 0 + 0) :: byteOf (11 + 0 + 0) :: []
    exact list2 (rfl) (list2 (rfl) (rfl))
theorem form51 {d s c z n k : Int} (h : fitsF ⟨45, 0, 102, true, 1, [15, 110], 3, 0, 1, 2, 0, 0⟩ ⟨k, d, s, c, z, n⟩ = true) : validF ⟨k, d, s, c, z, n⟩ = true ∧ encF ⟨k, d, s, c, z, n⟩ = bytesF ⟨45, 0, 102, true, 1, [15, 110], 3, 0, 1, 2, 0, 0⟩ ⟨k, d, s, c, z, n⟩ := by
  simp only [fitsF, Bool.and_eq_true, decide_eq_true_eq] at h
  obtain ⟨⟨⟨⟨⟨hk, hz⟩, hd⟩, hs⟩, hc⟩, hn⟩ := h
  subst hk; subst hz
  have dr := field_range hd
  have sr := field_range hs
  obtain rfl := fld0 hc
  obtain rfl : n = 0 := of_decide_eq_true hn
  refine ⟨valid_mk (bad0_of rfl dr sr ⟨Int.le_refl _, show (0 : Int) ≤ 15 by decide⟩) ?_, ?_⟩
  · have e : sizedF ⟨45, d, s, 0, 0, 0⟩ = true := by rw [sizedF, if_neg (by dsimp only; decide), if_neg (by dsimp only; decide), if_neg (by dsimp only; decide)]; rfl
    rw [e, none_any _ 1 _ (by dsimp only; decide), none_any _ 2 _ (by dsimp only; decide), none_zero _ 4, none_zero _ 8, none_zero _ 16]
    rfl
  · show 102 :: byteOf (rexN true d s) :: 15 :: 110 :: byteOf (twoN d s) :: [] = byteOf 102 :: byteOf (64 + 8 * 1 + 4 * (d / 8) + (s + 0) / 8) :: byteOf (15 + 0 + 0) :: byteOf (110 + 0 + 0) :: byteOf (64 * 3 + 8 * (d % 8) + (s + 0) % 8) :: []
    exact list2 (rfl) (list2 (congrArg byteOf (by simp only [rexN, if_true, if_false, Bool.false_eq_true]; omega)) (list2 (rfl) (list2 (rfl) (list2 (congrArg byteOf (by simp only [memN, twoN]; omega)) (rfl)))))
theorem form52 {d s c z n k : Int} (h : fitsF ⟨46, 0, 102, true, 1, [15, 126], 3, 0, 2, 1, 0, 0⟩ ⟨k, d, s, c, z, n⟩ = true) : validF ⟨k, d, s, c, z, n⟩ = true ∧ encF ⟨k, d, s, c, z, n⟩ = bytesF ⟨46, 0, 102, true, 1, [15, 126], 3, 0, 2, 1, 0, 0⟩ ⟨k, d, s, c, z, n⟩ := by
  simp only [fitsF, Bool.and_eq_true, decide_eq_true_eq] at h
  obtain ⟨⟨⟨⟨⟨hk, hz⟩, hd⟩, hs⟩, hc⟩, hn⟩ := h
  subst hk; subst hz
  have dr := field_range hd
  have sr := field_range hs
  obtain rfl := fld0 hc
  obtain rfl : n = 0 := of_decide_eq_true hn
  refine ⟨valid_mk (bad0_of rfl dr sr ⟨Int.le_refl _, show (0 : Int) ≤ 15 by decide⟩) ?_, ?_⟩
  · have e : sizedF ⟨46, d, s, 0, 0, 0⟩ = true := by rw [sizedF, if_neg (by dsimp only; decide), if_neg (by dsimp only; decide), if_neg (by dsimp only; decide)]; rfl
    rw [e, none_any _ 1 _ (by dsimp only; decide), none_any _ 2 _ (by dsimp only; decide), none_zero _ 4, none_zero _ 8, none_zero _ 16]
    rfl
  · show 102 :: byteOf (rexN true s d) :: 15 :: 126 :: byteOf (twoN s d) :: [] = byteOf 102 :: byteOf (64 + 8 * 1 + 4 * (s / 8) + (d + 0) / 8) :: byteOf (15 + 0 + 0) :: byteOf (126 + 0 + 0) :: byteOf (64 * 3 + 8 * (s % 8) + (d + 0) % 8) :: []
    exact list2 (rfl) (list2 (congrArg byteOf (by simp only [rexN, if_true, if_false, Bool.false_eq_true]; omega)) (list2 (rfl) (list2 (rfl) (list2 (congrArg byteOf (by simp only [memN, twoN]; omega)) (rfl)))))
theorem form53 {d s c z n k : Int} (h : fitsF ⟨47, 0, 242, true, 0, [15, 88], 3, 0, 1, 2, 0, 0⟩ ⟨k, d, s, c, z, n⟩ = true) : validF ⟨k, d, s, c, z, n⟩ = true ∧ encF ⟨k, d, s, c, z, n⟩ = bytesF ⟨47, 0, 242, true, 0, [15, 88], 3, 0, 1, 2, 0, 0⟩ ⟨k, d, s, c, z, n⟩ := by
  simp only [fitsF, Bool.and_eq_true, decide_eq_true_eq] at h
  obtain ⟨⟨⟨⟨⟨hk, hz⟩, hd⟩, hs⟩, hc⟩, hn⟩ := h
  subst hk; subst hz
  have dr := field_range hd
  have sr := field_range hs
  obtain rfl := fld0 hc
  obtain rfl : n = 0 := of_decide_eq_true hn
  refine ⟨valid_mk (bad0_of rfl dr sr ⟨Int.le_refl _, show (0 : Int) ≤ 15 by decide⟩) ?_, ?_⟩
  · have e : sizedF ⟨47, d, s, 0, 0, 0⟩ = true := by rw [sizedF, if_neg (by dsimp only; decide), if_neg (by dsimp only; decide), if_neg (by dsimp only; decide)]; rfl
    rw [e, none_any _ 1 _ (by dsimp only; decide), none_any _ 2 _ (by dsimp only; decide), none_zero _ 4, none_zero _ 8, none_zero _ 16]
    rfl
  · show 242 :: byteOf (rexN false d s) :: 15 :: 88 :: byteOf (twoN d s) :: [] = byteOf 242 :: byteOf (64 + 8 * 0 + 4 * (d / 8) + (s + 0) / 8) :: byteOf (15 + 0 + 0) :: byteOf (88 + 0 + 0) :: byteOf (64 * 3 + 8 * (d % 8) + (s + 0) % 8) :: []
    exact list2 (rfl) (list2 (congrArg byteOf (by simp only [rexN, if_true, if_false, Bool.false_eq_true]; omega)) (list2 (rfl) (list2 (rfl) (list2 (congrArg byteOf (by simp only [memN, twoN]; omega)) (rfl)))))
theorem form54 {d s c z n k : Int} (h : fitsF ⟨48, 0, 242, true, 0, [15, 89], 3, 0, 1, 2, 0, 0⟩ ⟨k, d, s, c, z, n⟩ = true) : validF ⟨k, d, s, c, z, n⟩ = true ∧ encF ⟨k, d, s, c, z, n⟩ = bytesF ⟨48, 0, 242, true, 0, [15, 89], 3, 0, 1, 2, 0, 0⟩ ⟨k, d, s, c, z, n⟩ := by
  simp only [fitsF, Bool.and_eq_true, decide_eq_true_eq] at h
  obtain ⟨⟨⟨⟨⟨hk, hz⟩, hd⟩, hs⟩, hc⟩, hn⟩ := h
  subst hk; subst hz
  have dr := field_range hd
  have sr := field_range hs
  obtain rfl := fld0 hc
  obtain rfl : n = 0 := of_decide_eq_true hn
  refine ⟨valid_mk (bad0_of rfl dr sr ⟨Int.le_refl _, show (0 : Int) ≤ 15 by decide⟩) ?_, ?_⟩
  · have e : sizedF ⟨48, d, s, 0, 0, 0⟩ = true := by rw [sizedF, if_neg (by dsimp only; decide), if_neg (by dsimp only; decide), if_neg (by dsimp only; decide)]; rfl
    rw [e, none_any _ 1 _ (by dsimp only; decide), none_any _ 2 _ (by dsimp only; decide), none_zero _ 4, none_zero _ 8, none_zero _ 16]
    rfl
  · show 242 :: byteOf (rexN false d s) :: 15 :: 89 :: byteOf (twoN d s) :: [] = byteOf 242 :: byteOf (64 + 8 * 0 + 4 * (d / 8) + (s + 0) / 8) :: byteOf (15 + 0 + 0) :: byteOf (89 + 0 + 0) :: byteOf (64 * 3 + 8 * (d % 8) + (s + 0) % 8) :: []
    exact list2 (rfl) (list2 (congrArg byteOf (by simp only [rexN, if_true, if_false, Bool.false_eq_true]; omega)) (list2 (rfl) (list2 (rfl) (list2 (congrArg byteOf (by simp only [memN, twoN]; omega)) (rfl)))))
theorem form55 {d s c z n k : Int} (h : fitsF ⟨49, 0, 242, true, 0, [15, 92], 3, 0, 1, 2, 0, 0⟩ ⟨k, d, s, c, z, n⟩ = true) : validF ⟨k, d, s, c, z, n⟩ = true ∧ encF ⟨k, d, s, c, z, n⟩ = bytesF ⟨49, 0, 242, true, 0, [15, 92], 3, 0, 1, 2, 0, 0⟩ ⟨k, d, s, c, z, n⟩ := by
  simp only [fitsF, Bool.and_eq_true, decide_eq_true_eq] at h
  obtain ⟨⟨⟨⟨⟨hk, hz⟩, hd⟩, hs⟩, hc⟩, hn⟩ := h
  subst hk; subst hz
  have dr := field_range hd
  have sr := field_range hs
  obtain rfl := fld0 hc
  obtain rfl : n = 0 := of_decide_eq_true hn
  refine ⟨valid_mk (bad0_of rfl dr sr ⟨Int.le_refl _, show (0 : Int) ≤ 15 by decide⟩) ?_, ?_⟩
  · have e : sizedF ⟨49, d, s, 0, 0, 0⟩ = true := by rw [sizedF, if_neg (by dsimp only; decide), if_neg (by dsimp only; decide), if_neg (by dsimp only; decide)]; rfl
    rw [e, none_any _ 1 _ (by dsimp only; decide), none_any _ 2 _ (by dsimp only; decide), none_zero _ 4, none_zero _ 8, none_zero _ 16]
    rfl
  · show 242 :: byteOf (rexN false d s) :: 15 :: 92 :: byteOf (twoN d s) :: [] = byteOf 242 :: byteOf (64 + 8 * 0 + 4 * (d / 8) + (s + 0) / 8) :: byteOf (15 + 0 + 0) :: byteOf (92 + 0 + 0) :: byteOf (64 * 3 + 8 * (d % 8) + (s + 0) % 8) :: []
    exact list2 (rfl) (list2 (congrArg byteOf (by simp only [rexN, if_true, if_false, Bool.false_eq_true]; omega)) (list2 (rfl) (list2 (rfl) (list2 (congrArg byteOf (by simp only [memN, twoN]; omega)) (rfl)))))
theorem form56 {d s c z n k : Int} (h : fitsF ⟨50, 0, 242, true, 0, [15, 94], 3, 0, 1, 2, 0, 0⟩ ⟨k, d, s, c, z, n⟩ = true) : validF ⟨k, d, s, c, z, n⟩ = true ∧ encF ⟨k, d, s, c, z, n⟩ = bytesF ⟨50, 0, 242, true, 0, [15, 94], 3, 0, 1, 2, 0, 0⟩ ⟨k, d, s, c, z, n⟩ := by
  simp only [fitsF, Bool.and_eq_true, decide_eq_true_eq] at h
  obtain ⟨⟨⟨⟨⟨hk, hz⟩, hd⟩, hs⟩, hc⟩, hn⟩ := h
  subst hk; subst hz
  have dr := field_range hd
  have sr := field_range hs
  obtain rfl := fld0 hc
  obtain rfl : n = 0 := of_decide_eq_true hn
  refine ⟨valid_mk (bad0_of rfl dr sr ⟨Int.le_refl _, show (0 : Int) ≤ 15 by decide⟩) ?_, ?_⟩
  · have e : sizedF ⟨50, d, s, 0, 0, 0⟩ = true := by rw [sizedF, if_neg (by dsimp only; decide), if_neg (by dsimp only; decide), if_neg (by dsimp only; decide)]; rfl
    rw [e, none_any _ 1 _ (by dsimp only; decide), none_any _ 2 _ (by dsimp only; decide), none_zero _ 4, none_zero _ 8, none_zero _ 16]
    rfl
  · show 242 :: byteOf (rexN false d s) :: 15 :: 94 :: byteOf (twoN d s) :: [] = byteOf 242 :: byteOf (64 + 8 * 0 + 4 * (d / 8) + (s + 0) / 8) :: byteOf (15 + 0 + 0) :: byteOf (94 + 0 + 0) :: byteOf (64 * 3 + 8 * (d % 8) + (s + 0) % 8) :: []
    exact list2 (rfl) (list2 (congrArg byteOf (by simp only [rexN, if_true, if_false, Bool.false_eq_true]; omega)) (list2 (rfl) (list2 (rfl) (list2 (congrArg byteOf (by simp only [memN, twoN]; omega)) (rfl)))))
theorem form57 {d s c z n k : Int} (h : fitsF ⟨51, 0, 102, true, 0, [15, 46], 3, 0, 1, 2, 0, 0⟩ ⟨k, d, s, c, z, n⟩ = true) : validF ⟨k, d, s, c, z, n⟩ = true ∧ encF ⟨k, d, s, c, z, n⟩ = bytesF ⟨51, 0, 102, true, 0, [15, 46], 3, 0, 1, 2, 0, 0⟩ ⟨k, d, s, c, z, n⟩ := by
  simp only [fitsF, Bool.and_eq_true, decide_eq_true_eq] at h
  obtain ⟨⟨⟨⟨⟨hk, hz⟩, hd⟩, hs⟩, hc⟩, hn⟩ := h
  subst hk; subst hz
  have dr := field_range hd
  have sr := field_range hs
  obtain rfl := fld0 hc
  obtain rfl : n = 0 := of_decide_eq_true hn
  refine ⟨valid_mk (bad0_of rfl dr sr ⟨Int.le_refl _, show (0 : Int) ≤ 15 by decide⟩) ?_, ?_⟩
  · have e : sizedF ⟨51, d, s, 0, 0, 0⟩ = true := by rw [sizedF, if_neg (by dsimp only; decide), if_neg (by dsimp only; decide), if_neg (by dsimp only; decide)]; rfl
    rw [e, none_any _ 1 _ (by dsimp only; decide), none_any _ 2 _ (by dsimp only; decide), none_zero _ 4, none_zero _ 8, none_zero _ 16]
    rfl
  · show 102 :: byteOf (rexN false d s) :: 15 :: 46 :: byteOf (twoN d s) :: [] = byteOf 102 :: byteOf (64 + 8 * 0 + 4 * (d / 8) + (s + 0) / 8) :: byteOf (15 + 0 + 0) :: byteOf (46 + 0 + 0) :: byteOf (64 * 3 + 8 * (d % 8) + (s + 0) % 8) :: []
    exact list2 (rfl) (list2 (congrArg byteOf (by simp only [rexN, if_true, if_false, Bool.false_eq_true]; omega)) (list2 (rfl) (list2 (rfl) (list2 (congrArg byteOf (by simp only [memN, twoN]; omega)) (rfl)))))
theorem form58 {d s c z n k : Int} (h : fitsF ⟨52, 0, 242, true, 1, [15, 42], 3, 0, 1, 2, 0, 0⟩ ⟨k, d, s, c, z, n⟩ = true) : validF ⟨k, d, s, c, z, n⟩ = true ∧ encF ⟨k, d, s, c, z, n⟩ = bytesF ⟨52, 0, 242, true, 1, [15, 42], 3, 0, 1, 2, 0, 0⟩ ⟨k, d, s, c, z, n⟩ := by
  simp only [fitsF, Bool.and_eq_true, decide_eq_true_eq] at h
  obtain ⟨⟨⟨⟨⟨hk, hz⟩, hd⟩, hs⟩, hc⟩, hn⟩ := h
  subst hk; subst hz
  have dr := field_range hd
  have sr := field_range hs
  obtain rfl := fld0 hc
  obtain rfl : n = 0 := of_decide_eq_true hn
  refine ⟨valid_mk (bad0_of rfl dr sr ⟨Int.le_refl _, show (0 : Int) ≤ 15 by decide⟩) ?_, ?_⟩
  · have e : sizedF ⟨52, d, s, 0, 0, 0⟩ = true := by rw [sizedF, if_neg (by dsimp only; decide), if_neg (by dsimp only; decide), if_neg (by dsimp only; decide)]; rfl
    rw [e, none_any _ 1 _ (by dsimp only; decide), none_any _ 2 _ (by dsimp only; decide), none_zero _ 4, none_zero _ 8, none_zero _ 16]
    rfl
  · show 242 :: byteOf (rexN true d s) :: 15 :: 42 :: byteOf (twoN d s) :: [] = byteOf 242 :: byteOf (64 + 8 * 1 + 4 * (d / 8) + (s + 0) / 8) :: byteOf (15 + 0 + 0) :: byteOf (42 + 0 + 0) :: byteOf (64 * 3 + 8 * (d % 8) + (s + 0) % 8) :: []
    exact list2 (rfl) (list2 (congrArg byteOf (by simp only [rexN, if_true, if_false, Bool.false_eq_true]; omega)) (list2 (rfl) (list2 (rfl) (list2 (congrArg byteOf (by simp only [memN, twoN]; omega)) (rfl)))))
theorem forms_enc {f : FormF} (hf : f ∈ formsF) {i : Ins} (h : fitsF f i = true) : validF i = true ∧ encF i = bytesF f i := by
  obtain ⟨k, d, s, c, z, n⟩ := i
  simp only [formsF, List.mem_cons, List.not_mem_nil, or_false] at hf
  rcases hf with rfl | rfl | rfl | rfl | rfl | rfl | rfl | rfl | rfl | rfl | rfl | rfl | rfl | rfl | rfl | rfl | rfl | rfl | rfl | rfl | rfl | rfl | rfl | rfl | rfl | rfl | rfl | rfl | rfl | rfl | rfl | rfl | rfl | rfl | rfl | rfl | rfl | rfl | rfl | rfl | rfl | rfl | rfl | rfl | rfl | rfl | rfl | rfl | rfl | rfl | rfl | rfl | rfl | rfl | rfl | rfl | rfl | rfl | rfl
  · exact form0 h
  · exact form1 h
  · exact form2 h
  · exact form3 h
  · exact form4 h
  · exact form5 h
  · exact form6 h
  · exact form7 h
  · exact form8 h
  · exact form9 h
  · exact form10 h
  · exact form11 h
  · exact form12 h
  · exact form13 h
  · exact form14 h
  · exact form15 h
  · exact form16 h
  · exact form17 h
  · exact form18 h
  · exact form19 h
  · exact form20 h
  · exact form21 h
  · exact form22 h
  · exact form23 h
  · exact form24 h
  · exact form25 h
  · exact form26 h
  · exact form27 h
  · exact form28 h
  · exact form29 h
  · exact form30 h
  · exact form31 h
  · exact form32 h
  · exact form33 h
  · exact form34 h
  · exact form35 h
  · exact form36 h
  · exact form37 h
  · exact form38 h
  · exact form39 h
  · exact form40 h
  · exact form41 h
  · exact form42 h
  · exact form43 h
  · exact form44 h
  · exact form45 h
  · exact form46 h
  · exact form47 h
  · exact form48 h
  · exact form49 h
  · exact form50 h
  · exact form51 h
  · exact form52 h
  · exact form53 h
  · exact form54 h
  · exact form55 h
  · exact form56 h
  · exact form57 h
  · exact form58 h
end Go.Proofs.YtjndpakhmgapjaaDoor

namespace Go.Proofs.YtjndpakhmgapjaaDoor
open Go Go.RowKit
set_option linter.unusedSimpArgs false
set_option linter.unusedVariables false
set_option linter.unnecessarySimpa false
theorem valid_parts {i : Ins} (h : validF i = true) : ((1 ≤ i.kind ∧ i.kind ≤ 52) ∧ (0 ≤ i.d ∧ i.d ≤ 15) ∧ (0 ≤ i.s ∧ i.s ≤ 15) ∧ (0 ≤ i.cond ∧ i.cond ≤ 15)) ∧ noneF (fieldsF i.kind).1 1 i.d = true ∧ noneF (fieldsF i.kind).1 2 i.s = true ∧ noneF (fieldsF i.kind).1 4 i.imm = true ∧ noneF (fieldsF i.kind).1 8 i.cond = true ∧ noneF (fieldsF i.kind).1 16 i.size = true ∧ sizedF i = true := by
  refine ⟨validF_regs h, ?_⟩
  unfold validF at h
  split at h
  · cases h
  · simp only [Bool.and_eq_true] at h
    exact ⟨h.1.1.1.1.1, h.1.1.1.1.2, h.1.1.1.2, h.1.1.2, h.1.2, h.2⟩
theorem none_off {f b n : Int} (hb : bitsOf .and .i64 f b = 0) (h : noneF f b n = true) : n = 0 := by
  rw [noneF, decide_eq_true hb] at h
  simpa using h
theorem fld_some {p n : Int} (hp : ¬ p = 0) (h : 0 ≤ n ∧ n ≤ 15) : fieldR p n = true := by
  rw [fieldR, decide_eq_false hp, decide_eq_true h.1, decide_eq_true h.2]
  rfl
theorem fit_mk {f : FormF} {i : Ins} (h1 : f.kind = i.kind) (h2 : f.size = i.size) (h3 : fieldR f.d i.d = true) (h4 : fieldR f.s i.s = true) (h5 : fieldR f.cond i.cond = true) (h6 : numberR f i.imm = true) : fitsF f i = true := by
  rw [fitsF, decide_eq_true h1, decide_eq_true h2, h3, h4, h5, h6]
  rfl
theorem kind1 {d s c z n : Int} (h : validF ⟨1, d, s, c, z, n⟩ = true) : ∃ f ∈ formsF, fitsF f ⟨1, d, s, c, z, n⟩ = true := by
  obtain ⟨⟨_, hd, hs, hc⟩, h1, h2, h4, h8, h16, hz⟩ := valid_parts h
  obtain rfl : n = 0 := none_off (by dsimp only; decide) h4
  obtain rfl : c = 0 := none_off (by dsimp only; decide) h8
  obtain rfl : z = 0 := none_off (by dsimp only; decide) h16
  exact ⟨_, List.mem_of_getElem? (show formsF[0]? = some ⟨1, 0, 0, true, 1, [137], 3, 0, 2, 1, 0, 0⟩ from rfl), fit_mk rfl rfl (fld_some (by decide) hd) (fld_some (by decide) hs) rfl (rfl)⟩
theorem kind2 {d s c z n : Int} (h : validF ⟨2, d, s, c, z, n⟩ = true) : ∃ f ∈ formsF, fitsF f ⟨2, d, s, c, z, n⟩ = true := by
  obtain ⟨⟨_, hd, hs, hc⟩, h1, h2, h4, h8, h16, hz⟩ := valid_parts h
  obtain rfl : s = 0 := none_off (by dsimp only; decide) h2
  obtain rfl : c = 0 := none_off (by dsimp only; decide) h8
  obtain rfl : z = 0 := none_off (by dsimp only; decide) h16
  by_cases hn : smallF n = true
  · exact ⟨_, List.mem_of_getElem? (show formsF[1]? = some ⟨2, 0, 0, true, 1, [199], 3, 0, 2, 0, 0, 6⟩ from rfl), fit_mk rfl rfl (fld_some (by decide) hd) rfl rfl (hn)⟩
  · exact ⟨_, List.mem_of_getElem? (show formsF[2]? = some ⟨2, 0, 0, true, 1, [184], -1, 0, 3, 0, 0, 7⟩ from rfl), fit_mk rfl rfl (fld_some (by decide) hd) rfl rfl ((show (!smallF n) = true by simpa using hn))⟩
theorem kind3 {d s c z n : Int} (h : validF ⟨3, d, s, c, z, n⟩ = true) : ∃ f ∈ formsF, fitsF f ⟨3, d, s, c, z, n⟩ = true := by
  obtain ⟨⟨_, hd, hs, hc⟩, h1, h2, h4, h8, h16, hz⟩ := valid_parts h
  obtain rfl : c = 0 := none_off (by dsimp only; decide) h8
  rw [sizedF, if_pos (by dsimp only; decide), Bool.and_eq_true, Bool.or_eq_true, Bool.or_eq_true] at hz
  obtain ⟨hz, hn⟩ := hz
  rcases hz with (hz | hz) | hz
  · obtain rfl := of_decide_eq_true hz
    exact ⟨_, List.mem_of_getElem? (show formsF[3]? = some ⟨3, 8, 0, true, 1, [139], 2, 0, 1, 2, 0, 6⟩ from rfl), fit_mk rfl rfl (fld_some (by decide) hd) (fld_some (by decide) hs) rfl (hn)⟩
  · obtain rfl := of_decide_eq_true hz
    exact ⟨_, List.mem_of_getElem? (show formsF[4]? = some ⟨3, 4, 0, true, 0, [139], 2, 0, 1, 2, 0, 6⟩ from rfl), fit_mk rfl rfl (fld_some (by decide) hd) (fld_some (by decide) hs) rfl (hn)⟩
  · obtain rfl := of_decide_eq_true hz
    exact ⟨_, List.mem_of_getElem? (show formsF[5]? = some ⟨3, 1, 0, true, 1, [15, 182], 2, 0, 1, 2, 0, 6⟩ from rfl), fit_mk rfl rfl (fld_some (by decide) hd) (fld_some (by decide) hs) rfl (hn)⟩
theorem kind4 {d s c z n : Int} (h : validF ⟨4, d, s, c, z, n⟩ = true) : ∃ f ∈ formsF, fitsF f ⟨4, d, s, c, z, n⟩ = true := by
  obtain ⟨⟨_, hd, hs, hc⟩, h1, h2, h4, h8, h16, hz⟩ := valid_parts h
  obtain rfl : c = 0 := none_off (by dsimp only; decide) h8
  rw [sizedF, if_pos (by dsimp only; decide), Bool.and_eq_true, Bool.or_eq_true, Bool.or_eq_true] at hz
  obtain ⟨hz, hn⟩ := hz
  rcases hz with (hz | hz) | hz
  · obtain rfl := of_decide_eq_true hz
    exact ⟨_, List.mem_of_getElem? (show formsF[6]? = some ⟨4, 8, 0, true, 1, [137], 2, 0, 2, 1, 0, 6⟩ from rfl), fit_mk rfl rfl (fld_some (by decide) hd) (fld_some (by decide) hs) rfl (hn)⟩
  · obtain rfl := of_decide_eq_true hz
    exact ⟨_, List.mem_of_getElem? (show formsF[7]? = some ⟨4, 4, 0, true, 0, [137], 2, 0, 2, 1, 0, 6⟩ from rfl), fit_mk rfl rfl (fld_some (by decide) hd) (fld_some (by decide) hs) rfl (hn)⟩
  · obtain rfl := of_decide_eq_true hz
    exact ⟨_, List.mem_of_getElem? (show formsF[8]? = some ⟨4, 1, 0, true, 0, [136], 2, 0, 2, 1, 0, 6⟩ from rfl), fit_mk rfl rfl (fld_some (by decide) hd) (fld_some (by decide) hs) rfl (hn)⟩
theorem kind5 {d s c z n : Int} (h : validF ⟨5, d, s, c, z, n⟩ = true) : ∃ f ∈ formsF, fitsF f ⟨5, d, s, c, z, n⟩ = true := by
  obtain ⟨⟨_, hd, hs, hc⟩, h1, h2, h4, h8, h16, hz⟩ := valid_parts h
  obtain rfl : c = 0 := none_off (by dsimp only; decide) h8
  obtain rfl : z = 0 := none_off (by dsimp only; decide) h16
  rw [sizedF, if_neg (by dsimp only; decide), if_neg (by dsimp only; decide), if_neg (by dsimp only; decide)] at hz
  have hn : smallF n = true := hz
  exact ⟨_, List.mem_of_getElem? (show formsF[9]? = some ⟨5, 0, 0, true, 1, [141], 2, 0, 1, 2, 0, 6⟩ from rfl), fit_mk rfl rfl (fld_some (by decide) hd) (fld_some (by decide) hs) rfl (hn)⟩
theorem kind6 {d s c z n : Int} (h : validF ⟨6, d, s, c, z, n⟩ = true) : ∃ f ∈ formsF, fitsF f ⟨6, d, s, c, z, n⟩ = true := by
  obtain ⟨⟨_, hd, hs, hc⟩, h1, h2, h4, h8, h16, hz⟩ := valid_parts h
  obtain rfl : n = 0 := none_off (by dsimp only; decide) h4
  obtain rfl : c = 0 := none_off (by dsimp only; decide) h8
  obtain rfl : z = 0 := none_off (by dsimp only; decide) h16
  exact ⟨_, List.mem_of_getElem? (show formsF[10]? = some ⟨6, 0, 0, true, 1, [1], 3, 0, 2, 1, 0, 0⟩ from rfl), fit_mk rfl rfl (fld_some (by decide) hd) (fld_some (by decide) hs) rfl (rfl)⟩
theorem kind7 {d s c z n : Int} (h : validF ⟨7, d, s, c, z, n⟩ = true) : ∃ f ∈ formsF, fitsF f ⟨7, d, s, c, z, n⟩ = true := by
  obtain ⟨⟨_, hd, hs, hc⟩, h1, h2, h4, h8, h16, hz⟩ := valid_parts h
  obtain rfl : n = 0 := none_off (by dsimp only; decide) h4
  obtain rfl : c = 0 := none_off (by dsimp only; decide) h8
  obtain rfl : z = 0 := none_off (by dsimp only; decide) h16
  exact ⟨_, List.mem_of_getElem? (show formsF[11]? = some ⟨7, 0, 0, true, 1, [9], 3, 0, 2, 1, 0, 0⟩ from rfl), fit_mk rfl rfl (fld_some (by decide) hd) (fld_some (by decide) hs) rfl (rfl)⟩
theorem kind8 {d s c z n : Int} (h : validF ⟨8, d, s, c, z, n⟩ = true) : ∃ f ∈ formsF, fitsF f ⟨8, d, s, c, z, n⟩ = true := by
  obtain ⟨⟨_, hd, hs, hc⟩, h1, h2, h4, h8, h16, hz⟩ := valid_parts h
  obtain rfl : n = 0 := none_off (by dsimp only; decide) h4
  obtain rfl : c = 0 := none_off (by dsimp only; decide) h8
  obtain rfl : z = 0 := none_off (by dsimp only; decide) h16
  exact ⟨_, List.mem_of_getElem? (show formsF[12]? = some ⟨8, 0, 0, true, 1, [17], 3, 0, 2, 1, 0, 0⟩ from rfl), fit_mk rfl rfl (fld_some (by decide) hd) (fld_some (by decide) hs) rfl (rfl)⟩
theorem kind9 {d s c z n : Int} (h : validF ⟨9, d, s, c, z, n⟩ = true) : ∃ f ∈ formsF, fitsF f ⟨9, d, s, c, z, n⟩ = true := by
  obtain ⟨⟨_, hd, hs, hc⟩, h1, h2, h4, h8, h16, hz⟩ := valid_parts h
  obtain rfl : n = 0 := none_off (by dsimp only; decide) h4
  obtain rfl : c = 0 := none_off (by dsimp only; decide) h8
  obtain rfl : z = 0 := none_off (by dsimp only; decide) h16
  exact ⟨_, List.mem_of_getElem? (show formsF[13]? = some ⟨9, 0, 0, true, 1, [25], 3, 0, 2, 1, 0, 0⟩ from rfl), fit_mk rfl rfl (fld_some (by decide) hd) (fld_some (by decide) hs) rfl (rfl)⟩
theorem kind10 {d s c z n : Int} (h : validF ⟨10, d, s, c, z, n⟩ = true) : ∃ f ∈ formsF, fitsF f ⟨10, d, s, c, z, n⟩ = true := by
  obtain ⟨⟨_, hd, hs, hc⟩, h1, h2, h4, h8, h16, hz⟩ := valid_parts h
  obtain rfl : n = 0 := none_off (by dsimp only; decide) h4
  obtain rfl : c = 0 := none_off (by dsimp only; decide) h8
  obtain rfl : z = 0 := none_off (by dsimp only; decide) h16
  exact ⟨_, List.mem_of_getElem? (show formsF[14]? = some ⟨10, 0, 0, true, 1, [33], 3, 0, 2, 1, 0, 0⟩ from rfl), fit_mk rfl rfl (fld_some (by decide) hd) (fld_some (by decide) hs) rfl (rfl)⟩
theorem kind11 {d s c z n : Int} (h : validF ⟨11, d, s, c, z, n⟩ = true) : ∃ f ∈ formsF, fitsF f ⟨11, d, s, c, z, n⟩ = true := by
  obtain ⟨⟨_, hd, hs, hc⟩, h1, h2, h4, h8, h16, hz⟩ := valid_parts h
  obtain rfl : n = 0 := none_off (by dsimp only; decide) h4
  obtain rfl : c = 0 := none_off (by dsimp only; decide) h8
  obtain rfl : z = 0 := none_off (by dsimp only; decide) h16
  exact ⟨_, List.mem_of_getElem? (show formsF[15]? = some ⟨11, 0, 0, true, 1, [41], 3, 0, 2, 1, 0, 0⟩ from rfl), fit_mk rfl rfl (fld_some (by decide) hd) (fld_some (by decide) hs) rfl (rfl)⟩
theorem kind12 {d s c z n : Int} (h : validF ⟨12, d, s, c, z, n⟩ = true) : ∃ f ∈ formsF, fitsF f ⟨12, d, s, c, z, n⟩ = true := by
  obtain ⟨⟨_, hd, hs, hc⟩, h1, h2, h4, h8, h16, hz⟩ := valid_parts h
  obtain rfl : n = 0 := none_off (by dsimp only; decide) h4
  obtain rfl : c = 0 := none_off (by dsimp only; decide) h8
  obtain rfl : z = 0 := none_off (by dsimp only; decide) h16
  exact ⟨_, List.mem_of_getElem? (show formsF[16]? = some ⟨12, 0, 0, true, 1, [49], 3, 0, 2, 1, 0, 0⟩ from rfl), fit_mk rfl rfl (fld_some (by decide) hd) (fld_some (by decide) hs) rfl (rfl)⟩
theorem kind13 {d s c z n : Int} (h : validF ⟨13, d, s, c, z, n⟩ = true) : ∃ f ∈ formsF, fitsF f ⟨13, d, s, c, z, n⟩ = true := by
  obtain ⟨⟨_, hd, hs, hc⟩, h1, h2, h4, h8, h16, hz⟩ := valid_parts h
  obtain rfl : n = 0 := none_off (by dsimp only; decide) h4
  obtain rfl : c = 0 := none_off (by dsimp only; decide) h8
  obtain rfl : z = 0 := none_off (by dsimp only; decide) h16
  exact ⟨_, List.mem_of_getElem? (show formsF[17]? = some ⟨13, 0, 0, true, 1, [57], 3, 0, 2, 1, 0, 0⟩ from rfl), fit_mk rfl rfl (fld_some (by decide) hd) (fld_some (by decide) hs) rfl (rfl)⟩
theorem kind14 {d s c z n : Int} (h : validF ⟨14, d, s, c, z, n⟩ = true) : ∃ f ∈ formsF, fitsF f ⟨14, d, s, c, z, n⟩ = true := by
  obtain ⟨⟨_, hd, hs, hc⟩, h1, h2, h4, h8, h16, hz⟩ := valid_parts h
  obtain rfl : n = 0 := none_off (by dsimp only; decide) h4
  obtain rfl : c = 0 := none_off (by dsimp only; decide) h8
  obtain rfl : z = 0 := none_off (by dsimp only; decide) h16
  exact ⟨_, List.mem_of_getElem? (show formsF[18]? = some ⟨14, 0, 0, true, 1, [133], 3, 0, 2, 1, 0, 0⟩ from rfl), fit_mk rfl rfl (fld_some (by decide) hd) (fld_some (by decide) hs) rfl (rfl)⟩
theorem kind15 {d s c z n : Int} (h : validF ⟨15, d, s, c, z, n⟩ = true) : ∃ f ∈ formsF, fitsF f ⟨15, d, s, c, z, n⟩ = true := by
  obtain ⟨⟨_, hd, hs, hc⟩, h1, h2, h4, h8, h16, hz⟩ := valid_parts h
  obtain rfl : s = 0 := none_off (by dsimp only; decide) h2
  obtain rfl : c = 0 := none_off (by dsimp only; decide) h8
  obtain rfl : z = 0 := none_off (by dsimp only; decide) h16
  rw [sizedF, if_neg (by dsimp only; decide), if_neg (by dsimp only; decide), if_neg (by dsimp only; decide)] at hz
  have hn : smallF n = true := hz
  exact ⟨_, List.mem_of_getElem? (show formsF[19]? = some ⟨15, 0, 0, true, 1, [129], 3, 0, 2, 0, 0, 6⟩ from rfl), fit_mk rfl rfl (fld_some (by decide) hd) rfl rfl (hn)⟩
theorem kind16 {d s c z n : Int} (h : validF ⟨16, d, s, c, z, n⟩ = true) : ∃ f ∈ formsF, fitsF f ⟨16, d, s, c, z, n⟩ = true := by
  obtain ⟨⟨_, hd, hs, hc⟩, h1, h2, h4, h8, h16, hz⟩ := valid_parts h
  obtain rfl : s = 0 := none_off (by dsimp only; decide) h2
  obtain rfl : c = 0 := none_off (by dsimp only; decide) h8
  obtain rfl : z = 0 := none_off (by dsimp only; decide) h16
  rw [sizedF, if_neg (by dsimp only; decide), if_neg (by dsimp only; decide), if_neg (by dsimp only; decide)] at hz
  have hn : smallF n = true := hz
  exact ⟨_, List.mem_of_getElem? (show formsF[20]? = some ⟨16, 0, 0, true, 1, [129], 3, 1, 2, 0, 0, 6⟩ from rfl), fit_mk rfl rfl (fld_some (by decide) hd) rfl rfl (hn)⟩
theorem kind17 {d s c z n : Int} (h : validF ⟨17, d, s, c, z, n⟩ = true) : ∃ f ∈ formsF, fitsF f ⟨17, d, s, c, z, n⟩ = true := by
  obtain ⟨⟨_, hd, hs, hc⟩, h1, h2, h4, h8, h16, hz⟩ := valid_parts h
  obtain rfl : s = 0 := none_off (by dsimp only; decide) h2
  obtain rfl : c = 0 := none_off (by dsimp only; decide) h8
  obtain rfl : z = 0 := none_off (by dsimp only; decide) h16
  rw [sizedF, if_neg (by dsimp only; decide), if_neg (by dsimp only; decide), if_neg (by dsimp only; decide)] at hz
  have hn : smallF n = true := hz
  exact ⟨_, List.mem_of_getElem? (show formsF[21]? = some ⟨17, 0, 0, true, 1, [129], 3, 4, 2, 0, 0, 6⟩ from rfl), fit_mk rfl rfl (fld_some (by decide) hd) rfl rfl (hn)⟩
theorem kind18 {d s c z n : Int} (h : validF ⟨18, d, s, c, z, n⟩ = true) : ∃ f ∈ formsF, fitsF f ⟨18, d, s, c, z, n⟩ = true := by
  obtain ⟨⟨_, hd, hs, hc⟩, h1, h2, h4, h8, h16, hz⟩ := valid_parts h
  obtain rfl : s = 0 := none_off (by dsimp only; decide) h2
  obtain rfl : c = 0 := none_off (by dsimp only; decide) h8
  obtain rfl : z = 0 := none_off (by dsimp only; decide) h16
  rw [sizedF, if_neg (by dsimp only; decide), if_neg (by dsimp only; decide), if_neg (by dsimp only; decide)] at hz
  have hn : smallF n = true := hz
  exact ⟨_, List.mem_of_getElem? (show formsF[22]? = some ⟨18, 0, 0, true, 1, [129], 3, 5, 2, 0, 0, 6⟩ from rfl), fit_mk rfl rfl (fld_some (by decide) hd) rfl rfl (hn)⟩
theorem kind19 {d s c z n : Int} (h : validF ⟨19, d, s, c, z, n⟩ = true) : ∃ f ∈ formsF, fitsF f ⟨19, d, s, c, z, n⟩ = true := by
  obtain ⟨⟨_, hd, hs, hc⟩, h1, h2, h4, h8, h16, hz⟩ := valid_parts h
  obtain rfl : s = 0 := none_off (by dsimp only; decide) h2
  obtain rfl : c = 0 := none_off (by dsimp only; decide) h8
  obtain rfl : z = 0 := none_off (by dsimp only; decide) h16
  rw [sizedF, if_neg (by dsimp only; decide), if_neg (by dsimp only; decide), if_neg (by dsimp only; decide)] at hz
  have hn : smallF n = true := hz
  exact ⟨_, List.mem_of_getElem? (show formsF[23]? = some ⟨19, 0, 0, true, 1, [129], 3, 6, 2, 0, 0, 6⟩ from rfl), fit_mk rfl rfl (fld_some (by decide) hd) rfl rfl (hn)⟩
theorem kind20 {d s c z n : Int} (h : validF ⟨20, d, s, c, z, n⟩ = true) : ∃ f ∈ formsF, fitsF f ⟨20, d, s, c, z, n⟩ = true := by
  obtain ⟨⟨_, hd, hs, hc⟩, h1, h2, h4, h8, h16, hz⟩ := valid_parts h
  obtain rfl : s = 0 := none_off (by dsimp only; decide) h2
  obtain rfl : c = 0 := none_off (by dsimp only; decide) h8
  obtain rfl : z = 0 := none_off (by dsimp only; decide) h16
  rw [sizedF, if_neg (by dsimp only; decide), if_neg (by dsimp only; decide), if_neg (by dsimp only; decide)] at hz
  have hn : smallF n = true := hz
  exact ⟨_, List.mem_of_getElem? (show formsF[24]? = some ⟨20, 0, 0, true, 1, [129], 3, 7, 2, 0, 0, 6⟩ from rfl), fit_mk rfl rfl (fld_some (by decide) hd) rfl rfl (hn)⟩
theorem kind21 {d s c z n : Int} (h : validF ⟨21, d, s, c, z, n⟩ = true) : ∃ f ∈ formsF, fitsF f ⟨21, d, s, c, z, n⟩ = true := by
  obtain ⟨⟨_, hd, hs, hc⟩, h1, h2, h4, h8, h16, hz⟩ := valid_parts h
  obtain rfl : n = 0 := none_off (by dsimp only; decide) h4
  obtain rfl : c = 0 := none_off (by dsimp only; decide) h8
  obtain rfl : z = 0 := none_off (by dsimp only; decide) h16
  exact ⟨_, List.mem_of_getElem? (show formsF[25]? = some ⟨21, 0, 0, true, 1, [15, 175], 3, 0, 1, 2, 0, 0⟩ from rfl), fit_mk rfl rfl (fld_some (by decide) hd) (fld_some (by decide) hs) rfl (rfl)⟩
theorem kind22 {d s c z n : Int} (h : validF ⟨22, d, s, c, z, n⟩ = true) : ∃ f ∈ formsF, fitsF f ⟨22, d, s, c, z, n⟩ = true := by
  obtain ⟨⟨_, hd, hs, hc⟩, h1, h2, h4, h8, h16, hz⟩ := valid_parts h
  obtain rfl : s = 0 := none_off (by dsimp only; decide) h2
  obtain rfl : n = 0 := none_off (by dsimp only; decide) h4
  obtain rfl : c = 0 := none_off (by dsimp only; decide) h8
  obtain rfl : z = 0 := none_off (by dsimp only; decide) h16
  exact ⟨_, List.mem_of_getElem? (show formsF[26]? = some ⟨22, 0, 0, true, 1, [247], 3, 4, 2, 0, 0, 0⟩ from rfl), fit_mk rfl rfl (fld_some (by decide) hd) rfl rfl (rfl)⟩
theorem kind23 {d s c z n : Int} (h : validF ⟨23, d, s, c, z, n⟩ = true) : ∃ f ∈ formsF, fitsF f ⟨23, d, s, c, z, n⟩ = true := by
  obtain ⟨⟨_, hd, hs, hc⟩, h1, h2, h4, h8, h16, hz⟩ := valid_parts h
  obtain rfl : s = 0 := none_off (by dsimp only; decide) h2
  obtain rfl : n = 0 := none_off (by dsimp only; decide) h4
  obtain rfl : c = 0 := none_off (by dsimp only; decide) h8
  obtain rfl : z = 0 := none_off (by dsimp only; decide) h16
  exact ⟨_, List.mem_of_getElem? (show formsF[27]? = some ⟨23, 0, 0, true, 1, [247], 3, 6, 2, 0, 0, 0⟩ from rfl), fit_mk rfl rfl (fld_some (by decide) hd) rfl rfl (rfl)⟩
theorem kind24 {d s c z n : Int} (h : validF ⟨24, d, s, c, z, n⟩ = true) : ∃ f ∈ formsF, fitsF f ⟨24, d, s, c, z, n⟩ = true := by
  obtain ⟨⟨_, hd, hs, hc⟩, h1, h2, h4, h8, h16, hz⟩ := valid_parts h
  obtain rfl : s = 0 := none_off (by dsimp only; decide) h2
  obtain rfl : n = 0 := none_off (by dsimp only; decide) h4
  obtain rfl : c = 0 := none_off (by dsimp only; decide) h8
  obtain rfl : z = 0 := none_off (by dsimp only; decide) h16
  exact ⟨_, List.mem_of_getElem? (show formsF[28]? = some ⟨24, 0, 0, true, 1, [247], 3, 3, 2, 0, 0, 0⟩ from rfl), fit_mk rfl rfl (fld_some (by decide) hd) rfl rfl (rfl)⟩
theorem kind25 {d s c z n : Int} (h : validF ⟨25, d, s, c, z, n⟩ = true) : ∃ f ∈ formsF, fitsF f ⟨25, d, s, c, z, n⟩ = true := by
  obtain ⟨⟨_, hd, hs, hc⟩, h1, h2, h4, h8, h16, hz⟩ := valid_parts h
  obtain rfl : s = 0 := none_off (by dsimp only; decide) h2
  obtain rfl : n = 0 := none_off (by dsimp only; decide) h4
  obtain rfl : c = 0 := none_off (by dsimp only; decide) h8
  obtain rfl : z = 0 := none_off (by dsimp only; decide) h16
  exact ⟨_, List.mem_of_getElem? (show formsF[29]? = some ⟨25, 0, 0, true, 1, [247], 3, 2, 2, 0, 0, 0⟩ from rfl), fit_mk rfl rfl (fld_some (by decide) hd) rfl rfl (rfl)⟩
theorem kind26 {d s c z n : Int} (h : validF ⟨26, d, s, c, z, n⟩ = true) : ∃ f ∈ formsF, fitsF f ⟨26, d, s, c, z, n⟩ = true := by
  obtain ⟨⟨_, hd, hs, hc⟩, h1, h2, h4, h8, h16, hz⟩ := valid_parts h
  obtain rfl : s = 0 := none_off (by dsimp only; decide) h2
  obtain rfl : n = 0 := none_off (by dsimp only; decide) h4
  obtain rfl : c = 0 := none_off (by dsimp only; decide) h8
  obtain rfl : z = 0 := none_off (by dsimp only; decide) h16
  exact ⟨_, List.mem_of_getElem? (show formsF[30]? = some ⟨26, 0, 0, true, 1, [211], 3, 4, 2, 0, 0, 0⟩ from rfl), fit_mk rfl rfl (fld_some (by decide) hd) rfl rfl (rfl)⟩
theorem kind27 {d s c z n : Int} (h : validF ⟨27, d, s, c, z, n⟩ = true) : ∃ f ∈ formsF, fitsF f ⟨27, d, s, c, z, n⟩ = true := by
  obtain ⟨⟨_, hd, hs, hc⟩, h1, h2, h4, h8, h16, hz⟩ := valid_parts h
  obtain rfl : s = 0 := none_off (by dsimp only; decide) h2
  obtain rfl : n = 0 := none_off (by dsimp only; decide) h4
  obtain rfl : c = 0 := none_off (by dsimp only; decide) h8
  obtain rfl : z = 0 := none_off (by dsimp only; decide) h16
  exact ⟨_, List.mem_of_getElem? (show formsF[31]? = some ⟨27, 0, 0, true, 1, [211], 3, 5, 2, 0, 0, 0⟩ from rfl), fit_mk rfl rfl (fld_some (by decide) hd) rfl rfl (rfl)⟩
theorem kind28 {d s c z n : Int} (h : validF ⟨28, d, s, c, z, n⟩ = true) : ∃ f ∈ formsF, fitsF f ⟨28, d, s, c, z, n⟩ = true := by
  obtain ⟨⟨_, hd, hs, hc⟩, h1, h2, h4, h8, h16, hz⟩ := valid_parts h
  obtain rfl : s = 0 := none_off (by dsimp only; decide) h2
  obtain rfl : n = 0 := none_off (by dsimp only; decide) h4
  obtain rfl : c = 0 := none_off (by dsimp only; decide) h8
  obtain rfl : z = 0 := none_off (by dsimp only; decide) h16
  exact ⟨_, List.mem_of_getElem? (show formsF[32]? = some ⟨28, 0, 0, true, 1, [211], 3, 7, 2, 0, 0, 0⟩ from rfl), fit_mk rfl rfl (fld_some (by decide) hd) rfl rfl (rfl)⟩
theorem kind29 {d s c z n : Int} (h : validF ⟨29, d, s, c, z, n⟩ = true) : ∃ f ∈ formsF, fitsF f ⟨29, d, s, c, z, n⟩ = true := by
  obtain ⟨⟨_, hd, hs, hc⟩, h1, h2, h4, h8, h16, hz⟩ := valid_parts h
  obtain rfl : s = 0 := none_off (by dsimp only; decide) h2
  obtain rfl : c = 0 := none_off (by dsimp only; decide) h8
  obtain rfl : z = 0 := none_off (by dsimp only; decide) h16
  rw [sizedF, if_neg (by dsimp only; decide), if_neg (by dsimp only; decide), if_pos (by dsimp only; decide)] at hz
  exact ⟨_, List.mem_of_getElem? (show formsF[33]? = some ⟨29, 0, 0, true, 1, [193], 3, 4, 2, 0, 0, 5⟩ from rfl), fit_mk rfl rfl (fld_some (by decide) hd) rfl rfl (hz)⟩
theorem kind30 {d s c z n : Int} (h : validF ⟨30, d, s, c, z, n⟩ = true) : ∃ f ∈ formsF, fitsF f ⟨30, d, s, c, z, n⟩ = true := by
  obtain ⟨⟨_, hd, hs, hc⟩, h1, h2, h4, h8, h16, hz⟩ := valid_parts h
  obtain rfl : s = 0 := none_off (by dsimp only; decide) h2
  obtain rfl : c = 0 := none_off (by dsimp only; decide) h8
  obtain rfl : z = 0 := none_off (by dsimp only; decide) h16
  rw [sizedF, if_neg (by dsimp only; decide), if_neg (by dsimp only; decide), if_pos (by dsimp only; decide)] at hz
  exact ⟨_, List.mem_of_getElem? (show formsF[34]? = some ⟨30, 0, 0, true, 1, [193], 3, 5, 2, 0, 0, 5⟩ from rfl), fit_mk rfl rfl (fld_some (by decide) hd) rfl rfl (hz)⟩
theorem kind31 {d s c z n : Int} (h : validF ⟨31, d, s, c, z, n⟩ = true) : ∃ f ∈ formsF, fitsF f ⟨31, d, s, c, z, n⟩ = true := by
  obtain ⟨⟨_, hd, hs, hc⟩, h1, h2, h4, h8, h16, hz⟩ := valid_parts h
  obtain rfl : s = 0 := none_off (by dsimp only; decide) h2
  obtain rfl : c = 0 := none_off (by dsimp only; decide) h8
  obtain rfl : z = 0 := none_off (by dsimp only; decide) h16
  rw [sizedF, if_neg (by dsimp only; decide), if_neg (by dsimp only; decide), if_pos (by dsimp only; decide)] at hz
  exact ⟨_, List.mem_of_getElem? (show formsF[35]? = some ⟨31, 0, 0, true, 1, [193], 3, 7, 2, 0, 0, 5⟩ from rfl), fit_mk rfl rfl (fld_some (by decide) hd) rfl rfl (hz)⟩
theorem kind32 {d s c z n : Int} (h : validF ⟨32, d, s, c, z, n⟩ = true) : ∃ f ∈ formsF, fitsF f ⟨32, d, s, c, z, n⟩ = true := by
  obtain ⟨⟨_, hd, hs, hc⟩, h1, h2, h4, h8, h16, hz⟩ := valid_parts h
  obtain rfl : s = 0 := none_off (by dsimp only; decide) h2
  obtain rfl : n = 0 := none_off (by dsimp only; decide) h4
  obtain rfl : z = 0 := none_off (by dsimp only; decide) h16
  exact ⟨_, List.mem_of_getElem? (show formsF[36]? = some ⟨32, 0, 0, true, 0, [15, 144], 3, 0, 2, 0, 4, 0⟩ from rfl), fit_mk rfl rfl (fld_some (by decide) hd) rfl (fld_some (by decide) hc) (rfl)⟩
theorem kind33 {d s c z n : Int} (h : validF ⟨33, d, s, c, z, n⟩ = true) : ∃ f ∈ formsF, fitsF f ⟨33, d, s, c, z, n⟩ = true := by
  obtain ⟨⟨_, hd, hs, hc⟩, h1, h2, h4, h8, h16, hz⟩ := valid_parts h
  obtain rfl : n = 0 := none_off (by dsimp only; decide) h4
  obtain rfl : c = 0 := none_off (by dsimp only; decide) h8
  obtain rfl : z = 0 := none_off (by dsimp only; decide) h16
  exact ⟨_, List.mem_of_getElem? (show formsF[37]? = some ⟨33, 0, 0, true, 1, [15, 182], 3, 0, 1, 2, 0, 0⟩ from rfl), fit_mk rfl rfl (fld_some (by decide) hd) (fld_some (by decide) hs) rfl (rfl)⟩
theorem kind34 {d s c z n : Int} (h : validF ⟨34, d, s, c, z, n⟩ = true) : ∃ f ∈ formsF, fitsF f ⟨34, d, s, c, z, n⟩ = true := by
  obtain ⟨⟨_, hd, hs, hc⟩, h1, h2, h4, h8, h16, hz⟩ := valid_parts h
  obtain rfl : n = 0 := none_off (by dsimp only; decide) h4
  obtain rfl : z = 0 := none_off (by dsimp only; decide) h16
  exact ⟨_, List.mem_of_getElem? (show formsF[38]? = some ⟨34, 0, 0, true, 1, [15, 64], 3, 0, 1, 2, 4, 0⟩ from rfl), fit_mk rfl rfl (fld_some (by decide) hd) (fld_some (by decide) hs) (fld_some (by decide) hc) (rfl)⟩
theorem kind35 {d s c z n : Int} (h : validF ⟨35, d, s, c, z, n⟩ = true) : ∃ f ∈ formsF, fitsF f ⟨35, d, s, c, z, n⟩ = true := by
  obtain ⟨⟨_, hd, hs, hc⟩, h1, h2, h4, h8, h16, hz⟩ := valid_parts h
  obtain rfl : d = 0 := none_off (by dsimp only; decide) h1
  obtain rfl : s = 0 := none_off (by dsimp only; decide) h2
  obtain rfl : c = 0 := none_off (by dsimp only; decide) h8
  rw [sizedF, if_neg (by dsimp only; decide), if_pos (by dsimp only; decide), Bool.or_eq_true, Bool.and_eq_true, Bool.and_eq_true] at hz
  rcases hz with ⟨hz, hn⟩ | ⟨hz, hn⟩
  · obtain rfl := of_decide_eq_true hz
    exact ⟨_, List.mem_of_getElem? (show formsF[40]? = some ⟨35, 4, 0, false, 0, [233], -1, 0, 0, 0, 0, 6⟩ from rfl), fit_mk rfl rfl rfl rfl rfl (hn)⟩
  · obtain rfl := of_decide_eq_true hz
    exact ⟨_, List.mem_of_getElem? (show formsF[39]? = some ⟨35, 1, 0, false, 0, [235], -1, 0, 0, 0, 0, 5⟩ from rfl), fit_mk rfl rfl rfl rfl rfl (hn)⟩
theorem kind36 {d s c z n : Int} (h : validF ⟨36, d, s, c, z, n⟩ = true) : ∃ f ∈ formsF, fitsF f ⟨36, d, s, c, z, n⟩ = true := by
  obtain ⟨⟨_, hd, hs, hc⟩, h1, h2, h4, h8, h16, hz⟩ := valid_parts h
  obtain rfl : d = 0 := none_off (by dsimp only; decide) h1
  obtain rfl : s = 0 := none_off (by dsimp only; decide) h2
  rw [sizedF, if_neg (by dsimp only; decide), if_pos (by dsimp only; decide), Bool.or_eq_true, Bool.and_eq_true, Bool.and_eq_true] at hz
  rcases hz with ⟨hz, hn⟩ | ⟨hz, hn⟩
  · obtain rfl := of_decide_eq_true hz
    exact ⟨_, List.mem_of_getElem? (show formsF[42]? = some ⟨36, 4, 0, false, 0, [15, 128], -1, 0, 0, 0, 4, 6⟩ from rfl), fit_mk rfl rfl rfl rfl (fld_some (by decide) hc) (hn)⟩
  · obtain rfl := of_decide_eq_true hz
    exact ⟨_, List.mem_of_getElem? (show formsF[41]? = some ⟨36, 1, 0, false, 0, [112], -1, 0, 0, 0, 4, 5⟩ from rfl), fit_mk rfl rfl rfl rfl (fld_some (by decide) hc) (hn)⟩
theorem kind37 {d s c z n : Int} (h : validF ⟨37, d, s, c, z, n⟩ = true) : ∃ f ∈ formsF, fitsF f ⟨37, d, s, c, z, n⟩ = true := by
  obtain ⟨⟨_, hd, hs, hc⟩, h1, h2, h4, h8, h16, hz⟩ := valid_parts h
  obtain rfl : d = 0 := none_off (by dsimp only; decide) h1
  obtain rfl : s = 0 := none_off (by dsimp only; decide) h2
  obtain rfl : c = 0 := none_off (by dsimp only; decide) h8
  obtain rfl : z = 0 := none_off (by dsimp only; decide) h16
  rw [sizedF, if_neg (by dsimp only; decide), if_neg (by dsimp only; decide), if_neg (by dsimp only; decide)] at hz
  have hn : smallF n = true := hz
  exact ⟨_, List.mem_of_getElem? (show formsF[43]? = some ⟨37, 0, 0, false, 0, [232], -1, 0, 0, 0, 0, 6⟩ from rfl), fit_mk rfl rfl rfl rfl rfl (hn)⟩
theorem kind38 {d s c z n : Int} (h : validF ⟨38, d, s, c, z, n⟩ = true) : ∃ f ∈ formsF, fitsF f ⟨38, d, s, c, z, n⟩ = true := by
  obtain ⟨⟨_, hd, hs, hc⟩, h1, h2, h4, h8, h16, hz⟩ := valid_parts h
  obtain rfl : s = 0 := none_off (by dsimp only; decide) h2
  obtain rfl : n = 0 := none_off (by dsimp only; decide) h4
  obtain rfl : c = 0 := none_off (by dsimp only; decide) h8
  obtain rfl : z = 0 := none_off (by dsimp only; decide) h16
  exact ⟨_, List.mem_of_getElem? (show formsF[44]? = some ⟨38, 0, 0, true, 0, [255], 3, 2, 2, 0, 0, 0⟩ from rfl), fit_mk rfl rfl (fld_some (by decide) hd) rfl rfl (rfl)⟩
theorem kind39 {d s c z n : Int} (h : validF ⟨39, d, s, c, z, n⟩ = true) : ∃ f ∈ formsF, fitsF f ⟨39, d, s, c, z, n⟩ = true := by
  obtain ⟨⟨_, hd, hs, hc⟩, h1, h2, h4, h8, h16, hz⟩ := valid_parts h
  obtain rfl : s = 0 := none_off (by dsimp only; decide) h2
  obtain rfl : n = 0 := none_off (by dsimp only; decide) h4
  obtain rfl : c = 0 := none_off (by dsimp only; decide) h8
  obtain rfl : z = 0 := none_off (by dsimp only; decide) h16
  exact ⟨_, List.mem_of_getElem? (show formsF[45]? = some ⟨39, 0, 0, true, 0, [255], 3, 4, 2, 0, 0, 0⟩ from rfl), fit_mk rfl rfl (fld_some (by decide) hd) rfl rfl (rfl)⟩
theorem kind40 {d s c z n : Int} (h : validF ⟨40, d, s, c, z, n⟩ = true) : ∃ f ∈ formsF, fitsF f ⟨40, d, s, c, z, n⟩ = true := by
  obtain ⟨⟨_, hd, hs, hc⟩, h1, h2, h4, h8, h16, hz⟩ := valid_parts h
  obtain rfl : d = 0 := none_off (by dsimp only; decide) h1
  obtain rfl : s = 0 := none_off (by dsimp only; decide) h2
  obtain rfl : n = 0 := none_off (by dsimp only; decide) h4
  obtain rfl : c = 0 := none_off (by dsimp only; decide) h8
  obtain rfl : z = 0 := none_off (by dsimp only; decide) h16
  exact ⟨_, List.mem_of_getElem? (show formsF[46]? = some ⟨40, 0, 0, false, 0, [195], -1, 0, 0, 0, 0, 0⟩ from rfl), fit_mk rfl rfl rfl rfl rfl (rfl)⟩
theorem kind41 {d s c z n : Int} (h : validF ⟨41, d, s, c, z, n⟩ = true) : ∃ f ∈ formsF, fitsF f ⟨41, d, s, c, z, n⟩ = true := by
  obtain ⟨⟨_, hd, hs, hc⟩, h1, h2, h4, h8, h16, hz⟩ := valid_parts h
  obtain rfl : s = 0 := none_off (by dsimp only; decide) h2
  obtain rfl : n = 0 := none_off (by dsimp only; decide) h4
  obtain rfl : c = 0 := none_off (by dsimp only; decide) h8
  obtain rfl : z = 0 := none_off (by dsimp only; decide) h16
  exact ⟨_, List.mem_of_getElem? (show formsF[47]? = some ⟨41, 0, 0, true, 0, [80], -1, 0, 3, 0, 0, 0⟩ from rfl), fit_mk rfl rfl (fld_some (by decide) hd) rfl rfl (rfl)⟩
theorem kind42 {d s c z n : Int} (h : validF ⟨42, d, s, c, z, n⟩ = true) : ∃ f ∈ formsF, fitsF f ⟨42, d, s, c, z, n⟩ = true := by
  obtain ⟨⟨_, hd, hs, hc⟩, h1, h2, h4, h8, h16, hz⟩ := valid_parts h
  obtain rfl : s = 0 := none_off (by dsimp only; decide) h2
  obtain rfl : n = 0 := none_off (by dsimp only; decide) h4
  obtain rfl : c = 0 := none_off (by dsimp only; decide) h8
  obtain rfl : z = 0 := none_off (by dsimp only; decide) h16
  exact ⟨_, List.mem_of_getElem? (show formsF[48]? = some ⟨42, 0, 0, true, 0, [88], -1, 0, 3, 0, 0, 0⟩ from rfl), fit_mk rfl rfl (fld_some (by decide) hd) rfl rfl (rfl)⟩
theorem kind43 {d s c z n : Int} (h : validF ⟨43, d, s, c, z, n⟩ = true) : ∃ f ∈ formsF, fitsF f ⟨43, d, s, c, z, n⟩ = true := by
  obtain ⟨⟨_, hd, hs, hc⟩, h1, h2, h4, h8, h16, hz⟩ := valid_parts h
  obtain rfl : d = 0 := none_off (by dsimp only; decide) h1
  obtain rfl : s = 0 := none_off (by dsimp only; decide) h2
  obtain rfl : n = 0 := none_off (by dsimp only; decide) h4
  obtain rfl : c = 0 := none_off (by dsimp only; decide) h8
  obtain rfl : z = 0 := none_off (by dsimp only; decide) h16
  exact ⟨_, List.mem_of_getElem? (show formsF[49]? = some ⟨43, 0, 0, false, 0, [15, 5], -1, 0, 0, 0, 0, 0⟩ from rfl), fit_mk rfl rfl rfl rfl rfl (rfl)⟩
theorem kind44 {d s c z n : Int} (h : validF ⟨44, d, s, c, z, n⟩ = true) : ∃ f ∈ formsF, fitsF f ⟨44, d, s, c, z, n⟩ = true := by
  obtain ⟨⟨_, hd, hs, hc⟩, h1, h2, h4, h8, h16, hz⟩ := valid_parts h
  obtain rfl : d = 0 := none_off (by dsimp only; decide) h1
  obtain rfl : s = 0 := none_off (by dsimp only; decide) h2
  obtain rfl : n = 0 := none_off (by dsimp only; decide) h4
  obtain rfl : c = 0 := none_off (by dsimp only; decide) h8
  obtain rfl : z = 0 := none_off (by dsimp only; decide) h16
  exact ⟨_, List.mem_of_getElem? (show formsF[50]? = some ⟨44, 0, 0, false, 0, [15, 11], -1, 0, 0, 0, 0, 0⟩ from rfl), fit_mk rfl rfl rfl rfl rfl (rfl)⟩
theorem kind45 {d s c z n : Int} (h : validF ⟨45, d, s, c, z, n⟩ = true) : ∃ f ∈ formsF, fitsF f ⟨45, d, s, c, z, n⟩ = true := by
  obtain ⟨⟨_, hd, hs, hc⟩, h1, h2, h4, h8, h16, hz⟩ := valid_parts h
  obtain rfl : n = 0 := none_off (by dsimp only; decide) h4
  obtain rfl : c = 0 := none_off (by dsimp only; decide) h8
  obtain rfl : z = 0 := none_off (by dsimp only; decide) h16
  exact ⟨_, List.mem_of_getElem? (show formsF[51]? = some ⟨45, 0, 102, true, 1, [15, 110], 3, 0, 1, 2, 0, 0⟩ from rfl), fit_mk rfl rfl (fld_some (by decide) hd) (fld_some (by decide) hs) rfl (rfl)⟩
theorem kind46 {d s c z n : Int} (h : validF ⟨46, d, s, c, z, n⟩ = true) : ∃ f ∈ formsF, fitsF f ⟨46, d, s, c, z, n⟩ = true := by
  obtain ⟨⟨_, hd, hs, hc⟩, h1, h2, h4, h8, h16, hz⟩ := valid_parts h
  obtain rfl : n = 0 := none_off (by dsimp only; decide) h4
  obtain rfl : c = 0 := none_off (by dsimp only; decide) h8
  obtain rfl : z = 0 := none_off (by dsimp only; decide) h16
  exact ⟨_, List.mem_of_getElem? (show formsF[52]? = some ⟨46, 0, 102, true, 1, [15, 126], 3, 0, 2, 1, 0, 0⟩ from rfl), fit_mk rfl rfl (fld_some (by decide) hd) (fld_some (by decide) hs) rfl (rfl)⟩
theorem kind47 {d s c z n : Int} (h : validF ⟨47, d, s, c, z, n⟩ = true) : ∃ f ∈ formsF, fitsF f ⟨47, d, s, c, z, n⟩ = true := by
  obtain ⟨⟨_, hd, hs, hc⟩, h1, h2, h4, h8, h16, hz⟩ := valid_parts h
  obtain rfl : n = 0 := none_off (by dsimp only; decide) h4
  obtain rfl : c = 0 := none_off (by dsimp only; decide) h8
  obtain rfl : z = 0 := none_off (by dsimp only; decide) h16
  exact ⟨_, List.mem_of_getElem? (show formsF[53]? = some ⟨47, 0, 242, true, 0, [15, 88], 3, 0, 1, 2, 0, 0⟩ from rfl), fit_mk rfl rfl (fld_some (by decide) hd) (fld_some (by decide) hs) rfl (rfl)⟩
theorem kind48 {d s c z n : Int} (h : validF ⟨48, d, s, c, z, n⟩ = true) : ∃ f ∈ formsF, fitsF f ⟨48, d, s, c, z, n⟩ = true := by
  obtain ⟨⟨_, hd, hs, hc⟩, h1, h2, h4, h8, h16, hz⟩ := valid_parts h
  obtain rfl : n = 0 := none_off (by dsimp only; decide) h4
  obtain rfl : c = 0 := none_off (by dsimp only; decide) h8
  obtain rfl : z = 0 := none_off (by dsimp only; decide) h16
  exact ⟨_, List.mem_of_getElem? (show formsF[54]? = some ⟨48, 0, 242, true, 0, [15, 89], 3, 0, 1, 2, 0, 0⟩ from rfl), fit_mk rfl rfl (fld_some (by decide) hd) (fld_some (by decide) hs) rfl (rfl)⟩
theorem kind49 {d s c z n : Int} (h : validF ⟨49, d, s, c, z, n⟩ = true) : ∃ f ∈ formsF, fitsF f ⟨49, d, s, c, z, n⟩ = true := by
  obtain ⟨⟨_, hd, hs, hc⟩, h1, h2, h4, h8, h16, hz⟩ := valid_parts h
  obtain rfl : n = 0 := none_off (by dsimp only; decide) h4
  obtain rfl : c = 0 := none_off (by dsimp only; decide) h8
  obtain rfl : z = 0 := none_off (by dsimp only; decide) h16
  exact ⟨_, List.mem_of_getElem? (show formsF[55]? = some ⟨49, 0, 242, true, 0, [15, 92], 3, 0, 1, 2, 0, 0⟩ from rfl), fit_mk rfl rfl (fld_some (by decide) hd) (fld_some (by decide) hs) rfl (rfl)⟩
theorem kind50 {d s c z n : Int} (h : validF ⟨50, d, s, c, z, n⟩ = true) : ∃ f ∈ formsF, fitsF f ⟨50, d, s, c, z, n⟩ = true := by
  obtain ⟨⟨_, hd, hs, hc⟩, h1, h2, h4, h8, h16, hz⟩ := valid_parts h
  obtain rfl : n = 0 := none_off (by dsimp only; decide) h4
  obtain rfl : c = 0 := none_off (by dsimp only; decide) h8
  obtain rfl : z = 0 := none_off (by dsimp only; decide) h16
  exact ⟨_, List.mem_of_getElem? (show formsF[56]? = some ⟨50, 0, 242, true, 0, [15, 94], 3, 0, 1, 2, 0, 0⟩ from rfl), fit_mk rfl rfl (fld_some (by decide) hd) (fld_some (by decide) hs) rfl (rfl)⟩
theorem kind51 {d s c z n : Int} (h : validF ⟨51, d, s, c, z, n⟩ = true) : ∃ f ∈ formsF, fitsF f ⟨51, d, s, c, z, n⟩ = true := by
  obtain ⟨⟨_, hd, hs, hc⟩, h1, h2, h4, h8, h16, hz⟩ := valid_parts h
  obtain rfl : n = 0 := none_off (by dsimp only; decide) h4
  obtain rfl : c = 0 := none_off (by dsimp only; decide) h8
  obtain rfl : z = 0 := none_off (by dsimp only; decide) h16
  exact ⟨_, List.mem_of_getElem? (show formsF[57]? = some ⟨51, 0, 102, true, 0, [15, 46], 3, 0, 1, 2, 0, 0⟩ from rfl), fit_mk rfl rfl (fld_some (by decide) hd) (fld_some (by decide) hs) rfl (rfl)⟩
theorem kind52 {d s c z n : Int} (h : validF ⟨52, d, s, c, z, n⟩ = true) : ∃ f ∈ formsF, fitsF f ⟨52, d, s, c, z, n⟩ = true := by
  obtain ⟨⟨_, hd, hs, hc⟩, h1, h2, h4, h8, h16, hz⟩ := valid_parts h
  obtain rfl : n = 0 := none_off (by dsimp only; decide) h4
  obtain rfl : c = 0 := none_off (by dsimp only; decide) h8
  obtain rfl : z = 0 := none_off (by dsimp only; decide) h16
  exact ⟨_, List.mem_of_getElem? (show formsF[58]? = some ⟨52, 0, 242, true, 1, [15, 42], 3, 0, 1, 2, 0, 0⟩ from rfl), fit_mk rfl rfl (fld_some (by decide) hd) (fld_some (by decide) hs) rfl (rfl)⟩
theorem valid_form {i : Ins} (h : validF i = true) : ∃ f ∈ formsF, fitsF f i = true := by
  have hk := (validF_regs h).1
  obtain ⟨k, d, s, c, z, n⟩ := i
  have hk : 1 ≤ k ∧ k ≤ 52 := hk
  have hk2 : k = 1 ∨ k = 2 ∨ k = 3 ∨ k = 4 ∨ k = 5 ∨ k = 6 ∨ k = 7 ∨ k = 8 ∨ k = 9 ∨ k = 10 ∨ k = 11 ∨ k = 12 ∨ k = 13 ∨ k = 14 ∨ k = 15 ∨ k = 16 ∨ k = 17 ∨ k = 18 ∨ k = 19 ∨ k = 20 ∨ k = 21 ∨ k = 22 ∨ k = 23 ∨ k = 24 ∨ k = 25 ∨ k = 26 ∨ k = 27 ∨ k = 28 ∨ k = 29 ∨ k = 30 ∨ k = 31 ∨ k = 32 ∨ k = 33 ∨ k = 34 ∨ k = 35 ∨ k = 36 ∨ k = 37 ∨ k = 38 ∨ k = 39 ∨ k = 40 ∨ k = 41 ∨ k = 42 ∨ k = 43 ∨ k = 44 ∨ k = 45 ∨ k = 46 ∨ k = 47 ∨ k = 48 ∨ k = 49 ∨ k = 50 ∨ k = 51 ∨ k = 52 := by omega
  rcases hk2 with rfl | rfl | rfl | rfl | rfl | rfl | rfl | rfl | rfl | rfl | rfl | rfl | rfl | rfl | rfl | rfl | rfl | rfl | rfl | rfl | rfl | rfl | rfl | rfl | rfl | rfl | rfl | rfl | rfl | rfl | rfl | rfl | rfl | rfl | rfl | rfl | rfl | rfl | rfl | rfl | rfl | rfl | rfl | rfl | rfl | rfl | rfl | rfl | rfl | rfl | rfl | rfl
  · exact kind1 h
  · exact kind2 h
  · exact kind3 h
  · exact kind4 h
  · exact kind5 h
  · exact kind6 h
  · exact kind7 h
  · exact kind8 h
  · exact kind9 h
  · exact kind10 h
  · exact kind11 h
  · exact kind12 h
  · exact kind13 h
  · exact kind14 h
  · exact kind15 h
  · exact kind16 h
  · exact kind17 h
  · exact kind18 h
  · exact kind19 h
  · exact kind20 h
  · exact kind21 h
  · exact kind22 h
  · exact kind23 h
  · exact kind24 h
  · exact kind25 h
  · exact kind26 h
  · exact kind27 h
  · exact kind28 h
  · exact kind29 h
  · exact kind30 h
  · exact kind31 h
  · exact kind32 h
  · exact kind33 h
  · exact kind34 h
  · exact kind35 h
  · exact kind36 h
  · exact kind37 h
  · exact kind38 h
  · exact kind39 h
  · exact kind40 h
  · exact kind41 h
  · exact kind42 h
  · exact kind43 h
  · exact kind44 h
  · exact kind45 h
  · exact kind46 h
  · exact kind47 h
  · exact kind48 h
  · exact kind49 h
  · exact kind50 h
  · exact kind51 h
  · exact kind52 h
theorem refF_some {i : Ins} (h : validF i = true) : ∃ f, refF i = some f ∧ f ∈ formsF ∧ fitsF f i = true := by
  cases hf : refF i with
  | none =>
    obtain ⟨f, h1, h2⟩ := valid_form h
    have := List.find?_eq_none.1 hf f h1
    exact absurd h2 this
  | some f => exact ⟨f, rfl, List.mem_of_find?_eq_some hf, List.find?_some (p := fun f => fitsF f i) hf⟩
end Go.Proofs.YtjndpakhmgapjaaDoor

namespace Go.Proofs.YtjndpakhmgapjaaDoor
open Go Go.RowKit
set_option linter.unusedSimpArgs false
set_option linter.unusedVariables false
set_option linter.unnecessarySimpa false
structure Rd where
  at_ : Nat
  cut : Bool
  wrong : Bool
  deriving DecidableEq
structure Rx where
  wide : Int
  reg : Int
  rm : Int
  deriving DecidableEq
def rdCells (bs : List UInt8) (r : Rd) : List T := [u8s bs, .v (.int .i64 (r.at_ : Int)), .v (.bool r.cut), .v (.bool r.wrong)]
def rxVals (x : Rx) : List Value := [.int .i64 x.wide, .int .i64 x.reg, .int .i64 x.rm]
def rxCells (x : Rx) : List T := [.v (.int .i64 x.wide), .v (.int .i64 x.reg), .v (.int .i64 x.rm)]
def rxT (x : Rx) : T := .agg (rxCells x)
def nilI : Ins := ⟨0, 0, 0, 0, 0, 0⟩
def byteAt (bs : List UInt8) (k : Nat) : Int := ((bs.getD k 0).toNat : Int)
def nextF (bs : List UInt8) (r : Rd) : Int × Rd :=
  if (r.cut || r.wrong) = true then (0, r) else if r.at_ = bs.length then (0, ⟨r.at_, true, r.wrong⟩) else (byteAt bs r.at_, ⟨r.at_ + 1, r.cut, r.wrong⟩)
def mustF (r : Rd) (is : Bool) : Rd := if (!r.cut && !is) = true then ⟨r.at_, r.cut, true⟩ else r
abbrev orI (a b : Int) : Int := bitsOf .or .i64 a b
abbrev andI (a b : Int) : Int := bitsOf .and .i64 a b
def splitF (x : Int) : Rx := ⟨x / 8 % 2, x / 4 % 2 * 8, x % 2 * 8⟩
/-- So many bytes, the lowest first, as one number. -/
def immS (bs : List UInt8) (r : Rd) : Nat → Int × Rd
  | 0 => (0, r)
  | k + 1 => ((immS bs r k).1 + (nextF bs (immS bs r k).2).1 * 256 ^ k, (nextF bs (immS bs r k).2).2)
def sgn (k : Nat) (n : Int) : Int := if 2 * n < 256 ^ k then n else n - 256 ^ k
def immV (bs : List UInt8) (r : Rd) (k : Nat) : Int := sgn k (immS bs r k).1
def immD (bs : List UInt8) (r : Rd) (k : Nat) : Rd := (immS bs r k).2
def twoV (bs : List UInt8) (x : Rx) (r : Rd) : Int × Int := (orI x.reg ((nextF bs r).1 / 8 % 8), orI x.rm ((nextF bs r).1 % 8))
def twoD (bs : List UInt8) (r : Rd) : Rd := mustF (nextF bs r).2 (decide ((nextF bs r).1 / 64 = 3))
def oneV (bs : List UInt8) (x : Rx) (r : Rd) : Int × Int := twoV bs x (mustF r (decide (x.reg = 0)))
def oneD (bs : List UInt8) (x : Rx) (r : Rd) : Rd := twoD bs (mustF r (decide (x.reg = 0)))
def memD1 (bs : List UInt8) (r : Rd) : Rd := mustF (nextF bs r).2 (decide ((nextF bs r).1 / 64 = 2))
def memD2 (bs : List UInt8) (r : Rd) : Rd := if (nextF bs r).1 % 8 = 4 then mustF (nextF bs (memD1 bs r)).2 (decide ((nextF bs (memD1 bs r)).1 = 36)) else memD1 bs r
def memV (bs : List UInt8) (x : Rx) (r : Rd) : Int × Int × Int := (orI x.reg ((nextF bs r).1 / 8 % 8), orI x.rm ((nextF bs r).1 % 8), immV bs (memD2 bs r) 4)
def memD (bs : List UInt8) (r : Rd) : Rd := immD bs (memD2 bs r) 4
def peekF (bs : List UInt8) (r : Rd) : Bool := decide ((r.at_ : Int) < (bs.length : Int)) && decide (byteAt bs r.at_ / 64 = 2)
def movedR (bs : List UInt8) (x : Rx) (r : Rd) : Ins × Rd :=
  if peekF bs r = true then (⟨4, (memV bs x r).2.1, (memV bs x r).1, 0, 8, (memV bs x r).2.2⟩, memD bs r) else (⟨1, (twoV bs x r).2, (twoV bs x r).1, 0, 0, 0⟩, twoD bs r)
def kindsN : List Int := [15, 16, 17, 18, 19, 20, 22, 23, 24, 25, 26, 27, 28, 29, 30, 31]
def stepN (op n a k : Int) : Int := if (decide ((opF k).1 = op) && decide ((opF k).2 = n)) = true then k else a
def kindN (op n : Int) (j : Nat) : Int := (kindsN.take j).foldl (stepN op n) 0
def numD1 (bs : List UInt8) (x : Rx) (op : Int) (r : Rd) : Rd := mustF (oneD bs x r) (decide (0 < kindN op (oneV bs x r).1 16))
def numberedR (bs : List UInt8) (x : Rx) (op : Int) (r : Rd) : Ins × Rd :=
  if op = 129 then (⟨kindN op (oneV bs x r).1 16, (oneV bs x r).2, 0, 0, 0, immV bs (numD1 bs x op r) 4⟩, immD bs (numD1 bs x op r) 4)
  else if op = 193 then (⟨kindN op (oneV bs x r).1 16, (oneV bs x r).2, 0, 0, 0, immV bs (numD1 bs x op r) 1⟩, mustF (immD bs (numD1 bs x op r) 1) (decide (0 ≤ immV bs (numD1 bs x op r) 1) && decide (immV bs (numD1 bs x op r) 1 ≤ 63)))
  else (⟨kindN op (oneV bs x r).1 16, (oneV bs x r).2, 0, 0, 0, 0⟩, numD1 bs x op r)
def narrowR (bs : List UInt8) (x : Rx) (op : Int) (r : Rd) : Ins × Rd :=
  if op = 139 then (⟨3, (memV bs x r).1, (memV bs x r).2.1, 0, 4, (memV bs x r).2.2⟩, memD bs r)
  else if op = 137 then (⟨4, (memV bs x r).2.1, (memV bs x r).1, 0, 4, (memV bs x r).2.2⟩, memD bs r)
  else if op = 136 then (⟨4, (memV bs x r).2.1, (memV bs x r).1, 0, 1, (memV bs x r).2.2⟩, memD bs r)
  else if op = 255 then (⟨if (oneV bs x r).1 = 2 then 38 else 39, (oneV bs x r).2, 0, 0, 0, 0⟩, mustF (oneD bs x r) (decide ((oneV bs x r).1 = 2) || decide ((oneV bs x r).1 = 4)))
  else if andI op 248 = 80 then (⟨41, orI x.rm (op % 8), 0, 0, 0, 0⟩, mustF r (decide (x.reg = 0)))
  else if andI op 248 = 88 then (⟨42, orI x.rm (op % 8), 0, 0, 0, 0⟩, mustF r (decide (x.reg = 0)))
  else (nilI, mustF r false)
def farD1 (x : Rx) (r : Rd) : Rd := mustF r (decide (x.wide = 1) || decide (x.reg = 0))
def farIn (bs : List UInt8) (x : Rx) (op : Int) (r : Rd) : Ins × Rd :=
  if (decide (x.wide = 0) && decide (andI op 240 = 144)) = true then (⟨32, (oneV bs x r).2, 0, op % 16, 0, 0⟩, mustF (oneD bs x r) (decide ((oneV bs x r).1 = 0)))
  else if (decide (x.wide = 1) && decide (andI op 240 = 64)) = true then (⟨34, (twoV bs x r).1, (twoV bs x r).2, op % 16, 0, 0⟩, twoD bs r)
  else if (decide (x.wide = 1) && decide (op = 175)) = true then (⟨21, (twoV bs x r).1, (twoV bs x r).2, 0, 0, 0⟩, twoD bs r)
  else if (decide (x.wide = 1) && decide (op = 182)) = true then
    if peekF bs r = true then (⟨3, (memV bs x r).1, (memV bs x r).2.1, 0, 1, (memV bs x r).2.2⟩, memD bs r) else (⟨33, (twoV bs x r).1, (twoV bs x r).2, 0, 0, 0⟩, twoD bs r)
  else (nilI, mustF r false)
def farR (bs : List UInt8) (x : Rx) (r : Rd) : Ins × Rd :=
  if ((nextF bs (farD1 x r)).2.cut || (nextF bs (farD1 x r)).2.wrong) = true then (nilI, (nextF bs (farD1 x r)).2) else farIn bs x (nextF bs (farD1 x r)).1 (nextF bs (farD1 x r)).2
def realK (first : Int) (x : Rx) (op : Int) : Int :=
  if (decide (first = 102) && decide (x.wide = 1) && decide (op = 110)) = true then 45
  else if (decide (first = 102) && decide (x.wide = 0) && decide (op = 46)) = true then 51
  else if (decide (first = 242) && decide (x.wide = 1) && decide (op = 42)) = true then 52
  else if (decide (first = 242) && decide (x.wide = 0) && decide (op = 88)) = true then 47
  else if (decide (first = 242) && decide (x.wide = 0) && decide (op = 89)) = true then 48
  else if (decide (first = 242) && decide (x.wide = 0) && decide (op = 92)) = true then 49
  else if (decide (first = 242) && decide (x.wide = 0) && decide (op = 94)) = true then 50
  else 0
def realIn (bs : List UInt8) (first : Int) (x : Rx) (op : Int) (r : Rd) : Ins × Rd :=
  if (decide (first = 102) && decide (x.wide = 1) && decide (op = 126)) = true then (⟨46, (twoV bs x r).2, (twoV bs x r).1, 0, 0, 0⟩, twoD bs r)
  else (⟨realK first x op, (twoV bs x (mustF r (decide (0 < realK first x op)))).1, (twoV bs x (mustF r (decide (0 < realK first x op)))).2, 0, 0, 0⟩, twoD bs (mustF r (decide (0 < realK first x op))))
def realD1 (bs : List UInt8) (r : Rd) : Rd := mustF (nextF bs r).2 (decide (andI (nextF bs r).1 242 = 64))
def realD2 (bs : List UInt8) (r : Rd) : Rd := mustF (nextF bs (realD1 bs r)).2 (decide ((nextF bs (realD1 bs r)).1 = 15))
def realR (bs : List UInt8) (first : Int) (r : Rd) : Ins × Rd :=
  if (nextF bs r).2.cut = true then (nilI, (nextF bs r).2)
  else if ((nextF bs (realD2 bs r)).2.cut || (nextF bs (realD2 bs r)).2.wrong) = true then (nilI, (nextF bs (realD2 bs r)).2)
  else realIn bs first (splitF (nextF bs r).1) (nextF bs (realD2 bs r)).1 (nextF bs (realD2 bs r)).2
def kindsP : List Int := [6, 7, 8, 9, 10, 11, 12, 13, 14]
def kindP (op : Int) : Option Int := kindsP.find? (fun k => decide ((opF k).1 = op))
def prefIn (bs : List UInt8) (x : Rx) (op : Int) (r : Rd) : Ins × Rd :=
  if op = 15 then farR bs x r
  else if x.wide = 0 then narrowR bs x op r
  else if andI op 248 = 184 then (⟨2, orI x.rm (op % 8), 0, 0, 0, immV bs (mustF r (decide (x.reg = 0))) 8⟩, mustF (immD bs (mustF r (decide (x.reg = 0))) 8) (!smallF (immV bs (mustF r (decide (x.reg = 0))) 8)))
  else if op = 139 then (⟨3, (memV bs x r).1, (memV bs x r).2.1, 0, 8, (memV bs x r).2.2⟩, memD bs r)
  else if op = 141 then (⟨5, (memV bs x r).1, (memV bs x r).2.1, 0, 0, (memV bs x r).2.2⟩, memD bs r)
  else if op = 137 then movedR bs x r
  else if op = 199 then (⟨2, (oneV bs x r).2, 0, 0, 0, immV bs (mustF (oneD bs x r) (decide ((oneV bs x r).1 = 0))) 4⟩, immD bs (mustF (oneD bs x r) (decide ((oneV bs x r).1 = 0))) 4)
  else if op = 129 ∨ op = 247 ∨ op = 211 ∨ op = 193 then numberedR bs x op r
  else match kindP op with
    | some k => (⟨k, (twoV bs x r).2, (twoV bs x r).1, 0, 0, 0⟩, twoD bs r)
    | none => (nilI, mustF r false)
def prefR (bs : List UInt8) (x : Rx) (r : Rd) : Ins × Rd :=
  if ((nextF bs r).2.cut || (nextF bs r).2.wrong) = true then (nilI, (nextF bs r).2) else prefIn bs x (nextF bs r).1 (nextF bs r).2
def insTwo (bs : List UInt8) (r : Rd) : Ins × Rd :=
  if (nextF bs r).1 = 5 then (⟨43, 0, 0, 0, 0, 0⟩, (nextF bs r).2)
  else if (nextF bs r).1 = 11 then (⟨44, 0, 0, 0, 0, 0⟩, (nextF bs r).2)
  else if andI (nextF bs r).1 240 = 128 then (⟨36, 0, 0, (nextF bs r).1 % 16, 4, immV bs (nextF bs r).2 4⟩, immD bs (nextF bs r).2 4)
  else (nilI, mustF (nextF bs r).2 false)
def insIn (bs : List UInt8) (x : Int) (r : Rd) : Ins × Rd :=
  if andI x 240 = 64 then prefR bs (splitF x) (mustF r (decide (andI x 2 = 0)))
  else if (decide (x = 102) || decide (x = 242)) = true then realR bs x r
  else if andI x 240 = 112 then (⟨36, 0, 0, x % 16, 1, immV bs r 1⟩, immD bs r 1)
  else if x = 235 then (⟨35, 0, 0, 0, 1, immV bs r 1⟩, immD bs r 1)
  else if x = 233 then (⟨35, 0, 0, 0, 4, immV bs r 4⟩, immD bs r 4)
  else if x = 232 then (⟨37, 0, 0, 0, 0, immV bs r 4⟩, immD bs r 4)
  else if x = 195 then (⟨40, 0, 0, 0, 0, 0⟩, r)
  else if x = 15 then insTwo bs r
  else (nilI, mustF r false)
def insR (bs : List UInt8) (r : Rd) : Ins × Rd :=
  if (nextF bs r).2.cut = true then (nilI, (nextF bs r).2) else insIn bs (nextF bs r).1 (nextF bs r).2
def rd0 : Rd := ⟨0, false, false⟩
def decI (bs : List UInt8) : Ins := if (insR bs rd0).2.wrong = true ∨ (insR bs rd0).2.cut = true then nilI else (insR bs rd0).1
def decN (bs : List UInt8) : Nat := if (insR bs rd0).2.wrong = true ∨ (insR bs rd0).2.cut = true then 0 else (insR bs rd0).2.at_
def decE (bs : List UInt8) : Int := if (insR bs rd0).2.wrong = true then 201 else if (insR bs rd0).2.cut = true then 202 else 0

section
variable {cx : Cx} {env : Env} {ops : Array Oper} {l : List Oper} {K : Env → St → Prop} {x : Ent} {E R : St}
/-- What a call has left behind its first entry goes behind what stood there. -/
theorem AWL.tuck (h : AWL cx ops l K env ((x :: R) ++ E)) : AWL cx ops l K env ((x :: E) ++ R) := by
  refine AWL.perm (S' := (x :: R) ++ E) ?_ h
  exact List.Perm.cons x List.perm_append_comm
end
/-! ### ranges -/
theorem byteAt_range (bs : List UInt8) (k : Nat) : 0 ≤ byteAt bs k ∧ byteAt bs k ≤ 255 := u8_toNat _
theorem next_range (bs : List UInt8) (r : Rd) : 0 ≤ (nextF bs r).1 ∧ (nextF bs r).1 ≤ 255 := by
  unfold nextF
  split
  · exact ⟨Int.le_refl 0, show (0 : Int) ≤ 255 by decide⟩
  · split
    · exact ⟨Int.le_refl 0, show (0 : Int) ≤ 255 by decide⟩
    · exact byteAt_range bs _
def RdOk (bs : List UInt8) (r : Rd) : Prop := r.at_ ≤ bs.length
theorem next_ok {bs : List UInt8} {r : Rd} (h : RdOk bs r) : RdOk bs (nextF bs r).2 := by
  unfold nextF
  split
  · exact h
  · split
    · exact h
    · unfold RdOk at h ⊢
      show r.at_ + 1 ≤ bs.length
      omega
theorem must_ok {bs : List UInt8} {r : Rd} (h : RdOk bs r) (is : Bool) : RdOk bs (mustF r is) := by
  unfold mustF
  split <;> exact h
theorem imm_ok {bs : List UInt8} {r : Rd} (h : RdOk bs r) : ∀ k, RdOk bs (immS bs r k).2
  | 0 => h
  | k + 1 => next_ok (imm_ok h k)
theorem imm_range (bs : List UInt8) (r : Rd) : ∀ k, 0 ≤ (immS bs r k).1 ∧ (immS bs r k).1 < 256 ^ k
  | 0 => ⟨Int.le_refl _, show (0 : Int) < 1 by decide⟩
  | k + 1 => by
    obtain ⟨h1, h2⟩ := imm_range bs r k
    obtain ⟨h3, h4⟩ := next_range bs (immS bs r k).2
    have hp : (0 : Int) < 256 ^ k := Int.pow_pos (by decide)
    have h5 : 0 ≤ (nextF bs (immS bs r k).2).1 * 256 ^ k := Int.mul_nonneg h3 (by omega)
    have h6 : (nextF bs (immS bs r k).2).1 * 256 ^ k ≤ 255 * 256 ^ k := Int.mul_le_mul_of_nonneg_right h4 (by omega)
    have e : (256 : Int) ^ (k + 1) = 256 ^ k * 256 := Int.pow_succ ..
    show 0 ≤ (immS bs r k).1 + _ ∧ (immS bs r k).1 + _ < 256 ^ (k + 1)
    rw [e]
    omega

/-! ### numbers, byte by byte -/
theorem or_add (n v : Nat) (j : Nat) (hn : n < 2 ^ j) : n ||| v * 2 ^ j = n + v * 2 ^ j := by
  rw [Nat.or_comm, Nat.add_comm, Nat.mul_comm, Nat.two_pow_add_eq_or_of_lt hn]
theorem p256 (j : Nat) : (256 : Nat) ^ j = 2 ^ (8 * j) := by
  rw [Nat.pow_mul]
theorem or_shl {n v : Int} {j : Nat} (hj : j < 8) (h0 : 0 ≤ n) (h1 : n < 256 ^ j) (hv0 : 0 ≤ v) (hv1 : v ≤ 255) : bitsOf .or .u64 n (shlOf .u64 v (8 * (j : Int))) = n + v * 256 ^ j := by
  obtain ⟨n, rfl⟩ := Int.eq_ofNat_of_zero_le h0
  obtain ⟨v, rfl⟩ := Int.eq_ofNat_of_zero_le hv0
  have hp : (256 : Int) ^ j = ((256 ^ j : Nat) : Int) := by rw [Int.natCast_pow]; rfl
  rw [hp] at h1 ⊢
  have h1 : n < 256 ^ j := by omega
  have hv1 : v ≤ 255 := by omega
  have hle : (256 : Nat) ^ j ≤ 256 ^ 7 := Nat.pow_le_pow_right (by decide) (by omega)
  have hb : v * 256 ^ j ≤ 255 * 256 ^ j := Nat.mul_le_mul_right _ hv1
  have hs : shlOf .u64 (v : Int) (8 * (j : Int)) = ((v * 256 ^ j : Nat) : Int) := by
    unfold shlOf
    have e1 : (8 * (j : Int)).toNat = 8 * j := by omega
    have e2 : min (8 * j) IntKind.u64.bits = 8 * j := Nat.min_eq_left (by show 8 * j ≤ 64; omega)
    rw [e1, e2]
    have e3 : (v : Int) * 2 ^ (8 * j) = ((v * 256 ^ j : Nat) : Int) := by rw [p256, Int.natCast_mul, Int.natCast_pow]; rfl
    rw [e3]
    exact IntWalk.u64_in _ ⟨by omega, by omega⟩
  rw [hs]
  show IntKind.u64.wrap ((BitVec.ofInt 64 (n : Int) ||| BitVec.ofInt 64 ((v * 256 ^ j : Nat) : Int)).toNat : Int) = _
  have en : BitVec.ofInt 64 (n : Int) = BitVec.ofNat 64 n := by rw [BitVec.ofInt_natCast]
  have ev : BitVec.ofInt 64 ((v * 256 ^ j : Nat) : Int) = BitVec.ofNat 64 (v * 256 ^ j) := by rw [BitVec.ofInt_natCast]
  rw [en, ev, BitVec.toNat_or, BitVec.toNat_ofNat, BitVec.toNat_ofNat, Nat.mod_eq_of_lt (by omega), Nat.mod_eq_of_lt (by omega)]
  have := or_add n v (8 * j) (by rw [← p256]; exact h1)
  rw [← p256] at this
  rw [this, ← Int.natCast_mul, ← Int.natCast_add]
  exact IntWalk.u64_in _ ⟨by omega, by omega⟩
theorem sgn_eq {k : Nat} (hk : k = 1 ∨ k = 4 ∨ k = 8) {n : Int} (h0 : 0 ≤ n) (h1 : n < 256 ^ k) : shrOf .i64 (IntKind.i64.wrap (shlOf .u64 n (64 - 8 * (k : Int)))) (64 - 8 * (k : Int)) = sgn k n := by
  unfold shrOf shlOf sgn
  rcases hk with rfl | rfl | rfl
  · show (IntKind.i64.wrap (IntKind.u64.wrap (n * 72057594037927936))).fdiv 72057594037927936 = if 2 * n < 256 then n else n - 256
    rw [Int.fdiv_eq_ediv_of_nonneg _ (by decide), IntKind.wrap_i64, IntKind.wrap_u64]
    have h1 : n < 256 := h1
    split <;> omega
  · show (IntKind.i64.wrap (IntKind.u64.wrap (n * 4294967296))).fdiv 4294967296 = if 2 * n < 4294967296 then n else n - 4294967296
    rw [Int.fdiv_eq_ediv_of_nonneg _ (by decide), IntKind.wrap_i64, IntKind.wrap_u64]
    have h1 : n < 4294967296 := h1
    split <;> omega
  · show (IntKind.i64.wrap (IntKind.u64.wrap (n * 1))).fdiv 1 = if 2 * n < 18446744073709551616 then n else n - 18446744073709551616
    rw [Int.fdiv_eq_ediv_of_nonneg _ (by decide), IntKind.wrap_i64, IntKind.wrap_u64]
    have h1 : n < 18446744073709551616 := h1
    split <;> omega
theorem kindN_next (op n : Int) {j : Nat} (h : j < 16) : kindN op n (j + 1) = stepN op n (kindN op n j) (kindsN.getD j 0) := by
  have hl : j < kindsN.length := h
  unfold kindN
  rw [List.take_succ_eq_append_getElem hl, List.foldl_append, List.getD_eq_getElem?_getD, List.getElem?_eq_getElem hl]
  rfl
theorem kindP_at {op : Int} {j : Nat} (hj : j < 9) (hp : ∀ i, i < j → ¬ (opF (kindsP.getD i 0)).1 = op) (h : (opF (kindsP.getD j 0)).1 = op) : kindP op = some (kindsP.getD j 0) := by
  have hl : j < kindsP.length := hj
  have g : ∀ i (hi : i < kindsP.length), kindsP.getD i 0 = kindsP[i] := fun i hi => by
    rw [List.getD_eq_getElem?_getD, List.getElem?_eq_getElem hi]; rfl
  rw [kindP, g j hl, List.find?_eq_some_iff_getElem]
  rw [g j hl] at h
  refine ⟨by rw [decide_eq_true_eq]; exact h, j, hl, rfl, fun i hi => ?_⟩
  have := hp i hi
  rw [g i (by omega)] at this
  rw [decide_eq_false this]; rfl
theorem kindP_none {op : Int} (hp : ∀ i, i < 9 → ¬ (opF (kindsP.getD i 0)).1 = op) : kindP op = none := by
  rw [kindP, List.find?_eq_none]
  intro k hk
  obtain ⟨i, hi, rfl⟩ := List.mem_iff_getElem.1 hk
  have := hp i hi
  rw [List.getD_eq_getElem?_getD, List.getElem?_eq_getElem hi] at this
  rw [decide_eq_true_eq]; exact this
theorem one_ok {bs : List UInt8} {r : Rd} (h : RdOk bs r) (x : Rx) : RdOk bs (oneD bs x r) := must_ok (next_ok (must_ok h _)) _
end Go.Proofs.YtjndpakhmgapjaaDoor

namespace Go.Proofs.YtjndpakhmgapjaaDoor
open Go Go.RowKit
set_option linter.unusedSimpArgs false
set_option linter.unusedVariables false
set_option linter.unnecessarySimpa false
theorem bo {x : Int} (h0 : 0 ≤ x) (h1 : x ≤ 255) : ((byteOf x).toNat : Int) = x := by
  unfold byteOf
  rw [UInt8.toNat_ofNat']
  omega
abbrev R0 (k : Nat) : Rd := ⟨k, false, false⟩
theorem nx {bs : List UInt8} {k : Nat} (h : k < bs.length) : nextF bs (R0 k) = (byteAt bs k, R0 (k + 1)) := by
  rw [nextF, if_neg (by show ¬ (false || false) = true; decide), if_neg (by show ¬ k = bs.length; omega)]
theorem mx {k : Nat} {is : Bool} (h : is = true) : mustF (R0 k) is = R0 k := by
  subst h
  rfl
theorem leBytes_get : ∀ (m j : Nat) (n : Int), j < m → (leBytes m n)[j]? = some (UInt8.ofNat (n / 256 ^ j % 256).toNat)
  | 0, j, _, h => absurd h (by omega)
  | m + 1, 0, n, _ => by simp [leBytes]
  | m + 1, j + 1, n, h => by
    rw [leBytes, List.getElem?_cons_succ, leBytes_get m j (n / 256) (by omega), Int.pow_succ, Int.mul_comm, Int.ediv_ediv_of_nonneg (by decide)]
theorem mod_next (n : Int) (j : Nat) : n % 256 ^ j + n / 256 ^ j % 256 * 256 ^ j = n % 256 ^ (j + 1) := by
  have hp : (0 : Int) < 256 ^ j := Int.pow_pos (by decide)
  have e0 : (256 : Int) ^ (j + 1) = 256 ^ j * 256 := Int.pow_succ ..
  have a1 := Int.emod_add_mul_ediv n (256 ^ j)
  have a2 := Int.emod_add_mul_ediv (n / 256 ^ j) 256
  have b1 := Int.emod_nonneg n (show (256 : Int) ^ j ≠ 0 by omega)
  have b2 := Int.emod_lt_of_pos n hp
  have c1 := Int.emod_nonneg (n / 256 ^ j) (show (256 : Int) ≠ 0 by decide)
  have c2 := Int.emod_lt_of_pos (n / 256 ^ j) (show (0 : Int) < 256 by decide)
  have d1 : 0 ≤ n / 256 ^ j % 256 * 256 ^ j := Int.mul_nonneg c1 (by omega)
  have d2 : n / 256 ^ j % 256 * 256 ^ j ≤ 255 * 256 ^ j := Int.mul_le_mul_of_nonneg_right (by omega) (by omega)
  have e : n = (n % 256 ^ j + n / 256 ^ j % 256 * 256 ^ j) + 256 ^ (j + 1) * (n / 256 ^ j / 256) := by
    have : 256 ^ j * (n / 256 ^ j) = n / 256 ^ j % 256 * 256 ^ j + 256 ^ (j + 1) * (n / 256 ^ j / 256) := by
      have h3 : 256 ^ j * (n / 256 ^ j) = 256 ^ j * (n / 256 ^ j % 256 + 256 * (n / 256 ^ j / 256)) := by rw [a2]
      rw [h3, Int.mul_add, Int.mul_comm (256 ^ j) (n / 256 ^ j % 256), e0, Int.mul_assoc]
    omega
  have h := Int.add_mul_emod_self_left (n % 256 ^ j + n / 256 ^ j % 256 * 256 ^ j) (256 ^ (j + 1)) (n / 256 ^ j / 256)
  rw [← e] at h
  exact (h.trans (Int.emod_eq_of_lt (by omega) (by rw [e0]; omega))).symm
theorem imm_at (pre rest : List UInt8) (m : Nat) (n : Int) : ∀ j, j ≤ m → immS (pre ++ (leBytes m n ++ rest)) (R0 pre.length) j = (n % 256 ^ j, R0 (pre.length + j))
  | 0, _ => by
    show (0, R0 pre.length) = _
    rw [Int.pow_zero, Int.emod_one]
    rfl
  | j + 1, h => by
    have ih := imm_at pre rest m n j (by omega)
    have hl : pre.length + j < (pre ++ (leBytes m n ++ rest)).length := by
      rw [List.length_append, List.length_append, leBytes_length]; omega
    have hb : byteAt (pre ++ (leBytes m n ++ rest)) (pre.length + j) = n / 256 ^ j % 256 := by
      unfold byteAt
      rw [List.getD_eq_getElem?_getD, List.getElem?_append_right (by omega), Nat.add_sub_cancel_left, List.getElem?_append_left (by rw [leBytes_length]; omega), leBytes_get m j n (by omega)]
      show ((UInt8.ofNat (n / 256 ^ j % 256).toNat).toNat : Int) = _
      rw [UInt8.toNat_ofNat']
      have c1 := Int.emod_nonneg (n / 256 ^ j) (show (256 : Int) ≠ 0 by decide)
      have c2 := Int.emod_lt_of_pos (n / 256 ^ j) (show (0 : Int) < 256 by decide)
      omega
    show ((immS _ _ j).1 + (nextF _ (immS _ _ j).2).1 * 256 ^ j, (nextF _ (immS _ _ j).2).2) = _
    rw [ih, nx hl, hb]
    show (n % 256 ^ j + n / 256 ^ j % 256 * 256 ^ j, _) = _
    rw [mod_next]
    rfl
theorem sgn1 {n : Int} (h0 : -128 ≤ n) (h1 : n ≤ 127) : sgn 1 (n % 256 ^ 1) = n := by
  unfold sgn
  show (if 2 * (n % 256) < 256 then n % 256 else n % 256 - 256) = n
  split <;> omega
theorem sgn4 {n : Int} (h : smallF n = true) : sgn 4 (n % 256 ^ 4) = n := by
  unfold smallF inF at h
  rw [Bool.and_eq_true, decide_eq_true_eq, decide_eq_true_eq] at h
  unfold sgn
  show (if 2 * (n % 4294967296) < 4294967296 then n % 4294967296 else n % 4294967296 - 4294967296) = n
  split <;> omega
theorem sgn8 {n : Int} (h : I64 n) : sgn 8 (n % 256 ^ 8) = n := by
  unfold I64 at h
  unfold sgn
  show (if 2 * (n % 18446744073709551616) < 18446744073709551616 then n % 18446744073709551616 else n % 18446744073709551616 - 18446744073709551616) = n
  split <;> omega
theorem imm_v {pre rest : List UInt8} {m : Nat} {n : Int} (h : sgn m (n % 256 ^ m) = n) : immV (pre ++ (leBytes m n ++ rest)) (R0 pre.length) m = n ∧ immD (pre ++ (leBytes m n ++ rest)) (R0 pre.length) m = R0 (pre.length + m) := by
  unfold immV immD
  rw [imm_at pre rest m n m (Nat.le_refl _)]
  exact ⟨h, rfl⟩
/-- A register in two parts. -/
theorem reg_parts {p : Int} (hp : 0 ≤ p ∧ p ≤ 15) : orI (p / 8 * 8) (p % 8) = p := fin16 hp (fun p => orI (p / 8 * 8) (p % 8) = p) (by decide)
theorem rex_at {w p q : Int} (hw : w = 0 ∨ w = 1) (hp : 0 ≤ p ∧ p ≤ 15) (hq : 0 ≤ q ∧ q ≤ 15) : andI (64 + p / 8 * 4 + q / 8 + 8 * w) 240 = 64 ∧ andI (64 + p / 8 * 4 + q / 8 + 8 * w) 2 = 0 ∧ splitF (64 + p / 8 * 4 + q / 8 + 8 * w) = ⟨w, p / 8 * 8, q / 8 * 8⟩ ∧ andI (64 + p / 8 * 4 + q / 8 + 8 * w) 242 = 64 ∧ 64 ≤ 64 + p / 8 * 4 + q / 8 + 8 * w ∧ 64 + p / 8 * 4 + q / 8 + 8 * w ≤ 77 := by
  have h1 : p / 8 = 0 ∨ p / 8 = 1 := by omega
  have h2 : q / 8 = 0 ∨ q / 8 = 1 := by omega
  rcases hw with rfl | rfl <;> rcases h1 with h1 | h1 <;> rcases h2 with h2 | h2 <;> rw [h1, h2] <;> decide
theorem rexN_eq (w : Int) (b : Bool) (hw : w = if b then 1 else 0) (p q : Int) : rexN b p q = 64 + p / 8 * 4 + q / 8 + 8 * w := by
  subst hw
  cases b <;> simp [rexN]
theorem two_at {bs : List UInt8} {k : Nat} {w p q : Int} (hp : 0 ≤ p ∧ p ≤ 15) (hq : 0 ≤ q ∧ q ≤ 15) (hl : k < bs.length) (hb : byteAt bs k = twoN p q) : twoV bs ⟨w, p / 8 * 8, q / 8 * 8⟩ (R0 k) = (p, q) ∧ twoD bs (R0 k) = R0 (k + 1) := by
  unfold twoV twoD
  rw [nx hl, hb]
  unfold twoN
  have e1 : (192 + p % 8 * 8 + q % 8) / 8 % 8 = p % 8 := by omega
  have e2 : (192 + p % 8 * 8 + q % 8) % 8 = q % 8 := by omega
  have e3 : (192 + p % 8 * 8 + q % 8) / 64 = 3 := by omega
  dsimp only
  rw [e1, e2, e3, reg_parts hp, reg_parts hq]
  exact ⟨rfl, rfl⟩
theorem one_at {bs : List UInt8} {k : Nat} {w g q : Int} (hg : 0 ≤ g ∧ g ≤ 7) (hq : 0 ≤ q ∧ q ≤ 15) (hl : k < bs.length) (hb : byteAt bs k = twoN g q) : oneV bs ⟨w, 0, q / 8 * 8⟩ (R0 k) = (g, q) ∧ oneD bs ⟨w, 0, q / 8 * 8⟩ (R0 k) = R0 (k + 1) := by
  have h := two_at (bs := bs) (k := k) (w := w) (p := g) (q := q) (by omega) hq hl hb
  have e : g / 8 * 8 = 0 := by omega
  rw [e] at h
  exact h
theorem mem_at {pre rest : List UInt8} {w p q n : Int} (hp : 0 ≤ p ∧ p ≤ 15) (hq : 0 ≤ q ∧ q ≤ 15) (hn : smallF n = true) :
    memV (pre ++ (byteOf (memN p q) :: (((if q % 8 = 4 then [36] else []) ++ immF n 4) ++ rest))) ⟨w, p / 8 * 8, q / 8 * 8⟩ (R0 pre.length) = (p, q, n) ∧
    memD (pre ++ (byteOf (memN p q) :: (((if q % 8 = 4 then [36] else []) ++ immF n 4) ++ rest))) (R0 pre.length) = R0 (pre.length + 1 + (if q % 8 = 4 then 1 else 0) + 4) := by
  have hm : 0 ≤ memN p q ∧ memN p q ≤ 255 := by unfold memN; omega
  have e1 : memN p q / 8 % 8 = p % 8 := by unfold memN; omega
  have e2 : memN p q % 8 = q % 8 := by unfold memN; omega
  have e3 : memN p q / 64 = 2 := by unfold memN; omega
  generalize hbs : pre ++ (byteOf (memN p q) :: (((if q % 8 = 4 then [36] else []) ++ immF n 4) ++ rest)) = bs
  have hl : pre.length < bs.length := by rw [← hbs, List.length_append, List.length_cons]; omega
  have hb : byteAt bs pre.length = memN p q := by
    unfold byteAt
    rw [← hbs, List.getD_eq_getElem?_getD, List.getElem?_append_right (Nat.le_refl _), Nat.sub_self]
    exact bo hm.1 hm.2
  have h1 : nextF bs (R0 pre.length) = (memN p q, R0 (pre.length + 1)) := by rw [nx hl, hb]
  have hd1 : memD1 bs (R0 pre.length) = R0 (pre.length + 1) := by
    rw [memD1, h1, e3]
    rfl
  have hd2 : memD2 bs (R0 pre.length) = R0 (pre.length + 1 + (if q % 8 = 4 then 1 else 0)) := by
    rw [memD2, h1, hd1]
    dsimp only
    rw [e2]
    by_cases h4 : q % 8 = 4
    · rw [if_pos h4, if_pos h4] at *
      have hl2 : pre.length + 1 < bs.length := by
        rw [← hbs, List.length_append, List.length_cons, List.length_append, List.length_append]
        show _ < pre.length + (1 + (immF n 4).length + rest.length + 1)
        omega
      have hb2 : byteAt bs (pre.length + 1) = 36 := by
        unfold byteAt
        rw [← hbs, List.getD_eq_getElem?_getD, List.getElem?_append_right (by omega), Nat.add_sub_cancel_left]
        rfl
      rw [nx hl2, hb2]
      rfl
    · rw [if_neg h4, if_neg h4]
  have hi : immV bs (R0 (pre.length + 1 + (if q % 8 = 4 then 1 else 0))) 4 = n ∧ immD bs (R0 (pre.length + 1 + (if q % 8 = 4 then 1 else 0))) 4 = R0 (pre.length + 1 + (if q % 8 = 4 then 1 else 0) + 4) := by
    by_cases h4 : q % 8 = 4
    · rw [if_pos h4] at hbs ⊢
      have e := imm_v (pre := pre ++ [byteOf (memN p q), 36]) (rest := rest) (m := 4) (sgn4 hn)
      have el : (pre ++ [byteOf (memN p q), 36]).length = pre.length + 1 + 1 := by simp
      have eb : (pre ++ [byteOf (memN p q), 36]) ++ (leBytes 4 n ++ rest) = bs := by rw [← hbs]; simp [immF]
      rw [el, eb] at e
      exact e
    · rw [if_neg h4] at hbs ⊢
      have e := imm_v (pre := pre ++ [byteOf (memN p q)]) (rest := rest) (m := 4) (sgn4 hn)
      have el : (pre ++ [byteOf (memN p q)]).length = pre.length + 1 + 0 := by simp
      have eb : (pre ++ [byteOf (memN p q)]) ++ (leBytes 4 n ++ rest) = bs := by rw [← hbs]; simp [immF]
      rw [el, eb] at e
      exact e
  unfold memV memD
  rw [h1, hd2, hi.1, hi.2]
  dsimp only
  rw [e1, e2, reg_parts hp, reg_parts hq]
  exact ⟨rfl, rfl⟩
theorem ins_rex {bs : List UInt8} {w p q : Int} {b : Bool} (hw : w = if b then 1 else 0) (hp : 0 ≤ p ∧ p ≤ 15) (hq : 0 ≤ q ∧ q ≤ 15) (hl : 1 < bs.length) (hb : byteAt bs 0 = rexN b p q) : insR bs rd0 = prefIn bs ⟨w, p / 8 * 8, q / 8 * 8⟩ (byteAt bs 1) (R0 2) := by
  have hw2 : w = 0 ∨ w = 1 := by cases b <;> simp at hw <;> omega
  obtain ⟨a1, a2, a3, _, _, _⟩ := rex_at hw2 hp hq
  rw [rexN_eq w b hw] at hb
  have h1 : nextF bs rd0 = (byteAt bs 0, R0 1) := nx (by omega)
  rw [insR, h1, if_neg (by show ¬ false = true; decide), hb, insIn]
  dsimp only
  rw [if_pos a1, a2, a3]
  have h2 : nextF bs (mustF (R0 1) (decide ((0 : Int) = 0))) = (byteAt bs 1, R0 2) := nx hl
  rw [prefR, h2, if_neg (by show ¬ (false || false) = true; decide)]
theorem rexb {b : Bool} {p q : Int} (hp : 0 ≤ p ∧ p ≤ 15) (hq : 0 ≤ q ∧ q ≤ 15) : ((byteOf (rexN b p q)).toNat : Int) = rexN b p q := by
  have e := rexN_eq (if b then 1 else 0) b rfl p q
  have h := rex_at (w := if b then 1 else 0) (by cases b <;> simp) hp hq
  exact bo (by rw [e]; omega) (by rw [e]; omega)
theorem twob {p q : Int} : ((byteOf (twoN p q)).toNat : Int) = twoN p q := bo (by unfold twoN; omega) (by unfold twoN; omega)
theorem peek_two {bs : List UInt8} {k : Nat} {p q : Int} (hb : byteAt bs k = twoN p q) : ¬ peekF bs (R0 k) = true := by
  intro h
  rw [peekF, Bool.and_eq_true, decide_eq_true_eq, decide_eq_true_eq] at h
  have := h.2
  rw [show byteAt bs (R0 k).at_ = twoN p q from hb] at this
  unfold twoN at this
  omega
theorem memb {p q : Int} : ((byteOf (memN p q)).toNat : Int) = memN p q := bo (by unfold memN; omega) (by unfold memN; omega)
theorem peek_mem {bs : List UInt8} {k : Nat} {p q : Int} (hl : k < bs.length) (hb : byteAt bs k = memN p q) : peekF bs (R0 k) = true := by
  rw [peekF, Bool.and_eq_true, decide_eq_true_eq, decide_eq_true_eq]
  refine ⟨by show (k : Int) < bs.length; omega, ?_⟩
  rw [show byteAt bs (R0 k).at_ = memN p q from hb]
  unfold memN
  omega
theorem ins_first {bs : List UInt8} (hl : 0 < bs.length) : insR bs rd0 = insIn bs (byteAt bs 0) (R0 1) := by
  have h1 : nextF bs rd0 = (byteAt bs 0, R0 1) := nx hl
  rw [insR, h1, if_neg (by show ¬ false = true; decide)]
theorem far_at {bs : List UInt8} {x : Rx} (hx : x.wide = 1 ∨ x.reg = 0) (hl : 2 < bs.length) : farR bs x (R0 2) = farIn bs x (byteAt bs 2) (R0 3) := by
  have h1 : farD1 x (R0 2) = R0 2 := mx (by rw [Bool.or_eq_true, decide_eq_true_eq, decide_eq_true_eq]; exact hx)
  have h2 : nextF bs (R0 2) = (byteAt bs 2, R0 3) := nx hl
  rw [farR, h1, h2, if_neg (by show ¬ (false || false) = true; decide)]
theorem real_at {bs : List UInt8} {w p q f : Int} {b : Bool} (hw : w = if b then 1 else 0) (hp : 0 ≤ p ∧ p ≤ 15) (hq : 0 ≤ q ∧ q ≤ 15) (hf : f = 102 ∨ f = 242) (hl : 3 < bs.length) (h0 : byteAt bs 0 = f) (h1 : byteAt bs 1 = rexN b p q) (h2 : byteAt bs 2 = 15) : insR bs rd0 = realIn bs f ⟨w, p / 8 * 8, q / 8 * 8⟩ (byteAt bs 3) (R0 4) := by
  have hw2 : w = 0 ∨ w = 1 := by cases b <;> simp at hw <;> omega
  obtain ⟨_, _, a3, a4, _, _⟩ := rex_at hw2 hp hq
  rw [rexN_eq w b hw] at h1
  have e : insIn bs (byteAt bs 0) (R0 1) = realR bs f (R0 1) := by
    rw [h0]
    rcases hf with rfl | rfl <;> rfl
  rw [ins_first (by omega), e]
  have n1 : nextF bs (R0 1) = (byteAt bs 1, R0 2) := nx (by omega)
  have n2 : nextF bs (R0 2) = (byteAt bs 2, R0 3) := nx (by omega)
  have n3 : nextF bs (R0 3) = (byteAt bs 3, R0 4) := nx (by omega)
  have d1 : realD1 bs (R0 1) = R0 2 := by
    rw [realD1, n1, h1]
    dsimp only
    rw [a4]
    rfl
  have d2 : realD2 bs (R0 1) = R0 3 := by
    rw [realD2, d1, n2, h2]
    rfl
  rw [realR, d2, n1, n3, if_neg (by show ¬ false = true; decide), if_neg (by show ¬ (false || false) = true; decide), h1]
  dsimp only
  rw [a3]
theorem len_mem (q n : Int) (k : Nat) : ((if q % 8 = 4 then [(36 : UInt8)] else []) ++ immF n 4).length + k = k + (if q % 8 = 4 then 1 else 0) + 4 := by
  rw [List.length_append, imm_len]
  split
  · show 1 + 4 + k = k + 1 + 4; omega
  · show 0 + 4 + k = k + 0 + 4; omega
theorem low8 {d : Int} (hd : 0 ≤ d ∧ d ≤ 15) : andI (80 + d % 8) 248 = 80 ∧ andI (88 + d % 8) 248 = 88 ∧ andI (184 + d % 8) 248 = 184 := fin8 (fun a => andI (80 + a) 248 = 80 ∧ andI (88 + a) 248 = 88 ∧ andI (184 + a) 248 = 184) (by decide)
theorem cc16 {c : Int} (hc : 0 ≤ c ∧ c ≤ 15) : andI (144 + c) 240 = 144 ∧ andI (64 + c) 240 = 64 ∧ andI (112 + c) 240 = 112 ∧ andI (128 + c) 240 = 128 := fin16 hc (fun c => andI (144 + c) 240 = 144 ∧ andI (64 + c) 240 = 64 ∧ andI (112 + c) 240 = 112 ∧ andI (128 + c) 240 = 128) (by decide)
theorem back0 {d s c z n k : Int} (h : fitsF ⟨1, 0, 0, true, 1, [137], 3, 0, 2, 1, 0, 0⟩ ⟨k, d, s, c, z, n⟩ = true) (hI : I64 n) (tail : List UInt8) : insR (encF ⟨k, d, s, c, z, n⟩ ++ tail) rd0 = (⟨k, d, s, c, z, n⟩, R0 (encF ⟨k, d, s, c, z, n⟩).length) := by
  simp only [fitsF, Bool.and_eq_true, decide_eq_true_eq] at h
  obtain ⟨⟨⟨⟨⟨hk, hz⟩, hd⟩, hs⟩, hc⟩, hn⟩ := h
  subst hk; subst hz
  have dr := field_range hd
  have sr := field_range hs
  obtain rfl := fld0 hc
  obtain rfl : n = 0 := of_decide_eq_true hn
  have he : encF ⟨1, d, s, 0, 0, 0⟩ = byteOf (rexN true s d) :: 137 :: byteOf (twoN s d) :: [] := rfl
  have hL : (encF ⟨1, d, s, 0, 0, 0⟩).length = 3 := by
    rw [he]
    rfl
  rw [hL, he]
  show insR (byteOf (rexN true s d) :: 137 :: byteOf (twoN s d) :: tail : List UInt8) rd0 = _
  generalize hE : (byteOf (rexN true s d) :: 137 :: byteOf (twoN s d) :: tail : List UInt8) = bs
  have hl : 3 ≤ bs.length := by rw [← hE]; simp only [List.length_cons]; omega
  obtain ⟨t1, t2⟩ := two_at (bs := bs) (k := 2) (w := 1) sr dr (by omega) (by rw [← hE]; exact twob)
  have hr := ins_rex (bs := bs) (w := 1) (b := true) rfl sr dr (by omega) (by rw [← hE]; exact rexb sr dr)
  rw [hr]
  have b1 : byteAt bs 1 = 137 := (by rw [← hE]; exact rfl)
  rw [b1]
  have b2 : byteAt bs 2 = twoN s d := (by rw [← hE]; exact twob)
  refine (show prefIn bs (⟨1, s / 8 * 8, d / 8 * 8⟩ : Rx) 137 (R0 2) = movedR bs (⟨1, s / 8 * 8, d / 8 * 8⟩ : Rx) (R0 2) from rfl).trans ?_
  rw [movedR, if_neg (peek_two b2), t1, t2]
theorem back1 {d s c z n k : Int} (h : fitsF ⟨2, 0, 0, true, 1, [199], 3, 0, 2, 0, 0, 6⟩ ⟨k, d, s, c, z, n⟩ = true) (hI : I64 n) (tail : List UInt8) : insR (encF ⟨k, d, s, c, z, n⟩ ++ tail) rd0 = (⟨k, d, s, c, z, n⟩, R0 (encF ⟨k, d, s, c, z, n⟩).length) := by
  simp only [fitsF, Bool.and_eq_true, decide_eq_true_eq] at h
  obtain ⟨⟨⟨⟨⟨hk, hz⟩, hd⟩, hs⟩, hc⟩, hn⟩ := h
  subst hk; subst hz
  have dr := field_range hd
  obtain rfl := fld0 hs
  obtain rfl := fld0 hc
  have hn : smallF n = true := hn
  have hg : sgn 4 (n % 256 ^ 4) = n := sgn4 hn
  have he : encF ⟨2, d, 0, 0, 0, n⟩ = byteOf (rexN true 0 d) :: 199 :: byteOf (twoN 0 d) :: immF n 4 := by rw [show encF ⟨2, d, 0, 0, 0, n⟩ = (if smallF n = true then byteOf (rexN true 0 d) :: 199 :: byteOf (twoN 0 d) :: immF n 4 else byteOf (rexN true 0 d) :: byteOf (184 + d % 8) :: immF n 8) from rfl, if_pos hn]
  have hL : (encF ⟨2, d, 0, 0, 0, n⟩).length = 3 + 4 := by
    rw [he]
    show (immF n 4).length + 3 = _
    rw [imm_len]
  rw [hL, he]
  show insR (byteOf (rexN true 0 d) :: 199 :: byteOf (twoN 0 d) :: (immF n 4 ++ tail) : List UInt8) rd0 = _
  generalize hE : (byteOf (rexN true 0 d) :: 199 :: byteOf (twoN 0 d) :: (immF n 4 ++ tail) : List UInt8) = bs
  have hl : 3 ≤ bs.length := by rw [← hE]; simp only [List.length_cons]; omega
  obtain ⟨i1, i2⟩ := imm_v (pre := [byteOf (rexN true 0 d), 199, byteOf (twoN 0 d)]) (rest := tail) (m := 4) hg
  rw [show [byteOf (rexN true 0 d), 199, byteOf (twoN 0 d)] ++ (leBytes 4 n ++ tail) = bs from hE] at i1 i2
  rw [show ([byteOf (rexN true 0 d), 199, byteOf (twoN 0 d)] : List UInt8).length = 3 from rfl] at i1 i2
  have o1 : oneV bs (⟨1, 0 / 8 * 8, d / 8 * 8⟩ : Rx) (R0 2) = (0, d) := (one_at (bs := bs) (k := 2) (w := 1) (g := 0) (q := d) ⟨by decide, by decide⟩ dr (by omega) (by rw [← hE]; exact twob)).1
  have o2 : oneD bs (⟨1, 0 / 8 * 8, d / 8 * 8⟩ : Rx) (R0 2) = R0 3 := (one_at (bs := bs) (k := 2) (w := 1) (g := 0) (q := d) ⟨by decide, by decide⟩ dr (by omega) (by rw [← hE]; exact twob)).2
  have hr := ins_rex (bs := bs) (w := 1) (b := true) rfl ⟨Int.le_refl (0 : Int), show (0 : Int) ≤ 15 by decide⟩ dr (by omega) (by rw [← hE]; exact rexb ⟨Int.le_refl (0 : Int), show (0 : Int) ≤ 15 by decide⟩ dr)
  rw [hr]
  have b1 : byteAt bs 1 = 199 := (by rw [← hE]; exact rfl)
  rw [b1]
  refine (show prefIn bs (⟨1, 0 / 8 * 8, d / 8 * 8⟩ : Rx) 199 (R0 2) = (⟨2, (oneV bs (⟨1, 0 / 8 * 8, d / 8 * 8⟩ : Rx) (R0 2)).2, 0, 0, 0, immV bs (mustF (oneD bs (⟨1, 0 / 8 * 8, d / 8 * 8⟩ : Rx) (R0 2)) (decide ((oneV bs (⟨1, 0 / 8 * 8, d / 8 * 8⟩ : Rx) (R0 2)).1 = 0))) 4⟩, immD bs (mustF (oneD bs (⟨1, 0 / 8 * 8, d / 8 * 8⟩ : Rx) (R0 2)) (decide ((oneV bs (⟨1, 0 / 8 * 8, d / 8 * 8⟩ : Rx) (R0 2)).1 = 0))) 4) from rfl).trans ?_
  rw [o1, o2, show mustF (R0 3) (decide (((0, d) : Int × Int).1 = 0)) = R0 3 from rfl, i1, i2]
theorem back2 {d s c z n k : Int} (h : fitsF ⟨2, 0, 0, true, 1, [184], -1, 0, 3, 0, 0, 7⟩ ⟨k, d, s, c, z, n⟩ = true) (hI : I64 n) (tail : List UInt8) : insR (encF ⟨k, d, s, c, z, n⟩ ++ tail) rd0 = (⟨k, d, s, c, z, n⟩, R0 (encF ⟨k, d, s, c, z, n⟩).length) := by
  simp only [fitsF, Bool.and_eq_true, decide_eq_true_eq] at h
  obtain ⟨⟨⟨⟨⟨hk, hz⟩, hd⟩, hs⟩, hc⟩, hn⟩ := h
  subst hk; subst hz
  have dr := field_range hd
  obtain rfl := fld0 hs
  obtain rfl := fld0 hc
  have hn : smallF n = false := by simpa using (show (!smallF n) = true from hn)
  have hg : sgn 8 (n % 256 ^ 8) = n := sgn8 hI
  have he : encF ⟨2, d, 0, 0, 0, n⟩ = byteOf (rexN true 0 d) :: byteOf (184 + d % 8) :: immF n 8 := by rw [show encF ⟨2, d, 0, 0, 0, n⟩ = (if smallF n = true then byteOf (rexN true 0 d) :: 199 :: byteOf (twoN 0 d) :: immF n 4 else byteOf (rexN true 0 d) :: byteOf (184 + d % 8) :: immF n 8) from rfl, if_neg (by rw [hn]; decide)]
  have hL : (encF ⟨2, d, 0, 0, 0, n⟩).length = 2 + 8 := by
    rw [he]
    show (immF n 8).length + 2 = _
    rw [imm_len]
  rw [hL, he]
  show insR (byteOf (rexN true 0 d) :: byteOf (184 + d % 8) :: (immF n 8 ++ tail) : List UInt8) rd0 = _
  generalize hE : (byteOf (rexN true 0 d) :: byteOf (184 + d % 8) :: (immF n 8 ++ tail) : List UInt8) = bs
  have hl : 2 ≤ bs.length := by rw [← hE]; simp only [List.length_cons]; omega
  obtain ⟨i1, i2⟩ := imm_v (pre := [byteOf (rexN true 0 d), byteOf (184 + d % 8)]) (rest := tail) (m := 8) hg
  rw [show [byteOf (rexN true 0 d), byteOf (184 + d % 8)] ++ (leBytes 8 n ++ tail) = bs from hE] at i1 i2
  rw [show ([byteOf (rexN true 0 d), byteOf (184 + d % 8)] : List UInt8).length = 2 from rfl] at i1 i2
  have hr := ins_rex (bs := bs) (w := 1) (b := true) rfl ⟨Int.le_refl (0 : Int), show (0 : Int) ≤ 15 by decide⟩ dr (by omega) (by rw [← hE]; exact rexb ⟨Int.le_refl (0 : Int), show (0 : Int) ≤ 15 by decide⟩ dr)
  rw [hr]
  obtain ⟨l1, l2, l3⟩ := low8 dr
  have b1 : byteAt bs 1 = 184 + d % 8 := (by rw [← hE]; exact bo (by omega) (by omega))
  have e8 : (184 + d % 8) % 8 = d % 8 := by omega
  rw [b1]
  rw [prefIn, if_neg (by omega), if_neg (show ¬ (1 : Int) = 0 by decide), if_pos l3, e8, reg_parts dr]
  rw [show mustF (R0 2) (decide (((⟨1, 0 / 8 * 8, d / 8 * 8⟩ : Rx)).reg = 0)) = R0 2 from rfl, i1, i2, hn]
  rfl
theorem back3 {d s c z n k : Int} (h : fitsF ⟨3, 8, 0, true, 1, [139], 2, 0, 1, 2, 0, 6⟩ ⟨k, d, s, c, z, n⟩ = true) (hI : I64 n) (tail : List UInt8) : insR (encF ⟨k, d, s, c, z, n⟩ ++ tail) rd0 = (⟨k, d, s, c, z, n⟩, R0 (encF ⟨k, d, s, c, z, n⟩).length) := by
  simp only [fitsF, Bool.and_eq_true, decide_eq_true_eq] at h
  obtain ⟨⟨⟨⟨⟨hk, hz⟩, hd⟩, hs⟩, hc⟩, hn⟩ := h
  subst hk; subst hz
  have dr := field_range hd
  have sr := field_range hs
  obtain rfl := fld0 hc
  have hn : smallF n = true := hn
  have hg : sgn 4 (n % 256 ^ 4) = n := sgn4 hn
  have he : encF ⟨3, d, s, 0, 8, n⟩ = byteOf (rexN true d s) :: 139 :: byteOf (memN d s) :: ((if s % 8 = 4 then [(36 : UInt8)] else []) ++ immF n 4) := rfl
  have hL : (encF ⟨3, d, s, 0, 8, n⟩).length = 2 + 1 + (if s % 8 = 4 then 1 else 0) + 4 := by
    rw [he]
    exact len_mem s n 3
  rw [hL, he]
  show insR (byteOf (rexN true d s) :: 139 :: byteOf (memN d s) :: (((if s % 8 = 4 then [(36 : UInt8)] else []) ++ immF n 4) ++ tail) : List UInt8) rd0 = _
  generalize hE : (byteOf (rexN true d s) :: 139 :: byteOf (memN d s) :: (((if s % 8 = 4 then [(36 : UInt8)] else []) ++ immF n 4) ++ tail) : List UInt8) = bs
  have hl : 3 ≤ bs.length := by rw [← hE]; simp only [List.length_cons]; omega
  obtain ⟨m1, m2⟩ := mem_at (pre := [byteOf (rexN true d s), 139]) (rest := tail) (w := 1) dr sr hn
  rw [show [byteOf (rexN true d s), 139] ++ (byteOf (memN d s) :: (((if s % 8 = 4 then [36] else []) ++ immF n 4) ++ tail)) = bs from hE] at m1 m2
  rw [show ([byteOf (rexN true d s), 139] : List UInt8).length = 2 from rfl] at m1 m2
  have hr := ins_rex (bs := bs) (w := 1) (b := true) rfl dr sr (by omega) (by rw [← hE]; exact rexb dr sr)
  rw [hr]
  have b1 : byteAt bs 1 = 139 := (by rw [← hE]; exact rfl)
  rw [b1]
  refine (show prefIn bs (⟨1, d / 8 * 8, s / 8 * 8⟩ : Rx) 139 (R0 2) = (⟨3, (memV bs (⟨1, d / 8 * 8, s / 8 * 8⟩ : Rx) (R0 2)).1, (memV bs (⟨1, d / 8 * 8, s / 8 * 8⟩ : Rx) (R0 2)).2.1, 0, 8, (memV bs (⟨1, d / 8 * 8, s / 8 * 8⟩ : Rx) (R0 2)).2.2⟩, memD bs (R0 2)) from rfl).trans ?_
  rw [m1, m2]
theorem back4 {d s c z n k : Int} (h : fitsF ⟨3, 4, 0, true, 0, [139], 2, 0, 1, 2, 0, 6⟩ ⟨k, d, s, c, z, n⟩ = true) (hI : I64 n) (tail : List UInt8) : insR (encF ⟨k, d, s, c, z, n⟩ ++ tail) rd0 = (⟨k, d, s, c, z, n⟩, R0 (encF ⟨k, d, s, c, z, n⟩).length) := by
  simp only [fitsF, Bool.and_eq_true, decide_eq_true_eq] at h
  obtain ⟨⟨⟨⟨⟨hk, hz⟩, hd⟩, hs⟩, hc⟩, hn⟩ := h
  subst hk; subst hz
  have dr := field_range hd
  have sr := field_range hs
  obtain rfl := fld0 hc
  have hn : smallF n = true := hn
  have hg : sgn 4 (n % 256 ^ 4) = n := sgn4 hn
  have he : encF ⟨3, d, s, 0, 4, n⟩ = byteOf (rexN false d s) :: 139 :: byteOf (memN d s) :: ((if s % 8 = 4 then [(36 : UInt8)] else []) ++ immF n 4) := rfl
  have hL : (encF ⟨3, d, s, 0, 4, n⟩).length = 2 + 1 + (if s % 8 = 4 then 1 else 0) + 4 := by
    rw [he]
    exact len_mem s n 3
  rw [hL, he]
  show insR (byteOf (rexN false d s) :: 139 :: byteOf (memN d s) :: (((if s % 8 = 4 then [(36 : UInt8)] else []) ++ immF n 4) ++ tail) : List UInt8) rd0 = _
  generalize hE : (byteOf (rexN false d s) :: 139 :: byteOf (memN d s) :: (((if s % 8 = 4 then [(36 : UInt8)] else []) ++ immF n 4) ++ tail) : List UInt8) = bs
  have hl : 3 ≤ bs.length := by rw [← hE]; simp only [List.length_cons]; omega
  obtain ⟨m1, m2⟩ := mem_at (pre := [byteOf (rexN false d s), 139]) (rest := tail) (w := 0) dr sr hn
  rw [show [byteOf (rexN false d s), 139] ++ (byteOf (memN d s) :: (((if s % 8 = 4 then [36] else []) ++ immF n 4) ++ tail)) = bs from hE] at m1 m2
  rw [show ([byteOf (rexN false d s), 139] : List UInt8).length = 2 from rfl] at m1 m2
  have hr := ins_rex (bs := bs) (w := 0) (b := false) rfl dr sr (by omega) (by rw [← hE]; exact rexb dr sr)
  rw [hr]
  have b1 : byteAt bs 1 = 139 := (by rw [← hE]; exact rfl)
  rw [b1]
  refine (show prefIn bs (⟨0, d / 8 * 8, s / 8 * 8⟩ : Rx) 139 (R0 2) = (⟨3, (memV bs (⟨0, d / 8 * 8, s / 8 * 8⟩ : Rx) (R0 2)).1, (memV bs (⟨0, d / 8 * 8, s / 8 * 8⟩ : Rx) (R0 2)).2.1, 0, 4, (memV bs (⟨0, d / 8 * 8, s / 8 * 8⟩ : Rx) (R0 2)).2.2⟩, memD bs (R0 2)) from rfl).trans ?_
  rw [m1, m2]
theorem back5 {d s c z n k : Int} (h : fitsF ⟨3, 1, 0, true, 1, [15, 182], 2, 0, 1, 2, 0, 6⟩ ⟨k, d, s, c, z, n⟩ = true) (hI : I64 n) (tail : List UInt8) : insR (encF ⟨k, d, s, c, z, n⟩ ++ tail) rd0 = (⟨k, d, s, c, z, n⟩, R0 (encF ⟨k, d, s, c, z, n⟩).length) := by
  simp only [fitsF, Bool.and_eq_true, decide_eq_true_eq] at h
  obtain ⟨⟨⟨⟨⟨hk, hz⟩, hd⟩, hs⟩, hc⟩, hn⟩ := h
  subst hk; subst hz
  have dr := field_range hd
  have sr := field_range hs
  obtain rfl := fld0 hc
  have hn : smallF n = true := hn
  have hg : sgn 4 (n % 256 ^ 4) = n := sgn4 hn
  have he : encF ⟨3, d, s, 0, 1, n⟩ = byteOf (rexN true d s) :: 15 :: 182 :: byteOf (memN d s) :: ((if s % 8 = 4 then [(36 : UInt8)] else []) ++ immF n 4) := rfl
  have hL : (encF ⟨3, d, s, 0, 1, n⟩).length = 3 + 1 + (if s % 8 = 4 then 1 else 0) + 4 := by
    rw [he]
    exact len_mem s n 4
  rw [hL, he]
  show insR (byteOf (rexN true d s) :: 15 :: 182 :: byteOf (memN d s) :: (((if s % 8 = 4 then [(36 : UInt8)] else []) ++ immF n 4) ++ tail) : List UInt8) rd0 = _
  generalize hE : (byteOf (rexN true d s) :: 15 :: 182 :: byteOf (memN d s) :: (((if s % 8 = 4 then [(36 : UInt8)] else []) ++ immF n 4) ++ tail) : List UInt8) = bs
  have hl : 4 ≤ bs.length := by rw [← hE]; simp only [List.length_cons]; omega
  obtain ⟨m1, m2⟩ := mem_at (pre := [byteOf (rexN true d s), 15, 182]) (rest := tail) (w := 1) dr sr hn
  rw [show [byteOf (rexN true d s), 15, 182] ++ (byteOf (memN d s) :: (((if s % 8 = 4 then [36] else []) ++ immF n 4) ++ tail)) = bs from hE] at m1 m2
  rw [show ([byteOf (rexN true d s), 15, 182] : List UInt8).length = 3 from rfl] at m1 m2
  have hr := ins_rex (bs := bs) (w := 1) (b := true) rfl dr sr (by omega) (by rw [← hE]; exact rexb dr sr)
  rw [hr]
  have b1 : byteAt bs 1 = 15 := (by rw [← hE]; exact rfl)
  rw [b1]
  refine (show prefIn bs (⟨1, d / 8 * 8, s / 8 * 8⟩ : Rx) 15 (R0 2) = farR bs (⟨1, d / 8 * 8, s / 8 * 8⟩ : Rx) (R0 2) from rfl).trans ?_
  rw [far_at (by exact .inl rfl) (by omega)]
  have b2 : byteAt bs 2 = 182 := (by rw [← hE]; exact rfl)
  have b3 : byteAt bs 3 = memN d s := (by rw [← hE]; exact memb)
  rw [b2]
  refine (show farIn bs (⟨1, d / 8 * 8, s / 8 * 8⟩ : Rx) 182 (R0 3) = (if peekF bs (R0 3) = true then (⟨3, (memV bs (⟨1, d / 8 * 8, s / 8 * 8⟩ : Rx) (R0 3)).1, (memV bs (⟨1, d / 8 * 8, s / 8 * 8⟩ : Rx) (R0 3)).2.1, 0, 1, (memV bs (⟨1, d / 8 * 8, s / 8 * 8⟩ : Rx) (R0 3)).2.2⟩, memD bs (R0 3)) else (⟨33, (twoV bs (⟨1, d / 8 * 8, s / 8 * 8⟩ : Rx) (R0 3)).1, (twoV bs (⟨1, d / 8 * 8, s / 8 * 8⟩ : Rx) (R0 3)).2, 0, 0, 0⟩, twoD bs (R0 3))) from rfl).trans ?_
  rw [if_pos (peek_mem (by omega) b3), m1, m2]
theorem back6 {d s c z n k : Int} (h : fitsF ⟨4, 8, 0, true, 1, [137], 2, 0, 2, 1, 0, 6⟩ ⟨k, d, s, c, z, n⟩ = true) (hI : I64 n) (tail : List UInt8) : insR (encF ⟨k, d, s, c, z, n⟩ ++ tail) rd0 = (⟨k, d, s, c, z, n⟩, R0 (encF ⟨k, d, s, c, z, n⟩).length) := by
  simp only [fitsF, Bool.and_eq_true, decide_eq_true_eq] at h
  obtain ⟨⟨⟨⟨⟨hk, hz⟩, hd⟩, hs⟩, hc⟩, hn⟩ := h
  subst hk; subst hz
  have dr := field_range hd
  have sr := field_range hs
  obtain rfl := fld0 hc
  have hn : smallF n = true := hn
  have hg : sgn 4 (n % 256 ^ 4) = n := sgn4 hn
  have he : encF ⟨4, d, s, 0, 8, n⟩ = byteOf (rexN true s d) :: 137 :: byteOf (memN s d) :: ((if d % 8 = 4 then [(36 : UInt8)] else []) ++ immF n 4) := rfl
  have hL : (encF ⟨4, d, s, 0, 8, n⟩).length = 2 + 1 + (if d % 8 = 4 then 1 else 0) + 4 := by
    rw [he]
    exact len_mem d n 3
  rw [hL, he]
  show insR (byteOf (rexN true s d) :: 137 :: byteOf (memN s d) :: (((if d % 8 = 4 then [(36 : UInt8)] else []) ++ immF n 4) ++ tail) : List UInt8) rd0 = _
  generalize hE : (byteOf (rexN true s d) :: 137 :: byteOf (memN s d) :: (((if d % 8 = 4 then [(36 : UInt8)] else []) ++ immF n 4) ++ tail) : List UInt8) = bs
  have hl : 3 ≤ bs.length := by rw [← hE]; simp only [List.length_cons]; omega
  obtain ⟨m1, m2⟩ := mem_at (pre := [byteOf (rexN true s d), 137]) (rest := tail) (w := 1) sr dr hn
  rw [show [byteOf (rexN true s d), 137] ++ (byteOf (memN s d) :: (((if d % 8 = 4 then [36] else []) ++ immF n 4) ++ tail)) = bs from hE] at m1 m2
  rw [show ([byteOf (rexN true s d), 137] : List UInt8).length = 2 from rfl] at m1 m2
  have hr := ins_rex (bs := bs) (w := 1) (b := true) rfl sr dr (by omega) (by rw [← hE]; exact rexb sr dr)
  rw [hr]
  have b1 : byteAt bs 1 = 137 := (by rw [← hE]; exact rfl)
  rw [b1]
  have b2 : byteAt bs 2 = memN s d := (by rw [← hE]; exact memb)
  refine (show prefIn bs (⟨1, s / 8 * 8, d / 8 * 8⟩ : Rx) 137 (R0 2) = movedR bs (⟨1, s / 8 * 8, d / 8 * 8⟩ : Rx) (R0 2) from rfl).trans ?_
  rw [movedR, if_pos (peek_mem (by omega) b2), m1, m2]
theorem back7 {d s c z n k : Int} (h : fitsF ⟨4, 4, 0, true, 0, [137], 2, 0, 2, 1, 0, 6⟩ ⟨k, d, s, c, z, n⟩ = true) (hI : I64 n) (tail : List UInt8) : insR (encF ⟨k, d, s, c, z, n⟩ ++ tail) rd0 = (⟨k, d, s, c, z, n⟩, R0 (encF ⟨k, d, s, c, z, n⟩).length) := by
  simp only [fitsF, Bool.and_eq_true, decide_eq_true_eq] at h
  obtain ⟨⟨⟨⟨⟨hk, hz⟩, hd⟩, hs⟩, hc⟩, hn⟩ := h
  subst hk; subst hz
  have dr := field_range hd
  have sr := field_range hs
  obtain rfl := fld0 hc
  have hn : smallF n = true := hn
  have hg : sgn 4 (n % 256 ^ 4) = n := sgn4 hn
  have he : encF ⟨4, d, s, 0, 4, n⟩ = byteOf (rexN false s d) :: 137 :: byteOf (memN s d) :: ((if d % 8 = 4 then [(36 : UInt8)] else []) ++ immF n 4) := rfl
  have hL : (encF ⟨4, d, s, 0, 4, n⟩).length = 2 + 1 + (if d % 8 = 4 then 1 else 0) + 4 := by
    rw [he]
    exact len_mem d n 3
  rw [hL, he]
  show insR (byteOf (rexN false s d) :: 137 :: byteOf (memN s d) :: (((if d % 8 = 4 then [(36 : UInt8)] else []) ++ immF n 4) ++ tail) : List UInt8) rd0 = _
  generalize hE : (byteOf (rexN false s d) :: 137 :: byteOf (memN s d) :: (((if d % 8 = 4 then [(36 : UInt8)] else []) ++ immF n 4) ++ tail) : List UInt8) = bs
  have hl : 3 ≤ bs.length := by rw [← hE]; simp only [List.length_cons]; omega
  obtain ⟨m1, m2⟩ := mem_at (pre := [byteOf (rexN false s d), 137]) (rest := tail) (w := 0) sr dr hn
  rw [show [byteOf (rexN false s d), 137] ++ (byteOf (memN s d) :: (((if d % 8 = 4 then [36] else []) ++ immF n 4) ++ tail)) = bs from hE] at m1 m2
  rw [show ([byteOf (rexN false s d), 137] : List UInt8).length = 2 from rfl] at m1 m2
  have hr := ins_rex (bs := bs) (w := 0) (b := false) rfl sr dr (by omega) (by rw [← hE]; exact rexb sr dr)
  rw [hr]
  have b1 : byteAt bs 1 = 137 := (by rw [← hE]; exact rfl)
  rw [b1]
  refine (show prefIn bs (⟨0, s / 8 * 8, d / 8 * 8⟩ : Rx) 137 (R0 2) = (⟨4, (memV bs (⟨0, s / 8 * 8, d / 8 * 8⟩ : Rx) (R0 2)).2.1, (memV bs (⟨0, s / 8 * 8, d / 8 * 8⟩ : Rx) (R0 2)).1, 0, 4, (memV bs (⟨0, s / 8 * 8, d / 8 * 8⟩ : Rx) (R0 2)).2.2⟩, memD bs (R0 2)) from rfl).trans ?_
  rw [m1, m2]
theorem back8 {d s c z n k : Int} (h : fitsF ⟨4, 1, 0, true, 0, [136], 2, 0, 2, 1, 0, 6⟩ ⟨k, d, s, c, z, n⟩ = true) (hI : I64 n) (tail : List UInt8) : insR (encF ⟨k, d, s, c, z, n⟩ ++ tail) rd0 = (⟨k, d, s, c, z, n⟩, R0 (encF ⟨k, d, s, c, z, n⟩).length) := by
  simp only [fitsF, Bool.and_eq_true, decide_eq_true_eq] at h
  obtain ⟨⟨⟨⟨⟨hk, hz⟩, hd⟩, hs⟩, hc⟩, hn⟩ := h
  subst hk; subst hz
  have dr := field_range hd
  have sr := field_range hs
  obtain rfl := fld0 hc
  have hn : smallF n = true := hn
  have hg : sgn 4 (n % 256 ^ 4) = n := sgn4 hn
  have he : encF ⟨4, d, s, 0, 1, n⟩ = byteOf (rexN false s d) :: 136 :: byteOf (memN s d) :: ((if d % 8 = 4 then [(36 : UInt8)] else []) ++ immF n 4) := rfl
  have hL : (encF ⟨4, d, s, 0, 1, n⟩).length = 2 + 1 + (if d % 8 = 4 then 1 else 0) + 4 := by
    rw [he]
    exact len_mem d n 3
  rw [hL, he]
  show insR (byteOf (rexN false s d) :: 136 :: byteOf (memN s d) :: (((if d % 8 = 4 then [(36 : UInt8)] else []) ++ immF n 4) ++ tail) : List UInt8) rd0 = _
  generalize hE : (byteOf (rexN false s d) :: 136 :: byteOf (memN s d) :: (((if d % 8 = 4 then [(36 : UInt8)] else []) ++ immF n 4) ++ tail) : List UInt8) = bs
  have hl : 3 ≤ bs.length := by rw [← hE]; simp only [List.length_cons]; omega
  obtain ⟨m1, m2⟩ := mem_at (pre := [byteOf (rexN false s d), 136]) (rest := tail) (w := 0) sr dr hn
  rw [show [byteOf (rexN false s d), 136] ++ (byteOf (memN s d) :: (((if d % 8 = 4 then [36] else []) ++ immF n 4) ++ tail)) = bs from hE] at m1 m2
  rw [show ([byteOf (rexN false s d), 136] : List UInt8).length = 2 from rfl] at m1 m2
  have hr := ins_rex (bs := bs) (w := 0) (b := false) rfl sr dr (by omega) (by rw [← hE]; exact rexb sr dr)
  rw [hr]
  have b1 : byteAt bs 1 = 136 := (by rw [← hE]; exact rfl)
  rw [b1]
  refine (show prefIn bs (⟨0, s / 8 * 8, d / 8 * 8⟩ : Rx) 136 (R0 2) = (⟨4, (memV bs (⟨0, s / 8 * 8, d / 8 * 8⟩ : Rx) (R0 2)).2.1, (memV bs (⟨0, s / 8 * 8, d / 8 * 8⟩ : Rx) (R0 2)).1, 0, 1, (memV bs (⟨0, s / 8 * 8, d / 8 * 8⟩ : Rx) (R0 2)).2.2⟩, memD bs (R0 2)) from rfl).trans ?_
  rw [m1, m2]
theorem back9 {d s c z n k : Int} (h : fitsF ⟨5, 0, 0, true, 1, [141], 2, 0, 1, 2, 0, 6⟩ ⟨k, d, s, c, z, n⟩ = true) (hI : I64 n) (tail : List UInt8) : insR (encF ⟨k, d, s, c, z, n⟩ ++ tail) rd0 = (⟨k, d, s, c, z, n⟩, R0 (encF ⟨k, d, s, c, z, n⟩).length) := by
  simp only [fitsF, Bool.and_eq_true, decide_eq_true_eq] at h
  obtain ⟨⟨⟨⟨⟨hk, hz⟩, hd⟩, hs⟩, hc⟩, hn⟩ := h
  subst hk; subst hz
  have dr := field_range hd
  have sr := field_range hs
  obtain rfl := fld0 hc
  have hn : smallF n = true := hn
  have hg : sgn 4 (n % 256 ^ 4) = n := sgn4 hn
  have he : encF ⟨5, d, s, 0, 0, n⟩ = byteOf (rexN true d s) :: 141 :: byteOf (memN d s) :: ((if s % 8 = 4 then [(36 : UInt8)] else []) ++ immF n 4) := rfl
  have hL : (encF ⟨5, d, s, 0, 0, n⟩).length = 2 + 1 + (if s % 8 = 4 then 1 else 0) + 4 := by
    rw [he]
    exact len_mem s n 3
  rw [hL, he]
  show insR (byteOf (rexN true d s) :: 141 :: byteOf (memN d s) :: (((if s % 8 = 4 then [(36 : UInt8)] else []) ++ immF n 4) ++ tail) : List UInt8) rd0 = _
  generalize hE : (byteOf (rexN true d s) :: 141 :: byteOf (memN d s) :: (((if s % 8 = 4 then [(36 : UInt8)] else []) ++ immF n 4) ++ tail) : List UInt8) = bs
  have hl : 3 ≤ bs.length := by rw [← hE]; simp only [List.length_cons]; omega
  obtain ⟨m1, m2⟩ := mem_at (pre := [byteOf (rexN true d s), 141]) (rest := tail) (w := 1) dr sr hn
  rw [show [byteOf (rexN true d s), 141] ++ (byteOf (memN d s) :: (((if s % 8 = 4 then [36] else []) ++ immF n 4) ++ tail)) = bs from hE] at m1 m2
  rw [show ([byteOf (rexN true d s), 141] : List UInt8).length = 2 from rfl] at m1 m2
  have hr := ins_rex (bs := bs) (w := 1) (b := true) rfl dr sr (by omega) (by rw [← hE]; exact rexb dr sr)
  rw [hr]
  have b1 : byteAt bs 1 = 141 := (by rw [← hE]; exact rfl)
  rw [b1]
  refine (show prefIn bs (⟨1, d / 8 * 8, s / 8 * 8⟩ : Rx) 141 (R0 2) = (⟨5, (memV bs (⟨1, d / 8 * 8, s / 8 * 8⟩ : Rx) (R0 2)).1, (memV bs (⟨1, d / 8 * 8, s / 8 * 8⟩ : Rx) (R0 2)).2.1, 0, 0, (memV bs (⟨1, d / 8 * 8, s / 8 * 8⟩ : Rx) (R0 2)).2.2⟩, memD bs (R0 2)) from rfl).trans ?_
  rw [m1, m2]
theorem back10 {d s c z n k : Int} (h : fitsF ⟨6, 0, 0, true, 1, [1], 3, 0, 2, 1, 0, 0⟩ ⟨k, d, s, c, z, n⟩ = true) (hI : I64 n) (tail : List UInt8) : insR (encF ⟨k, d, s, c, z, n⟩ ++ tail) rd0 = (⟨k, d, s, c, z, n⟩, R0 (encF ⟨k, d, s, c, z, n⟩).length) := by
  simp only [fitsF, Bool.and_eq_true, decide_eq_true_eq] at h
  obtain ⟨⟨⟨⟨⟨hk, hz⟩, hd⟩, hs⟩, hc⟩, hn⟩ := h
  subst hk; subst hz
  have dr := field_range hd
  have sr := field_range hs
  obtain rfl := fld0 hc
  obtain rfl : n = 0 := of_decide_eq_true hn
  have he : encF ⟨6, d, s, 0, 0, 0⟩ = byteOf (rexN true s d) :: 1 :: byteOf (twoN s d) :: [] := rfl
  have hL : (encF ⟨6, d, s, 0, 0, 0⟩).length = 3 := by
    rw [he]
    rfl
  rw [hL, he]
  show insR (byteOf (rexN true s d) :: 1 :: byteOf (twoN s d) :: tail : List UInt8) rd0 = _
  generalize hE : (byteOf (rexN true s d) :: 1 :: byteOf (twoN s d) :: tail : List UInt8) = bs
  have hl : 3 ≤ bs.length := by rw [← hE]; simp only [List.length_cons]; omega
  obtain ⟨t1, t2⟩ := two_at (bs := bs) (k := 2) (w := 1) sr dr (by omega) (by rw [← hE]; exact twob)
  have hr := ins_rex (bs := bs) (w := 1) (b := true) rfl sr dr (by omega) (by rw [← hE]; exact rexb sr dr)
  rw [hr]
  have b1 : byteAt bs 1 = 1 := (by rw [← hE]; exact rfl)
  rw [b1]
  refine (show prefIn bs (⟨1, s / 8 * 8, d / 8 * 8⟩ : Rx) 1 (R0 2) = (⟨6, (twoV bs (⟨1, s / 8 * 8, d / 8 * 8⟩ : Rx) (R0 2)).2, (twoV bs (⟨1, s / 8 * 8, d / 8 * 8⟩ : Rx) (R0 2)).1, 0, 0, 0⟩, twoD bs (R0 2)) from rfl).trans ?_
  rw [t1, t2]
theorem back11 {d s c z n k : Int} (h : fitsF ⟨7, 0, 0, true, 1, [9], 3, 0, 2, 1, 0, 0⟩ ⟨k, d, s, c, z, n⟩ = true) (hI : I64 n) (tail : List UInt8) : insR (encF ⟨k, d, s, c, z, n⟩ ++ tail) rd0 = (⟨k, d, s, c, z, n⟩, R0 (encF ⟨k, d, s, c, z, n⟩).length) := by
  simp only [fitsF, Bool.and_eq_true, decide_eq_true_eq] at h
  obtain ⟨⟨⟨⟨⟨hk, hz⟩, hd⟩, hs⟩, hc⟩, hn⟩ := h
  subst hk; subst hz
  have dr := field_range hd
  have sr := field_range hs
  obtain rfl := fld0 hc
  obtain rfl : n = 0 := of_decide_eq_true hn
  have he : encF ⟨7, d, s, 0, 0, 0⟩ = byteOf (rexN true s d) :: 9 :: byteOf (twoN s d) :: [] := rfl
  have hL : (encF ⟨7, d, s, 0, 0, 0⟩).length = 3 := by
    rw [he]
    rfl
  rw [hL, he]
  show insR (byteOf (rexN true s d) :: 9 :: byteOf (twoN s d) :: tail : List UInt8) rd0 = _
  generalize hE : (byteOf (rexN true s d) :: 9 :: byteOf (twoN s d) :: tail : List UInt8) = bs
  have hl : 3 ≤ bs.length := by rw [← hE]; simp only [List.length_cons]; omega
  obtain ⟨t1, t2⟩ := two_at (bs := bs) (k := 2) (w := 1) sr dr (by omega) (by rw [← hE]; exact twob)
  have hr := ins_rex (bs := bs) (w := 1) (b := true) rfl sr dr (by omega) (by rw [← hE]; exact rexb sr dr)
  rw [hr]
  have b1 : byteAt bs 1 = 9 := (by rw [← hE]; exact rfl)
  rw [b1]
  refine (show prefIn bs (⟨1, s / 8 * 8, d / 8 * 8⟩ : Rx) 9 (R0 2) = (⟨7, (twoV bs (⟨1, s / 8 * 8, d / 8 * 8⟩ : Rx) (R0 2)).2, (twoV bs (⟨1, s / 8 * 8, d / 8 * 8⟩ : Rx) (R0 2)).1, 0, 0, 0⟩, twoD bs (R0 2)) from rfl).trans ?_
  rw [t1, t2]
theorem back12 {d s c z n k : Int} (h : fitsF ⟨8, 0, 0, true, 1, [17], 3, 0, 2, 1, 0, 0⟩ ⟨k, d, s, c, z, n⟩ = true) (hI : I64 n) (tail : List UInt8) : insR (encF ⟨k, d, s, c, z, n⟩ ++ tail) rd0 = (⟨k, d, s, c, z, n⟩, R0 (encF ⟨k, d, s, c, z, n⟩).length) := by
  simp only [fitsF, Bool.and_eq_true, decide_eq_true_eq] at h
  obtain ⟨⟨⟨⟨⟨hk, hz⟩, hd⟩, hs⟩, hc⟩, hn⟩ := h
  subst hk; subst hz
  have dr := field_range hd
  have sr := field_range hs
  obtain rfl := fld0 hc
  obtain rfl : n = 0 := of_decide_eq_true hn
  have he : encF ⟨8, d, s, 0, 0, 0⟩ = byteOf (rexN true s d) :: 17 :: byteOf (twoN s d) :: [] := rfl
  have hL : (encF ⟨8, d, s, 0, 0, 0⟩).length = 3 := by
    rw [he]
    rfl
  rw [hL, he]
  show insR (byteOf (rexN true s d) :: 17 :: byteOf (twoN s d) :: tail : List UInt8) rd0 = _
  generalize hE : (byteOf (rexN true s d) :: 17 :: byteOf (twoN s d) :: tail : List UInt8) = bs
  have hl : 3 ≤ bs.length := by rw [← hE]; simp only [List.length_cons]; omega
  obtain ⟨t1, t2⟩ := two_at (bs := bs) (k := 2) (w := 1) sr dr (by omega) (by rw [← hE]; exact twob)
  have hr := ins_rex (bs := bs) (w := 1) (b := true) rfl sr dr (by omega) (by rw [← hE]; exact rexb sr dr)
  rw [hr]
  have b1 : byteAt bs 1 = 17 := (by rw [← hE]; exact rfl)
  rw [b1]
  refine (show prefIn bs (⟨1, s / 8 * 8, d / 8 * 8⟩ : Rx) 17 (R0 2) = (⟨8, (twoV bs (⟨1, s / 8 * 8, d / 8 * 8⟩ : Rx) (R0 2)).2, (twoV bs (⟨1, s / 8 * 8, d / 8 * 8⟩ : Rx) (R0 2)).1, 0, 0, 0⟩, twoD bs (R0 2)) from rfl).trans ?_
  rw [t1, t2]
theorem back13 {d s c z n k : Int} (h : fitsF ⟨9, 0, 0, true, 1, [25], 3, 0, 2, 1, 0, 0⟩ ⟨k, d, s, c, z, n⟩ = true) (hI : I64 n) (tail : List UInt8) : insR (encF ⟨k, d, s, c, z, n⟩ ++ tail) rd0 = (⟨k, d, s, c, z, n⟩, R0 (encF ⟨k, d, s, c, z, n⟩).length) := by
  simp only [fitsF, Bool.and_eq_true, decide_eq_true_eq] at h
  obtain ⟨⟨⟨⟨⟨hk, hz⟩, hd⟩, hs⟩, hc⟩, hn⟩ := h
  subst hk; subst hz
  have dr := field_range hd
  have sr := field_range hs
  obtain rfl := fld0 hc
  obtain rfl : n = 0 := of_decide_eq_true hn
  have he : encF ⟨9, d, s, 0, 0, 0⟩ = byteOf (rexN true s d) :: 25 :: byteOf (twoN s d) :: [] := rfl
  have hL : (encF ⟨9, d, s, 0, 0, 0⟩).length = 3 := by
    rw [he]
    rfl
  rw [hL, he]
  show insR (byteOf (rexN true s d) :: 25 :: byteOf (twoN s d) :: tail : List UInt8) rd0 = _
  generalize hE : (byteOf (rexN true s d) :: 25 :: byteOf (twoN s d) :: tail : List UInt8) = bs
  have hl : 3 ≤ bs.length := by rw [← hE]; simp only [List.length_cons]; omega
  obtain ⟨t1, t2⟩ := two_at (bs := bs) (k := 2) (w := 1) sr dr (by omega) (by rw [← hE]; exact twob)
  have hr := ins_rex (bs := bs) (w := 1) (b := true) rfl sr dr (by omega) (by rw [← hE]; exact rexb sr dr)
  rw [hr]
  have b1 : byteAt bs 1 = 25 := (by rw [← hE]; exact rfl)
  rw [b1]
  refine (show prefIn bs (⟨1, s / 8 * 8, d / 8 * 8⟩ : Rx) 25 (R0 2) = (⟨9, (twoV bs (⟨1, s / 8 * 8, d / 8 * 8⟩ : Rx) (R0 2)).2, (twoV bs (⟨1, s / 8 * 8, d / 8 * 8⟩ : Rx) (R0 2)).1, 0, 0, 0⟩, twoD bs (R0 2)) from rfl).trans ?_
  rw [t1, t2]
theorem back14 {d s c z n k : Int} (h : fitsF ⟨10, 0, 0, true, 1, [33], 3, 0, 2, 1, 0, 0⟩ ⟨k, d, s, c, z, n⟩ = true) (hI : I64 n) (tail : List UInt8) : insR (encF ⟨k, d, s, c, z, n⟩ ++ tail) rd0 = (⟨k, d, s, c, z, n⟩, R0 (encF ⟨k, d, s, c, z, n⟩).length) := by
  simp only [fitsF, Bool.and_eq_true, decide_eq_true_eq] at h
  obtain ⟨⟨⟨⟨⟨hk, hz⟩, hd⟩, hs⟩, hc⟩, hn⟩ := h
  subst hk; subst hz
  have dr := field_range hd
  have sr := field_range hs
  obtain rfl := fld0 hc
  obtain rfl : n = 0 := of_decide_eq_true hn
  have he : encF ⟨10, d, s, 0, 0, 0⟩ = byteOf (rexN true s d) :: 33 :: byteOf (twoN s d) :: [] := rfl
  have hL : (encF ⟨10, d, s, 0, 0, 0⟩).length = 3 := by
    rw [he]
    rfl
  rw [hL, he]
  show insR (byteOf (rexN true s d) :: 33 :: byteOf (twoN s d) :: tail : List UInt8) rd0 = _
  generalize hE : (byteOf (rexN true s d) :: 33 :: byteOf (twoN s d) :: tail : List UInt8) = bs
  have hl : 3 ≤ bs.length := by rw [← hE]; simp only [List.length_cons]; omega
  obtain ⟨t1, t2⟩ := two_at (bs := bs) (k := 2) (w := 1) sr dr (by omega) (by rw [← hE]; exact twob)
  have hr := ins_rex (bs := bs) (w := 1) (b := true) rfl sr dr (by omega) (by rw [← hE]; exact rexb sr dr)
  rw [hr]
  have b1 : byteAt bs 1 = 33 := (by rw [← hE]; exact rfl)
  rw [b1]
  refine (show prefIn bs (⟨1, s / 8 * 8, d / 8 * 8⟩ : Rx) 33 (R0 2) = (⟨10, (twoV bs (⟨1, s / 8 * 8, d / 8 * 8⟩ : Rx) (R0 2)).2, (twoV bs (⟨1, s / 8 * 8, d / 8 * 8⟩ : Rx) (R0 2)).1, 0, 0, 0⟩, twoD bs (R0 2)) from rfl).trans ?_
  rw [t1, t2]
theorem back15 {d s c z n k : Int} (h : fitsF ⟨11, 0, 0, true, 1, [41], 3, 0, 2, 1, 0, 0⟩ ⟨k, d, s, c, z, n⟩ = true) (hI : I64 n) (tail : List UInt8) : insR (encF ⟨k, d, s, c, z, n⟩ ++ tail) rd0 = (⟨k, d, s, c, z, n⟩, R0 (encF ⟨k, d, s, c, z, n⟩).length) := by
  simp only [fitsF, Bool.and_eq_true, decide_eq_true_eq] at h
  obtain ⟨⟨⟨⟨⟨hk, hz⟩, hd⟩, hs⟩, hc⟩, hn⟩ := h
  subst hk; subst hz
  have dr := field_range hd
  have sr := field_range hs
  obtain rfl := fld0 hc
  obtain rfl : n = 0 := of_decide_eq_true hn
  have he : encF ⟨11, d, s, 0, 0, 0⟩ = byteOf (rexN true s d) :: 41 :: byteOf (twoN s d) :: [] := rfl
  have hL : (encF ⟨11, d, s, 0, 0, 0⟩).length = 3 := by
    rw [he]
    rfl
  rw [hL, he]
  show insR (byteOf (rexN true s d) :: 41 :: byteOf (twoN s d) :: tail : List UInt8) rd0 = _
  generalize hE : (byteOf (rexN true s d) :: 41 :: byteOf (twoN s d) :: tail : List UInt8) = bs
  have hl : 3 ≤ bs.length := by rw [← hE]; simp only [List.length_cons]; omega
  obtain ⟨t1, t2⟩ := two_at (bs := bs) (k := 2) (w := 1) sr dr (by omega) (by rw [← hE]; exact twob)
  have hr := ins_rex (bs := bs) (w := 1) (b := true) rfl sr dr (by omega) (by rw [← hE]; exact rexb sr dr)
  rw [hr]
  have b1 : byteAt bs 1 = 41 := (by rw [← hE]; exact rfl)
  rw [b1]
  refine (show prefIn bs (⟨1, s / 8 * 8, d / 8 * 8⟩ : Rx) 41 (R0 2) = (⟨11, (twoV bs (⟨1, s / 8 * 8, d / 8 * 8⟩ : Rx) (R0 2)).2, (twoV bs (⟨1, s / 8 * 8, d / 8 * 8⟩ : Rx) (R0 2)).1, 0, 0, 0⟩, twoD bs (R0 2)) from rfl).trans ?_
  rw [t1, t2]
theorem back16 {d s c z n k : Int} (h : fitsF ⟨12, 0, 0, true, 1, [49], 3, 0, 2, 1, 0, 0⟩ ⟨k, d, s, c, z, n⟩ = true) (hI : I64 n) (tail : List UInt8) : insR (encF ⟨k, d, s, c, z, n⟩ ++ tail) rd0 = (⟨k, d, s, c, z, n⟩, R0 (encF ⟨k, d, s, c, z, n⟩).length) := by
  simp only [fitsF, Bool.and_eq_true, decide_eq_true_eq] at h
  obtain ⟨⟨⟨⟨⟨hk, hz⟩, hd⟩, hs⟩, hc⟩, hn⟩ := h
  subst hk; subst hz
  have dr := field_range hd
  have sr := field_range hs
  obtain rfl := fld0 hc
  obtain rfl : n = 0 := of_decide_eq_true hn
  have he : encF ⟨12, d, s, 0, 0, 0⟩ = byteOf (rexN true s d) :: 49 :: byteOf (twoN s d) :: [] := rfl
  have hL : (encF ⟨12, d, s, 0, 0, 0⟩).length = 3 := by
    rw [he]
    rfl
  rw [hL, he]
  show insR (byteOf (rexN true s d) :: 49 :: byteOf (twoN s d) :: tail : List UInt8) rd0 = _
  generalize hE : (byteOf (rexN true s d) :: 49 :: byteOf (twoN s d) :: tail : List UInt8) = bs
  have hl : 3 ≤ bs.length := by rw [← hE]; simp only [List.length_cons]; omega
  obtain ⟨t1, t2⟩ := two_at (bs := bs) (k := 2) (w := 1) sr dr (by omega) (by rw [← hE]; exact twob)
  have hr := ins_rex (bs := bs) (w := 1) (b := true) rfl sr dr (by omega) (by rw [← hE]; exact rexb sr dr)
  rw [hr]
  have b1 : byteAt bs 1 = 49 := (by rw [← hE]; exact rfl)
  rw [b1]
  refine (show prefIn bs (⟨1, s / 8 * 8, d / 8 * 8⟩ : Rx) 49 (R0 2) = (⟨12, (twoV bs (⟨1, s / 8 * 8, d / 8 * 8⟩ : Rx) (R0 2)).2, (twoV bs (⟨1, s / 8 * 8, d / 8 * 8⟩ : Rx) (R0 2)).1, 0, 0, 0⟩, twoD bs (R0 2)) from rfl).trans ?_
  rw [t1, t2]
theorem back17 {d s c z n k : Int} (h : fitsF ⟨13, 0, 0, true, 1, [57], 3, 0, 2, 1, 0, 0⟩ ⟨k, d, s, c, z, n⟩ = true) (hI : I64 n) (tail : List UInt8) : insR (encF ⟨k, d, s, c, z, n⟩ ++ tail) rd0 = (⟨k, d, s, c, z, n⟩, R0 (encF ⟨k, d, s, c, z, n⟩).length) := by
  simp only [fitsF, Bool.and_eq_true, decide_eq_true_eq] at h
  obtain ⟨⟨⟨⟨⟨hk, hz⟩, hd⟩, hs⟩, hc⟩, hn⟩ := h
  subst hk; subst hz
  have dr := field_range hd
  have sr := field_range hs
  obtain rfl := fld0 hc
  obtain rfl : n = 0 := of_decide_eq_true hn
  have he : encF ⟨13, d, s, 0, 0, 0⟩ = byteOf (rexN true s d) :: 57 :: byteOf (twoN s d) :: [] := rfl
  have hL : (encF ⟨13, d, s, 0, 0, 0⟩).length = 3 := by
    rw [he]
    rfl
  rw [hL, he]
  show insR (byteOf (rexN true s d) :: 57 :: byteOf (twoN s d) :: tail : List UInt8) rd0 = _
  generalize hE : (byteOf (rexN true s d) :: 57 :: byteOf (twoN s d) :: tail : List UInt8) = bs
  have hl : 3 ≤ bs.length := by rw [← hE]; simp only [List.length_cons]; omega
  obtain ⟨t1, t2⟩ := two_at (bs := bs) (k := 2) (w := 1) sr dr (by omega) (by rw [← hE]; exact twob)
  have hr := ins_rex (bs := bs) (w := 1) (b := true) rfl sr dr (by omega) (by rw [← hE]; exact rexb sr dr)
  rw [hr]
  have b1 : byteAt bs 1 = 57 := (by rw [← hE]; exact rfl)
  rw [b1]
  refine (show prefIn bs (⟨1, s / 8 * 8, d / 8 * 8⟩ : Rx) 57 (R0 2) = (⟨13, (twoV bs (⟨1, s / 8 * 8, d / 8 * 8⟩ : Rx) (R0 2)).2, (twoV bs (⟨1, s / 8 * 8, d / 8 * 8⟩ : Rx) (R0 2)).1, 0, 0, 0⟩, twoD bs (R0 2)) from rfl).trans ?_
  rw [t1, t2]
theorem back18 {d s c z n k : Int} (h : fitsF ⟨14, 0, 0, true, 1, [133], 3, 0, 2, 1, 0, 0⟩ ⟨k, d, s, c, z, n⟩ = true) (hI : I64 n) (tail : List UInt8) : insR (encF ⟨k, d, s, c, z, n⟩ ++ tail) rd0 = (⟨k, d, s, c, z, n⟩, R0 (encF ⟨k, d, s, c, z, n⟩).length) := by
  simp only [fitsF, Bool.and_eq_true, decide_eq_true_eq] at h
  obtain ⟨⟨⟨⟨⟨hk, hz⟩, hd⟩, hs⟩, hc⟩, hn⟩ := h
  subst hk; subst hz
  have dr := field_range hd
  have sr := field_range hs
  obtain rfl := fld0 hc
  obtain rfl : n = 0 := of_decide_eq_true hn
  have he : encF ⟨14, d, s, 0, 0, 0⟩ = byteOf (rexN true s d) :: 133 :: byteOf (twoN s d) :: [] := rfl
  have hL : (encF ⟨14, d, s, 0, 0, 0⟩).length = 3 := by
    rw [he]
    rfl
  rw [hL, he]
  show insR (byteOf (rexN true s d) :: 133 :: byteOf (twoN s d) :: tail : List UInt8) rd0 = _
  generalize hE : (byteOf (rexN true s d) :: 133 :: byteOf (twoN s d) :: tail : List UInt8) = bs
  have hl : 3 ≤ bs.length := by rw [← hE]; simp only [List.length_cons]; omega
  obtain ⟨t1, t2⟩ := two_at (bs := bs) (k := 2) (w := 1) sr dr (by omega) (by rw [← hE]; exact twob)
  have hr := ins_rex (bs := bs) (w := 1) (b := true) rfl sr dr (by omega) (by rw [← hE]; exact rexb sr dr)
  rw [hr]
  have b1 : byteAt bs 1 = 133 := (by rw [← hE]; exact rfl)
  rw [b1]
  refine (show prefIn bs (⟨1, s / 8 * 8, d / 8 * 8⟩ : Rx) 133 (R0 2) = (⟨14, (twoV bs (⟨1, s / 8 * 8, d / 8 * 8⟩ : Rx) (R0 2)).2, (twoV bs (⟨1, s / 8 * 8, d / 8 * 8⟩ : Rx) (R0 2)).1, 0, 0, 0⟩, twoD bs (R0 2)) from rfl).trans ?_
  rw [t1, t2]
theorem back19 {d s c z n k : Int} (h : fitsF ⟨15, 0, 0, true, 1, [129], 3, 0, 2, 0, 0, 6⟩ ⟨k, d, s, c, z, n⟩ = true) (hI : I64 n) (tail : List UInt8) : insR (encF ⟨k, d, s, c, z, n⟩ ++ tail) rd0 = (⟨k, d, s, c, z, n⟩, R0 (encF ⟨k, d, s, c, z, n⟩).length) := by
  simp only [fitsF, Bool.and_eq_true, decide_eq_true_eq] at h
  obtain ⟨⟨⟨⟨⟨hk, hz⟩, hd⟩, hs⟩, hc⟩, hn⟩ := h
  subst hk; subst hz
  have dr := field_range hd
  obtain rfl := fld0 hs
  obtain rfl := fld0 hc
  have hn : smallF n = true := hn
  have hg : sgn 4 (n % 256 ^ 4) = n := sgn4 hn
  have he : encF ⟨15, d, 0, 0, 0, n⟩ = byteOf (rexN true 0 d) :: 129 :: byteOf (twoN 0 d) :: immF n 4 := rfl
  have hL : (encF ⟨15, d, 0, 0, 0, n⟩).length = 3 + 4 := by
    rw [he]
    show (immF n 4).length + 3 = _
    rw [imm_len]
  rw [hL, he]
  show insR (byteOf (rexN true 0 d) :: 129 :: byteOf (twoN 0 d) :: (immF n 4 ++ tail) : List UInt8) rd0 = _
  generalize hE : (byteOf (rexN true 0 d) :: 129 :: byteOf (twoN 0 d) :: (immF n 4 ++ tail) : List UInt8) = bs
  have hl : 3 ≤ bs.length := by rw [← hE]; simp only [List.length_cons]; omega
  obtain ⟨i1, i2⟩ := imm_v (pre := [byteOf (rexN true 0 d), 129, byteOf (twoN 0 d)]) (rest := tail) (m := 4) hg
  rw [show [byteOf (rexN true 0 d), 129, byteOf (twoN 0 d)] ++ (leBytes 4 n ++ tail) = bs from hE] at i1 i2
  rw [show ([byteOf (rexN true 0 d), 129, byteOf (twoN 0 d)] : List UInt8).length = 3 from rfl] at i1 i2
  have o1 : oneV bs (⟨1, 0 / 8 * 8, d / 8 * 8⟩ : Rx) (R0 2) = (0, d) := (one_at (bs := bs) (k := 2) (w := 1) (g := 0) (q := d) ⟨by decide, by decide⟩ dr (by omega) (by rw [← hE]; exact twob)).1
  have o2 : oneD bs (⟨1, 0 / 8 * 8, d / 8 * 8⟩ : Rx) (R0 2) = R0 3 := (one_at (bs := bs) (k := 2) (w := 1) (g := 0) (q := d) ⟨by decide, by decide⟩ dr (by omega) (by rw [← hE]; exact twob)).2
  have hr := ins_rex (bs := bs) (w := 1) (b := true) rfl ⟨Int.le_refl (0 : Int), show (0 : Int) ≤ 15 by decide⟩ dr (by omega) (by rw [← hE]; exact rexb ⟨Int.le_refl (0 : Int), show (0 : Int) ≤ 15 by decide⟩ dr)
  rw [hr]
  have b1 : byteAt bs 1 = 129 := (by rw [← hE]; exact rfl)
  rw [b1]
  have hN : numD1 bs (⟨1, 0 / 8 * 8, d / 8 * 8⟩ : Rx) 129 (R0 2) = R0 3 := by rw [numD1, o1, o2]; rfl
  refine (show prefIn bs (⟨1, 0 / 8 * 8, d / 8 * 8⟩ : Rx) 129 (R0 2) = numberedR bs (⟨1, 0 / 8 * 8, d / 8 * 8⟩ : Rx) 129 (R0 2) from rfl).trans ?_
  rw [numberedR, if_pos rfl, hN, o1, i1, i2]
  rfl
theorem back20 {d s c z n k : Int} (h : fitsF ⟨16, 0, 0, true, 1, [129], 3, 1, 2, 0, 0, 6⟩ ⟨k, d, s, c, z, n⟩ = true) (hI : I64 n) (tail : List UInt8) : insR (encF ⟨k, d, s, c, z, n⟩ ++ tail) rd0 = (⟨k, d, s, c, z, n⟩, R0 (encF ⟨k, d, s, c, z, n⟩).length) := by
  simp only [fitsF, Bool.and_eq_true, decide_eq_true_eq] at h
  obtain ⟨⟨⟨⟨⟨hk, hz⟩, hd⟩, hs⟩, hc⟩, hn⟩ := h
  subst hk; subst hz
  have dr := field_range hd
  obtain rfl := fld0 hs
  obtain rfl := fld0 hc
  have hn : smallF n = true := hn
  have hg : sgn 4 (n % 256 ^ 4) = n := sgn4 hn
  have he : encF ⟨16, d, 0, 0, 0, n⟩ = byteOf (rexN true 0 d) :: 129 :: byteOf (twoN 1 d) :: immF n 4 := rfl
  have hL : (encF ⟨16, d, 0, 0, 0, n⟩).length = 3 + 4 := by
    rw [he]
    show (immF n 4).length + 3 = _
    rw [imm_len]
  rw [hL, he]
  show insR (byteOf (rexN true 0 d) :: 129 :: byteOf (twoN 1 d) :: (immF n 4 ++ tail) : List UInt8) rd0 = _
  generalize hE : (byteOf (rexN true 0 d) :: 129 :: byteOf (twoN 1 d) :: (immF n 4 ++ tail) : List UInt8) = bs
  have hl : 3 ≤ bs.length := by rw [← hE]; simp only [List.length_cons]; omega
  obtain ⟨i1, i2⟩ := imm_v (pre := [byteOf (rexN true 0 d), 129, byteOf (twoN 1 d)]) (rest := tail) (m := 4) hg
  rw [show [byteOf (rexN true 0 d), 129, byteOf (twoN 1 d)] ++ (leBytes 4 n ++ tail) = bs from hE] at i1 i2
  rw [show ([byteOf (rexN true 0 d), 129, byteOf (twoN 1 d)] : List UInt8).length = 3 from rfl] at i1 i2
  have o1 : oneV bs (⟨1, 0 / 8 * 8, d / 8 * 8⟩ : Rx) (R0 2) = (1, d) := (one_at (bs := bs) (k := 2) (w := 1) (g := 1) (q := d) ⟨by decide, by decide⟩ dr (by omega) (by rw [← hE]; exact twob)).1
  have o2 : oneD bs (⟨1, 0 / 8 * 8, d / 8 * 8⟩ : Rx) (R0 2) = R0 3 := (one_at (bs := bs) (k := 2) (w := 1) (g := 1) (q := d) ⟨by decide, by decide⟩ dr (by omega) (by rw [← hE]; exact twob)).2
  have hr := ins_rex (bs := bs) (w := 1) (b := true) rfl ⟨Int.le_refl (0 : Int), show (0 : Int) ≤ 15 by decide⟩ dr (by omega) (by rw [← hE]; exact rexb ⟨Int.le_refl (0 : Int), show (0 : Int) ≤ 15 by decide⟩ dr)
  rw [hr]
  have b1 : byteAt bs 1 = 129 := (by rw [← hE]; exact rfl)
  rw [b1]
  have hN : numD1 bs (⟨1, 0 / 8 * 8, d / 8 * 8⟩ : Rx) 129 (R0 2) = R0 3 := by rw [numD1, o1, o2]; rfl
  refine (show prefIn bs (⟨1, 0 / 8 * 8, d / 8 * 8⟩ : Rx) 129 (R0 2) = numberedR bs (⟨1, 0 / 8 * 8, d / 8 * 8⟩ : Rx) 129 (R0 2) from rfl).trans ?_
  rw [numberedR, if_pos rfl, hN, o1, i1, i2]
  rfl
theorem back21 {d s c z n k : Int} (h : fitsF ⟨17, 0, 0, true, 1, [129], 3, 4, 2, 0, 0, 6⟩ ⟨k, d, s, c, z, n⟩ = true) (hI : I64 n) (tail : List UInt8) : insR (encF ⟨k, d, s, c, z, n⟩ ++ tail) rd0 = (⟨k, d, s, c, z, n⟩, R0 (encF ⟨k, d, s, c, z, n⟩).length) := by
  simp only [fitsF, Bool.and_eq_true, decide_eq_true_eq] at h
  obtain ⟨⟨⟨⟨⟨hk, hz⟩, hd⟩, hs⟩, hc⟩, hn⟩ := h
  subst hk; subst hz
  have dr := field_range hd
  obtain rfl := fld0 hs
  obtain rfl := fld0 hc
  have hn : smallF n = true := hn
  have hg : sgn 4 (n % 256 ^ 4) = n := sgn4 hn
  have he : encF ⟨17, d, 0, 0, 0, n⟩ = byteOf (rexN true 0 d) :: 129 :: byteOf (twoN 4 d) :: immF n 4 := rfl
  have hL : (encF ⟨17, d, 0, 0, 0, n⟩).length = 3 + 4 := by
    rw [he]
    show (immF n 4).length + 3 = _
    rw [imm_len]
  rw [hL, he]
  show insR (byteOf (rexN true 0 d) :: 129 :: byteOf (twoN 4 d) :: (immF n 4 ++ tail) : List UInt8) rd0 = _
  generalize hE : (byteOf (rexN true 0 d) :: 129 :: byteOf (twoN 4 d) :: (immF n 4 ++ tail) : List UInt8) = bs
  have hl : 3 ≤ bs.length := by rw [← hE]; simp only [List.length_cons]; omega
  obtain ⟨i1, i2⟩ := imm_v (pre := [byteOf (rexN true 0 d), 129, byteOf (twoN 4 d)]) (rest := tail) (m := 4) hg
  rw [show [byteOf (rexN true 0 d), 129, byteOf (twoN 4 d)] ++ (leBytes 4 n ++ tail) = bs from hE] at i1 i2
  rw [show ([byteOf (rexN true 0 d), 129, byteOf (twoN 4 d)] : List UInt8).length = 3 from rfl] at i1 i2
  have o1 : oneV bs (⟨1, 0 / 8 * 8, d / 8 * 8⟩ : Rx) (R0 2) = (4, d) := (one_at (bs := bs) (k := 2) (w := 1) (g := 4) (q := d) ⟨by decide, by decide⟩ dr (by omega) (by rw [← hE]; exact twob)).1
  have o2 : oneD bs (⟨1, 0 / 8 * 8, d / 8 * 8⟩ : Rx) (R0 2) = R0 3 := (one_at (bs := bs) (k := 2) (w := 1) (g := 4) (q := d) ⟨by decide, by decide⟩ dr (by omega) (by rw [← hE]; exact twob)).2
  have hr := ins_rex (bs := bs) (w := 1) (b := true) rfl ⟨Int.le_refl (0 : Int), show (0 : Int) ≤ 15 by decide⟩ dr (by omega) (by rw [← hE]; exact rexb ⟨Int.le_refl (0 : Int), show (0 : Int) ≤ 15 by decide⟩ dr)
  rw [hr]
  have b1 : byteAt bs 1 = 129 := (by rw [← hE]; exact rfl)
  rw [b1]
  have hN : numD1 bs (⟨1, 0 / 8 * 8, d / 8 * 8⟩ : Rx) 129 (R0 2) = R0 3 := by rw [numD1, o1, o2]; rfl
  refine (show prefIn bs (⟨1, 0 / 8 * 8, d / 8 * 8⟩ : Rx) 129 (R0 2) = numberedR bs (⟨1, 0 / 8 * 8, d / 8 * 8⟩ : Rx) 129 (R0 2) from rfl).trans ?_
  rw [numberedR, if_pos rfl, hN, o1, i1, i2]
  rfl
theorem back22 {d s c z n k : Int} (h : fitsF ⟨18, 0, 0, true, 1, [129], 3, 5, 2, 0, 0, 6⟩ ⟨k, d, s, c, z, n⟩ = true) (hI : I64 n) (tail : List UInt8) : insR (encF ⟨k, d, s, c, z, n⟩ ++ tail) rd0 = (⟨k, d, s, c, z, n⟩, R0 (encF ⟨k, d, s, c, z, n⟩).length) := by
  simp only [fitsF, Bool.and_eq_true, decide_eq_true_eq] at h
  obtain ⟨⟨⟨⟨⟨hk, hz⟩, hd⟩, hs⟩, hc⟩, hn⟩ := h
  subst hk; subst hz
  have dr := field_range hd
  obtain rfl := fld0 hs
  obtain rfl := fld0 hc
  have hn : smallF n = true := hn
  have hg : sgn 4 (n % 256 ^ 4) = n := sgn4 hn
  have he : encF ⟨18, d, 0, 0, 0, n⟩ = byteOf (rexN true 0 d) :: 129 :: byteOf (twoN 5 d) :: immF n 4 := rfl
  have hL : (encF ⟨18, d, 0, 0, 0, n⟩).length = 3 + 4 := by
    rw [he]
    show (immF n 4).length + 3 = _
    rw [imm_len]
  rw [hL, he]
  show insR (byteOf (rexN true 0 d) :: 129 :: byteOf (twoN 5 d) :: (immF n 4 ++ tail) : List UInt8) rd0 = _
  generalize hE : (byteOf (rexN true 0 d) :: 129 :: byteOf (twoN 5 d) :: (immF n 4 ++ tail) : List UInt8) = bs
  have hl : 3 ≤ bs.length := by rw [← hE]; simp only [List.length_cons]; omega
  obtain ⟨i1, i2⟩ := imm_v (pre := [byteOf (rexN true 0 d), 129, byteOf (twoN 5 d)]) (rest := tail) (m := 4) hg
  rw [show [byteOf (rexN true 0 d), 129, byteOf (twoN 5 d)] ++ (leBytes 4 n ++ tail) = bs from hE] at i1 i2
  rw [show ([byteOf (rexN true 0 d), 129, byteOf (twoN 5 d)] : List UInt8).length = 3 from rfl] at i1 i2
  have o1 : oneV bs (⟨1, 0 / 8 * 8, d / 8 * 8⟩ : Rx) (R0 2) = (5, d) := (one_at (bs := bs) (k := 2) (w := 1) (g := 5) (q := d) ⟨by decide, by decide⟩ dr (by omega) (by rw [← hE]; exact twob)).1
  have o2 : oneD bs (⟨1, 0 / 8 * 8, d / 8 * 8⟩ : Rx) (R0 2) = R0 3 := (one_at (bs := bs) (k := 2) (w := 1) (g := 5) (q := d) ⟨by decide, by decide⟩ dr (by omega) (by rw [← hE]; exact twob)).2
  have hr := ins_rex (bs := bs) (w := 1) (b := true) rfl ⟨Int.le_refl (0 : Int), show (0 : Int) ≤ 15 by decide⟩ dr (by omega) (by rw [← hE]; exact rexb ⟨Int.le_refl (0 : Int), show (0 : Int) ≤ 15 by decide⟩ dr)
  rw [hr]
  have b1 : byteAt bs 1 = 129 := (by rw [← hE]; exact rfl)
  rw [b1]
  have hN : numD1 bs (⟨1, 0 / 8 * 8, d / 8 * 8⟩ : Rx) 129 (R0 2) = R0 3 := by rw [numD1, o1, o2]; rfl
  refine (show prefIn bs (⟨1, 0 / 8 * 8, d / 8 * 8⟩ : Rx) 129 (R0 2) = numberedR bs (⟨1, 0 / 8 * 8, d / 8 * 8⟩ : Rx) 129 (R0 2) from rfl).trans ?_
  rw [numberedR, if_pos rfl, hN, o1, i1, i2]
  rfl
theorem back23 {d s c z n k : Int} (h : fitsF ⟨19, 0, 0, true, 1, [129], 3, 6, 2, 0, 0, 6⟩ ⟨k, d, s, c, z, n⟩ = true) (hI : I64 n) (tail : List UInt8) : insR (encF ⟨k, d, s, c, z, n⟩ ++ tail) rd0 = (⟨k, d, s, c, z, n⟩, R0 (encF ⟨k, d, s, c, z, n⟩).length) := by
  simp only [fitsF, Bool.and_eq_true, decide_eq_true_eq] at h
  obtain ⟨⟨⟨⟨⟨hk, hz⟩, hd⟩, hs⟩, hc⟩, hn⟩ := h
  subst hk; subst hz
  have dr := field_range hd
  obtain rfl := fld0 hs
  obtain rfl := fld0 hc
  have hn : smallF n = true := hn
  have hg : sgn 4 (n % 256 ^ 4) = n := sgn4 hn
  have he : encF ⟨19, d, 0, 0, 0, n⟩ = byteOf (rexN true 0 d) :: 129 :: byteOf (twoN 6 d) :: immF n 4 := rfl
  have hL : (encF ⟨19, d, 0, 0, 0, n⟩).length = 3 + 4 := by
    rw [he]
    show (immF n 4).length + 3 = _
    rw [imm_len]
  rw [hL, he]
  show insR (byteOf (rexN true 0 d) :: 129 :: byteOf (twoN 6 d) :: (immF n 4 ++ tail) : List UInt8) rd0 = _
  generalize hE : (byteOf (rexN true 0 d) :: 129 :: byteOf (twoN 6 d) :: (immF n 4 ++ tail) : List UInt8) = bs
  have hl : 3 ≤ bs.length := by rw [← hE]; simp only [List.length_cons]; omega
  obtain ⟨i1, i2⟩ := imm_v (pre := [byteOf (rexN true 0 d), 129, byteOf (twoN 6 d)]) (rest := tail) (m := 4) hg
  rw [show [byteOf (rexN true 0 d), 129, byteOf (twoN 6 d)] ++ (leBytes 4 n ++ tail) = bs from hE] at i1 i2
  rw [show ([byteOf (rexN true 0 d), 129, byteOf (twoN 6 d)] : List UInt8).length = 3 from rfl] at i1 i2
  have o1 : oneV bs (⟨1, 0 / 8 * 8, d / 8 * 8⟩ : Rx) (R0 2) = (6, d) := (one_at (bs := bs) (k := 2) (w := 1) (g := 6) (q := d) ⟨by decide, by decide⟩ dr (by omega) (by rw [← hE]; exact twob)).1
  have o2 : oneD bs (⟨1, 0 / 8 * 8, d / 8 * 8⟩ : Rx) (R0 2) = R0 3 := (one_at (bs := bs) (k := 2) (w := 1) (g := 6) (q := d) ⟨by decide, by decide⟩ dr (by omega) (by rw [← hE]; exact twob)).2
  have hr := ins_rex (bs := bs) (w := 1) (b := true) rfl ⟨Int.le_refl (0 : Int), show (0 : Int) ≤ 15 by decide⟩ dr (by omega) (by rw [← hE]; exact rexb ⟨Int.le_refl (0 : Int), show (0 : Int) ≤ 15 by decide⟩ dr)
  rw [hr]
  have b1 : byteAt bs 1 = 129 := (by rw [← hE]; exact rfl)
  rw [b1]
  have hN : numD1 bs (⟨1, 0 / 8 * 8, d / 8 * 8⟩ : Rx) 129 (R0 2) = R0 3 := by rw [numD1, o1, o2]; rfl
  refine (show prefIn bs (⟨1, 0 / 8 * 8, d / 8 * 8⟩ : Rx) 129 (R0 2) = numberedR bs (⟨1, 0 / 8 * 8, d / 8 * 8⟩ : Rx) 129 (R0 2) from rfl).trans ?_
  rw [numberedR, if_pos rfl, hN, o1, i1, i2]
  rfl
theorem back24 {d s c z n k : Int} (h : fitsF ⟨20, 0, 0, true, 1, [129], 3, 7, 2, 0, 0, 6⟩ ⟨k, d, s, c, z, n⟩ = true) (hI : I64 n) (tail : List UInt8) : insR (encF ⟨k, d, s, c, z, n⟩ ++ tail) rd0 = (⟨k, d, s, c, z, n⟩, R0 (encF ⟨k, d, s, c, z, n⟩).length) := by
  simp only [fitsF, Bool.and_eq_true, decide_eq_true_eq] at h
  obtain ⟨⟨⟨⟨⟨hk, hz⟩, hd⟩, hs⟩, hc⟩, hn⟩ := h
  subst hk; subst hz
  have dr := field_range hd
  obtain rfl := fld0 hs
  obtain rfl := fld0 hc
  have hn : smallF n = true := hn
  have hg : sgn 4 (n % 256 ^ 4) = n := sgn4 hn
  have he : encF ⟨20, d, 0, 0, 0, n⟩ = byteOf (rexN true 0 d) :: 129 :: byteOf (twoN 7 d) :: immF n 4 := rfl
  have hL : (encF ⟨20, d, 0, 0, 0, n⟩).length = 3 + 4 := by
    rw [he]
    show (immF n 4).length + 3 = _
    rw [imm_len]
  rw [hL, he]
  show insR (byteOf (rexN true 0 d) :: 129 :: byteOf (twoN 7 d) :: (immF n 4 ++ tail) : List UInt8) rd0 = _
  generalize hE : (byteOf (rexN true 0 d) :: 129 :: byteOf (twoN 7 d) :: (immF n 4 ++ tail) : List UInt8) = bs
  have hl : 3 ≤ bs.length := by rw [← hE]; simp only [List.length_cons]; omega
  obtain ⟨i1, i2⟩ := imm_v (pre := [byteOf (rexN true 0 d), 129, byteOf (twoN 7 d)]) (rest := tail) (m := 4) hg
  rw [show [byteOf (rexN true 0 d), 129, byteOf (twoN 7 d)] ++ (leBytes 4 n ++ tail) = bs from hE] at i1 i2
  rw [show ([byteOf (rexN true 0 d), 129, byteOf (twoN 7 d)] : List UInt8).length = 3 from rfl] at i1 i2
  have o1 : oneV bs (⟨1, 0 / 8 * 8, d / 8 * 8⟩ : Rx) (R0 2) = (7, d) := (one_at (bs := bs) (k := 2) (w := 1) (g := 7) (q := d) ⟨by decide, by decide⟩ dr (by omega) (by rw [← hE]; exact twob)).1
  have o2 : oneD bs (⟨1, 0 / 8 * 8, d / 8 * 8⟩ : Rx) (R0 2) = R0 3 := (one_at (bs := bs) (k := 2) (w := 1) (g := 7) (q := d) ⟨by decide, by decide⟩ dr (by omega) (by rw [← hE]; exact twob)).2
  have hr := ins_rex (bs := bs) (w := 1) (b := true) rfl ⟨Int.le_refl (0 : Int), show (0 : Int) ≤ 15 by decide⟩ dr (by omega) (by rw [← hE]; exact rexb ⟨Int.le_refl (0 : Int), show (0 : Int) ≤ 15 by decide⟩ dr)
  rw [hr]
  have b1 : byteAt bs 1 = 129 := (by rw [← hE]; exact rfl)
  rw [b1]
  have hN : numD1 bs (⟨1, 0 / 8 * 8, d / 8 * 8⟩ : Rx) 129 (R0 2) = R0 3 := by rw [numD1, o1, o2]; rfl
  refine (show prefIn bs (⟨1, 0 / 8 * 8, d / 8 * 8⟩ : Rx) 129 (R0 2) = numberedR bs (⟨1, 0 / 8 * 8, d / 8 * 8⟩ : Rx) 129 (R0 2) from rfl).trans ?_
  rw [numberedR, if_pos rfl, hN, o1, i1, i2]
  rfl
theorem back25 {d s c z n k : Int} (h : fitsF ⟨21, 0, 0, true, 1, [15, 175], 3, 0, 1, 2, 0, 0⟩ ⟨k, d, s, c, z, n⟩ = true) (hI : I64 n) (tail : List UInt8) : insR (encF ⟨k, d, s, c, z, n⟩ ++ tail) rd0 = (⟨k, d, s, c, z, n⟩, R0 (encF ⟨k, d, s, c, z, n⟩).length) := by
  simp only [fitsF, Bool.and_eq_true, decide_eq_true_eq] at h
  obtain ⟨⟨⟨⟨⟨hk, hz⟩, hd⟩, hs⟩, hc⟩, hn⟩ := h
  subst hk; subst hz
  have dr := field_range hd
  have sr := field_range hs
  obtain rfl := fld0 hc
  obtain rfl : n = 0 := of_decide_eq_true hn
  have he : encF ⟨21, d, s, 0, 0, 0⟩ = byteOf (rexN true d s) :: 15 :: 175 :: byteOf (twoN d s) :: [] := rfl
  have hL : (encF ⟨21, d, s, 0, 0, 0⟩).length = 4 := by
    rw [he]
    rfl
  rw [hL, he]
  show insR (byteOf (rexN true d s) :: 15 :: 175 :: byteOf (twoN d s) :: tail : List UInt8) rd0 = _
  generalize hE : (byteOf (rexN true d s) :: 15 :: 175 :: byteOf (twoN d s) :: tail : List UInt8) = bs
  have hl : 4 ≤ bs.length := by rw [← hE]; simp only [List.length_cons]; omega
  obtain ⟨t1, t2⟩ := two_at (bs := bs) (k := 3) (w := 1) dr sr (by omega) (by rw [← hE]; exact twob)
  have hr := ins_rex (bs := bs) (w := 1) (b := true) rfl dr sr (by omega) (by rw [← hE]; exact rexb dr sr)
  rw [hr]
  have b1 : byteAt bs 1 = 15 := (by rw [← hE]; exact rfl)
  rw [b1]
  refine (show prefIn bs (⟨1, d / 8 * 8, s / 8 * 8⟩ : Rx) 15 (R0 2) = farR bs (⟨1, d / 8 * 8, s / 8 * 8⟩ : Rx) (R0 2) from rfl).trans ?_
  rw [far_at (by exact .inl rfl) (by omega)]
  have b2 : byteAt bs 2 = 175 := (by rw [← hE]; exact rfl)
  rw [b2]
  refine (show farIn bs (⟨1, d / 8 * 8, s / 8 * 8⟩ : Rx) 175 (R0 3) = (⟨21, (twoV bs (⟨1, d / 8 * 8, s / 8 * 8⟩ : Rx) (R0 3)).1, (twoV bs (⟨1, d / 8 * 8, s / 8 * 8⟩ : Rx) (R0 3)).2, 0, 0, 0⟩, twoD bs (R0 3)) from rfl).trans ?_
  rw [t1, t2]
theorem back26 {d s c z n k : Int} (h : fitsF ⟨22, 0, 0, true, 1, [247], 3, 4, 2, 0, 0, 0⟩ ⟨k, d, s, c, z, n⟩ = true) (hI : I64 n) (tail : List UInt8) : insR (encF ⟨k, d, s, c, z, n⟩ ++ tail) rd0 = (⟨k, d, s, c, z, n⟩, R0 (encF ⟨k, d, s, c, z, n⟩).length) := by
  simp only [fitsF, Bool.and_eq_true, decide_eq_true_eq] at h
  obtain ⟨⟨⟨⟨⟨hk, hz⟩, hd⟩, hs⟩, hc⟩, hn⟩ := h
  subst hk; subst hz
  have dr := field_range hd
  obtain rfl := fld0 hs
  obtain rfl := fld0 hc
  obtain rfl : n = 0 := of_decide_eq_true hn
  have he : encF ⟨22, d, 0, 0, 0, 0⟩ = byteOf (rexN true 0 d) :: 247 :: byteOf (twoN 4 d) :: [] := rfl
  have hL : (encF ⟨22, d, 0, 0, 0, 0⟩).length = 3 := by
    rw [he]
    rfl
  rw [hL, he]
  show insR (byteOf (rexN true 0 d) :: 247 :: byteOf (twoN 4 d) :: tail : List UInt8) rd0 = _
  generalize hE : (byteOf (rexN true 0 d) :: 247 :: byteOf (twoN 4 d) :: tail : List UInt8) = bs
  have hl : 3 ≤ bs.length := by rw [← hE]; simp only [List.length_cons]; omega
  have o1 : oneV bs (⟨1, 0 / 8 * 8, d / 8 * 8⟩ : Rx) (R0 2) = (4, d) := (one_at (bs := bs) (k := 2) (w := 1) (g := 4) (q := d) ⟨by decide, by decide⟩ dr (by omega) (by rw [← hE]; exact twob)).1
  have o2 : oneD bs (⟨1, 0 / 8 * 8, d / 8 * 8⟩ : Rx) (R0 2) = R0 3 := (one_at (bs := bs) (k := 2) (w := 1) (g := 4) (q := d) ⟨by decide, by decide⟩ dr (by omega) (by rw [← hE]; exact twob)).2
  have hr := ins_rex (bs := bs) (w := 1) (b := true) rfl ⟨Int.le_refl (0 : Int), show (0 : Int) ≤ 15 by decide⟩ dr (by omega) (by rw [← hE]; exact rexb ⟨Int.le_refl (0 : Int), show (0 : Int) ≤ 15 by decide⟩ dr)
  rw [hr]
  have b1 : byteAt bs 1 = 247 := (by rw [← hE]; exact rfl)
  rw [b1]
  have hN : numD1 bs (⟨1, 0 / 8 * 8, d / 8 * 8⟩ : Rx) 247 (R0 2) = R0 3 := by rw [numD1, o1, o2]; rfl
  refine (show prefIn bs (⟨1, 0 / 8 * 8, d / 8 * 8⟩ : Rx) 247 (R0 2) = numberedR bs (⟨1, 0 / 8 * 8, d / 8 * 8⟩ : Rx) 247 (R0 2) from rfl).trans ?_
  rw [numberedR, if_neg (by decide), if_neg (by decide), hN, o1]
  rfl
theorem back27 {d s c z n k : Int} (h : fitsF ⟨23, 0, 0, true, 1, [247], 3, 6, 2, 0, 0, 0⟩ ⟨k, d, s, c, z, n⟩ = true) (hI : I64 n) (tail : List UInt8) : insR (encF ⟨k, d, s, c, z, n⟩ ++ tail) rd0 = (⟨k, d, s, c, z, n⟩, R0 (encF ⟨k, d, s, c, z, n⟩).length) := by
  simp only [fitsF, Bool.and_eq_true, decide_eq_true_eq] at h
  obtain ⟨⟨⟨⟨⟨hk, hz⟩, hd⟩, hs⟩, hc⟩, hn⟩ := h
  subst hk; subst hz
  have dr := field_range hd
  obtain rfl := fld0 hs
  obtain rfl := fld0 hc
  obtain rfl : n = 0 := of_decide_eq_true hn
  have he : encF ⟨23, d, 0, 0, 0, 0⟩ = byteOf (rexN true 0 d) :: 247 :: byteOf (twoN 6 d) :: [] := rfl
  have hL : (encF ⟨23, d, 0, 0, 0, 0⟩).length = 3 := by
    rw [he]
    rfl
  rw [hL, he]
  show insR (byteOf (rexN true 0 d) :: 247 :: byteOf (twoN 6 d) :: tail : List UInt8) rd0 = _
  generalize hE : (byteOf (rexN true 0 d) :: 247 :: byteOf (twoN 6 d) :: tail : List UInt8) = bs
  have hl : 3 ≤ bs.length := by rw [← hE]; simp only [List.length_cons]; omega
  have o1 : oneV bs (⟨1, 0 / 8 * 8, d / 8 * 8⟩ : Rx) (R0 2) = (6, d) := (one_at (bs := bs) (k := 2) (w := 1) (g := 6) (q := d) ⟨by decide, by decide⟩ dr (by omega) (by rw [← hE]; exact twob)).1
  have o2 : oneD bs (⟨1, 0 / 8 * 8, d / 8 * 8⟩ : Rx) (R0 2) = R0 3 := (one_at (bs := bs) (k := 2) (w := 1) (g := 6) (q := d) ⟨by decide, by decide⟩ dr (by omega) (by rw [← hE]; exact twob)).2
  have hr := ins_rex (bs := bs) (w := 1) (b := true) rfl ⟨Int.le_refl (0 : Int), show (0 : Int) ≤ 15 by decide⟩ dr (by omega) (by rw [← hE]; exact rexb ⟨Int.le_refl (0 : Int), show (0 : Int) ≤ 15 by decide⟩ dr)
  rw [hr]
  have b1 : byteAt bs 1 = 247 := (by rw [← hE]; exact rfl)
  rw [b1]
  have hN : numD1 bs (⟨1, 0 / 8 * 8, d / 8 * 8⟩ : Rx) 247 (R0 2) = R0 3 := by rw [numD1, o1, o2]; rfl
  refine (show prefIn bs (⟨1, 0 / 8 * 8, d / 8 * 8⟩ : Rx) 247 (R0 2) = numberedR bs (⟨1, 0 / 8 * 8, d / 8 * 8⟩ : Rx) 247 (R0 2) from rfl).trans ?_
  rw [numberedR, if_neg (by decide), if_neg (by decide), hN, o1]
  rfl
theorem back28 {d s c z n k : Int} (h : fitsF ⟨24, 0, 0, true, 1, [247], 3, 3, 2, 0, 0, 0⟩ ⟨k, d, s, c, z, n⟩ = true) (hI : I64 n) (tail : List UInt8) : insR (encF ⟨k, d, s, c, z, n⟩ ++ tail) rd0 = (⟨k, d, s, c, z, n⟩, R0 (encF ⟨k, d, s, c, z, n⟩).length) := by
  simp only [fitsF, Bool.and_eq_true, decide_eq_true_eq] at h
  obtain ⟨⟨⟨⟨⟨hk, hz⟩, hd⟩, hs⟩, hc⟩, hn⟩ := h
  subst hk; subst hz
  have dr := field_range hd
  obtain rfl := fld0 hs
  obtain rfl := fld0 hc
  obtain rfl : n = 0 := of_decide_eq_true hn
  have he : encF ⟨24, d, 0, 0, 0, 0⟩ = byteOf (rexN true 0 d) :: 247 :: byteOf (twoN 3 d) :: [] := rfl
  have hL : (encF ⟨24, d, 0, 0, 0, 0⟩).length = 3 := by
    rw [he]
    rfl
  rw [hL, he]
  show insR (byteOf (rexN true 0 d) :: 247 :: byteOf (twoN 3 d) :: tail : List UInt8) rd0 = _
  generalize hE : (byteOf (rexN true 0 d) :: 247 :: byteOf (twoN 3 d) :: tail : List UInt8) = bs
  have hl : 3 ≤ bs.length := by rw [← hE]; simp only [List.length_cons]; omega
  have o1 : oneV bs (⟨1, 0 / 8 * 8, d / 8 * 8⟩ : Rx) (R0 2) = (3, d) := (one_at (bs := bs) (k := 2) (w := 1) (g := 3) (q := d) ⟨by decide, by decide⟩ dr (by omega) (by rw [← hE]; exact twob)).1
  have o2 : oneD bs (⟨1, 0 / 8 * 8, d / 8 * 8⟩ : Rx) (R0 2) = R0 3 := (one_at (bs := bs) (k := 2) (w := 1) (g := 3) (q := d) ⟨by decide, by decide⟩ dr (by omega) (by rw [← hE]; exact twob)).2
  have hr := ins_rex (bs := bs) (w := 1) (b := true) rfl ⟨Int.le_refl (0 : Int), show (0 : Int) ≤ 15 by decide⟩ dr (by omega) (by rw [← hE]; exact rexb ⟨Int.le_refl (0 : Int), show (0 : Int) ≤ 15 by decide⟩ dr)
  rw [hr]
  have b1 : byteAt bs 1 = 247 := (by rw [← hE]; exact rfl)
  rw [b1]
  have hN : numD1 bs (⟨1, 0 / 8 * 8, d / 8 * 8⟩ : Rx) 247 (R0 2) = R0 3 := by rw [numD1, o1, o2]; rfl
  refine (show prefIn bs (⟨1, 0 / 8 * 8, d / 8 * 8⟩ : Rx) 247 (R0 2) = numberedR bs (⟨1, 0 / 8 * 8, d / 8 * 8⟩ : Rx) 247 (R0 2) from rfl).trans ?_
  rw [numberedR, if_neg (by decide), if_neg (by decide), hN, o1]
  rfl
theorem back29 {d s c z n k : Int} (h : fitsF ⟨25, 0, 0, true, 1, [247], 3, 2, 2, 0, 0, 0⟩ ⟨k, d, s, c, z, n⟩ = true) (hI : I64 n) (tail : List UInt8) : insR (encF ⟨k, d, s, c, z, n⟩ ++ tail) rd0 = (⟨k, d, s, c, z, n⟩, R0 (encF ⟨k, d, s, c, z, n⟩).length) := by
  simp only [fitsF, Bool.and_eq_true, decide_eq_true_eq] at h
  obtain ⟨⟨⟨⟨⟨hk, hz⟩, hd⟩, hs⟩, hc⟩, hn⟩ := h
  subst hk; subst hz
  have dr := field_range hd
  obtain rfl := fld0 hs
  obtain rfl := fld0 hc
  obtain rfl : n = 0 := of_decide_eq_true hn
  have he : encF ⟨25, d, 0, 0, 0, 0⟩ = byteOf (rexN true 0 d) :: 247 :: byteOf (twoN 2 d) :: [] := rfl
  have hL : (encF ⟨25, d, 0, 0, 0, 0⟩).length = 3 := by
    rw [he]
    rfl
  rw [hL, he]
  show insR (byteOf (rexN true 0 d) :: 247 :: byteOf (twoN 2 d) :: tail : List UInt8) rd0 = _
  generalize hE : (byteOf (rexN true 0 d) :: 247 :: byteOf (twoN 2 d) :: tail : List UInt8) = bs
  have hl : 3 ≤ bs.length := by rw [← hE]; simp only [List.length_cons]; omega
  have o1 : oneV bs (⟨1, 0 / 8 * 8, d / 8 * 8⟩ : Rx) (R0 2) = (2, d) := (one_at (bs := bs) (k := 2) (w := 1) (g := 2) (q := d) ⟨by decide, by decide⟩ dr (by omega) (by rw [← hE]; exact twob)).1
  have o2 : oneD bs (⟨1, 0 / 8 * 8, d / 8 * 8⟩ : Rx) (R0 2) = R0 3 := (one_at (bs := bs) (k := 2) (w := 1) (g := 2) (q := d) ⟨by decide, by decide⟩ dr (by omega) (by rw [← hE]; exact twob)).2
  have hr := ins_rex (bs := bs) (w := 1) (b := true) rfl ⟨Int.le_refl (0 : Int), show (0 : Int) ≤ 15 by decide⟩ dr (by omega) (by rw [← hE]; exact rexb ⟨Int.le_refl (0 : Int), show (0 : Int) ≤ 15 by decide⟩ dr)
  rw [hr]
  have b1 : byteAt bs 1 = 247 := (by rw [← hE]; exact rfl)
  rw [b1]
  have hN : numD1 bs (⟨1, 0 / 8 * 8, d / 8 * 8⟩ : Rx) 247 (R0 2) = R0 3 := by rw [numD1, o1, o2]; rfl
  refine (show prefIn bs (⟨1, 0 / 8 * 8, d / 8 * 8⟩ : Rx) 247 (R0 2) = numberedR bs (⟨1, 0 / 8 * 8, d / 8 * 8⟩ : Rx) 247 (R0 2) from rfl).trans ?_
  rw [numberedR, if_neg (by decide), if_neg (by decide), hN, o1]
  rfl
theorem back30 {d s c z n k : Int} (h : fitsF ⟨26, 0, 0, true, 1, [211], 3, 4, 2, 0, 0, 0⟩ ⟨k, d, s, c, z, n⟩ = true) (hI : I64 n) (tail : List UInt8) : insR (encF ⟨k, d, s, c, z, n⟩ ++ tail) rd0 = (⟨k, d, s, c, z, n⟩, R0 (encF ⟨k, d, s, c, z, n⟩).length) := by
  simp only [fitsF, Bool.and_eq_true, decide_eq_true_eq] at h
  obtain ⟨⟨⟨⟨⟨hk, hz⟩, hd⟩, hs⟩, hc⟩, hn⟩ := h
  subst hk; subst hz
  have dr := field_range hd
  obtain rfl := fld0 hs
  obtain rfl := fld0 hc
  obtain rfl : n = 0 := of_decide_eq_true hn
  have he : encF ⟨26, d, 0, 0, 0, 0⟩ = byteOf (rexN true 0 d) :: 211 :: byteOf (twoN 4 d) :: [] := rfl
  have hL : (encF ⟨26, d, 0, 0, 0, 0⟩).length = 3 := by
    rw [he]
    rfl
  rw [hL, he]
  show insR (byteOf (rexN true 0 d) :: 211 :: byteOf (twoN 4 d) :: tail : List UInt8) rd0 = _
  generalize hE : (byteOf (rexN true 0 d) :: 211 :: byteOf (twoN 4 d) :: tail : List UInt8) = bs
  have hl : 3 ≤ bs.length := by rw [← hE]; simp only [List.length_cons]; omega
  have o1 : oneV bs (⟨1, 0 / 8 * 8, d / 8 * 8⟩ : Rx) (R0 2) = (4, d) := (one_at (bs := bs) (k := 2) (w := 1) (g := 4) (q := d) ⟨by decide, by decide⟩ dr (by omega) (by rw [← hE]; exact twob)).1
  have o2 : oneD bs (⟨1, 0 / 8 * 8, d / 8 * 8⟩ : Rx) (R0 2) = R0 3 := (one_at (bs := bs) (k := 2) (w := 1) (g := 4) (q := d) ⟨by decide, by decide⟩ dr (by omega) (by rw [← hE]; exact twob)).2
  have hr := ins_rex (bs := bs) (w := 1) (b := true) rfl ⟨Int.le_refl (0 : Int), show (0 : Int) ≤ 15 by decide⟩ dr (by omega) (by rw [← hE]; exact rexb ⟨Int.le_refl (0 : Int), show (0 : Int) ≤ 15 by decide⟩ dr)
  rw [hr]
  have b1 : byteAt bs 1 = 211 := (by rw [← hE]; exact rfl)
  rw [b1]
  have hN : numD1 bs (⟨1, 0 / 8 * 8, d / 8 * 8⟩ : Rx) 211 (R0 2) = R0 3 := by rw [numD1, o1, o2]; rfl
  refine (show prefIn bs (⟨1, 0 / 8 * 8, d / 8 * 8⟩ : Rx) 211 (R0 2) = numberedR bs (⟨1, 0 / 8 * 8, d / 8 * 8⟩ : Rx) 211 (R0 2) from rfl).trans ?_
  rw [numberedR, if_neg (by decide), if_neg (by decide), hN, o1]
  rfl
theorem back31 {d s c z n k : Int} (h : fitsF ⟨27, 0, 0, true, 1, [211], 3, 5, 2, 0, 0, 0⟩ ⟨k, d, s, c, z, n⟩ = true) (hI : I64 n) (tail : List UInt8) : insR (encF ⟨k, d, s, c, z, n⟩ ++ tail) rd0 = (⟨k, d, s, c, z, n⟩, R0 (encF ⟨k, d, s, c, z, n⟩).length) := by
  simp only [fitsF, Bool.and_eq_true, decide_eq_true_eq] at h
  obtain ⟨⟨⟨⟨⟨hk, hz⟩, hd⟩, hs⟩, hc⟩, hn⟩ := h
  subst hk; subst hz
  have dr := field_range hd
  obtain rfl := fld0 hs
  obtain rfl := fld0 hc
  obtain rfl : n = 0 := of_decide_eq_true hn
  have he : encF ⟨27, d, 0, 0, 0, 0⟩ = byteOf (rexN true 0 d) :: 211 :: byteOf (twoN 5 d) :: [] := rfl
  have hL : (encF ⟨27, d, 0, 0, 0, 0⟩).length = 3 := by
    rw [he]
    rfl
  rw [hL, he]
  show insR (byteOf (rexN true 0 d) :: 211 :: byteOf (twoN 5 d) :: tail : List UInt8) rd0 = _
  generalize hE : (byteOf (rexN true 0 d) :: 211 :: byteOf (twoN 5 d) :: tail : List UInt8) = bs
  have hl : 3 ≤ bs.length := by rw [← hE]; simp only [List.length_cons]; omega
  have o1 : oneV bs (⟨1, 0 / 8 * 8, d / 8 * 8⟩ : Rx) (R0 2) = (5, d) := (one_at (bs := bs) (k := 2) (w := 1) (g := 5) (q := d) ⟨by decide, by decide⟩ dr (by omega) (by rw [← hE]; exact twob)).1
  have o2 : oneD bs (⟨1, 0 / 8 * 8, d / 8 * 8⟩ : Rx) (R0 2) = R0 3 := (one_at (bs := bs) (k := 2) (w := 1) (g := 5) (q := d) ⟨by decide, by decide⟩ dr (by omega) (by rw [← hE]; exact twob)).2
  have hr := ins_rex (bs := bs) (w := 1) (b := true) rfl ⟨Int.le_refl (0 : Int), show (0 : Int) ≤ 15 by decide⟩ dr (by omega) (by rw [← hE]; exact rexb ⟨Int.le_refl (0 : Int), show (0 : Int) ≤ 15 by decide⟩ dr)
  rw [hr]
  have b1 : byteAt bs 1 = 211 := (by rw [← hE]; exact rfl)
  rw [b1]
  have hN : numD1 bs (⟨1, 0 / 8 * 8, d / 8 * 8⟩ : Rx) 211 (R0 2) = R0 3 := by rw [numD1, o1, o2]; rfl
  refine (show prefIn bs (⟨1, 0 / 8 * 8, d / 8 * 8⟩ : Rx) 211 (R0 2) = numberedR bs (⟨1, 0 / 8 * 8, d / 8 * 8⟩ : Rx) 211 (R0 2) from rfl).trans ?_
  rw [numberedR, if_neg (by decide), if_neg (by decide), hN, o1]
  rfl
theorem back32 {d s c z n k : Int} (h : fitsF ⟨28, 0, 0, true, 1, [211], 3, 7, 2, 0, 0, 0⟩ ⟨k, d, s, c, z, n⟩ = true) (hI : I64 n) (tail : List UInt8) : insR (encF ⟨k, d, s, c, z, n⟩ ++ tail) rd0 = (⟨k, d, s, c, z, n⟩, R0 (encF ⟨k, d, s, c, z, n⟩).length) := by
  simp only [fitsF, Bool.and_eq_true, decide_eq_true_eq] at h
  obtain ⟨⟨⟨⟨⟨hk, hz⟩, hd⟩, hs⟩, hc⟩, hn⟩ := h
  subst hk; subst hz
  have dr := field_range hd
  obtain rfl := fld0 hs
  obtain rfl := fld0 hc
  obtain rfl : n = 0 := of_decide_eq_true hn
  have he : encF ⟨28, d, 0, 0, 0, 0⟩ = byteOf (rexN true 0 d) :: 211 :: byteOf (twoN 7 d) :: [] := rfl
  have hL : (encF ⟨28, d, 0, 0, 0, 0⟩).length = 3 := by
    rw [he]
    rfl
  rw [hL, he]
  show insR (byteOf (rexN true 0 d) :: 211 :: byteOf (twoN 7 d) :: tail : List UInt8) rd0 = _
  generalize hE : (byteOf (rexN true 0 d) :: 211 :: byteOf (twoN 7 d) :: tail : List UInt8) = bs
  have hl : 3 ≤ bs.length := by rw [← hE]; simp only [List.length_cons]; omega
  have o1 : oneV bs (⟨1, 0 / 8 * 8, d / 8 * 8⟩ : Rx) (R0 2) = (7, d) := (one_at (bs := bs) (k := 2) (w := 1) (g := 7) (q := d) ⟨by decide, by decide⟩ dr (by omega) (by rw [← hE]; exact twob)).1
  have o2 : oneD bs (⟨1, 0 / 8 * 8, d / 8 * 8⟩ : Rx) (R0 2) = R0 3 := (one_at (bs := bs) (k := 2) (w := 1) (g := 7) (q := d) ⟨by decide, by decide⟩ dr (by omega) (by rw [← hE]; exact twob)).2
  have hr := ins_rex (bs := bs) (w := 1) (b := true) rfl ⟨Int.le_refl (0 : Int), show (0 : Int) ≤ 15 by decide⟩ dr (by omega) (by rw [← hE]; exact rexb ⟨Int.le_refl (0 : Int), show (0 : Int) ≤ 15 by decide⟩ dr)
  rw [hr]
  have b1 : byteAt bs 1 = 211 := (by rw [← hE]; exact rfl)
  rw [b1]
  have hN : numD1 bs (⟨1, 0 / 8 * 8, d / 8 * 8⟩ : Rx) 211 (R0 2) = R0 3 := by rw [numD1, o1, o2]; rfl
  refine (show prefIn bs (⟨1, 0 / 8 * 8, d / 8 * 8⟩ : Rx) 211 (R0 2) = numberedR bs (⟨1, 0 / 8 * 8, d / 8 * 8⟩ : Rx) 211 (R0 2) from rfl).trans ?_
  rw [numberedR, if_neg (by decide), if_neg (by decide), hN, o1]
  rfl
theorem back33 {d s c z n k : Int} (h : fitsF ⟨29, 0, 0, true, 1, [193], 3, 4, 2, 0, 0, 5⟩ ⟨k, d, s, c, z, n⟩ = true) (hI : I64 n) (tail : List UInt8) : insR (encF ⟨k, d, s, c, z, n⟩ ++ tail) rd0 = (⟨k, d, s, c, z, n⟩, R0 (encF ⟨k, d, s, c, z, n⟩).length) := by
  simp only [fitsF, Bool.and_eq_true, decide_eq_true_eq] at h
  obtain ⟨⟨⟨⟨⟨hk, hz⟩, hd⟩, hs⟩, hc⟩, hn⟩ := h
  subst hk; subst hz
  have dr := field_range hd
  obtain rfl := fld0 hs
  obtain rfl := fld0 hc
  have hn : inF n (0) 63 = true := hn
  rw [inF, Bool.and_eq_true, decide_eq_true_eq, decide_eq_true_eq] at hn
  have hg : sgn 1 (n % 256 ^ 1) = n := sgn1 (by omega) (by omega)
  have he : encF ⟨29, d, 0, 0, 0, n⟩ = byteOf (rexN true 0 d) :: 193 :: byteOf (twoN 4 d) :: immF n 1 := rfl
  have hL : (encF ⟨29, d, 0, 0, 0, n⟩).length = 3 + 1 := by
    rw [he]
    show (immF n 1).length + 3 = _
    rw [imm_len]
  rw [hL, he]
  show insR (byteOf (rexN true 0 d) :: 193 :: byteOf (twoN 4 d) :: (immF n 1 ++ tail) : List UInt8) rd0 = _
  generalize hE : (byteOf (rexN true 0 d) :: 193 :: byteOf (twoN 4 d) :: (immF n 1 ++ tail) : List UInt8) = bs
  have hl : 3 ≤ bs.length := by rw [← hE]; simp only [List.length_cons]; omega
  obtain ⟨i1, i2⟩ := imm_v (pre := [byteOf (rexN true 0 d), 193, byteOf (twoN 4 d)]) (rest := tail) (m := 1) hg
  rw [show [byteOf (rexN true 0 d), 193, byteOf (twoN 4 d)] ++ (leBytes 1 n ++ tail) = bs from hE] at i1 i2
  rw [show ([byteOf (rexN true 0 d), 193, byteOf (twoN 4 d)] : List UInt8).length = 3 from rfl] at i1 i2
  have o1 : oneV bs (⟨1, 0 / 8 * 8, d / 8 * 8⟩ : Rx) (R0 2) = (4, d) := (one_at (bs := bs) (k := 2) (w := 1) (g := 4) (q := d) ⟨by decide, by decide⟩ dr (by omega) (by rw [← hE]; exact twob)).1
  have o2 : oneD bs (⟨1, 0 / 8 * 8, d / 8 * 8⟩ : Rx) (R0 2) = R0 3 := (one_at (bs := bs) (k := 2) (w := 1) (g := 4) (q := d) ⟨by decide, by decide⟩ dr (by omega) (by rw [← hE]; exact twob)).2
  have hr := ins_rex (bs := bs) (w := 1) (b := true) rfl ⟨Int.le_refl (0 : Int), show (0 : Int) ≤ 15 by decide⟩ dr (by omega) (by rw [← hE]; exact rexb ⟨Int.le_refl (0 : Int), show (0 : Int) ≤ 15 by decide⟩ dr)
  rw [hr]
  have b1 : byteAt bs 1 = 193 := (by rw [← hE]; exact rfl)
  rw [b1]
  have hN : numD1 bs (⟨1, 0 / 8 * 8, d / 8 * 8⟩ : Rx) 193 (R0 2) = R0 3 := by rw [numD1, o1, o2]; rfl
  refine (show prefIn bs (⟨1, 0 / 8 * 8, d / 8 * 8⟩ : Rx) 193 (R0 2) = numberedR bs (⟨1, 0 / 8 * 8, d / 8 * 8⟩ : Rx) 193 (R0 2) from rfl).trans ?_
  rw [numberedR, if_neg (by decide), if_pos rfl, hN, o1, i1, i2, decide_eq_true hn.1, decide_eq_true hn.2]
  rfl
theorem back34 {d s c z n k : Int} (h : fitsF ⟨30, 0, 0, true, 1, [193], 3, 5, 2, 0, 0, 5⟩ ⟨k, d, s, c, z, n⟩ = true) (hI : I64 n) (tail : List UInt8) : insR (encF ⟨k, d, s, c, z, n⟩ ++ tail) rd0 = (⟨k, d, s, c, z, n⟩, R0 (encF ⟨k, d, s, c, z, n⟩).length) := by
  simp only [fitsF, Bool.and_eq_true, decide_eq_true_eq] at h
  obtain ⟨⟨⟨⟨⟨hk, hz⟩, hd⟩, hs⟩, hc⟩, hn⟩ := h
  subst hk; subst hz
  have dr := field_range hd
  obtain rfl := fld0 hs
  obtain rfl := fld0 hc
  have hn : inF n (0) 63 = true := hn
  rw [inF, Bool.and_eq_true, decide_eq_true_eq, decide_eq_true_eq] at hn
  have hg : sgn 1 (n % 256 ^ 1) = n := sgn1 (by omega) (by omega)
  have he : encF ⟨30, d, 0, 0, 0, n⟩ = byteOf (rexN true 0 d) :: 193 :: byteOf (twoN 5 d) :: immF n 1 := rfl
  have hL : (encF ⟨30, d, 0, 0, 0, n⟩).length = 3 + 1 := by
    rw [he]
    show (immF n 1).length + 3 = _
    rw [imm_len]
  rw [hL, he]
  show insR (byteOf (rexN true 0 d) :: 193 :: byteOf (twoN 5 d) :: (immF n 1 ++ tail) : List UInt8) rd0 = _
  generalize hE : (byteOf (rexN true 0 d) :: 193 :: byteOf (twoN 5 d) :: (immF n 1 ++ tail) : List UInt8) = bs
  have hl : 3 ≤ bs.length := by rw [← hE]; simp only [List.length_cons]; omega
  obtain ⟨i1, i2⟩ := imm_v (pre := [byteOf (rexN true 0 d), 193, byteOf (twoN 5 d)]) (rest := tail) (m := 1) hg
  rw [show [byteOf (rexN true 0 d), 193, byteOf (twoN 5 d)] ++ (leBytes 1 n ++ tail) = bs from hE] at i1 i2
  rw [show ([byteOf (rexN true 0 d), 193, byteOf (twoN 5 d)] : List UInt8).length = 3 from rfl] at i1 i2
  have o1 : oneV bs (⟨1, 0 / 8 * 8, d / 8 * 8⟩ : Rx) (R0 2) = (5, d) := (one_at (bs := bs) (k := 2) (w := 1) (g := 5) (q := d) ⟨by decide, by decide⟩ dr (by omega) (by rw [← hE]; exact twob)).1
  have o2 : oneD bs (⟨1, 0 / 8 * 8, d / 8 * 8⟩ : Rx) (R0 2) = R0 3 := (one_at (bs := bs) (k := 2) (w := 1) (g := 5) (q := d) ⟨by decide, by decide⟩ dr (by omega) (by rw [← hE]; exact twob)).2
  have hr := ins_rex (bs := bs) (w := 1) (b := true) rfl ⟨Int.le_refl (0 : Int), show (0 : Int) ≤ 15 by decide⟩ dr (by omega) (by rw [← hE]; exact rexb ⟨Int.le_refl (0 : Int), show (0 : Int) ≤ 15 by decide⟩ dr)
  rw [hr]
  have b1 : byteAt bs 1 = 193 := (by rw [← hE]; exact rfl)
  rw [b1]
  have hN : numD1 bs (⟨1, 0 / 8 * 8, d / 8 * 8⟩ : Rx) 193 (R0 2) = R0 3 := by rw [numD1, o1, o2]; rfl
  refine (show prefIn bs (⟨1, 0 / 8 * 8, d / 8 * 8⟩ : Rx) 193 (R0 2) = numberedR bs (⟨1, 0 / 8 * 8, d / 8 * 8⟩ : Rx) 193 (R0 2) from rfl).trans ?_
  rw [numberedR, if_neg (by decide), if_pos rfl, hN, o1, i1, i2, decide_eq_true hn.1, decide_eq_true hn.2]
  rfl
theorem back35 {d s c z n k : Int} (h : fitsF ⟨31, 0, 0, true, 1, [193], 3, 7, 2, 0, 0, 5⟩ ⟨k, d, s, c, z, n⟩ = true) (hI : I64 n) (tail : List UInt8) : insR (encF ⟨k, d, s, c, z, n⟩ ++ tail) rd0 = (⟨k, d, s, c, z, n⟩, R0 (encF ⟨k, d, s, c, z, n⟩).length) := by
  simp only [fitsF, Bool.and_eq_true, decide_eq_true_eq] at h
  obtain ⟨⟨⟨⟨⟨hk, hz⟩, hd⟩, hs⟩, hc⟩, hn⟩ := h
  subst hk; subst hz
  have dr := field_range hd
  obtain rfl := fld0 hs
  obtain rfl := fld0 hc
  have hn : inF n (0) 63 = true := hn
  rw [inF, Bool.and_eq_true, decide_eq_true_eq, decide_eq_true_eq] at hn
  have hg : sgn 1 (n % 256 ^ 1) = n := sgn1 (by omega) (by omega)
  have he : encF ⟨31, d, 0, 0, 0, n⟩ = byteOf (rexN true 0 d) :: 193 :: byteOf (twoN 7 d) :: immF n 1 := rfl
  have hL : (encF ⟨31, d, 0, 0, 0, n⟩).length = 3 + 1 := by
    rw [he]
    show (immF n 1).length + 3 = _
    rw [imm_len]
  rw [hL, he]
  show insR (byteOf (rexN true 0 d) :: 193 :: byteOf (twoN 7 d) :: (immF n 1 ++ tail) : List UInt8) rd0 = _
  generalize hE : (byteOf (rexN true 0 d) :: 193 :: byteOf (twoN 7 d) :: (immF n 1 ++ tail) : List UInt8) = bs
  have hl : 3 ≤ bs.length := by rw [← hE]; simp only [List.length_cons]; omega
  obtain ⟨i1, i2⟩ := imm_v (pre := [byteOf (rexN true 0 d), 193, byteOf (twoN 7 d)]) (rest := tail) (m := 1) hg
  rw [show [byteOf (rexN true 0 d), 193, byteOf (twoN 7 d)] ++ (leBytes 1 n ++ tail) = bs from hE] at i1 i2
  rw [show ([byteOf (rexN true 0 d), 193, byteOf (twoN 7 d)] : List UInt8).length = 3 from rfl] at i1 i2
  have o1 : oneV bs (⟨1, 0 / 8 * 8, d / 8 * 8⟩ : Rx) (R0 2) = (7, d) := (one_at (bs := bs) (k := 2) (w := 1) (g := 7) (q := d) ⟨by decide, by decide⟩ dr (by omega) (by rw [← hE]; exact twob)).1
  have o2 : oneD bs (⟨1, 0 / 8 * 8, d / 8 * 8⟩ : Rx) (R0 2) = R0 3 := (one_at (bs := bs) (k := 2) (w := 1) (g := 7) (q := d) ⟨by decide, by decide⟩ dr (by omega) (by rw [← hE]; exact twob)).2
  have hr := ins_rex (bs := bs) (w := 1) (b := true) rfl ⟨Int.le_refl (0 : Int), show (0 : Int) ≤ 15 by decide⟩ dr (by omega) (by rw [← hE]; exact rexb ⟨Int.le_refl (0 : Int), show (0 : Int) ≤ 15 by decide⟩ dr)
  rw [hr]
  have b1 : byteAt bs 1 = 193 := (by rw [← hE]; exact rfl)
  rw [b1]
  have hN : numD1 bs (⟨1, 0 / 8 * 8, d / 8 * 8⟩ : Rx) 193 (R0 2) = R0 3 := by rw [numD1, o1, o2]; rfl
  refine (show prefIn bs (⟨1, 0 / 8 * 8, d / 8 * 8⟩ : Rx) 193 (R0 2) = numberedR bs (⟨1, 0 / 8 * 8, d / 8 * 8⟩ : Rx) 193 (R0 2) from rfl).trans ?_
  rw [numberedR, if_neg (by decide), if_pos rfl, hN, o1, i1, i2, decide_eq_true hn.1, decide_eq_true hn.2]
  rfl
theorem back36 {d s c z n k : Int} (h : fitsF ⟨32, 0, 0, true, 0, [15, 144], 3, 0, 2, 0, 4, 0⟩ ⟨k, d, s, c, z, n⟩ = true) (hI : I64 n) (tail : List UInt8) : insR (encF ⟨k, d, s, c, z, n⟩ ++ tail) rd0 = (⟨k, d, s, c, z, n⟩, R0 (encF ⟨k, d, s, c, z, n⟩).length) := by
  simp only [fitsF, Bool.and_eq_true, decide_eq_true_eq] at h
  obtain ⟨⟨⟨⟨⟨hk, hz⟩, hd⟩, hs⟩, hc⟩, hn⟩ := h
  subst hk; subst hz
  have dr := field_range hd
  obtain rfl := fld0 hs
  have cr := field_range hc
  obtain rfl : n = 0 := of_decide_eq_true hn
  have he : encF ⟨32, d, 0, c, 0, 0⟩ = byteOf (rexN false 0 d) :: 15 :: byteOf (144 + c) :: byteOf (twoN 0 d) :: [] := rfl
  have hL : (encF ⟨32, d, 0, c, 0, 0⟩).length = 4 := by
    rw [he]
    rfl
  rw [hL, he]
  show insR (byteOf (rexN false 0 d) :: 15 :: byteOf (144 + c) :: byteOf (twoN 0 d) :: tail : List UInt8) rd0 = _
  generalize hE : (byteOf (rexN false 0 d) :: 15 :: byteOf (144 + c) :: byteOf (twoN 0 d) :: tail : List UInt8) = bs
  have hl : 4 ≤ bs.length := by rw [← hE]; simp only [List.length_cons]; omega
  have o1 : oneV bs (⟨0, 0 / 8 * 8, d / 8 * 8⟩ : Rx) (R0 3) = (0, d) := (one_at (bs := bs) (k := 3) (w := 0) (g := 0) (q := d) ⟨by decide, by decide⟩ dr (by omega) (by rw [← hE]; exact twob)).1
  have o2 : oneD bs (⟨0, 0 / 8 * 8, d / 8 * 8⟩ : Rx) (R0 3) = R0 4 := (one_at (bs := bs) (k := 3) (w := 0) (g := 0) (q := d) ⟨by decide, by decide⟩ dr (by omega) (by rw [← hE]; exact twob)).2
  have hr := ins_rex (bs := bs) (w := 0) (b := false) rfl ⟨Int.le_refl (0 : Int), show (0 : Int) ≤ 15 by decide⟩ dr (by omega) (by rw [← hE]; exact rexb ⟨Int.le_refl (0 : Int), show (0 : Int) ≤ 15 by decide⟩ dr)
  rw [hr]
  have b1 : byteAt bs 1 = 15 := (by rw [← hE]; exact rfl)
  rw [b1]
  refine (show prefIn bs (⟨0, 0 / 8 * 8, d / 8 * 8⟩ : Rx) 15 (R0 2) = farR bs (⟨0, 0 / 8 * 8, d / 8 * 8⟩ : Rx) (R0 2) from rfl).trans ?_
  rw [far_at (by exact .inr rfl) (by omega)]
  obtain ⟨c1, _, _, _⟩ := cc16 cr
  have b2 : byteAt bs 2 = 144 + c := (by rw [← hE]; exact bo (by omega) (by omega))
  have e16 : (144 + c) % 16 = c := by omega
  rw [b2, farIn, if_pos (by rw [c1]; rfl), o1, o2, e16]
  rfl
theorem back37 {d s c z n k : Int} (h : fitsF ⟨33, 0, 0, true, 1, [15, 182], 3, 0, 1, 2, 0, 0⟩ ⟨k, d, s, c, z, n⟩ = true) (hI : I64 n) (tail : List UInt8) : insR (encF ⟨k, d, s, c, z, n⟩ ++ tail) rd0 = (⟨k, d, s, c, z, n⟩, R0 (encF ⟨k, d, s, c, z, n⟩).length) := by
  simp only [fitsF, Bool.and_eq_true, decide_eq_true_eq] at h
  obtain ⟨⟨⟨⟨⟨hk, hz⟩, hd⟩, hs⟩, hc⟩, hn⟩ := h
  subst hk; subst hz
  have dr := field_range hd
  have sr := field_range hs
  obtain rfl := fld0 hc
  obtain rfl : n = 0 := of_decide_eq_true hn
  have he : encF ⟨33, d, s, 0, 0, 0⟩ = byteOf (rexN true d s) :: 15 :: 182 :: byteOf (twoN d s) :: [] := rfl
  have hL : (encF ⟨33, d, s, 0, 0, 0⟩).length = 4 := by
    rw [he]
    rfl
  rw [hL, he]
  show insR (byteOf (rexN true d s) :: 15 :: 182 :: byteOf (twoN d s) :: tail : List UInt8) rd0 = _
  generalize hE : (byteOf (rexN true d s) :: 15 :: 182 :: byteOf (twoN d s) :: tail : List UInt8) = bs
  have hl : 4 ≤ bs.length := by rw [← hE]; simp only [List.length_cons]; omega
  obtain ⟨t1, t2⟩ := two_at (bs := bs) (k := 3) (w := 1) dr sr (by omega) (by rw [← hE]; exact twob)
  have hr := ins_rex (bs := bs) (w := 1) (b := true) rfl dr sr (by omega) (by rw [← hE]; exact rexb dr sr)
  rw [hr]
  have b1 : byteAt bs 1 = 15 := (by rw [← hE]; exact rfl)
  rw [b1]
  refine (show prefIn bs (⟨1, d / 8 * 8, s / 8 * 8⟩ : Rx) 15 (R0 2) = farR bs (⟨1, d / 8 * 8, s / 8 * 8⟩ : Rx) (R0 2) from rfl).trans ?_
  rw [far_at (by exact .inl rfl) (by omega)]
  have b2 : byteAt bs 2 = 182 := (by rw [← hE]; exact rfl)
  have b3 : byteAt bs 3 = twoN d s := (by rw [← hE]; exact twob)
  rw [b2]
  refine (show farIn bs (⟨1, d / 8 * 8, s / 8 * 8⟩ : Rx) 182 (R0 3) = (if peekF bs (R0 3) = true then (⟨3, (memV bs (⟨1, d / 8 * 8, s / 8 * 8⟩ : Rx) (R0 3)).1, (memV bs (⟨1, d / 8 * 8, s / 8 * 8⟩ : Rx) (R0 3)).2.1, 0, 1, (memV bs (⟨1, d / 8 * 8, s / 8 * 8⟩ : Rx) (R0 3)).2.2⟩, memD bs (R0 3)) else (⟨33, (twoV bs (⟨1, d / 8 * 8, s / 8 * 8⟩ : Rx) (R0 3)).1, (twoV bs (⟨1, d / 8 * 8, s / 8 * 8⟩ : Rx) (R0 3)).2, 0, 0, 0⟩, twoD bs (R0 3))) from rfl).trans ?_
  rw [if_neg (peek_two b3), t1, t2]
theorem back38 {d s c z n k : Int} (h : fitsF ⟨34, 0, 0, true, 1, [15, 64], 3, 0, 1, 2, 4, 0⟩ ⟨k, d, s, c, z, n⟩ = true) (hI : I64 n) (tail : List UInt8) : insR (encF ⟨k, d, s, c, z, n⟩ ++ tail) rd0 = (⟨k, d, s, c, z, n⟩, R0 (encF ⟨k, d, s, c, z, n⟩).length) := by
  simp only [fitsF, Bool.and_eq_true, decide_eq_true_eq] at h
  obtain ⟨⟨⟨⟨⟨hk, hz⟩, hd⟩, hs⟩, hc⟩, hn⟩ := h
  subst hk; subst hz
  have dr := field_range hd
  have sr := field_range hs
  have cr := field_range hc
  obtain rfl : n = 0 := of_decide_eq_true hn
  have he : encF ⟨34, d, s, c, 0, 0⟩ = byteOf (rexN true d s) :: 15 :: byteOf (64 + c) :: byteOf (twoN d s) :: [] := rfl
  have hL : (encF ⟨34, d, s, c, 0, 0⟩).length = 4 := by
    rw [he]
    rfl
  rw [hL, he]
  show insR (byteOf (rexN true d s) :: 15 :: byteOf (64 + c) :: byteOf (twoN d s) :: tail : List UInt8) rd0 = _
  generalize hE : (byteOf (rexN true d s) :: 15 :: byteOf (64 + c) :: byteOf (twoN d s) :: tail : List UInt8) = bs
  have hl : 4 ≤ bs.length := by rw [← hE]; simp only [List.length_cons]; omega
  obtain ⟨t1, t2⟩ := two_at (bs := bs) (k := 3) (w := 1) dr sr (by omega) (by rw [← hE]; exact twob)
  have hr := ins_rex (bs := bs) (w := 1) (b := true) rfl dr sr (by omega) (by rw [← hE]; exact rexb dr sr)
  rw [hr]
  have b1 : byteAt bs 1 = 15 := (by rw [← hE]; exact rfl)
  rw [b1]
  refine (show prefIn bs (⟨1, d / 8 * 8, s / 8 * 8⟩ : Rx) 15 (R0 2) = farR bs (⟨1, d / 8 * 8, s / 8 * 8⟩ : Rx) (R0 2) from rfl).trans ?_
  rw [far_at (by exact .inl rfl) (by omega)]
  obtain ⟨_, c2, _, _⟩ := cc16 cr
  have b2 : byteAt bs 2 = 64 + c := (by rw [← hE]; exact bo (by omega) (by omega))
  have e16 : (64 + c) % 16 = c := by omega
  rw [b2, farIn, if_neg (by intro q; have q2 : (false && decide (andI (64 + c) 240 = 144)) = true := q; exact Bool.noConfusion q2), if_pos (by rw [c2]; rfl), t1, t2, e16]
theorem back39 {d s c z n k : Int} (h : fitsF ⟨35, 1, 0, false, 0, [235], -1, 0, 0, 0, 0, 5⟩ ⟨k, d, s, c, z, n⟩ = true) (hI : I64 n) (tail : List UInt8) : insR (encF ⟨k, d, s, c, z, n⟩ ++ tail) rd0 = (⟨k, d, s, c, z, n⟩, R0 (encF ⟨k, d, s, c, z, n⟩).length) := by
  simp only [fitsF, Bool.and_eq_true, decide_eq_true_eq] at h
  obtain ⟨⟨⟨⟨⟨hk, hz⟩, hd⟩, hs⟩, hc⟩, hn⟩ := h
  subst hk; subst hz
  obtain rfl := fld0 hd
  obtain rfl := fld0 hs
  obtain rfl := fld0 hc
  have hn : inF n (-128) 127 = true := hn
  rw [inF, Bool.and_eq_true, decide_eq_true_eq, decide_eq_true_eq] at hn
  have hg : sgn 1 (n % 256 ^ 1) = n := sgn1 (by omega) (by omega)
  have he : encF ⟨35, 0, 0, 0, 1, n⟩ = 235 :: immF n 1 := rfl
  have hL : (encF ⟨35, 0, 0, 0, 1, n⟩).length = 1 + 1 := by
    rw [he]
    show (immF n 1).length + 1 = _
    rw [imm_len]
  rw [hL, he]
  show insR (235 :: (immF n 1 ++ tail) : List UInt8) rd0 = _
  generalize hE : (235 :: (immF n 1 ++ tail) : List UInt8) = bs
  have hl : 1 ≤ bs.length := by rw [← hE]; simp only [List.length_cons]; omega
  obtain ⟨i1, i2⟩ := imm_v (pre := [235]) (rest := tail) (m := 1) hg
  rw [show [235] ++ (leBytes 1 n ++ tail) = bs from hE] at i1 i2
  rw [show ([235] : List UInt8).length = 1 from rfl] at i1 i2
  rw [ins_first (by omega)]
  have b0 : byteAt bs 0 = 235 := (by rw [← hE]; exact rfl)
  rw [b0]
  refine (show insIn bs 235 (R0 1) = (⟨35, 0, 0, 0, 1, immV bs (R0 1) 1⟩, immD bs (R0 1) 1) from rfl).trans ?_
  rw [i1, i2]
theorem back40 {d s c z n k : Int} (h : fitsF ⟨35, 4, 0, false, 0, [233], -1, 0, 0, 0, 0, 6⟩ ⟨k, d, s, c, z, n⟩ = true) (hI : I64 n) (tail : List UInt8) : insR (encF ⟨k, d, s, c, z, n⟩ ++ tail) rd0 = (⟨k, d, s, c, z, n⟩, R0 (encF ⟨k, d, s, c, z, n⟩).length) := by
  simp only [fitsF, Bool.and_eq_true, decide_eq_true_eq] at h
  obtain ⟨⟨⟨⟨⟨hk, hz⟩, hd⟩, hs⟩, hc⟩, hn⟩ := h
  subst hk; subst hz
  obtain rfl := fld0 hd
  obtain rfl := fld0 hs
  obtain rfl := fld0 hc
  have hn : smallF n = true := hn
  have hg : sgn 4 (n % 256 ^ 4) = n := sgn4 hn
  have he : encF ⟨35, 0, 0, 0, 4, n⟩ = 233 :: immF n 4 := rfl
  have hL : (encF ⟨35, 0, 0, 0, 4, n⟩).length = 1 + 4 := by
    rw [he]
    show (immF n 4).length + 1 = _
    rw [imm_len]
  rw [hL, he]
  show insR (233 :: (immF n 4 ++ tail) : List UInt8) rd0 = _
  generalize hE : (233 :: (immF n 4 ++ tail) : List UInt8) = bs
  have hl : 1 ≤ bs.length := by rw [← hE]; simp only [List.length_cons]; omega
  obtain ⟨i1, i2⟩ := imm_v (pre := [233]) (rest := tail) (m := 4) hg
  rw [show [233] ++ (leBytes 4 n ++ tail) = bs from hE] at i1 i2
  rw [show ([233] : List UInt8).length = 1 from rfl] at i1 i2
  rw [ins_first (by omega)]
  have b0 : byteAt bs 0 = 233 := (by rw [← hE]; exact rfl)
  rw [b0]
  refine (show insIn bs 233 (R0 1) = (⟨35, 0, 0, 0, 4, immV bs (R0 1) 4⟩, immD bs (R0 1) 4) from rfl).trans ?_
  rw [i1, i2]
theorem back41 {d s c z n k : Int} (h : fitsF ⟨36, 1, 0, false, 0, [112], -1, 0, 0, 0, 4, 5⟩ ⟨k, d, s, c, z, n⟩ = true) (hI : I64 n) (tail : List UInt8) : insR (encF ⟨k, d, s, c, z, n⟩ ++ tail) rd0 = (⟨k, d, s, c, z, n⟩, R0 (encF ⟨k, d, s, c, z, n⟩).length) := by
  simp only [fitsF, Bool.and_eq_true, decide_eq_true_eq] at h
  obtain ⟨⟨⟨⟨⟨hk, hz⟩, hd⟩, hs⟩, hc⟩, hn⟩ := h
  subst hk; subst hz
  obtain rfl := fld0 hd
  obtain rfl := fld0 hs
  have cr := field_range hc
  have hn : inF n (-128) 127 = true := hn
  rw [inF, Bool.and_eq_true, decide_eq_true_eq, decide_eq_true_eq] at hn
  have hg : sgn 1 (n % 256 ^ 1) = n := sgn1 (by omega) (by omega)
  have he : encF ⟨36, 0, 0, c, 1, n⟩ = byteOf (112 + c) :: immF n 1 := rfl
  have hL : (encF ⟨36, 0, 0, c, 1, n⟩).length = 1 + 1 := by
    rw [he]
    show (immF n 1).length + 1 = _
    rw [imm_len]
  rw [hL, he]
  show insR (byteOf (112 + c) :: (immF n 1 ++ tail) : List UInt8) rd0 = _
  generalize hE : (byteOf (112 + c) :: (immF n 1 ++ tail) : List UInt8) = bs
  have hl : 1 ≤ bs.length := by rw [← hE]; simp only [List.length_cons]; omega
  obtain ⟨i1, i2⟩ := imm_v (pre := [byteOf (112 + c)]) (rest := tail) (m := 1) hg
  rw [show [byteOf (112 + c)] ++ (leBytes 1 n ++ tail) = bs from hE] at i1 i2
  rw [show ([byteOf (112 + c)] : List UInt8).length = 1 from rfl] at i1 i2
  rw [ins_first (by omega)]
  obtain ⟨_, _, c3, _⟩ := cc16 cr
  have b0 : byteAt bs 0 = 112 + c := (by rw [← hE]; exact bo (by omega) (by omega))
  have e16 : (112 + c) % 16 = c := by omega
  rw [b0, insIn, if_neg (fun q => absurd (c3.symm.trans q) (by decide)), if_neg (by rw [Bool.or_eq_true, decide_eq_true_eq, decide_eq_true_eq]; omega), if_pos c3, i1, i2, e16]
theorem back42 {d s c z n k : Int} (h : fitsF ⟨36, 4, 0, false, 0, [15, 128], -1, 0, 0, 0, 4, 6⟩ ⟨k, d, s, c, z, n⟩ = true) (hI : I64 n) (tail : List UInt8) : insR (encF ⟨k, d, s, c, z, n⟩ ++ tail) rd0 = (⟨k, d, s, c, z, n⟩, R0 (encF ⟨k, d, s, c, z, n⟩).length) := by
  simp only [fitsF, Bool.and_eq_true, decide_eq_true_eq] at h
  obtain ⟨⟨⟨⟨⟨hk, hz⟩, hd⟩, hs⟩, hc⟩, hn⟩ := h
  subst hk; subst hz
  obtain rfl := fld0 hd
  obtain rfl := fld0 hs
  have cr := field_range hc
  have hn : smallF n = true := hn
  have hg : sgn 4 (n % 256 ^ 4) = n := sgn4 hn
  have he : encF ⟨36, 0, 0, c, 4, n⟩ = 15 :: byteOf (128 + c) :: immF n 4 := rfl
  have hL : (encF ⟨36, 0, 0, c, 4, n⟩).length = 2 + 4 := by
    rw [he]
    show (immF n 4).length + 2 = _
    rw [imm_len]
  rw [hL, he]
  show insR (15 :: byteOf (128 + c) :: (immF n 4 ++ tail) : List UInt8) rd0 = _
  generalize hE : (15 :: byteOf (128 + c) :: (immF n 4 ++ tail) : List UInt8) = bs
  have hl : 2 ≤ bs.length := by rw [← hE]; simp only [List.length_cons]; omega
  obtain ⟨i1, i2⟩ := imm_v (pre := [15, byteOf (128 + c)]) (rest := tail) (m := 4) hg
  rw [show [15, byteOf (128 + c)] ++ (leBytes 4 n ++ tail) = bs from hE] at i1 i2
  rw [show ([15, byteOf (128 + c)] : List UInt8).length = 2 from rfl] at i1 i2
  rw [ins_first (by omega)]
  have b0 : byteAt bs 0 = 15 := (by rw [← hE]; exact rfl)
  have n1 : nextF bs (R0 1) = (byteAt bs 1, R0 2) := nx (by omega)
  rw [b0]
  refine (show insIn bs 15 (R0 1) = insTwo bs (R0 1) from rfl).trans ?_
  obtain ⟨_, _, _, c4⟩ := cc16 cr
  have b1 : byteAt bs 1 = 128 + c := (by rw [← hE]; exact bo (by omega) (by omega))
  have e16 : (128 + c) % 16 = c := by omega
  rw [insTwo, n1, b1]
  dsimp only
  rw [if_neg (by omega), if_neg (by omega), if_pos c4, i1, i2, e16]
theorem back43 {d s c z n k : Int} (h : fitsF ⟨37, 0, 0, false, 0, [232], -1, 0, 0, 0, 0, 6⟩ ⟨k, d, s, c, z, n⟩ = true) (hI : I64 n) (tail : List UInt8) : insR (encF ⟨k, d, s, c, z, n⟩ ++ tail) rd0 = (⟨k, d, s, c, z, n⟩, R0 (encF ⟨k, d, s, c, z, n⟩).length) := by
  simp only [fitsF, Bool.and_eq_true, decide_eq_true_eq] at h
  obtain ⟨⟨⟨⟨⟨hk, hz⟩, hd⟩, hs⟩, hc⟩, hn⟩ := h
  subst hk; subst hz
  obtain rfl := fld0 hd
  obtain rfl := fld0 hs
  obtain rfl := fld0 hc
  have hn : smallF n = true := hn
  have hg : sgn 4 (n % 256 ^ 4) = n := sgn4 hn
  have he : encF ⟨37, 0, 0, 0, 0, n⟩ = 232 :: immF n 4 := rfl
  have hL : (encF ⟨37, 0, 0, 0, 0, n⟩).length = 1 + 4 := by
    rw [he]
    show (immF n 4).length + 1 = _
    rw [imm_len]
  rw [hL, he]
  show insR (232 :: (immF n 4 ++ tail) : List UInt8) rd0 = _
  generalize hE : (232 :: (immF n 4 ++ tail) : List UInt8) = bs
  have hl : 1 ≤ bs.length := by rw [← hE]; simp only [List.length_cons]; omega
  obtain ⟨i1, i2⟩ := imm_v (pre := [232]) (rest := tail) (m := 4) hg
  rw [show [232] ++ (leBytes 4 n ++ tail) = bs from hE] at i1 i2
  rw [show ([232] : List UInt8).length = 1 from rfl] at i1 i2
  rw [ins_first (by omega)]
  have b0 : byteAt bs 0 = 232 := (by rw [← hE]; exact rfl)
  rw [b0]
  refine (show insIn bs 232 (R0 1) = (⟨37, 0, 0, 0, 0, immV bs (R0 1) 4⟩, immD bs (R0 1) 4) from rfl).trans ?_
  rw [i1, i2]
theorem back44 {d s c z n k : Int} (h : fitsF ⟨38, 0, 0, true, 0, [255], 3, 2, 2, 0, 0, 0⟩ ⟨k, d, s, c, z, n⟩ = true) (hI : I64 n) (tail : List UInt8) : insR (encF ⟨k, d, s, c, z, n⟩ ++ tail) rd0 = (⟨k, d, s, c, z, n⟩, R0 (encF ⟨k, d, s, c, z, n⟩).length) := by
  simp only [fitsF, Bool.and_eq_true, decide_eq_true_eq] at h
  obtain ⟨⟨⟨⟨⟨hk, hz⟩, hd⟩, hs⟩, hc⟩, hn⟩ := h
  subst hk; subst hz
  have dr := field_range hd
  obtain rfl := fld0 hs
  obtain rfl := fld0 hc
  obtain rfl : n = 0 := of_decide_eq_true hn
  have he : encF ⟨38, d, 0, 0, 0, 0⟩ = byteOf (rexN false 0 d) :: 255 :: byteOf (twoN 2 d) :: [] := rfl
  have hL : (encF ⟨38, d, 0, 0, 0, 0⟩).length = 3 := by
    rw [he]
    rfl
  rw [hL, he]
  show insR (byteOf (rexN false 0 d) :: 255 :: byteOf (twoN 2 d) :: tail : List UInt8) rd0 = _
  generalize hE : (byteOf (rexN false 0 d) :: 255 :: byteOf (twoN 2 d) :: tail : List UInt8) = bs
  have hl : 3 ≤ bs.length := by rw [← hE]; simp only [List.length_cons]; omega
  have o1 : oneV bs (⟨0, 0 / 8 * 8, d / 8 * 8⟩ : Rx) (R0 2) = (2, d) := (one_at (bs := bs) (k := 2) (w := 0) (g := 2) (q := d) ⟨by decide, by decide⟩ dr (by omega) (by rw [← hE]; exact twob)).1
  have o2 : oneD bs (⟨0, 0 / 8 * 8, d / 8 * 8⟩ : Rx) (R0 2) = R0 3 := (one_at (bs := bs) (k := 2) (w := 0) (g := 2) (q := d) ⟨by decide, by decide⟩ dr (by omega) (by rw [← hE]; exact twob)).2
  have hr := ins_rex (bs := bs) (w := 0) (b := false) rfl ⟨Int.le_refl (0 : Int), show (0 : Int) ≤ 15 by decide⟩ dr (by omega) (by rw [← hE]; exact rexb ⟨Int.le_refl (0 : Int), show (0 : Int) ≤ 15 by decide⟩ dr)
  rw [hr]
  have b1 : byteAt bs 1 = 255 := (by rw [← hE]; exact rfl)
  rw [b1]
  refine (show prefIn bs (⟨0, 0 / 8 * 8, d / 8 * 8⟩ : Rx) 255 (R0 2) = narrowR bs (⟨0, 0 / 8 * 8, d / 8 * 8⟩ : Rx) 255 (R0 2) from rfl).trans ?_
  rw [narrowR, if_neg (by decide), if_neg (by decide), if_neg (by decide), if_pos rfl, o1, o2]
  rfl
theorem back45 {d s c z n k : Int} (h : fitsF ⟨39, 0, 0, true, 0, [255], 3, 4, 2, 0, 0, 0⟩ ⟨k, d, s, c, z, n⟩ = true) (hI : I64 n) (tail : List UInt8) : insR (encF ⟨k, d, s, c, z, n⟩ ++ tail) rd0 = (⟨k, d, s, c, z, n⟩, R0 (encF ⟨k, d, s, c, z, n⟩).length) := by
  simp only [fitsF, Bool.and_eq_true, decide_eq_true_eq] at h
  obtain ⟨⟨⟨⟨⟨hk, hz⟩, hd⟩, hs⟩, hc⟩, hn⟩ := h
  subst hk; subst hz
  have dr := field_range hd
  obtain rfl := fld0 hs
  obtain rfl := fld0 hc
  obtain rfl : n = 0 := of_decide_eq_true hn
  have he : encF ⟨39, d, 0, 0, 0, 0⟩ = byteOf (rexN false 0 d) :: 255 :: byteOf (twoN 4 d) :: [] := rfl
  have hL : (encF ⟨39, d, 0, 0, 0, 0⟩).length = 3 := by
    rw [he]
    rfl
  rw [hL, he]
  show insR (byteOf (rexN false 0 d) :: 255 :: byteOf (twoN 4 d) :: tail : List UInt8) rd0 = _
  generalize hE : (byteOf (rexN false 0 d) :: 255 :: byteOf (twoN 4 d) :: tail : List UInt8) = bs
  have hl : 3 ≤ bs.length := by rw [← hE]; simp only [List.length_cons]; omega
  have o1 : oneV bs (⟨0, 0 / 8 * 8, d / 8 * 8⟩ : Rx) (R0 2) = (4, d) := (one_at (bs := bs) (k := 2) (w := 0) (g := 4) (q := d) ⟨by decide, by decide⟩ dr (by omega) (by rw [← hE]; exact twob)).1
  have o2 : oneD bs (⟨0, 0 / 8 * 8, d / 8 * 8⟩ : Rx) (R0 2) = R0 3 := (one_at (bs := bs) (k := 2) (w := 0) (g := 4) (q := d) ⟨by decide, by decide⟩ dr (by omega) (by rw [← hE]; exact twob)).2
  have hr := ins_rex (bs := bs) (w := 0) (b := false) rfl ⟨Int.le_refl (0 : Int), show (0 : Int) ≤ 15 by decide⟩ dr (by omega) (by rw [← hE]; exact rexb ⟨Int.le_refl (0 : Int), show (0 : Int) ≤ 15 by decide⟩ dr)
  rw [hr]
  have b1 : byteAt bs 1 = 255 := (by rw [← hE]; exact rfl)
  rw [b1]
  refine (show prefIn bs (⟨0, 0 / 8 * 8, d / 8 * 8⟩ : Rx) 255 (R0 2) = narrowR bs (⟨0, 0 / 8 * 8, d / 8 * 8⟩ : Rx) 255 (R0 2) from rfl).trans ?_
  rw [narrowR, if_neg (by decide), if_neg (by decide), if_neg (by decide), if_pos rfl, o1, o2]
  rfl
theorem back46 {d s c z n k : Int} (h : fitsF ⟨40, 0, 0, false, 0, [195], -1, 0, 0, 0, 0, 0⟩ ⟨k, d, s, c, z, n⟩ = true) (hI : I64 n) (tail : List UInt8) : insR (encF ⟨k, d, s, c, z, n⟩ ++ tail) rd0 = (⟨k, d, s, c, z, n⟩, R0 (encF ⟨k, d, s, c, z, n⟩).length) := by
  simp only [fitsF, Bool.and_eq_true, decide_eq_true_eq] at h
  obtain ⟨⟨⟨⟨⟨hk, hz⟩, hd⟩, hs⟩, hc⟩, hn⟩ := h
  subst hk; subst hz
  obtain rfl := fld0 hd
  obtain rfl := fld0 hs
  obtain rfl := fld0 hc
  obtain rfl : n = 0 := of_decide_eq_true hn
  have he : encF ⟨40, 0, 0, 0, 0, 0⟩ = 195 :: [] := rfl
  have hL : (encF ⟨40, 0, 0, 0, 0, 0⟩).length = 1 := by
    rw [he]
    rfl
  rw [hL, he]
  show insR (195 :: tail : List UInt8) rd0 = _
  generalize hE : (195 :: tail : List UInt8) = bs
  have hl : 1 ≤ bs.length := by rw [← hE]; simp only [List.length_cons]; omega
  rw [ins_first (by omega)]
  have b0 : byteAt bs 0 = 195 := (by rw [← hE]; exact rfl)
  rw [b0]
  refine (show insIn bs 195 (R0 1) = (⟨40, 0, 0, 0, 0, 0⟩, R0 1) from rfl).trans ?_
  rfl
theorem back47 {d s c z n k : Int} (h : fitsF ⟨41, 0, 0, true, 0, [80], -1, 0, 3, 0, 0, 0⟩ ⟨k, d, s, c, z, n⟩ = true) (hI : I64 n) (tail : List UInt8) : insR (encF ⟨k, d, s, c, z, n⟩ ++ tail) rd0 = (⟨k, d, s, c, z, n⟩, R0 (encF ⟨k, d, s, c, z, n⟩).length) := by
  simp only [fitsF, Bool.and_eq_true, decide_eq_true_eq] at h
  obtain ⟨⟨⟨⟨⟨hk, hz⟩, hd⟩, hs⟩, hc⟩, hn⟩ := h
  subst hk; subst hz
  have dr := field_range hd
  obtain rfl := fld0 hs
  obtain rfl := fld0 hc
  obtain rfl : n = 0 := of_decide_eq_true hn
  have he : encF ⟨41, d, 0, 0, 0, 0⟩ = byteOf (rexN false 0 d) :: byteOf (80 + d % 8) :: [] := rfl
  have hL : (encF ⟨41, d, 0, 0, 0, 0⟩).length = 2 := by
    rw [he]
    rfl
  rw [hL, he]
  show insR (byteOf (rexN false 0 d) :: byteOf (80 + d % 8) :: tail : List UInt8) rd0 = _
  generalize hE : (byteOf (rexN false 0 d) :: byteOf (80 + d % 8) :: tail : List UInt8) = bs
  have hl : 2 ≤ bs.length := by rw [← hE]; simp only [List.length_cons]; omega
  have hr := ins_rex (bs := bs) (w := 0) (b := false) rfl ⟨Int.le_refl (0 : Int), show (0 : Int) ≤ 15 by decide⟩ dr (by omega) (by rw [← hE]; exact rexb ⟨Int.le_refl (0 : Int), show (0 : Int) ≤ 15 by decide⟩ dr)
  rw [hr]
  obtain ⟨l1, l2, l3⟩ := low8 dr
  have b1 : byteAt bs 1 = 80 + d % 8 := (by rw [← hE]; exact bo (by omega) (by omega))
  have e8 : (80 + d % 8) % 8 = d % 8 := by omega
  rw [b1]
  rw [prefIn, if_neg (by omega), if_pos rfl, narrowR, if_neg (by omega), if_neg (by omega), if_neg (by omega), if_neg (by omega), if_pos l1, e8, reg_parts dr]
  rfl
theorem back48 {d s c z n k : Int} (h : fitsF ⟨42, 0, 0, true, 0, [88], -1, 0, 3, 0, 0, 0⟩ ⟨k, d, s, c, z, n⟩ = true) (hI : I64 n) (tail : List UInt8) : insR (encF ⟨k, d, s, c, z, n⟩ ++ tail) rd0 = (⟨k, d, s, c, z, n⟩, R0 (encF ⟨k, d, s, c, z, n⟩).length) := by
  simp only [fitsF, Bool.and_eq_true, decide_eq_true_eq] at h
  obtain ⟨⟨⟨⟨⟨hk, hz⟩, hd⟩, hs⟩, hc⟩, hn⟩ := h
  subst hk; subst hz
  have dr := field_range hd
  obtain rfl := fld0 hs
  obtain rfl := fld0 hc
  obtain rfl : n = 0 := of_decide_eq_true hn
  have he : encF ⟨42, d, 0, 0, 0, 0⟩ = byteOf (rexN false 0 d) :: byteOf (88 + d % 8) :: [] := rfl
  have hL : (encF ⟨42, d, 0, 0, 0, 0⟩).length = 2 := by
    rw [he]
    rfl
  rw [hL, he]
  show insR (byteOf (rexN false 0 d) :: byteOf (88 + d % 8) :: tail : List UInt8) rd0 = _
  generalize hE : (byteOf (rexN false 0 d) :: byteOf (88 + d % 8) :: tail : List UInt8) = bs
  have hl : 2 ≤ bs.length := by rw [← hE]; simp only [List.length_cons]; omega
  have hr := ins_rex (bs := bs) (w := 0) (b := false) rfl ⟨Int.le_refl (0 : Int), show (0 : Int) ≤ 15 by decide⟩ dr (by omega) (by rw [← hE]; exact rexb ⟨Int.le_refl (0 : Int), show (0 : Int) ≤ 15 by decide⟩ dr)
  rw [hr]
  obtain ⟨l1, l2, l3⟩ := low8 dr
  have b1 : byteAt bs 1 = 88 + d % 8 := (by rw [← hE]; exact bo (by omega) (by omega))
  have e8 : (88 + d % 8) % 8 = d % 8 := by omega
  rw [b1]
  rw [prefIn, if_neg (by omega), if_pos rfl, narrowR, if_neg (by omega), if_neg (by omega), if_neg (by omega), if_neg (by omega), if_neg (fun q => absurd (l2.symm.trans q) (by decide)), if_pos l2, e8, reg_parts dr]
  rfl
theorem back49 {d s c z n k : Int} (h : fitsF ⟨43, 0, 0, false, 0, [15, 5], -1, 0, 0, 0, 0, 0⟩ ⟨k, d, s, c, z, n⟩ = true) (hI : I64 n) (tail : List UInt8) : insR (encF ⟨k, d, s, c, z, n⟩ ++ tail) rd0 = (⟨k, d, s, c, z, n⟩, R0 (encF ⟨k, d, s, c, z, n⟩).length) := by
  simp only [fitsF, Bool.and_eq_true, decide_eq_true_eq] at h
  obtain ⟨⟨⟨⟨⟨hk, hz⟩, hd⟩, hs⟩, hc⟩, hn⟩ := h
  subst hk; subst hz
  obtain rfl := fld0 hd
  obtain rfl := fld0 hs
  obtain rfl := fld0 hc
  obtain rfl : n = 0 := of_decide_eq_true hn
  have he : encF ⟨43, 0, 0, 0, 0, 0⟩ = 15 :: 5 :: [] := rfl
  have hL : (encF ⟨43, 0, 0, 0, 0, 0⟩).length = 2 := by
    rw [he]
    rfl
  rw [hL, he]
  show insR (15 :: 5 :: tail : List UInt8) rd0 = _
  generalize hE : (15 :: 5 :: tail : List UInt8) = bs
  have hl : 2 ≤ bs.length := by rw [← hE]; simp only [List.length_cons]; omega
  rw [ins_first (by omega)]
  have b0 : byteAt bs 0 = 15 := (by rw [← hE]; exact rfl)
  have n1 : nextF bs (R0 1) = (byteAt bs 1, R0 2) := nx (by omega)
  rw [b0]
  refine (show insIn bs 15 (R0 1) = insTwo bs (R0 1) from rfl).trans ?_
  have b1 : byteAt bs 1 = 5 := (by rw [← hE]; exact rfl)
  rw [insTwo, n1, b1]
  rfl
theorem back50 {d s c z n k : Int} (h : fitsF ⟨44, 0, 0, false, 0, [15, 11], -1, 0, 0, 0, 0, 0⟩ ⟨k, d, s, c, z, n⟩ = true) (hI : I64 n) (tail : List UInt8) : insR (encF ⟨k, d, s, c, z, n⟩ ++ tail) rd0 = (⟨k, d, s, c, z, n⟩, R0 (encF ⟨k, d, s, c, z, n⟩).length) := by
  simp only [fitsF, Bool.and_eq_true, decide_eq_true_eq] at h
  obtain ⟨⟨⟨⟨⟨hk, hz⟩, hd⟩, hs⟩, hc⟩, hn⟩ := h
  subst hk; subst hz
  obtain rfl := fld0 hd
  obtain rfl := fld0 hs
  obtain rfl := fld0 hc
  obtain rfl : n = 0 := of_decide_eq_true hn
  have he : encF ⟨44, 0, 0, 0, 0, 0⟩ = 15 :: 11 :: [] := rfl
  have hL : (encF ⟨44, 0, 0, 0, 0, 0⟩).length = 2 := by
    rw [he]
    rfl
  rw [hL, he]
  show insR (15 :: 11 :: tail : List UInt8) rd0 = _
  generalize hE : (15 :: 11 :: tail : List UInt8) = bs
  have hl : 2 ≤ bs.length := by rw [← hE]; simp only [List.length_cons]; omega
  rw [ins_first (by omega)]
  have b0 : byteAt bs 0 = 15 := (by rw [← hE]; exact rfl)
  have n1 : nextF bs (R0 1) = (byteAt bs 1, R0 2) := nx (by omega)
  rw [b0]
  refine (show insIn bs 15 (R0 1) = insTwo bs (R0 1) from rfl).trans ?_
  have b1 : byteAt bs 1 = 11 := (by rw [← hE]; exact rfl)
  rw [insTwo, n1, b1]
  rfl
theorem back51 {d s c z n k : Int} (h : fitsF ⟨45, 0, 102, true, 1, [15, 110], 3, 0, 1, 2, 0, 0⟩ ⟨k, d, s, c, z, n⟩ = true) (hI : I64 n) (tail : List UInt8) : insR (encF ⟨k, d, s, c, z, n⟩ ++ tail) rd0 = (⟨k, d, s, c, z, n⟩, R0 (encF ⟨k, d, s, c, z, n⟩).length) := by
  simp only [fitsF, Bool.and_eq_true, decide_eq_true_eq] at h
  obtain ⟨⟨⟨⟨⟨hk, hz⟩, hd⟩, hs⟩, hc⟩, hn⟩ := h
  subst hk; subst hz
  have dr := field_range hd
  have sr := field_range hs
  obtain rfl := fld0 hc
  obtain rfl : n = 0 := of_decide_eq_true hn
  have he : encF ⟨45, d, s, 0, 0, 0⟩ = 102 :: byteOf (rexN true d s) :: 15 :: 110 :: byteOf (twoN d s) :: [] := rfl
  have hL : (encF ⟨45, d, s, 0, 0, 0⟩).length = 5 := by
    rw [he]
    rfl
  rw [hL, he]
  show insR (102 :: byteOf (rexN true d s) :: 15 :: 110 :: byteOf (twoN d s) :: tail : List UInt8) rd0 = _
  generalize hE : (102 :: byteOf (rexN true d s) :: 15 :: 110 :: byteOf (twoN d s) :: tail : List UInt8) = bs
  have hl : 5 ≤ bs.length := by rw [← hE]; simp only [List.length_cons]; omega
  obtain ⟨t1, t2⟩ := two_at (bs := bs) (k := 4) (w := 1) dr sr (by omega) (by rw [← hE]; exact twob)
  have hr := real_at (bs := bs) (w := 1) (b := true) (f := 102) rfl dr sr (by decide) (by omega) (by rw [← hE]; exact rfl) (by rw [← hE]; exact rexb dr sr) (by rw [← hE]; exact rfl)
  have b3 : byteAt bs 3 = 110 := (by rw [← hE]; exact rfl)
  rw [hr, b3]
  refine (show realIn bs 102 (⟨1, d / 8 * 8, s / 8 * 8⟩ : Rx) 110 (R0 4) = (⟨45, (twoV bs (⟨1, d / 8 * 8, s / 8 * 8⟩ : Rx) (R0 4)).1, (twoV bs (⟨1, d / 8 * 8, s / 8 * 8⟩ : Rx) (R0 4)).2, 0, 0, 0⟩, twoD bs (R0 4)) from rfl).trans ?_
  rw [t1, t2]
theorem back52 {d s c z n k : Int} (h : fitsF ⟨46, 0, 102, true, 1, [15, 126], 3, 0, 2, 1, 0, 0⟩ ⟨k, d, s, c, z, n⟩ = true) (hI : I64 n) (tail : List UInt8) : insR (encF ⟨k, d, s, c, z, n⟩ ++ tail) rd0 = (⟨k, d, s, c, z, n⟩, R0 (encF ⟨k, d, s, c, z, n⟩).length) := by
  simp only [fitsF, Bool.and_eq_true, decide_eq_true_eq] at h
  obtain ⟨⟨⟨⟨⟨hk, hz⟩, hd⟩, hs⟩, hc⟩, hn⟩ := h
  subst hk; subst hz
  have dr := field_range hd
  have sr := field_range hs
  obtain rfl := fld0 hc
  obtain rfl : n = 0 := of_decide_eq_true hn
  have he : encF ⟨46, d, s, 0, 0, 0⟩ = 102 :: byteOf (rexN true s d) :: 15 :: 126 :: byteOf (twoN s d) :: [] := rfl
  have hL : (encF ⟨46, d, s, 0, 0, 0⟩).length = 5 := by
    rw [he]
    rfl
  rw [hL, he]
  show insR (102 :: byteOf (rexN true s d) :: 15 :: 126 :: byteOf (twoN s d) :: tail : List UInt8) rd0 = _
  generalize hE : (102 :: byteOf (rexN true s d) :: 15 :: 126 :: byteOf (twoN s d) :: tail : List UInt8) = bs
  have hl : 5 ≤ bs.length := by rw [← hE]; simp only [List.length_cons]; omega
  obtain ⟨t1, t2⟩ := two_at (bs := bs) (k := 4) (w := 1) sr dr (by omega) (by rw [← hE]; exact twob)
  have hr := real_at (bs := bs) (w := 1) (b := true) (f := 102) rfl sr dr (by decide) (by omega) (by rw [← hE]; exact rfl) (by rw [← hE]; exact rexb sr dr) (by rw [← hE]; exact rfl)
  have b3 : byteAt bs 3 = 126 := (by rw [← hE]; exact rfl)
  rw [hr, b3]
  refine (show realIn bs 102 (⟨1, s / 8 * 8, d / 8 * 8⟩ : Rx) 126 (R0 4) = (⟨46, (twoV bs (⟨1, s / 8 * 8, d / 8 * 8⟩ : Rx) (R0 4)).2, (twoV bs (⟨1, s / 8 * 8, d / 8 * 8⟩ : Rx) (R0 4)).1, 0, 0, 0⟩, twoD bs (R0 4)) from rfl).trans ?_
  rw [t1, t2]
theorem back53 {d s c z n k : Int} (h : fitsF ⟨47, 0, 242, true, 0, [15, 88], 3, 0, 1, 2, 0, 0⟩ ⟨k, d, s, c, z, n⟩ = true) (hI : I64 n) (tail : List UInt8) : insR (encF ⟨k, d, s, c, z, n⟩ ++ tail) rd0 = (⟨k, d, s, c, z, n⟩, R0 (encF ⟨k, d, s, c, z, n⟩).length) := by
  simp only [fitsF, Bool.and_eq_true, decide_eq_true_eq] at h
  obtain ⟨⟨⟨⟨⟨hk, hz⟩, hd⟩, hs⟩, hc⟩, hn⟩ := h
  subst hk; subst hz
  have dr := field_range hd
  have sr := field_range hs
  obtain rfl := fld0 hc
  obtain rfl : n = 0 := of_decide_eq_true hn
  have he : encF ⟨47, d, s, 0, 0, 0⟩ = 242 :: byteOf (rexN false d s) :: 15 :: 88 :: byteOf (twoN d s) :: [] := rfl
  have hL : (encF ⟨47, d, s, 0, 0, 0⟩).length = 5 := by
    rw [he]
    rfl
  rw [hL, he]
  show insR (242 :: byteOf (rexN false d s) :: 15 :: 88 :: byteOf (twoN d s) :: tail : List UInt8) rd0 = _
  generalize hE : (242 :: byteOf (rexN false d s) :: 15 :: 88 :: byteOf (twoN d s) :: tail : List UInt8) = bs
  have hl : 5 ≤ bs.length := by rw [← hE]; simp only [List.length_cons]; omega
  obtain ⟨t1, t2⟩ := two_at (bs := bs) (k := 4) (w := 0) dr sr (by omega) (by rw [← hE]; exact twob)
  have hr := real_at (bs := bs) (w := 0) (b := false) (f := 242) rfl dr sr (by decide) (by omega) (by rw [← hE]; exact rfl) (by rw [← hE]; exact rexb dr sr) (by rw [← hE]; exact rfl)
  have b3 : byteAt bs 3 = 88 := (by rw [← hE]; exact rfl)
  rw [hr, b3]
  refine (show realIn bs 242 (⟨0, d / 8 * 8, s / 8 * 8⟩ : Rx) 88 (R0 4) = (⟨47, (twoV bs (⟨0, d / 8 * 8, s / 8 * 8⟩ : Rx) (R0 4)).1, (twoV bs (⟨0, d / 8 * 8, s / 8 * 8⟩ : Rx) (R0 4)).2, 0, 0, 0⟩, twoD bs (R0 4)) from rfl).trans ?_
  rw [t1, t2]
theorem back54 {d s c z n k : Int} (h : fitsF ⟨48, 0, 242, true, 0, [15, 89], 3, 0, 1, 2, 0, 0⟩ ⟨k, d, s, c, z, n⟩ = true) (hI : I64 n) (tail : List UInt8) : insR (encF ⟨k, d, s, c, z, n⟩ ++ tail) rd0 = (⟨k, d, s, c, z, n⟩, R0 (encF ⟨k, d, s, c, z, n⟩).length) := by
  simp only [fitsF, Bool.and_eq_true, decide_eq_true_eq] at h
  obtain ⟨⟨⟨⟨⟨hk, hz⟩, hd⟩, hs⟩, hc⟩, hn⟩ := h
  subst hk; subst hz
  have dr := field_range hd
  have sr := field_range hs
  obtain rfl := fld0 hc
  obtain rfl : n = 0 := of_decide_eq_true hn
  have he : encF ⟨48, d, s, 0, 0, 0⟩ = 242 :: byteOf (rexN false d s) :: 15 :: 89 :: byteOf (twoN d s) :: [] := rfl
  have hL : (encF ⟨48, d, s, 0, 0, 0⟩).length = 5 := by
    rw [he]
    rfl
  rw [hL, he]
  show insR (242 :: byteOf (rexN false d s) :: 15 :: 89 :: byteOf (twoN d s) :: tail : List UInt8) rd0 = _
  generalize hE : (242 :: byteOf (rexN false d s) :: 15 :: 89 :: byteOf (twoN d s) :: tail : List UInt8) = bs
  have hl : 5 ≤ bs.length := by rw [← hE]; simp only [List.length_cons]; omega
  obtain ⟨t1, t2⟩ := two_at (bs := bs) (k := 4) (w := 0) dr sr (by omega) (by rw [← hE]; exact twob)
  have hr := real_at (bs := bs) (w := 0) (b := false) (f := 242) rfl dr sr (by decide) (by omega) (by rw [← hE]; exact rfl) (by rw [← hE]; exact rexb dr sr) (by rw [← hE]; exact rfl)
  have b3 : byteAt bs 3 = 89 := (by rw [← hE]; exact rfl)
  rw [hr, b3]
  refine (show realIn bs 242 (⟨0, d / 8 * 8, s / 8 * 8⟩ : Rx) 89 (R0 4) = (⟨48, (twoV bs (⟨0, d / 8 * 8, s / 8 * 8⟩ : Rx) (R0 4)).1, (twoV bs (⟨0, d / 8 * 8, s / 8 * 8⟩ : Rx) (R0 4)).2, 0, 0, 0⟩, twoD bs (R0 4)) from rfl).trans ?_
  rw [t1, t2]
theorem back55 {d s c z n k : Int} (h : fitsF ⟨49, 0, 242, true, 0, [15, 92], 3, 0, 1, 2, 0, 0⟩ ⟨k, d, s, c, z, n⟩ = true) (hI : I64 n) (tail : List UInt8) : insR (encF ⟨k, d, s, c, z, n⟩ ++ tail) rd0 = (⟨k, d, s, c, z, n⟩, R0 (encF ⟨k, d, s, c, z, n⟩).length) := by
  simp only [fitsF, Bool.and_eq_true, decide_eq_true_eq] at h
  obtain ⟨⟨⟨⟨⟨hk, hz⟩, hd⟩, hs⟩, hc⟩, hn⟩ := h
  subst hk; subst hz
  have dr := field_range hd
  have sr := field_range hs
  obtain rfl := fld0 hc
  obtain rfl : n = 0 := of_decide_eq_true hn
  have he : encF ⟨49, d, s, 0, 0, 0⟩ = 242 :: byteOf (rexN false d s) :: 15 :: 92 :: byteOf (twoN d s) :: [] := rfl
  have hL : (encF ⟨49, d, s, 0, 0, 0⟩).length = 5 := by
    rw [he]
    rfl
  rw [hL, he]
  show insR (242 :: byteOf (rexN false d s) :: 15 :: 92 :: byteOf (twoN d s) :: tail : List UInt8) rd0 = _
  generalize hE : (242 :: byteOf (rexN false d s) :: 15 :: 92 :: byteOf (twoN d s) :: tail : List UInt8) = bs
  have hl : 5 ≤ bs.length := by rw [← hE]; simp only [List.length_cons]; omega
  obtain ⟨t1, t2⟩ := two_at (bs := bs) (k := 4) (w := 0) dr sr (by omega) (by rw [← hE]; exact twob)
  have hr := real_at (bs := bs) (w := 0) (b := false) (f := 242) rfl dr sr (by decide) (by omega) (by rw [← hE]; exact rfl) (by rw [← hE]; exact rexb dr sr) (by rw [← hE]; exact rfl)
  have b3 : byteAt bs 3 = 92 := (by rw [← hE]; exact rfl)
  rw [hr, b3]
  refine (show realIn bs 242 (⟨0, d / 8 * 8, s / 8 * 8⟩ : Rx) 92 (R0 4) = (⟨49, (twoV bs (⟨0, d / 8 * 8, s / 8 * 8⟩ : Rx) (R0 4)).1, (twoV bs (⟨0, d / 8 * 8, s / 8 * 8⟩ : Rx) (R0 4)).2, 0, 0, 0⟩, twoD bs (R0 4)) from rfl).trans ?_
  rw [t1, t2]
theorem back56 {d s c z n k : Int} (h : fitsF ⟨50, 0, 242, true, 0, [15, 94], 3, 0, 1, 2, 0, 0⟩ ⟨k, d, s, c, z, n⟩ = true) (hI : I64 n) (tail : List UInt8) : insR (encF ⟨k, d, s, c, z, n⟩ ++ tail) rd0 = (⟨k, d, s, c, z, n⟩, R0 (encF ⟨k, d, s, c, z, n⟩).length) := by
  simp only [fitsF, Bool.and_eq_true, decide_eq_true_eq] at h
  obtain ⟨⟨⟨⟨⟨hk, hz⟩, hd⟩, hs⟩, hc⟩, hn⟩ := h
  subst hk; subst hz
  have dr := field_range hd
  have sr := field_range hs
  obtain rfl := fld0 hc
  obtain rfl : n = 0 := of_decide_eq_true hn
  have he : encF ⟨50, d, s, 0, 0, 0⟩ = 242 :: byteOf (rexN false d s) :: 15 :: 94 :: byteOf (twoN d s) :: [] := rfl
  have hL : (encF ⟨50, d, s, 0, 0, 0⟩).length = 5 := by
    rw [he]
    rfl
  rw [hL, he]
  show insR (242 :: byteOf (rexN false d s) :: 15 :: 94 :: byteOf (twoN d s) :: tail : List UInt8) rd0 = _
  generalize hE : (242 :: byteOf (rexN false d s) :: 15 :: 94 :: byteOf (twoN d s) :: tail : List UInt8) = bs
  have hl : 5 ≤ bs.length := by rw [← hE]; simp only [List.length_cons]; omega
  obtain ⟨t1, t2⟩ := two_at (bs := bs) (k := 4) (w := 0) dr sr (by omega) (by rw [← hE]; exact twob)
  have hr := real_at (bs := bs) (w := 0) (b := false) (f := 242) rfl dr sr (by decide) (by omega) (by rw [← hE]; exact rfl) (by rw [← hE]; exact rexb dr sr) (by rw [← hE]; exact rfl)
  have b3 : byteAt bs 3 = 94 := (by rw [← hE]; exact rfl)
  rw [hr, b3]
  refine (show realIn bs 242 (⟨0, d / 8 * 8, s / 8 * 8⟩ : Rx) 94 (R0 4) = (⟨50, (twoV bs (⟨0, d / 8 * 8, s / 8 * 8⟩ : Rx) (R0 4)).1, (twoV bs (⟨0, d / 8 * 8, s / 8 * 8⟩ : Rx) (R0 4)).2, 0, 0, 0⟩, twoD bs (R0 4)) from rfl).trans ?_
  rw [t1, t2]
theorem back57 {d s c z n k : Int} (h : fitsF ⟨51, 0, 102, true, 0, [15, 46], 3, 0, 1, 2, 0, 0⟩ ⟨k, d, s, c, z, n⟩ = true) (hI : I64 n) (tail : List UInt8) : insR (encF ⟨k, d, s, c, z, n⟩ ++ tail) rd0 = (⟨k, d, s, c, z, n⟩, R0 (encF ⟨k, d, s, c, z, n⟩).length) := by
  simp only [fitsF, Bool.and_eq_true, decide_eq_true_eq] at h
  obtain ⟨⟨⟨⟨⟨hk, hz⟩, hd⟩, hs⟩, hc⟩, hn⟩ := h
  subst hk; subst hz
  have dr := field_range hd
  have sr := field_range hs
  obtain rfl := fld0 hc
  obtain rfl : n = 0 := of_decide_eq_true hn
  have he : encF ⟨51, d, s, 0, 0, 0⟩ = 102 :: byteOf (rexN false d s) :: 15 :: 46 :: byteOf (twoN d s) :: [] := rfl
  have hL : (encF ⟨51, d, s, 0, 0, 0⟩).length = 5 := by
    rw [he]
    rfl
  rw [hL, he]
  show insR (102 :: byteOf (rexN false d s) :: 15 :: 46 :: byteOf (twoN d s) :: tail : List UInt8) rd0 = _
  generalize hE : (102 :: byteOf (rexN false d s) :: 15 :: 46 :: byteOf (twoN d s) :: tail : List UInt8) = bs
  have hl : 5 ≤ bs.length := by rw [← hE]; simp only [List.length_cons]; omega
  obtain ⟨t1, t2⟩ := two_at (bs := bs) (k := 4) (w := 0) dr sr (by omega) (by rw [← hE]; exact twob)
  have hr := real_at (bs := bs) (w := 0) (b := false) (f := 102) rfl dr sr (by decide) (by omega) (by rw [← hE]; exact rfl) (by rw [← hE]; exact rexb dr sr) (by rw [← hE]; exact rfl)
  have b3 : byteAt bs 3 = 46 := (by rw [← hE]; exact rfl)
  rw [hr, b3]
  refine (show realIn bs 102 (⟨0, d / 8 * 8, s / 8 * 8⟩ : Rx) 46 (R0 4) = (⟨51, (twoV bs (⟨0, d / 8 * 8, s / 8 * 8⟩ : Rx) (R0 4)).1, (twoV bs (⟨0, d / 8 * 8, s / 8 * 8⟩ : Rx) (R0 4)).2, 0, 0, 0⟩, twoD bs (R0 4)) from rfl).trans ?_
  rw [t1, t2]
theorem back58 {d s c z n k : Int} (h : fitsF ⟨52, 0, 242, true, 1, [15, 42], 3, 0, 1, 2, 0, 0⟩ ⟨k, d, s, c, z, n⟩ = true) (hI : I64 n) (tail : List UInt8) : insR (encF ⟨k, d, s, c, z, n⟩ ++ tail) rd0 = (⟨k, d, s, c, z, n⟩, R0 (encF ⟨k, d, s, c, z, n⟩).length) := by
  simp only [fitsF, Bool.and_eq_true, decide_eq_true_eq] at h
  obtain ⟨⟨⟨⟨⟨hk, hz⟩, hd⟩, hs⟩, hc⟩, hn⟩ := h
  subst hk; subst hz
  have dr := field_range hd
  have sr := field_range hs
  obtain rfl := fld0 hc
  obtain rfl : n = 0 := of_decide_eq_true hn
  have he : encF ⟨52, d, s, 0, 0, 0⟩ = 242 :: byteOf (rexN true d s) :: 15 :: 42 :: byteOf (twoN d s) :: [] := rfl
  have hL : (encF ⟨52, d, s, 0, 0, 0⟩).length = 5 := by
    rw [he]
    rfl
  rw [hL, he]
  show insR (242 :: byteOf (rexN true d s) :: 15 :: 42 :: byteOf (twoN d s) :: tail : List UInt8) rd0 = _
  generalize hE : (242 :: byteOf (rexN true d s) :: 15 :: 42 :: byteOf (twoN d s) :: tail : List UInt8) = bs
  have hl : 5 ≤ bs.length := by rw [← hE]; simp only [List.length_cons]; omega
  obtain ⟨t1, t2⟩ := two_at (bs := bs) (k := 4) (w := 1) dr sr (by omega) (by rw [← hE]; exact twob)
  have hr := real_at (bs := bs) (w := 1) (b := true) (f := 242) rfl dr sr (by decide) (by omega) (by rw [← hE]; exact rfl) (by rw [← hE]; exact rexb dr sr) (by rw [← hE]; exact rfl)
  have b3 : byteAt bs 3 = 42 := (by rw [← hE]; exact rfl)
  rw [hr, b3]
  refine (show realIn bs 242 (⟨1, d / 8 * 8, s / 8 * 8⟩ : Rx) 42 (R0 4) = (⟨52, (twoV bs (⟨1, d / 8 * 8, s / 8 * 8⟩ : Rx) (R0 4)).1, (twoV bs (⟨1, d / 8 * 8, s / 8 * 8⟩ : Rx) (R0 4)).2, 0, 0, 0⟩, twoD bs (R0 4)) from rfl).trans ?_
  rw [t1, t2]
theorem back_enc {i : Ins} (hv : validF i = true) (hI : I64 i.imm) (tail : List UInt8) : insR (encF i ++ tail) rd0 = (i, R0 (encF i).length) := by
  obtain ⟨f, hf, h⟩ := valid_form hv
  obtain ⟨k, d, s, c, z, n⟩ := i
  simp only [formsF, List.mem_cons, List.not_mem_nil, or_false] at hf
  rcases hf with rfl | rfl | rfl | rfl | rfl | rfl | rfl | rfl | rfl | rfl | rfl | rfl | rfl | rfl | rfl | rfl | rfl | rfl | rfl | rfl | rfl | rfl | rfl | rfl | rfl | rfl | rfl | rfl | rfl | rfl | rfl | rfl | rfl | rfl | rfl | rfl | rfl | rfl | rfl | rfl | rfl | rfl | rfl | rfl | rfl | rfl | rfl | rfl | rfl | rfl | rfl | rfl | rfl | rfl | rfl | rfl | rfl | rfl | rfl
  · exact back0 h hI tail
  · exact back1 h hI tail
  · exact back2 h hI tail
  · exact back3 h hI tail
  · exact back4 h hI tail
  · exact back5 h hI tail
  · exact back6 h hI tail
  · exact back7 h hI tail
  · exact back8 h hI tail
  · exact back9 h hI tail
  · exact back10 h hI tail
  · exact back11 h hI tail
  · exact back12 h hI tail
  · exact back13 h hI tail
  · exact back14 h hI tail
  · exact back15 h hI tail
  · exact back16 h hI tail
  · exact back17 h hI tail
  · exact back18 h hI tail
  · exact back19 h hI tail
  · exact back20 h hI tail
  · exact back21 h hI tail
  · exact back22 h hI tail
  · exact back23 h hI tail
  · exact back24 h hI tail
  · exact back25 h hI tail
  · exact back26 h hI tail
  · exact back27 h hI tail
  · exact back28 h hI tail
  · exact back29 h hI tail
  · exact back30 h hI tail
  · exact back31 h hI tail
  · exact back32 h hI tail
  · exact back33 h hI tail
  · exact back34 h hI tail
  · exact back35 h hI tail
  · exact back36 h hI tail
  · exact back37 h hI tail
  · exact back38 h hI tail
  · exact back39 h hI tail
  · exact back40 h hI tail
  · exact back41 h hI tail
  · exact back42 h hI tail
  · exact back43 h hI tail
  · exact back44 h hI tail
  · exact back45 h hI tail
  · exact back46 h hI tail
  · exact back47 h hI tail
  · exact back48 h hI tail
  · exact back49 h hI tail
  · exact back50 h hI tail
  · exact back51 h hI tail
  · exact back52 h hI tail
  · exact back53 h hI tail
  · exact back54 h hI tail
  · exact back55 h hI tail
  · exact back56 h hI tail
  · exact back57 h hI tail
  · exact back58 h hI tail
theorem dec_enc {i : Ins} (hv : validF i = true) (hI : I64 i.imm) (tail : List UInt8) : decI (encF i ++ tail) = i ∧ decN (encF i ++ tail) = (encF i).length ∧ decE (encF i ++ tail) = 0 := by
  have h := back_enc hv hI tail
  have hno : ¬ ((insR (encF i ++ tail) rd0).2.wrong = true ∨ (insR (encF i ++ tail) rd0).2.cut = true) := by
    rw [h]
    show ¬ (false = true ∨ false = true)
    decide
  rw [decI, decN, decE, if_neg hno, if_neg hno, if_neg (fun q => hno (.inl q)), if_neg (fun q => hno (.inr q)), h]
  exact ⟨rfl, rfl, rfl⟩
end Go.Proofs.YtjndpakhmgapjaaDoor
