/-
  TEXTS JOINED: Each, Kinds, Wk15, Dec.
-/
import Derived.Test.YtjndpakhmgapjaaDoorLc
set_option linter.unusedSimpArgs false
set_option linter.unusedVariables false
set_option linter.unusedSectionVars false
set_option linter.unnecessarySimpa false
namespace Go.Proofs.YtjndpakhmgapjaaDoor
open Go Go.RowKit
set_option linter.unusedSimpArgs false
set_option linter.unusedVariables false
set_option linter.unnecessarySimpa false
theorem fld0 {n : Int} (h : fieldR 0 n = true) : n = 0 := by
  simpa [fieldR] using h
theorem leBytes_mod : ∀ (k m : Nat) (n : Int), k ≤ m → leBytes k (n % 256 ^ m) = leBytes k n
  | 0, _, _, _ => rfl
  | k + 1, 0, _, h => absurd h (by omega)
  | k + 1, m + 1, n, h => by
    have e0 : (256 : Int) ^ (m + 1) = 256 ^ m * 256 := Int.pow_succ ..
    have hp : (0 : Int) < 256 ^ m := Int.pow_pos (by decide)
    have e1 : n % 256 ^ (m + 1) % 256 = n % 256 := Int.emod_emod_of_dvd n ⟨256 ^ m, by rw [e0, Int.mul_comm]⟩
    have e2 : n % 256 ^ (m + 1) / 256 = (n / 256) % 256 ^ m := by
      have a1 := Int.emod_add_mul_ediv n (256 ^ (m + 1))
      have a2 := Int.emod_nonneg n (show (256 : Int) ^ (m + 1) ≠ 0 by rw [e0]; omega)
      have a3 := Int.emod_lt_of_pos n (show (0 : Int) < 256 ^ (m + 1) by rw [e0]; omega)
      have b1 : n / 256 = 256 ^ m * (n / 256 ^ (m + 1)) + n % 256 ^ (m + 1) / 256 := by
        have : n = 256 * (256 ^ m * (n / 256 ^ (m + 1))) + n % 256 ^ (m + 1) := by
          have e3 : 256 * (256 ^ m * (n / 256 ^ (m + 1))) = 256 ^ (m + 1) * (n / 256 ^ (m + 1)) := by rw [e0, ← Int.mul_assoc, Int.mul_comm 256]
          omega
        omega
      have b2 : 0 ≤ n % 256 ^ (m + 1) / 256 := by omega
      have b3 : n % 256 ^ (m + 1) / 256 < 256 ^ m := by omega
      rw [b1, Int.add_comm, Int.add_mul_emod_self_left, Int.emod_eq_of_lt b2 b3]
    rw [leBytes, leBytes, e1, e2, leBytes_mod k m (n / 256) (by omega)]
theorem imm_mod {k : Nat} (hk : k ≤ 8) (n : Int) : immF n k = leBytes k (n % 18446744073709551616) := (leBytes_mod k 8 n hk).symm
theorem mem_tail (q q' n : Int) (h : q' = q) : (if q % 8 = 4 then [(36 : UInt8)] else []) ++ immF n 4 = (if (decide ((2 : Int) = 2) && decide (q' % 8 = 4)) = true then [36] else []) ++ leBytes 4 (n % 18446744073709551616) := by
  subst h
  rw [imm_mod (by decide)]
  by_cases hq : q' % 8 = 4
  · rw [if_pos hq, if_pos (by simp [hq])]
  · rw [if_neg hq, if_neg (by simp [hq])]
theorem list2 {α : Type} {a b : α} {l m : List α} (h1 : a = b) (h2 : l = m) : a :: l = b :: m := by rw [h1, h2]
theorem bad0_of {i : Ins} (h : (fieldsF i.kind).2 = true) (hd : 0 ≤ i.d ∧ i.d ≤ 15) (hs : 0 ≤ i.s ∧ i.s ≤ 15) (hc : 0 ≤ i.cond ∧ i.cond ≤ 15) : bad0 i = false := by
  rw [bad0, h, inF_of hd.1 hd.2, inF_of hs.1 hs.2, inF_of hc.1 hc.2]
  rfl
theorem form0 {d s c z n k : Int} (h : fitsF ⟨1, 0, 0, true, 1, [137], 3, 0, 2, 1, 0, 0⟩ ⟨k, d, s, c, z, n⟩ = true) : validF ⟨k, d, s, c, z, n⟩ = true ∧ encF ⟨k, d, s, c, z, n⟩ = bytesF ⟨1, 0, 0, true, 1, [137], 3, 0, 2, 1, 0, 0⟩ ⟨k, d, s, c, z, n⟩ := by
  simp only [fitsF, Bool.and_eq_true, decide_eq_true_eq] at h
  obtain ⟨⟨⟨⟨⟨hk, hz⟩, hd⟩, hs⟩, hc⟩, hn⟩ := h
  subst hk; subst hz
  have dr := field_range hd
  have sr := field_range hs
  obtain rfl := fld0 hc
  obtain rfl : n = 0 := of_decide_eq_true hn
  refine ⟨valid_mk (bad0_of rfl dr sr ⟨Int.le_refl _, show (0 : Int) ≤ 15 by decide⟩) ?_, ?_⟩
  · have e : sizedF ⟨1, d, s, 0, 0, 0⟩ = true := by rw [sizedF, if_neg (by dsimp only; decide), if_neg (by dsimp only; decide), if_neg (by dsimp only; decide)]; rfl
    rw [e, none_any _ 1 _ (by dsimp only; decide), none_any _ 2 _ (by dsimp only; decide), none_zero _ 4, none_zero _ 8, none_zero _ 16]
    rfl
  · show byteOf (rexN true s d) :: 137 :: byteOf (twoN s d) :: [] = byteOf (64 + 8 * 1 + 4 * (s / 8) + (d + 0) / 8) :: byteOf (137 + 0 + 0) :: byteOf (64 * 3 + 8 * (s % 8) + (d + 0) % 8) :: []
    exact list2 (congrArg byteOf (by simp only [rexN, if_true, if_false, Bool.false_eq_true]; omega)) (list2 (rfl) (list2 (congrArg byteOf (by simp only [memN, twoN]; omega)) (rfl)))
theorem form1 {d s c z n k : Int} (h : fitsF ⟨2, 0, 0, true, 1, [199], 3, 0, 2, 0, 0, 6⟩ ⟨k, d, s, c, z, n⟩ = true) : validF ⟨k, d, s, c, z, n⟩ = true ∧ encF ⟨k, d, s, c, z, n⟩ = bytesF ⟨2, 0, 0, true, 1, [199], 3, 0, 2, 0, 0, 6⟩ ⟨k, d, s, c, z, n⟩ := by
  simp only [fitsF, Bool.and_eq_true, decide_eq_true_eq] at h
  obtain ⟨⟨⟨⟨⟨hk, hz⟩, hd⟩, hs⟩, hc⟩, hn⟩ := h
  subst hk; subst hz
  have dr := field_range hd
  obtain rfl := fld0 hs
  obtain rfl := fld0 hc
  have hn : smallF n = true := hn
  refine ⟨valid_mk (bad0_of rfl dr ⟨Int.le_refl _, show (0 : Int) ≤ 15 by decide⟩ ⟨Int.le_refl _, show (0 : Int) ≤ 15 by decide⟩) ?_, ?_⟩
  · have e : sizedF ⟨2, d, 0, 0, 0, n⟩ = true := by rw [sizedF, if_neg (by dsimp only; decide), if_neg (by dsimp only; decide), if_neg (by dsimp only; decide)]; rfl
    rw [e, none_any _ 1 _ (by dsimp only; decide), none_zero _ 2, none_any _ 4 _ (by dsimp only; decide), none_zero _ 8, none_zero _ 16]
    rfl
  · rw [show encF ⟨2, d, 0, 0, 0, n⟩ = (if smallF n = true then byteOf (rexN true 0 d) :: 199 :: byteOf (twoN 0 d) :: immF n 4 else byteOf (rexN true 0 d) :: byteOf (184 + d % 8) :: immF n 8) from rfl, if_pos hn]
    show byteOf (rexN true 0 d) :: 199 :: byteOf (twoN 0 d) :: immF n 4 = byteOf (64 + 8 * 1 + 4 * (0 / 8) + (d + 0) / 8) :: byteOf (199 + 0 + 0) :: byteOf (64 * 3 + 8 * (0) + (d + 0) % 8) :: leBytes 4 (n % 18446744073709551616)
    exact list2 (congrArg byteOf (by simp only [rexN, if_true, if_false, Bool.false_eq_true]; omega)) (list2 (rfl) (list2 (congrArg byteOf (by simp only [memN, twoN]; omega)) (imm_mod (by decide) n)))
theorem form2 {d s c z n k : Int} (h : fitsF ⟨2, 0, 0, true, 1, [184], -1, 0, 3, 0, 0, 7⟩ ⟨k, d, s, c, z, n⟩ = true) : validF ⟨k, d, s, c, z, n⟩ = true ∧ encF ⟨k, d, s, c, z, n⟩ = bytesF ⟨2, 0, 0, true, 1, [184], -1, 0, 3, 0, 0, 7⟩ ⟨k, d, s, c, z, n⟩ := by
  simp only [fitsF, Bool.and_eq_true, decide_eq_true_eq] at h
  obtain ⟨⟨⟨⟨⟨hk, hz⟩, hd⟩, hs⟩, hc⟩, hn⟩ := h
  subst hk; subst hz
  have dr := field_range hd
  obtain rfl := fld0 hs
  obtain rfl := fld0 hc
  have hn : smallF n = false := by simpa using (show (!smallF n) = true from hn)
  refine ⟨valid_mk (bad0_of rfl dr ⟨Int.le_refl _, show (0 : Int) ≤ 15 by decide⟩ ⟨Int.le_refl _, show (0 : Int) ≤ 15 by decide⟩) ?_, ?_⟩
  · have e : sizedF ⟨2, d, 0, 0, 0, n⟩ = true := by rw [sizedF, if_neg (by dsimp only; decide), if_neg (by dsimp only; decide), if_neg (by dsimp only; decide)]; rfl
    rw [e, none_any _ 1 _ (by dsimp only; decide), none_zero _ 2, none_any _ 4 _ (by dsimp only; decide), none_zero _ 8, none_zero _ 16]
    rfl
  · rw [show encF ⟨2, d, 0, 0, 0, n⟩ = (if smallF n = true then byteOf (rexN true 0 d) :: 199 :: byteOf (twoN 0 d) :: immF n 4 else byteOf (rexN true 0 d) :: byteOf (184 + d % 8) :: immF n 8) from rfl, if_neg (by rw [hn]; decide)]
    show byteOf (rexN true 0 d) :: byteOf (184 + d % 8) :: immF n 8 = byteOf (64 + 8 * 1 + 4 * (0 / 8) + (0 + d) / 8) :: byteOf (184 + 0 + d % 8) :: leBytes 8 (n % 18446744073709551616)
    exact list2 (congrArg byteOf (by simp only [rexN, if_true, if_false, Bool.false_eq_true]; omega)) (list2 (congrArg byteOf (by omega)) (imm_mod (by decide) n))
theorem form3 {d s c z n k : Int} (h : fitsF ⟨3, 8, 0, true, 1, [139], 2, 0, 1, 2, 0, 6⟩ ⟨k, d, s, c, z, n⟩ = true) : validF ⟨k, d, s, c, z, n⟩ = true ∧ encF ⟨k, d, s, c, z, n⟩ = bytesF ⟨3, 8, 0, true, 1, [139], 2, 0, 1, 2, 0, 6⟩ ⟨k, d, s, c, z, n⟩ := by
  simp only [fitsF, Bool.and_eq_true, decide_eq_true_eq] at h
  obtain ⟨⟨⟨⟨⟨hk, hz⟩, hd⟩, hs⟩, hc⟩, hn⟩ := h
  subst hk; subst hz
  have dr := field_range hd
  have sr := field_range hs
  obtain rfl := fld0 hc
  have hn : smallF n = true := hn
  refine ⟨valid_mk (bad0_of rfl dr sr ⟨Int.le_refl _, show (0 : Int) ≤ 15 by decide⟩) ?_, ?_⟩
  · have e : sizedF ⟨3, d, s, 0, 8, n⟩ = true := by rw [sizedF, if_pos (by dsimp only; decide), hn]; rfl
    rw [e, none_any _ 1 _ (by dsimp only; decide), none_any _ 2 _ (by dsimp only; decide), none_any _ 4 _ (by dsimp only; decide), none_zero _ 8, none_any _ 16 _ (by dsimp only; decide)]
    rfl
  · show byteOf (rexN true d s) :: 139 :: byteOf (memN d s) :: ((if s % 8 = 4 then [(36 : UInt8)] else []) ++ immF n 4) = byteOf (64 + 8 * 1 + 4 * (d / 8) + (s + 0) / 8) :: byteOf (139 + 0 + 0) :: byteOf (64 * 2 + 8 * (d % 8) + (s + 0) % 8) :: ((if (decide ((2 : Int) = 2) && decide ((s + 0) % 8 = 4)) = true then [36] else []) ++ leBytes 4 (n % 18446744073709551616))
    exact list2 (congrArg byteOf (by simp only [rexN, if_true, if_false, Bool.false_eq_true]; omega)) (list2 (rfl) (list2 (congrArg byteOf (by simp only [memN, twoN]; omega)) (mem_tail _ _ _ (by omega))))
theorem form4 {d s c z n k : Int} (h : fitsF ⟨3, 4, 0, true, 0, [139], 2, 0, 1, 2, 0, 6⟩ ⟨k, d, s, c, z, n⟩ = true) : validF ⟨k, d, s, c, z, n⟩ = true ∧ encF ⟨k, d, s, c, z, n⟩ = bytesF ⟨3, 4, 0, true, 0, [139], 2, 0, 1, 2, 0, 6⟩ ⟨k, d, s, c, z, n⟩ := by
  simp only [fitsF, Bool.and_eq_true, decide_eq_true_eq] at h
  obtain ⟨⟨⟨⟨⟨hk, hz⟩, hd⟩, hs⟩, hc⟩, hn⟩ := h
  subst hk; subst hz
  have dr := field_range hd
  have sr := field_range hs
  obtain rfl := fld0 hc
  have hn : smallF n = true := hn
  refine ⟨valid_mk (bad0_of rfl dr sr ⟨Int.le_refl _, show (0 : Int) ≤ 15 by decide⟩) ?_, ?_⟩
  · have e : sizedF ⟨3, d, s, 0, 4, n⟩ = true := by rw [sizedF, if_pos (by dsimp only; decide), hn]; rfl
    rw [e, none_any _ 1 _ (by dsimp only; decide), none_any _ 2 _ (by dsimp only; decide), none_any _ 4 _ (by dsimp only; decide), none_zero _ 8, none_any _ 16 _ (by dsimp only; decide)]
    rfl
  · show byteOf (rexN false d s) :: 139 :: byteOf (memN d s) :: ((if s % 8 = 4 then [(36 : UInt8)] else []) ++ immF n 4) = byteOf (64 + 8 * 0 + 4 * (d / 8) + (s + 0) / 8) :: byteOf (139 + 0 + 0) :: byteOf (64 * 2 + 8 * (d % 8) + (s + 0) % 8) :: ((if (decide ((2 : Int) = 2) && decide ((s + 0) % 8 = 4)) = true then [36] else []) ++ leBytes 4 (n % 18446744073709551616))
    exact list2 (congrArg byteOf (by simp only [rexN, if_true, if_false, Bool.false_eq_true]; omega)) (list2 (rfl) (list2 (congrArg byteOf (by simp only [memN, twoN]; omega)) (mem_tail _ _ _ (by omega))))
theorem form5 {d s c z n k : Int} (h : fitsF ⟨3, 1, 0, true, 1, [15, 182], 2, 0, 1, 2, 0, 6⟩ ⟨k, d, s, c, z, n⟩ = true) : validF ⟨k, d, s, c, z, n⟩ = true ∧ encF ⟨k, d, s, c, z, n⟩ = bytesF ⟨3, 1, 0, true, 1, [15, 182], 2, 0, 1, 2, 0, 6⟩ ⟨k, d, s, c, z, n⟩ := by
  simp only [fitsF, Bool.and_eq_true, decide_eq_true_eq] at h
  obtain ⟨⟨⟨⟨⟨hk, hz⟩, hd⟩, hs⟩, hc⟩, hn⟩ := h
  subst hk; subst hz
  have dr := field_range hd
  have sr := field_range hs
  obtain rfl := fld0 hc
  have hn : smallF n = true := hn
  refine ⟨valid_mk (bad0_of rfl dr sr ⟨Int.le_refl _, show (0 : Int) ≤ 15 by decide⟩) ?_, ?_⟩
  · have e : sizedF ⟨3, d, s, 0, 1, n⟩ = true := by rw [sizedF, if_pos (by dsimp only; decide), hn]; rfl
    rw [e, none_any _ 1 _ (by dsimp only; decide), none_any _ 2 _ (by dsimp only; decide), none_any _ 4 _ (by dsimp only; decide), none_zero _ 8, none_any _ 16 _ (by dsimp only; decide)]
    rfl
  · show byteOf (rexN true d s) :: 15 :: 182 :: byteOf (memN d s) :: ((if s % 8 = 4 then [(36 : UInt8)] else []) ++ immF n 4) = byteOf (64 + 8 * 1 + 4 * (d / 8) + (s + 0) / 8) :: byteOf (15 + 0 + 0) :: byteOf (182 + 0 + 0) :: byteOf (64 * 2 + 8 * (d % 8) + (s + 0) % 8) :: ((if (decide ((2 : Int) = 2) && decide ((s + 0) % 8 = 4)) = true then [36] else []) ++ leBytes 4 (n % 18446744073709551616))
    exact list2 (congrArg byteOf (by simp only [rexN, if_true, if_false, Bool.false_eq_true]; omega)) (list2 (rfl) (list2 (rfl) (list2 (congrArg byteOf (by simp only [memN, twoN]; omega)) (mem_tail _ _ _ (by omega)))))
theorem form6 {d s c z n k : Int} (h : fitsF ⟨4, 8, 0, true, 1, [137], 2, 0, 2, 1, 0, 6⟩ ⟨k, d, s, c, z, n⟩ = true) : validF ⟨k, d, s, c, z, n⟩ = true ∧ encF ⟨k, d, s, c, z, n⟩ = bytesF ⟨4, 8, 0, true, 1, [137], 2, 0, 2, 1, 0, 6⟩ ⟨k, d, s, c, z, n⟩ := by
  simp only [fitsF, Bool.and_eq_true, decide_eq_true_eq] at h
  obtain ⟨⟨⟨⟨⟨hk, hz⟩, hd⟩, hs⟩, hc⟩, hn⟩ := h
  subst hk; subst hz
  have dr := field_range hd
  have sr := field_range hs
  obtain rfl := fld0 hc
  have hn : smallF n = true := hn
  refine ⟨valid_mk (bad0_of rfl dr sr ⟨Int.le_refl _, show (0 : Int) ≤ 15 by decide⟩) ?_, ?_⟩
  · have e : sizedF ⟨4, d, s, 0, 8, n⟩ = true := by rw [sizedF, if_pos (by dsimp only; decide), hn]; rfl
    rw [e, none_any _ 1 _ (by dsimp only; decide), none_any _ 2 _ (by dsimp only; decide), none_any _ 4 _ (by dsimp only; decide), none_zero _ 8, none_any _ 16 _ (by dsimp only; decide)]
    rfl
  · show byteOf (rexN true s d) :: 137 :: byteOf (memN s d) :: ((if d % 8 = 4 then [(36 : UInt8)] else []) ++ immF n 4) = byteOf (64 + 8 * 1 + 4 * (s / 8) + (d + 0) / 8) :: byteOf (137 + 0 + 0) :: byteOf (64 * 2 + 8 * (s % 8) + (d + 0) % 8) :: ((if (decide ((2 : Int) = 2) && decide ((d + 0) % 8 = 4)) = true then [36] else []) ++ leBytes 4 (n % 18446744073709551616))
    exact list2 (congrArg byteOf (by simp only [rexN, if_true, if_false, Bool.false_eq_true]; omega)) (list2 (rfl) (list2 (congrArg byteOf (by simp only [memN, twoN]; omega)) (mem_tail _ _ _ (by omega))))
theorem form7 {d s c z n k : Int} (h : fitsF ⟨4, 4, 0, true, 0, [137], 2, 0, 2, 1, 0, 6⟩ ⟨k, d, s, c, z, n⟩ = true) : validF ⟨k, d, s, c, z, n⟩ = true ∧ encF ⟨k, d, s, c, z, n⟩ = bytesF ⟨4, 4, 0, true, 0, [137], 2, 0, 2, 1, 0, 6⟩ ⟨k, d, s, c, z, n⟩ := by
  simp only [fitsF, Bool.and_eq_true, decide_eq_true_eq] at h
  obtain ⟨⟨⟨⟨⟨hk, hz⟩, hd⟩, hs⟩, hc⟩, hn⟩ := h
  subst hk; subst hz
  have dr := field_range hd
  have sr := field_range hs
  obtain rfl := fld0 hc
  have hn : smallF n = true := hn
  refine ⟨valid_mk (bad0_of rfl dr sr ⟨Int.le_refl _, show (0 : Int) ≤ 15 by decide⟩) ?_, ?_⟩
  · have e : sizedF ⟨4, d, s, 0, 4, n⟩ = true := by rw [sizedF, if_pos (by dsimp only; decide), hn]; rfl
    rw [e, none_any _ 1 _ (by dsimp only; decide), none_any _ 2 _ (by dsimp only; decide), none_any _ 4 _ (by dsimp only; decide), none_zero _ 8, none_any _ 16 _ (by dsimp only; decide)]
    rfl
  · show byteOf (rexN false s d) :: 137 :: byteOf (memN s d) :: ((if d % 8 = 4 then [(36 : UInt8)] else []) ++ immF n 4) = byteOf (64 + 8 * 0 + 4 * (s / 8) + (d + 0) / 8) :: byteOf (137 + 0 + 0) :: byteOf (64 * 2 + 8 * (s % 8) + (d + 0) % 8) :: ((if (decide ((2 : Int) = 2) && decide ((d + 0) % 8 = 4)) = true then [36] else []) ++ leBytes 4 (n % 18446744073709551616))
    exact list2 (congrArg byteOf (by simp only [rexN, if_true, if_false, Bool.false_eq_true]; omega)) (list2 (rfl) (list2 (congrArg byteOf (by simp only [memN, twoN]; omega)) (mem_tail _ _ _ (by omega))))
theorem form8 {d s c z n k : Int} (h : fitsF ⟨4, 1, 0, true, 0, [136], 2, 0, 2, 1, 0, 6⟩ ⟨k, d, s, c, z, n⟩ = true) : validF ⟨k, d, s, c, z, n⟩ = true ∧ encF ⟨k, d, s, c, z, n⟩ = bytesF ⟨4, 1, 0, true, 0, [136], 2, 0, 2, 1, 0, 6⟩ ⟨k, d, s, c, z, n⟩ := by
  simp only [fitsF, Bool.and_eq_true, decide_eq_true_eq] at h
  obtain ⟨⟨⟨⟨⟨hk, hz⟩, hd⟩, hs⟩, hc⟩, hn⟩ := h
  subst hk; subst hz
  have dr := field_range hd
  have sr := field_range hs
  obtain rfl := fld0 hc
  have hn : smallF n = true := hn
  refine ⟨valid_mk (bad0_of rfl dr sr ⟨Int.le_refl _, show (0 : Int) ≤ 15 by decide⟩) ?_, ?_⟩
  · have e : sizedF ⟨4, d, s, 0, 1, n⟩ = true := by rw [sizedF, if_pos (by dsimp only; decide), hn]; rfl
    rw [e, none_any _ 1 _ (by dsimp only; decide), none_any _ 2 _ (by dsimp only; decide), none_any _ 4 _ (by dsimp only; decide), none_zero _ 8, none_any _ 16 _ (by dsimp only; decide)]
    rfl
  · show byteOf (rexN false s d) :: 136 :: byteOf (memN s d) :: ((if d % 8 = 4 then [(36 : UInt8)] else []) ++ immF n 4) = byteOf (64 + 8 * 0 + 4 * (s / 8) + (d + 0) / 8) :: byteOf (136 + 0 + 0) :: byteOf (64 * 2 + 8 * (s % 8) + (d + 0) % 8) :: ((if (decide ((2 : Int) = 2) && decide ((d + 0) % 8 = 4)) = true then [36] else []) ++ leBytes 4 (n % 18446744073709551616))
    exact list2 (congrArg byteOf (by simp only [rexN, if_true, if_false, Bool.false_eq_true]; omega)) (list2 (rfl) (list2 (congrArg byteOf (by simp only [memN, twoN]; omega)) (mem_tail _ _ _ (by omega))))
theorem form9 {d s c z n k : Int} (h : fitsF ⟨5, 0, 0, true, 1, [141], 2, 0, 1, 2, 0, 6⟩ ⟨k, d, s, c, z, n⟩ = true) : validF ⟨k, d, s, c, z, n⟩ = true ∧ encF ⟨k, d, s, c, z, n⟩ = bytesF ⟨5, 0, 0, true, 1, [141], 2, 0, 1, 2, 0, 6⟩ ⟨k, d, s, c, z, n⟩ := by
  simp only [fitsF, Bool.and_eq_true, decide_eq_true_eq] at h
  obtain ⟨⟨⟨⟨⟨hk, hz⟩, hd⟩, hs⟩, hc⟩, hn⟩ := h
  subst hk; subst hz
  have dr := field_range hd
  have sr := field_range hs
  obtain rfl := fld0 hc
  have hn : smallF n = true := hn
  refine ⟨valid_mk (bad0_of rfl dr sr ⟨Int.le_refl _, show (0 : Int) ≤ 15 by decide⟩) ?_, ?_⟩
  · have e : sizedF ⟨5, d, s, 0, 0, n⟩ = true := by rw [sizedF, if_neg (by dsimp only; decide), if_neg (by dsimp only; decide), if_neg (by dsimp only; decide), hn, Bool.or_true]
    rw [e, none_any _ 1 _ (by dsimp only; decide), none_any _ 2 _ (by dsimp only; decide), none_any _ 4 _ (by dsimp only; decide), none_zero _ 8, none_zero _ 16]
    rfl
  · show byteOf (rexN true d s) :: 141 :: byteOf (memN d s) :: ((if s % 8 = 4 then [(36 : UInt8)] else []) ++ immF n 4) = byteOf (64 + 8 * 1 + 4 * (d / 8) + (s + 0) / 8) :: byteOf (141 + 0 + 0) :: byteOf (64 * 2 + 8 * (d % 8) + (s + 0) % 8) :: ((if (decide ((2 : Int) = 2) && decide ((s + 0) % 8 = 4)) = true then [36] else []) ++ leBytes 4 (n % 18446744073709551616))
    exact list2 (congrArg byteOf (by simp only [rexN, if_true, if_false, Bool.false_eq_true]; omega)) (list2 (rfl) (list2 (congrArg byteOf (by simp only [memN, twoN]; omega)) (mem_tail _ _ _ (by omega))))
theorem form10 {d s c z n k : Int} (h : fitsF ⟨6, 0, 0, true, 1, [1], 3, 0, 2, 1, 0, 0⟩ ⟨k, d, s, c, z, n⟩ = true) : validF ⟨k, d, s, c, z, n⟩ = true ∧ encF ⟨k, d, s, c, z, n⟩ = bytesF ⟨6, 0, 0, true, 1, [1], 3, 0, 2, 1, 0, 0⟩ ⟨k, d, s, c, z, n⟩ := by
  simp only [fitsF, Bool.and_eq_true, decide_eq_true_eq] at h
  obtain ⟨⟨⟨⟨⟨hk, hz⟩, hd⟩, hs⟩, hc⟩, hn⟩ := h
  subst hk; subst hz
  have dr := field_range hd
  have sr := field_range hs
  obtain rfl := fld0 hc
  obtain rfl : n = 0 := of_decide_eq_true hn
  refine ⟨valid_mk (bad0_of rfl dr sr ⟨Int.le_refl _, show (0 : Int) ≤ 15 by decide⟩) ?_, ?_⟩
  · have e : sizedF ⟨6, d, s, 0, 0, 0⟩ = true := by rw [sizedF, if_neg (by dsimp only; decide), if_neg (by dsimp only; decide), if_neg (by dsimp only; decide)]; rfl
    rw [e, none_any _ 1 _ (by dsimp only; decide), none_any _ 2 _ (by dsimp only; decide), none_zero _ 4, none_zero _ 8, none_zero _ 16]
    rfl
  · show byteOf (rexN true s d) :: 1 :: byteOf (twoN s d) :: [] = byteOf (64 + 8 * 1 + 4 * (s / 8) + (d + 0) / 8) :: byteOf (1 + 0 + 0) :: byteOf (64 * 3 + 8 * (s % 8) + (d + 0) % 8) :: []
    exact list2 (congrArg byteOf (by simp only [rexN, if_true, if_false, Bool.false_eq_true]; omega)) (list2 (rfl) (list2 (congrArg byteOf (by simp only [memN, twoN]; omega)) (rfl)))
theorem form11 {d s c z n k : Int} (h : fitsF ⟨7, 0, 0, true, 1, [9], 3, 0, 2, 1, 0, 0⟩ ⟨k, d, s, c, z, n⟩ = true) : validF ⟨k, d, s, c, z, n⟩ = true ∧ encF ⟨k, d, s, c, z, n⟩ = bytesF ⟨7, 0, 0, true, 1, [9], 3, 0, 2, 1, 0, 0⟩ ⟨k, d, s, c, z, n⟩ := by
  simp only [fitsF, Bool.and_eq_true, decide_eq_true_eq] at h
  obtain ⟨⟨⟨⟨⟨hk, hz⟩, hd⟩, hs⟩, hc⟩, hn⟩ := h
  subst hk; subst hz
  have dr := field_range hd
  have sr := field_range hs
  obtain rfl := fld0 hc
  obtain rfl : n = 0 := of_decide_eq_true hn
  refine ⟨valid_mk (bad0_of rfl dr sr ⟨Int.le_refl _, show (0 : Int) ≤ 15 by decide⟩) ?_, ?_⟩
  · have e : sizedF ⟨7, d, s, 0, 0, 0⟩ = true := by rw [sizedF, if_neg (by dsimp only; decide), if_neg (by dsimp only; decide), if_neg (by dsimp only; decide)]; rfl
    rw [e, none_any _ 1 _ (by dsimp only; decide), none_any _ 2 _ (by dsimp only; decide), none_zero _ 4, none_zero _ 8, none_zero _ 16]
    rfl
  · show byteOf (rexN true s d) :: 9 :: byteOf (twoN s d) :: [] = byteOf (64 + 8 * 1 + 4 * (s / 8) + (d + 0) / 8) :: byteOf (9 + 0 + 0) :: byteOf (64 * 3 + 8 * (s % 8) + (d + 0) % 8) :: []
    exact list2 (congrArg byteOf (by simp only [rexN, if_true, if_false, Bool.false_eq_true]; omega)) (list2 (rfl) (list2 (congrArg byteOf (by simp only [memN, twoN]; omega)) (rfl)))
theorem form12 {d s c z n k : Int} (h : fitsF ⟨8, 0, 0, true, 1, [17], 3, 0, 2, 1, 0, 0⟩ ⟨k, d, s, c, z, n⟩ = true) : validF ⟨k, d, s, c, z, n⟩ = true ∧ encF ⟨k, d, s, c, z, n⟩ = bytesF ⟨8, 0, 0, true, 1, [17], 3, 0, 2, 1, 0, 0⟩ ⟨k, d, s, c, z, n⟩ := by
  simp only [fitsF, Bool.and_eq_true, decide_eq_true_eq] at h
  obtain ⟨⟨⟨⟨⟨hk, hz⟩, hd⟩, hs⟩, hc⟩, hn⟩ := h
  subst hk; subst hz
  have dr := field_range hd
  have sr := field_range hs
  obtain rfl := fld0 hc
  obtain rfl : n = 0 := of_decide_eq_true hn
  refine ⟨valid_mk (bad0_of rfl dr sr ⟨Int.le_refl _, show (0 : Int) ≤ 15 by decide⟩) ?_, ?_⟩
  · have e : sizedF ⟨8, d, s, 0, 0, 0⟩ = true := by rw [sizedF, if_neg (by dsimp only; decide), if_neg (by dsimp only; decide), if_neg (by dsimp only; decide)]; rfl
    rw [e, none_any _ 1 _ (by dsimp only; decide), none_any _ 2 _ (by dsimp only; decide), none_zero _ 4, none_zero _ 8, none_zero _ 16]
    rfl
  · show byteOf (rexN true s d) :: 17 :: byteOf (twoN s d) :: [] = byteOf (64 + 8 * 1 + 4 * (s / 8) + (d + 0) / 8) :: byteOf (17 + 0 + 0) :: byteOf (64 * 3 + 8 * (s % 8) + (d + 0) % 8) :: []
    exact list2 (congrArg byteOf (by simp only [rexN, if_true, if_false, Bool.false_eq_true]; omega)) (list2 (rfl) (list2 (congrArg byteOf (by simp only [memN, twoN]; omega)) (rfl)))
theorem form13 {d s c z n k : Int} (h : fitsF ⟨9, 0, 0, true, 1, [25], 3, 0, 2, 1, 0, 0⟩ ⟨k, d, s, c, z, n⟩ = true) : validF ⟨k, d, s, c, z, n⟩ = true ∧ encF ⟨k, d, s, c, z, n⟩ = bytesF ⟨9, 0, 0, true, 1, [25], 3, 0, 2, 1, 0, 0⟩ ⟨k, d, s, c, z, n⟩ := by
  simp only [fitsF, Bool.and_eq_true, decide_eq_true_eq] at h
  obtain ⟨⟨⟨⟨⟨hk, hz⟩, hd⟩, hs⟩, hc⟩, hn⟩ := h
  subst hk; subst hz
  have dr := field_range hd
  have sr := field_range hs
  obtain rfl := fld0 hc
  obtain rfl : n = 0 := of_decide_eq_true hn
  refine ⟨valid_mk (bad0_of rfl dr sr ⟨Int.le_refl _, show (0 : Int) ≤ 15 by decide⟩) ?_, ?_⟩
  · have e : sizedF ⟨9, d, s, 0, 0, 0⟩ = true := by rw [sizedF, if_neg (by dsimp only; decide), if_neg (by dsimp only; decide), if_neg (by dsimp only; decide)]; rfl
    rw [e, none_any _ 1 _ (by dsimp only; decide), none_any _ 2 _ (by dsimp only; decide), none_zero _ 4, none_zero _ 8, none_zero _ 16]
    rfl
  · show byteOf (rexN true s d) :: 25 :: byteOf (twoN s d) :: [] = byteOf (64 + 8 * 1 + 4 * (s / 8) + (d + 0) / 8) :: byteOf (25 + 0 + 0) :: byteOf (64 * 3 + 8 * (s % 8) + (d + 0) % 8) :: []
    exact list2 (congrArg byteOf (by simp only [rexN, if_true, if_false, Bool.false_eq_true]; omega)) (list2 (rfl) (list2 (congrArg byteOf (by simp only [memN, twoN]; omega)) (rfl)))
theorem form14 {d s c z n k : Int} (h : fitsF ⟨10, 0, 0, true, 1, [33], 3, 0, 2, 1, 0, 0⟩ ⟨k, d, s, c, z, n⟩ = true) : validF ⟨k, d, s, c, z, n⟩ = true ∧ encF ⟨k, d, s, c, z, n⟩ = bytesF ⟨10, 0, 0, true, 1, [33], 3, 0, 2, 1, 0, 0⟩ ⟨k, d, s, c, z, n⟩ := by
  simp only [fitsF, Bool.and_eq_true, decide_eq_true_eq] at h
  obtain ⟨⟨⟨⟨⟨hk, hz⟩, hd⟩, hs⟩, hc⟩, hn⟩ := h
  subst hk; subst hz
  have dr := field_range hd
  have sr := field_range hs
  obtain rfl := fld0 hc
  obtain rfl : n = 0 := of_decide_eq_true hn
  refine ⟨valid_mk (bad0_of rfl dr sr ⟨Int.le_refl _, show (0 : Int) ≤ 15 by decide⟩) ?_, ?_⟩
  · have e : sizedF ⟨10, d, s, 0, 0, 0⟩ = true := by rw [sizedF, if_neg (by dsimp only; decide), if_neg (by dsimp only; decide), if_neg (by dsimp only; decide)]; rfl
    rw [e, none_any _ 1 _ (by dsimp only; decide), none_any _ 2 _ (by dsimp only; decide), none_zero _ 4, none_zero _ 8, none_zero _ 16]
    rfl
  · show byteOf (rexN true s d) :: 33 :: byteOf (twoN s d) :: [] = byteOf (64 + 8 * 1 + 4 * (s / 8) + (d + 0) / 8) :: byteOf (33 + 0 + 0) :: byteOf (64 * 3 + 8 * (s % 8) + (d + 0) % 8) :: []
    exact list2 (congrArg byteOf (by simp only [rexN, if_true, if_false, Bool.false_eq_true]; omega)) (list2 (rfl) (list2 (congrArg byteOf (by simp only [memN, twoN]; omega)) (rfl)))
theorem form15 {d s c z n k : Int} (h : fitsF ⟨11, 0, 0, true, 1, [41], 3, 0, 2, 1, 0, 0⟩ ⟨k, d, s, c, z, n⟩ = true) : validF ⟨k, d, s, c, z, n⟩ = true ∧ encF ⟨k, d, s, c, z, n⟩ = bytesF ⟨11, 0, 0, true, 1, [41], 3, 0, 2, 1, 0, 0⟩ ⟨k, d, s, c, z, n⟩ := by
  simp only [fitsF, Bool.and_eq_true, decide_eq_true_eq] at h
  obtain ⟨⟨⟨⟨⟨hk, hz⟩, hd⟩, hs⟩, hc⟩, hn⟩ := h
  subst hk; subst hz
  have dr := field_range hd
  have sr := field_range hs
  obtain rfl := fld0 hc
  obtain rfl : n = 0 := of_decide_eq_true hn
  refine ⟨valid_mk (bad0_of rfl dr sr ⟨Int.le_refl _, show (0 : Int) ≤ 15 by decide⟩) ?_, ?_⟩
  · have e : sizedF ⟨11, d, s, 0, 0, 0⟩ = true := by rw [sizedF, if_neg (by dsimp only; decide), if_neg (by dsimp only; decide), if_neg (by dsimp only; decide)]; rfl
    rw [e, none_any _ 1 _ (by dsimp only; decide), none_any _ 2 _ (by dsimp only; decide), none_zero _ 4, none_zero _ 8, none_zero _ 16]
    rfl
  · show byteOf (rexN true s d) :: 41 :: byteOf (twoN s d) :: [] = byteOf (64 + 8 * 1 + 4 * (s / 8) + (d + 0) / 8) :: byteOf (41 + 0 + 0) :: byteOf (64 * 3 + 8 * (s % 8) + (d + 0) % 8) :: []
    exact list2 (congrArg byteOf (by simp only [rexN, if_true, if_false, Bool.false_eq_true]; omega)) (list2 (rfl) (list2 (congrArg byteOf (by simp only [memN, twoN]; omega)) (rfl)))
theorem form16 {d s c z n k : Int} (h : fitsF ⟨12, 0, 0, true, 1, [49], 3, 0, 2, 1, 0, 0⟩ ⟨k, d, s, c, z, n⟩ = true) : validF ⟨k, d, s, c, z, n⟩ = true ∧ encF ⟨k, d, s, c, z, n⟩ = bytesF ⟨12, 0, 0, true, 1, [49], 3, 0, 2, 1, 0, 0⟩ ⟨k, d, s, c, z, n⟩ := by
  simp only [fitsF, Bool.and_eq_true, decide_eq_true_eq] at h
  obtain ⟨⟨⟨⟨⟨hk, hz⟩, hd⟩, hs⟩, hc⟩, hn⟩ := h
  subst hk; subst hz
  have dr := field_range hd
  have sr := field_range hs
  obtain rfl := fld0 hc
  obtain rfl : n = 0 := of_decide_eq_true hn
  refine ⟨valid_mk (bad0_of rfl dr sr ⟨Int.le_refl _, show (0 : Int) ≤ 15 by decide⟩) ?_, ?_⟩
  · have e : sizedF ⟨12, d, s, 0, 0, 0⟩ = true := by rw [sizedF, if_neg (by dsimp only; decide), if_neg (by dsimp only; decide), if_neg (by dsimp only; decide)]; rfl
    rw [e, none_any _ 1 _ (by dsimp only; decide), none_any _ 2 _ (by dsimp only; decide), none_zero _ 4, none_zero _ 8, none_zero _ 16]
    rfl
  · show byteOf (rexN true s d) :: 49 :: byteOf (twoN s d) :: [] = byteOf (64 + 8 * 1 + 4 * (s / 8) + (d + 0) / 8) :: byteOf (49 + 0 + 0) :: byteOf (64 * 3 + 8 * (s % 8) + (d + 0) % 8) :: []
    exact list2 (congrArg byteOf (by simp only [rexN, if_true, if_false, Bool.false_eq_true]; omega)) (list2 (rfl) (list2 (congrArg byteOf (by simp only [memN, twoN]; omega)) (rfl)))
theorem form17 {d s c z n k : Int} (h : fitsF ⟨13, 0, 0, true, 1, [57], 3, 0, 2, 1, 0, 0⟩ ⟨k, d, s, c, z, n⟩ = true) : validF ⟨k, d, s, c, z, n⟩ = true ∧ encF ⟨k, d, s, c, z, n⟩ = bytesF ⟨13, 0, 0, true, 1, [57], 3, 0, 2, 1, 0, 0⟩ ⟨k, d, s, c, z, n⟩ := by
  simp only [fitsF, Bool.and_eq_true, decide_eq_true_eq] at h
  obtain ⟨⟨⟨⟨⟨hk, hz⟩, hd⟩, hs⟩, hc⟩, hn⟩ := h
  subst hk; subst hz
  have dr := field_range hd
  have sr := field_range hs
  obtain rfl := fld0 hc
  obtain rfl : n = 0 := of_decide_eq_true hn
  refine ⟨valid_mk (bad0_of rfl dr sr ⟨Int.le_refl _, show (0 : Int) ≤ 15 by decide⟩) ?_, ?_⟩
  · have e : sizedF ⟨13, d, s, 0, 0, 0⟩ = true := by rw [sizedF, if_neg (by dsimp only; decide), if_neg (by dsimp only; decide), if_neg (by dsimp only; decide)]; rfl
    rw [e, none_any _ 1 _ (by dsimp only; decide), none_any _ 2 _ (by dsimp only; decide), none_zero _ 4, none_zero _ 8, none_zero _ 16]
    rfl
  · show byteOf (rexN true s d) :: 57 :: byteOf (twoN s d) :: [] = byteOf (64 + 8 * 1 + 4 * (s / 8) + (d + 0) / 8) :: byteOf (57 + 0 + 0) :: byteOf (64 * 3 + 8 * (s % 8) + (d + 0) % 8) :: []
    exact list2 (congrArg byteOf (by simp only [rexN, if_true, if_false, Bool.false_eq_true]; omega)) (list2 (rfl) (list2 (congrArg byteOf (by simp only [memN, twoN]; omega)) (rfl)))
theorem form18 {d s c z n k : Int} (h : fitsF ⟨14, 0, 0, true, 1, [133], 3, 0, 2, 1, 0, 0⟩ ⟨k, d, s, c, z, n⟩ = true) : validF ⟨k, d, s, c, z, n⟩ = true ∧ encF ⟨k, d, s, c, z, n⟩ = bytesF ⟨14, 0, 0, true, 1, [133], 3, 0, 2, 1, 0, 0⟩ ⟨k, d, s, c, z, n⟩ := by
  simp only [fitsF, Bool.and_eq_true, decide_eq_true_eq] at h
  obtain ⟨⟨⟨⟨⟨hk, hz⟩, hd⟩, hs⟩, hc⟩, hn⟩ := h
  subst hk; subst hz
  have dr := field_range hd
  have sr := field_range hs
  obtain rfl := fld0 hc
  obtain rfl : n = 0 := of_decide_eq_true hn
  refine ⟨valid_mk (bad0_of rfl dr sr ⟨Int.le_refl _, show (0 : Int) ≤ 15 by decide⟩) ?_, ?_⟩
  · have e : sizedF ⟨14, d, s, 0, 0, 0⟩ = true := by rw [sizedF, if_neg (by dsimp only; decide), if_neg (by dsimp only; decide), if_neg (by dsimp only; decide)]; rfl
    rw [e, none_any _ 1 _ (by dsimp only; decide), none_any _ 2 _ (by dsimp only; decide), none_zero _ 4, none_zero _ 8, none_zero _ 16]
    rfl
  · show byteOf (rexN true s d) :: 133 :: byteOf (twoN s d) :: [] = byteOf (64 + 8 * 1 + 4 * (s / 8) + (d + 0) / 8) :: byteOf (133 + 0 + 0) :: byteOf (64 * 3 + 8 * (s % 8) + (d + 0) % 8) :: []
    exact list2 (congrArg byteOf (by simp only [rexN, if_true, if_false, Bool.false_eq_true]; omega)) (list2 (rfl) (list2 (congrArg byteOf (by simp only [memN, twoN]; omega)) (rfl)))
theorem form19 {d s c z n k : Int} (h : fitsF ⟨15, 0, 0, true, 1, [129], 3, 0, 2, 0, 0, 6⟩ ⟨k, d, s, c, z, n⟩ = true) : validF ⟨k, d, s, c, z, n⟩ = true ∧ encF ⟨k, d, s, c, z, n⟩ = bytesF ⟨15, 0, 0, true, 1, [129], 3, 0, 2, 0, 0, 6⟩ ⟨k, d, s, c, z, n⟩ := by
  simp only [fitsF, Bool.and_eq_true, decide_eq_true_eq] at h
  obtain ⟨⟨⟨⟨⟨hk, hz⟩, hd⟩, hs⟩, hc⟩, hn⟩ := h
  subst hk; subst hz
  have dr := field_range hd
  obtain rfl := fld0 hs
  obtain rfl := fld0 hc
  have hn : smallF n = true := hn
  refine ⟨valid_mk (bad0_of rfl dr ⟨Int.le_refl _, show (0 : Int) ≤ 15 by decide⟩ ⟨Int.le_refl _, show (0 : Int) ≤ 15 by decide⟩) ?_, ?_⟩
  · have e : sizedF ⟨15, d, 0, 0, 0, n⟩ = true := by rw [sizedF, if_neg (by dsimp only; decide), if_neg (by dsimp only; decide), if_neg (by dsimp only; decide), hn, Bool.or_true]
    rw [e, none_any _ 1 _ (by dsimp only; decide), none_zero _ 2, none_any _ 4 _ (by dsimp only; decide), none_zero _ 8, none_zero _ 16]
    rfl
  · show byteOf (rexN true 0 d) :: 129 :: byteOf (twoN 0 d) :: immF n 4 = byteOf (64 + 8 * 1 + 4 * (0 / 8) + (d + 0) / 8) :: byteOf (129 + 0 + 0) :: byteOf (64 * 3 + 8 * (0) + (d + 0) % 8) :: leBytes 4 (n % 18446744073709551616)
    exact list2 (congrArg byteOf (by simp only [rexN, if_true, if_false, Bool.false_eq_true]; omega)) (list2 (rfl) (list2 (congrArg byteOf (by simp only [memN, twoN]; omega)) (imm_mod (by decide) n)))
theorem form20 {d s c z n k : Int} (h : fitsF ⟨16, 0, 0, true, 1, [129], 3, 1, 2, 0, 0, 6⟩ ⟨k, d, s, c, z, n⟩ = true) : validF ⟨k, d, s, c, z, n⟩ = true ∧ encF ⟨k, d, s, c, z, n⟩ = bytesF ⟨16, 0, 0, true, 1, [129], 3, 1, 2, 0, 0, 6⟩ ⟨k, d, s, c, z, n⟩ := by
  simp only [fitsF, Bool.and_eq_true, decide_eq_true_eq] at h
  obtain ⟨⟨⟨⟨⟨hk, hz⟩, hd⟩, hs⟩, hc⟩, hn⟩ := h
  subst hk; subst hz
  have dr := field_range hd
  obtain rfl := fld0 hs
  obtain rfl := fld0 hc
  have hn : smallF n = true := hn
  refine ⟨valid_mk (bad0_of rfl dr ⟨Int.le_refl _, show (0 : Int) ≤ 15 by decide⟩ ⟨Int.le_refl _, show (0 : Int) ≤ 15 by decide⟩) ?_, ?_⟩
  · have e : sizedF ⟨16, d, 0, 0, 0, n⟩ = true := by rw [sizedF, if_neg (by dsimp only; decide), if_neg (by dsimp only; decide), if_neg (by dsimp only; decide), hn, Bool.or_true]
    rw [e, none_any _ 1 _ (by dsimp only; decide), none_zero _ 2, none_any _ 4 _ (by dsimp only; decide), none_zero _ 8, none_zero _ 16]
    rfl
  · show byteOf (rexN true 0 d) :: 129 :: byteOf (twoN 1 d) :: immF n 4 = byteOf (64 + 8 * 1 + 4 * (0 / 8) + (d + 0) / 8) :: byteOf (129 + 0 + 0) :: byteOf (64 * 3 + 8 * (1) + (d + 0) % 8) :: leBytes 4 (n % 18446744073709551616)
    exact list2 (congrArg byteOf (by simp only [rexN, if_true, if_false, Bool.false_eq_true]; omega)) (list2 (rfl) (list2 (congrArg byteOf (by simp only [memN, twoN]; omega)) (imm_mod (by decide) n)))
theorem form21 {d s c z n k : Int} (h : fitsF ⟨17, 0, 0, true, 1, [129], 3, 4, 2, 0, 0, 6⟩ ⟨k, d, s, c, z, n⟩ = true) : validF ⟨k, d, s, c, z, n⟩ = true ∧ encF ⟨k, d, s, c, z, n⟩ = bytesF ⟨17, 0, 0, true, 1, [129], 3, 4, 2, 0, 0, 6⟩ ⟨k, d, s, c, z, n⟩ := by
  simp only [fitsF, Bool.and_eq_true, decide_eq_true_eq] at h
  obtain ⟨⟨⟨⟨⟨hk, hz⟩, hd⟩, hs⟩, hc⟩, hn⟩ := h
  subst hk; subst hz
  have dr := field_range hd
  obtain rfl := fld0 hs
  obtain rfl := fld0 hc
  have hn : smallF n = true := hn
  refine ⟨valid_mk (bad0_of rfl dr ⟨Int.le_refl _, show (0 : Int) ≤ 15 by decide⟩ ⟨Int.le_refl _, show (0 : Int) ≤ 15 by decide⟩) ?_, ?_⟩
  · have e : sizedF ⟨17, d, 0, 0, 0, n⟩ = true := by rw [sizedF, if_neg (by dsimp only; decide), if_neg (by dsimp only; decide), if_neg (by dsimp only; decide), hn, Bool.or_true]
    rw [e, none_any _ 1 _ (by dsimp only; decide), none_zero _ 2, none_any _ 4 _ (by dsimp only; decide), none_zero _ 8, none_zero _ 16]
    rfl
  · show byteOf (rexN true 0 d) :: 129 :: byteOf (twoN 4 d) :: immF n 4 = byteOf (64 + 8 * 1 + 4 * (0 / 8) + (d + 0) / 8) :: byteOf (129 + 0 + 0) :: byteOf (64 * 3 + 8 * (4) + (d + 0) % 8) :: leBytes 4 (n % 18446744073709551616)
    exact list2 (congrArg byteOf (by simp only [rexN, if_true, if_false, Bool.false_eq_true]; omega)) (list2 (rfl) (list2 (congrArg byteOf (by simp only [memN, twoN]; omega)) (imm_mod (by decide) n)))
theorem form22 {d s c z n k : Int} (h : fitsF ⟨18, 0, 0, true, 1, [129], 3, 5, 2, 0, 0, 6⟩ ⟨k, d, s, c, z, n⟩ = true) : validF ⟨k, d, s, c, z, n⟩ = true ∧ encF ⟨k, d, s, c, z, n⟩ = bytesF ⟨18, 0, 0, true, 1, [129], 3, 5, 2, 0, 0, 6⟩ ⟨k, d, s, c, z, n⟩ := by
  simp only [fitsF, Bool.and_eq_true, decide_eq_true_eq] at h
  obtain ⟨⟨⟨⟨⟨hk, hz⟩, hd⟩, hs⟩, hc⟩, hn⟩ := h
  subst hk; subst hz
  have dr := field_range hd
  obtain rfl := fld0 hs
  obtain rfl := fld0 hc
  have hn : smallF n = true := hn
  refine ⟨valid_mk (bad0_of rfl dr ⟨Int.le_refl _, show (0 : Int) ≤ 15 by decide⟩ ⟨Int.le_refl _, show (0 : Int) ≤ 15 by decide⟩) ?_, ?_⟩
  · have e : sizedF ⟨18, d, 0, 0, 0, n⟩ = true := by rw [sizedF, if_neg (by dsimp only; decide), if_neg (by dsimp only; decide), if_neg (by dsimp only; decide), hn, Bool.or_true]
    rw [e, none_any _ 1 _ (by dsimp only; decide), none_zero _ 2, none_any _ 4 _ (by dsimp only; decide), none_zero _ 8, none_zero _ 16]
    rfl
  · show byteOf (rexN true 0 d) :: 129 :: byteOf (twoN 5 d) :: immF n 4 = byteOf (64 + 8 * 1 + 4 * (0 / 8) + (d + 0) / 8) :: byteOf (129 + 0 + 0) :: byteOf (64 * 3 + 8 * (5) + (d + 0) % 8) :: leBytes 4 (n % 18446744073709551616)
    exact list2 (congrArg byteOf (by simp only [rexN, if_true, if_false, Bool.false_eq_true]; omega)) (list2 (rfl) (list2 (congrArg byteOf (by simp only [memN, twoN]; omega)) (imm_mod (by decide) n)))
theorem form23 {d s c z n k : Int} (h : fitsF ⟨19, 0, 0, true, 1, [129], 3, 6, 2, 0, 0, 6⟩ ⟨k, d, s, c, z, n⟩ = true) : validF ⟨k, d, s, c, z, n⟩ = true ∧ encF ⟨k, d, s, c, z, n⟩ = bytesF ⟨19, 0, 0, true, 1, [129], 3, 6, 2, 0, 0, 6⟩ ⟨k, d, s, c, z, n⟩ := by
  simp only [fitsF, Bool.and_eq_true, decide_eq_true_eq] at h
  obtain ⟨⟨⟨⟨⟨hk, hz⟩, hd⟩, hs⟩, hc⟩, hn⟩ := h
  subst hk; subst hz
  have dr := field_range hd
  obtain rfl := fld0 hs
  obtain rfl := fld0 hc
  have hn : smallF n = true := hn
  refine ⟨valid_mk (bad0_of rfl dr ⟨Int.le_refl _, show (0 : Int) ≤ 15 by decide⟩ ⟨Int.le_refl _, show (0 : Int) ≤ 15 by decide⟩) ?_, ?_⟩
  · have e : sizedF ⟨19, d, 0, 0, 0, n⟩ = true := by rw [sizedF, if_neg (by dsimp only; decide), if_neg (by dsimp only; decide), if_neg (by dsimp only; decide), hn, Bool.or_true]
    rw [e, none_any _ 1 _ (by dsimp only; decide), none_zero _ 2, none_any _ 4 _ (by dsimp only; decide), none_zero _ 8, none_zero _ 16]
    rfl
  · show byteOf (rexN true 0 d) :: 129 :: byteOf (twoN 6 d) :: immF n 4 = byteOf (64 + 8 * 1 + 4 * (0 / 8) + (d + 0) / 8) :: byteOf (129 + 0 + 0) :: byteOf (64 * 3 + 8 * (6) + (d + 0) % 8) :: leBytes 4 (n % 18446744073709551616)
    exact list2 (congrArg byteOf (by simp only [rexN, if_true, if_false, Bool.false_eq_true]; omega)) (list2 (rfl) (list2 (congrArg byteOf (by simp only [memN, twoN]; omega)) (imm_mod (by decide) n)))
theorem form24 {d s c z n k : Int} (h : fitsF ⟨20, 0, 0, true, 1, [129], 3, 7, 2, 0, 0, 6⟩ ⟨k, d, s, c, z, n⟩ = true) : validF ⟨k, d, s, c, z, n⟩ = true ∧ encF ⟨k, d, s, c, z, n⟩ = bytesF ⟨20, 0, 0, true, 1, [129], 3, 7, 2, 0, 0, 6⟩ ⟨k, d, s, c, z, n⟩ := by
  simp only [fitsF, Bool.and_eq_true, decide_eq_true_eq] at h
  obtain ⟨⟨⟨⟨⟨hk, hz⟩, hd⟩, hs⟩, hc⟩, hn⟩ := h
  subst hk; subst hz
  have dr := field_range hd
  obtain rfl := fld0 hs
  obtain rfl := fld0 hc
  have hn : smallF n = true := hn
  refine ⟨valid_mk (bad0_of rfl dr ⟨Int.le_refl _, show (0 : Int) ≤ 15 by decide⟩ ⟨Int.le_refl _, show (0 : Int) ≤ 15 by decide⟩) ?_, ?_⟩
  · have e : sizedF ⟨20, d, 0, 0, 0, n⟩ = true := by rw [sizedF, if_neg (by dsimp only; decide), if_neg (by dsimp only; decide), if_neg (by dsimp only; decide), hn, Bool.or_true]
    rw [e, none_any _ 1 _ (by dsimp only; decide), none_zero _ 2, none_any _ 4 _ (by dsimp only; decide), none_zero _ 8, none_zero _ 16]
    rfl
  · show byteOf (rexN true 0 d) :: 129 :: byteOf (twoN 7 d) :: immF n 4 = byteOf (64 + 8 * 1 + 4 * (0 / 8) + (d + 0) / 8) :: byteOf (129 + 0 + 0) :: byteOf (64 * 3 + 8 * (7) + (d + 0) % 8) :: leBytes 4 (n % 18446744073709551616)
    exact list2 (congrArg byteOf (by simp only [rexN, if_true, if_false, Bool.false_eq_true]; omega)) (list2 (rfl) (list2 (congrArg byteOf (by simp only [memN, twoN]; omega)) (imm_mod (by decide) n)))
theorem form25 {d s c z n k : Int} (h : fitsF ⟨21, 0, 0, true, 1, [15, 175], 3, 0, 1, 2, 0, 0⟩ ⟨k, d, s, c, z, n⟩ = true) : validF ⟨k, d, s, c, z, n⟩ = true ∧ encF ⟨k, d, s, c, z, n⟩ = bytesF ⟨21, 0, 0, true, 1, [15, 175], 3, 0, 1, 2, 0, 0⟩ ⟨k, d, s, c, z, n⟩ := by
  simp only [fitsF, Bool.and_eq_true, decide_eq_true_eq] at h
  obtain ⟨⟨⟨⟨⟨hk, hz⟩, hd⟩, hs⟩, hc⟩, hn⟩ := h
  subst hk; subst hz
  have dr := field_range hd
  have sr := field_range hs
  obtain rfl := fld0 hc
  obtain rfl : n = 0 := of_decide_eq_true hn
  refine ⟨valid_mk (bad0_of rfl dr sr ⟨Int.le_refl _, show (0 : Int) ≤ 15 by decide⟩) ?_, ?_⟩
  · have e : sizedF ⟨21, d, s, 0, 0, 0⟩ = true := by rw [sizedF, if_neg (by dsimp only; decide), if_neg (by dsimp only; decide), if_neg (by dsimp only; decide)]; rfl
    rw [e, none_any _ 1 _ (by dsimp only; decide), none_any _ 2 _ (by dsimp only; decide), none_zero _ 4, none_zero _ 8, none_zero _ 16]
    rfl
  · show byteOf (rexN true d s) :: 15 :: 175 :: byteOf (twoN d s) :: [] = byteOf (64 + 8 * 1 + 4 * (d / 8) + (s + 0) / 8) :: byteOf (15 + 0 + 0) :: byteOf (175 + 0 + 0) :: byteOf (64 * 3 + 8 * (d % 8) + (s + 0) % 8) :: []
    exact list2 (congrArg byteOf (by simp only [rexN, if_true, if_false, Bool.false_eq_true]; omega)) (list2 (rfl) (list2 (rfl) (list2 (congrArg byteOf (by simp only [memN, twoN]; omega)) (rfl))))
theorem form26 {d s c z n k : Int} (h : fitsF ⟨22, 0, 0, true, 1, [247], 3, 4, 2, 0, 0, 0⟩ ⟨k, d, s, c, z, n⟩ = true) : validF ⟨k, d, s, c, z, n⟩ = true ∧ encF ⟨k, d, s, c, z, n⟩ = bytesF ⟨22, 0, 0, true, 1, [247], 3, 4, 2, 0, 0, 0⟩ ⟨k, d, s, c, z, n⟩ := by
  simp only [fitsF, Bool.and_eq_true, decide_eq_true_eq] at h
  obtain ⟨⟨⟨⟨⟨hk, hz⟩, hd⟩, hs⟩, hc⟩, hn⟩ := h
  subst hk; subst hz
  have dr := field_range hd
  obtain rfl := fld0 hs
  obtain rfl := fld0 hc
  obtain rfl : n = 0 := of_decide_eq_true hn
  refine ⟨valid_mk (bad0_of rfl dr ⟨Int.le_refl _, show (0 : Int) ≤ 15 by decide⟩ ⟨Int.le_refl _, show (0 : Int) ≤ 15 by decide⟩) ?_, ?_⟩
  · have e : sizedF ⟨22, d, 0, 0, 0, 0⟩ = true := by rw [sizedF, if_neg (by dsimp only; decide), if_neg (by dsimp only; decide), if_neg (by dsimp only; decide)]; rfl
    rw [e, none_any _ 1 _ (by dsimp only; decide), none_zero _ 2, none_zero _ 4, none_zero _ 8, none_zero _ 16]
    rfl
  · show byteOf (rexN true 0 d) :: 247 :: byteOf (twoN 4 d) :: [] = byteOf (64 + 8 * 1 + 4 * (0 / 8) + (d + 0) / 8) :: byteOf (247 + 0 + 0) :: byteOf (64 * 3 + 8 * (4) + (d + 0) % 8) :: []
    exact list2 (congrArg byteOf (by simp only [rexN, if_true, if_false, Bool.false_eq_true]; omega)) (list2 (rfl) (list2 (congrArg byteOf (by simp only [memN, twoN]; omega)) (rfl)))
theorem form27 {d s c z n k : Int} (h : fitsF ⟨23, 0, 0, true, 1, [247], 3, 6, 2, 0, 0, 0⟩ ⟨k, d, s, c, z, n⟩ = true) : validF ⟨k, d, s, c, z, n⟩ = true ∧ encF ⟨k, d, s, c, z, n⟩ = bytesF ⟨23, 0, 0, true, 1, [247], 3, 6, 2, 0, 0, 0⟩ ⟨k, d, s, c, z, n⟩ := by
  simp only [fitsF, Bool.and_eq_true, decide_eq_true_eq] at h
  obtain ⟨⟨⟨⟨⟨hk, hz⟩, hd⟩, hs⟩, hc⟩, hn⟩ := h
  subst hk; subst hz
  have dr := field_range hd
  obtain rfl := fld0 hs
  obtain rfl := fld0 hc
  obtain rfl : n = 0 := of_decide_eq_true hn
  refine ⟨valid_mk (bad0_of rfl dr ⟨Int.le_refl _, show (0 : Int) ≤ 15 by decide⟩ ⟨Int.le_refl _, show (0 : Int) ≤ 15 by decide⟩) ?_, ?_⟩
  · have e : sizedF ⟨23, d, 0, 0, 0, 0⟩ = true := by rw [sizedF, if_neg (by dsimp only; decide), if_neg (by dsimp only; decide), if_neg (by dsimp only; decide)]; rfl
    rw [e, none_any _ 1 _ (by dsimp only; decide), none_zero _ 2, none_zero _ 4, none_zero _ 8, none_zero _ 16]
    rfl
  · show byteOf (rexN true 0 d) :: 247 :: byteOf (twoN 6 d) :: [] = byteOf (64 + 8 * 1 + 4 * (0 / 8) + (d + 0) / 8) :: byteOf (247 + 0 + 0) :: byteOf (64 * 3 + 8 * (6) + (d + 0) % 8) :: []
    exact list2 (congrArg byteOf (by simp only [rexN, if_true, if_false, Bool.false_eq_true]; omega)) (list2 (rfl) (list2 (congrArg byteOf (by simp only [memN, twoN]; omega)) (rfl)))
theorem form28 {d s c z n k : Int} (h : fitsF ⟨24, 0, 0, true, 1, [247], 3, 3, 2, 0, 0, 0⟩ ⟨k, d, s, c, z, n⟩ = true) : validF ⟨k, d, s, c, z, n⟩ = true ∧ encF ⟨k, d, s, c, z, n⟩ = bytesF ⟨24, 0, 0, true, 1, [247], 3, 3, 2, 0, 0, 0⟩ ⟨k, d, s, c, z, n⟩ := by
  simp only [fitsF, Bool.and_eq_true, decide_eq_true_eq] at h
  obtain ⟨⟨⟨⟨⟨hk, hz⟩, hd⟩, hs⟩, hc⟩, hn⟩ := h
  subst hk; subst hz
  have dr := field_range hd
  obtain rfl := fld0 hs
  obtain rfl := fld0 hc
  obtain rfl : n = 0 := of_decide_eq_true hn
  refine ⟨valid_mk (bad0_of rfl dr ⟨Int.le_refl _, show (0 : Int) ≤ 15 by decide⟩ ⟨Int.le_refl _, show (0 : Int) ≤ 15 by decide⟩) ?_, ?_⟩
  · have e : sizedF ⟨24, d, 0, 0, 0, 0⟩ = true := by rw [sizedF, if_neg (by dsimp only; decide), if_neg (by dsimp only; decide), if_neg (by dsimp only; decide)]; rfl
    rw [e, none_any _ 1 _ (by dsimp only; decide), none_zero _ 2, none_zero _ 4, none_zero _ 8, none_zero _ 16]
    rfl
  · show byteOf (rexN true 0 d) :: 247 :: byteOf (twoN 3 d) :: [] = byteOf (64 + 8 * 1 + 4 * (0 / 8) + (d + 0) / 8) :: byteOf (247 + 0 + 0) :: byteOf (64 * 3 + 8 * (3) + (d + 0) % 8) :: []
    exact list2 (congrArg byteOf (by simp only [rexN, if_true, if_false, Bool.false_eq_true]; omega)) (list2 (rfl) (list2 (congrArg byteOf (by simp only [memN, twoN]; omega)) (rfl)))
theorem form29 {d s c z n k : Int} (h : fitsF ⟨25, 0, 0, true, 1, [247], 3, 2, 2, 0, 0, 0⟩ ⟨k, d, s, c, z, n⟩ = true) : validF ⟨k, d, s, c, z, n⟩ = true ∧ encF ⟨k, d, s, c, z, n⟩ = bytesF ⟨25, 0, 0, true, 1, [247], 3, 2, 2, 0, 0, 0⟩ ⟨k, d, s, c, z, n⟩ := by
  simp only [fitsF, Bool.and_eq_true, decide_eq_true_eq] at h
  obtain ⟨⟨⟨⟨⟨hk, hz⟩, hd⟩, hs⟩, hc⟩, hn⟩ := h
  subst hk; subst hz
  have dr := field_range hd
  obtain rfl := fld0 hs
  obtain rfl := fld0 hc
  obtain rfl : n = 0 := of_decide_eq_true hn
  refine ⟨valid_mk (bad0_of rfl dr ⟨Int.le_refl _, show (0 : Int) ≤ 15 by decide⟩ ⟨Int.le_refl _, show (0 : Int) ≤ 15 by decide⟩) ?_, ?_⟩
  · have e : sizedF ⟨25, d, 0, 0, 0, 0⟩ = true := by rw [sizedF, if_neg (by dsimp only; decide), if_neg (by dsimp only; decide), if_neg (by dsimp only; decide)]; rfl
    rw [e, none_any _ 1 _ (by dsimp only; decide), none_zero _ 2, none_zero _ 4, none_zero _ 8, none_zero _ 16]
    rfl
  · show byteOf (rexN true 0 d) :: 247 :: byteOf (twoN 2 d) :: [] = byteOf (64 + 8 * 1 + 4 * (0 / 8) + (d + 0) / 8) :: byteOf (247 + 0 + 0) :: byteOf (64 * 3 + 8 * (2) + (d + 0) % 8) :: []
    exact list2 (congrArg byteOf (by simp only [rexN, if_true, if_false, Bool.false_eq_true]; omega)) (list2 (rfl) (list2 (congrArg byteOf (by simp only [memN, twoN]; omega)) (rfl)))
theorem form30 {d s c z n k : Int} (h : fitsF ⟨26, 0, 0, true, 1, [211], 3, 4, 2, 0, 0, 0⟩ ⟨k, d, s, c, z, n⟩ = true) : validF ⟨k, d, s, c, z, n⟩ = true ∧ encF ⟨k, d, s, c, z, n⟩ = bytesF ⟨26, 0, 0, true, 1, [211], 3, 4, 2, 0, 0, 0⟩ ⟨k, d, s, c, z, n⟩ := by
  simp only [fitsF, Bool.and_eq_true, decide_eq_true_eq] at h
  obtain ⟨⟨⟨⟨⟨hk, hz⟩, hd⟩, hs⟩, hc⟩, hn⟩ := h
  subst hk; subst hz
  have dr := field_range hd
  obtain rfl := fld0 hs
  obtain rfl := fld0 hc
  obtain rfl : n = 0 := of_decide_eq_true hn
  refine ⟨valid_mk (bad0_of rfl dr ⟨Int.le_refl _, show (0 : Int) ≤ 15 by decide⟩ ⟨Int.le_refl _, show (0 : Int) ≤ 15 by decide⟩) ?_, ?_⟩
  · have e : sizedF ⟨26, d, 0, 0, 0, 0⟩ = true := by rw [sizedF, if_neg (by dsimp only; decide), if_neg (by dsimp only; decide), if_neg (by dsimp only; decide)]; rfl
    rw [e, none_any _ 1 _ (by dsimp only; decide), none_zero _ 2, none_zero _ 4, none_zero _ 8, none_zero _ 16]
    rfl
  · show byteOf (rexN true 0 d) :: 211 :: byteOf (twoN 4 d) :: [] = byteOf (64 + 8 * 1 + 4 * (0 / 8) + (d + 0) / 8) :: byteOf (211 + 0 + 0) :: byteOf (64 * 3 + 8 * (4) + (d + 0) % 8) :: []
    exact list2 (congrArg byteOf (by simp only [rexN, if_true, if_false, Bool.false_eq_true]; omega)) (list2 (rfl) (list2 (congrArg byteOf (by simp only [memN, twoN]; omega)) (rfl)))
theorem form31 {d s c z n k : Int} (h : fitsF ⟨27, 0, 0, true, 1, [211], 3, 5, 2, 0, 0, 0⟩ ⟨k, d, s, c, z, n⟩ = true) : validF ⟨k, d, s, c, z, n⟩ = true ∧ encF ⟨k, d, s, c, z, n⟩ = bytesF ⟨27, 0, 0, true, 1, [211], 3, 5, 2, 0, 0, 0⟩ ⟨k, d, s, c, z, n⟩ := by
  simp only [fitsF, Bool.and_eq_true, decide_eq_true_eq] at h
  obtain ⟨⟨⟨⟨⟨hk, hz⟩, hd⟩, hs⟩, hc⟩, hn⟩ := h
  subst hk; subst hz
  have dr := field_range hd
  obtain rfl := fld0 hs
  obtain rfl := fld0 hc
  obtain rfl : n = 0 := of_decide_eq_true hn
  refine ⟨valid_mk (bad0_of rfl dr ⟨Int.le_refl _, show (0 : Int) ≤ 15 by decide⟩ ⟨Int.le_refl _, show (0 : Int) ≤ 15 by decide⟩) ?_, ?_⟩
  · have e : sizedF ⟨27, d, 0, 0, 0, 0⟩ = true := by rw [sizedF, if_neg (by dsimp only; decide), if_neg (by dsimp only; decide), if_neg (by dsimp only; decide)]; rfl
    rw [e, none_any _ 1 _ (by dsimp only; decide), none_zero _ 2, none_zero _ 4, none_zero _ 8, none_zero _ 16]
    rfl
  · show byteOf (rexN true 0 d) :: 211 :: byteOf (twoN 5 d) :: [] = byteOf (64 + 8 * 1 + 4 * (0 / 8) + (d + 0) / 8) :: byteOf (211 + 0 + 0) :: byteOf (64 * 3 + 8 * (5) + (d + 0) % 8) :: []
    exact list2 (congrArg byteOf (by simp only [rexN, if_true, if_false, Bool.false_eq_true]; omega)) (list2 (rfl) (list2 (congrArg byteOf (by simp only [memN, twoN]; omega)) (rfl)))
theorem form32 {d s c z n k : Int} (h : fitsF ⟨28, 0, 0, true, 1, [211], 3, 7, 2, 0, 0, 0⟩ ⟨k, d, s, c, z, n⟩ = true) : validF ⟨k, d, s, c, z, n⟩ = true ∧ encF ⟨k, d, s, c, z, n⟩ = bytesF ⟨28, 0, 0, true, 1, [211], 3, 7, 2, 0, 0, 0⟩ ⟨k, d, s, c, z, n⟩ := by
  simp only [fitsF, Bool.and_eq_true, decide_eq_true_eq] at h
  obtain ⟨⟨⟨⟨⟨hk, hz⟩, hd⟩, hs⟩, hc⟩, hn⟩ := h
  subst hk; subst hz
  have dr := field_range hd
  obtain rfl := fld0 hs
  obtain rfl := fld0 hc
  obtain rfl : n = 0 := of_decide_eq_true hn
  refine ⟨valid_mk (bad0_of rfl dr ⟨Int.le_refl _, show (0 : Int) ≤ 15 by decide⟩ ⟨Int.le_refl _, show (0 : Int) ≤ 15 by decide⟩) ?_, ?_⟩
  · have e : sizedF ⟨28, d, 0, 0, 0, 0⟩ = true := by rw [sizedF, if_neg (by dsimp only; decide), if_neg (by dsimp only; decide), if_neg (by dsimp only; decide)]; rfl
    rw [e, none_any _ 1 _ (by dsimp only; decide), none_zero _ 2, none_zero _ 4, none_zero _ 8, none_zero _ 16]
    rfl
  · show byteOf (rexN true 0 d) :: 211 :: byteOf (twoN 7 d) :: [] = byteOf (64 + 8 * 1 + 4 * (0 / 8) + (d + 0) / 8) :: byteOf (211 + 0 + 0) :: byteOf (64 * 3 + 8 * (7) + (d + 0) % 8) :: []
    exact list2 (congrArg byteOf (by simp only [rexN, if_true, if_false, Bool.false_eq_true]; omega)) (list2 (rfl) (list2 (congrArg byteOf (by simp only [memN, twoN]; omega)) (rfl)))
theorem form33 {d s c z n k : Int} (h : fitsF ⟨29, 0, 0, true, 1, [193], 3, 4, 2, 0, 0, 5⟩ ⟨k, d, s, c, z, n⟩ = true) : validF ⟨k, d, s, c, z, n⟩ = true ∧ encF ⟨k, d, s, c, z, n⟩ = bytesF ⟨29, 0, 0, true, 1, [193], 3, 4, 2, 0, 0, 5⟩ ⟨k, d, s, c, z, n⟩ := by
  simp only [fitsF, Bool.and_eq_true, decide_eq_true_eq] at h
  obtain ⟨⟨⟨⟨⟨hk, hz⟩, hd⟩, hs⟩, hc⟩, hn⟩ := h
  subst hk; subst hz
  have dr := field_range hd
  obtain rfl := fld0 hs
  obtain rfl := fld0 hc
  have hn : inF n 0 63 = true := hn
  refine ⟨valid_mk (bad0_of rfl dr ⟨Int.le_refl _, show (0 : Int) ≤ 15 by decide⟩ ⟨Int.le_refl _, show (0 : Int) ≤ 15 by decide⟩) ?_, ?_⟩
  · have e : sizedF ⟨29, d, 0, 0, 0, n⟩ = true := by rw [sizedF, if_neg (by dsimp only; decide), if_neg (by dsimp only; decide), if_pos (by dsimp only; decide), hn]
    rw [e, none_any _ 1 _ (by dsimp only; decide), none_zero _ 2, none_any _ 4 _ (by dsimp only; decide), none_zero _ 8, none_zero _ 16]
    rfl
  · show byteOf (rexN true 0 d) :: 193 :: byteOf (twoN 4 d) :: immF n 1 = byteOf (64 + 8 * 1 + 4 * (0 / 8) + (d + 0) / 8) :: byteOf (193 + 0 + 0) :: byteOf (64 * 3 + 8 * (4) + (d + 0) % 8) :: leBytes 1 (n % 18446744073709551616)
    exact list2 (congrArg byteOf (by simp only [rexN, if_true, if_false, Bool.false_eq_true]; omega)) (list2 (rfl) (list2 (congrArg byteOf (by simp only [memN, twoN]; omega)) (imm_mod (by decide) n)))
theorem form34 {d s c z n k : Int} (h : fitsF ⟨30, 0, 0, true, 1, [193], 3, 5, 2, 0, 0, 5⟩ ⟨k, d, s, c, z, n⟩ = true) : validF ⟨k, d, s, c, z, n⟩ = true ∧ encF ⟨k, d, s, c, z, n⟩ = bytesF ⟨30, 0, 0, true, 1, [193], 3, 5, 2, 0, 0, 5⟩ ⟨k, d, s, c, z, n⟩ := by
  simp only [fitsF, Bool.and_eq_true, decide_eq_true_eq] at h
  obtain ⟨⟨⟨⟨⟨hk, hz⟩, hd⟩, hs⟩, hc⟩, hn⟩ := h
  subst hk; subst hz
  have dr := field_range hd
  obtain rfl := fld0 hs
  obtain rfl := fld0 hc
  have hn : inF n 0 63 = true := hn
  refine ⟨valid_mk (bad0_of rfl dr ⟨Int.le_refl _, show (0 : Int) ≤ 15 by decide⟩ ⟨Int.le_refl _, show (0 : Int) ≤ 15 by decide⟩) ?_, ?_⟩
  · have e : sizedF ⟨30, d, 0, 0, 0, n⟩ = true := by rw [sizedF, if_neg (by dsimp only; decide), if_neg (by dsimp only; decide), if_pos (by dsimp only; decide), hn]
    rw [e, none_any _ 1 _ (by dsimp only; decide), none_zero _ 2, none_any _ 4 _ (by dsimp only; decide), none_zero _ 8, none_zero _ 16]
    rfl
  · show byteOf (rexN true 0 d) :: 193 :: byteOf (twoN 5 d) :: immF n 1 = byteOf (64 + 8 * 1 + 4 * (0 / 8) + (d + 0) / 8) :: byteOf (193 + 0 + 0) :: byteOf (64 * 3 + 8 * (5) + (d + 0) % 8) :: leBytes 1 (n % 18446744073709551616)
    exact list2 (congrArg byteOf (by simp only [rexN, if_true, if_false, Bool.false_eq_true]; omega)) (list2 (rfl) (list2 (congrArg byteOf (by simp only [memN, twoN]; omega)) (imm_mod (by decide) n)))
theorem form35 {d s c z n k : Int} (h : fitsF ⟨31, 0, 0, true, 1, [193], 3, 7, 2, 0, 0, 5⟩ ⟨k, d, s, c, z, n⟩ = true) : validF ⟨k, d, s, c, z, n⟩ = true ∧ encF ⟨k, d, s, c, z, n⟩ = bytesF ⟨31, 0, 0, true, 1, [193], 3, 7, 2, 0, 0, 5⟩ ⟨k, d, s, c, z, n⟩ := by
  simp only [fitsF, Bool.and_eq_true, decide_eq_true_eq] at h
  obtain ⟨⟨⟨⟨⟨hk, hz⟩, hd⟩, hs⟩, hc⟩, hn⟩ := h
  subst hk; subst hz
  have dr := field_range hd
  obtain rfl := fld0 hs
  obtain rfl := fld0 hc
  have hn : inF n 0 63 = true := hn
  refine ⟨valid_mk (bad0_of rfl dr ⟨Int.le_refl _, show (0 : Int) ≤ 15 by decide⟩ ⟨Int.le_refl _, show (0 : Int) ≤ 15 by decide⟩) ?_, ?_⟩
  · have e : sizedF ⟨31, d, 0, 0, 0, n⟩ = true := by rw [sizedF, if_neg (by dsimp only; decide), if_neg (by dsimp only; decide), if_pos (by dsimp only; decide), hn]
    rw [e, none_any _ 1 _ (by dsimp only; decide), none_zero _ 2, none_any _ 4 _ (by dsimp only; decide), none_zero _ 8, none_zero _ 16]
    rfl
  · show byteOf (rexN true 0 d) :: 193 :: byteOf (twoN 7 d) :: immF n 1 = byteOf (64 + 8 * 1 + 4 * (0 / 8) + (d + 0) / 8) :: byteOf (193 + 0 + 0) :: byteOf (64 * 3 + 8 * (7) + (d + 0) % 8) :: leBytes 1 (n % 18446744073709551616)
    exact list2 (congrArg byteOf (by simp only [rexN, if_true, if_false, Bool.false_eq_true]; omega)) (list2 (rfl) (list2 (congrArg byteOf (by simp only [memN, twoN]; omega)) (imm_mod (by decide) n)))
theorem form36 {d s c z n k : Int} (h : fitsF ⟨32, 0, 0, true, 0, [15, 144], 3, 0, 2, 0, 4, 0⟩ ⟨k, d, s, c, z, n⟩ = true) : validF ⟨k, d, s, c, z, n⟩ = true ∧ encF ⟨k, d, s, c, z, n⟩ = bytesF ⟨32, 0, 0, true, 0, [15, 144], 3, 0, 2, 0, 4, 0⟩ ⟨k, d, s, c, z, n⟩ := by
  simp only [fitsF, Bool.and_eq_true, decide_eq_true_eq] at h
  obtain ⟨⟨⟨⟨⟨hk, hz⟩, hd⟩, hs⟩, hc⟩, hn⟩ := h
  subst hk; subst hz
  have dr := field_range hd
  obtain rfl := fld0 hs
  have cr := field_range hc
  obtain rfl : n = 0 := of_decide_eq_true hn
  refine ⟨valid_mk (bad0_of rfl dr ⟨Int.le_refl _, show (0 : Int) ≤ 15 by decide⟩ cr) ?_, ?_⟩
  · have e : sizedF ⟨32, d, 0, c, 0, 0⟩ = true := by rw [sizedF, if_neg (by dsimp only; decide), if_neg (by dsimp only; decide), if_neg (by dsimp only; decide)]; rfl
    rw [e, none_any _ 1 _ (by dsimp only; decide), none_zero _ 2, none_zero _ 4, none_any _ 8 _ (by dsimp only; decide), none_zero _ 16]
    rfl
  · show byteOf (rexN false 0 d) :: 15 :: byteOf (144 + c) :: byteOf (twoN 0 d) :: [] = byteOf (64 + 8 * 0 + 4 * (0 / 8) + (d + 0) / 8) :: byteOf (15 + 0 + 0) :: byteOf (144 + c + 0) :: byteOf (64 * 3 + 8 * (0) + (d + 0) % 8) :: []
    exact list2 (congrArg byteOf (by simp only [rexN, if_true, if_false, Bool.false_eq_true]; omega)) (list2 (rfl) (list2 (congrArg byteOf (by omega)) (list2 (congrArg byteOf (by simp only [memN, twoN]; omega)) (rfl))))
theorem form37 {d s c z n k : Int} (h : fitsF ⟨33, 0, 0, true, 1, [15, 182], 3, 0, 1, 2, 0, 0⟩ ⟨k, d, s, c, z, n⟩ = true) : validF ⟨k, d, s, c, z, n⟩ = true ∧ encF ⟨k, d, s, c, z, n⟩ = bytesF ⟨33, 0, 0, true, 1, [15, 182], 3, 0, 1, 2, 0, 0⟩ ⟨k, d, s, c, z, n⟩ := by
  simp only [fitsF, Bool.and_eq_true, decide_eq_true_eq] at h
  obtain ⟨⟨⟨⟨⟨hk, hz⟩, hd⟩, hs⟩, hc⟩, hn⟩ := h
  subst hk; subst hz
  have dr := field_range hd
  have sr := field_range hs
  obtain rfl := fld0 hc
  obtain rfl : n = 0 := of_decide_eq_true hn
  refine ⟨valid_mk (bad0_of rfl dr sr ⟨Int.le_refl _, show (0 : Int) ≤ 15 by decide⟩) ?_, ?_⟩
  · have e : sizedF ⟨33, d, s, 0, 0, 0⟩ = true := by rw [sizedF, if_neg (by dsimp only; decide), if_neg (by dsimp only; decide), if_neg (by dsimp only; decide)]; rfl
    rw [e, none_any _ 1 _ (by dsimp only; decide), none_any _ 2 _ (by dsimp only; decide), none_zero _ 4, none_zero _ 8, none_zero _ 16]
    rfl
  · show byteOf (rexN true d s) :: 15 :: 182 :: byteOf (twoN d s) :: [] = byteOf (64 + 8 * 1 + 4 * (d / 8) + (s + 0) / 8) :: byteOf (15 + 0 + 0) :: byteOf (182 + 0 + 0) :: byteOf (64 * 3 + 8 * (d % 8) + (s + 0) % 8) :: []
    exact list2 (congrArg byteOf (by simp only [rexN, if_true, if_false, Bool.false_eq_true]; omega)) (list2 (rfl) (list2 (rfl) (list2 (congrArg byteOf (by simp only [memN, twoN]; omega)) (rfl))))
theorem form38 {d s c z n k : Int} (h : fitsF ⟨34, 0, 0, true, 1, [15, 64], 3, 0, 1, 2, 4, 0⟩ ⟨k, d, s, c, z, n⟩ = true) : validF ⟨k, d, s, c, z, n⟩ = true ∧ encF ⟨k, d, s, c, z, n⟩ = bytesF ⟨34, 0, 0, true, 1, [15, 64], 3, 0, 1, 2, 4, 0⟩ ⟨k, d, s, c, z, n⟩ := by
  simp only [fitsF, Bool.and_eq_true, decide_eq_true_eq] at h
  obtain ⟨⟨⟨⟨⟨hk, hz⟩, hd⟩, hs⟩, hc⟩, hn⟩ := h
  subst hk; subst hz
  have dr := field_range hd
  have sr := field_range hs
  have cr := field_range hc
  obtain rfl : n = 0 := of_decide_eq_true hn
  refine ⟨valid_mk (bad0_of rfl dr sr cr) ?_, ?_⟩
  · have e : sizedF ⟨34, d, s, c, 0, 0⟩ = true := by rw [sizedF, if_neg (by dsimp only; decide), if_neg (by dsimp only; decide), if_neg (by dsimp only; decide)]; rfl
    rw [e, none_any _ 1 _ (by dsimp only; decide), none_any _ 2 _ (by dsimp only; decide), none_zero _ 4, none_any _ 8 _ (by dsimp only; decide), none_zero _ 16]
    rfl
  · show byteOf (rexN true d s) :: 15 :: byteOf (64 + c) :: byteOf (twoN d s) :: [] = byteOf (64 + 8 * 1 + 4 * (d / 8) + (s + 0) / 8) :: byteOf (15 + 0 + 0) :: byteOf (64 + c + 0) :: byteOf (64 * 3 + 8 * (d % 8) + (s + 0) % 8) :: []
    exact list2 (congrArg byteOf (by simp only [rexN, if_true, if_false, Bool.false_eq_true]; omega)) (list2 (rfl) (list2 (congrArg byteOf (by omega)) (list2 (congrArg byteOf (by simp only [memN, twoN]; omega)) (rfl))))
theorem form39 {d s c z n k : Int} (h : fitsF ⟨35, 1, 0, false, 0, [235], -1, 0, 0, 0, 0, 5⟩ ⟨k, d, s, c, z, n⟩ = true) : validF ⟨k, d, s, c, z, n⟩ = true ∧ encF ⟨k, d, s, c, z, n⟩ = bytesF ⟨35, 1, 0, false, 0, [235], -1, 0, 0, 0, 0, 5⟩ ⟨k, d, s, c, z, n⟩ := by
  simp only [fitsF, Bool.and_eq_true, decide_eq_true_eq] at h
  obtain ⟨⟨⟨⟨⟨hk, hz⟩, hd⟩, hs⟩, hc⟩, hn⟩ := h
  subst hk; subst hz
  obtain rfl := fld0 hd
  obtain rfl := fld0 hs
  obtain rfl := fld0 hc
  have hn : inF n (-128) 127 = true := hn
  refine ⟨valid_mk (bad0_of rfl ⟨Int.le_refl _, show (0 : Int) ≤ 15 by decide⟩ ⟨Int.le_refl _, show (0 : Int) ≤ 15 by decide⟩ ⟨Int.le_refl _, show (0 : Int) ≤ 15 by decide⟩) ?_, ?_⟩
  · have e : sizedF ⟨35, 0, 0, 0, 1, n⟩ = true := by rw [sizedF, if_neg (by dsimp only; decide), if_pos (by dsimp only; decide), hn]; simp
    rw [e, none_zero _ 1, none_zero _ 2, none_any _ 4 _ (by dsimp only; decide), none_zero _ 8, none_any _ 16 _ (by dsimp only; decide)]
    rfl
  · show 235 :: immF n 1 = byteOf (235 + 0 + 0) :: leBytes 1 (n % 18446744073709551616)
    exact list2 (rfl) (imm_mod (by decide) n)
theorem form40 {d s c z n k : Int} (h : fitsF ⟨35, 4, 0, false, 0, [233], -1, 0, 0, 0, 0, 6⟩ ⟨k, d, s, c, z, n⟩ = true) : validF ⟨k, d, s, c, z, n⟩ = true ∧ encF ⟨k, d, s, c, z, n⟩ = bytesF ⟨35, 4, 0, false, 0, [233], -1, 0, 0, 0, 0, 6⟩ ⟨k, d, s, c, z, n⟩ := by
  simp only [fitsF, Bool.and_eq_true, decide_eq_true_eq] at h
  obtain ⟨⟨⟨⟨⟨hk, hz⟩, hd⟩, hs⟩, hc⟩, hn⟩ := h
  subst hk; subst hz
  obtain rfl := fld0 hd
  obtain rfl := fld0 hs
  obtain rfl := fld0 hc
  have hn : smallF n = true := hn
  refine ⟨valid_mk (bad0_of rfl ⟨Int.le_refl _, show (0 : Int) ≤ 15 by decide⟩ ⟨Int.le_refl _, show (0 : Int) ≤ 15 by decide⟩ ⟨Int.le_refl _, show (0 : Int) ≤ 15 by decide⟩) ?_, ?_⟩
  · have e : sizedF ⟨35, 0, 0, 0, 4, n⟩ = true := by rw [sizedF, if_neg (by dsimp only; decide), if_pos (by dsimp only; decide), hn]; simp
    rw [e, none_zero _ 1, none_zero _ 2, none_any _ 4 _ (by dsimp only; decide), none_zero _ 8, none_any _ 16 _ (by dsimp only; decide)]
    rfl
  · show 233 :: immF n 4 = byteOf (233 + 0 + 0) :: leBytes 4 (n % 18446744073709551616)
    exact list2 (rfl) (imm_mod (by decide) n)
theorem form41 {d s c z n k : Int} (h : fitsF ⟨36, 1, 0, false, 0, [112], -1, 0, 0, 0, 4, 5⟩ ⟨k, d, s, c, z, n⟩ = true) : validF ⟨k, d, s, c, z, n⟩ = true ∧ encF ⟨k, d, s, c, z, n⟩ = bytesF ⟨36, 1, 0, false, 0, [112], -1, 0, 0, 0, 4, 5⟩ ⟨k, d, s, c, z, n⟩ := by
  simp only [fitsF, Bool.and_eq_true, decide_eq_true_eq] at h
  obtain ⟨⟨⟨⟨⟨hk, hz⟩, hd⟩, hs⟩, hc⟩, hn⟩ := h
  subst hk; subst hz
  obtain rfl := fld0 hd
  obtain rfl := fld0 hs
  have cr := field_range hc
  have hn : inF n (-128) 127 = true := hn
  refine ⟨valid_mk (bad0_of rfl ⟨Int.le_refl _, show (0 : Int) ≤ 15 by decide⟩ ⟨Int.le_refl _, show (0 : Int) ≤ 15 by decide⟩ cr) ?_, ?_⟩
  · have e : sizedF ⟨36, 0, 0, c, 1, n⟩ = true := by rw [sizedF, if_neg (by dsimp only; decide), if_pos (by dsimp only; decide), hn]; simp
    rw [e, none_zero _ 1, none_zero _ 2, none_any _ 4 _ (by dsimp only; decide), none_any _ 8 _ (by dsimp only; decide), none_any _ 16 _ (by dsimp only; decide)]
    rfl
  · show byteOf (112 + c) :: immF n 1 = byteOf (112 + c + 0) :: leBytes 1 (n % 18446744073709551616)
    exact list2 (congrArg byteOf (by omega)) (imm_mod (by decide) n)
theorem form42 {d s c z n k : Int} (h : fitsF ⟨36, 4, 0, false, 0, [15, 128], -1, 0, 0, 0, 4, 6⟩ ⟨k, d, s, c, z, n⟩ = true) : validF ⟨k, d, s, c, z, n⟩ = true ∧ encF ⟨k, d, s, c, z, n⟩ = bytesF ⟨36, 4, 0, false, 0, [15, 128], -1, 0, 0, 0, 4, 6⟩ ⟨k, d, s, c, z, n⟩ := by
  simp only [fitsF, Bool.and_eq_true, decide_eq_true_eq] at h
  obtain ⟨⟨⟨⟨⟨hk, hz⟩, hd⟩, hs⟩, hc⟩, hn⟩ := h
  subst hk; subst hz
  obtain rfl := fld0 hd
  obtain rfl := fld0 hs
  have cr := field_range hc
  have hn : smallF n = true := hn
  refine ⟨valid_mk (bad0_of rfl ⟨Int.le_refl _, show (0 : Int) ≤ 15 by decide⟩ ⟨Int.le_refl _, show (0 : Int) ≤ 15 by decide⟩ cr) ?_, ?_⟩
  · have e : sizedF ⟨36, 0, 0, c, 4, n⟩ = true := by rw [sizedF, if_neg (by dsimp only; decide), if_pos (by dsimp only; decide), hn]; simp
    rw [e, none_zero _ 1, none_zero _ 2, none_any _ 4 _ (by dsimp only; decide), none_any _ 8 _ (by dsimp only; decide), none_any _ 16 _ (by dsimp only; decide)]
    rfl
  · show 15 :: byteOf (128 + c) :: immF n 4 = byteOf (15 + 0 + 0) :: byteOf (128 + c + 0) :: leBytes 4 (n % 18446744073709551616)
    exact list2 (rfl) (list2 (congrArg byteOf (by omega)) (imm_mod (by decide) n))
theorem form43 {d s c z n k : Int} (h : fitsF ⟨37, 0, 0, false, 0, [232], -1, 0, 0, 0, 0, 6⟩ ⟨k, d, s, c, z, n⟩ = true) : validF ⟨k, d, s, c, z, n⟩ = true ∧ encF ⟨k, d, s, c, z, n⟩ = bytesF ⟨37, 0, 0, false, 0, [232], -1, 0, 0, 0, 0, 6⟩ ⟨k, d, s, c, z, n⟩ := by
  simp only [fitsF, Bool.and_eq_true, decide_eq_true_eq] at h
  obtain ⟨⟨⟨⟨⟨hk, hz⟩, hd⟩, hs⟩, hc⟩, hn⟩ := h
  subst hk; subst hz
  obtain rfl := fld0 hd
  obtain rfl := fld0 hs
  obtain rfl := fld0 hc
  have hn : smallF n = true := hn
  refine ⟨valid_mk (bad0_of rfl ⟨Int.le_refl _, show (0 : Int) ≤ 15 by decide⟩ ⟨Int.le_refl _, show (0 : Int) ≤ 15 by decide⟩ ⟨Int.le_refl _, show (0 : Int) ≤ 15 by decide⟩) ?_, ?_⟩
  · have e : sizedF ⟨37, 0, 0, 0, 0, n⟩ = true := by rw [sizedF, if_neg (by dsimp only; decide), if_neg (by dsimp only; decide), if_neg (by dsimp only; decide), hn, Bool.or_true]
    rw [e, none_zero _ 1, none_zero _ 2, none_any _ 4 _ (by dsimp only; decide), none_zero _ 8, none_zero _ 16]
    rfl
  · show 232 :: immF n 4 = byteOf (232 + 0 + 0) :: leBytes 4 (n % 18446744073709551616)
    exact list2 (rfl) (imm_mod (by decide) n)
theorem form44 {d s c z n k : Int} (h : fitsF ⟨38, 0, 0, true, 0, [255], 3, 2, 2, 0, 0, 0⟩ ⟨k, d, s, c, z, n⟩ = true) : validF ⟨k, d, s, c, z, n⟩ = true ∧ encF ⟨k, d, s, c, z, n⟩ = bytesF ⟨38, 0, 0, true, 0, [255], 3, 2, 2, 0, 0, 0⟩ ⟨k, d, s, c, z, n⟩ := by
  simp only [fitsF, Bool.and_eq_true, decide_eq_true_eq] at h
  obtain ⟨⟨⟨⟨⟨hk, hz⟩, hd⟩, hs⟩, hc⟩, hn⟩ := h
  subst hk; subst hz
  have dr := field_range hd
  obtain rfl := fld0 hs
  obtain rfl := fld0 hc
  obtain rfl : n = 0 := of_decide_eq_true hn
  refine ⟨valid_mk (bad0_of rfl dr ⟨Int.le_refl _, show (0 : Int) ≤ 15 by decide⟩ ⟨Int.le_refl _, show (0 : Int) ≤ 15 by decide⟩) ?_, ?_⟩
  · have e : sizedF ⟨38, d, 0, 0, 0, 0⟩ = true := by rw [sizedF, if_neg (by dsimp only; decide), if_neg (by dsimp only; decide), if_neg (by dsimp only; decide)]; rfl
    rw [e, none_any _ 1 _ (by dsimp only; decide), none_zero _ 2, none_zero _ 4, none_zero _ 8, none_zero _ 16]
    rfl
  · show byteOf (rexN false 0 d) :: 255 :: byteOf (twoN 2 d) :: [] = byteOf (64 + 8 * 0 + 4 * (0 / 8) + (d + 0) / 8) :: byteOf (255 + 0 + 0) :: byteOf (64 * 3 + 8 * (2) + (d + 0) % 8) :: []
    exact list2 (congrArg byteOf (by simp only [rexN, if_true, if_false, Bool.false_eq_true]; omega)) (list2 (rfl) (list2 (congrArg byteOf (by simp only [memN, twoN]; omega)) (rfl)))
theorem form45 {d s c z n k : Int} (h : fitsF ⟨39, 0, 0, true, 0, [255], 3, 4, 2, 0, 0, 0⟩ ⟨k, d, s, c, z, n⟩ = true) : validF ⟨k, d, s, c, z, n⟩ = true ∧ encF ⟨k, d, s, c, z, n⟩ = bytesF ⟨39, 0, 0, true, 0, [255], 3, 4, 2, 0, 0, 0⟩ ⟨k, d, s, c, z, n⟩ := by
  simp only [fitsF, Bool.and_eq_true, decide_eq_true_eq] at h
  obtain ⟨⟨⟨⟨⟨hk, hz⟩, hd⟩, hs⟩, hc⟩, hn⟩ := h
  subst hk; subst hz
  have dr := field_range hd
  obtain rfl := fld0 hs
  obtain rfl := fld0 hc
  obtain rfl : n = 0 := of_decide_eq_true hn
  refine ⟨valid_mk (bad0_of rfl dr ⟨Int.le_refl _, show (0 : Int) ≤ 15 by decide⟩ ⟨Int.le_refl _, show (0 : Int) ≤ 15 by decide⟩) ?_, ?_⟩
  · have e : sizedF ⟨39, d, 0, 0, 0, 0⟩ = true := by rw [sizedF, if_neg (by dsimp only; decide), if_neg (by dsimp only; decide), if_neg (by dsimp only; decide)]; rfl
    rw [e, none_any _ 1 _ (by dsimp only; decide), none_zero _ 2, none_zero _ 4, none_zero _ 8, none_zero _ 16]
    rfl
  · show byteOf (rexN false 0 d) :: 255 :: byteOf (twoN 4 d) :: [] = byteOf (64 + 8 * 0 + 4 * (0 / 8) + (d + 0) / 8) :: byteOf (255 + 0 + 0) :: byteOf (64 * 3 + 8 * (4) + (d + 0) % 8) :: []
    exact list2 (congrArg byteOf (by simp only [rexN, if_true, if_false, Bool.false_eq_true]; omega)) (list2 (rfl) (list2 (congrArg byteOf (by simp only [memN, twoN]; omega)) (rfl)))
theorem form46 {d s c z n k : Int} (h : fitsF ⟨40, 0, 0, false, 0, [195], -1, 0, 0, 0, 0, 0⟩ ⟨k, d, s, c, z, n⟩ = true) : validF ⟨k, d, s, c, z, n⟩ = true ∧ encF ⟨k, d, s, c, z, n⟩ = bytesF ⟨40, 0, 0, false, 0, [195], -1, 0, 0, 0, 0, 0⟩ ⟨k, d, s, c, z, n⟩ := by
  simp only [fitsF, Bool.and_eq_true, decide_eq_true_eq] at h
  obtain ⟨⟨⟨⟨⟨hk, hz⟩, hd⟩, hs⟩, hc⟩, hn⟩ := h
  subst hk; subst hz
  obtain rfl := fld0 hd
  obtain rfl := fld0 hs
  obtain rfl := fld0 hc
  obtain rfl : n = 0 := of_decide_eq_true hn
  refine ⟨valid_mk (bad0_of rfl ⟨Int.le_refl _, show (0 : Int) ≤ 15 by decide⟩ ⟨Int.le_refl _, show (0 : Int) ≤ 15 by decide⟩ ⟨Int.le_refl _, show (0 : Int) ≤ 15 by decide⟩) ?_, ?_⟩
  · have e : sizedF ⟨40, 0, 0, 0, 0, 0⟩ = true := by rw [sizedF, if_neg (by dsimp only; decide), if_neg (by dsimp only; decide), if_neg (by dsimp only; decide)]; rfl
    rw [e, none_zero _ 1, none_zero _ 2, none_zero _ 4, none_zero _ 8, none_zero _ 16]
    rfl
  · show 195 :: [] = byteOf (195 + 0 + 0) :: []
    exact list2 (rfl) (rfl)
theorem form47 {d s c z n k : Int} (h : fitsF ⟨41, 0, 0, true, 0, [80], -1, 0, 3, 0, 0, 0⟩ ⟨k, d, s, c, z, n⟩ = true) : validF ⟨k, d, s, c, z, n⟩ = true ∧ encF ⟨k, d, s, c, z, n⟩ = bytesF ⟨41, 0, 0, true, 0, [80], -1, 0, 3, 0, 0, 0⟩ ⟨k, d, s, c, z, n⟩ := by
  simp only [fitsF, Bool.and_eq_true, decide_eq_true_eq] at h
  obtain ⟨⟨⟨⟨⟨hk, hz⟩, hd⟩, hs⟩, hc⟩, hn⟩ := h
  subst hk; subst hz
  have dr := field_range hd
  obtain rfl := fld0 hs
  obtain rfl := fld0 hc
  obtain rfl : n = 0 := of_decide_eq_true hn
  refine ⟨valid_mk (bad0_of rfl dr ⟨Int.le_refl _, show (0 : Int) ≤ 15 by decide⟩ ⟨Int.le_refl _, show (0 : Int) ≤ 15 by decide⟩) ?_, ?_⟩
  · have e : sizedF ⟨41, d, 0, 0, 0, 0⟩ = true := by rw [sizedF, if_neg (by dsimp only; decide), if_neg (by dsimp only; decide), if_neg (by dsimp only; decide)]; rfl
    rw [e, none_any _ 1 _ (by dsimp only; decide), none_zero _ 2, none_zero _ 4, none_zero _ 8, none_zero _ 16]
    rfl
  · show byteOf (rexN false 0 d) :: byteOf (80 + d % 8) :: [] = byteOf (64 + 8 * 0 + 4 * (0 / 8) + (0 + d) / 8) :: byteOf (80 + 0 + d % 8) :: []
    exact list2 (congrArg byteOf (by simp only [rexN, if_true, if_false, Bool.false_eq_true]; omega)) (list2 (congrArg byteOf (by omega)) (rfl))
theorem form48 {d s c z n k : Int} (h : fitsF ⟨42, 0, 0, true, 0, [88], -1, 0, 3, 0, 0, 0⟩ ⟨k, d, s, c, z, n⟩ = true) : validF ⟨k, d, s, c, z, n⟩ = true ∧ encF ⟨k, d, s, c, z, n⟩ = bytesF ⟨42, 0, 0, true, 0, [88], -1, 0, 3, 0, 0, 0⟩ ⟨k, d, s, c, z, n⟩ := by
  simp only [fitsF, Bool.and_eq_true, decide_eq_true_eq] at h
  obtain ⟨⟨⟨⟨⟨hk, hz⟩, hd⟩, hs⟩, hc⟩, hn⟩ := h
  subst hk; subst hz
  have dr := field_range hd
  obtain rfl := fld0 hs
  obtain rfl := fld0 hc
  obtain rfl : n = 0 := of_decide_eq_true hn
  refine ⟨valid_mk (bad0_of rfl dr ⟨Int.le_refl _, show (0 : Int) ≤ 15 by decide⟩ ⟨Int.le_refl _, show (0 : Int) ≤ 15 by decide⟩) ?_, ?_⟩
  · have e : sizedF ⟨42, d, 0, 0, 0, 0⟩ = true := by rw [sizedF, if_neg (by dsimp only; decide), if_neg (by dsimp only; decide), if_neg (by dsimp only; decide)]; rfl
    rw [e, none_any _ 1 _ (by dsimp only; decide), none_zero _ 2, none_zero _ 4, none_zero _ 8, none_zero _ 16]
    rfl
  · show byteOf (rexN false 0 d) :: byteOf (88 + d % 8) :: [] = byteOf (64 + 8 * 0 + 4 * (0 / 8) + (0 + d) / 8) :: byteOf (88 + 0 + d % 8) :: []
    exact list2 (congrArg byteOf (by simp only [rexN, if_true, if_false, Bool.false_eq_true]; omega)) (list2 (congrArg byteOf (by omega)) (rfl))
theorem form49 {d s c z n k : Int} (h : fitsF ⟨43, 0, 0, false, 0, [15, 5], -1, 0, 0, 0, 0, 0⟩ ⟨k, d, s, c, z, n⟩ = true) : validF ⟨k, d, s, c, z, n⟩ = true ∧ encF ⟨k, d, s, c, z, n⟩ = bytesF ⟨43, 0, 0, false, 0, [15, 5], -1, 0, 0, 0, 0, 0⟩ ⟨k, d, s, c, z, n⟩ := by
  simp only [fitsF, Bool.and_eq_true, decide_eq_true_eq] at h
  obtain ⟨⟨⟨⟨⟨hk, hz⟩, hd⟩, hs⟩, hc⟩, hn⟩ := h
  subst hk; subst hz
  obtain rfl := fld0 hd
  obtain rfl := fld0 hs
  obtain rfl := fld0 hc
  obtain rfl : n = 0 := of_decide_eq_true hn
  refine ⟨valid_mk (bad0_of rfl ⟨Int.le_refl _, show (0 : Int) ≤ 15 by decide⟩ ⟨Int.le_refl _, show (0 : Int) ≤ 15 by decide⟩ ⟨Int.le_refl _, show (0 : Int) ≤ 15 by decide⟩) ?_, ?_⟩
  · have e : sizedF ⟨43, 0, 0, 0, 0, 0⟩ = true := by rw [sizedF, if_neg (by dsimp only; decide), if_neg (by dsimp only; decide), if_neg (by dsimp only; decide)]; rfl
    rw [e, none_zero _ 1, none_zero _ 2, none_zero _ 4, none_zero _ 8, none_zero _ 16]
    rfl
  · show 15 :: 5 :: [] = byteOf (15 + 0 + 0) :: byteOf (5 + 0 + 0) :: []
    exact list2 (rfl) (list2 (rfl) (rfl))
theorem form50 {d s c z n k : Int} (h : fitsF ⟨44, 0, 0, false, 0, [15, 11], -1, 0, 0, 0, 0, 0⟩ ⟨k, d, s, c, z, n⟩ = true) : validF ⟨k, d, s, c, z, n⟩ = true ∧ encF ⟨k, d, s, c, z, n⟩ = bytesF ⟨44, 0, 0, false, 0, [15, 11], -1, 0, 0, 0, 0, 0⟩ ⟨k, d, s, c, z, n⟩ := by
  simp only [fitsF, Bool.and_eq_true, decide_eq_true_eq] at h
  obtain ⟨⟨⟨⟨⟨hk, hz⟩, hd⟩, hs⟩, hc⟩, hn⟩ := h
  subst hk; subst hz
  obtain rfl := fld0 hd
  obtain rfl := fld0 hs
  obtain rfl := fld0 hc
  obtain rfl : n = 0 := of_decide_eq_true hn
  refine ⟨valid_mk (bad0_of rfl ⟨Int.le_refl _, show (0 : Int) ≤ 15 by decide⟩ ⟨Int.le_refl _, show (0 : Int) ≤ 15 by decide⟩ ⟨Int.le_refl _, show (0 : Int) ≤ 15 by decide⟩) ?_, ?_⟩
  · have e : sizedF ⟨44, 0, 0, 0, 0, 0⟩ = true := by rw [sizedF, if_neg (by dsimp only; decide), if_neg (by dsimp only; decide), if_neg (by dsimp only; decide)]; rfl
    rw [e, none_zero _ 1, none_zero _ 2, none_zero _ 4, none_zero _ 8, none_zero _ 16]
    rfl
  · show 15 :: 11 :: [] = byteOf (15 + 0 + 0) :: byteOf (11 + 0 + 0) :: []
    exact list2 (rfl) (list2 (rfl) (rfl))
theorem form51 {d s c z n k : Int} (h : fitsF ⟨45, 0, 102, true, 1, [15, 110], 3, 0, 1, 2, 0, 0⟩ ⟨k, d, s, c, z, n⟩ = true) : validF ⟨k, d, s, c, z, n⟩ = true ∧ encF ⟨k, d, s, c, z, n⟩ = bytesF ⟨45, 0, 102, true, 1, [15, 110], 3, 0, 1, 2, 0, 0⟩ ⟨k, d, s, c, z, n⟩ := by
  simp only [fitsF, Bool.and_eq_true, decide_eq_true_eq] at h
  obtain ⟨⟨⟨⟨⟨hk, hz⟩, hd⟩, hs⟩, hc⟩, hn⟩ := h
  subst hk; subst hz
  have dr := field_range hd
  have sr := field_range hs
  obtain rfl := fld0 hc
  obtain rfl : n = 0 := of_decide_eq_true hn
  refine ⟨valid_mk (bad0_of rfl dr sr ⟨Int.le_refl _, show (0 : Int) ≤ 15 by decide⟩) ?_, ?_⟩
  · have e : sizedF ⟨45, d, s, 0, 0, 0⟩ = true := by rw [sizedF, if_neg (by dsimp only; decide), if_neg (by dsimp only; decide), if_neg (by dsimp only; decide)]; rfl
    rw [e, none_any _ 1 _ (by dsimp only; decide), none_any _ 2 _ (by dsimp only; decide), none_zero _ 4, none_zero _ 8, none_zero _ 16]
    rfl
  · show 102 :: byteOf (rexN true d s) :: 15 :: 110 :: byteOf (twoN d s) :: [] = byteOf 102 :: byteOf (64 + 8 * 1 + 4 * (d / 8) + (s + 0) / 8) :: byteOf (15 + 0 + 0) :: byteOf (110 + 0 + 0) :: byteOf (64 * 3 + 8 * (d % 8) + (s + 0) % 8) :: []
    exact list2 (rfl) (list2 (congrArg byteOf (by simp only [rexN, if_true, if_false, Bool.false_eq_true]; omega)) (list2 (rfl) (list2 (rfl) (list2 (congrArg byteOf (by simp only [memN, twoN]; omega)) (rfl)))))
theorem form52 {d s c z n k : Int} (h : fitsF ⟨46, 0, 102, true, 1, [15, 126], 3, 0, 2, 1, 0, 0⟩ ⟨k, d, s, c, z, n⟩ = true) : validF ⟨k, d, s, c, z, n⟩ = true ∧ encF ⟨k, d, s, c, z, n⟩ = bytesF ⟨46, 0, 102, true, 1, [15, 126], 3, 0, 2, 1, 0, 0⟩ ⟨k, d, s, c, z, n⟩ := by
  simp only [fitsF, Bool.and_eq_true, decide_eq_true_eq] at h
  obtain ⟨⟨⟨⟨⟨hk, hz⟩, hd⟩, hs⟩, hc⟩, hn⟩ := h
  subst hk; subst hz
  have dr := field_range hd
  have sr := field_range hs
  obtain rfl := fld0 hc
  obtain rfl : n = 0 := of_decide_eq_true hn
  refine ⟨valid_mk (bad0_of rfl dr sr ⟨Int.le_refl _, show (0 : Int) ≤ 15 by decide⟩) ?_, ?_⟩
  · have e : sizedF ⟨46, d, s, 0, 0, 0⟩ = true := by rw [sizedF, if_neg (by dsimp only; decide), if_neg (by dsimp only; decide), if_neg (by dsimp only; decide)]; rfl
    rw [e, none_any _ 1 _ (by dsimp only; decide), none_any _ 2 _ (by dsimp only; decide), none_zero _ 4, none_zero _ 8, none_zero _ 16]
    rfl
  · show 102 :: byteOf (rexN true s d) :: 15 :: 126 :: byteOf (twoN s d) :: [] = byteOf 102 :: byteOf (64 + 8 * 1 + 4 * (s / 8) + (d + 0) / 8) :: byteOf (15 + 0 + 0) :: byteOf (126 + 0 + 0) :: byteOf (64 * 3 + 8 * (s % 8) + (d + 0) % 8) :: []
    exact list2 (rfl) (list2 (congrArg byteOf (by simp only [rexN, if_true, if_false, Bool.false_eq_true]; omega)) (list2 (rfl) (list2 (rfl) (list2 (congrArg byteOf (by simp only [memN, twoN]; omega)) (rfl)))))
theorem form53 {d s c z n k : Int} (h : fitsF ⟨47, 0, 242, true, 0, [15, 88], 3, 0, 1, 2, 0, 0⟩ ⟨k, d, s, c, z, n⟩ = true) : validF ⟨k, d, s, c, z, n⟩ = true ∧ encF ⟨k, d, s, c, z, n⟩ = bytesF ⟨47, 0, 242, true, 0, [15, 88], 3, 0, 1, 2, 0, 0⟩ ⟨k, d, s, c, z, n⟩ := by
  simp only [fitsF, Bool.and_eq_true, decide_eq_true_eq] at h
  obtain ⟨⟨⟨⟨⟨hk, hz⟩, hd⟩, hs⟩, hc⟩, hn⟩ := h
  subst hk; subst hz
  have dr := field_range hd
  have sr := field_range hs
  obtain rfl := fld0 hc
  obtain rfl : n = 0 := of_decide_eq_true hn
  refine ⟨valid_mk (bad0_of rfl dr sr ⟨Int.le_refl _, show (0 : Int) ≤ 15 by decide⟩) ?_, ?_⟩
  · have e : sizedF ⟨47, d, s, 0, 0, 0⟩ = true := by rw [sizedF, if_neg (by dsimp only; decide), if_neg (by dsimp only; decide), if_neg (by dsimp only; decide)]; rfl
    rw [e, none_any _ 1 _ (by dsimp only; decide), none_any _ 2 _ (by dsimp only; decide), none_zero _ 4, none_zero _ 8, none_zero _ 16]
    rfl
  · show 242 :: byteOf (rexN false d s) :: 15 :: 88 :: byteOf (twoN d s) :: [] = byteOf 242 :: byteOf (64 + 8 * 0 + 4 * (d / 8) + (s + 0) / 8) :: byteOf (15 + 0 + 0) :: byteOf (88 + 0 + 0) :: byteOf (64 * 3 + 8 * (d % 8) + (s + 0) % 8) :: []
    exact list2 (rfl) (list2 (congrArg byteOf (by simp only [rexN, if_true, if_false, Bool.false_eq_true]; omega)) (list2 (rfl) (list2 (rfl) (list2 (congrArg byteOf (by simp only [memN, twoN]; omega)) (rfl)))))
theorem form54 {d s c z n k : Int} (h : fitsF ⟨48, 0, 242, true, 0, [15, 89], 3, 0, 1, 2, 0, 0⟩ ⟨k, d, s, c, z, n⟩ = true) : validF ⟨k, d, s, c, z, n⟩ = true ∧ encF ⟨k, d, s, c, z, n⟩ = bytesF ⟨48, 0, 242, true, 0, [15, 89], 3, 0, 1, 2, 0, 0⟩ ⟨k, d, s, c, z, n⟩ := by
  simp only [fitsF, Bool.and_eq_true, decide_eq_true_eq] at h
  obtain ⟨⟨⟨⟨⟨hk, hz⟩, hd⟩, hs⟩, hc⟩, hn⟩ := h
  subst hk; subst hz
  have dr := field_range hd
  have sr := field_range hs
  obtain rfl := fld0 hc
  obtain rfl : n = 0 := of_decide_eq_true hn
  refine ⟨valid_mk (bad0_of rfl dr sr ⟨Int.le_refl _, show (0 : Int) ≤ 15 by decide⟩) ?_, ?_⟩
  · have e : sizedF ⟨48, d, s, 0, 0, 0⟩ = true := by rw [sizedF, if_neg (by dsimp only; decide), if_neg (by dsimp only; decide), if_neg (by dsimp only; decide)]; rfl
    rw [e, none_any _ 1 _ (by dsimp only; decide), none_any _ 2 _ (by dsimp only; decide), none_zero _ 4, none_zero _ 8, none_zero _ 16]
    rfl
  · show 242 :: byteOf (rexN false d s) :: 15 :: 89 :: byteOf (twoN d s) :: [] = byteOf 242 :: byteOf (64 + 8 * 0 + 4 * (d / 8) + (s + 0) / 8) :: byteOf (15 + 0 + 0) :: byteOf (89 + 0 + 0) :: byteOf (64 * 3 + 8 * (d % 8) + (s + 0) % 8) :: []
    exact list2 (rfl) (list2 (congrArg byteOf (by simp only [rexN, if_true, if_false, Bool.false_eq_true]; omega)) (list2 (rfl) (list2 (rfl) (list2 (congrArg byteOf (by simp only [memN, twoN]; omega)) (rfl)))))
theorem form55 {d s c z n k : Int} (h : fitsF ⟨49, 0, 242, true, 0, [15, 92], 3, 0, 1, 2, 0, 0⟩ ⟨k, d, s, c, z, n⟩ = true) : validF ⟨k, d, s, c, z, n⟩ = true ∧ encF ⟨k, d, s, c, z, n⟩ = bytesF ⟨49, 0, 242, true, 0, [15, 92], 3, 0, 1, 2, 0, 0⟩ ⟨k, d, s, c, z, n⟩ := by
  simp only [fitsF, Bool.and_eq_true, decide_eq_true_eq] at h
  obtain ⟨⟨⟨⟨⟨hk, hz⟩, hd⟩, hs⟩, hc⟩, hn⟩ := h
  subst hk; subst hz
  have dr := field_range hd
  have sr := field_range hs
  obtain rfl := fld0 hc
  obtain rfl : n = 0 := of_decide_eq_true hn
  refine ⟨valid_mk (bad0_of rfl dr sr ⟨Int.le_refl _, show (0 : Int) ≤ 15 by decide⟩) ?_, ?_⟩
  · have e : sizedF ⟨49, d, s, 0, 0, 0⟩ = true := by rw [sizedF, if_neg (by dsimp only; decide), if_neg (by dsimp only; decide), if_neg (by dsimp only; decide)]; rfl
    rw [e, none_any _ 1 _ (by dsimp only; decide), none_any _ 2 _ (by dsimp only; decide), none_zero _ 4, none_zero _ 8, none_zero _ 16]
    rfl
  · show 242 :: byteOf (rexN false d s) :: 15 :: 92 :: byteOf (twoN d s) :: [] = byteOf 242 :: byteOf (64 + 8 * 0 + 4 * (d / 8) + (s + 0) / 8) :: byteOf (15 + 0 + 0) :: byteOf (92 + 0 + 0) :: byteOf (64 * 3 + 8 * (d % 8) + (s + 0) % 8) :: []
    exact list2 (rfl) (list2 (congrArg byteOf (by simp only [rexN, if_true, if_false, Bool.false_eq_true]; omega)) (list2 (rfl) (list2 (rfl) (list2 (congrArg byteOf (by simp only [memN, twoN]; omega)) (rfl)))))
theorem form56 {d s c z n k : Int} (h : fitsF ⟨50, 0, 242, true, 0, [15, 94], 3, 0, 1, 2, 0, 0⟩ ⟨k, d, s, c, z, n⟩ = true) : validF ⟨k, d, s, c, z, n⟩ = true ∧ encF ⟨k, d, s, c, z, n⟩ = bytesF ⟨50, 0, 242, true, 0, [15, 94], 3, 0, 1, 2, 0, 0⟩ ⟨k, d, s, c, z, n⟩ := by
  simp only [fitsF, Bool.and_eq_true, decide_eq_true_eq] at h
  obtain ⟨⟨⟨⟨⟨hk, hz⟩, hd⟩, hs⟩, hc⟩, hn⟩ := h
  subst hk; subst hz
  have dr := field_range hd
  have sr := field_range hs
  obtain rfl := fld0 hc
  obtain rfl : n = 0 := of_decide_eq_true hn
  refine ⟨valid_mk (bad0_of rfl dr sr ⟨Int.le_refl _, show (0 : Int) ≤ 15 by decide⟩) ?_, ?_⟩
  · have e : sizedF ⟨50, d, s, 0, 0, 0⟩ = true := by rw [sizedF, if_neg (by dsimp only; decide), if_neg (by dsimp only; decide), if_neg (by dsimp only; decide)]; rfl
    rw [e, none_any _ 1 _ (by dsimp only; decide), none_any _ 2 _ (by dsimp only; decide), none_zero _ 4, none_zero _ 8, none_zero _ 16]
    rfl
  · show 242 :: byteOf (rexN false d s) :: 15 :: 94 :: byteOf (twoN d s) :: [] = byteOf 242 :: byteOf (64 + 8 * 0 + 4 * (d / 8) + (s + 0) / 8) :: byteOf (15 + 0 + 0) :: byteOf (94 + 0 + 0) :: byteOf (64 * 3 + 8 * (d % 8) + (s + 0) % 8) :: []
    exact list2 (rfl) (list2 (congrArg byteOf (by simp only [rexN, if_true, if_false, Bool.false_eq_true]; omega)) (list2 (rfl) (list2 (rfl) (list2 (congrArg byteOf (by simp only [memN, twoN]; omega)) (rfl)))))
theorem form57 {d s c z n k : Int} (h : fitsF ⟨51, 0, 102, true, 0, [15, 46], 3, 0, 1, 2, 0, 0⟩ ⟨k, d, s, c, z, n⟩ = true) : validF ⟨k, d, s, c, z, n⟩ = true ∧ encF ⟨k, d, s, c, z, n⟩ = bytesF ⟨51, 0, 102, true, 0, [15, 46], 3, 0, 1, 2, 0, 0⟩ ⟨k, d, s, c, z, n⟩ := by
  simp only [fitsF, Bool.and_eq_true, decide_eq_true_eq] at h
  obtain ⟨⟨⟨⟨⟨hk, hz⟩, hd⟩, hs⟩, hc⟩, hn⟩ := h
  subst hk; subst hz
  have dr := field_range hd
  have sr := field_range hs
  obtain rfl := fld0 hc
  obtain rfl : n = 0 := of_decide_eq_true hn
  refine ⟨valid_mk (bad0_of rfl dr sr ⟨Int.le_refl _, show (0 : Int) ≤ 15 by decide⟩) ?_, ?_⟩
  · have e : sizedF ⟨51, d, s, 0, 0, 0⟩ = true := by rw [sizedF, if_neg (by dsimp only; decide), if_neg (by dsimp only; decide), if_neg (by dsimp only; decide)]; rfl
    rw [e, none_any _ 1 _ (by dsimp only; decide), none_any _ 2 _ (by dsimp only; decide), none_zero _ 4, none_zero _ 8, none_zero _ 16]
    rfl
  · show 102 :: byteOf (rexN false d s) :: 15 :: 46 :: byteOf (twoN d s) :: [] = byteOf 102 :: byteOf (64 + 8 * 0 + 4 * (d / 8) + (s + 0) / 8) :: byteOf (15 + 0 + 0) :: byteOf (46 + 0 + 0) :: byteOf (64 * 3 + 8 * (d % 8) + (s + 0) % 8) :: []
    exact list2 (rfl) (list2 (congrArg byteOf (by simp only [rexN, if_true, if_false, Bool.false_eq_true]; omega)) (list2 (rfl) (list2 (rfl) (list2 (congrArg byteOf (by simp only [memN, twoN]; omega)) (rfl)))))
theorem form58 {d s c z n k : Int} (h : fitsF ⟨52, 0, 242, true, 1, [15, 42], 3, 0, 1, 2, 0, 0⟩ ⟨k, d, s, c, z, n⟩ = true) : validF ⟨k, d, s, c, z, n⟩ = true ∧ encF ⟨k, d, s, c, z, n⟩ = bytesF ⟨52, 0, 242, true, 1, [15, 42], 3, 0, 1, 2, 0, 0⟩ ⟨k, d, s, c, z, n⟩ := by
  simp only [fitsF, Bool.and_eq_true, decide_eq_true_eq] at h
  obtain ⟨⟨⟨⟨⟨hk, hz⟩, hd⟩, hs⟩, hc⟩, hn⟩ := h
  subst hk; subst hz
  have dr := field_range hd
  have sr := field_range hs
  obtain rfl := fld0 hc
  obtain rfl : n = 0 := of_decide_eq_true hn
  refine ⟨valid_mk (bad0_of rfl dr sr ⟨Int.le_refl _, show (0 : Int) ≤ 15 by decide⟩) ?_, ?_⟩
  · have e : sizedF ⟨52, d, s, 0, 0, 0⟩ = true := by rw [sizedF, if_neg (by dsimp only; decide), if_neg (by dsimp only; decide), if_neg (by dsimp only; decide)]; rfl
    rw [e, none_any _ 1 _ (by dsimp only; decide), none_any _ 2 _ (by dsimp only; decide), none_zero _ 4, none_zero _ 8, none_zero _ 16]
    rfl
  · show 242 :: byteOf (rexN true d s) :: 15 :: 42 :: byteOf (twoN d s) :: [] = byteOf 242 :: byteOf (64 + 8 * 1 + 4 * (d / 8) + (s + 0) / 8) :: byteOf (15 + 0 + 0) :: byteOf (42 + 0 + 0) :: byteOf (64 * 3 + 8 * (d % 8) + (s + 0) % 8) :: []
    exact list2 (rfl) (list2 (congrArg byteOf (by simp only [rexN, if_true, if_false, Bool.false_eq_true]; omega)) (list2 (rfl) (list2 (rfl) (list2 (congrArg byteOf (by simp only [memN, twoN]; omega)) (rfl)))))
theorem forms_enc {f : FormF} (hf : f ∈ formsF) {i : Ins} (h : fitsF f i = true) : validF i = true ∧ encF i = bytesF f i := by
  obtain ⟨k, d, s, c, z, n⟩ := i
  simp only [formsF, List.mem_cons, List.not_mem_nil, or_false] at hf
  rcases hf with rfl | rfl | rfl | rfl | rfl | rfl | rfl | rfl | rfl | rfl | rfl | rfl | rfl | rfl | rfl | rfl | rfl | rfl | rfl | rfl | rfl | rfl | rfl | rfl | rfl | rfl | rfl | rfl | rfl | rfl | rfl | rfl | rfl | rfl | rfl | rfl | rfl | rfl | rfl | rfl | rfl | rfl | rfl | rfl | rfl | rfl | rfl | rfl | rfl | rfl | rfl | rfl | rfl | rfl | rfl | rfl | rfl | rfl | rfl
  · exact form0 h
  · exact form1 h
  · exact form2 h
  · exact form3 h
  · exact form4 h
  · exact form5 h
  · exact form6 h
  · exact form7 h
  · exact form8 h
  · exact form9 h
  · exact form10 h
  · exact form11 h
  · exact form12 h
  · exact form13 h
  · exact form14 h
  · exact form15 h
  · exact form16 h
  · exact form17 h
  · exact form18 h
  · exact form19 h
  · exact form20 h
  · exact form21 h
  · exact form22 h
  · exact form23 h
  · exact form24 h
  · exact form25 h
  · exact form26 h
  · exact form27 h
  · exact form28 h
  · exact form29 h
  · exact form30 h
  · exact form31 h
  · exact form32 h
  · exact form33 h
  · exact form34 h
  · exact form35 h
  · exact form36 h
  · exact form37 h
  · exact form38 h
  · exact form39 h
  · exact form40 h
  · exact form41 h
  · exact form42 h
  · exact form43 h
  · exact form44 h
  · exact form45 h
  · exact form46 h
  · exact form47 h
  · exact form48 h
  · exact form49 h
  · exact form50 h
  · exact form51 h
  · exact form52 h
  · exact form53 h
  · exact form54 h
  · exact form55 h
  · exact form56 h
  · exact form57 h
  · exact form58 h
end Go.Proofs.YtjndpakhmgapjaaDoor

namespace Go.Proofs.YtjndpakhmgapjaaDoor
open Go Go.RowKit
set_option linter.unusedSimpArgs false
set_option linter.unusedVariables false
set_option linter.unnecessarySimpa false
theorem valid_parts {i : Ins} (h : validF i = true) : ((1 ≤ i.kind ∧ i.kind ≤ 52) ∧ (0 ≤ i.d ∧ i.d ≤ 15) ∧ (0 ≤ i.s ∧ i.s ≤ 15) ∧ (0 ≤ i.cond ∧ i.cond ≤ 15)) ∧ noneF (fieldsF i.kind).1 1 i.d = true ∧ noneF (fieldsF i.kind).1 2 i.s = true ∧ noneF (fieldsF i.kind).1 4 i.imm = true ∧ noneF (fieldsF i.kind).1 8 i.cond = true ∧ noneF (fieldsF i.kind).1 16 i.size = true ∧ sizedF i = true := by
  refine ⟨validF_regs h, ?_⟩
  unfold validF at h
  split at h
  · cases h
  · simp only [Bool.and_eq_true] at h
    exact ⟨h.1.1.1.1.1, h.1.1.1.1.2, h.1.1.1.2, h.1.1.2, h.1.2, h.2⟩
theorem none_off {f b n : Int} (hb : bitsOf .and .i64 f b = 0) (h : noneF f b n = true) : n = 0 := by
  rw [noneF, decide_eq_true hb] at h
  simpa using h
theorem fld_some {p n : Int} (hp : ¬ p = 0) (h : 0 ≤ n ∧ n ≤ 15) : fieldR p n = true := by
  rw [fieldR, decide_eq_false hp, decide_eq_true h.1, decide_eq_true h.2]
  rfl
theorem fit_mk {f : FormF} {i : Ins} (h1 : f.kind = i.kind) (h2 : f.size = i.size) (h3 : fieldR f.d i.d = true) (h4 : fieldR f.s i.s = true) (h5 : fieldR f.cond i.cond = true) (h6 : numberR f i.imm = true) : fitsF f i = true := by
  rw [fitsF, decide_eq_true h1, decide_eq_true h2, h3, h4, h5, h6]
  rfl
theorem kind1 {d s c z n : Int} (h : validF ⟨1, d, s, c, z, n⟩ = true) : ∃ f ∈ formsF, fitsF f ⟨1, d, s, c, z, n⟩ = true := by
  obtain ⟨⟨_, hd, hs, hc⟩, h1, h2, h4, h8, h16, hz⟩ := valid_parts h
  obtain rfl : n = 0 := none_off (by dsimp only; decide) h4
  obtain rfl : c = 0 := none_off (by dsimp only; decide) h8
  obtain rfl : z = 0 := none_off (by dsimp only; decide) h16
  exact ⟨_, List.mem_of_getElem? (show formsF[0]? = some ⟨1, 0, 0, true, 1, [137], 3, 0, 2, 1, 0, 0⟩ from rfl), fit_mk rfl rfl (fld_some (by decide) hd) (fld_some (by decide) hs) rfl (rfl)⟩
theorem kind2 {d s c z n : Int} (h : validF ⟨2, d, s, c, z, n⟩ = true) : ∃ f ∈ formsF, fitsF f ⟨2, d, s, c, z, n⟩ = true := by
  obtain ⟨⟨_, hd, hs, hc⟩, h1, h2, h4, h8, h16, hz⟩ := valid_parts h
  obtain rfl : s = 0 := none_off (by dsimp only; decide) h2
  obtain rfl : c = 0 := none_off (by dsimp only; decide) h8
  obtain rfl : z = 0 := none_off (by dsimp only; decide) h16
  by_cases hn : smallF n = true
  · exact ⟨_, List.mem_of_getElem? (show formsF[1]? = some ⟨2, 0, 0, true, 1, [199], 3, 0, 2, 0, 0, 6⟩ from rfl), fit_mk rfl rfl (fld_some (by decide) hd) rfl rfl (hn)⟩
  · exact ⟨_, List.mem_of_getElem? (show formsF[2]? = some ⟨2, 0, 0, true, 1, [184], -1, 0, 3, 0, 0, 7⟩ from rfl), fit_mk rfl rfl (fld_some (by decide) hd) rfl rfl ((show (!smallF n) = true by simpa using hn))⟩
theorem kind3 {d s c z n : Int} (h : validF ⟨3, d, s, c, z, n⟩ = true) : ∃ f ∈ formsF, fitsF f ⟨3, d, s, c, z, n⟩ = true := by
  obtain ⟨⟨_, hd, hs, hc⟩, h1, h2, h4, h8, h16, hz⟩ := valid_parts h
  obtain rfl : c = 0 := none_off (by dsimp only; decide) h8
  rw [sizedF, if_pos (by dsimp only; decide), Bool.and_eq_true, Bool.or_eq_true, Bool.or_eq_true] at hz
  obtain ⟨hz, hn⟩ := hz
  rcases hz with (hz | hz) | hz
  · obtain rfl := of_decide_eq_true hz
    exact ⟨_, List.mem_of_getElem? (show formsF[3]? = some ⟨3, 8, 0, true, 1, [139], 2, 0, 1, 2, 0, 6⟩ from rfl), fit_mk rfl rfl (fld_some (by decide) hd) (fld_some (by decide) hs) rfl (hn)⟩
  · obtain rfl := of_decide_eq_true hz
    exact ⟨_, List.mem_of_getElem? (show formsF[4]? = some ⟨3, 4, 0, true, 0, [139], 2, 0, 1, 2, 0, 6⟩ from rfl), fit_mk rfl rfl (fld_some (by decide) hd) (fld_some (by decide) hs) rfl (hn)⟩
  · obtain rfl := of_decide_eq_true hz
    exact ⟨_, List.mem_of_getElem? (show formsF[5]? = some ⟨3, 1, 0, true, 1, [15, 182], 2, 0, 1, 2, 0, 6⟩ from rfl), fit_mk rfl rfl (fld_some (by decide) hd) (fld_some (by decide) hs) rfl (hn)⟩
theorem kind4 {d s c z n : Int} (h : validF ⟨4, d, s, c, z, n⟩ = true) : ∃ f ∈ formsF, fitsF f ⟨4, d, s, c, z, n⟩ = true := by
  obtain ⟨⟨_, hd, hs, hc⟩, h1, h2, h4, h8, h16, hz⟩ := valid_parts h
  obtain rfl : c = 0 := none_off (by dsimp only; decide) h8
  rw [sizedF, if_pos (by dsimp only; decide), Bool.and_eq_true, Bool.or_eq_true, Bool.or_eq_true] at hz
  obtain ⟨hz, hn⟩ := hz
  rcases hz with (hz | hz) | hz
  · obtain rfl := of_decide_eq_true hz
    exact ⟨_, List.mem_of_getElem? (show formsF[6]? = some ⟨4, 8, 0, true, 1, [137], 2, 0, 2, 1, 0, 6⟩ from rfl), fit_mk rfl rfl (fld_some (by decide) hd) (fld_some (by decide) hs) rfl (hn)⟩
  · obtain rfl := of_decide_eq_true hz
    exact ⟨_, List.mem_of_getElem? (show formsF[7]? = some ⟨4, 4, 0, true, 0, [137], 2, 0, 2, 1, 0, 6⟩ from rfl), fit_mk rfl rfl (fld_some (by decide) hd) (fld_some (by decide) hs) rfl (hn)⟩
  · obtain rfl := of_decide_eq_true hz
    exact ⟨_, List.mem_of_getElem? (show formsF[8]? = some ⟨4, 1, 0, true, 0, [136], 2, 0, 2, 1, 0, 6⟩ from rfl), fit_mk rfl rfl (fld_some (by decide) hd) (fld_some (by decide) hs) rfl (hn)⟩
theorem kind5 {d s c z n : Int} (h : validF ⟨5, d, s, c, z, n⟩ = true) : ∃ f ∈ formsF, fitsF f ⟨5, d, s, c, z, n⟩ = true := by
  obtain ⟨⟨_, hd, hs, hc⟩, h1, h2, h4, h8, h16, hz⟩ := valid_parts h
  obtain rfl : c = 0 := none_off (by dsimp only; decide) h8
  obtain rfl : z = 0 := none_off (by dsimp only; decide) h16
  rw [sizedF, if_neg (by dsimp only; decide), if_neg (by dsimp only; decide), if_neg (by dsimp only; decide)] at hz
  have hn : smallF n = true := hz
  exact ⟨_, List.mem_of_getElem? (show formsF[9]? = some ⟨5, 0, 0, true, 1, [141], 2, 0, 1, 2, 0, 6⟩ from rfl), fit_mk rfl rfl (fld_some (by decide) hd) (fld_some (by decide) hs) rfl (hn)⟩
theorem kind6 {d s c z n : Int} (h : validF ⟨6, d, s, c, z, n⟩ = true) : ∃ f ∈ formsF, fitsF f ⟨6, d, s, c, z, n⟩ = true := by
  obtain ⟨⟨_, hd, hs, hc⟩, h1, h2, h4, h8, h16, hz⟩ := valid_parts h
  obtain rfl : n = 0 := none_off (by dsimp only; decide) h4
  obtain rfl : c = 0 := none_off (by dsimp only; decide) h8
  obtain rfl : z = 0 := none_off (by dsimp only; decide) h16
  exact ⟨_, List.mem_of_getElem? (show formsF[10]? = some ⟨6, 0, 0, true, 1, [1], 3, 0, 2, 1, 0, 0⟩ from rfl), fit_mk rfl rfl (fld_some (by decide) hd) (fld_some (by decide) hs) rfl (rfl)⟩
theorem kind7 {d s c z n : Int} (h : validF ⟨7, d, s, c, z, n⟩ = true) : ∃ f ∈ formsF, fitsF f ⟨7, d, s, c, z, n⟩ = true := by
  obtain ⟨⟨_, hd, hs, hc⟩, h1, h2, h4, h8, h16, hz⟩ := valid_parts h
  obtain rfl : n = 0 := none_off (by dsimp only; decide) h4
  obtain rfl : c = 0 := none_off (by dsimp only; decide) h8
  obtain rfl : z = 0 := none_off (by dsimp only; decide) h16
  exact ⟨_, List.mem_of_getElem? (show formsF[11]? = some ⟨7, 0, 0, true, 1, [9], 3, 0, 2, 1, 0, 0⟩ from rfl), fit_mk rfl rfl (fld_some (by decide) hd) (fld_some (by decide) hs) rfl (rfl)⟩
theorem kind8 {d s c z n : Int} (h : validF ⟨8, d, s, c, z, n⟩ = true) : ∃ f ∈ formsF, fitsF f ⟨8, d, s, c, z, n⟩ = true := by
  obtain ⟨⟨_, hd, hs, hc⟩, h1, h2, h4, h8, h16, hz⟩ := valid_parts h
  obtain rfl : n = 0 := none_off (by dsimp only; decide) h4
  obtain rfl : c = 0 := none_off (by dsimp only; decide) h8
  obtain rfl : z = 0 := none_off (by dsimp only; decide) h16
  exact ⟨_, List.mem_of_getElem? (show formsF[12]? = some ⟨8, 0, 0, true, 1, [17], 3, 0, 2, 1, 0, 0⟩ from rfl), fit_mk rfl rfl (fld_some (by decide) hd) (fld_some (by decide) hs) rfl (rfl)⟩
theorem kind9 {d s c z n : Int} (h : validF ⟨9, d, s, c, z, n⟩ = true) : ∃ f ∈ formsF, fitsF f ⟨9, d, s, c, z, n⟩ = true := by
  obtain ⟨⟨_, hd, hs, hc⟩, h1, h2, h4, h8, h16, hz⟩ := valid_parts h
  obtain rfl : n = 0 := none_off (by dsimp only; decide) h4
  obtain rfl : c = 0 := none_off (by dsimp only; decide) h8
  obtain rfl : z = 0 := none_off (by dsimp only; decide) h16
  exact ⟨_, List.mem_of_getElem? (show formsF[13]? = some ⟨9, 0, 0, true, 1, [25], 3, 0, 2, 1, 0, 0⟩ from rfl), fit_mk rfl rfl (fld_some (by decide) hd) (fld_some (by decide) hs) rfl (rfl)⟩
theorem kind10 {d s c z n : Int} (h : validF ⟨10, d, s, c, z, n⟩ = true) : ∃ f ∈ formsF, fitsF f ⟨10, d, s, c, z, n⟩ = true := by
  obtain ⟨⟨_, hd, hs, hc⟩, h1, h2, h4, h8, h16, hz⟩ := valid_parts h
  obtain rfl : n = 0 := none_off (by dsimp only; decide) h4
  obtain rfl : c = 0 := none_off (by dsimp only; decide) h8
  obtain rfl : z = 0 := none_off (by dsimp only; decide) h16
  exact ⟨_, List.mem_of_getElem? (show formsF[14]? = some ⟨10, 0, 0, true, 1, [33], 3, 0, 2, 1, 0, 0⟩ from rfl), fit_mk rfl rfl (fld_some (by decide) hd) (fld_some (by decide) hs) rfl (rfl)⟩
theorem kind11 {d s c z n : Int} (h : validF ⟨11, d, s, c, z, n⟩ = true) : ∃ f ∈ formsF, fitsF f ⟨11, d, s, c, z, n⟩ = true := by
  obtain ⟨⟨_, hd, hs, hc⟩, h1, h2, h4, h8, h16, hz⟩ := valid_parts h
  obtain rfl : n = 0 := none_off (by dsimp only; decide) h4
  obtain rfl : c = 0 := none_off (by dsimp only; decide) h8
  obtain rfl : z = 0 := none_off (by dsimp only; decide) h16
  exact ⟨_, List.mem_of_getElem? (show formsF[15]? = some ⟨11, 0, 0, true, 1, [41], 3, 0, 2, 1, 0, 0⟩ from rfl), fit_mk rfl rfl (fld_some (by decide) hd) (fld_some (by decide) hs) rfl (rfl)⟩
theorem kind12 {d s c z n : Int} (h : validF ⟨12, d, s, c, z, n⟩ = true) : ∃ f ∈ formsF, fitsF f ⟨12, d, s, c, z, n⟩ = true := by
  obtain ⟨⟨_, hd, hs, hc⟩, h1, h2, h4, h8, h16, hz⟩ := valid_parts h
  obtain rfl : n = 0 := none_off (by dsimp only; decide) h4
  obtain rfl : c = 0 := none_off (by dsimp only; decide) h8
  obtain rfl : z = 0 := none_off (by dsimp only; decide) h16
  exact ⟨_, List.mem_of_getElem? (show formsF[16]? = some ⟨12, 0, 0, true, 1, [49], 3, 0, 2, 1, 0, 0⟩ from rfl), fit_mk rfl rfl (fld_some (by decide) hd) (fld_some (by decide) hs) rfl (rfl)⟩
theorem kind13 {d s c z n : Int} (h : validF ⟨13, d, s, c, z, n⟩ = true) : ∃ f ∈ formsF, fitsF f ⟨13, d, s, c, z, n⟩ = true := by
  obtain ⟨⟨_, hd, hs, hc⟩, h1, h2, h4, h8, h16, hz⟩ := valid_parts h
  obtain rfl : n = 0 := none_off (by dsimp only; decide) h4
  obtain rfl : c = 0 := none_off (by dsimp only; decide) h8
  obtain rfl : z = 0 := none_off (by dsimp only; decide) h16
  exact ⟨_, List.mem_of_getElem? (show formsF[17]? = some ⟨13, 0, 0, true, 1, [57], 3, 0, 2, 1, 0, 0⟩ from rfl), fit_mk rfl rfl (fld_some (by decide) hd) (fld_some (by decide) hs) rfl (rfl)⟩
theorem kind14 {d s c z n : Int} (h : validF ⟨14, d, s, c, z, n⟩ = true) : ∃ f ∈ formsF, fitsF f ⟨14, d, s, c, z, n⟩ = true := by
  obtain ⟨⟨_, hd, hs, hc⟩, h1, h2, h4, h8, h16, hz⟩ := valid_parts h
  obtain rfl : n = 0 := none_off (by dsimp only; decide) h4
  obtain rfl : c = 0 := none_off (by dsimp only; decide) h8
  obtain rfl : z = 0 := none_off (by dsimp only; decide) h16
  exact ⟨_, List.mem_of_getElem? (show formsF[18]? = some ⟨14, 0, 0, true, 1, [133], 3, 0, 2, 1, 0, 0⟩ from rfl), fit_mk rfl rfl (fld_some (by decide) hd) (fld_some (by decide) hs) rfl (rfl)⟩
theorem kind15 {d s c z n : Int} (h : validF ⟨15, d, s, c, z, n⟩ = true) : ∃ f ∈ formsF, fitsF f ⟨15, d, s, c, z, n⟩ = true := by
  obtain ⟨⟨_, hd, hs, hc⟩, h1, h2, h4, h8, h16, hz⟩ := valid_parts h
  obtain rfl : s = 0 := none_off (by dsimp only; decide) h2
  obtain rfl : c = 0 := none_off (by dsimp only; decide) h8
  obtain rfl : z = 0 := none_off (by dsimp only; decide) h16
  rw [sizedF, if_neg (by dsimp only; decide), if_neg (by dsimp only; decide), if_neg (by dsimp only; decide)] at hz
  have hn : smallF n = true := hz
  exact ⟨_, List.mem_of_getElem? (show formsF[19]? = some ⟨15, 0, 0, true, 1, [129], 3, 0, 2, 0, 0, 6⟩ from rfl), fit_mk rfl rfl (fld_some (by decide) hd) rfl rfl (hn)⟩
theorem kind16 {d s c z n : Int} (h : validF ⟨16, d, s, c, z, n⟩ = true) : ∃ f ∈ formsF, fitsF f ⟨16, d, s, c, z, n⟩ = true := by
  obtain ⟨⟨_, hd, hs, hc⟩, h1, h2, h4, h8, h16, hz⟩ := valid_parts h
  obtain rfl : s = 0 := none_off (by dsimp only; decide) h2
  obtain rfl : c = 0 := none_off (by dsimp only; decide) h8
  obtain rfl : z = 0 := none_off (by dsimp only; decide) h16
  rw [sizedF, if_neg (by dsimp only; decide), if_neg (by dsimp only; decide), if_neg (by dsimp only; decide)] at hz
  have hn : smallF n = true := hz
  exact ⟨_, List.mem_of_getElem? (show formsF[20]? = some ⟨16, 0, 0, true, 1, [129], 3, 1, 2, 0, 0, 6⟩ from rfl), fit_mk rfl rfl (fld_some (by decide) hd) rfl rfl (hn)⟩
theorem kind17 {d s c z n : Int} (h : validF ⟨17, d, s, c, z, n⟩ = true) : ∃ f ∈ formsF, fitsF f ⟨17, d, s, c, z, n⟩ = true := by
  obtain ⟨⟨_, hd, hs, hc⟩, h1, h2, h4, h8, h16, hz⟩ := valid_parts h
  obtain rfl : s = 0 := none_off (by dsimp only; decide) h2
  obtain rfl : c = 0 := none_off (by dsimp only; decide) h8
  obtain rfl : z = 0 := none_off (by dsimp only; decide) h16
  rw [sizedF, if_neg (by dsimp only; decide), if_neg (by dsimp only; decide), if_neg (by dsimp only; decide)] at hz
  have hn : smallF n = true := hz
  exact ⟨_, List.mem_of_getElem? (show formsF[21]? = some ⟨17, 0, 0, true, 1, [129], 3, 4, 2, 0, 0, 6⟩ from rfl), fit_mk rfl rfl (fld_some (by decide) hd) rfl rfl (hn)⟩
theorem kind18 {d s c z n : Int} (h : validF ⟨18, d, s, c, z, n⟩ = true) : ∃ f ∈ formsF, fitsF f ⟨18, d, s, c, z, n⟩ = true := by
  obtain ⟨⟨_, hd, hs, hc⟩, h1, h2, h4, h8, h16, hz⟩ := valid_parts h
  obtain rfl : s = 0 := none_off (by dsimp only; decide) h2
  obtain rfl : c = 0 := none_off (by dsimp only; decide) h8
  obtain rfl : z = 0 := none_off (by dsimp only; decide) h16
  rw [sizedF, if_neg (by dsimp only; decide), if_neg (by dsimp only; decide), if_neg (by dsimp only; decide)] at hz
  have hn : smallF n = true := hz
  exact ⟨_, List.mem_of_getElem? (show formsF[22]? = some ⟨18, 0, 0, true, 1, [129], 3, 5, 2, 0, 0, 6⟩ from rfl), fit_mk rfl rfl (fld_some (by decide) hd) rfl rfl (hn)⟩
theorem kind19 {d s c z n : Int} (h : validF ⟨19, d, s, c, z, n⟩ = true) : ∃ f ∈ formsF, fitsF f ⟨19, d, s, c, z, n⟩ = true := by
  obtain ⟨⟨_, hd, hs, hc⟩, h1, h2, h4, h8, h16, hz⟩ := valid_parts h
  obtain rfl : s = 0 := none_off (by dsimp only; decide) h2
  obtain rfl : c = 0 := none_off (by dsimp only; decide) h8
  obtain rfl : z = 0 := none_off (by dsimp only; decide) h16
  rw [sizedF, if_neg (by dsimp only; decide), if_neg (by dsimp only; decide), if_neg (by dsimp only; decide)] at hz
  have hn : smallF n = true := hz
  exact ⟨_, List.mem_of_getElem? (show formsF[23]? = some ⟨19, 0, 0, true, 1, [129], 3, 6, 2, 0, 0, 6⟩ from rfl), fit_mk rfl rfl (fld_some (by decide) hd) rfl rfl (hn)⟩
theorem kind20 {d s c z n : Int} (h : validF ⟨20, d, s, c, z, n⟩ = true) : ∃ f ∈ formsF, fitsF f ⟨20, d, s, c, z, n⟩ = true := by
  obtain ⟨⟨_, hd, hs, hc⟩, h1, h2, h4, h8, h16, hz⟩ := valid_parts h
  obtain rfl : s = 0 := none_off (by dsimp only; decide) h2
  obtain rfl : c = 0 := none_off (by dsimp only; decide) h8
  obtain rfl : z = 0 := none_off (by dsimp only; decide) h16
  rw [sizedF, if_neg (by dsimp only; decide), if_neg (by dsimp only; decide), if_neg (by dsimp only; decide)] at hz
  have hn : smallF n = true := hz
  exact ⟨_, List.mem_of_getElem? (show formsF[24]? = some ⟨20, 0, 0, true, 1, [129], 3, 7, 2, 0, 0, 6⟩ from rfl), fit_mk rfl rfl (fld_some (by decide) hd) rfl rfl (hn)⟩
theorem kind21 {d s c z n : Int} (h : validF ⟨21, d, s, c, z, n⟩ = true) : ∃ f ∈ formsF, fitsF f ⟨21, d, s, c, z, n⟩ = true := by
  obtain ⟨⟨_, hd, hs, hc⟩, h1, h2, h4, h8, h16, hz⟩ := valid_parts h
  obtain rfl : n = 0 := none_off (by dsimp only; decide) h4
  obtain rfl : c = 0 := none_off (by dsimp only; decide) h8
  obtain rfl : z = 0 := none_off (by dsimp only; decide) h16
  exact ⟨_, List.mem_of_getElem? (show formsF[25]? = some ⟨21, 0, 0, true, 1, [15, 175], 3, 0, 1, 2, 0, 0⟩ from rfl), fit_mk rfl rfl (fld_some (by decide) hd) (fld_some (by decide) hs) rfl (rfl)⟩
theorem kind22 {d s c z n : Int} (h : validF ⟨22, d, s, c, z, n⟩ = true) : ∃ f ∈ formsF, fitsF f ⟨22, d, s, c, z, n⟩ = true := by
  obtain ⟨⟨_, hd, hs, hc⟩, h1, h2, h4, h8, h16, hz⟩ := valid_parts h
  obtain rfl : s = 0 := none_off (by dsimp only; decide) h2
  obtain rfl : n = 0 := none_off (by dsimp only; decide) h4
  obtain rfl : c = 0 := none_off (by dsimp only; decide) h8
  obtain rfl : z = 0 := none_off (by dsimp only; decide) h16
  exact ⟨_, List.mem_of_getElem? (show formsF[26]? = some ⟨22, 0, 0, true, 1, [247], 3, 4, 2, 0, 0, 0⟩ from rfl), fit_mk rfl rfl (fld_some (by decide) hd) rfl rfl (rfl)⟩
theorem kind23 {d s c z n : Int} (h : validF ⟨23, d, s, c, z, n⟩ = true) : ∃ f ∈ formsF, fitsF f ⟨23, d, s, c, z, n⟩ = true := by
  obtain ⟨⟨_, hd, hs, hc⟩, h1, h2, h4, h8, h16, hz⟩ := valid_parts h
  obtain rfl : s = 0 := none_off (by dsimp only; decide) h2
  obtain rfl : n = 0 := none_off (by dsimp only; decide) h4
  obtain rfl : c = 0 := none_off (by dsimp only; decide) h8
  obtain rfl : z = 0 := none_off (by dsimp only; decide) h16
  exact ⟨_, List.mem_of_getElem? (show formsF[27]? = some ⟨23, 0, 0, true, 1, [247], 3, 6, 2, 0, 0, 0⟩ from rfl), fit_mk rfl rfl (fld_some (by decide) hd) rfl rfl (rfl)⟩
theorem kind24 {d s c z n : Int} (h : validF ⟨24, d, s, c, z, n⟩ = true) : ∃ f ∈ formsF, fitsF f ⟨24, d, s, c, z, n⟩ = true := by
  obtain ⟨⟨_, hd, hs, hc⟩, h1, h2, h4, h8, h16, hz⟩ := valid_parts h
  obtain rfl : s = 0 := none_off (by dsimp only; decide) h2
  obtain rfl : n = 0 := none_off (by dsimp only; decide) h4
  obtain rfl : c = 0 := none_off (by dsimp only; decide) h8
  obtain rfl : z = 0 := none_off (by dsimp only; decide) h16
  exact ⟨_, List.mem_of_getElem? (show formsF[28]? = some ⟨24, 0, 0, true, 1, [247], 3, 3, 2, 0, 0, 0⟩ from rfl), fit_mk rfl rfl (fld_some (by decide) hd) rfl rfl (rfl)⟩
theorem kind25 {d s c z n : Int} (h : validF ⟨25, d, s, c, z, n⟩ = true) : ∃ f ∈ formsF, fitsF f ⟨25, d, s, c, z, n⟩ = true := by
  obtain ⟨⟨_, hd, hs, hc⟩, h1, h2, h4, h8, h16, hz⟩ := valid_parts h
  obtain rfl : s = 0 := none_off (by dsimp only; decide) h2
  obtain rfl : n = 0 := none_off (by dsimp only; decide) h4
  obtain rfl : c = 0 := none_off (by dsimp only; decide) h8
  obtain rfl : z = 0 := none_off (by dsimp only; decide) h16
  exact ⟨_, List.mem_of_getElem? (show formsF[29]? = some ⟨25, 0, 0, true, 1, [247], 3, 2, 2, 0, 0, 0⟩ from rfl), fit_mk rfl rfl (fld_some (by decide) hd) rfl rfl (rfl)⟩
theorem kind26 {d s c z n : Int} (h : validF ⟨26, d, s, c, z, n⟩ = true) : ∃ f ∈ formsF, fitsF f ⟨26, d, s, c, z, n⟩ = true := by
  obtain ⟨⟨_, hd, hs, hc⟩, h1, h2, h4, h8, h16, hz⟩ := valid_parts h
  obtain rfl : s = 0 := none_off (by dsimp only; decide) h2
  obtain rfl : n = 0 := none_off (by dsimp only; decide) h4
  obtain rfl : c = 0 := none_off (by dsimp only; decide) h8
  obtain rfl : z = 0 := none_off (by dsimp only; decide) h16
  exact ⟨_, List.mem_of_getElem? (show formsF[30]? = some ⟨26, 0, 0, true, 1, [211], 3, 4, 2, 0, 0, 0⟩ from rfl), fit_mk rfl rfl (fld_some (by decide) hd) rfl rfl (rfl)⟩
theorem kind27 {d s c z n : Int} (h : validF ⟨27, d, s, c, z, n⟩ = true) : ∃ f ∈ formsF, fitsF f ⟨27, d, s, c, z, n⟩ = true := by
  obtain ⟨⟨_, hd, hs, hc⟩, h1, h2, h4, h8, h16, hz⟩ := valid_parts h
  obtain rfl : s = 0 := none_off (by dsimp only; decide) h2
  obtain rfl : n = 0 := none_off (by dsimp only; decide) h4
  obtain rfl : c = 0 := none_off (by dsimp only; decide) h8
  obtain rfl : z = 0 := none_off (by dsimp only; decide) h16
  exact ⟨_, List.mem_of_getElem? (show formsF[31]? = some ⟨27, 0, 0, true, 1, [211], 3, 5, 2, 0, 0, 0⟩ from rfl), fit_mk rfl rfl (fld_some (by decide) hd) rfl rfl (rfl)⟩
theorem kind28 {d s c z n : Int} (h : validF ⟨28, d, s, c, z, n⟩ = true) : ∃ f ∈ formsF, fitsF f ⟨28, d, s, c, z, n⟩ = true := by
  obtain ⟨⟨_, hd, hs, hc⟩, h1, h2, h4, h8, h16, hz⟩ := valid_parts h
  obtain rfl : s = 0 := none_off (by dsimp only; decide) h2
  obtain rfl : n = 0 := none_off (by dsimp only; decide) h4
  obtain rfl : c = 0 := none_off (by dsimp only; decide) h8
  obtain rfl : z = 0 := none_off (by dsimp only; decide) h16
  exact ⟨_, List.mem_of_getElem? (show formsF[32]? = some ⟨28, 0, 0, true, 1, [211], 3, 7, 2, 0, 0, 0⟩ from rfl), fit_mk rfl rfl (fld_some (by decide) hd) rfl rfl (rfl)⟩
theorem kind29 {d s c z n : Int} (h : validF ⟨29, d, s, c, z, n⟩ = true) : ∃ f ∈ formsF, fitsF f ⟨29, d, s, c, z, n⟩ = true := by
  obtain ⟨⟨_, hd, hs, hc⟩, h1, h2, h4, h8, h16, hz⟩ := valid_parts h
  obtain rfl : s = 0 := none_off (by dsimp only; decide) h2
  obtain rfl : c = 0 := none_off (by dsimp only; decide) h8
  obtain rfl : z = 0 := none_off (by dsimp only; decide) h16
  rw [sizedF, if_neg (by dsimp only; decide), if_neg (by dsimp only; decide), if_pos (by dsimp only; decide)] at hz
  exact ⟨_, List.mem_of_getElem? (show formsF[33]? = some ⟨29, 0, 0, true, 1, [193], 3, 4, 2, 0, 0, 5⟩ from rfl), fit_mk rfl rfl (fld_some (by decide) hd) rfl rfl (hz)⟩
theorem kind30 {d s c z n : Int} (h : validF ⟨30, d, s, c, z, n⟩ = true) : ∃ f ∈ formsF, fitsF f ⟨30, d, s, c, z, n⟩ = true := by
  obtain ⟨⟨_, hd, hs, hc⟩, h1, h2, h4, h8, h16, hz⟩ := valid_parts h
  obtain rfl : s = 0 := none_off (by dsimp only; decide) h2
  obtain rfl : c = 0 := none_off (by dsimp only; decide) h8
  obtain rfl : z = 0 := none_off (by dsimp only; decide) h16
  rw [sizedF, if_neg (by dsimp only; decide), if_neg (by dsimp only; decide), if_pos (by dsimp only; decide)] at hz
  exact ⟨_, List.mem_of_getElem? (show formsF[34]? = some ⟨30, 0, 0, true, 1, [193], 3, 5, 2, 0, 0, 5⟩ from rfl), fit_mk rfl rfl (fld_some (by decide) hd) rfl rfl (hz)⟩
theorem kind31 {d s c z n : Int} (h : validF ⟨31, d, s, c, z, n⟩ = true) : ∃ f ∈ formsF, fitsF f ⟨31, d, s, c, z, n⟩ = true := by
  obtain ⟨⟨_, hd, hs, hc⟩, h1, h2, h4, h8, h16, hz⟩ := valid_parts h
  obtain rfl : s = 0 := none_off (by dsimp only; decide) h2
  obtain rfl : c = 0 := none_off (by dsimp only; decide) h8
  obtain rfl : z = 0 := none_off (by dsimp only; decide) h16
  rw [sizedF, if_neg (by dsimp only; decide), if_neg (by dsimp only; decide), if_pos (by dsimp only; decide)] at hz
  exact ⟨_, List.mem_of_getElem? (show formsF[35]? = some ⟨31, 0, 0, true, 1, [193], 3, 7, 2, 0, 0, 5⟩ from rfl), fit_mk rfl rfl (fld_some (by decide) hd) rfl rfl (hz)⟩
theorem kind32 {d s c z n : Int} (h : validF ⟨32, d, s, c, z, n⟩ = true) : ∃ f ∈ formsF, fitsF f ⟨32, d, s, c, z, n⟩ = true := by
  obtain ⟨⟨_, hd, hs, hc⟩, h1, h2, h4, h8, h16, hz⟩ := valid_parts h
  obtain rfl : s = 0 := none_off (by dsimp only; decide) h2
  obtain rfl : n = 0 := none_off (by dsimp only; decide) h4
  obtain rfl : z = 0 := none_off (by dsimp only; decide) h16
  exact ⟨_, List.mem_of_getElem? (show formsF[36]? = some ⟨32, 0, 0, true, 0, [15, 144], 3, 0, 2, 0, 4, 0⟩ from rfl), fit_mk rfl rfl (fld_some (by decide) hd) rfl (fld_some (by decide) hc) (rfl)⟩
theorem kind33 {d s c z n : Int} (h : validF ⟨33, d, s, c, z, n⟩ = true) : ∃ f ∈ formsF, fitsF f ⟨33, d, s, c, z, n⟩ = true := by
  obtain ⟨⟨_, hd, hs, hc⟩, h1, h2, h4, h8, h16, hz⟩ := valid_parts h
  obtain rfl : n = 0 := none_off (by dsimp only; decide) h4
  obtain rfl : c = 0 := none_off (by dsimp only; decide) h8
  obtain rfl : z = 0 := none_off (by dsimp only; decide) h16
  exact ⟨_, List.mem_of_getElem? (show formsF[37]? = some ⟨33, 0, 0, true, 1, [15, 182], 3, 0, 1, 2, 0, 0⟩ from rfl), fit_mk rfl rfl (fld_some (by decide) hd) (fld_some (by decide) hs) rfl (rfl)⟩
theorem kind34 {d s c z n : Int} (h : validF ⟨34, d, s, c, z, n⟩ = true) : ∃ f ∈ formsF, fitsF f ⟨34, d, s, c, z, n⟩ = true := by
  obtain ⟨⟨_, hd, hs, hc⟩, h1, h2, h4, h8, h16, hz⟩ := valid_parts h
  obtain rfl : n = 0 := none_off (by dsimp only; decide) h4
  obtain rfl : z = 0 := none_off (by dsimp only; decide) h16
  exact ⟨_, List.mem_of_getElem? (show formsF[38]? = some ⟨34, 0, 0, true, 1, [15, 64], 3, 0, 1, 2, 4, 0⟩ from rfl), fit_mk rfl rfl (fld_some (by decide) hd) (fld_some (by decide) hs) (fld_some (by decide) hc) (rfl)⟩
theorem kind35 {d s c z n : Int} (h : validF ⟨35, d, s, c, z, n⟩ = true) : ∃ f ∈ formsF, fitsF f ⟨35, d, s, c, z, n⟩ = true := by
  obtain ⟨⟨_, hd, hs, hc⟩, h1, h2, h4, h8, h16, hz⟩ := valid_parts h
  obtain rfl : d = 0 := none_off (by dsimp only; decide) h1
  obtain rfl : s = 0 := none_off (by dsimp only; decide) h2
  obtain rfl : c = 0 := none_off (by dsimp only; decide) h8
  rw [sizedF, if_neg (by dsimp only; decide), if_pos (by dsimp only; decide), Bool.or_eq_true, Bool.and_eq_true, Bool.and_eq_true] at hz
  rcases hz with ⟨hz, hn⟩ | ⟨hz, hn⟩
  · obtain rfl := of_decide_eq_true hz
    exact ⟨_, List.mem_of_getElem? (show formsF[40]? = some ⟨35, 4, 0, false, 0, [233], -1, 0, 0, 0, 0, 6⟩ from rfl), fit_mk rfl rfl rfl rfl rfl (hn)⟩
  · obtain rfl := of_decide_eq_true hz
    exact ⟨_, List.mem_of_getElem? (show formsF[39]? = some ⟨35, 1, 0, false, 0, [235], -1, 0, 0, 0, 0, 5⟩ from rfl), fit_mk rfl rfl rfl rfl rfl (hn)⟩
theorem kind36 {d s c z n : Int} (h : validF ⟨36, d, s, c, z, n⟩ = true) : ∃ f ∈ formsF, fitsF f ⟨36, d, s, c, z, n⟩ = true := by
  obtain ⟨⟨_, hd, hs, hc⟩, h1, h2, h4, h8, h16, hz⟩ := valid_parts h
  obtain rfl : d = 0 := none_off (by dsimp only; decide) h1
  obtain rfl : s = 0 := none_off (by dsimp only; decide) h2
  rw [sizedF, if_neg (by dsimp only; decide), if_pos (by dsimp only; decide), Bool.or_eq_true, Bool.and_eq_true, Bool.and_eq_true] at hz
  rcases hz with ⟨hz, hn⟩ | ⟨hz, hn⟩
  · obtain rfl := of_decide_eq_true hz
    exact ⟨_, List.mem_of_getElem? (show formsF[42]? = some ⟨36, 4, 0, false, 0, [15, 128], -1, 0, 0, 0, 4, 6⟩ from rfl), fit_mk rfl rfl rfl rfl (fld_some (by decide) hc) (hn)⟩
  · obtain rfl := of_decide_eq_true hz
    exact ⟨_, List.mem_of_getElem? (show formsF[41]? = some ⟨36, 1, 0, false, 0, [112], -1, 0, 0, 0, 4, 5⟩ from rfl), fit_mk rfl rfl rfl rfl (fld_some (by decide) hc) (hn)⟩
theorem kind37 {d s c z n : Int} (h : validF ⟨37, d, s, c, z, n⟩ = true) : ∃ f ∈ formsF, fitsF f ⟨37, d, s, c, z, n⟩ = true := by
  obtain ⟨⟨_, hd, hs, hc⟩, h1, h2, h4, h8, h16, hz⟩ := valid_parts h
  obtain rfl : d = 0 := none_off (by dsimp only; decide) h1
  obtain rfl : s = 0 := none_off (by dsimp only; decide) h2
  obtain rfl : c = 0 := none_off (by dsimp only; decide) h8
  obtain rfl : z = 0 := none_off (by dsimp only; decide) h16
  rw [sizedF, if_neg (by dsimp only; decide), if_neg (by dsimp only; decide), if_neg (by dsimp only; decide)] at hz
  have hn : smallF n = true := hz
  exact ⟨_, List.mem_of_getElem? (show formsF[43]? = some ⟨37, 0, 0, false, 0, [232], -1, 0, 0, 0, 0, 6⟩ from rfl), fit_mk rfl rfl rfl rfl rfl (hn)⟩
theorem kind38 {d s c z n : Int} (h : validF ⟨38, d, s, c, z, n⟩ = true) : ∃ f ∈ formsF, fitsF f ⟨38, d, s, c, z, n⟩ = true := by
  obtain ⟨⟨_, hd, hs, hc⟩, h1, h2, h4, h8, h16, hz⟩ := valid_parts h
  obtain rfl : s = 0 := none_off (by dsimp only; decide) h2
  obtain rfl : n = 0 := none_off (by dsimp only; decide) h4
  obtain rfl : c = 0 := none_off (by dsimp only; decide) h8
  obtain rfl : z = 0 := none_off (by dsimp only; decide) h16
  exact ⟨_, List.mem_of_getElem? (show formsF[44]? = some ⟨38, 0, 0, true, 0, [255], 3, 2, 2, 0, 0, 0⟩ from rfl), fit_mk rfl rfl (fld_some (by decide) hd) rfl rfl (rfl)⟩
theorem kind39 {d s c z n : Int} (h : validF ⟨39, d, s, c, z, n⟩ = true) : ∃ f ∈ formsF, fitsF f ⟨39, d, s, c, z, n⟩ = true := by
  obtain ⟨⟨_, hd, hs, hc⟩, h1, h2, h4, h8, h16, hz⟩ := valid_parts h
  obtain rfl : s = 0 := none_off (by dsimp only; decide) h2
  obtain rfl : n = 0 := none_off (by dsimp only; decide) h4
  obtain rfl : c = 0 := none_off (by dsimp only; decide) h8
  obtain rfl : z = 0 := none_off (by dsimp only; decide) h16
  exact ⟨_, List.mem_of_getElem? (show formsF[45]? = some ⟨39, 0, 0, true, 0, [255], 3, 4, 2, 0, 0, 0⟩ from rfl), fit_mk rfl rfl (fld_some (by decide) hd) rfl rfl (rfl)⟩
theorem kind40 {d s c z n : Int} (h : validF ⟨40, d, s, c, z, n⟩ = true) : ∃ f ∈ formsF, fitsF f ⟨40, d, s, c, z, n⟩ = true := by
  obtain ⟨⟨_, hd, hs, hc⟩, h1, h2, h4, h8, h16, hz⟩ := valid_parts h
  obtain rfl : d = 0 := none_off (by dsimp only; decide) h1
  obtain rfl : s = 0 := none_off (by dsimp only; decide) h2
  obtain rfl : n = 0 := none_off (by dsimp only; decide) h4
  obtain rfl : c = 0 := none_off (by dsimp only; decide) h8
  obtain rfl : z = 0 := none_off (by dsimp only; decide) h16
  exact ⟨_, List.mem_of_getElem? (show formsF[46]? = some ⟨40, 0, 0, false, 0, [195], -1, 0, 0, 0, 0, 0⟩ from rfl), fit_mk rfl rfl rfl rfl rfl (rfl)⟩
theorem kind41 {d s c z n : Int} (h : validF ⟨41, d, s, c, z, n⟩ = true) : ∃ f ∈ formsF, fitsF f ⟨41, d, s, c, z, n⟩ = true := by
  obtain ⟨⟨_, hd, hs, hc⟩, h1, h2, h4, h8, h16, hz⟩ := valid_parts h
  obtain rfl : s = 0 := none_off (by dsimp only; decide) h2
  obtain rfl : n = 0 := none_off (by dsimp only; decide) h4
  obtain rfl : c = 0 := none_off (by dsimp only; decide) h8
  obtain rfl : z = 0 := none_off (by dsimp only; decide) h16
  exact ⟨_, List.mem_of_getElem? (show formsF[47]? = some ⟨41, 0, 0, true, 0, [80], -1, 0, 3, 0, 0, 0⟩ from rfl), fit_mk rfl rfl (fld_some (by decide) hd) rfl rfl (rfl)⟩
theorem kind42 {d s c z n : Int} (h : validF ⟨42, d, s, c, z, n⟩ = true) : ∃ f ∈ formsF, fitsF f ⟨42, d, s, c, z, n⟩ = true := by
  obtain ⟨⟨_, hd, hs, hc⟩, h1, h2, h4, h8, h16, hz⟩ := valid_parts h
  obtain rfl : s = 0 := none_off (by dsimp only; decide) h2
  obtain rfl : n = 0 := none_off (by dsimp only; decide) h4
  obtain rfl : c = 0 := none_off (by dsimp only; decide) h8
  obtain rfl : z = 0 := none_off (by dsimp only; decide) h16
  exact ⟨_, List.mem_of_getElem? (show formsF[48]? = some ⟨42, 0, 0, true, 0, [88], -1, 0, 3, 0, 0, 0⟩ from rfl), fit_mk rfl rfl (fld_some (by decide) hd) rfl rfl (rfl)⟩
theorem kind43 {d s c z n : Int} (h : validF ⟨43, d, s, c, z, n⟩ = true) : ∃ f ∈ formsF, fitsF f ⟨43, d, s, c, z, n⟩ = true := by
  obtain ⟨⟨_, hd, hs, hc⟩, h1, h2, h4, h8, h16, hz⟩ := valid_parts h
  obtain rfl : d = 0 := none_off (by dsimp only; decide) h1
  obtain rfl : s = 0 := none_off (by dsimp only; decide) h2
  obtain rfl : n = 0 := none_off (by dsimp only; decide) h4
  obtain rfl : c = 0 := none_off (by dsimp only; decide) h8
  obtain rfl : z = 0 := none_off (by dsimp only; decide) h16
  exact ⟨_, List.mem_of_getElem? (show formsF[49]? = some ⟨43, 0, 0, false, 0, [15, 5], -1, 0, 0, 0, 0, 0⟩ from rfl), fit_mk rfl rfl rfl rfl rfl (rfl)⟩
theorem kind44 {d s c z n : Int} (h : validF ⟨44, d, s, c, z, n⟩ = true) : ∃ f ∈ formsF, fitsF f ⟨44, d, s, c, z, n⟩ = true := by
  obtain ⟨⟨_, hd, hs, hc⟩, h1, h2, h4, h8, h16, hz⟩ := valid_parts h
  obtain rfl : d = 0 := none_off (by dsimp only; decide) h1
  obtain rfl : s = 0 := none_off (by dsimp only; decide) h2
  obtain rfl : n = 0 := none_off (by dsimp only; decide) h4
  obtain rfl : c = 0 := none_off (by dsimp only; decide) h8
  obtain rfl : z = 0 := none_off (by dsimp only; decide) h16
  exact ⟨_, List.mem_of_getElem? (show formsF[50]? = some ⟨44, 0, 0, false, 0, [15, 11], -1, 0, 0, 0, 0, 0⟩ from rfl), fit_mk rfl rfl rfl rfl rfl (rfl)⟩
theorem kind45 {d s c z n : Int} (h : validF ⟨45, d, s, c, z, n⟩ = true) : ∃ f ∈ formsF, fitsF f ⟨45, d, s, c, z, n⟩ = true := by
  obtain ⟨⟨_, hd, hs, hc⟩, h1, h2, h4, h8, h16, hz⟩ := valid_parts h
  obtain rfl : n = 0 := none_off (by dsimp only; decide) h4
  obtain rfl : c = 0 := none_off (by dsimp only; decide) h8
  obtain rfl : z = 0 := none_off (by dsimp only; decide) h16
  exact ⟨_, List.mem_of_getElem? (show formsF[51]? = some ⟨45, 0, 102, true, 1, [15, 110], 3, 0, 1, 2, 0, 0⟩ from rfl), fit_mk rfl rfl (fld_some (by decide) hd) (fld_some (by decide) hs) rfl (rfl)⟩
theorem kind46 {d s c z n : Int} (h : validF ⟨46, d, s, c, z, n⟩ = true) : ∃ f ∈ formsF, fitsF f ⟨46, d, s, c, z, n⟩ = true := by
  obtain ⟨⟨_, hd, hs, hc⟩, h1, h2, h4, h8, h16, hz⟩ := valid_parts h
  obtain rfl : n = 0 := none_off (by dsimp only; decide) h4
  obtain rfl : c = 0 := none_off (by dsimp only; decide) h8
  obtain rfl : z = 0 := none_off (by dsimp only; decide) h16
  exact ⟨_, List.mem_of_getElem? (show formsF[52]? = some ⟨46, 0, 102, true, 1, [15, 126], 3, 0, 2, 1, 0, 0⟩ from rfl), fit_mk rfl rfl (fld_some (by decide) hd) (fld_some (by decide) hs) rfl (rfl)⟩
theorem kind47 {d s c z n : Int} (h : validF ⟨47, d, s, c, z, n⟩ = true) : ∃ f ∈ formsF, fitsF f ⟨47, d, s, c, z, n⟩ = true := by
  obtain ⟨⟨_, hd, hs, hc⟩, h1, h2, h4, h8, h16, hz⟩ := valid_parts h
  obtain rfl : n = 0 := none_off (by dsimp only; decide) h4
  obtain rfl : c = 0 := none_off (by dsimp only; decide) h8
  obtain rfl : z = 0 := none_off (by dsimp only; decide) h16
  exact ⟨_, List.mem_of_getElem? (show formsF[53]? = some ⟨47, 0, 242, true, 0, [15, 88], 3, 0, 1, 2, 0, 0⟩ from rfl), fit_mk rfl rfl (fld_some (by decide) hd) (fld_some (by decide) hs) rfl (rfl)⟩
theorem kind48 {d s c z n : Int} (h : validF ⟨48, d, s, c, z, n⟩ = true) : ∃ f ∈ formsF, fitsF f ⟨48, d, s, c, z, n⟩ = true := by
  obtain ⟨⟨_, hd, hs, hc⟩, h1, h2, h4, h8, h16, hz⟩ := valid_parts h
  obtain rfl : n = 0 := none_off (by dsimp only; decide) h4
  obtain rfl : c = 0 := none_off (by dsimp only; decide) h8
  obtain rfl : z = 0 := none_off (by dsimp only; decide) h16
  exact ⟨_, List.mem_of_getElem? (show formsF[54]? = some ⟨48, 0, 242, true, 0, [15, 89], 3, 0, 1, 2, 0, 0⟩ from rfl), fit_mk rfl rfl (fld_some (by decide) hd) (fld_some (by decide) hs) rfl (rfl)⟩
theorem kind49 {d s c z n : Int} (h : validF ⟨49, d, s, c, z, n⟩ = true) : ∃ f ∈ formsF, fitsF f ⟨49, d, s, c, z, n⟩ = true := by
  obtain ⟨⟨_, hd, hs, hc⟩, h1, h2, h4, h8, h16, hz⟩ := valid_parts h
  obtain rfl : n = 0 := none_off (by dsimp only; decide) h4
  obtain rfl : c = 0 := none_off (by dsimp only; decide) h8
  obtain rfl : z = 0 := none_off (by dsimp only; decide) h16
  exact ⟨_, List.mem_of_getElem? (show formsF[55]? = some ⟨49, 0, 242, true, 0, [15, 92], 3, 0, 1, 2, 0, 0⟩ from rfl), fit_mk rfl rfl (fld_some (by decide) hd) (fld_some (by decide) hs) rfl (rfl)⟩
theorem kind50 {d s c z n : Int} (h : validF ⟨50, d, s, c, z, n⟩ = true) : ∃ f ∈ formsF, fitsF f ⟨50, d, s, c, z, n⟩ = true := by
  obtain ⟨⟨_, hd, hs, hc⟩, h1, h2, h4, h8, h16, hz⟩ := valid_parts h
  obtain rfl : n = 0 := none_off (by dsimp only; decide) h4
  obtain rfl : c = 0 := none_off (by dsimp only; decide) h8
  obtain rfl : z = 0 := none_off (by dsimp only; decide) h16
  exact ⟨_, List.mem_of_getElem? (show formsF[56]? = some ⟨50, 0, 242, true, 0, [15, 94], 3, 0, 1, 2, 0, 0⟩ from rfl), fit_mk rfl rfl (fld_some (by decide) hd) (fld_some (by decide) hs) rfl (rfl)⟩
theorem kind51 {d s c z n : Int} (h : validF ⟨51, d, s, c, z, n⟩ = true) : ∃ f ∈ formsF, fitsF f ⟨51, d, s, c, z, n⟩ = true := by
  obtain ⟨⟨_, hd, hs, hc⟩, h1, h2, h4, h8, h16, hz⟩ := valid_parts h
  obtain rfl : n = 0 := none_off (by dsimp only; decide) h4
  obtain rfl : c = 0 := none_off (by dsimp only; decide) h8
  obtain rfl : z = 0 := none_off (by dsimp only; decide) h16
  exact ⟨_, List.mem_of_getElem? (show formsF[57]? = some ⟨51, 0, 102, true, 0, [15, 46], 3, 0, 1, 2, 0, 0⟩ from rfl), fit_mk rfl rfl (fld_some (by decide) hd) (fld_some (by decide) hs) rfl (rfl)⟩
theorem kind52 {d s c z n : Int} (h : validF ⟨52, d, s, c, z, n⟩ = true) : ∃ f ∈ formsF, fitsF f ⟨52, d, s, c, z, n⟩ = true := by
  obtain ⟨⟨_, hd, hs, hc⟩, h1, h2, h4, h8, h16, hz⟩ := valid_parts h
  obtain rfl : n = 0 := none_off (by dsimp only; decide) h4
  obtain rfl : c = 0 := none_off (by dsimp only; decide) h8
  obtain rfl : z = 0 := none_off (by dsimp only; decide) h16
  exact ⟨_, List.mem_of_getElem? (show formsF[58]? = some ⟨52, 0, 242, true, 1, [15, 42], 3, 0, 1, 2, 0, 0⟩ from rfl), fit_mk rfl rfl (fld_some (by decide) hd) (fld_some (by decide) hs) rfl (rfl)⟩
theorem valid_form {i : Ins} (h : validF i = true) : ∃ f ∈ formsF, fitsF f i = true := by
  have hk := (validF_regs h).1
  obtain ⟨k, d, s, c, z, n⟩ := i
  have hk : 1 ≤ k ∧ k ≤ 52 := hk
  have hk2 : k = 1 ∨ k = 2 ∨ k = 3 ∨ k = 4 ∨ k = 5 ∨ k = 6 ∨ k = 7 ∨ k = 8 ∨ k = 9 ∨ k = 10 ∨ k = 11 ∨ k = 12 ∨ k = 13 ∨ k = 14 ∨ k = 15 ∨ k = 16 ∨ k = 17 ∨ k = 18 ∨ k = 19 ∨ k = 20 ∨ k = 21 ∨ k = 22 ∨ k = 23 ∨ k = 24 ∨ k = 25 ∨ k = 26 ∨ k = 27 ∨ k = 28 ∨ k = 29 ∨ k = 30 ∨ k = 31 ∨ k = 32 ∨ k = 33 ∨ k = 34 ∨ k = 35 ∨ k = 36 ∨ k = 37 ∨ k = 38 ∨ k = 39 ∨ k = 40 ∨ k = 41 ∨ k = 42 ∨ k = 43 ∨ k = 44 ∨ k = 45 ∨ k = 46 ∨ k = 47 ∨ k = 48 ∨ k = 49 ∨ k = 50 ∨ k = 51 ∨ k = 52 := by omega
  rcases hk2 with rfl | rfl | rfl | rfl | rfl | rfl | rfl | rfl | rfl | rfl | rfl | rfl | rfl | rfl | rfl | rfl | rfl | rfl | rfl | rfl | rfl | rfl | rfl | rfl | rfl | rfl | rfl | rfl | rfl | rfl | rfl | rfl | rfl | rfl | rfl | rfl | rfl | rfl | rfl | rfl | rfl | rfl | rfl | rfl | rfl | rfl | rfl | rfl | rfl | rfl | rfl | rfl
  · exact kind1 h
  · exact kind2 h
  · exact kind3 h
  · exact kind4 h
  · exact kind5 h
  · exact kind6 h
  · exact kind7 h
  · exact kind8 h
  · exact kind9 h
  · exact kind10 h
  · exact kind11 h
  · exact kind12 h
  · exact kind13 h
  · exact kind14 h
  · exact kind15 h
  · exact kind16 h
  · exact kind17 h
  · exact kind18 h
  · exact kind19 h
  · exact kind20 h
  · exact kind21 h
  · exact kind22 h
  · exact kind23 h
  · exact kind24 h
  · exact kind25 h
  · exact kind26 h
  · exact kind27 h
  · exact kind28 h
  · exact kind29 h
  · exact kind30 h
  · exact kind31 h
  · exact kind32 h
  · exact kind33 h
  · exact kind34 h
  · exact kind35 h
  · exact kind36 h
  · exact kind37 h
  · exact kind38 h
  · exact kind39 h
  · exact kind40 h
  · exact kind41 h
  · exact kind42 h
  · exact kind43 h
  · exact kind44 h
  · exact kind45 h
  · exact kind46 h
  · exact kind47 h
  · exact kind48 h
  · exact kind49 h
  · exact kind50 h
  · exact kind51 h
  · exact kind52 h
theorem refF_some {i : Ins} (h : validF i = true) : ∃ f, refF i = some f ∧ f ∈ formsF ∧ fitsF f i = true := by
  cases hf : refF i with
  | none =>
    obtain ⟨f, h1, h2⟩ := valid_form h
    have := List.find?_eq_none.1 hf f h1
    exact absurd h2 this
  | some f => exact ⟨f, rfl, List.mem_of_find?_eq_some hf, List.find?_some (p := fun f => fitsF f i) hf⟩
theorem refF_none {i : Ins} (h : ¬ validF i = true) : refF i = none := by
  cases hf : refF i with
  | none => rfl
  | some f => exact absurd (forms_enc (List.mem_of_find?_eq_some hf) (List.find?_some (p := fun f => fitsF f i) hf)).1 h
theorem ref_valid (i : Ins) : (refF i).isSome = validF i := by
  by_cases h : validF i = true
  · obtain ⟨f, h1, _⟩ := refF_some h
    rw [h1, h]; rfl
  · rw [refF_none h]
    simpa using h
theorem ref_bytes (i : Ins) : refB i = if validF i = true then encF i else [] := by
  by_cases h : validF i = true
  · obtain ⟨f, h1, h2, h3⟩ := refF_some h
    rw [if_pos h, refB, h1, (forms_enc h2 h3).2]
  · rw [if_neg h, refB, refF_none h]
theorem ref_err (i : Ins) : refE i = encE i := by
  rw [refE, ref_valid, encE]
theorem ref_at {i : Ins} {j : Nat} (hj : j < formsF.length) (hp : ∀ k, k < j → fitsF (formsF.getD k default) i = false) (h : fitsF (formsF.getD j default) i = true) : refF i = some (formsF.getD j default) := by
  rw [refF, getD_eq' hj, List.find?_eq_some_iff_getElem]
  rw [getD_eq' hj] at h
  refine ⟨h, j, hj, rfl, fun k hk => ?_⟩
  have := hp k hk
  rw [getD_eq' (by omega)] at this
  rw [this]; rfl
theorem ref_out {i : Ins} (hp : ∀ k, k < formsF.length → fitsF (formsF.getD k default) i = false) : refF i = none := by
  rw [refF, List.find?_eq_none]
  intro f hf
  obtain ⟨k, hk, rfl⟩ := List.mem_iff_getElem.1 hf
  have := hp k hk
  rw [getD_eq' hk] at this
  rw [this]; decide
end Go.Proofs.YtjndpakhmgapjaaDoor

namespace Go.Proofs.YtjndpakhmgapjaaDoor
open Go Go.RowKit
set_option linter.unusedVariables false
set_option linter.unnecessarySimpa false
set_option linter.unusedSimpArgs false

set_option maxHeartbeats 1000000 in
theorem refEncode52 (i : Ins) :
    ACalls Tryd.prog 10 [insT i] [] fun t_ S => t_ = .tup [u8s (refB i), .v (.int .i64 (refE i))] := by
  have hfl : formsF.length = 59 := rfl
  refine ACalls.intro Tryd.func10 rfl Tryd.ntmps10 (Nat.le_of_ble_eq_true rfl) rfl fun X w0 => ?_
  refine AW.rseq ?_
  refine AWL.boxOp rfl rfl (B rfl) rfl (E rfl rfl) rfl (fun b1 => ?_)
  refine Y1 (Yv.assign rfl eV) ?_
  refine Y1 (Yv.assign rfl eV) ?_
  refine nl ?_
  refine AW.rseq ?_
  refine AWL.callT rfl rfl (B rfl) rfl ce_23 (E rfl rfl) evs0 (forms50) ?_
  rintro t7 S7 rfl
  refine Y1 (Yv.assign rfl eV) ?_
  refine nl ?_
  refine AW.seq ?_
  refine AW.rseq ?_
  refine Y1 (Yv.assign rfl eV) ?_
  refine nl ?_
  refine AW.block ?_
  refine AW.loop (fun (j : Nat) => [(1, true, .v (.pointer (some ⟨b1, 0, none⟩))), (4, true, .sl 12 (formsF.flatMap formCells)), (5, true, .v (.int .i64 (j : Int)))]) (fun (j : Nat) => [.box b1 23 (insCells i)]) (fun (j : Nat) => j ≤ 59 ∧ ∀ k, k < j → fitsF (formsF.getD k default) i = false) (fun (j : Nat) => 59 - j) 0 ?_ ?_ ?_ ?_
  · exact ⟨Nat.zero_le _, fun i hi => by omega⟩
  · exact (Sub.cons rfl rfl (Sub.cons rfl rfl (Sub.cons rfl rfl Sub.nil)))
  · rfl
  ·
   intro j hinv
   obtain ⟨hj, hpre⟩ := hinv
   refine AW.seq ?_
   refine AW.rseq ?_
   refine Y1 (Yv.move rfl eV) ?_
   refine Y1 (Yv.move rfl eV) ?_
   refine Y1 (Yv.lenSl rfl so_41 (B rfl) (E rfl rfl) len_forms) ?_
   refine Y1 (Yv.lss rfl eV eV) ?_
   refine nl ?_
   refine AW.cond rfl (fun h0t => ?_) (fun h0f => ?_)
   ·
    try replace h0t := of_decide_eq_true h0t
    refine AW.skip ?_
    refine AW.seq ?_
    refine AW.block ?_
    refine AW.rseqH (HeldBox b1 (insVals i)) rfl (tells_box (k := 0) rfl) ?_
    refine AWH.tk (i := 0) rfl rfl rfl (B rfl) (heldAll (freeMove rfl (E rfl rfl))) ?_
    refine AWH.tk (i := 1) rfl rfl rfl (B rfl) (heldAll (freeMove rfl (E rfl rfl))) ?_
    refine AWH.tk (i := 4) rfl rfl rfl (B rfl) (heldLoadA rfl ag_23 (E rfl rfl) rfl rfl rfl rfl) ?_
    refine AWH.one (i := 2) (by kernel_rfl) rfl ?_
    refine Y1 (Yv.indexSl rfl ss_41 (B rfl) (E rfl rfl) (E rfl rfl) (fun hg => ⟨rfl, (by first | omega | (simp only [len_ints, len_u8s, len_forms, len_inss]; omega))⟩)) ?_
    refine tb 0 rfl ?_
    refine AWH.one (i := 3) (by kernel_rfl) rfl ?_
    refine Y1 (Yv.loadRpA rfl ag_45 (E rfl rfl) (fun hg => form_get (by omega))) ?_
    refine tb 0 rfl ?_
    refine AWH.one (i := 5) (by kernel_rfl) rfl ?_
    refine AWL.callP rfl rfl (B rfl) rfl ce_24 (E rfl rfl) (evsC (E rfl rfl) (evsC (E rfl rfl) evs0)) (fits51 (formsF.getD j default) i) (fun t S h => h) ?_
    refine tb 0 rfl ?_
    refine AWH.one (i := 6) (by kernel_rfl) rfl ?_
    refine Y1 (Yv.assign rfl eV) ?_
    refine tb 0 rfl ?_
    refine AWH.done (by kernel_rfl) ?_
    refine AW.rseq ?_
    refine Y1 (Yv.move rfl eV) ?_
    refine nl ?_
    refine AW.cond rfl (fun h1t => ?_) (fun h1f => ?_)
    ·
     try replace h1t := of_decide_eq_true h1t
     have hr := fits_range h1t
     refine AW.rseqH (HeldBox b1 (insVals i)) rfl (tells_box (k := 0) rfl) ?_
     refine AWH.tk (i := 0) rfl rfl rfl (B rfl) (heldAll (freeMove rfl (E rfl rfl))) ?_
     refine AWH.tk (i := 1) rfl rfl rfl (B rfl) (heldAll (freeMove rfl (E rfl rfl))) ?_
     refine AWH.tk (i := 4) rfl rfl rfl (B rfl) (heldLoadA rfl ag_23 (E rfl rfl) rfl rfl rfl rfl) ?_
     refine AWH.one (i := 2) (by kernel_rfl) rfl ?_
     refine Y1 (Yv.indexSl rfl ss_41 (B rfl) (E rfl rfl) (E rfl rfl) (fun hg => ⟨rfl, (by first | omega | (simp only [len_ints, len_u8s, len_forms, len_inss]; omega))⟩)) ?_
     refine tb 0 rfl ?_
     refine AWH.one (i := 3) (by kernel_rfl) rfl ?_
     refine Y1 (Yv.loadRpA rfl ag_45 (E rfl rfl) (fun hg => form_get (by omega))) ?_
     refine tb 0 rfl ?_
     refine AWH.one (i := 5) (by kernel_rfl) rfl ?_
     refine AWL.callT rfl rfl (B rfl) rfl ce_25 (E rfl rfl) (evsC (E rfl rfl) (evsC (E rfl rfl) evs0)) (bytes62 (formsF.getD j default) i (forms_ok _ (getD_mem' (by omega))) hr.1 hr.2.1 hr.2.2) ?_
     rintro t26 S26 rfl
     refine tb 0 rfl ?_
     refine AWH.one (i := 6) (by kernel_rfl) rfl ?_
     refine Y1 (Yv.assign rfl eV) ?_
     refine tb 0 rfl ?_
     refine AWH.one (i := 7) (by kernel_rfl) rfl ?_
     refine Y1 (Yv.assign rfl eV) ?_
     refine tb 0 rfl ?_
     refine AWH.done (by kernel_rfl) ?_
     refine AW.ret (retI (.tmp rfl (.tmp rfl .nil)) ?_)
     have hrf := ref_at (i := i) (j := j) (by omega) hpre h1t
     rw [refB, refE, hrf]
     rfl
    try replace h1f := of_decide_eq_false h1f
    refine AW.skip ?_
    refine AW.region ?_
    refine Y1 (Yv.move rfl eV) ?_
    refine Y1 (Yv.addN_i64 rfl (E rfl rfl) (E rfl rfl) (fun hg => by omega)) ?_
    refine Y1 (Yv.assign rfl eV) ?_
    refine nl ?_
    refine ⟨j + 1, ⟨by omega, fun k hk => ?_⟩, by omega, Sub.cons rfl rfl (Sub.cons rfl rfl (Sub.cons rfl (by simp) Sub.nil)), rfl⟩
    rcases Nat.lt_or_ge k j with h | h
    · exact hpre k h
    · rw [show k = j by omega]; exact h1f
   try replace h0f := of_decide_eq_false h0f
   refine AW.exit ?_
   refine AW.rseq ?_
   refine Y1 (Yv.assign rfl eV) ?_
   refine Y1 (Yv.assign rfl eV) ?_
   refine nl ?_
   refine AW.retype (k := 2) (t' := u8s []) rfl (nil_sl (by decide)) ?_
   refine AW.ret (retI (.tmp rfl (.tmp rfl .nil)) ?_)
   have hrf := ref_out (i := i) (fun k hk => hpre k (by omega))
   rw [refB, refE, hrf]
   rfl

theorem refEncode_ (i : Ins) : ACalls Tryd.prog 10 [insT i] [] (fun t_ S => t_ = .tup [u8s (if validF i = true then encF i else []), .v (.int .i64 (encE i))]) := by
  rw [← ref_bytes, ← ref_err]
  exact refEncode52 i
set_option maxHeartbeats 1000000 in
theorem refAll31 (l : List Ins) (hl : l.length ≤ NL) :
    ACalls Tryd.prog 19 [inssT l] [] (fun t_ S => t_ = .tup [u8s (allB l), .v (.int .i64 (allE l))]) := by
  have hnl : l.length ≤ 1099511627 := hl
  refine ACalls.intro Tryd.func19 rfl Tryd.ntmps19 (Nat.le_of_ble_eq_true rfl) rfl fun X w0 => ?_
  refine AW.rseq ?_
  refine Y1 (Yv.assign rfl eV) ?_
  refine Y1 (Yv.assign rfl eV) ?_
  refine nl ?_
  refine AW.rseq ?_
  refine Y1 (Yv.assign rfl eV) ?_
  refine nl ?_
  refine AW.rowNil 5 1 ?_
  refine AW.seq ?_
  refine AW.rseq ?_
  refine Y1 (Yv.assign rfl eV) ?_
  refine nl ?_
  refine AW.block ?_
  refine AW.loop3 (fun (j : Nat) (Ao : Option Addr) (co : Nat) => [(0, true, inssT l), (4, true, .v (.slice Ao ((l.take j).flatMap encF).length co)), (5, true, .v (.int .i64 (j : Int)))]) (fun (j : Nat) (Ao : Option Addr) (co : Nat) => [.row Ao ((l.take j).flatMap encF).length co 5 1 (((l.take j).flatMap encF).map u8)]) (fun (j : Nat) (Ao : Option Addr) (co : Nat) => j ≤ l.length ∧ ∀ i, i < j → validF (l.getD i default) = true) (fun (j : Nat) (Ao : Option Addr) (co : Nat) => l.length - j) 0 none 0 ?_ ?_ ?_ ?_
  · exact ⟨Nat.zero_le _, fun i hi => by omega⟩
  · exact (Sub.cons rfl rfl (Sub.cons rfl rfl (Sub.cons rfl rfl Sub.nil)))
  · rfl
  ·
   intro j Ao co hinv
   obtain ⟨hj, hpre⟩ := hinv
   have hb1 := enc_le (l.take j)
   have hb2 := List.length_take_le j l
   have hb3 := encF_len (l.getD j default)
   refine AW.seq ?_
   refine AW.rseq ?_
   refine Y1 (Yv.move rfl eV) ?_
   refine Y1 (Yv.move rfl eV) ?_
   refine Y1 (Yv.lenSl rfl so_36 (B rfl) (E rfl rfl) len_inss) ?_
   refine Y1 (Yv.lss rfl eV eV) ?_
   refine nl ?_
   refine AW.cond rfl (fun h0t => ?_) (fun h0f => ?_)
   ·
    try replace h0t := of_decide_eq_true h0t
    refine AW.skip ?_
    refine AW.seq ?_
    refine AW.block ?_
    refine AW.rseq ?_
    refine Y1 (Yv.move rfl eV) ?_
    refine Y1 (Yv.move rfl eV) ?_
    refine Y1 (Yv.indexSl rfl ss_36 (B rfl) (E rfl rfl) (E rfl rfl) (fun hg => ⟨rfl, (by first | omega | (simp only [len_ints, len_u8s, len_forms, len_inss]; omega))⟩)) ?_
    refine Y1 (Yv.loadRpA rfl ag_23 (E rfl rfl) (fun hg => ins_get (by omega))) ?_
    refine AWL.callT rfl rfl (B rfl) rfl ce_10 (E rfl rfl) (evsC (E rfl rfl) evs0) (refEncode_ (l.getD j default)) ?_
    rintro t19 S19 rfl
    refine Y1 (Yv.move rfl eV) ?_
    refine Y1 (Yv.extract rfl eV rfl) ?_
    refine Y1 (Yv.extract rfl eV rfl) ?_
    refine Y1 (Yv.assign rfl eV) ?_
    refine Y1 (Yv.assign rfl eV) ?_
    refine nl ?_
    refine AW.seq ?_
    refine AW.rseq ?_
    refine Y1 (Yv.move rfl eV) ?_
    refine Y1 (Yv.neq rfl eV eV) ?_
    refine nl ?_
    refine AW.cond rfl (fun h1t => ?_) (fun h1f => ?_)
    ·
     try replace h1t := of_decide_eq_true h1t
     have hvj : ¬ validF (l.getD j default) = true := by rw [encE] at h1t; intro q; rw [if_pos q] at h1t; exact absurd h1t (by decide)
     refine AW.rseq ?_
     refine Y1 (Yv.move rfl eV) ?_
     refine Y1 (Yv.assign rfl eV) ?_
     refine Y1 (Yv.assign rfl eV) ?_
     refine nl ?_
     refine AW.retype (k := 2) (t' := u8s []) rfl (nil_sl (by decide)) ?_
     refine AW.ret (retI (.tmp rfl (.tmp rfl .nil)) ?_)
     rw [allB, allE, if_neg (all_bad (by omega) hvj), if_neg (all_bad (by omega) hvj), encE, if_neg hvj]
     rfl
    try replace h1f := of_decide_eq_false h1f
    have hvj : validF (l.getD j default) = true := by rw [encE] at h1f; by_cases q : validF (l.getD j default) = true; exact q; rw [if_neg q] at h1f; exact absurd h1f (by decide)
    refine AW.skip ?_
    rw [show (if validF (l.getD j default) = true then encF (l.getD j default) else []) = encF (l.getD j default) from if_pos hvj]
    refine AW.region ?_
    refine Y1 (Yv.move rfl eV) ?_
    refine Y1 (Yv.move rfl eV) ?_
    refine AWL.appendRow (i := 0) rfl rfl (B rfl) rfl el_24 (B rfl) rfl (E rfl rfl) (SrcT.sl so_24 (B rfl) (E rfl rfl) len_u8s) (by unfold maxLen; omega) (by omega) (fun A27 c27 => ?_)
    refine Y1 (Yv.assign rfl eV) ?_
    refine nl ?_
    refine AW.region ?_
    refine Y1 (Yv.move rfl eV) ?_
    refine Y1 (Yv.addN_i64 rfl (E rfl rfl) (E rfl rfl) (fun hg => by omega)) ?_
    refine Y1 (Yv.assign rfl eV) ?_
    refine nl ?_
    obtain ⟨heL, heC⟩ := enc_step (l := l) (j := j) (by omega)
    refine ⟨j + 1, A27, c27, ⟨by omega, fun i hi => ?_⟩, by omega, Sub.cons rfl rfl (Sub.cons rfl (by rw [heL]) (Sub.cons rfl (by simp) Sub.nil)), ?_⟩
    · rcases Nat.lt_or_ge i j with h | h
      · exact hpre i h
      · rw [show i = j by omega]; exact hvj
    rw [heL, heC]
    rfl
   try replace h0f := of_decide_eq_false h0f
   refine AW.exit ?_
   obtain rfl : j = l.length := by omega
   rw [List.take_length]
   refine AW.freeze 0 4 rfl (B rfl) rfl ?_
   refine AW.rseq ?_
   refine Y1 (Yv.move rfl eV) ?_
   refine Y1 (Yv.assign rfl eV) ?_
   refine Y1 (Yv.assign rfl eV) ?_
   refine nl ?_
   refine AW.ret (retI (.tmp rfl (.tmp rfl .nil)) ?_)
   rw [allB, allE, if_pos (all_good (fun i hi => hpre i (by omega))), if_pos (all_good (fun i hi => hpre i (by omega)))]
   rfl

end Go.Proofs.YtjndpakhmgapjaaDoor

namespace Go.Proofs.YtjndpakhmgapjaaDoor
open Go Go.RowKit
set_option linter.unusedSimpArgs false
set_option linter.unusedVariables false
set_option linter.unnecessarySimpa false
structure Rd where
  at_ : Nat
  cut : Bool
  wrong : Bool
  deriving DecidableEq
structure Rx where
  wide : Int
  reg : Int
  rm : Int
  deriving DecidableEq
def rdCells (bs : List UInt8) (r : Rd) : List T := [u8s bs, .v (.int .i64 (r.at_ : Int)), .v (.bool r.cut), .v (.bool r.wrong)]
def rxVals (x : Rx) : List Value := [.int .i64 x.wide, .int .i64 x.reg, .int .i64 x.rm]
def rxCells (x : Rx) : List T := [.v (.int .i64 x.wide), .v (.int .i64 x.reg), .v (.int .i64 x.rm)]
def rxT (x : Rx) : T := .agg (rxCells x)
def nilI : Ins := ⟨0, 0, 0, 0, 0, 0⟩
def byteAt (bs : List UInt8) (k : Nat) : Int := ((bs.getD k 0).toNat : Int)
def nextF (bs : List UInt8) (r : Rd) : Int × Rd :=
  if (r.cut || r.wrong) = true then (0, r) else if r.at_ = bs.length then (0, ⟨r.at_, true, r.wrong⟩) else (byteAt bs r.at_, ⟨r.at_ + 1, r.cut, r.wrong⟩)
def mustF (r : Rd) (is : Bool) : Rd := if (!r.cut && !is) = true then ⟨r.at_, r.cut, true⟩ else r
abbrev orI (a b : Int) : Int := bitsOf .or .i64 a b
abbrev andI (a b : Int) : Int := bitsOf .and .i64 a b
def splitF (x : Int) : Rx := ⟨x / 8 % 2, x / 4 % 2 * 8, x % 2 * 8⟩
/-- So many bytes, the lowest first, as one number. -/
def immS (bs : List UInt8) (r : Rd) : Nat → Int × Rd
  | 0 => (0, r)
  | k + 1 => ((immS bs r k).1 + (nextF bs (immS bs r k).2).1 * 256 ^ k, (nextF bs (immS bs r k).2).2)
def sgn (k : Nat) (n : Int) : Int := if 2 * n < 256 ^ k then n else n - 256 ^ k
def immV (bs : List UInt8) (r : Rd) (k : Nat) : Int := sgn k (immS bs r k).1
def immD (bs : List UInt8) (r : Rd) (k : Nat) : Rd := (immS bs r k).2
def twoV (bs : List UInt8) (x : Rx) (r : Rd) : Int × Int := (orI x.reg ((nextF bs r).1 / 8 % 8), orI x.rm ((nextF bs r).1 % 8))
def twoD (bs : List UInt8) (r : Rd) : Rd := mustF (nextF bs r).2 (decide ((nextF bs r).1 / 64 = 3))
def oneV (bs : List UInt8) (x : Rx) (r : Rd) : Int × Int := twoV bs x (mustF r (decide (x.reg = 0)))
def oneD (bs : List UInt8) (x : Rx) (r : Rd) : Rd := twoD bs (mustF r (decide (x.reg = 0)))
def memD1 (bs : List UInt8) (r : Rd) : Rd := mustF (nextF bs r).2 (decide ((nextF bs r).1 / 64 = 2))
def memD2 (bs : List UInt8) (r : Rd) : Rd := if (nextF bs r).1 % 8 = 4 then mustF (nextF bs (memD1 bs r)).2 (decide ((nextF bs (memD1 bs r)).1 = 36)) else memD1 bs r
def memV (bs : List UInt8) (x : Rx) (r : Rd) : Int × Int × Int := (orI x.reg ((nextF bs r).1 / 8 % 8), orI x.rm ((nextF bs r).1 % 8), immV bs (memD2 bs r) 4)
def memD (bs : List UInt8) (r : Rd) : Rd := immD bs (memD2 bs r) 4
def peekF (bs : List UInt8) (r : Rd) : Bool := decide ((r.at_ : Int) < (bs.length : Int)) && decide (byteAt bs r.at_ / 64 = 2)
def movedR (bs : List UInt8) (x : Rx) (r : Rd) : Ins × Rd :=
  if peekF bs r = true then (⟨4, (memV bs x r).2.1, (memV bs x r).1, 0, 8, (memV bs x r).2.2⟩, memD bs r) else (⟨1, (twoV bs x r).2, (twoV bs x r).1, 0, 0, 0⟩, twoD bs r)
def kindsN : List Int := [15, 16, 17, 18, 19, 20, 22, 23, 24, 25, 26, 27, 28, 29, 30, 31]
def stepN (op n a k : Int) : Int := if (decide ((opF k).1 = op) && decide ((opF k).2 = n)) = true then k else a
def kindN (op n : Int) (j : Nat) : Int := (kindsN.take j).foldl (stepN op n) 0
def numD1 (bs : List UInt8) (x : Rx) (op : Int) (r : Rd) : Rd := mustF (oneD bs x r) (decide (0 < kindN op (oneV bs x r).1 16))
def numberedR (bs : List UInt8) (x : Rx) (op : Int) (r : Rd) : Ins × Rd :=
  if op = 129 then (⟨kindN op (oneV bs x r).1 16, (oneV bs x r).2, 0, 0, 0, immV bs (numD1 bs x op r) 4⟩, immD bs (numD1 bs x op r) 4)
  else if op = 193 then (⟨kindN op (oneV bs x r).1 16, (oneV bs x r).2, 0, 0, 0, immV bs (numD1 bs x op r) 1⟩, mustF (immD bs (numD1 bs x op r) 1) (decide (0 ≤ immV bs (numD1 bs x op r) 1) && decide (immV bs (numD1 bs x op r) 1 ≤ 63)))
  else (⟨kindN op (oneV bs x r).1 16, (oneV bs x r).2, 0, 0, 0, 0⟩, numD1 bs x op r)
def narrowR (bs : List UInt8) (x : Rx) (op : Int) (r : Rd) : Ins × Rd :=
  if op = 139 then (⟨3, (memV bs x r).1, (memV bs x r).2.1, 0, 4, (memV bs x r).2.2⟩, memD bs r)
  else if op = 137 then (⟨4, (memV bs x r).2.1, (memV bs x r).1, 0, 4, (memV bs x r).2.2⟩, memD bs r)
  else if op = 136 then (⟨4, (memV bs x r).2.1, (memV bs x r).1, 0, 1, (memV bs x r).2.2⟩, memD bs r)
  else if op = 255 then (⟨if (oneV bs x r).1 = 2 then 38 else 39, (oneV bs x r).2, 0, 0, 0, 0⟩, mustF (oneD bs x r) (decide ((oneV bs x r).1 = 2) || decide ((oneV bs x r).1 = 4)))
  else if andI op 248 = 80 then (⟨41, orI x.rm (op % 8), 0, 0, 0, 0⟩, mustF r (decide (x.reg = 0)))
  else if andI op 248 = 88 then (⟨42, orI x.rm (op % 8), 0, 0, 0, 0⟩, mustF r (decide (x.reg = 0)))
  else (nilI, mustF r false)
def farD1 (x : Rx) (r : Rd) : Rd := mustF r (decide (x.wide = 1) || decide (x.reg = 0))
def farIn (bs : List UInt8) (x : Rx) (op : Int) (r : Rd) : Ins × Rd :=
  if (decide (x.wide = 0) && decide (andI op 240 = 144)) = true then (⟨32, (oneV bs x r).2, 0, op % 16, 0, 0⟩, mustF (oneD bs x r) (decide ((oneV bs x r).1 = 0)))
  else if (decide (x.wide = 1) && decide (andI op 240 = 64)) = true then (⟨34, (twoV bs x r).1, (twoV bs x r).2, op % 16, 0, 0⟩, twoD bs r)
  else if (decide (x.wide = 1) && decide (op = 175)) = true then (⟨21, (twoV bs x r).1, (twoV bs x r).2, 0, 0, 0⟩, twoD bs r)
  else if (decide (x.wide = 1) && decide (op = 182)) = true then
    if peekF bs r = true then (⟨3, (memV bs x r).1, (memV bs x r).2.1, 0, 1, (memV bs x r).2.2⟩, memD bs r) else (⟨33, (twoV bs x r).1, (twoV bs x r).2, 0, 0, 0⟩, twoD bs r)
  else (nilI, mustF r false)
def farR (bs : List UInt8) (x : Rx) (r : Rd) : Ins × Rd :=
  if ((nextF bs (farD1 x r)).2.cut || (nextF bs (farD1 x r)).2.wrong) = true then (nilI, (nextF bs (farD1 x r)).2) else farIn bs x (nextF bs (farD1 x r)).1 (nextF bs (farD1 x r)).2
def realK (first : Int) (x : Rx) (op : Int) : Int :=
  if (decide (first = 102) && decide (x.wide = 1) && decide (op = 110)) = true then 45
  else if (decide (first = 102) && decide (x.wide = 0) && decide (op = 46)) = true then 51
  else if (decide (first = 242) && decide (x.wide = 1) && decide (op = 42)) = true then 52
  else if (decide (first = 242) && decide (x.wide = 0) && decide (op = 88)) = true then 47
  else if (decide (first = 242) && decide (x.wide = 0) && decide (op = 89)) = true then 48
  else if (decide (first = 242) && decide (x.wide = 0) && decide (op = 92)) = true then 49
  else if (decide (first = 242) && decide (x.wide = 0) && decide (op = 94)) = true then 50
  else 0
def realIn (bs : List UInt8) (first : Int) (x : Rx) (op : Int) (r : Rd) : Ins × Rd :=
  if (decide (first = 102) && decide (x.wide = 1) && decide (op = 126)) = true then (⟨46, (twoV bs x r).2, (twoV bs x r).1, 0, 0, 0⟩, twoD bs r)
  else (⟨realK first x op, (twoV bs x (mustF r (decide (0 < realK first x op)))).1, (twoV bs x (mustF r (decide (0 < realK first x op)))).2, 0, 0, 0⟩, twoD bs (mustF r (decide (0 < realK first x op))))
def realD1 (bs : List UInt8) (r : Rd) : Rd := mustF (nextF bs r).2 (decide (andI (nextF bs r).1 242 = 64))
def realD2 (bs : List UInt8) (r : Rd) : Rd := mustF (nextF bs (realD1 bs r)).2 (decide ((nextF bs (realD1 bs r)).1 = 15))
def realR (bs : List UInt8) (first : Int) (r : Rd) : Ins × Rd :=
  if (nextF bs r).2.cut = true then (nilI, (nextF bs r).2)
  else if ((nextF bs (realD2 bs r)).2.cut || (nextF bs (realD2 bs r)).2.wrong) = true then (nilI, (nextF bs (realD2 bs r)).2)
  else realIn bs first (splitF (nextF bs r).1) (nextF bs (realD2 bs r)).1 (nextF bs (realD2 bs r)).2
def kindsP : List Int := [6, 7, 8, 9, 10, 11, 12, 13, 14]
def kindP (op : Int) : Option Int := kindsP.find? (fun k => decide ((opF k).1 = op))
def prefIn (bs : List UInt8) (x : Rx) (op : Int) (r : Rd) : Ins × Rd :=
  if op = 15 then farR bs x r
  else if x.wide = 0 then narrowR bs x op r
  else if andI op 248 = 184 then (⟨2, orI x.rm (op % 8), 0, 0, 0, immV bs (mustF r (decide (x.reg = 0))) 8⟩, mustF (immD bs (mustF r (decide (x.reg = 0))) 8) (!smallF (immV bs (mustF r (decide (x.reg = 0))) 8)))
  else if op = 139 then (⟨3, (memV bs x r).1, (memV bs x r).2.1, 0, 8, (memV bs x r).2.2⟩, memD bs r)
  else if op = 141 then (⟨5, (memV bs x r).1, (memV bs x r).2.1, 0, 0, (memV bs x r).2.2⟩, memD bs r)
  else if op = 137 then movedR bs x r
  else if op = 199 then (⟨2, (oneV bs x r).2, 0, 0, 0, immV bs (mustF (oneD bs x r) (decide ((oneV bs x r).1 = 0))) 4⟩, immD bs (mustF (oneD bs x r) (decide ((oneV bs x r).1 = 0))) 4)
  else if op = 129 ∨ op = 247 ∨ op = 211 ∨ op = 193 then numberedR bs x op r
  else match kindP op with
    | some k => (⟨k, (twoV bs x r).2, (twoV bs x r).1, 0, 0, 0⟩, twoD bs r)
    | none => (nilI, mustF r false)
def prefR (bs : List UInt8) (x : Rx) (r : Rd) : Ins × Rd :=
  if ((nextF bs r).2.cut || (nextF bs r).2.wrong) = true then (nilI, (nextF bs r).2) else prefIn bs x (nextF bs r).1 (nextF bs r).2
def insTwo (bs : List UInt8) (r : Rd) : Ins × Rd :=
  if (nextF bs r).1 = 5 then (⟨43, 0, 0, 0, 0, 0⟩, (nextF bs r).2)
  else if (nextF bs r).1 = 11 then (⟨44, 0, 0, 0, 0, 0⟩, (nextF bs r).2)
  else if andI (nextF bs r).1 240 = 128 then (⟨36, 0, 0, (nextF bs r).1 % 16, 4, immV bs (nextF bs r).2 4⟩, immD bs (nextF bs r).2 4)
  else (nilI, mustF (nextF bs r).2 false)
def insIn (bs : List UInt8) (x : Int) (r : Rd) : Ins × Rd :=
  if andI x 240 = 64 then prefR bs (splitF x) (mustF r (decide (andI x 2 = 0)))
  else if (decide (x = 102) || decide (x = 242)) = true then realR bs x r
  else if andI x 240 = 112 then (⟨36, 0, 0, x % 16, 1, immV bs r 1⟩, immD bs r 1)
  else if x = 235 then (⟨35, 0, 0, 0, 1, immV bs r 1⟩, immD bs r 1)
  else if x = 233 then (⟨35, 0, 0, 0, 4, immV bs r 4⟩, immD bs r 4)
  else if x = 232 then (⟨37, 0, 0, 0, 0, immV bs r 4⟩, immD bs r 4)
  else if x = 195 then (⟨40, 0, 0, 0, 0, 0⟩, r)
  else if x = 15 then insTwo bs r
  else (nilI, mustF r false)
def insR (bs : List UInt8) (r : Rd) : Ins × Rd :=
  if (nextF bs r).2.cut = true then (nilI, (nextF bs r).2) else insIn bs (nextF bs r).1 (nextF bs r).2
def rd0 : Rd := ⟨0, false, false⟩
def decI (bs : List UInt8) : Ins := if (insR bs rd0).2.wrong = true ∨ (insR bs rd0).2.cut = true then nilI else (insR bs rd0).1
def decN (bs : List UInt8) : Nat := if (insR bs rd0).2.wrong = true ∨ (insR bs rd0).2.cut = true then 0 else (insR bs rd0).2.at_
def decE (bs : List UInt8) : Int := if (insR bs rd0).2.wrong = true then 201 else if (insR bs rd0).2.cut = true then 202 else 0

section
variable {cx : Cx} {env : Env} {ops : Array Oper} {l : List Oper} {K : Env → St → Prop} {x : Ent} {E R : St}
/-- What a call has left behind its first entry goes behind what stood there. -/
theorem AWL.tuck (h : AWL cx ops l K env ((x :: R) ++ E)) : AWL cx ops l K env ((x :: E) ++ R) := by
  refine AWL.perm (S' := (x :: R) ++ E) ?_ h
  exact List.Perm.cons x List.perm_append_comm
end
/-! ### ranges -/
theorem byteAt_range (bs : List UInt8) (k : Nat) : 0 ≤ byteAt bs k ∧ byteAt bs k ≤ 255 := u8_toNat _
theorem next_range (bs : List UInt8) (r : Rd) : 0 ≤ (nextF bs r).1 ∧ (nextF bs r).1 ≤ 255 := by
  unfold nextF
  split
  · exact ⟨Int.le_refl 0, show (0 : Int) ≤ 255 by decide⟩
  · split
    · exact ⟨Int.le_refl 0, show (0 : Int) ≤ 255 by decide⟩
    · exact byteAt_range bs _
def RdOk (bs : List UInt8) (r : Rd) : Prop := r.at_ ≤ bs.length
theorem next_ok {bs : List UInt8} {r : Rd} (h : RdOk bs r) : RdOk bs (nextF bs r).2 := by
  unfold nextF
  split
  · exact h
  · split
    · exact h
    · unfold RdOk at h ⊢
      show r.at_ + 1 ≤ bs.length
      omega
theorem must_ok {bs : List UInt8} {r : Rd} (h : RdOk bs r) (is : Bool) : RdOk bs (mustF r is) := by
  unfold mustF
  split <;> exact h
theorem imm_ok {bs : List UInt8} {r : Rd} (h : RdOk bs r) : ∀ k, RdOk bs (immS bs r k).2
  | 0 => h
  | k + 1 => next_ok (imm_ok h k)
theorem imm_range (bs : List UInt8) (r : Rd) : ∀ k, 0 ≤ (immS bs r k).1 ∧ (immS bs r k).1 < 256 ^ k
  | 0 => ⟨Int.le_refl _, show (0 : Int) < 1 by decide⟩
  | k + 1 => by
    obtain ⟨h1, h2⟩ := imm_range bs r k
    obtain ⟨h3, h4⟩ := next_range bs (immS bs r k).2
    have hp : (0 : Int) < 256 ^ k := Int.pow_pos (by decide)
    have h5 : 0 ≤ (nextF bs (immS bs r k).2).1 * 256 ^ k := Int.mul_nonneg h3 (by omega)
    have h6 : (nextF bs (immS bs r k).2).1 * 256 ^ k ≤ 255 * 256 ^ k := Int.mul_le_mul_of_nonneg_right h4 (by omega)
    have e : (256 : Int) ^ (k + 1) = 256 ^ k * 256 := Int.pow_succ ..
    show 0 ≤ (immS bs r k).1 + _ ∧ (immS bs r k).1 + _ < 256 ^ (k + 1)
    rw [e]
    omega

/-! ### numbers, byte by byte -/
theorem or_add (n v : Nat) (j : Nat) (hn : n < 2 ^ j) : n ||| v * 2 ^ j = n + v * 2 ^ j := by
  rw [Nat.or_comm, Nat.add_comm, Nat.mul_comm, Nat.two_pow_add_eq_or_of_lt hn]
theorem p256 (j : Nat) : (256 : Nat) ^ j = 2 ^ (8 * j) := by
  rw [Nat.pow_mul]
theorem or_shl {n v : Int} {j : Nat} (hj : j < 8) (h0 : 0 ≤ n) (h1 : n < 256 ^ j) (hv0 : 0 ≤ v) (hv1 : v ≤ 255) : bitsOf .or .u64 n (shlOf .u64 v (8 * (j : Int))) = n + v * 256 ^ j := by
  obtain ⟨n, rfl⟩ := Int.eq_ofNat_of_zero_le h0
  obtain ⟨v, rfl⟩ := Int.eq_ofNat_of_zero_le hv0
  have hp : (256 : Int) ^ j = ((256 ^ j : Nat) : Int) := by rw [Int.natCast_pow]; rfl
  rw [hp] at h1 ⊢
  have h1 : n < 256 ^ j := by omega
  have hv1 : v ≤ 255 := by omega
  have hle : (256 : Nat) ^ j ≤ 256 ^ 7 := Nat.pow_le_pow_right (by decide) (by omega)
  have hb : v * 256 ^ j ≤ 255 * 256 ^ j := Nat.mul_le_mul_right _ hv1
  have hs : shlOf .u64 (v : Int) (8 * (j : Int)) = ((v * 256 ^ j : Nat) : Int) := by
    unfold shlOf
    have e1 : (8 * (j : Int)).toNat = 8 * j := by omega
    have e2 : min (8 * j) IntKind.u64.bits = 8 * j := Nat.min_eq_left (by show 8 * j ≤ 64; omega)
    rw [e1, e2]
    have e3 : (v : Int) * 2 ^ (8 * j) = ((v * 256 ^ j : Nat) : Int) := by rw [p256, Int.natCast_mul, Int.natCast_pow]; rfl
    rw [e3]
    exact IntWalk.u64_in _ ⟨by omega, by omega⟩
  rw [hs]
  show IntKind.u64.wrap ((BitVec.ofInt 64 (n : Int) ||| BitVec.ofInt 64 ((v * 256 ^ j : Nat) : Int)).toNat : Int) = _
  have en : BitVec.ofInt 64 (n : Int) = BitVec.ofNat 64 n := by rw [BitVec.ofInt_natCast]
  have ev : BitVec.ofInt 64 ((v * 256 ^ j : Nat) : Int) = BitVec.ofNat 64 (v * 256 ^ j) := by rw [BitVec.ofInt_natCast]
  rw [en, ev, BitVec.toNat_or, BitVec.toNat_ofNat, BitVec.toNat_ofNat, Nat.mod_eq_of_lt (by omega), Nat.mod_eq_of_lt (by omega)]
  have := or_add n v (8 * j) (by rw [← p256]; exact h1)
  rw [← p256] at this
  rw [this, ← Int.natCast_mul, ← Int.natCast_add]
  exact IntWalk.u64_in _ ⟨by omega, by omega⟩
theorem sgn_eq {k : Nat} (hk : k = 1 ∨ k = 4 ∨ k = 8) {n : Int} (h0 : 0 ≤ n) (h1 : n < 256 ^ k) : shrOf .i64 (IntKind.i64.wrap (shlOf .u64 n (64 - 8 * (k : Int)))) (64 - 8 * (k : Int)) = sgn k n := by
  unfold shrOf shlOf sgn
  rcases hk with rfl | rfl | rfl
  · show (IntKind.i64.wrap (IntKind.u64.wrap (n * 72057594037927936))).fdiv 72057594037927936 = if 2 * n < 256 then n else n - 256
    rw [Int.fdiv_eq_ediv_of_nonneg _ (by decide), IntKind.wrap_i64, IntKind.wrap_u64]
    have h1 : n < 256 := h1
    split <;> omega
  · show (IntKind.i64.wrap (IntKind.u64.wrap (n * 4294967296))).fdiv 4294967296 = if 2 * n < 4294967296 then n else n - 4294967296
    rw [Int.fdiv_eq_ediv_of_nonneg _ (by decide), IntKind.wrap_i64, IntKind.wrap_u64]
    have h1 : n < 4294967296 := h1
    split <;> omega
  · show (IntKind.i64.wrap (IntKind.u64.wrap (n * 1))).fdiv 1 = if 2 * n < 18446744073709551616 then n else n - 18446744073709551616
    rw [Int.fdiv_eq_ediv_of_nonneg _ (by decide), IntKind.wrap_i64, IntKind.wrap_u64]
    have h1 : n < 18446744073709551616 := h1
    split <;> omega
theorem kindN_next (op n : Int) {j : Nat} (h : j < 16) : kindN op n (j + 1) = stepN op n (kindN op n j) (kindsN.getD j 0) := by
  have hl : j < kindsN.length := h
  unfold kindN
  rw [List.take_succ_eq_append_getElem hl, List.foldl_append, List.getD_eq_getElem?_getD, List.getElem?_eq_getElem hl]
  rfl
theorem kindP_at {op : Int} {j : Nat} (hj : j < 9) (hp : ∀ i, i < j → ¬ (opF (kindsP.getD i 0)).1 = op) (h : (opF (kindsP.getD j 0)).1 = op) : kindP op = some (kindsP.getD j 0) := by
  have hl : j < kindsP.length := hj
  have g : ∀ i (hi : i < kindsP.length), kindsP.getD i 0 = kindsP[i] := fun i hi => by
    rw [List.getD_eq_getElem?_getD, List.getElem?_eq_getElem hi]; rfl
  rw [kindP, g j hl, List.find?_eq_some_iff_getElem]
  rw [g j hl] at h
  refine ⟨by rw [decide_eq_true_eq]; exact h, j, hl, rfl, fun i hi => ?_⟩
  have := hp i hi
  rw [g i (by omega)] at this
  rw [decide_eq_false this]; rfl
theorem kindP_none {op : Int} (hp : ∀ i, i < 9 → ¬ (opF (kindsP.getD i 0)).1 = op) : kindP op = none := by
  rw [kindP, List.find?_eq_none]
  intro k hk
  obtain ⟨i, hi, rfl⟩ := List.mem_iff_getElem.1 hk
  have := hp i hi
  rw [List.getD_eq_getElem?_getD, List.getElem?_eq_getElem hi] at this
  rw [decide_eq_true_eq]; exact this
theorem one_ok {bs : List UInt8} {r : Rd} (h : RdOk bs r) (x : Rx) : RdOk bs (oneD bs x r) := must_ok (next_ok (must_ok h _)) _
end Go.Proofs.YtjndpakhmgapjaaDoor
