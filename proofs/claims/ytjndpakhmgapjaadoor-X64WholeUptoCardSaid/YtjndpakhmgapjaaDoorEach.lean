/-
  EACH FORM of the document: what is of it may be, and has the form's bytes. Printed by program.
-/
import Derived.Test.YtjndpakhmgapjaaDoorForm
import Derived.Test.YtjndpakhmgapjaaDoorJmp
namespace Go.Proofs.YtjndpakhmgapjaaDoor
open Go Go.RowKit
set_option linter.unusedSimpArgs false
set_option linter.unusedVariables false
set_option linter.unnecessarySimpa false
theorem fld0 {n : Int} (h : fieldR 0 n = true) : n = 0 := by
  simpa [fieldR] using h
theorem leBytes_mod : ∀ (k m : Nat) (n : Int), k ≤ m → leBytes k (n % 256 ^ m) = leBytes k n
  | 0, _, _, _ => rfl
  | k + 1, 0, _, h => absurd h (by omega)
  | k + 1, m + 1, n, h => by
    have e0 : (256 : Int) ^ (m + 1) = 256 ^ m * 256 := Int.pow_succ ..
    have hp : (0 : Int) < 256 ^ m := Int.pow_pos (by decide)
    have e1 : n % 256 ^ (m + 1) % 256 = n % 256 := Int.emod_emod_of_dvd n ⟨256 ^ m, by rw [e0, Int.mul_comm]⟩
    have e2 : n % 256 ^ (m + 1) / 256 = (n / 256) % 256 ^ m := by
      have a1 := Int.emod_add_mul_ediv n (256 ^ (m + 1))
      have a2 := Int.emod_nonneg n (show (256 : Int) ^ (m + 1) ≠ 0 by rw [e0]; omega)
      have a3 := Int.emod_lt_of_pos n (show (0 : Int) < 256 ^ (m + 1) by rw [e0]; omega)
      have b1 : n / 256 = 256 ^ m * (n / 256 ^ (m + 1)) + n % 256 ^ (m + 1) / 256 := by
        have : n = 256 * (256 ^ m * (n / 256 ^ (m + 1))) + n % 256 ^ (m + 1) := by
          have e3 : 256 * (256 ^ m * (n / 256 ^ (m + 1))) = 256 ^ (m + 1) * (n / 256 ^ (m + 1)) := by rw [e0, ← Int.mul_assoc, Int.mul_comm 256]
          omega
        omega
      have b2 : 0 ≤ n % 256 ^ (m + 1) / 256 := by omega
      have b3 : n % 256 ^ (m + 1) / 256 < 256 ^ m := by omega
      rw [b1, Int.add_comm, Int.add_mul_emod_self_left, Int.emod_eq_of_lt b2 b3]
    rw [leBytes, leBytes, e1, e2, leBytes_mod k m (n / 256) (by omega)]
theorem imm_mod {k : Nat} (hk : k ≤ 8) (n : Int) : immF n k = leBytes k (n % 18446744073709551616) := (leBytes_mod k 8 n hk).symm
theorem mem_tail (q q' n : Int) (h : q' = q) : (if q % 8 = 4 then [(36 : UInt8)] else []) ++ immF n 4 = (if (decide ((2 : Int) = 2) && decide (q' % 8 = 4)) = true then [36] else []) ++ leBytes 4 (n % 18446744073709551616) := by
  subst h
  rw [imm_mod (by decide)]
  by_cases hq : q' % 8 = 4
  · rw [if_pos hq, if_pos (by simp [hq])]
  · rw [if_neg hq, if_neg (by simp [hq])]
theorem list2 {α : Type} {a b : α} {l m : List α} (h1 : a = b) (h2 : l = m) : a :: l = b :: m := by rw [h1, h2]
theorem bad0_of {i : Ins} (h : (fieldsF i.kind).2 = true) (hd : 0 ≤ i.d ∧ i.d ≤ 15) (hs : 0 ≤ i.s ∧ i.s ≤ 15) (hc : 0 ≤ i.cond ∧ i.cond ≤ 15) : bad0 i = false := by
  rw [bad0, h, inF_of hd.1 hd.2, inF_of hs.1 hs.2, inF_of hc.1 hc.2]
  rfl
theorem form0 {d s c z n k : Int} (h : fitsF ⟨1, 0, 0, true, 1, [137], 3, 0, 2, 1, 0, 0⟩ ⟨k, d, s, c, z, n⟩ = true) : validF ⟨k, d, s, c, z, n⟩ = true ∧ encF ⟨k, d, s, c, z, n⟩ = bytesF ⟨1, 0, 0, true, 1, [137], 3, 0, 2, 1, 0, 0⟩ ⟨k, d, s, c, z, n⟩ := by
  simp only [fitsF, Bool.and_eq_true, decide_eq_true_eq] at h
  obtain ⟨⟨⟨⟨⟨hk, hz⟩, hd⟩, hs⟩, hc⟩, hn⟩ := h
  subst hk; subst hz
  have dr := field_range hd
  have sr := field_range hs
  obtain rfl := fld0 hc
  obtain rfl : n = 0 := of_decide_eq_true hn
  refine ⟨valid_mk (bad0_of rfl dr sr ⟨Int.le_refl _, show (0 : Int) ≤ 15 by decide⟩) ?_, ?_⟩
  · have e : sizedF ⟨1, d, s, 0, 0, 0⟩ = true := by rw [sizedF, if_neg (by dsimp only; decide), if_neg (by dsimp only; decide), if_neg (by dsimp only; decide)]; rfl
    rw [e, none_any _ 1 _ (by dsimp only; decide), none_any _ 2 _ (by dsimp only; decide), none_zero _ 4, none_zero _ 8, none_zero _ 16]
    rfl
  · show byteOf (rexN true s d) :: 137 :: byteOf (twoN s d) :: [] = byteOf (64 + 8 * 1 + 4 * (s / 8) + (d + 0) / 8) :: byteOf (137 + 0 + 0) :: byteOf (64 * 3 + 8 * (s % 8) + (d + 0) % 8) :: []
    exact list2 (congrArg byteOf (by simp only [rexN, if_true, if_false, Bool.false_eq_true]; omega)) (list2 (rfl) (list2 (congrArg byteOf (by simp only [memN, twoN]; omega)) (rfl)))
theorem form1 {d s c z n k : Int} (h : fitsF ⟨2, 0, 0, true, 1, [199], 3, 0, 2, 0, 0, 6⟩ ⟨k, d, s, c, z, n⟩ = true) : validF ⟨k, d, s, c, z, n⟩ = true ∧ encF ⟨k, d, s, c, z, n⟩ = bytesF ⟨2, 0, 0, true, 1, [199], 3, 0, 2, 0, 0, 6⟩ ⟨k, d, s, c, z, n⟩ := by
  simp only [fitsF, Bool.and_eq_true, decide_eq_true_eq] at h
  obtain ⟨⟨⟨⟨⟨hk, hz⟩, hd⟩, hs⟩, hc⟩, hn⟩ := h
  subst hk; subst hz
  have dr := field_range hd
  obtain rfl := fld0 hs
  obtain rfl := fld0 hc
  have hn : smallF n = true := hn
  refine ⟨valid_mk (bad0_of rfl dr ⟨Int.le_refl _, show (0 : Int) ≤ 15 by decide⟩ ⟨Int.le_refl _, show (0 : Int) ≤ 15 by decide⟩) ?_, ?_⟩
  · have e : sizedF ⟨2, d, 0, 0, 0, n⟩ = true := by rw [sizedF, if_neg (by dsimp only; decide), if_neg (by dsimp only; decide), if_neg (by dsimp only; decide)]; rfl
    rw [e, none_any _ 1 _ (by dsimp only; decide), none_zero _ 2, none_any _ 4 _ (by dsimp only; decide), none_zero _ 8, none_zero _ 16]
    rfl
  · rw [show encF ⟨2, d, 0, 0, 0, n⟩ = (if smallF n = true then byteOf (rexN true 0 d) :: 199 :: byteOf (twoN 0 d) :: immF n 4 else byteOf (rexN true 0 d) :: byteOf (184 + d % 8) :: immF n 8) from rfl, if_pos hn]
    show byteOf (rexN true 0 d) :: 199 :: byteOf (twoN 0 d) :: immF n 4 = byteOf (64 + 8 * 1 + 4 * (0 / 8) + (d + 0) / 8) :: byteOf (199 + 0 + 0) :: byteOf (64 * 3 + 8 * (0) + (d + 0) % 8) :: leBytes 4 (n % 18446744073709551616)
    exact list2 (congrArg byteOf (by simp only [rexN, if_true, if_false, Bool.false_eq_true]; omega)) (list2 (rfl) (list2 (congrArg byteOf (by simp only [memN, twoN]; omega)) (imm_mod (by decide) n)))
theorem form2 {d s c z n k : Int} (h : fitsF ⟨2, 0, 0, true, 1, [184], -1, 0, 3, 0, 0, 7⟩ ⟨k, d, s, c, z, n⟩ = true) : validF ⟨k, d, s, c, z, n⟩ = true ∧ encF ⟨k, d, s, c, z, n⟩ = bytesF ⟨2, 0, 0, true, 1, [184], -1, 0, 3, 0, 0, 7⟩ ⟨k, d, s, c, z, n⟩ := by
  simp only [fitsF, Bool.and_eq_true, decide_eq_true_eq] at h
  obtain ⟨⟨⟨⟨⟨hk, hz⟩, hd⟩, hs⟩, hc⟩, hn⟩ := h
  subst hk; subst hz
  have dr := field_range hd
  obtain rfl := fld0 hs
  obtain rfl := fld0 hc
  have hn : smallF n = false := by simpa using (show (!smallF n) = true from hn)
  refine ⟨valid_mk (bad0_of rfl dr ⟨Int.le_refl _, show (0 : Int) ≤ 15 by decide⟩ ⟨Int.le_refl _, show (0 : Int) ≤ 15 by decide⟩) ?_, ?_⟩
  · have e : sizedF ⟨2, d, 0, 0, 0, n⟩ = true := by rw [sizedF, if_neg (by dsimp only; decide), if_neg (by dsimp only; decide), if_neg (by dsimp only; decide)]; rfl
    rw [e, none_any _ 1 _ (by dsimp only; decide), none_zero _ 2, none_any _ 4 _ (by dsimp only; decide), none_zero _ 8, none_zero _ 16]
    rfl
  · rw [show encF ⟨2, d, 0, 0, 0, n⟩ = (if smallF n = true then byteOf (rexN true 0 d) :: 199 :: byteOf (twoN 0 d) :: immF n 4 else byteOf (rexN true 0 d) :: byteOf (184 + d % 8) :: immF n 8) from rfl, if_neg (by rw [hn]; decide)]
    show byteOf (rexN true 0 d) :: byteOf (184 + d % 8) :: immF n 8 = byteOf (64 + 8 * 1 + 4 * (0 / 8) + (0 + d) / 8) :: byteOf (184 + 0 + d % 8) :: leBytes 8 (n % 18446744073709551616)
    exact list2 (congrArg byteOf (by simp only [rexN, if_true, if_false, Bool.false_eq_true]; omega)) (list2 (congrArg byteOf (by omega)) (imm_mod (by decide) n))
theorem form3 {d s c z n k : Int} (h : fitsF ⟨3, 8, 0, true, 1, [139], 2, 0, 1, 2, 0, 6⟩ ⟨k, d, s, c, z, n⟩ = true) : validF ⟨k, d, s, c, z, n⟩ = true ∧ encF ⟨k, d, s, c, z, n⟩ = bytesF ⟨3, 8, 0, true, 1, [139], 2, 0, 1, 2, 0, 6⟩ ⟨k, d, s, c, z, n⟩ := by
  simp only [fitsF, Bool.and_eq_true, decide_eq_true_eq] at h
  obtain ⟨⟨⟨⟨⟨hk, hz⟩, hd⟩, hs⟩, hc⟩, hn⟩ := h
  subst hk; subst hz
  have dr := field_range hd
  have sr := field_range hs
  obtain rfl := fld0 hc
  have hn : smallF n = true := hn
  refine ⟨valid_mk (bad0_of rfl dr sr ⟨Int.le_refl _, show (0 : Int) ≤ 15 by decide⟩) ?_, ?_⟩
  · have e : sizedF ⟨3, d, s, 0, 8, n⟩ = true := by rw [sizedF, if_pos (by dsimp only; decide), hn]; rfl
    rw [e, none_any _ 1 _ (by dsimp only; decide), none_any _ 2 _ (by dsimp only; decide), none_any _ 4 _ (by dsimp only; decide), none_zero _ 8, none_any _ 16 _ (by dsimp only; decide)]
    rfl
  · show byteOf (rexN true d s) :: 139 :: byteOf (memN d s) :: ((if s % 8 = 4 then [(36 : UInt8)] else []) ++ immF n 4) = byteOf (64 + 8 * 1 + 4 * (d / 8) + (s + 0) / 8) :: byteOf (139 + 0 + 0) :: byteOf (64 * 2 + 8 * (d % 8) + (s + 0) % 8) :: ((if (decide ((2 : Int) = 2) && decide ((s + 0) % 8 = 4)) = true then [36] else []) ++ leBytes 4 (n % 18446744073709551616))
    exact list2 (congrArg byteOf (by simp only [rexN, if_true, if_false, Bool.false_eq_true]; omega)) (list2 (rfl) (list2 (congrArg byteOf (by simp only [memN, twoN]; omega)) (mem_tail _ _ _ (by omega))))
theorem form4 {d s c z n k : Int} (h : fitsF ⟨3, 4, 0, true, 0, [139], 2, 0, 1, 2, 0, 6⟩ ⟨k, d, s, c, z, n⟩ = true) : validF ⟨k, d, s, c, z, n⟩ = true ∧ encF ⟨k, d, s, c, z, n⟩ = bytesF ⟨3, 4, 0, true, 0, [139], 2, 0, 1, 2, 0, 6⟩ ⟨k, d, s, c, z, n⟩ := by
  simp only [fitsF, Bool.and_eq_true, decide_eq_true_eq] at h
  obtain ⟨⟨⟨⟨⟨hk, hz⟩, hd⟩, hs⟩, hc⟩, hn⟩ := h
  subst hk; subst hz
  have dr := field_range hd
  have sr := field_range hs
  obtain rfl := fld0 hc
  have hn : smallF n = true := hn
  refine ⟨valid_mk (bad0_of rfl dr sr ⟨Int.le_refl _, show (0 : Int) ≤ 15 by decide⟩) ?_, ?_⟩
  · have e : sizedF ⟨3, d, s, 0, 4, n⟩ = true := by rw [sizedF, if_pos (by dsimp only; decide), hn]; rfl
    rw [e, none_any _ 1 _ (by dsimp only; decide), none_any _ 2 _ (by dsimp only; decide), none_any _ 4 _ (by dsimp only; decide), none_zero _ 8, none_any _ 16 _ (by dsimp only; decide)]
    rfl
  · show byteOf (rexN false d s) :: 139 :: byteOf (memN d s) :: ((if s % 8 = 4 then [(36 : UInt8)] else []) ++ immF n 4) = byteOf (64 + 8 * 0 + 4 * (d / 8) + (s + 0) / 8) :: byteOf (139 + 0 + 0) :: byteOf (64 * 2 + 8 * (d % 8) + (s + 0) % 8) :: ((if (decide ((2 : Int) = 2) && decide ((s + 0) % 8 = 4)) = true then [36] else []) ++ leBytes 4 (n % 18446744073709551616))
    exact list2 (congrArg byteOf (by simp only [rexN, if_true, if_false, Bool.false_eq_true]; omega)) (list2 (rfl) (list2 (congrArg byteOf (by simp only [memN, twoN]; omega)) (mem_tail _ _ _ (by omega))))
theorem form5 {d s c z n k : Int} (h : fitsF ⟨3, 1, 0, true, 1, [15, 182], 2, 0, 1, 2, 0, 6⟩ ⟨k, d, s, c, z, n⟩ = true) : validF ⟨k, d, s, c, z, n⟩ = true ∧ encF ⟨k, d, s, c, z, n⟩ = bytesF ⟨3, 1, 0, true, 1, [15, 182], 2, 0, 1, 2, 0, 6⟩ ⟨k, d, s, c, z, n⟩ := by
  simp only [fitsF, Bool.and_eq_true, decide_eq_true_eq] at h
  obtain ⟨⟨⟨⟨⟨hk, hz⟩, hd⟩, hs⟩, hc⟩, hn⟩ := h
  subst hk; subst hz
  have dr := field_range hd
  have sr := field_range hs
  obtain rfl := fld0 hc
  have hn : smallF n = true := hn
  refine ⟨valid_mk (bad0_of rfl dr sr ⟨Int.le_refl _, show (0 : Int) ≤ 15 by decide⟩) ?_, ?_⟩
  · have e : sizedF ⟨3, d, s, 0, 1, n⟩ = true := by rw [sizedF, if_pos (by dsimp only; decide), hn]; rfl
    rw [e, none_any _ 1 _ (by dsimp only; decide), none_any _ 2 _ (by dsimp only; decide), none_any _ 4 _ (by dsimp only; decide), none_zero _ 8, none_any _ 16 _ (by dsimp only; decide)]
    rfl
  · show byteOf (rexN true d s) :: 15 :: 182 :: byteOf (memN d s) :: ((if s % 8 = 4 then [(36 : UInt8)] else []) ++ immF n 4) = byteOf (64 + 8 * 1 + 4 * (d / 8) + (s + 0) / 8) :: byteOf (15 + 0 + 0) :: byteOf (182 + 0 + 0) :: byteOf (64 * 2 + 8 * (d % 8) + (s + 0) % 8) :: ((if (decide ((2 : Int) = 2) && decide ((s + 0) % 8 = 4)) = true then [36] else []) ++ leBytes 4 (n % 18446744073709551616))
    exact list2 (congrArg byteOf (by simp only [rexN, if_true, if_false, Bool.false_eq_true]; omega)) (list2 (rfl) (list2 (rfl) (list2 (congrArg byteOf (by simp only [memN, twoN]; omega)) (mem_tail _ _ _ (by omega)))))
theorem form6 {d s c z n k : Int} (h : fitsF ⟨4, 8, 0, true, 1, [137], 2, 0, 2, 1, 0, 6⟩ ⟨k, d, s, c, z, n⟩ = true) : validF ⟨k, d, s, c, z, n⟩ = true ∧ encF ⟨k, d, s, c, z, n⟩ = bytesF ⟨4, 8, 0, true, 1, [137], 2, 0, 2, 1, 0, 6⟩ ⟨k, d, s, c, z, n⟩ := by
  simp only [fitsF, Bool.and_eq_true, decide_eq_true_eq] at h
  obtain ⟨⟨⟨⟨⟨hk, hz⟩, hd⟩, hs⟩, hc⟩, hn⟩ := h
  subst hk; subst hz
  have dr := field_range hd
  have sr := field_range hs
  obtain rfl := fld0 hc
  have hn : smallF n = true := hn
  refine ⟨valid_mk (bad0_of rfl dr sr ⟨Int.le_refl _, show (0 : Int) ≤ 15 by decide⟩) ?_, ?_⟩
  · have e : sizedF ⟨4, d, s, 0, 8, n⟩ = true := by rw [sizedF, if_pos (by dsimp only; decide), hn]; rfl
    rw [e, none_any _ 1 _ (by dsimp only; decide), none_any _ 2 _ (by dsimp only; decide), none_any _ 4 _ (by dsimp only; decide), none_zero _ 8, none_any _ 16 _ (by dsimp only; decide)]
    rfl
  · show byteOf (rexN true s d) :: 137 :: byteOf (memN s d) :: ((if d % 8 = 4 then [(36 : UInt8)] else []) ++ immF n 4) = byteOf (64 + 8 * 1 + 4 * (s / 8) + (d + 0) / 8) :: byteOf (137 + 0 + 0) :: byteOf (64 * 2 + 8 * (s % 8) + (d + 0) % 8) :: ((if (decide ((2 : Int) = 2) && decide ((d + 0) % 8 = 4)) = true then [36] else []) ++ leBytes 4 (n % 18446744073709551616))
    exact list2 (congrArg byteOf (by simp only [rexN, if_true, if_false, Bool.false_eq_true]; omega)) (list2 (rfl) (list2 (congrArg byteOf (by simp only [memN, twoN]; omega)) (mem_tail _ _ _ (by omega))))
theorem form7 {d s c z n k : Int} (h : fitsF ⟨4, 4, 0, true, 0, [137], 2, 0, 2, 1, 0, 6⟩ ⟨k, d, s, c, z, n⟩ = true) : validF ⟨k, d, s, c, z, n⟩ = true ∧ encF ⟨k, d, s, c, z, n⟩ = bytesF ⟨4, 4, 0, true, 0, [137], 2, 0, 2, 1, 0, 6⟩ ⟨k, d, s, c, z, n⟩ := by
  simp only [fitsF, Bool.and_eq_true, decide_eq_true_eq] at h
  obtain ⟨⟨⟨⟨⟨hk, hz⟩, hd⟩, hs⟩, hc⟩, hn⟩ := h
  subst hk; subst hz
  have dr := field_range hd
  have sr := field_range hs
  obtain rfl := fld0 hc
  have hn : smallF n = true := hn
  refine ⟨valid_mk (bad0_of rfl dr sr ⟨Int.le_refl _, show (0 : Int) ≤ 15 by decide⟩) ?_, ?_⟩
  · have e : sizedF ⟨4, d, s, 0, 4, n⟩ = true := by rw [sizedF, if_pos (by dsimp only; decide), hn]; rfl
    rw [e, none_any _ 1 _ (by dsimp only; decide), none_any _ 2 _ (by dsimp only; decide), none_any _ 4 _ (by dsimp only; decide), none_zero _ 8, none_any _ 16 _ (by dsimp only; decide)]
    rfl
  · show byteOf (rexN false s d) :: 137 :: byteOf (memN s d) :: ((if d % 8 = 4 then [(36 : UInt8)] else []) ++ immF n 4) = byteOf (64 + 8 * 0 + 4 * (s / 8) + (d + 0) / 8) :: byteOf (137 + 0 + 0) :: byteOf (64 * 2 + 8 * (s % 8) + (d + 0) % 8) :: ((if (decide ((2 : Int) = 2) && decide ((d + 0) % 8 = 4)) = true then [36] else []) ++ leBytes 4 (n % 18446744073709551616))
    exact list2 (congrArg byteOf (by simp only [rexN, if_true, if_false, Bool.false_eq_true]; omega)) (list2 (rfl) (list2 (congrArg byteOf (by simp only [memN, twoN]; omega)) (mem_tail _ _ _ (by omega))))
theorem form8 {d s c z n k : Int} (h : fitsF ⟨4, 1, 0, true, 0, [136], 2, 0, 2, 1, 0, 6⟩ ⟨k, d, s, c, z, n⟩ = true) : validF ⟨k, d, s, c, z, n⟩ = true ∧ encF ⟨k, d, s, c, z, n⟩ = bytesF ⟨4, 1, 0, true, 0, [136], 2, 0, 2, 1, 0, 6⟩ ⟨k, d, s, c, z, n⟩ := by
  simp only [fitsF, Bool.and_eq_true, decide_eq_true_eq] at h
  obtain ⟨⟨⟨⟨⟨hk, hz⟩, hd⟩, hs⟩, hc⟩, hn⟩ := h
  subst hk; subst hz
  have dr := field_range hd
  have sr := field_range hs
  obtain rfl := fld0 hc
  have hn : smallF n = true := hn
  refine ⟨valid_mk (bad0_of rfl dr sr ⟨Int.le_refl _, show (0 : Int) ≤ 15 by decide⟩) ?_, ?_⟩
  · have e : sizedF ⟨4, d, s, 0, 1, n⟩ = true := by rw [sizedF, if_pos (by dsimp only; decide), hn]; rfl
    rw [e, none_any _ 1 _ (by dsimp only; decide), none_any _ 2 _ (by dsimp only; decide), none_any _ 4 _ (by dsimp only; decide), none_zero _ 8, none_any _ 16 _ (by dsimp only; decide)]
    rfl
  · show byteOf (rexN false s d) :: 136 :: byteOf (memN s d) :: ((if d % 8 = 4 then [(36 : UInt8)] else []) ++ immF n 4) = byteOf (64 + 8 * 0 + 4 * (s / 8) + (d + 0) / 8) :: byteOf (136 + 0 + 0) :: byteOf (64 * 2 + 8 * (s % 8) + (d + 0) % 8) :: ((if (decide ((2 : Int) = 2) && decide ((d + 0) % 8 = 4)) = true then [36] else []) ++ leBytes 4 (n % 18446744073709551616))
    exact list2 (congrArg byteOf (by simp only [rexN, if_true, if_false, Bool.false_eq_true]; omega)) (list2 (rfl) (list2 (congrArg byteOf (by simp only [memN, twoN]; omega)) (mem_tail _ _ _ (by omega))))
theorem form9 {d s c z n k : Int} (h : fitsF ⟨5, 0, 0, true, 1, [141], 2, 0, 1, 2, 0, 6⟩ ⟨k, d, s, c, z, n⟩ = true) : validF ⟨k, d, s, c, z, n⟩ = true ∧ encF ⟨k, d, s, c, z, n⟩ = bytesF ⟨5, 0, 0, true, 1, [141], 2, 0, 1, 2, 0, 6⟩ ⟨k, d, s, c, z, n⟩ := by
  simp only [fitsF, Bool.and_eq_true, decide_eq_true_eq] at h
  obtain ⟨⟨⟨⟨⟨hk, hz⟩, hd⟩, hs⟩, hc⟩, hn⟩ := h
  subst hk; subst hz
  have dr := field_range hd
  have sr := field_range hs
  obtain rfl := fld0 hc
  have hn : smallF n = true := hn
  refine ⟨valid_mk (bad0_of rfl dr sr ⟨Int.le_refl _, show (0 : Int) ≤ 15 by decide⟩) ?_, ?_⟩
  · have e : sizedF ⟨5, d, s, 0, 0, n⟩ = true := by rw [sizedF, if_neg (by dsimp only; decide), if_neg (by dsimp only; decide), if_neg (by dsimp only; decide), hn, Bool.or_true]
    rw [e, none_any _ 1 _ (by dsimp only; decide), none_any _ 2 _ (by dsimp only; decide), none_any _ 4 _ (by dsimp only; decide), none_zero _ 8, none_zero _ 16]
    rfl
  · show byteOf (rexN true d s) :: 141 :: byteOf (memN d s) :: ((if s % 8 = 4 then [(36 : UInt8)] else []) ++ immF n 4) = byteOf (64 + 8 * 1 + 4 * (d / 8) + (s + 0) / 8) :: byteOf (141 + 0 + 0) :: byteOf (64 * 2 + 8 * (d % 8) + (s + 0) % 8) :: ((if (decide ((2 : Int) = 2) && decide ((s + 0) % 8 = 4)) = true then [36] else []) ++ leBytes 4 (n % 18446744073709551616))
    exact list2 (congrArg byteOf (by simp only [rexN, if_true, if_false, Bool.false_eq_true]; omega)) (list2 (rfl) (list2 (congrArg byteOf (by simp only [memN, twoN]; omega)) (mem_tail _ _ _ (by omega))))
theorem form10 {d s c z n k : Int} (h : fitsF ⟨6, 0, 0, true, 1, [1], 3, 0, 2, 1, 0, 0⟩ ⟨k, d, s, c, z, n⟩ = true) : validF ⟨k, d, s, c, z, n⟩ = true ∧ encF ⟨k, d, s, c, z, n⟩ = bytesF ⟨6, 0, 0, true, 1, [1], 3, 0, 2, 1, 0, 0⟩ ⟨k, d, s, c, z, n⟩ := by
  simp only [fitsF, Bool.and_eq_true, decide_eq_true_eq] at h
  obtain ⟨⟨⟨⟨⟨hk, hz⟩, hd⟩, hs⟩, hc⟩, hn⟩ := h
  subst hk; subst hz
  have dr := field_range hd
  have sr := field_range hs
  obtain rfl := fld0 hc
  obtain rfl : n = 0 := of_decide_eq_true hn
  refine ⟨valid_mk (bad0_of rfl dr sr ⟨Int.le_refl _, show (0 : Int) ≤ 15 by decide⟩) ?_, ?_⟩
  · have e : sizedF ⟨6, d, s, 0, 0, 0⟩ = true := by rw [sizedF, if_neg (by dsimp only; decide), if_neg (by dsimp only; decide), if_neg (by dsimp only; decide)]; rfl
    rw [e, none_any _ 1 _ (by dsimp only; decide), none_any _ 2 _ (by dsimp only; decide), none_zero _ 4, none_zero _ 8, none_zero _ 16]
    rfl
  · show byteOf (rexN true s d) :: 1 :: byteOf (twoN s d) :: [] = byteOf (64 + 8 * 1 + 4 * (s / 8) + (d + 0) / 8) :: byteOf (1 + 0 + 0) :: byteOf (64 * 3 + 8 * (s % 8) + (d + 0) % 8) :: []
    exact list2 (congrArg byteOf (by simp only [rexN, if_true, if_false, Bool.false_eq_true]; omega)) (list2 (rfl) (list2 (congrArg byteOf (by simp only [memN, twoN]; omega)) (rfl)))
theorem form11 {d s c z n k : Int} (h : fitsF ⟨7, 0, 0, true, 1, [9], 3, 0, 2, 1, 0, 0⟩ ⟨k, d, s, c, z, n⟩ = true) : validF ⟨k, d, s, c, z, n⟩ = true ∧ encF ⟨k, d, s, c, z, n⟩ = bytesF ⟨7, 0, 0, true, 1, [9], 3, 0, 2, 1, 0, 0⟩ ⟨k, d, s, c, z, n⟩ := by
  simp only [fitsF, Bool.and_eq_true, decide_eq_true_eq] at h
  obtain ⟨⟨⟨⟨⟨hk, hz⟩, hd⟩, hs⟩, hc⟩, hn⟩ := h
  subst hk; subst hz
  have dr := field_range hd
  have sr := field_range hs
  obtain rfl := fld0 hc
  obtain rfl : n = 0 := of_decide_eq_true hn
  refine ⟨valid_mk (bad0_of rfl dr sr ⟨Int.le_refl _, show (0 : Int) ≤ 15 by decide⟩) ?_, ?_⟩
  · have e : sizedF ⟨7, d, s, 0, 0, 0⟩ = true := by rw [sizedF, if_neg (by dsimp only; decide), if_neg (by dsimp only; decide), if_neg (by dsimp only; decide)]; rfl
    rw [e, none_any _ 1 _ (by dsimp only; decide), none_any _ 2 _ (by dsimp only; decide), none_zero _ 4, none_zero _ 8, none_zero _ 16]
    rfl
  · show byteOf (rexN true s d) :: 9 :: byteOf (twoN s d) :: [] = byteOf (64 + 8 * 1 + 4 * (s / 8) + (d + 0) / 8) :: byteOf (9 + 0 + 0) :: byteOf (64 * 3 + 8 * (s % 8) + (d + 0) % 8) :: []
    exact list2 (congrArg byteOf (by simp only [rexN, if_true, if_false, Bool.false_eq_true]; omega)) (list2 (rfl) (list2 (congrArg byteOf (by simp only [memN, twoN]; omega)) (rfl)))
theorem form12 {d s c z n k : Int} (h : fitsF ⟨8, 0, 0, true, 1, [17], 3, 0, 2, 1, 0, 0⟩ ⟨k, d, s, c, z, n⟩ = true) : validF ⟨k, d, s, c, z, n⟩ = true ∧ encF ⟨k, d, s, c, z, n⟩ = bytesF ⟨8, 0, 0, true, 1, [17], 3, 0, 2, 1, 0, 0⟩ ⟨k, d, s, c, z, n⟩ := by
  simp only [fitsF, Bool.and_eq_true, decide_eq_true_eq] at h
  obtain ⟨⟨⟨⟨⟨hk, hz⟩, hd⟩, hs⟩, hc⟩, hn⟩ := h
  subst hk; subst hz
  have dr := field_range hd
  have sr := field_range hs
  obtain rfl := fld0 hc
  obtain rfl : n = 0 := of_decide_eq_true hn
  refine ⟨valid_mk (bad0_of rfl dr sr ⟨Int.le_refl _, show (0 : Int) ≤ 15 by decide⟩) ?_, ?_⟩
  · have e : sizedF ⟨8, d, s, 0, 0, 0⟩ = true := by rw [sizedF, if_neg (by dsimp only; decide), if_neg (by dsimp only; decide), if_neg (by dsimp only; decide)]; rfl
    rw [e, none_any _ 1 _ (by dsimp only; decide), none_any _ 2 _ (by dsimp only; decide), none_zero _ 4, none_zero _ 8, none_zero _ 16]
    rfl
  · show byteOf (rexN true s d) :: 17 :: byteOf (twoN s d) :: [] = byteOf (64 + 8 * 1 + 4 * (s / 8) + (d + 0) / 8) :: byteOf (17 + 0 + 0) :: byteOf (64 * 3 + 8 * (s % 8) + (d + 0) % 8) :: []
    exact list2 (congrArg byteOf (by simp only [rexN, if_true, if_false, Bool.false_eq_true]; omega)) (list2 (rfl) (list2 (congrArg byteOf (by simp only [memN, twoN]; omega)) (rfl)))
theorem form13 {d s c z n k : Int} (h : fitsF ⟨9, 0, 0, true, 1, [25], 3, 0, 2, 1, 0, 0⟩ ⟨k, d, s, c, z, n⟩ = true) : validF ⟨k, d, s, c, z, n⟩ = true ∧ encF ⟨k, d, s, c, z, n⟩ = bytesF ⟨9, 0, 0, true, 1, [25], 3, 0, 2, 1, 0, 0⟩ ⟨k, d, s, c, z, n⟩ := by
  simp only [fitsF, Bool.and_eq_true, decide_eq_true_eq] at h
  obtain ⟨⟨⟨⟨⟨hk, hz⟩, hd⟩, hs⟩, hc⟩, hn⟩ := h
  subst hk; subst hz
  have dr := field_range hd
  have sr := field_range hs
  obtain rfl := fld0 hc
  obtain rfl : n = 0 := of_decide_eq_true hn
  refine ⟨valid_mk (bad0_of rfl dr sr ⟨Int.le_refl _, show (0 : Int) ≤ 15 by decide⟩) ?_, ?_⟩
  · have e : sizedF ⟨9, d, s, 0, 0, 0⟩ = true := by rw [sizedF, if_neg (by dsimp only; decide), if_neg (by dsimp only; decide), if_neg (by dsimp only; decide)]; rfl
    rw [e, none_any _ 1 _ (by dsimp only; decide), none_any _ 2 _ (by dsimp only; decide), none_zero _ 4, none_zero _ 8, none_zero _ 16]
    rfl
  · show byteOf (rexN true s d) :: 25 :: byteOf (twoN s d) :: [] = byteOf (64 + 8 * 1 + 4 * (s / 8) + (d + 0) / 8) :: byteOf (25 + 0 + 0) :: byteOf (64 * 3 + 8 * (s % 8) + (d + 0) % 8) :: []
    exact list2 (congrArg byteOf (by simp only [rexN, if_true, if_false, Bool.false_eq_true]; omega)) (list2 (rfl) (list2 (congrArg byteOf (by simp only [memN, twoN]; omega)) (rfl)))
theorem form14 {d s c z n k : Int} (h : fitsF ⟨10, 0, 0, true, 1, [33], 3, 0, 2, 1, 0, 0⟩ ⟨k, d, s, c, z, n⟩ = true) : validF ⟨k, d, s, c, z, n⟩ = true ∧ encF ⟨k, d, s, c, z, n⟩ = bytesF ⟨10, 0, 0, true, 1, [33], 3, 0, 2, 1, 0, 0⟩ ⟨k, d, s, c, z, n⟩ := by
  simp only [fitsF, Bool.and_eq_true, decide_eq_true_eq] at h
  obtain ⟨⟨⟨⟨⟨hk, hz⟩, hd⟩, hs⟩, hc⟩, hn⟩ := h
  subst hk; subst hz
  have dr := field_range hd
  have sr := field_range hs
  obtain rfl := fld0 hc
  obtain rfl : n = 0 := of_decide_eq_true hn
  refine ⟨valid_mk (bad0_of rfl dr sr ⟨Int.le_refl _, show (0 : Int) ≤ 15 by decide⟩) ?_, ?_⟩
  · have e : sizedF ⟨10, d, s, 0, 0, 0⟩ = true := by rw [sizedF, if_neg (by dsimp only; decide), if_neg (by dsimp only; decide), if_neg (by dsimp only; decide)]; rfl
    rw [e, none_any _ 1 _ (by dsimp only; decide), none_any _ 2 _ (by dsimp only; decide), none_zero _ 4, none_zero _ 8, none_zero _ 16]
    rfl
  · show byteOf (rexN true s d) :: 33 :: byteOf (twoN s d) :: [] = byteOf (64 + 8 * 1 + 4 * (s / 8) + (d + 0) / 8) :: byteOf (33 + 0 + 0) :: byteOf (64 * 3 + 8 * (s % 8) + (d + 0) % 8) :: []
    exact list2 (congrArg byteOf (by simp only [rexN, if_true, if_false, Bool.false_eq_true]; omega)) (list2 (rfl) (list2 (congrArg byteOf (by simp only [memN, twoN]; omega)) (rfl)))
theorem form15 {d s c z n k : Int} (h : fitsF ⟨11, 0, 0, true, 1, [41], 3, 0, 2, 1, 0, 0⟩ ⟨k, d, s, c, z, n⟩ = true) : validF ⟨k, d, s, c, z, n⟩ = true ∧ encF ⟨k, d, s, c, z, n⟩ = bytesF ⟨11, 0, 0, true, 1, [41], 3, 0, 2, 1, 0, 0⟩ ⟨k, d, s, c, z, n⟩ := by
  simp only [fitsF, Bool.and_eq_true, decide_eq_true_eq] at h
  obtain ⟨⟨⟨⟨⟨hk, hz⟩, hd⟩, hs⟩, hc⟩, hn⟩ := h
  subst hk; subst hz
  have dr := field_range hd
  have sr := field_range hs
  obtain rfl := fld0 hc
  obtain rfl : n = 0 := of_decide_eq_true hn
  refine ⟨valid_mk (bad0_of rfl dr sr ⟨Int.le_refl _, show (0 : Int) ≤ 15 by decide⟩) ?_, ?_⟩
  · have e : sizedF ⟨11, d, s, 0, 0, 0⟩ = true := by rw [sizedF, if_neg (by dsimp only; decide), if_neg (by dsimp only; decide), if_neg (by dsimp only; decide)]; rfl
    rw [e, none_any _ 1 _ (by dsimp only; decide), none_any _ 2 _ (by dsimp only; decide), none_zero _ 4, none_zero _ 8, none_zero _ 16]
    rfl
  · show byteOf (rexN true s d) :: 41 :: byteOf (twoN s d) :: [] = byteOf (64 + 8 * 1 + 4 * (s / 8) + (d + 0) / 8) :: byteOf (41 + 0 + 0) :: byteOf (64 * 3 + 8 * (s % 8) + (d + 0) % 8) :: []
    exact list2 (congrArg byteOf (by simp only [rexN, if_true, if_false, Bool.false_eq_true]; omega)) (list2 (rfl) (list2 (congrArg byteOf (by simp only [memN, twoN]; omega)) (rfl)))
theorem form16 {d s c z n k : Int} (h : fitsF ⟨12, 0, 0, true, 1, [49], 3, 0, 2, 1, 0, 0⟩ ⟨k, d, s, c, z, n⟩ = true) : validF ⟨k, d, s, c, z, n⟩ = true ∧ encF ⟨k, d, s, c, z, n⟩ = bytesF ⟨12, 0, 0, true, 1, [49], 3, 0, 2, 1, 0, 0⟩ ⟨k, d, s, c, z, n⟩ := by
  simp only [fitsF, Bool.and_eq_true, decide_eq_true_eq] at h
  obtain ⟨⟨⟨⟨⟨hk, hz⟩, hd⟩, hs⟩, hc⟩, hn⟩ := h
  subst hk; subst hz
  have dr := field_range hd
  have sr := field_range hs
  obtain rfl := fld0 hc
  obtain rfl : n = 0 := of_decide_eq_true hn
  refine ⟨valid_mk (bad0_of rfl dr sr ⟨Int.le_refl _, show (0 : Int) ≤ 15 by decide⟩) ?_, ?_⟩
  · have e : sizedF ⟨12, d, s, 0, 0, 0⟩ = true := by rw [sizedF, if_neg (by dsimp only; decide), if_neg (by dsimp only; decide), if_neg (by dsimp only; decide)]; rfl
    rw [e, none_any _ 1 _ (by dsimp only; decide), none_any _ 2 _ (by dsimp only; decide), none_zero _ 4, none_zero _ 8, none_zero _ 16]
    rfl
  · show byteOf (rexN true s d) :: 49 :: byteOf (twoN s d) :: [] = byteOf (64 + 8 * 1 + 4 * (s / 8) + (d + 0) / 8) :: byteOf (49 + 0 + 0) :: byteOf (64 * 3 + 8 * (s % 8) + (d + 0) % 8) :: []
    exact list2 (congrArg byteOf (by simp only [rexN, if_true, if_false, Bool.false_eq_true]; omega)) (list2 (rfl) (list2 (congrArg byteOf (by simp only [memN, twoN]; omega)) (rfl)))
theorem form17 {d s c z n k : Int} (h : fitsF ⟨13, 0, 0, true, 1, [57], 3, 0, 2, 1, 0, 0⟩ ⟨k, d, s, c, z, n⟩ = true) : validF ⟨k, d, s, c, z, n⟩ = true ∧ encF ⟨k, d, s, c, z, n⟩ = bytesF ⟨13, 0, 0, true, 1, [57], 3, 0, 2, 1, 0, 0⟩ ⟨k, d, s, c, z, n⟩ := by
  simp only [fitsF, Bool.and_eq_true, decide_eq_true_eq] at h
  obtain ⟨⟨⟨⟨⟨hk, hz⟩, hd⟩, hs⟩, hc⟩, hn⟩ := h
  subst hk; subst hz
  have dr := field_range hd
  have sr := field_range hs
  obtain rfl := fld0 hc
  obtain rfl : n = 0 := of_decide_eq_true hn
  refine ⟨valid_mk (bad0_of rfl dr sr ⟨Int.le_refl _, show (0 : Int) ≤ 15 by decide⟩) ?_, ?_⟩
  · have e : sizedF ⟨13, d, s, 0, 0, 0⟩ = true := by rw [sizedF, if_neg (by dsimp only; decide), if_neg (by dsimp only; decide), if_neg (by dsimp only; decide)]; rfl
    rw [e, none_any _ 1 _ (by dsimp only; decide), none_any _ 2 _ (by dsimp only; decide), none_zero _ 4, none_zero _ 8, none_zero _ 16]
    rfl
  · show byteOf (rexN true s d) :: 57 :: byteOf (twoN s d) :: [] = byteOf (64 + 8 * 1 + 4 * (s / 8) + (d + 0) / 8) :: byteOf (57 + 0 + 0) :: byteOf (64 * 3 + 8 * (s % 8) + (d + 0) % 8) :: []
    exact list2 (congrArg byteOf (by simp only [rexN, if_true, if_false, Bool.false_eq_true]; omega)) (list2 (rfl) (list2 (congrArg byteOf (by simp only [memN, twoN]; omega)) (rfl)))
theorem form18 {d s c z n k : Int} (h : fitsF ⟨14, 0, 0, true, 1, [133], 3, 0, 2, 1, 0, 0⟩ ⟨k, d, s, c, z, n⟩ = true) : validF ⟨k, d, s, c, z, n⟩ = true ∧ encF ⟨k, d, s, c, z, n⟩ = bytesF ⟨14, 0, 0, true, 1, [133], 3, 0, 2, 1, 0, 0⟩ ⟨k, d, s, c, z, n⟩ := by
  simp only [fitsF, Bool.and_eq_true, decide_eq_true_eq] at h
  obtain ⟨⟨⟨⟨⟨hk, hz⟩, hd⟩, hs⟩, hc⟩, hn⟩ := h
  subst hk; subst hz
  have dr := field_range hd
  have sr := field_range hs
  obtain rfl := fld0 hc
  obtain rfl : n = 0 := of_decide_eq_true hn
  refine ⟨valid_mk (bad0_of rfl dr sr ⟨Int.le_refl _, show (0 : Int) ≤ 15 by decide⟩) ?_, ?_⟩
  · have e : sizedF ⟨14, d, s, 0, 0, 0⟩ = true := by rw [sizedF, if_neg (by dsimp only; decide), if_neg (by dsimp only; decide), if_neg (by dsimp only; decide)]; rfl
    rw [e, none_any _ 1 _ (by dsimp only; decide), none_any _ 2 _ (by dsimp only; decide), none_zero _ 4, none_zero _ 8, none_zero _ 16]
    rfl
  · show byteOf (rexN true s d) :: 133 :: byteOf (twoN s d) :: [] = byteOf (64 + 8 * 1 + 4 * (s / 8) + (d + 0) / 8) :: byteOf (133 + 0 + 0) :: byteOf (64 * 3 + 8 * (s % 8) + (d + 0) % 8) :: []
    exact list2 (congrArg byteOf (by simp only [rexN, if_true, if_false, Bool.false_eq_true]; omega)) (list2 (rfl) (list2 (congrArg byteOf (by simp only [memN, twoN]; omega)) (rfl)))
theorem form19 {d s c z n k : Int} (h : fitsF ⟨15, 0, 0, true, 1, [129], 3, 0, 2, 0, 0, 6⟩ ⟨k, d, s, c, z, n⟩ = true) : validF ⟨k, d, s, c, z, n⟩ = true ∧ encF ⟨k, d, s, c, z, n⟩ = bytesF ⟨15, 0, 0, true, 1, [129], 3, 0, 2, 0, 0, 6⟩ ⟨k, d, s, c, z, n⟩ := by
  simp only [fitsF, Bool.and_eq_true, decide_eq_true_eq] at h
  obtain ⟨⟨⟨⟨⟨hk, hz⟩, hd⟩, hs⟩, hc⟩, hn⟩ := h
  subst hk; subst hz
  have dr := field_range hd
  obtain rfl := fld0 hs
  obtain rfl := fld0 hc
  have hn : smallF n = true := hn
  refine ⟨valid_mk (bad0_of rfl dr ⟨Int.le_refl _, show (0 : Int) ≤ 15 by decide⟩ ⟨Int.le_refl _, show (0 : Int) ≤ 15 by decide⟩) ?_, ?_⟩
  · have e : sizedF ⟨15, d, 0, 0, 0, n⟩ = true := by rw [sizedF, if_neg (by dsimp only; decide), if_neg (by dsimp only; decide), if_neg (by dsimp only; decide), hn, Bool.or_true]
    rw [e, none_any _ 1 _ (by dsimp only; decide), none_zero _ 2, none_any _ 4 _ (by dsimp only; decide), none_zero _ 8, none_zero _ 16]
    rfl
  · show byteOf (rexN true 0 d) :: 129 :: byteOf (twoN 0 d) :: immF n 4 = byteOf (64 + 8 * 1 + 4 * (0 / 8) + (d + 0) / 8) :: byteOf (129 + 0 + 0) :: byteOf (64 * 3 + 8 * (0) + (d + 0) % 8) :: leBytes 4 (n % 18446744073709551616)
    exact list2 (congrArg byteOf (by simp only [rexN, if_true, if_false, Bool.false_eq_true]; omega)) (list2 (rfl) (list2 (congrArg byteOf (by simp only [memN, twoN]; omega)) (imm_mod (by decide) n)))
theorem form20 {d s c z n k : Int} (h : fitsF ⟨16, 0, 0, true, 1, [129], 3, 1, 2, 0, 0, 6⟩ ⟨k, d, s, c, z, n⟩ = true) : validF ⟨k, d, s, c, z, n⟩ = true ∧ encF ⟨k, d, s, c, z, n⟩ = bytesF ⟨16, 0, 0, true, 1, [129], 3, 1, 2, 0, 0, 6⟩ ⟨k, d, s, c, z, n⟩ := by
  simp only [fitsF, Bool.and_eq_true, decide_eq_true_eq] at h
  obtain ⟨⟨⟨⟨⟨hk, hz⟩, hd⟩, hs⟩, hc⟩, hn⟩ := h
  subst hk; subst hz
  have dr := field_range hd
  obtain rfl := fld0 hs
  obtain rfl := fld0 hc
  have hn : smallF n = true := hn
  refine ⟨valid_mk (bad0_of rfl dr ⟨Int.le_refl _, show (0 : Int) ≤ 15 by decide⟩ ⟨Int.le_refl _, show (0 : Int) ≤ 15 by decide⟩) ?_, ?_⟩
  · have e : sizedF ⟨16, d, 0, 0, 0, n⟩ = true := by rw [sizedF, if_neg (by dsimp only; decide), if_neg (by dsimp only; decide), if_neg (by dsimp only; decide), hn, Bool.or_true]
    rw [e, none_any _ 1 _ (by dsimp only; decide), none_zero _ 2, none_any _ 4 _ (by dsimp only; decide), none_zero _ 8, none_zero _ 16]
    rfl
  · show byteOf (rexN true 0 d) :: 129 :: byteOf (twoN 1 d) :: immF n 4 = byteOf (64 + 8 * 1 + 4 * (0 / 8) + (d + 0) / 8) :: byteOf (129 + 0 + 0) :: byteOf (64 * 3 + 8 * (1) + (d + 0) % 8) :: leBytes 4 (n % 18446744073709551616)
    exact list2 (congrArg byteOf (by simp only [rexN, if_true, if_false, Bool.false_eq_true]; omega)) (list2 (rfl) (list2 (congrArg byteOf (by simp only [memN, twoN]; omega)) (imm_mod (by decide) n)))
theorem form21 {d s c z n k : Int} (h : fitsF ⟨17, 0, 0, true, 1, [129], 3, 4, 2, 0, 0, 6⟩ ⟨k, d, s, c, z, n⟩ = true) : validF ⟨k, d, s, c, z, n⟩ = true ∧ encF ⟨k, d, s, c, z, n⟩ = bytesF ⟨17, 0, 0, true, 1, [129], 3, 4, 2, 0, 0, 6⟩ ⟨k, d, s, c, z, n⟩ := by
  simp only [fitsF, Bool.and_eq_true, decide_eq_true_eq] at h
  obtain ⟨⟨⟨⟨⟨hk, hz⟩, hd⟩, hs⟩, hc⟩, hn⟩ := h
  subst hk; subst hz
  have dr := field_range hd
  obtain rfl := fld0 hs
  obtain rfl := fld0 hc
  have hn : smallF n = true := hn
  refine ⟨valid_mk (bad0_of rfl dr ⟨Int.le_refl _, show (0 : Int) ≤ 15 by decide⟩ ⟨Int.le_refl _, show (0 : Int) ≤ 15 by decide⟩) ?_, ?_⟩
  · have e : sizedF ⟨17, d, 0, 0, 0, n⟩ = true := by rw [sizedF, if_neg (by dsimp only; decide), if_neg (by dsimp only; decide), if_neg (by dsimp only; decide), hn, Bool.or_true]
    rw [e, none_any _ 1 _ (by dsimp only; decide), none_zero _ 2, none_any _ 4 _ (by dsimp only; decide), none_zero _ 8, none_zero _ 16]
    rfl
  · show byteOf (rexN true 0 d) :: 129 :: byteOf (twoN 4 d) :: immF n 4 = byteOf (64 + 8 * 1 + 4 * (0 / 8) + (d + 0) / 8) :: byteOf (129 + 0 + 0) :: byteOf (64 * 3 + 8 * (4) + (d + 0) % 8) :: leBytes 4 (n % 18446744073709551616)
    exact list2 (congrArg byteOf (by simp only [rexN, if_true, if_false, Bool.false_eq_true]; omega)) (list2 (rfl) (list2 (congrArg byteOf (by simp only [memN, twoN]; omega)) (imm_mod (by decide) n)))
theorem form22 {d s c z n k : Int} (h : fitsF ⟨18, 0, 0, true, 1, [129], 3, 5, 2, 0, 0, 6⟩ ⟨k, d, s, c, z, n⟩ = true) : validF ⟨k, d, s, c, z, n⟩ = true ∧ encF ⟨k, d, s, c, z, n⟩ = bytesF ⟨18, 0, 0, true, 1, [129], 3, 5, 2, 0, 0, 6⟩ ⟨k, d, s, c, z, n⟩ := by
  simp only [fitsF, Bool.and_eq_true, decide_eq_true_eq] at h
  obtain ⟨⟨⟨⟨⟨hk, hz⟩, hd⟩, hs⟩, hc⟩, hn⟩ := h
  subst hk; subst hz
  have dr := field_range hd
  obtain rfl := fld0 hs
  obtain rfl := fld0 hc
  have hn : smallF n = true := hn
  refine ⟨valid_mk (bad0_of rfl dr ⟨Int.le_refl _, show (0 : Int) ≤ 15 by decide⟩ ⟨Int.le_refl _, show (0 : Int) ≤ 15 by decide⟩) ?_, ?_⟩
  · have e : sizedF ⟨18, d, 0, 0, 0, n⟩ = true := by rw [sizedF, if_neg (by dsimp only; decide), if_neg (by dsimp only; decide), if_neg (by dsimp only; decide), hn, Bool.or_true]
    rw [e, none_any _ 1 _ (by dsimp only; decide), none_zero _ 2, none_any _ 4 _ (by dsimp only; decide), none_zero _ 8, none_zero _ 16]
    rfl
  · show byteOf (rexN true 0 d) :: 129 :: byteOf (twoN 5 d) :: immF n 4 = byteOf (64 + 8 * 1 + 4 * (0 / 8) + (d + 0) / 8) :: byteOf (129 + 0 + 0) :: byteOf (64 * 3 + 8 * (5) + (d + 0) % 8) :: leBytes 4 (n % 18446744073709551616)
    exact list2 (congrArg byteOf (by simp only [rexN, if_true, if_false, Bool.false_eq_true]; omega)) (list2 (rfl) (list2 (congrArg byteOf (by simp only [memN, twoN]; omega)) (imm_mod (by decide) n)))
theorem form23 {d s c z n k : Int} (h : fitsF ⟨19, 0, 0, true, 1, [129], 3, 6, 2, 0, 0, 6⟩ ⟨k, d, s, c, z, n⟩ = true) : validF ⟨k, d, s, c, z, n⟩ = true ∧ encF ⟨k, d, s, c, z, n⟩ = bytesF ⟨19, 0, 0, true, 1, [129], 3, 6, 2, 0, 0, 6⟩ ⟨k, d, s, c, z, n⟩ := by
  simp only [fitsF, Bool.and_eq_true, decide_eq_true_eq] at h
  obtain ⟨⟨⟨⟨⟨hk, hz⟩, hd⟩, hs⟩, hc⟩, hn⟩ := h
  subst hk; subst hz
  have dr := field_range hd
  obtain rfl := fld0 hs
  obtain rfl := fld0 hc
  have hn : smallF n = true := hn
  refine ⟨valid_mk (bad0_of rfl dr ⟨Int.le_refl _, show (0 : Int) ≤ 15 by decide⟩ ⟨Int.le_refl _, show (0 : Int) ≤ 15 by decide⟩) ?_, ?_⟩
  · have e : sizedF ⟨19, d, 0, 0, 0, n⟩ = true := by rw [sizedF, if_neg (by dsimp only; decide), if_neg (by dsimp only; decide), if_neg (by dsimp only; decide), hn, Bool.or_true]
    rw [e, none_any _ 1 _ (by dsimp only; decide), none_zero _ 2, none_any _ 4 _ (by dsimp only; decide), none_zero _ 8, none_zero _ 16]
    rfl
  · show byteOf (rexN true 0 d) :: 129 :: byteOf (twoN 6 d) :: immF n 4 = byteOf (64 + 8 * 1 + 4 * (0 / 8) + (d + 0) / 8) :: byteOf (129 + 0 + 0) :: byteOf (64 * 3 + 8 * (6) + (d + 0) % 8) :: leBytes 4 (n % 18446744073709551616)
    exact list2 (congrArg byteOf (by simp only [rexN, if_true, if_false, Bool.false_eq_true]; omega)) (list2 (rfl) (list2 (congrArg byteOf (by simp only [memN, twoN]; omega)) (imm_mod (by decide) n)))
theorem form24 {d s c z n k : Int} (h : fitsF ⟨20, 0, 0, true, 1, [129], 3, 7, 2, 0, 0, 6⟩ ⟨k, d, s, c, z, n⟩ = true) : validF ⟨k, d, s, c, z, n⟩ = true ∧ encF ⟨k, d, s, c, z, n⟩ = bytesF ⟨20, 0, 0, true, 1, [129], 3, 7, 2, 0, 0, 6⟩ ⟨k, d, s, c, z, n⟩ := by
  simp only [fitsF, Bool.and_eq_true, decide_eq_true_eq] at h
  obtain ⟨⟨⟨⟨⟨hk, hz⟩, hd⟩, hs⟩, hc⟩, hn⟩ := h
  subst hk; subst hz
  have dr := field_range hd
  obtain rfl := fld0 hs
  obtain rfl := fld0 hc
  have hn : smallF n = true := hn
  refine ⟨valid_mk (bad0_of rfl dr ⟨Int.le_refl _, show (0 : Int) ≤ 15 by decide⟩ ⟨Int.le_refl _, show (0 : Int) ≤ 15 by decide⟩) ?_, ?_⟩
  · have e : sizedF ⟨20, d, 0, 0, 0, n⟩ = true := by rw [sizedF, if_neg (by dsimp only; decide), if_neg (by dsimp only; decide), if_neg (by dsimp only; decide), hn, Bool.or_true]
    rw [e, none_any _ 1 _ (by dsimp only; decide), none_zero _ 2, none_any _ 4 _ (by dsimp only; decide), none_zero _ 8, none_zero _ 16]
    rfl
  · show byteOf (rexN true 0 d) :: 129 :: byteOf (twoN 7 d) :: immF n 4 = byteOf (64 + 8 * 1 + 4 * (0 / 8) + (d + 0) / 8) :: byteOf (129 + 0 + 0) :: byteOf (64 * 3 + 8 * (7) + (d + 0) % 8) :: leBytes 4 (n % 18446744073709551616)
    exact list2 (congrArg byteOf (by simp only [rexN, if_true, if_false, Bool.false_eq_true]; omega)) (list2 (rfl) (list2 (congrArg byteOf (by simp only [memN, twoN]; omega)) (imm_mod (by decide) n)))
theorem form25 {d s c z n k : Int} (h : fitsF ⟨21, 0, 0, true, 1, [15, 175], 3, 0, 1, 2, 0, 0⟩ ⟨k, d, s, c, z, n⟩ = true) : validF ⟨k, d, s, c, z, n⟩ = true ∧ encF ⟨k, d, s, c, z, n⟩ = bytesF ⟨21, 0, 0, true, 1, [15, 175], 3, 0, 1, 2, 0, 0⟩ ⟨k, d, s, c, z, n⟩ := by
  simp only [fitsF, Bool.and_eq_true, decide_eq_true_eq] at h
  obtain ⟨⟨⟨⟨⟨hk, hz⟩, hd⟩, hs⟩, hc⟩, hn⟩ := h
  subst hk; subst hz
  have dr := field_range hd
  have sr := field_range hs
  obtain rfl := fld0 hc
  obtain rfl : n = 0 := of_decide_eq_true hn
  refine ⟨valid_mk (bad0_of rfl dr sr ⟨Int.le_refl _, show (0 : Int) ≤ 15 by decide⟩) ?_, ?_⟩
  · have e : sizedF ⟨21, d, s, 0, 0, 0⟩ = true := by rw [sizedF, if_neg (by dsimp only; decide), if_neg (by dsimp only; decide), if_neg (by dsimp only; decide)]; rfl
    rw [e, none_any _ 1 _ (by dsimp only; decide), none_any _ 2 _ (by dsimp only; decide), none_zero _ 4, none_zero _ 8, none_zero _ 16]
    rfl
  · show byteOf (rexN true d s) :: 15 :: 175 :: byteOf (twoN d s) :: [] = byteOf (64 + 8 * 1 + 4 * (d / 8) + (s + 0) / 8) :: byteOf (15 + 0 + 0) :: byteOf (175 + 0 + 0) :: byteOf (64 * 3 + 8 * (d % 8) + (s + 0) % 8) :: []
    exact list2 (congrArg byteOf (by simp only [rexN, if_true, if_false, Bool.false_eq_true]; omega)) (list2 (rfl) (list2 (rfl) (list2 (congrArg byteOf (by simp only [memN, twoN]; omega)) (rfl))))
theorem form26 {d s c z n k : Int} (h : fitsF ⟨22, 0, 0, true, 1, [247], 3, 4, 2, 0, 0, 0⟩ ⟨k, d, s, c, z, n⟩ = true) : validF ⟨k, d, s, c, z, n⟩ = true ∧ encF ⟨k, d, s, c, z, n⟩ = bytesF ⟨22, 0, 0, true, 1, [247], 3, 4, 2, 0, 0, 0⟩ ⟨k, d, s, c, z, n⟩ := by
  simp only [fitsF, Bool.and_eq_true, decide_eq_true_eq] at h
  obtain ⟨⟨⟨⟨⟨hk, hz⟩, hd⟩, hs⟩, hc⟩, hn⟩ := h
  subst hk; subst hz
  have dr := field_range hd
  obtain rfl := fld0 hs
  obtain rfl := fld0 hc
  obtain rfl : n = 0 := of_decide_eq_true hn
  refine ⟨valid_mk (bad0_of rfl dr ⟨Int.le_refl _, show (0 : Int) ≤ 15 by decide⟩ ⟨Int.le_refl _, show (0 : Int) ≤ 15 by decide⟩) ?_, ?_⟩
  · have e : sizedF ⟨22, d, 0, 0, 0, 0⟩ = true := by rw [sizedF, if_neg (by dsimp only; decide), if_neg (by dsimp only; decide), if_neg (by dsimp only; decide)]; rfl
    rw [e, none_any _ 1 _ (by dsimp only; decide), none_zero _ 2, none_zero _ 4, none_zero _ 8, none_zero _ 16]
    rfl
  · show byteOf (rexN true 0 d) :: 247 :: byteOf (twoN 4 d) :: [] = byteOf (64 + 8 * 1 + 4 * (0 / 8) + (d + 0) / 8) :: byteOf (247 + 0 + 0) :: byteOf (64 * 3 + 8 * (4) + (d + 0) % 8) :: []
    exact list2 (congrArg byteOf (by simp only [rexN, if_true, if_false, Bool.false_eq_true]; omega)) (list2 (rfl) (list2 (congrArg byteOf (by simp only [memN, twoN]; omega)) (rfl)))
theorem form27 {d s c z n k : Int} (h : fitsF ⟨23, 0, 0, true, 1, [247], 3, 6, 2, 0, 0, 0⟩ ⟨k, d, s, c, z, n⟩ = true) : validF ⟨k, d, s, c, z, n⟩ = true ∧ encF ⟨k, d, s, c, z, n⟩ = bytesF ⟨23, 0, 0, true, 1, [247], 3, 6, 2, 0, 0, 0⟩ ⟨k, d, s, c, z, n⟩ := by
  simp only [fitsF, Bool.and_eq_true, decide_eq_true_eq] at h
  obtain ⟨⟨⟨⟨⟨hk, hz⟩, hd⟩, hs⟩, hc⟩, hn⟩ := h
  subst hk; subst hz
  have dr := field_range hd
  obtain rfl := fld0 hs
  obtain rfl := fld0 hc
  obtain rfl : n = 0 := of_decide_eq_true hn
  refine ⟨valid_mk (bad0_of rfl dr ⟨Int.le_refl _, show (0 : Int) ≤ 15 by decide⟩ ⟨Int.le_refl _, show (0 : Int) ≤ 15 by decide⟩) ?_, ?_⟩
  · have e : sizedF ⟨23, d, 0, 0, 0, 0⟩ = true := by rw [sizedF, if_neg (by dsimp only; decide), if_neg (by dsimp only; decide), if_neg (by dsimp only; decide)]; rfl
    rw [e, none_any _ 1 _ (by dsimp only; decide), none_zero _ 2, none_zero _ 4, none_zero _ 8, none_zero _ 16]
    rfl
  · show byteOf (rexN true 0 d) :: 247 :: byteOf (twoN 6 d) :: [] = byteOf (64 + 8 * 1 + 4 * (0 / 8) + (d + 0) / 8) :: byteOf (247 + 0 + 0) :: byteOf (64 * 3 + 8 * (6) + (d + 0) % 8) :: []
    exact list2 (congrArg byteOf (by simp only [rexN, if_true, if_false, Bool.false_eq_true]; omega)) (list2 (rfl) (list2 (congrArg byteOf (by simp only [memN, twoN]; omega)) (rfl)))
theorem form28 {d s c z n k : Int} (h : fitsF ⟨24, 0, 0, true, 1, [247], 3, 3, 2, 0, 0, 0⟩ ⟨k, d, s, c, z, n⟩ = true) : validF ⟨k, d, s, c, z, n⟩ = true ∧ encF ⟨k, d, s, c, z, n⟩ = bytesF ⟨24, 0, 0, true, 1, [247], 3, 3, 2, 0, 0, 0⟩ ⟨k, d, s, c, z, n⟩ := by
  simp only [fitsF, Bool.and_eq_true, decide_eq_true_eq] at h
  obtain ⟨⟨⟨⟨⟨hk, hz⟩, hd⟩, hs⟩, hc⟩, hn⟩ := h
  subst hk; subst hz
  have dr := field_range hd
  obtain rfl := fld0 hs
  obtain rfl := fld0 hc
  obtain rfl : n = 0 := of_decide_eq_true hn
  refine ⟨valid_mk (bad0_of rfl dr ⟨Int.le_refl _, show (0 : Int) ≤ 15 by decide⟩ ⟨Int.le_refl _, show (0 : Int) ≤ 15 by decide⟩) ?_, ?_⟩
  · have e : sizedF ⟨24, d, 0, 0, 0, 0⟩ = true := by rw [sizedF, if_neg (by dsimp only; decide), if_neg (by dsimp only; decide), if_neg (by dsimp only; decide)]; rfl
    rw [e, none_any _ 1 _ (by dsimp only; decide), none_zero _ 2, none_zero _ 4, none_zero _ 8, none_zero _ 16]
    rfl
  · show byteOf (rexN true 0 d) :: 247 :: byteOf (twoN 3 d) :: [] = byteOf (64 + 8 * 1 + 4 * (0 / 8) + (d + 0) / 8) :: byteOf (247 + 0 + 0) :: byteOf (64 * 3 + 8 * (3) + (d + 0) % 8) :: []
    exact list2 (congrArg byteOf (by simp only [rexN, if_true, if_false, Bool.false_eq_true]; omega)) (list2 (rfl) (list2 (congrArg byteOf (by simp only [memN, twoN]; omega)) (rfl)))
theorem form29 {d s c z n k : Int} (h : fitsF ⟨25, 0, 0, true, 1, [247], 3, 2, 2, 0, 0, 0⟩ ⟨k, d, s, c, z, n⟩ = true) : validF ⟨k, d, s, c, z, n⟩ = true ∧ encF ⟨k, d, s, c, z, n⟩ = bytesF ⟨25, 0, 0, true, 1, [247], 3, 2, 2, 0, 0, 0⟩ ⟨k, d, s, c, z, n⟩ := by
  simp only [fitsF, Bool.and_eq_true, decide_eq_true_eq] at h
  obtain ⟨⟨⟨⟨⟨hk, hz⟩, hd⟩, hs⟩, hc⟩, hn⟩ := h
  subst hk; subst hz
  have dr := field_range hd
  obtain rfl := fld0 hs
  obtain rfl := fld0 hc
  obtain rfl : n = 0 := of_decide_eq_true hn
  refine ⟨valid_mk (bad0_of rfl dr ⟨Int.le_refl _, show (0 : Int) ≤ 15 by decide⟩ ⟨Int.le_refl _, show (0 : Int) ≤ 15 by decide⟩) ?_, ?_⟩
  · have e : sizedF ⟨25, d, 0, 0, 0, 0⟩ = true := by rw [sizedF, if_neg (by dsimp only; decide), if_neg (by dsimp only; decide), if_neg (by dsimp only; decide)]; rfl
    rw [e, none_any _ 1 _ (by dsimp only; decide), none_zero _ 2, none_zero _ 4, none_zero _ 8, none_zero _ 16]
    rfl
  · show byteOf (rexN true 0 d) :: 247 :: byteOf (twoN 2 d) :: [] = byteOf (64 + 8 * 1 + 4 * (0 / 8) + (d + 0) / 8) :: byteOf (247 + 0 + 0) :: byteOf (64 * 3 + 8 * (2) + (d + 0) % 8) :: []
    exact list2 (congrArg byteOf (by simp only [rexN, if_true, if_false, Bool.false_eq_true]; omega)) (list2 (rfl) (list2 (congrArg byteOf (by simp only [memN, twoN]; omega)) (rfl)))
theorem form30 {d s c z n k : Int} (h : fitsF ⟨26, 0, 0, true, 1, [211], 3, 4, 2, 0, 0, 0⟩ ⟨k, d, s, c, z, n⟩ = true) : validF ⟨k, d, s, c, z, n⟩ = true ∧ encF ⟨k, d, s, c, z, n⟩ = bytesF ⟨26, 0, 0, true, 1, [211], 3, 4, 2, 0, 0, 0⟩ ⟨k, d, s, c, z, n⟩ := by
  simp only [fitsF, Bool.and_eq_true, decide_eq_true_eq] at h
  obtain ⟨⟨⟨⟨⟨hk, hz⟩, hd⟩, hs⟩, hc⟩, hn⟩ := h
  subst hk; subst hz
  have dr := field_range hd
  obtain rfl := fld0 hs
  obtain rfl := fld0 hc
  obtain rfl : n = 0 := of_decide_eq_true hn
  refine ⟨valid_mk (bad0_of rfl dr ⟨Int.le_refl _, show (0 : Int) ≤ 15 by decide⟩ ⟨Int.le_refl _, show (0 : Int) ≤ 15 by decide⟩) ?_, ?_⟩
  · have e : sizedF ⟨26, d, 0, 0, 0, 0⟩ = true := by rw [sizedF, if_neg (by dsimp only; decide), if_neg (by dsimp only; decide), if_neg (by dsimp only; decide)]; rfl
    rw [e, none_any _ 1 _ (by dsimp only; decide), none_zero _ 2, none_zero _ 4, none_zero _ 8, none_zero _ 16]
    rfl
  · show byteOf (rexN true 0 d) :: 211 :: byteOf (twoN 4 d) :: [] = byteOf (64 + 8 * 1 + 4 * (0 / 8) + (d + 0) / 8) :: byteOf (211 + 0 + 0) :: byteOf (64 * 3 + 8 * (4) + (d + 0) % 8) :: []
    exact list2 (congrArg byteOf (by simp only [rexN, if_true, if_false, Bool.false_eq_true]; omega)) (list2 (rfl) (list2 (congrArg byteOf (by simp only [memN, twoN]; omega)) (rfl)))
theorem form31 {d s c z n k : Int} (h : fitsF ⟨27, 0, 0, true, 1, [211], 3, 5, 2, 0, 0, 0⟩ ⟨k, d, s, c, z, n⟩ = true) : validF ⟨k, d, s, c, z, n⟩ = true ∧ encF ⟨k, d, s, c, z, n⟩ = bytesF ⟨27, 0, 0, true, 1, [211], 3, 5, 2, 0, 0, 0⟩ ⟨k, d, s, c, z, n⟩ := by
  simp only [fitsF, Bool.and_eq_true, decide_eq_true_eq] at h
  obtain ⟨⟨⟨⟨⟨hk, hz⟩, hd⟩, hs⟩, hc⟩, hn⟩ := h
  subst hk; subst hz
  have dr := field_range hd
  obtain rfl := fld0 hs
  obtain rfl := fld0 hc
  obtain rfl : n = 0 := of_decide_eq_true hn
  refine ⟨valid_mk (bad0_of rfl dr ⟨Int.le_refl _, show (0 : Int) ≤ 15 by decide⟩ ⟨Int.le_refl _, show (0 : Int) ≤ 15 by decide⟩) ?_, ?_⟩
  · have e : sizedF ⟨27, d, 0, 0, 0, 0⟩ = true := by rw [sizedF, if_neg (by dsimp only; decide), if_neg (by dsimp only; decide), if_neg (by dsimp only; decide)]; rfl
    rw [e, none_any _ 1 _ (by dsimp only; decide), none_zero _ 2, none_zero _ 4, none_zero _ 8, none_zero _ 16]
    rfl
  · show byteOf (rexN true 0 d) :: 211 :: byteOf (twoN 5 d) :: [] = byteOf (64 + 8 * 1 + 4 * (0 / 8) + (d + 0) / 8) :: byteOf (211 + 0 + 0) :: byteOf (64 * 3 + 8 * (5) + (d + 0) % 8) :: []
    exact list2 (congrArg byteOf (by simp only [rexN, if_true, if_false, Bool.false_eq_true]; omega)) (list2 (rfl) (list2 (congrArg byteOf (by simp only [memN, twoN]; omega)) (rfl)))
theorem form32 {d s c z n k : Int} (h : fitsF ⟨28, 0, 0, true, 1, [211], 3, 7, 2, 0, 0, 0⟩ ⟨k, d, s, c, z, n⟩ = true) : validF ⟨k, d, s, c, z, n⟩ = true ∧ encF ⟨k, d, s, c, z, n⟩ = bytesF ⟨28, 0, 0, true, 1, [211], 3, 7, 2, 0, 0, 0⟩ ⟨k, d, s, c, z, n⟩ := by
  simp only [fitsF, Bool.and_eq_true, decide_eq_true_eq] at h
  obtain ⟨⟨⟨⟨⟨hk, hz⟩, hd⟩, hs⟩, hc⟩, hn⟩ := h
  subst hk; subst hz
  have dr := field_range hd
  obtain rfl := fld0 hs
  obtain rfl := fld0 hc
  obtain rfl : n = 0 := of_decide_eq_true hn
  refine ⟨valid_mk (bad0_of rfl dr ⟨Int.le_refl _, show (0 : Int) ≤ 15 by decide⟩ ⟨Int.le_refl _, show (0 : Int) ≤ 15 by decide⟩) ?_, ?_⟩
  · have e : sizedF ⟨28, d, 0, 0, 0, 0⟩ = true := by rw [sizedF, if_neg (by dsimp only; decide), if_neg (by dsimp only; decide), if_neg (by dsimp only; decide)]; rfl
    rw [e, none_any _ 1 _ (by dsimp only; decide), none_zero _ 2, none_zero _ 4, none_zero _ 8, none_zero _ 16]
    rfl
  · show byteOf (rexN true 0 d) :: 211 :: byteOf (twoN 7 d) :: [] = byteOf (64 + 8 * 1 + 4 * (0 / 8) + (d + 0) / 8) :: byteOf (211 + 0 + 0) :: byteOf (64 * 3 + 8 * (7) + (d + 0) % 8) :: []
    exact list2 (congrArg byteOf (by simp only [rexN, if_true, if_false, Bool.false_eq_true]; omega)) (list2 (rfl) (list2 (congrArg byteOf (by simp only [memN, twoN]; omega)) (rfl)))
theorem form33 {d s c z n k : Int} (h : fitsF ⟨29, 0, 0, true, 1, [193], 3, 4, 2, 0, 0, 5⟩ ⟨k, d, s, c, z, n⟩ = true) : validF ⟨k, d, s, c, z, n⟩ = true ∧ encF ⟨k, d, s, c, z, n⟩ = bytesF ⟨29, 0, 0, true, 1, [193], 3, 4, 2, 0, 0, 5⟩ ⟨k, d, s, c, z, n⟩ := by
  simp only [fitsF, Bool.and_eq_true, decide_eq_true_eq] at h
  obtain ⟨⟨⟨⟨⟨hk, hz⟩, hd⟩, hs⟩, hc⟩, hn⟩ := h
  subst hk; subst hz
  have dr := field_range hd
  obtain rfl := fld0 hs
  obtain rfl := fld0 hc
  have hn : inF n 0 63 = true := hn
  refine ⟨valid_mk (bad0_of rfl dr ⟨Int.le_refl _, show (0 : Int) ≤ 15 by decide⟩ ⟨Int.le_refl _, show (0 : Int) ≤ 15 by decide⟩) ?_, ?_⟩
  · have e : sizedF ⟨29, d, 0, 0, 0, n⟩ = true := by rw [sizedF, if_neg (by dsimp only; decide), if_neg (by dsimp only; decide), if_pos (by dsimp only; decide), hn]
    rw [e, none_any _ 1 _ (by dsimp only; decide), none_zero _ 2, none_any _ 4 _ (by dsimp only; decide), none_zero _ 8, none_zero _ 16]
    rfl
  · show byteOf (rexN true 0 d) :: 193 :: byteOf (twoN 4 d) :: immF n 1 = byteOf (64 + 8 * 1 + 4 * (0 / 8) + (d + 0) / 8) :: byteOf (193 + 0 + 0) :: byteOf (64 * 3 + 8 * (4) + (d + 0) % 8) :: leBytes 1 (n % 18446744073709551616)
    exact list2 (congrArg byteOf (by simp only [rexN, if_true, if_false, Bool.false_eq_true]; omega)) (list2 (rfl) (list2 (congrArg byteOf (by simp only [memN, twoN]; omega)) (imm_mod (by decide) n)))
theorem form34 {d s c z n k : Int} (h : fitsF ⟨30, 0, 0, true, 1, [193], 3, 5, 2, 0, 0, 5⟩ ⟨k, d, s, c, z, n⟩ = true) : validF ⟨k, d, s, c, z, n⟩ = true ∧ encF ⟨k, d, s, c, z, n⟩ = bytesF ⟨30, 0, 0, true, 1, [193], 3, 5, 2, 0, 0, 5⟩ ⟨k, d, s, c, z, n⟩ := by
  simp only [fitsF, Bool.and_eq_true, decide_eq_true_eq] at h
  obtain ⟨⟨⟨⟨⟨hk, hz⟩, hd⟩, hs⟩, hc⟩, hn⟩ := h
  subst hk; subst hz
  have dr := field_range hd
  obtain rfl := fld0 hs
  obtain rfl := fld0 hc
  have hn : inF n 0 63 = true := hn
  refine ⟨valid_mk (bad0_of rfl dr ⟨Int.le_refl _, show (0 : Int) ≤ 15 by decide⟩ ⟨Int.le_refl _, show (0 : Int) ≤ 15 by decide⟩) ?_, ?_⟩
  · have e : sizedF ⟨30, d, 0, 0, 0, n⟩ = true := by rw [sizedF, if_neg (by dsimp only; decide), if_neg (by dsimp only; decide), if_pos (by dsimp only; decide), hn]
    rw [e, none_any _ 1 _ (by dsimp only; decide), none_zero _ 2, none_any _ 4 _ (by dsimp only; decide), none_zero _ 8, none_zero _ 16]
    rfl
  · show byteOf (rexN true 0 d) :: 193 :: byteOf (twoN 5 d) :: immF n 1 = byteOf (64 + 8 * 1 + 4 * (0 / 8) + (d + 0) / 8) :: byteOf (193 + 0 + 0) :: byteOf (64 * 3 + 8 * (5) + (d + 0) % 8) :: leBytes 1 (n % 18446744073709551616)
    exact list2 (congrArg byteOf (by simp only [rexN, if_true, if_false, Bool.false_eq_true]; omega)) (list2 (rfl) (list2 (congrArg byteOf (by simp only [memN, twoN]; omega)) (imm_mod (by decide) n)))
theorem form35 {d s c z n k : Int} (h : fitsF ⟨31, 0, 0, true, 1, [193], 3, 7, 2, 0, 0, 5⟩ ⟨k, d, s, c, z, n⟩ = true) : validF ⟨k, d, s, c, z, n⟩ = true ∧ encF ⟨k, d, s, c, z, n⟩ = bytesF ⟨31, 0, 0, true, 1, [193], 3, 7, 2, 0, 0, 5⟩ ⟨k, d, s, c, z, n⟩ := by
  simp only [fitsF, Bool.and_eq_true, decide_eq_true_eq] at h
  obtain ⟨⟨⟨⟨⟨hk, hz⟩, hd⟩, hs⟩, hc⟩, hn⟩ := h
  subst hk; subst hz
  have dr := field_range hd
  obtain rfl := fld0 hs
  obtain rfl := fld0 hc
  have hn : inF n 0 63 = true := hn
  refine ⟨valid_mk (bad0_of rfl dr ⟨Int.le_refl _, show (0 : Int) ≤ 15 by decide⟩ ⟨Int.le_refl _, show (0 : Int) ≤ 15 by decide⟩) ?_, ?_⟩
  · have e : sizedF ⟨31, d, 0, 0, 0, n⟩ = true := by rw [sizedF, if_neg (by dsimp only; decide), if_neg (by dsimp only; decide), if_pos (by dsimp only; decide), hn]
    rw [e, none_any _ 1 _ (by dsimp only; decide), none_zero _ 2, none_any _ 4 _ (by dsimp only; decide), none_zero _ 8, none_zero _ 16]
    rfl
  · show byteOf (rexN true 0 d) :: 193 :: byteOf (twoN 7 d) :: immF n 1 = byteOf (64 + 8 * 1 + 4 * (0 / 8) + (d + 0) / 8) :: byteOf (193 + 0 + 0) :: byteOf (64 * 3 + 8 * (7) + (d + 0) % 8) :: leBytes 1 (n % 18446744073709551616)
    exact list2 (congrArg byteOf (by simp only [rexN, if_true, if_false, Bool.false_eq_true]; omega)) (list2 (rfl) (list2 (congrArg byteOf (by simp only [memN, twoN]; omega)) (imm_mod (by decide) n)))
theorem form36 {d s c z n k : Int} (h : fitsF ⟨32, 0, 0, true, 0, [15, 144], 3, 0, 2, 0, 4, 0⟩ ⟨k, d, s, c, z, n⟩ = true) : validF ⟨k, d, s, c, z, n⟩ = true ∧ encF ⟨k, d, s, c, z, n⟩ = bytesF ⟨32, 0, 0, true, 0, [15, 144], 3, 0, 2, 0, 4, 0⟩ ⟨k, d, s, c, z, n⟩ := by
  simp only [fitsF, Bool.and_eq_true, decide_eq_true_eq] at h
  obtain ⟨⟨⟨⟨⟨hk, hz⟩, hd⟩, hs⟩, hc⟩, hn⟩ := h
  subst hk; subst hz
  have dr := field_range hd
  obtain rfl := fld0 hs
  have cr := field_range hc
  obtain rfl : n = 0 := of_decide_eq_true hn
  refine ⟨valid_mk (bad0_of rfl dr ⟨Int.le_refl _, show (0 : Int) ≤ 15 by decide⟩ cr) ?_, ?_⟩
  · have e : sizedF ⟨32, d, 0, c, 0, 0⟩ = true := by rw [sizedF, if_neg (by dsimp only; decide), if_neg (by dsimp only; decide), if_neg (by dsimp only; decide)]; rfl
    rw [e, none_any _ 1 _ (by dsimp only; decide), none_zero _ 2, none_zero _ 4, none_any _ 8 _ (by dsimp only; decide), none_zero _ 16]
    rfl
  · show byteOf (rexN false 0 d) :: 15 :: byteOf (144 + c) :: byteOf (twoN 0 d) :: [] = byteOf (64 + 8 * 0 + 4 * (0 / 8) + (d + 0) / 8) :: byteOf (15 + 0 + 0) :: byteOf (144 + c + 0) :: byteOf (64 * 3 + 8 * (0) + (d + 0) % 8) :: []
    exact list2 (congrArg byteOf (by simp only [rexN, if_true, if_false, Bool.false_eq_true]; omega)) (list2 (rfl) (list2 (congrArg byteOf (by omega)) (list2 (congrArg byteOf (by simp only [memN, twoN]; omega)) (rfl))))
theorem form37 {d s c z n k : Int} (h : fitsF ⟨33, 0, 0, true, 1, [15, 182], 3, 0, 1, 2, 0, 0⟩ ⟨k, d, s, c, z, n⟩ = true) : validF ⟨k, d, s, c, z, n⟩ = true ∧ encF ⟨k, d, s, c, z, n⟩ = bytesF ⟨33, 0, 0, true, 1, [15, 182], 3, 0, 1, 2, 0, 0⟩ ⟨k, d, s, c, z, n⟩ := by
  simp only [fitsF, Bool.and_eq_true, decide_eq_true_eq] at h
  obtain ⟨⟨⟨⟨⟨hk, hz⟩, hd⟩, hs⟩, hc⟩, hn⟩ := h
  subst hk; subst hz
  have dr := field_range hd
  have sr := field_range hs
  obtain rfl := fld0 hc
  obtain rfl : n = 0 := of_decide_eq_true hn
  refine ⟨valid_mk (bad0_of rfl dr sr ⟨Int.le_refl _, show (0 : Int) ≤ 15 by decide⟩) ?_, ?_⟩
  · have e : sizedF ⟨33, d, s, 0, 0, 0⟩ = true := by rw [sizedF, if_neg (by dsimp only; decide), if_neg (by dsimp only; decide), if_neg (by dsimp only; decide)]; rfl
    rw [e, none_any _ 1 _ (by dsimp only; decide), none_any _ 2 _ (by dsimp only; decide), none_zero _ 4, none_zero _ 8, none_zero _ 16]
    rfl
  · show byteOf (rexN true d s) :: 15 :: 182 :: byteOf (twoN d s) :: [] = byteOf (64 + 8 * 1 + 4 * (d / 8) + (s + 0) / 8) :: byteOf (15 + 0 + 0) :: byteOf (182 + 0 + 0) :: byteOf (64 * 3 + 8 * (d % 8) + (s + 0) % 8) :: []
    exact list2 (congrArg byteOf (by simp only [rexN, if_true, if_false, Bool.false_eq_true]; omega)) (list2 (rfl) (list2 (rfl) (list2 (congrArg byteOf (by simp only [memN, twoN]; omega)) (rfl))))
theorem form38 {d s c z n k : Int} (h : fitsF ⟨34, 0, 0, true, 1, [15, 64], 3, 0, 1, 2, 4, 0⟩ ⟨k, d, s, c, z, n⟩ = true) : validF ⟨k, d, s, c, z, n⟩ = true ∧ encF ⟨k, d, s, c, z, n⟩ = bytesF ⟨34, 0, 0, true, 1, [15, 64], 3, 0, 1, 2, 4, 0⟩ ⟨k, d, s, c, z, n⟩ := by
  simp only [fitsF, Bool.and_eq_true, decide_eq_true_eq] at h
  obtain ⟨⟨⟨⟨⟨hk, hz⟩, hd⟩, hs⟩, hc⟩, hn⟩ := h
  subst hk; subst hz
  have dr := field_range hd
  have sr := field_range hs
  have cr := field_range hc
  obtain rfl : n = 0 := of_decide_eq_true hn
  refine ⟨valid_mk (bad0_of rfl dr sr cr) ?_, ?_⟩
  · have e : sizedF ⟨34, d, s, c, 0, 0⟩ = true := by rw [sizedF, if_neg (by dsimp only; decide), if_neg (by dsimp only; decide), if_neg (by dsimp only; decide)]; rfl
    rw [e, none_any _ 1 _ (by dsimp only; decide), none_any _ 2 _ (by dsimp only; decide), none_zero _ 4, none_any _ 8 _ (by dsimp only; decide), none_zero _ 16]
    rfl
  · show byteOf (rexN true d s) :: 15 :: byteOf (64 + c) :: byteOf (twoN d s) :: [] = byteOf (64 + 8 * 1 + 4 * (d / 8) + (s + 0) / 8) :: byteOf (15 + 0 + 0) :: byteOf (64 + c + 0) :: byteOf (64 * 3 + 8 * (d % 8) + (s + 0) % 8) :: []
    exact list2 (congrArg byteOf (by simp only [rexN, if_true, if_false, Bool.false_eq_true]; omega)) (list2 (rfl) (list2 (congrArg byteOf (by omega)) (list2 (congrArg byteOf (by simp only [memN, twoN]; omega)) (rfl))))
theorem form39 {d s c z n k : Int} (h : fitsF ⟨35, 1, 0, false, 0, [235], -1, 0, 0, 0, 0, 5⟩ ⟨k, d, s, c, z, n⟩ = true) : validF ⟨k, d, s, c, z, n⟩ = true ∧ encF ⟨k, d, s, c, z, n⟩ = bytesF ⟨35, 1, 0, false, 0, [235], -1, 0, 0, 0, 0, 5⟩ ⟨k, d, s, c, z, n⟩ := by
  simp only [fitsF, Bool.and_eq_true, decide_eq_true_eq] at h
  obtain ⟨⟨⟨⟨⟨hk, hz⟩, hd⟩, hs⟩, hc⟩, hn⟩ := h
  subst hk; subst hz
  obtain rfl := fld0 hd
  obtain rfl := fld0 hs
  obtain rfl := fld0 hc
  have hn : inF n (-128) 127 = true := hn
  refine ⟨valid_mk (bad0_of rfl ⟨Int.le_refl _, show (0 : Int) ≤ 15 by decide⟩ ⟨Int.le_refl _, show (0 : Int) ≤ 15 by decide⟩ ⟨Int.le_refl _, show (0 : Int) ≤ 15 by decide⟩) ?_, ?_⟩
  · have e : sizedF ⟨35, 0, 0, 0, 1, n⟩ = true := by rw [sizedF, if_neg (by dsimp only; decide), if_pos (by dsimp only; decide), hn]; simp
    rw [e, none_zero _ 1, none_zero _ 2, none_any _ 4 _ (by dsimp only; decide), none_zero _ 8, none_any _ 16 _ (by dsimp only; decide)]
    rfl
  · show 235 :: immF n 1 = byteOf (235 + 0 + 0) :: leBytes 1 (n % 18446744073709551616)
    exact list2 (rfl) (imm_mod (by decide) n)
theorem form40 {d s c z n k : Int} (h : fitsF ⟨35, 4, 0, false, 0, [233], -1, 0, 0, 0, 0, 6⟩ ⟨k, d, s, c, z, n⟩ = true) : validF ⟨k, d, s, c, z, n⟩ = true ∧ encF ⟨k, d, s, c, z, n⟩ = bytesF ⟨35, 4, 0, false, 0, [233], -1, 0, 0, 0, 0, 6⟩ ⟨k, d, s, c, z, n⟩ := by
  simp only [fitsF, Bool.and_eq_true, decide_eq_true_eq] at h
  obtain ⟨⟨⟨⟨⟨hk, hz⟩, hd⟩, hs⟩, hc⟩, hn⟩ := h
  subst hk; subst hz
  obtain rfl := fld0 hd
  obtain rfl := fld0 hs
  obtain rfl := fld0 hc
  have hn : smallF n = true := hn
  refine ⟨valid_mk (bad0_of rfl ⟨Int.le_refl _, show (0 : Int) ≤ 15 by decide⟩ ⟨Int.le_refl _, show (0 : Int) ≤ 15 by decide⟩ ⟨Int.le_refl _, show (0 : Int) ≤ 15 by decide⟩) ?_, ?_⟩
  · have e : sizedF ⟨35, 0, 0, 0, 4, n⟩ = true := by rw [sizedF, if_neg (by dsimp only; decide), if_pos (by dsimp only; decide), hn]; simp
    rw [e, none_zero _ 1, none_zero _ 2, none_any _ 4 _ (by dsimp only; decide), none_zero _ 8, none_any _ 16 _ (by dsimp only; decide)]
    rfl
  · show 233 :: immF n 4 = byteOf (233 + 0 + 0) :: leBytes 4 (n % 18446744073709551616)
    exact list2 (rfl) (imm_mod (by decide) n)
theorem form41 {d s c z n k : Int} (h : fitsF ⟨36, 1, 0, false, 0, [112], -1, 0, 0, 0, 4, 5⟩ ⟨k, d, s, c, z, n⟩ = true) : validF ⟨k, d, s, c, z, n⟩ = true ∧ encF ⟨k, d, s, c, z, n⟩ = bytesF ⟨36, 1, 0, false, 0, [112], -1, 0, 0, 0, 4, 5⟩ ⟨k, d, s, c, z, n⟩ := by
  simp only [fitsF, Bool.and_eq_true, decide_eq_true_eq] at h
  obtain ⟨⟨⟨⟨⟨hk, hz⟩, hd⟩, hs⟩, hc⟩, hn⟩ := h
  subst hk; subst hz
  obtain rfl := fld0 hd
  obtain rfl := fld0 hs
  have cr := field_range hc
  have hn : inF n (-128) 127 = true := hn
  refine ⟨valid_mk (bad0_of rfl ⟨Int.le_refl _, show (0 : Int) ≤ 15 by decide⟩ ⟨Int.le_refl _, show (0 : Int) ≤ 15 by decide⟩ cr) ?_, ?_⟩
  · have e : sizedF ⟨36, 0, 0, c, 1, n⟩ = true := by rw [sizedF, if_neg (by dsimp only; decide), if_pos (by dsimp only; decide), hn]; simp
    rw [e, none_zero _ 1, none_zero _ 2, none_any _ 4 _ (by dsimp only; decide), none_any _ 8 _ (by dsimp only; decide), none_any _ 16 _ (by dsimp only; decide)]
    rfl
  · show byteOf (112 + c) :: immF n 1 = byteOf (112 + c + 0) :: leBytes 1 (n % 18446744073709551616)
    exact list2 (congrArg byteOf (by omega)) (imm_mod (by decide) n)
theorem form42 {d s c z n k : Int} (h : fitsF ⟨36, 4, 0, false, 0, [15, 128], -1, 0, 0, 0, 4, 6⟩ ⟨k, d, s, c, z, n⟩ = true) : validF ⟨k, d, s, c, z, n⟩ = true ∧ encF ⟨k, d, s, c, z, n⟩ = bytesF ⟨36, 4, 0, false, 0, [15, 128], -1, 0, 0, 0, 4, 6⟩ ⟨k, d, s, c, z, n⟩ := by
  simp only [fitsF, Bool.and_eq_true, decide_eq_true_eq] at h
  obtain ⟨⟨⟨⟨⟨hk, hz⟩, hd⟩, hs⟩, hc⟩, hn⟩ := h
  subst hk; subst hz
  obtain rfl := fld0 hd
  obtain rfl := fld0 hs
  have cr := field_range hc
  have hn : smallF n = true := hn
  refine ⟨valid_mk (bad0_of rfl ⟨Int.le_refl _, show (0 : Int) ≤ 15 by decide⟩ ⟨Int.le_refl _, show (0 : Int) ≤ 15 by decide⟩ cr) ?_, ?_⟩
  · have e : sizedF ⟨36, 0, 0, c, 4, n⟩ = true := by rw [sizedF, if_neg (by dsimp only; decide), if_pos (by dsimp only; decide), hn]; simp
    rw [e, none_zero _ 1, none_zero _ 2, none_any _ 4 _ (by dsimp only; decide), none_any _ 8 _ (by dsimp only; decide), none_any _ 16 _ (by dsimp only; decide)]
    rfl
  · show 15 :: byteOf (128 + c) :: immF n 4 = byteOf (15 + 0 + 0) :: byteOf (128 + c + 0) :: leBytes 4 (n % 18446744073709551616)
    exact list2 (rfl) (list2 (congrArg byteOf (by omega)) (imm_mod (by decide) n))
theorem form43 {d s c z n k : Int} (h : fitsF ⟨37, 0, 0, false, 0, [232], -1, 0, 0, 0, 0, 6⟩ ⟨k, d, s, c, z, n⟩ = true) : validF ⟨k, d, s, c, z, n⟩ = true ∧ encF ⟨k, d, s, c, z, n⟩ = bytesF ⟨37, 0, 0, false, 0, [232], -1, 0, 0, 0, 0, 6⟩ ⟨k, d, s, c, z, n⟩ := by
  simp only [fitsF, Bool.and_eq_true, decide_eq_true_eq] at h
  obtain ⟨⟨⟨⟨⟨hk, hz⟩, hd⟩, hs⟩, hc⟩, hn⟩ := h
  subst hk; subst hz
  obtain rfl := fld0 hd
  obtain rfl := fld0 hs
  obtain rfl := fld0 hc
  have hn : smallF n = true := hn
  refine ⟨valid_mk (bad0_of rfl ⟨Int.le_refl _, show (0 : Int) ≤ 15 by decide⟩ ⟨Int.le_refl _, show (0 : Int) ≤ 15 by decide⟩ ⟨Int.le_refl _, show (0 : Int) ≤ 15 by decide⟩) ?_, ?_⟩
  · have e : sizedF ⟨37, 0, 0, 0, 0, n⟩ = true := by rw [sizedF, if_neg (by dsimp only; decide), if_neg (by dsimp only; decide), if_neg (by dsimp only; decide), hn, Bool.or_true]
    rw [e, none_zero _ 1, none_zero _ 2, none_any _ 4 _ (by dsimp only; decide), none_zero _ 8, none_zero _ 16]
    rfl
  · show 232 :: immF n 4 = byteOf (232 + 0 + 0) :: leBytes 4 (n % 18446744073709551616)
    exact list2 (rfl) (imm_mod (by decide) n)
theorem form44 {d s c z n k : Int} (h : fitsF ⟨38, 0, 0, true, 0, [255], 3, 2, 2, 0, 0, 0⟩ ⟨k, d, s, c, z, n⟩ = true) : validF ⟨k, d, s, c, z, n⟩ = true ∧ encF ⟨k, d, s, c, z, n⟩ = bytesF ⟨38, 0, 0, true, 0, [255], 3, 2, 2, 0, 0, 0⟩ ⟨k, d, s, c, z, n⟩ := by
  simp only [fitsF, Bool.and_eq_true, decide_eq_true_eq] at h
  obtain ⟨⟨⟨⟨⟨hk, hz⟩, hd⟩, hs⟩, hc⟩, hn⟩ := h
  subst hk; subst hz
  have dr := field_range hd
  obtain rfl := fld0 hs
  obtain rfl := fld0 hc
  obtain rfl : n = 0 := of_decide_eq_true hn
  refine ⟨valid_mk (bad0_of rfl dr ⟨Int.le_refl _, show (0 : Int) ≤ 15 by decide⟩ ⟨Int.le_refl _, show (0 : Int) ≤ 15 by decide⟩) ?_, ?_⟩
  · have e : sizedF ⟨38, d, 0, 0, 0, 0⟩ = true := by rw [sizedF, if_neg (by dsimp only; decide), if_neg (by dsimp only; decide), if_neg (by dsimp only; decide)]; rfl
    rw [e, none_any _ 1 _ (by dsimp only; decide), none_zero _ 2, none_zero _ 4, none_zero _ 8, none_zero _ 16]
    rfl
  · show byteOf (rexN false 0 d) :: 255 :: byteOf (twoN 2 d) :: [] = byteOf (64 + 8 * 0 + 4 * (0 / 8) + (d + 0) / 8) :: byteOf (255 + 0 + 0) :: byteOf (64 * 3 + 8 * (2) + (d + 0) % 8) :: []
    exact list2 (congrArg byteOf (by simp only [rexN, if_true, if_false, Bool.false_eq_true]; omega)) (list2 (rfl) (list2 (congrArg byteOf (by simp only [memN, twoN]; omega)) (rfl)))
theorem form45 {d s c z n k : Int} (h : fitsF ⟨39, 0, 0, true, 0, [255], 3, 4, 2, 0, 0, 0⟩ ⟨k, d, s, c, z, n⟩ = true) : validF ⟨k, d, s, c, z, n⟩ = true ∧ encF ⟨k, d, s, c, z, n⟩ = bytesF ⟨39, 0, 0, true, 0, [255], 3, 4, 2, 0, 0, 0⟩ ⟨k, d, s, c, z, n⟩ := by
  simp only [fitsF, Bool.and_eq_true, decide_eq_true_eq] at h
  obtain ⟨⟨⟨⟨⟨hk, hz⟩, hd⟩, hs⟩, hc⟩, hn⟩ := h
  subst hk; subst hz
  have dr := field_range hd
  obtain rfl := fld0 hs
  obtain rfl := fld0 hc
  obtain rfl : n = 0 := of_decide_eq_true hn
  refine ⟨valid_mk (bad0_of rfl dr ⟨Int.le_refl _, show (0 : Int) ≤ 15 by decide⟩ ⟨Int.le_refl _, show (0 : Int) ≤ 15 by decide⟩) ?_, ?_⟩
  · have e : sizedF ⟨39, d, 0, 0, 0, 0⟩ = true := by rw [sizedF, if_neg (by dsimp only; decide), if_neg (by dsimp only; decide), if_neg (by dsimp only; decide)]; rfl
    rw [e, none_any _ 1 _ (by dsimp only; decide), none_zero _ 2, none_zero _ 4, none_zero _ 8, none_zero _ 16]
    rfl
  · show byteOf (rexN false 0 d) :: 255 :: byteOf (twoN 4 d) :: [] = byteOf (64 + 8 * 0 + 4 * (0 / 8) + (d + 0) / 8) :: byteOf (255 + 0 + 0) :: byteOf (64 * 3 + 8 * (4) + (d + 0) % 8) :: []
    exact list2 (congrArg byteOf (by simp only [rexN, if_true, if_false, Bool.false_eq_true]; omega)) (list2 (rfl) (list2 (congrArg byteOf (by simp only [memN, twoN]; omega)) (rfl)))
theorem form46 {d s c z n k : Int} (h : fitsF ⟨40, 0, 0, false, 0, [195], -1, 0, 0, 0, 0, 0⟩ ⟨k, d, s, c, z, n⟩ = true) : validF ⟨k, d, s, c, z, n⟩ = true ∧ encF ⟨k, d, s, c, z, n⟩ = bytesF ⟨40, 0, 0, false, 0, [195], -1, 0, 0, 0, 0, 0⟩ ⟨k, d, s, c, z, n⟩ := by
  simp only [fitsF, Bool.and_eq_true, decide_eq_true_eq] at h
  obtain ⟨⟨⟨⟨⟨hk, hz⟩, hd⟩, hs⟩, hc⟩, hn⟩ := h
  subst hk; subst hz
  obtain rfl := fld0 hd
  obtain rfl := fld0 hs
  obtain rfl := fld0 hc
  obtain rfl : n = 0 := of_decide_eq_true hn
  refine ⟨valid_mk (bad0_of rfl ⟨Int.le_refl _, show (0 : Int) ≤ 15 by decide⟩ ⟨Int.le_refl _, show (0 : Int) ≤ 15 by decide⟩ ⟨Int.le_refl _, show (0 : Int) ≤ 15 by decide⟩) ?_, ?_⟩
  · have e : sizedF ⟨40, 0, 0, 0, 0, 0⟩ = true := by rw [sizedF, if_neg (by dsimp only; decide), if_neg (by dsimp only; decide), if_neg (by dsimp only; decide)]; rfl
    rw [e, none_zero _ 1, none_zero _ 2, none_zero _ 4, none_zero _ 8, none_zero _ 16]
    rfl
  · show 195 :: [] = byteOf (195 + 0 + 0) :: []
    exact list2 (rfl) (rfl)
theorem form47 {d s c z n k : Int} (h : fitsF ⟨41, 0, 0, true, 0, [80], -1, 0, 3, 0, 0, 0⟩ ⟨k, d, s, c, z, n⟩ = true) : validF ⟨k, d, s, c, z, n⟩ = true ∧ encF ⟨k, d, s, c, z, n⟩ = bytesF ⟨41, 0, 0, true, 0, [80], -1, 0, 3, 0, 0, 0⟩ ⟨k, d, s, c, z, n⟩ := by
  simp only [fitsF, Bool.and_eq_true, decide_eq_true_eq] at h
  obtain ⟨⟨⟨⟨⟨hk, hz⟩, hd⟩, hs⟩, hc⟩, hn⟩ := h
  subst hk; subst hz
  have dr := field_range hd
  obtain rfl := fld0 hs
  obtain rfl := fld0 hc
  obtain rfl : n = 0 := of_decide_eq_true hn
  refine ⟨valid_mk (bad0_of rfl dr ⟨Int.le_refl _, show (0 : Int) ≤ 15 by decide⟩ ⟨Int.le_refl _, show (0 : Int) ≤ 15 by decide⟩) ?_, ?_⟩
  · have e : sizedF ⟨41, d, 0, 0, 0, 0⟩ = true := by rw [sizedF, if_neg (by dsimp only; decide), if_neg (by dsimp only; decide), if_neg (by dsimp only; decide)]; rfl
    rw [e, none_any _ 1 _ (by dsimp only; decide), none_zero _ 2, none_zero _ 4, none_zero _ 8, none_zero _ 16]
    rfl
  · show byteOf (rexN false 0 d) :: byteOf (80 + d % 8) :: [] = byteOf (64 + 8 * 0 + 4 * (0 / 8) + (0 + d) / 8) :: byteOf (80 + 0 + d % 8) :: []
    exact list2 (congrArg byteOf (by simp only [rexN, if_true, if_false, Bool.false_eq_true]; omega)) (list2 (congrArg byteOf (by omega)) (rfl))
theorem form48 {d s c z n k : Int} (h : fitsF ⟨42, 0, 0, true, 0, [88], -1, 0, 3, 0, 0, 0⟩ ⟨k, d, s, c, z, n⟩ = true) : validF ⟨k, d, s, c, z, n⟩ = true ∧ encF ⟨k, d, s, c, z, n⟩ = bytesF ⟨42, 0, 0, true, 0, [88], -1, 0, 3, 0, 0, 0⟩ ⟨k, d, s, c, z, n⟩ := by
  simp only [fitsF, Bool.and_eq_true, decide_eq_true_eq] at h
  obtain ⟨⟨⟨⟨⟨hk, hz⟩, hd⟩, hs⟩, hc⟩, hn⟩ := h
  subst hk; subst hz
  have dr := field_range hd
  obtain rfl := fld0 hs
  obtain rfl := fld0 hc
  obtain rfl : n = 0 := of_decide_eq_true hn
  refine ⟨valid_mk (bad0_of rfl dr ⟨Int.le_refl _, show (0 : Int) ≤ 15 by decide⟩ ⟨Int.le_refl _, show (0 : Int) ≤ 15 by decide⟩) ?_, ?_⟩
  · have e : sizedF ⟨42, d, 0, 0, 0, 0⟩ = true := by rw [sizedF, if_neg (by dsimp only; decide), if_neg (by dsimp only; decide), if_neg (by dsimp only; decide)]; rfl
    rw [e, none_any _ 1 _ (by dsimp only; decide), none_zero _ 2, none_zero _ 4, none_zero _ 8, none_zero _ 16]
    rfl
  · show byteOf (rexN false 0 d) :: byteOf (88 + d % 8) :: [] = byteOf (64 + 8 * 0 + 4 * (0 / 8) + (0 + d) / 8) :: byteOf (88 + 0 + d % 8) :: []
    exact list2 (congrArg byteOf (by simp only [rexN, if_true, if_false, Bool.false_eq_true]; omega)) (list2 (congrArg byteOf (by omega)) (rfl))
theorem form49 {d s c z n k : Int} (h : fitsF ⟨43, 0, 0, false, 0, [15, 5], -1, 0, 0, 0, 0, 0⟩ ⟨k, d, s, c, z, n⟩ = true) : validF ⟨k, d, s, c, z, n⟩ = true ∧ encF ⟨k, d, s, c, z, n⟩ = bytesF ⟨43, 0, 0, false, 0, [15, 5], -1, 0, 0, 0, 0, 0⟩ ⟨k, d, s, c, z, n⟩ := by
  simp only [fitsF, Bool.and_eq_true, decide_eq_true_eq] at h
  obtain ⟨⟨⟨⟨⟨hk, hz⟩, hd⟩, hs⟩, hc⟩, hn⟩ := h
  subst hk; subst hz
  obtain rfl := fld0 hd
  obtain rfl := fld0 hs
  obtain rfl := fld0 hc
  obtain rfl : n = 0 := of_decide_eq_true hn
  refine ⟨valid_mk (bad0_of rfl ⟨Int.le_refl _, show (0 : Int) ≤ 15 by decide⟩ ⟨Int.le_refl _, show (0 : Int) ≤ 15 by decide⟩ ⟨Int.le_refl _, show (0 : Int) ≤ 15 by decide⟩) ?_, ?_⟩
  · have e : sizedF ⟨43, 0, 0, 0, 0, 0⟩ = true := by rw [sizedF, if_neg (by dsimp only; decide), if_neg (by dsimp only; decide), if_neg (by dsimp only; decide)]; rfl
    rw [e, none_zero _ 1, none_zero _ 2, none_zero _ 4, none_zero _ 8, none_zero _ 16]
    rfl
  · show 15 :: 5 :: [] = byteOf (15 + 0 + 0) :: byteOf (5 + 0 + 0) :: []
    exact list2 (rfl) (list2 (rfl) (rfl))
theorem form50 {d s c z n k : Int} (h : fitsF ⟨44, 0, 0, false, 0, [15, 11], -1, 0, 0, 0, 0, 0⟩ ⟨k, d, s, c, z, n⟩ = true) : validF ⟨k, d, s, c, z, n⟩ = true ∧ encF ⟨k, d, s, c, z, n⟩ = bytesF ⟨44, 0, 0, false, 0, [15, 11], -1, 0, 0, 0, 0, 0⟩ ⟨k, d, s, c, z, n⟩ := by
  simp only [fitsF, Bool.and_eq_true, decide_eq_true_eq] at h
  obtain ⟨⟨⟨⟨⟨hk, hz⟩, hd⟩, hs⟩, hc⟩, hn⟩ := h
  subst hk; subst hz
  obtain rfl := fld0 hd
  obtain rfl := fld0 hs
  obtain rfl := fld0 hc
  obtain rfl : n = 0 := of_decide_eq_true hn
  refine ⟨valid_mk (bad0_of rfl ⟨Int.le_refl _, show (0 : Int) ≤ 15 by decide⟩ ⟨Int.le_refl _, show (0 : Int) ≤ 15 by decide⟩ ⟨Int.le_refl _, show (0 : Int) ≤ 15 by decide⟩) ?_, ?_⟩
  · have e : sizedF ⟨44, 0, 0, 0, 0, 0⟩ = true := by rw [sizedF, if_neg (by dsimp only; decide), if_neg (by dsimp only; decide), if_neg (by dsimp only; decide)]; rfl
    rw [e, none_zero _ 1, none_zero _ 2, none_zero _ 4, none_zero _ 8, none_zero _ 16]
    rfl
  · show 15 :: 11 :: [] = byteOf (15 + 0 + 0) :: byteOf (11 + 0 + 0) :: []
    exact list2 (rfl) (list2 (rfl) (rfl))
theorem form51 {d s c z n k : Int} (h : fitsF ⟨45, 0, 102, true, 1, [15, 110], 3, 0, 1, 2, 0, 0⟩ ⟨k, d, s, c, z, n⟩ = true) : validF ⟨k, d, s, c, z, n⟩ = true ∧ encF ⟨k, d, s, c, z, n⟩ = bytesF ⟨45, 0, 102, true, 1, [15, 110], 3, 0, 1, 2, 0, 0⟩ ⟨k, d, s, c, z, n⟩ := by
  simp only [fitsF, Bool.and_eq_true, decide_eq_true_eq] at h
  obtain ⟨⟨⟨⟨⟨hk, hz⟩, hd⟩, hs⟩, hc⟩, hn⟩ := h
  subst hk; subst hz
  have dr := field_range hd
  have sr := field_range hs
  obtain rfl := fld0 hc
  obtain rfl : n = 0 := of_decide_eq_true hn
  refine ⟨valid_mk (bad0_of rfl dr sr ⟨Int.le_refl _, show (0 : Int) ≤ 15 by decide⟩) ?_, ?_⟩
  · have e : sizedF ⟨45, d, s, 0, 0, 0⟩ = true := by rw [sizedF, if_neg (by dsimp only; decide), if_neg (by dsimp only; decide), if_neg (by dsimp only; decide)]; rfl
    rw [e, none_any _ 1 _ (by dsimp only; decide), none_any _ 2 _ (by dsimp only; decide), none_zero _ 4, none_zero _ 8, none_zero _ 16]
    rfl
  · show 102 :: byteOf (rexN true d s) :: 15 :: 110 :: byteOf (twoN d s) :: [] = byteOf 102 :: byteOf (64 + 8 * 1 + 4 * (d / 8) + (s + 0) / 8) :: byteOf (15 + 0 + 0) :: byteOf (110 + 0 + 0) :: byteOf (64 * 3 + 8 * (d % 8) + (s + 0) % 8) :: []
    exact list2 (rfl) (list2 (congrArg byteOf (by simp only [rexN, if_true, if_false, Bool.false_eq_true]; omega)) (list2 (rfl) (list2 (rfl) (list2 (congrArg byteOf (by simp only [memN, twoN]; omega)) (rfl)))))
theorem form52 {d s c z n k : Int} (h : fitsF ⟨46, 0, 102, true, 1, [15, 126], 3, 0, 2, 1, 0, 0⟩ ⟨k, d, s, c, z, n⟩ = true) : validF ⟨k, d, s, c, z, n⟩ = true ∧ encF ⟨k, d, s, c, z, n⟩ = bytesF ⟨46, 0, 102, true, 1, [15, 126], 3, 0, 2, 1, 0, 0⟩ ⟨k, d, s, c, z, n⟩ := by
  simp only [fitsF, Bool.and_eq_true, decide_eq_true_eq] at h
  obtain ⟨⟨⟨⟨⟨hk, hz⟩, hd⟩, hs⟩, hc⟩, hn⟩ := h
  subst hk; subst hz
  have dr := field_range hd
  have sr := field_range hs
  obtain rfl := fld0 hc
  obtain rfl : n = 0 := of_decide_eq_true hn
  refine ⟨valid_mk (bad0_of rfl dr sr ⟨Int.le_refl _, show (0 : Int) ≤ 15 by decide⟩) ?_, ?_⟩
  · have e : sizedF ⟨46, d, s, 0, 0, 0⟩ = true := by rw [sizedF, if_neg (by dsimp only; decide), if_neg (by dsimp only; decide), if_neg (by dsimp only; decide)]; rfl
    rw [e, none_any _ 1 _ (by dsimp only; decide), none_any _ 2 _ (by dsimp only; decide), none_zero _ 4, none_zero _ 8, none_zero _ 16]
    rfl
  · show 102 :: byteOf (rexN true s d) :: 15 :: 126 :: byteOf (twoN s d) :: [] = byteOf 102 :: byteOf (64 + 8 * 1 + 4 * (s / 8) + (d + 0) / 8) :: byteOf (15 + 0 + 0) :: byteOf (126 + 0 + 0) :: byteOf (64 * 3 + 8 * (s % 8) + (d + 0) % 8) :: []
    exact list2 (rfl) (list2 (congrArg byteOf (by simp only [rexN, if_true, if_false, Bool.false_eq_true]; omega)) (list2 (rfl) (list2 (rfl) (list2 (congrArg byteOf (by simp only [memN, twoN]; omega)) (rfl)))))
theorem form53 {d s c z n k : Int} (h : fitsF ⟨47, 0, 242, true, 0, [15, 88], 3, 0, 1, 2, 0, 0⟩ ⟨k, d, s, c, z, n⟩ = true) : validF ⟨k, d, s, c, z, n⟩ = true ∧ encF ⟨k, d, s, c, z, n⟩ = bytesF ⟨47, 0, 242, true, 0, [15, 88], 3, 0, 1, 2, 0, 0⟩ ⟨k, d, s, c, z, n⟩ := by
  simp only [fitsF, Bool.and_eq_true, decide_eq_true_eq] at h
  obtain ⟨⟨⟨⟨⟨hk, hz⟩, hd⟩, hs⟩, hc⟩, hn⟩ := h
  subst hk; subst hz
  have dr := field_range hd
  have sr := field_range hs
  obtain rfl := fld0 hc
  obtain rfl : n = 0 := of_decide_eq_true hn
  refine ⟨valid_mk (bad0_of rfl dr sr ⟨Int.le_refl _, show (0 : Int) ≤ 15 by decide⟩) ?_, ?_⟩
  · have e : sizedF ⟨47, d, s, 0, 0, 0⟩ = true := by rw [sizedF, if_neg (by dsimp only; decide), if_neg (by dsimp only; decide), if_neg (by dsimp only; decide)]; rfl
    rw [e, none_any _ 1 _ (by dsimp only; decide), none_any _ 2 _ (by dsimp only; decide), none_zero _ 4, none_zero _ 8, none_zero _ 16]
    rfl
  · show 242 :: byteOf (rexN false d s) :: 15 :: 88 :: byteOf (twoN d s) :: [] = byteOf 242 :: byteOf (64 + 8 * 0 + 4 * (d / 8) + (s + 0) / 8) :: byteOf (15 + 0 + 0) :: byteOf (88 + 0 + 0) :: byteOf (64 * 3 + 8 * (d % 8) + (s + 0) % 8) :: []
    exact list2 (rfl) (list2 (congrArg byteOf (by simp only [rexN, if_true, if_false, Bool.false_eq_true]; omega)) (list2 (rfl) (list2 (rfl) (list2 (congrArg byteOf (by simp only [memN, twoN]; omega)) (rfl)))))
theorem form54 {d s c z n k : Int} (h : fitsF ⟨48, 0, 242, true, 0, [15, 89], 3, 0, 1, 2, 0, 0⟩ ⟨k, d, s, c, z, n⟩ = true) : validF ⟨k, d, s, c, z, n⟩ = true ∧ encF ⟨k, d, s, c, z, n⟩ = bytesF ⟨48, 0, 242, true, 0, [15, 89], 3, 0, 1, 2, 0, 0⟩ ⟨k, d, s, c, z, n⟩ := by
  simp only [fitsF, Bool.and_eq_true, decide_eq_true_eq] at h
  obtain ⟨⟨⟨⟨⟨hk, hz⟩, hd⟩, hs⟩, hc⟩, hn⟩ := h
  subst hk; subst hz
  have dr := field_range hd
  have sr := field_range hs
  obtain rfl := fld0 hc
  obtain rfl : n = 0 := of_decide_eq_true hn
  refine ⟨valid_mk (bad0_of rfl dr sr ⟨Int.le_refl _, show (0 : Int) ≤ 15 by decide⟩) ?_, ?_⟩
  · have e : sizedF ⟨48, d, s, 0, 0, 0⟩ = true := by rw [sizedF, if_neg (by dsimp only; decide), if_neg (by dsimp only; decide), if_neg (by dsimp only; decide)]; rfl
    rw [e, none_any _ 1 _ (by dsimp only; decide), none_any _ 2 _ (by dsimp only; decide), none_zero _ 4, none_zero _ 8, none_zero _ 16]
    rfl
  · show 242 :: byteOf (rexN false d s) :: 15 :: 89 :: byteOf (twoN d s) :: [] = byteOf 242 :: byteOf (64 + 8 * 0 + 4 * (d / 8) + (s + 0) / 8) :: byteOf (15 + 0 + 0) :: byteOf (89 + 0 + 0) :: byteOf (64 * 3 + 8 * (d % 8) + (s + 0) % 8) :: []
    exact list2 (rfl) (list2 (congrArg byteOf (by simp only [rexN, if_true, if_false, Bool.false_eq_true]; omega)) (list2 (rfl) (list2 (rfl) (list2 (congrArg byteOf (by simp only [memN, twoN]; omega)) (rfl)))))
theorem form55 {d s c z n k : Int} (h : fitsF ⟨49, 0, 242, true, 0, [15, 92], 3, 0, 1, 2, 0, 0⟩ ⟨k, d, s, c, z, n⟩ = true) : validF ⟨k, d, s, c, z, n⟩ = true ∧ encF ⟨k, d, s, c, z, n⟩ = bytesF ⟨49, 0, 242, true, 0, [15, 92], 3, 0, 1, 2, 0, 0⟩ ⟨k, d, s, c, z, n⟩ := by
  simp only [fitsF, Bool.and_eq_true, decide_eq_true_eq] at h
  obtain ⟨⟨⟨⟨⟨hk, hz⟩, hd⟩, hs⟩, hc⟩, hn⟩ := h
  subst hk; subst hz
  have dr := field_range hd
  have sr := field_range hs
  obtain rfl := fld0 hc
  obtain rfl : n = 0 := of_decide_eq_true hn
  refine ⟨valid_mk (bad0_of rfl dr sr ⟨Int.le_refl _, show (0 : Int) ≤ 15 by decide⟩) ?_, ?_⟩
  · have e : sizedF ⟨49, d, s, 0, 0, 0⟩ = true := by rw [sizedF, if_neg (by dsimp only; decide), if_neg (by dsimp only; decide), if_neg (by dsimp only; decide)]; rfl
    rw [e, none_any _ 1 _ (by dsimp only; decide), none_any _ 2 _ (by dsimp only; decide), none_zero _ 4, none_zero _ 8, none_zero _ 16]
    rfl
  · show 242 :: byteOf (rexN false d s) :: 15 :: 92 :: byteOf (twoN d s) :: [] = byteOf 242 :: byteOf (64 + 8 * 0 + 4 * (d / 8) + (s + 0) / 8) :: byteOf (15 + 0 + 0) :: byteOf (92 + 0 + 0) :: byteOf (64 * 3 + 8 * (d % 8) + (s + 0) % 8) :: []
    exact list2 (rfl) (list2 (congrArg byteOf (by simp only [rexN, if_true, if_false, Bool.false_eq_true]; omega)) (list2 (rfl) (list2 (rfl) (list2 (congrArg byteOf (by simp only [memN, twoN]; omega)) (rfl)))))
theorem form56 {d s c z n k : Int} (h : fitsF ⟨50, 0, 242, true, 0, [15, 94], 3, 0, 1, 2, 0, 0⟩ ⟨k, d, s, c, z, n⟩ = true) : validF ⟨k, d, s, c, z, n⟩ = true ∧ encF ⟨k, d, s, c, z, n⟩ = bytesF ⟨50, 0, 242, true, 0, [15, 94], 3, 0, 1, 2, 0, 0⟩ ⟨k, d, s, c, z, n⟩ := by
  simp only [fitsF, Bool.and_eq_true, decide_eq_true_eq] at h
  obtain ⟨⟨⟨⟨⟨hk, hz⟩, hd⟩, hs⟩, hc⟩, hn⟩ := h
  subst hk; subst hz
  have dr := field_range hd
  have sr := field_range hs
  obtain rfl := fld0 hc
  obtain rfl : n = 0 := of_decide_eq_true hn
  refine ⟨valid_mk (bad0_of rfl dr sr ⟨Int.le_refl _, show (0 : Int) ≤ 15 by decide⟩) ?_, ?_⟩
  · have e : sizedF ⟨50, d, s, 0, 0, 0⟩ = true := by rw [sizedF, if_neg (by dsimp only; decide), if_neg (by dsimp only; decide), if_neg (by dsimp only; decide)]; rfl
    rw [e, none_any _ 1 _ (by dsimp only; decide), none_any _ 2 _ (by dsimp only; decide), none_zero _ 4, none_zero _ 8, none_zero _ 16]
    rfl
  · show 242 :: byteOf (rexN false d s) :: 15 :: 94 :: byteOf (twoN d s) :: [] = byteOf 242 :: byteOf (64 + 8 * 0 + 4 * (d / 8) + (s + 0) / 8) :: byteOf (15 + 0 + 0) :: byteOf (94 + 0 + 0) :: byteOf (64 * 3 + 8 * (d % 8) + (s + 0) % 8) :: []
    exact list2 (rfl) (list2 (congrArg byteOf (by simp only [rexN, if_true, if_false, Bool.false_eq_true]; omega)) (list2 (rfl) (list2 (rfl) (list2 (congrArg byteOf (by simp only [memN, twoN]; omega)) (rfl)))))
theorem form57 {d s c z n k : Int} (h : fitsF ⟨51, 0, 102, true, 0, [15, 46], 3, 0, 1, 2, 0, 0⟩ ⟨k, d, s, c, z, n⟩ = true) : validF ⟨k, d, s, c, z, n⟩ = true ∧ encF ⟨k, d, s, c, z, n⟩ = bytesF ⟨51, 0, 102, true, 0, [15, 46], 3, 0, 1, 2, 0, 0⟩ ⟨k, d, s, c, z, n⟩ := by
  simp only [fitsF, Bool.and_eq_true, decide_eq_true_eq] at h
  obtain ⟨⟨⟨⟨⟨hk, hz⟩, hd⟩, hs⟩, hc⟩, hn⟩ := h
  subst hk; subst hz
  have dr := field_range hd
  have sr := field_range hs
  obtain rfl := fld0 hc
  obtain rfl : n = 0 := of_decide_eq_true hn
  refine ⟨valid_mk (bad0_of rfl dr sr ⟨Int.le_refl _, show (0 : Int) ≤ 15 by decide⟩) ?_, ?_⟩
  · have e : sizedF ⟨51, d, s, 0, 0, 0⟩ = true := by rw [sizedF, if_neg (by dsimp only; decide), if_neg (by dsimp only; decide), if_neg (by dsimp only; decide)]; rfl
    rw [e, none_any _ 1 _ (by dsimp only; decide), none_any _ 2 _ (by dsimp only; decide), none_zero _ 4, none_zero _ 8, none_zero _ 16]
    rfl
  · show 102 :: byteOf (rexN false d s) :: 15 :: 46 :: byteOf (twoN d s) :: [] = byteOf 102 :: byteOf (64 + 8 * 0 + 4 * (d / 8) + (s + 0) / 8) :: byteOf (15 + 0 + 0) :: byteOf (46 + 0 + 0) :: byteOf (64 * 3 + 8 * (d % 8) + (s + 0) % 8) :: []
    exact list2 (rfl) (list2 (congrArg byteOf (by simp only [rexN, if_true, if_false, Bool.false_eq_true]; omega)) (list2 (rfl) (list2 (rfl) (list2 (congrArg byteOf (by simp only [memN, twoN]; omega)) (rfl)))))
theorem form58 {d s c z n k : Int} (h : fitsF ⟨52, 0, 242, true, 1, [15, 42], 3, 0, 1, 2, 0, 0⟩ ⟨k, d, s, c, z, n⟩ = true) : validF ⟨k, d, s, c, z, n⟩ = true ∧ encF ⟨k, d, s, c, z, n⟩ = bytesF ⟨52, 0, 242, true, 1, [15, 42], 3, 0, 1, 2, 0, 0⟩ ⟨k, d, s, c, z, n⟩ := by
  simp only [fitsF, Bool.and_eq_true, decide_eq_true_eq] at h
  obtain ⟨⟨⟨⟨⟨hk, hz⟩, hd⟩, hs⟩, hc⟩, hn⟩ := h
  subst hk; subst hz
  have dr := field_range hd
  have sr := field_range hs
  obtain rfl := fld0 hc
  obtain rfl : n = 0 := of_decide_eq_true hn
  refine ⟨valid_mk (bad0_of rfl dr sr ⟨Int.le_refl _, show (0 : Int) ≤ 15 by decide⟩) ?_, ?_⟩
  · have e : sizedF ⟨52, d, s, 0, 0, 0⟩ = true := by rw [sizedF, if_neg (by dsimp only; decide), if_neg (by dsimp only; decide), if_neg (by dsimp only; decide)]; rfl
    rw [e, none_any _ 1 _ (by dsimp only; decide), none_any _ 2 _ (by dsimp only; decide), none_zero _ 4, none_zero _ 8, none_zero _ 16]
    rfl
  · show 242 :: byteOf (rexN true d s) :: 15 :: 42 :: byteOf (twoN d s) :: [] = byteOf 242 :: byteOf (64 + 8 * 1 + 4 * (d / 8) + (s + 0) / 8) :: byteOf (15 + 0 + 0) :: byteOf (42 + 0 + 0) :: byteOf (64 * 3 + 8 * (d % 8) + (s + 0) % 8) :: []
    exact list2 (rfl) (list2 (congrArg byteOf (by simp only [rexN, if_true, if_false, Bool.false_eq_true]; omega)) (list2 (rfl) (list2 (rfl) (list2 (congrArg byteOf (by simp only [memN, twoN]; omega)) (rfl)))))
theorem forms_enc {f : FormF} (hf : f ∈ formsF) {i : Ins} (h : fitsF f i = true) : validF i = true ∧ encF i = bytesF f i := by
  obtain ⟨k, d, s, c, z, n⟩ := i
  simp only [formsF, List.mem_cons, List.not_mem_nil, or_false] at hf
  rcases hf with rfl | rfl | rfl | rfl | rfl | rfl | rfl | rfl | rfl | rfl | rfl | rfl | rfl | rfl | rfl | rfl | rfl | rfl | rfl | rfl | rfl | rfl | rfl | rfl | rfl | rfl | rfl | rfl | rfl | rfl | rfl | rfl | rfl | rfl | rfl | rfl | rfl | rfl | rfl | rfl | rfl | rfl | rfl | rfl | rfl | rfl | rfl | rfl | rfl | rfl | rfl | rfl | rfl | rfl | rfl | rfl | rfl | rfl | rfl
  · exact form0 h
  · exact form1 h
  · exact form2 h
  · exact form3 h
  · exact form4 h
  · exact form5 h
  · exact form6 h
  · exact form7 h
  · exact form8 h
  · exact form9 h
  · exact form10 h
  · exact form11 h
  · exact form12 h
  · exact form13 h
  · exact form14 h
  · exact form15 h
  · exact form16 h
  · exact form17 h
  · exact form18 h
  · exact form19 h
  · exact form20 h
  · exact form21 h
  · exact form22 h
  · exact form23 h
  · exact form24 h
  · exact form25 h
  · exact form26 h
  · exact form27 h
  · exact form28 h
  · exact form29 h
  · exact form30 h
  · exact form31 h
  · exact form32 h
  · exact form33 h
  · exact form34 h
  · exact form35 h
  · exact form36 h
  · exact form37 h
  · exact form38 h
  · exact form39 h
  · exact form40 h
  · exact form41 h
  · exact form42 h
  · exact form43 h
  · exact form44 h
  · exact form45 h
  · exact form46 h
  · exact form47 h
  · exact form48 h
  · exact form49 h
  · exact form50 h
  · exact form51 h
  · exact form52 h
  · exact form53 h
  · exact form54 h
  · exact form55 h
  · exact form56 h
  · exact form57 h
  · exact form58 h
end Go.Proofs.YtjndpakhmgapjaaDoor
