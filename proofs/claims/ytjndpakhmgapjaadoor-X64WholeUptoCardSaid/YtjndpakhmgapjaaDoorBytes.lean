/-
  BYTES AND NUMBERS: bytes in trees, numbers as bytes.
-/
import Derived.Test.YtjndpakhmgapjaaDoorAw21
namespace Go.Proofs.YtjndpakhmgapjaaDoor
open Go Go.RowKit
set_option linter.unusedSimpArgs false
theorem len_u8s {bs : List UInt8} : (bs.map u8).length = bs.length * 1 := by simp
theorem u8_at {bs : List UInt8} {j : Nat} {b : UInt8} (h : bs[j]? = some b) : (bs.map u8)[j * 1]? = some (u8 b) := by simp [h]
theorem u8_get {bs : List UInt8} {j : Nat} (h : j < bs.length) : (bs.map u8)[j * 1]? = some (u8 (bs.getD j 0)) := by simp [h]
theorem getD_eq {bs : List UInt8} {j : Nat} (h : j < bs.length) : bs.getD j 0 = bs[j] := by simp [h]
theorem u8_toNat (b : UInt8) : (0 : Int) ≤ b.toNat ∧ (b.toNat : Int) ≤ 255 := by have := b.toNat_lt; omega

/-- A number, the lowest byte first. -/
def leNum : List UInt8 → Int
  | [] => 0
  | b :: r => (b.toNat : Int) + 256 * leNum r
theorem leNum_nonneg : ∀ l, 0 ≤ leNum l
  | [] => Int.le_refl _
  | b :: r => by have := leNum_nonneg r; simp only [leNum]; omega
theorem leNum_lt : ∀ l, leNum l < 256 ^ l.length
  | [] => by simp [leNum]
  | b :: r => by
    have h1 := leNum_lt r
    have h2 := u8_toNat b
    simp only [leNum, List.length_cons, Int.pow_succ]
    omega
/-- So many bytes of a number, the lowest first. -/
def leBytes : Nat → Int → List UInt8
  | 0, _ => []
  | k + 1, x => UInt8.ofNat (x % 256).toNat :: leBytes k (x / 256)
theorem leBytes_length : ∀ k x, (leBytes k x).length = k
  | 0, _ => rfl
  | k + 1, x => by simp [leBytes, leBytes_length k]
theorem leBytes_succ : ∀ k x, leBytes (k + 1) x = leBytes k x ++ [UInt8.ofNat (x / 256 ^ k % 256).toNat]
  | 0, x => by simp [leBytes]
  | k + 1, x => by
    rw [leBytes, leBytes_succ k (x / 256)]
    simp only [leBytes, List.cons_append, Int.pow_succ]
    congr 5
    rw [Int.ediv_ediv_of_nonneg (by decide), Int.mul_comm]
theorem u8_wrap (p : Int) : T.v (.int .u8 (IntKind.u8.wrap p)) = u8 (UInt8.ofNat (p % 256).toNat) := by
  unfold u8
  have h : (0 : Int) ≤ p % 256 ∧ p % 256 < 256 := ⟨Int.emod_nonneg _ (by decide), Int.emod_lt_of_pos _ (by decide)⟩
  have h1 : (UInt8.ofNat (p % 256).toNat).toNat = (p % 256).toNat := by
    rw [UInt8.toNat_ofNat']
    omega
  rw [h1, IntKind.wrap_u8]
  congr 2
  omega
theorem div_succ (x : Int) (j : Nat) : x / 256 ^ (j + 1) = x / 256 ^ j / 256 := by
  rw [Int.pow_succ, Int.ediv_ediv_of_nonneg (Int.pow_nonneg (by decide))]
theorem div_range {m : Int} (x : Int) (j : Nat) (h0 : 0 ≤ x) (h1 : x ≤ m) : 0 ≤ x / 256 ^ j ∧ x / 256 ^ j ≤ m := by
  have h2 : x / 256 ^ j ≤ x := Int.ediv_le_self _ h0
  have h3 : 0 ≤ x / 256 ^ j := Int.ediv_nonneg h0 (Int.pow_nonneg (by decide))
  omega
theorem size_j31 (j : Nat) (h : j ≤ 2) : (0 < (65535 : Int) / 256 ^ j → j + 1 ≤ 2) ∧ (65535 : Int) / 256 ^ j / 256 = 65535 / 256 ^ (j + 1) ∧ (¬ 0 < (65535 : Int) / 256 ^ j → j = 2) := by
  rcases j with _ | _ | _ | j <;> first | decide | omega
theorem size_j30 (j : Nat) (h : j ≤ 4) : (0 < (4294967295 : Int) / 256 ^ j → j + 1 ≤ 4) ∧ (4294967295 : Int) / 256 ^ j / 256 = 4294967295 / 256 ^ (j + 1) ∧ (¬ 0 < (4294967295 : Int) / 256 ^ j → j = 4) := by
  rcases j with _ | _ | _ | _ | _ | j <;> first | decide | omega
theorem size_j32 (j : Nat) (h : j ≤ 8) : (0 < (18446744073709551615 : Int) / 256 ^ j → j + 1 ≤ 8) ∧ (18446744073709551615 : Int) / 256 ^ j / 256 = 18446744073709551615 / 256 ^ (j + 1) ∧ (¬ 0 < (18446744073709551615 : Int) / 256 ^ j → j = 8) := by
  rcases j with _ | _ | _ | _ | _ | _ | _ | _ | _ | j <;> first | decide | omega
theorem take_range (bs : List UInt8) (s j : Nat) : 0 ≤ leNum ((bs.drop s).take j) ∧ leNum ((bs.drop s).take j) < 256 ^ j := by
  refine ⟨leNum_nonneg _, Int.lt_of_lt_of_le (leNum_lt _) ?_⟩
  have h : ((bs.drop s).take j).length ≤ j := List.length_take_le _ _
  have h2 := Nat.pow_le_pow_right (n := 256) (by decide) h
  have e : ∀ n : Nat, (256 : Int) ^ n = ((256 ^ n : Nat) : Int) := fun n => by rw [Int.natCast_pow]; rfl
  rw [e, e]
  exact Int.ofNat_le.2 h2
theorem leNum_step (bs : List UInt8) (s j : Nat) (h : s < bs.length) : leNum ((bs.drop s).take (j + 1)) = leNum ((bs.drop (s + 1)).take j) * 256 + bs[s].toNat := by
  rw [List.drop_eq_getElem_cons h, List.take_succ_cons, leNum]
  omega
theorem or_u64 (n : Int) (b : UInt8) (h0 : 0 ≤ n) (h1 : n < 72057594037927936) : bitsOf .or .u64 (n * 256) b.toNat = n * 256 + b.toNat := by
  obtain ⟨p, rfl⟩ := Int.eq_ofNat_of_zero_le h0
  have hb := b.toNat_lt
  have h3 : p * 256 + b.toNat < 18446744073709551616 := by omega
  have h4 : (((p * 256 + b.toNat : Nat) : Int)) ≤ 18446744073709551615 := by omega
  have h := bits_or_add (k := .u64) (m := 8) (D := 256) (Bd := 18446744073709551616) p b.toNat rfl (by decide) hb h3 (IntWalk.u64_in _ ⟨Int.natCast_nonneg _, h4⟩)
  rw [Int.natCast_mul, Int.natCast_add, Int.natCast_mul] at h
  exact h
theorem pow_le (j : Nat) (hj : j ≤ 7) : (256 : Int) ^ j ≤ 72057594037927936 := by
  rcases j with _ | _ | _ | _ | _ | _ | _ | _ | j <;> first | decide | omega
theorem take_step (bs : List UInt8) (a : Int) (n j : Nat) (hj : j < n) (h : a.toNat + (n - 1 - j) < bs.length) :
    leNum ((bs.drop (a.toNat + (n - (j + 1)))).take (j + 1)) = leNum ((bs.drop (a.toNat + (n - j))).take j) * 256 + (bs.getD (a.toNat + (n - 1 - j)) 0).toNat := by
  rw [getD_eq h]
  have e1 : a.toNat + (n - (j + 1)) = a.toNat + (n - 1 - j) := by omega
  have e2 : a.toNat + (n - j) = a.toNat + (n - 1 - j) + 1 := by omega
  rw [e1, e2]
  exact leNum_step bs _ j h
/-- The number of n bytes at a place. -/
def num (bs : List UInt8) (a : Int) (n : Nat) : Int := leNum ((bs.drop a.toNat).take n)
theorem num_range (bs : List UInt8) (a : Int) (n : Nat) : 0 ≤ num bs a n ∧ num bs a n < 256 ^ n := take_range bs a.toNat n
theorem num2 (bs : List UInt8) (a : Int) : 0 ≤ num bs a 2 ∧ num bs a 2 ≤ 65535 := by have := num_range bs a 2; omega
theorem num4 (bs : List UInt8) (a : Int) : 0 ≤ num bs a 4 ∧ num bs a 4 ≤ 4294967295 := by have := num_range bs a 4; omega
theorem num8 (bs : List UInt8) (a : Int) : 0 ≤ num bs a 8 ∧ num bs a 8 ≤ 18446744073709551615 := by have := num_range bs a 8; omega
theorem u8_emod (p : Int) : T.v (.int .u8 (p % 256)) = u8 (UInt8.ofNat (p % 256).toNat) := by
  unfold u8
  have h : (0 : Int) ≤ p % 256 ∧ p % 256 < 256 := ⟨Int.emod_nonneg _ (by decide), Int.emod_lt_of_pos _ (by decide)⟩
  have h1 : (UInt8.ofNat (p % 256).toNat).toNat = (p % 256).toNat := by
    rw [UInt8.toNat_ofNat']
    omega
  rw [h1]
  congr 2
  omega
end Go.Proofs.YtjndpakhmgapjaaDoor
