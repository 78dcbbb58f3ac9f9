/-
  WHAT Load COMPUTES, in plain words.
-/
import Derived.Test.YtckkcncgglfbbaaImg
namespace Go.Proofs.Ytckkcncgglfbbaa
open Go Go.RowKit
def magic : List UInt8 := [127, 69, 76, 70, 2, 1, 1]
def partOk (bs : List UInt8) (a : Int) : Bool := decide (num bs (a + 8) 8 ≤ (bs.length : Int)) && decide (num bs (a + 32) 8 ≤ (bs.length : Int) - num bs (a + 8) 8) && decide (num bs (a + 16) 8 % 4096 = num bs (a + 8) 8 % 4096)
def partSeg (bs : List UInt8) (a : Int) : Seg := ⟨num bs (a + 16) 8, num bs (a + 40) 8, num bs (a + 4) 4 % 8, (bs.drop (num bs (a + 8) 8).toNat).take (num bs (a + 32) 8).toNat⟩
def loadRows (bs : List UInt8) : Nat → Int → Option (List Seg)
  | 0, _ => some []
  | k + 1, a =>
    if num bs a 4 = 0 ∨ num bs a 4 = 1685382481 then loadRows bs k (a + 56)
    else if num bs a 4 = 1 then (if partOk bs a then (loadRows bs k (a + 56)).map (partSeg bs a :: ·) else none)
    else none
def kindsB (bs : List UInt8) : Bool := decide (num bs 16 2 = 2) && decide (num bs 18 2 = 62) && decide (num bs 20 4 = 1) && decide (num bs 52 2 = 64) && decide (num bs 54 2 = 56)
def hdrB (bs : List UInt8) : Bool := decide (64 ≤ bs.length) && decide (bs.take 7 = magic) && kindsB bs
def tableOk (bs : List UInt8) : Bool := decide (1 ≤ num bs 56 2) && decide (num bs 56 2 ≤ 64) && decide (num bs 32 8 ≤ (bs.length : Int)) && decide (num bs 56 2 * 56 ≤ (bs.length : Int) - num bs 32 8)
def loadF (bs : List UInt8) : Option Img := if hdrB bs && tableOk bs then (loadRows bs (num bs 56 2).toNat (num bs 32 8)).map (Img.mk (num bs 24 8)) else none
def LoadF (bs : List UInt8) : Option Img := match loadF bs with
  | some i => if checkedB i false then some i else none
  | none => none
theorem partSeg_ok (bs : List UInt8) (a : Int) (h : bs.length ≤ 1099511627776) : SegOk (partSeg bs a) := by
  have h1 := num8 bs (a + 16)
  have h2 := num8 bs (a + 40)
  have h3 := num4 bs (a + 4)
  refine ⟨h1.1, h1.2, h2.1, h2.2, ?_, ?_, ?_⟩
  · show -9223372036854775808 ≤ num bs (a + 4) 4 % 8; omega
  · show num bs (a + 4) 4 % 8 ≤ 9223372036854775807; omega
  · show (((bs.drop _).take _).length : Nat) ≤ 1099511627776
    have := List.length_take_le (num bs (a + 32) 8).toNat (bs.drop (num bs (a + 8) 8).toNat)
    have h4 : ((bs.drop (num bs (a + 8) 8).toNat).take (num bs (a + 32) 8).toNat).length ≤ bs.length := by
      rw [List.length_take, List.length_drop]
      omega
    omega
theorem loadRows_ok {bs : List UInt8} (h : bs.length ≤ 1099511627776) : ∀ {k : Nat} {a : Int} {l : List Seg}, loadRows bs k a = some l → (∀ s ∈ l, SegOk s) ∧ l.length ≤ k
  | 0, a, l, e => by
    simp only [loadRows, Option.some.injEq] at e
    subst e
    exact ⟨(fun s hs => by cases hs), Nat.le_refl _⟩
  | k + 1, a, l, e => by
    simp only [loadRows] at e
    split at e
    · obtain ⟨h1, h2⟩ := loadRows_ok h e
      exact ⟨h1, by omega⟩
    · split at e
      · split at e
        · obtain ⟨r, e1, rfl⟩ := Option.map_eq_some_iff.1 e
          obtain ⟨h1, h2⟩ := loadRows_ok h e1
          refine ⟨fun s hs => ?_, by simp; omega⟩
          rcases List.mem_cons.1 hs with rfl | hs
          · exact partSeg_ok bs a h
          · exact h1 s hs
        · cases e
      · cases e
theorem loadF_ok {bs : List UInt8} (h : bs.length ≤ 1099511627776) {i : Img} (e : loadF bs = some i) : ImgOk i := by
  unfold loadF at e
  split at e
  · rename_i hc
    obtain ⟨l, e1, rfl⟩ := Option.map_eq_some_iff.1 e
    obtain ⟨h1, h2⟩ := loadRows_ok h e1
    have h3 := num8 bs 24
    have h4 := num2 bs 56
    exact ⟨h3.1, h3.2, by show l.length ≤ _; omega, h1⟩
  · cases e
theorem loadF_hdr {bs : List UInt8} (h : hdrB bs = false) : loadF bs = none := by unfold loadF; rw [h]; rfl
theorem loadF_tab {bs : List UInt8} (h : tableOk bs = false) : loadF bs = none := by unfold loadF; rw [h, Bool.and_false]; rfl
theorem loadF_rows {bs : List UInt8} (h1 : hdrB bs = true) (h2 : tableOk bs = true) : loadF bs = (loadRows bs (num bs 56 2).toNat (num bs 32 8)).map (Img.mk (num bs 24 8)) := by unfold loadF; rw [h1, h2]; rfl
theorem rows_skip {bs : List UInt8} {k : Nat} {a : Int} (hk : 0 < k) (h : num bs a 4 = 0 ∨ num bs a 4 = 1685382481) : loadRows bs k a = loadRows bs (k - 1) (a + 56) := by
  obtain ⟨k, rfl⟩ : ∃ q, k = q + 1 := ⟨k - 1, by omega⟩
  rw [loadRows, if_pos h, Nat.add_sub_cancel]
theorem rows_load {bs : List UInt8} {k : Nat} {a : Int} (hk : 0 < k) (h : num bs a 4 = 1) (hp : partOk bs a = true) : loadRows bs k a = (loadRows bs (k - 1) (a + 56)).map (partSeg bs a :: ·) := by
  obtain ⟨k, rfl⟩ : ∃ q, k = q + 1 := ⟨k - 1, by omega⟩
  rw [loadRows, if_neg (by omega), if_pos h, if_pos hp, Nat.add_sub_cancel]
theorem rows_bad {bs : List UInt8} {k : Nat} {a : Int} (hk : 0 < k) (h0 : ¬ num bs a 4 = 0) (h1 : ¬ num bs a 4 = 1685382481) (hp : num bs a 4 = 1 → partOk bs a = false) : loadRows bs k a = none := by
  obtain ⟨k, rfl⟩ : ∃ q, k = q + 1 := ⟨k - 1, by omega⟩
  rw [loadRows, if_neg (by omega)]
  split
  · rename_i h
    rw [hp h]
    rfl
  · rfl
theorem rows_done {bs : List UInt8} {k : Nat} {a : Int} (hk : k = 0) : loadRows bs k a = some [] := by subst hk; rfl
theorem head_magic {bs : List UInt8} (h : 64 ≤ bs.length) : (decide (((ByteArray.mk #[127, 69, 76, 70, 2, 1, 1]).size : Int) ≤ ((ByteArray.mk ((bs.drop 0).take (Int.toNat 16 - 0)).toArray).size : Int)) && decide (((ByteArray.mk ((bs.drop 0).take (Int.toNat 16 - 0)).toArray).extract 0 (ByteArray.mk #[127, 69, 76, 70, 2, 1, 1]).size).data.toList = (ByteArray.mk #[127, 69, 76, 70, 2, 1, 1]).data.toList)) = decide (bs.take 7 = magic) := by
  have e1 : (ByteArray.mk #[127, 69, 76, 70, 2, 1, 1]).size = 7 := rfl
  rw [e1]
  have e2 : (ByteArray.mk ((bs.drop 0).take (Int.toNat 16 - 0)).toArray).size = 16 := by
    simp only [ByteArray.size, List.size_toArray, List.length_take, List.length_drop]; omega
  rw [e2]
  have e3 : ((ByteArray.mk ((bs.drop 0).take (Int.toNat 16 - 0)).toArray).extract 0 7).data.toList = bs.take 7 := by
    simp [ByteArray.data_extract, List.take_take]
  rw [e3]
  rfl
def chkOr (bs : List UInt8) : Bool := match loadF bs with
  | some i => checkedB i false
  | none => false
theorem errOf_ne (b : Bool) : (errOf b ≠ 0) ↔ b = false := by cases b <;> simp [errOf]
theorem LoadF_none {bs : List UInt8} (h : loadF bs = none ∨ ¬ errOf (chkOr bs) = 0) : LoadF bs = none := by
  unfold LoadF chkOr at *
  cases e : loadF bs with
  | none => rfl
  | some i =>
    rw [e] at h
    have := (errOf_ne _).1 (h.resolve_left (by simp))
    simp only [this, Bool.false_eq_true, if_false]
theorem LoadF_some {bs : List UInt8} (h : (loadF bs).isSome = true ∧ errOf (chkOr bs) = 0) : ∃ i, LoadF bs = some i ∧ loadF bs = some i := by
  unfold LoadF chkOr at *
  cases e : loadF bs with
  | none => rw [e] at h; exact absurd h.1 (by simp)
  | some i =>
    rw [e] at h
    refine ⟨i, ?_, rfl⟩
    have : checkedB i false = true := by
      rw [← Bool.not_eq_false]
      exact fun q => (errOf_ne _).2 q h.2
    simp only [this, if_true]
end Go.Proofs.Ytckkcncgglfbbaa
