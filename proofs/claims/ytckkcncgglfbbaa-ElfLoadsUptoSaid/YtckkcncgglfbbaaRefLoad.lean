/-
  LOADING, in the document's words.
-/
import Derived.Test.YtckkcncgglfbbaaFresh
namespace Go.Proofs.Ytckkcncgglfbbaa
open Go Go.RowKit
theorem magic_len : magic.length = 7 := rfl
theorem magic_ne {bs : List UInt8} {j : Nat} (hj : j < 7) (h : ¬ ((bs.getD j 0).toNat : Int) = (magic.getD j 0).toNat) : hdrB bs = false := by
  unfold hdrB
  have : decide (bs.take 7 = magic) = false := decide_eq_false fun e => h (by
    rw [← e, List.getD_eq_getElem?_getD, List.getD_eq_getElem?_getD, List.getElem?_take, if_pos hj])
  rw [this]; simp
theorem magic_eq {bs : List UInt8} (hl : 64 ≤ bs.length) (h : ∀ i, i < 7 → ((bs.getD i 0).toNat : Int) = (magic.getD i 0).toNat) : bs.take 7 = magic := by
  have hm := magic_len
  apply List.ext_getElem (by rw [List.length_take]; omega)
  intro i h1 h2
  have h3 := h i (by omega)
  rw [getD_eq (show i < bs.length by omega), getD_eq (show i < magic.length by omega)] at h3
  rw [List.getElem_take]
  exact UInt8.toNat_inj.1 (by show bs[i].toNat = magic[i].toNat; omega)
theorem hdr_short {bs : List UInt8} (h : (bs.length : Int) < 64) : hdrB bs = false := by unfold hdrB; rw [decide_eq_false (by omega)]; rfl
theorem hdr_mk {bs : List UInt8} (h1 : 64 ≤ bs.length) (h2 : bs.take 7 = magic) (h3 : kindsB bs = true) : hdrB bs = true := by unfold hdrB; rw [decide_eq_true h1, decide_eq_true h2, h3]; rfl
theorem hdr_kinds {bs : List UInt8} (h : kindsB bs = false) : hdrB bs = false := by unfold hdrB; rw [h, Bool.and_false]
theorem LoadF_no {bs : List UInt8} (h : loadF bs = none) : LoadF bs = none := LoadF_none (.inl h)
theorem LoadF_bad {bs : List UInt8} {i : Img} (h : loadF bs = some i) (hc : checkedB i false = false) : LoadF bs = none := by
  unfold LoadF; rw [h]; simp only [hc, Bool.false_eq_true, if_false]
theorem LoadF_good {bs : List UInt8} {i : Img} (h : loadF bs = some i) (hc : checkedB i false = true) : LoadF bs = some i := by
  unfold LoadF; rw [h]; simp only [hc, if_true]
theorem getD_ok {bs : List UInt8} (hb : bs.length ≤ 1099511627776) : ImgOk ((LoadF bs).getD ⟨0, []⟩) := by
  cases h : LoadF bs with
  | none => exact ⟨by decide, by decide, by simp, fun s hs => by cases hs⟩
  | some i =>
    unfold LoadF at h
    split at h
    · rename_i q hq
      split at h
      · cases h; exact loadF_ok hb hq
      · cases h
    · cases h
theorem table_no {bs : List UInt8} (h : ((num bs 56 2 < 1 ∨ 64 < num bs 56 2) ∨ (¬ num bs 32 8 ≤ (bs.length : Int) ∨ ¬ 56 * num bs 56 2 ≤ (bs.length : Int) - num bs 32 8))) : tableOk bs = false := by
  rw [← Bool.not_eq_true]
  simp only [tableOk, Bool.and_eq_true, decide_eq_true_eq]
  omega
theorem table_mk {bs : List UInt8} (h : (¬ num bs 56 2 < 1 ∧ ¬ 64 < num bs 56 2) ∧ (num bs 32 8 ≤ (bs.length : Int) ∧ 56 * num bs 56 2 ≤ (bs.length : Int) - num bs 32 8)) : tableOk bs = true := by
  simp only [tableOk, Bool.and_eq_true, decide_eq_true_eq]
  omega
end Go.Proofs.Ytckkcncgglfbbaa
