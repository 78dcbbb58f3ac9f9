/-
  PLAIN LAWS of the elf seat.
-/
import Derived.Test.YtckkcncgglfbbaaKnown
namespace Go.Proofs.Ytckkcncgglfbbaa
open Go Go.RowKit
theorem LoadF_some_iff {bs : List UInt8} {i : Img} (h : LoadF bs = some i) : loadF bs = some i ∧ checkedB i false = true := by
  unfold LoadF at h
  cases e : loadF bs with
  | none => rw [e] at h; cases h
  | some k =>
    rw [e] at h
    simp only at h
    split at h
    · obtain rfl := Option.some.inj h
      exact ⟨rfl, by assumption⟩
    · cases h
theorem LoadF_okD {bs : List UInt8} (h2 : bs.length ≤ 1099511627776) : ImgOk ((LoadF bs).getD ⟨0, []⟩) := by
  cases e : LoadF bs with
  | none => exact ⟨by decide, by decide, by decide, fun s hs => by cases hs⟩
  | some i => exact loadF_ok h2 (LoadF_some_iff e).1
theorem LoadF_code_none {bs : List UInt8} (h : ¬ (if (LoadF bs).isSome = true then (0 : Int) else 240) = 0) : LoadF bs = none := by
  cases e : LoadF bs with
  | none => rfl
  | some i => rw [e] at h; exact absurd rfl h
theorem LoadF_code_some {bs : List UInt8} (h : (if (LoadF bs).isSome = true then (0 : Int) else 240) = 0) : LoadF bs = some ((LoadF bs).getD ⟨0, []⟩) ∧ checkedB ((LoadF bs).getD ⟨0, []⟩) false = true := by
  cases e : LoadF bs with
  | none => rw [e] at h; exact absurd h (by decide)
  | some i => exact ⟨rfl, (LoadF_some_iff e).2⟩
theorem checked_chk {i : Img} {strict : Bool} (h : checkedB i strict = true) : chk i.entry strict i.segs 0 false = true := by
  simp only [checkedB, Bool.and_eq_true] at h
  exact h.2
theorem chk_in : ∀ {e : Int} {strict : Bool} {l : List Seg} {en : Int} {b : Bool}, chk e strict l en b = true → (∀ s ∈ l, SegOk s) → ∀ s ∈ l, SegIn s
  | e, strict, [], en, b, h, _, s, hs => by cases hs
  | e, strict, x :: r, en, b, h, ho, s, hs => by
    rw [chk] at h
    split at h
    · cases h
    · rename_i hb
      rcases List.mem_cons.1 hs with rfl | hs
      · rw [bad_iff] at hb
        have := ho s (List.mem_cons_self ..)
        obtain ⟨h1, h2, h3, h4, h5, h6, h7⟩ := this
        exact ⟨h1, by omega, by omega, by omega, by omega, by omega, by omega⟩
      · exact chk_in h (fun q hq => ho q (List.mem_cons_of_mem _ hq)) s hs
theorem runs_mod {en : Int} {s : Seg} : runs en s = (decide (s.may % 2 = 1) && decide (s.at_ ≤ en) && decide (en - s.at_ < s.size)) := by
  unfold runs
  congr 2
  rcases Int.emod_two_eq s.may with h | h <;> simp [h]
theorem seg_f {l : List Seg} {j q : Nat} (h : j < l.length) (hq : q < 4) : (l.flatMap segCells)[j * 4 + q]? = (segCells (l.getD j default))[q]? := by
  rw [← List.getElem?_drop, ← (seg_get h).1, List.getElem?_take, if_pos hq]
theorem seg_f0 {l : List Seg} {j : Nat} (h : j < l.length) : (l.flatMap segCells)[j * 4 + 0]? = some (.v (.int .u64 (l.getD j default).at_)) := seg_f h (by decide)
theorem seg_f1 {l : List Seg} {j : Nat} (h : j < l.length) : (l.flatMap segCells)[j * 4 + 1]? = some (.v (.int .u64 (l.getD j default).size)) := seg_f h (by decide)
end Go.Proofs.Ytckkcncgglfbbaa
