/-
  LISTS of instructions and their bytes.
-/
import Derived.Test.YtjndpakhmgapjaaDoorBack
import Derived.Test.YtjndpakhmgapjaaDoorRes
namespace Go.Proofs.YtjndpakhmgapjaaDoor
open Go Go.RowKit
set_option linter.unusedSimpArgs false
set_option linter.unusedVariables false
set_option linter.unnecessarySimpa false
theorem enc_pos {i : Ins} (hv : validF i = true) (hI : I64 i.imm) : 0 < (encF i).length := by
  cases h : encF i with
  | cons a r => exact Nat.succ_pos _
  | nil =>
    exfalso
    have hb := back_enc hv hI []
    rw [h] at hb
    have h2 := congrArg (fun p : Ins × Rd => p.2.cut) hb
    exact Bool.noConfusion (show true = false from h2)
structure Good (l : List Ins) : Prop where
  valid : ∀ x ∈ l, validF x = true
  imm : ∀ x ∈ l, I64 x.imm
theorem drop_enc {l : List Ins} {j : Nat} (h : j < l.length) : (l.drop j).flatMap encF = encF (l.getD j default) ++ (l.drop (j + 1)).flatMap encF := by
  rw [List.drop_eq_getElem_cons h, List.flatMap_cons, getD_eq' h]
theorem list_step {l : List Ins} (hg : Good l) {j : Nat} (h : j < l.length) : decI ((l.drop j).flatMap encF) = l.getD j default ∧ decN ((l.drop j).flatMap encF) = (encF (l.getD j default)).length ∧ decE ((l.drop j).flatMap encF) = 0 ∧ 0 < ((l.drop j).flatMap encF).length ∧ (encF (l.getD j default)).length ≤ ((l.drop j).flatMap encF).length ∧ ((l.drop j).flatMap encF).drop (encF (l.getD j default)).length = (l.drop (j + 1)).flatMap encF := by
  have hm := getD_mem' h
  have hv := hg.valid _ hm
  have hI := hg.imm _ hm
  have hp := enc_pos hv hI
  rw [drop_enc h]
  obtain ⟨h1, h2, h3⟩ := dec_enc hv hI ((l.drop (j + 1)).flatMap encF)
  refine ⟨h1, h2, h3, ?_, ?_, List.drop_left⟩
  · rw [List.length_append]; omega
  · rw [List.length_append]; omega
theorem drop_len (l : List Ins) (j : Nat) : ((l.drop j).flatMap encF).length ≤ 11 * l.length := by
  have h := enc_le (l.drop j)
  rw [List.length_drop] at h
  omega
theorem drop_end {l : List Ins} {j : Nat} (h : l.length ≤ j) : ((l.drop j).flatMap encF).length = 0 := by
  rw [List.drop_of_length_le h]; rfl
theorem take_rest {α : Type} (l : List α) (k : Nat) : (l.drop k).take (l.length - k) = l.drop k := List.take_of_length_le (by rw [List.length_drop]; omega)
end Go.Proofs.YtjndpakhmgapjaaDoor
