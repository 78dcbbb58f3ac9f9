/-
  READING: bounds of what is read.
-/
import Derived.Test.YtbndnmmceccbkaaSees
namespace Go.Proofs.Ytbndnmmceccbkaa
open Go Go.RowKit
theorem readS_gok {b : List UInt8} {a : Int} {ws : List Int} (hb : b.length ≤ 1099511627) (hws : ws.length ≤ 1099511627) (ha : a % 8 = 0) : ∀ (f : Nat) {row : List Int} {out l : List Thing}, RowR b ws row → (∀ t ∈ out, ThingOk 1099511627 t) → readS b a f row out = some l → (∀ t ∈ l, ThingOk 1099511627 t) ∧ l.length ≤ out.length + f
  | 0, row, out, l, _, ho, h => by
    rw [readS] at h
    split at h
    · cases h; exact ⟨ho, Nat.le_refl _⟩
    · cases h
  | f + 1, row, out, l, hr, ho, h => by
    rw [readS] at h
    split at h
    · cases h; exact ⟨ho, by omega⟩
    · split at h
      · cases h
      · rename_i p hp
        have hk := thingR_ok hb hws ha hr hp
        have := readS_gok hb hws ha f hk.1 (fun t ht => by
          rcases List.mem_append.1 ht with q | q
          · exact ho t q
          · simp only [List.mem_singleton] at q; subst q; exact hk.2.1) h
        refine ⟨this.1, ?_⟩
        have h2 := this.2
        rw [List.length_append, List.length_singleton] at h2
        omega
theorem readR_gok {b : List UInt8} {a : Int} {ws : List Int} (hb : b.length ≤ 1048576) (hws : ws.length ≤ 1048576) : GraphOk 1099511627 (readR b a ws).1 := by
  have hnil : GraphOk 1099511627 ⟨[], []⟩ := ⟨Nat.zero_le _, Nat.zero_le _, fun t h => (by cases h), fun t h => (by cases h)⟩
  unfold readR
  split
  · exact hnil
  · rename_i hbad
    have ha : a % 8 = 0 := by
      simp only [badR, Bool.or_eq_true, Bool.not_eq_true', decide_eq_true_eq, decide_eq_false_iff_not, not_or, Decidable.not_not] at hbad
      exact hbad.1.1
    split
    · exact hnil
    · rename_i l hl
      have hr := valsF_ok (RowR.nil b ws) (l := ws) (fun x hx => List.mem_append.2 (.inl hx))
      have hrl := hr.len
      have := readS_gok (by omega) (by omega) ha _ hr (fun t h => by cases h) hl
      have hf : fuelR b = b.length / 8 + 1 := rfl
      refine ⟨?_, ?_, this.1, valsF_refOk (by omega)⟩
      · have h2 := this.2
        rw [hf] at h2
        simp only [List.length_nil] at h2
        show l.length ≤ 1099511627
        omega
      · show (valsF [] ws).2.length ≤ 1099511627
        rw [valsF_len]; omega
end Go.Proofs.Ytbndnmmceccbkaa
