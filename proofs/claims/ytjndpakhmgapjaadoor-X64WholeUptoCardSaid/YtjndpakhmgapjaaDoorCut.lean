/-
  WHAT IS CUT: a reader of the first bytes goes as the reader of all of them, or ends cut, and not wrong.
-/
import Derived.Test.YtjndpakhmgapjaaDoorBack
namespace Go.Proofs.YtjndpakhmgapjaaDoor
open Go Go.RowKit
set_option linter.unusedSimpArgs false
set_option linter.unusedVariables false
set_option linter.unnecessarySimpa false
def Cutd (r : Rd) : Prop := r.cut = true ∧ r.wrong = false
theorem next_cut {bs : List UInt8} {r : Rd} (h : Cutd r) : nextF bs r = (0, r) := by
  rw [nextF, if_pos (by rw [h.1]; rfl)]
theorem must_cut {r : Rd} (h : Cutd r) (is : Bool) : mustF r is = r := by
  rw [mustF, if_neg (by rw [h.1]; exact fun q => Bool.noConfusion q)]
theorem must_at (r : Rd) (is : Bool) : (mustF r is).at_ = r.at_ := by
  unfold mustF
  split <;> rfl
theorem imm_cut {bs : List UInt8} {r : Rd} (h : Cutd r) : ∀ k, (immS bs r k).2 = r
  | 0 => rfl
  | k + 1 => by
    show (nextF bs (immS bs r k).2).2 = r
    rw [imm_cut h k, next_cut h]
theorem immD_cut {bs : List UInt8} {r : Rd} (h : Cutd r) (k : Nat) : immD bs r k = r := imm_cut h k
theorem two_cut {bs : List UInt8} {r : Rd} (h : Cutd r) : twoD bs r = r := by
  rw [twoD, next_cut h, must_cut h]
theorem one_cut {bs : List UInt8} {r : Rd} (h : Cutd r) (x : Rx) : oneD bs x r = r := by
  rw [oneD, must_cut h, two_cut h]
theorem mem1_cut {bs : List UInt8} {r : Rd} (h : Cutd r) : memD1 bs r = r := by
  rw [memD1, next_cut h, must_cut h]
theorem mem2_cut {bs : List UInt8} {r : Rd} (h : Cutd r) : memD2 bs r = r := by
  rw [memD2, mem1_cut h, next_cut h]
  split
  · rw [must_cut h]
  · rfl
theorem mem_cut {bs : List UInt8} {r : Rd} (h : Cutd r) : memD bs r = r := by
  rw [memD, mem2_cut h, immD_cut h]
theorem moved_cut {bs : List UInt8} {r : Rd} (h : Cutd r) (x : Rx) : (movedR bs x r).2 = r := by
  unfold movedR
  split
  · exact mem_cut h
  · exact two_cut h
theorem num1_cut {bs : List UInt8} {r : Rd} (h : Cutd r) (x : Rx) (op : Int) : numD1 bs x op r = r := by
  rw [numD1, one_cut h, must_cut h]
theorem numbered_cut {bs : List UInt8} {r : Rd} (h : Cutd r) (x : Rx) (op : Int) : (numberedR bs x op r).2 = r := by
  unfold numberedR
  rw [num1_cut h]
  split
  · exact immD_cut h 4
  · split
    · show mustF (immD bs r 1) _ = r
      rw [immD_cut h, must_cut h]
    · rfl
theorem narrow_cut {bs : List UInt8} {r : Rd} (h : Cutd r) (x : Rx) (op : Int) : (narrowR bs x op r).2 = r := by
  unfold narrowR
  rw [mem_cut h, one_cut h, must_cut h, must_cut h, must_cut h]
  repeat' split
  all_goals rfl
theorem farIn_cut {bs : List UInt8} {r : Rd} (h : Cutd r) (x : Rx) (op : Int) : (farIn bs x op r).2 = r := by
  unfold farIn
  rw [mem_cut h, one_cut h, two_cut h, must_cut h, must_cut h]
  repeat' split
  all_goals rfl
theorem far_cut {bs : List UInt8} {r : Rd} (h : Cutd r) (x : Rx) : (farR bs x r).2 = r := by
  unfold farR farD1
  rw [must_cut h, next_cut h]
  split
  · rfl
  · exact farIn_cut h x _
theorem realIn_cut {bs : List UInt8} {r : Rd} (h : Cutd r) (f : Int) (x : Rx) (op : Int) : (realIn bs f x op r).2 = r := by
  unfold realIn
  rw [must_cut h, two_cut h]
  split <;> rfl
theorem real_cut {bs : List UInt8} {r : Rd} (h : Cutd r) (f : Int) : (realR bs f r).2 = r := by
  unfold realR
  rw [next_cut h]
  dsimp only
  rw [if_pos h.1]
theorem prefIn_cut {bs : List UInt8} {r : Rd} (h : Cutd r) (x : Rx) (op : Int) : (prefIn bs x op r).2 = r := by
  unfold prefIn
  split
  · exact far_cut h x
  split
  · exact narrow_cut h x op
  split
  · show mustF (immD bs (mustF r _) 8) _ = r
    rw [must_cut h, immD_cut h, must_cut h]
  split
  · exact mem_cut h
  split
  · exact mem_cut h
  split
  · exact moved_cut h x
  split
  · show immD bs (mustF (oneD bs x r) _) 4 = r
    rw [one_cut h, must_cut h, immD_cut h]
  split
  · exact numbered_cut h x op
  split
  · exact two_cut h
  · exact must_cut h false
theorem pref_cut {bs : List UInt8} {r : Rd} (h : Cutd r) (x : Rx) : (prefR bs x r).2 = r := by
  unfold prefR
  rw [next_cut h]
  dsimp only
  rw [if_pos (by rw [h.1]; rfl)]
theorem insTwo_cut {bs : List UInt8} {r : Rd} (h : Cutd r) : (insTwo bs r).2 = r := by
  unfold insTwo
  rw [next_cut h, must_cut h, immD_cut h]
  repeat' split
  all_goals rfl

/-! ### the first bytes -/
section
variable {bs : List UInt8} {k : Nat}
/-- As it is, or cut. -/
def As (k : Nat) {α : Type} (p p' : α × Rd) : Prop := (p' = p ∧ p.2.at_ ≤ k) ∨ Cutd p'.2
theorem byte_take {j : Nat} (h : j < k) : byteAt (bs.take k) j = byteAt bs j := by
  unfold byteAt
  rw [List.getD_eq_getElem?_getD, List.getD_eq_getElem?_getD, List.getElem?_take, if_pos h]
theorem next_as (hk : k ≤ bs.length) {r : Rd} (hr : r.at_ ≤ k) : As k (nextF bs r) (nextF (bs.take k) r) := by
  have hl : (bs.take k).length = k := by rw [List.length_take]; omega
  by_cases hc : (r.cut || r.wrong) = true
  · refine .inl ⟨?_, ?_⟩
    · rw [nextF, if_pos hc, nextF, if_pos hc]
    · rw [nextF, if_pos hc]; exact hr
  · by_cases he : r.at_ = k
    · refine .inr ?_
      rw [nextF, if_neg hc, if_pos (by omega)]
      refine ⟨rfl, ?_⟩
      show r.wrong = false
      cases h : r.wrong
      · rfl
      · rw [h, Bool.or_true] at hc; exact absurd rfl hc
    · refine .inl ⟨?_, ?_⟩
      · rw [nextF, if_neg hc, if_neg (by omega), nextF, if_neg hc, if_neg (by omega), byte_take (by omega)]
      · rw [nextF, if_neg hc, if_neg (by omega)]
        show r.at_ + 1 ≤ k
        omega
theorem imm_as (hk : k ≤ bs.length) {r : Rd} (hr : r.at_ ≤ k) : ∀ m, As k (immS bs r m) (immS (bs.take k) r m)
  | 0 => .inl ⟨rfl, hr⟩
  | m + 1 => by
    rcases imm_as hk hr m with ⟨e, h⟩ | hc
    · rcases next_as hk h with ⟨e2, h2⟩ | hc
      · refine .inl ⟨?_, h2⟩
        show ((immS (bs.take k) r m).1 + (nextF _ (immS (bs.take k) r m).2).1 * 256 ^ m, (nextF _ (immS (bs.take k) r m).2).2) = _
        rw [e, e2]
        rfl
      · refine .inr ?_
        show Cutd (nextF _ (immS (bs.take k) r m).2).2
        rw [e]; exact hc
    · refine .inr ?_
      show Cutd (nextF _ (immS (bs.take k) r m).2).2
      rw [next_cut hc]; exact hc
theorem immD_as (hk : k ≤ bs.length) {r : Rd} (hr : r.at_ ≤ k) (m : Nat) : (immV (bs.take k) r m = immV bs r m ∧ immD (bs.take k) r m = immD bs r m ∧ (immD bs r m).at_ ≤ k) ∨ Cutd (immD (bs.take k) r m) := by
  unfold immV immD
  rcases imm_as hk hr m with ⟨e, h⟩ | hc
  · exact .inl ⟨by rw [e], by rw [e], h⟩
  · exact .inr hc
theorem two_as (hk : k ≤ bs.length) {r : Rd} (hr : r.at_ ≤ k) (x : Rx) : (twoV (bs.take k) x r = twoV bs x r ∧ twoD (bs.take k) r = twoD bs r ∧ (twoD bs r).at_ ≤ k) ∨ Cutd (twoD (bs.take k) r) := by
  unfold twoV twoD
  rcases next_as hk hr with ⟨e, h⟩ | hc
  · exact .inl ⟨by rw [e], by rw [e], by rw [must_at]; exact h⟩
  · exact .inr (by rw [must_cut hc]; exact hc)
theorem one_as (hk : k ≤ bs.length) {r : Rd} (hr : r.at_ ≤ k) (x : Rx) : (oneV (bs.take k) x r = oneV bs x r ∧ oneD (bs.take k) x r = oneD bs x r ∧ (oneD bs x r).at_ ≤ k) ∨ Cutd (oneD (bs.take k) x r) := two_as hk (by rw [must_at]; exact hr) x
theorem mem_as (hk : k ≤ bs.length) {r : Rd} (hr : r.at_ ≤ k) (x : Rx) : (memV (bs.take k) x r = memV bs x r ∧ memD (bs.take k) r = memD bs r ∧ (memD bs r).at_ ≤ k) ∨ Cutd (memD (bs.take k) r) := by
  rcases next_as hk hr with ⟨e, h⟩ | hc
  · have e1 : memD1 (bs.take k) r = memD1 bs r := by unfold memD1; rw [e]
    have h1 : (memD1 bs r).at_ ≤ k := by unfold memD1; rw [must_at]; exact h
    have h2 : (memD2 (bs.take k) r = memD2 bs r ∧ (memD2 bs r).at_ ≤ k) ∨ Cutd (memD2 (bs.take k) r) := by
      unfold memD2
      rw [e, e1]
      split
      · rcases next_as hk h1 with ⟨e3, h3⟩ | hc
        · exact .inl ⟨by rw [e3], by rw [must_at]; exact h3⟩
        · exact .inr (by rw [must_cut hc]; exact hc)
      · exact .inl ⟨rfl, h1⟩
    rcases h2 with ⟨e2, h2⟩ | hc
    · rcases immD_as hk h2 4 with ⟨v, d, h4⟩ | hc
      · exact .inl ⟨by unfold memV; rw [e, e2, v], by unfold memD; rw [e2, d], h4⟩
      · exact .inr (by unfold memD; rw [e2]; exact hc)
    · exact .inr (by unfold memD; rw [immD_cut hc]; exact hc)
  · have h1 : Cutd (memD1 (bs.take k) r) := by unfold memD1; rw [must_cut hc]; exact hc
    have h2 : Cutd (memD2 (bs.take k) r) := by
      unfold memD2
      split
      · rw [next_cut h1, must_cut h1]; exact h1
      · exact h1
    exact .inr (by unfold memD; rw [immD_cut h2]; exact h2)
theorem must_as {r : Rd} (hr : r.at_ ≤ k) (is : Bool) : (mustF r is).at_ ≤ k := by rw [must_at]; exact hr
theorem peek_as {r : Rd} (hr : r.at_ < k) (hk : k ≤ bs.length) : peekF (bs.take k) r = peekF bs r := by
  unfold peekF
  have hl : (bs.take k).length = k := by rw [List.length_take]; omega
  rw [hl, byte_take hr, decide_eq_true (show (r.at_ : Int) < (k : Int) by omega), decide_eq_true (show (r.at_ : Int) < (bs.length : Int) by omega)]
theorem peek_end {r : Rd} (hr : r.at_ = k) (hk : k ≤ bs.length) : peekF (bs.take k) r = false := by
  unfold peekF
  have hl : (bs.take k).length = k := by rw [List.length_take]; omega
  rw [hl, decide_eq_false (show ¬ (r.at_ : Int) < (k : Int) by omega)]
  rfl
theorem next_wrong {r : Rd} (h : r.wrong = true) : nextF bs r = (0, r) := by
  rw [nextF, if_pos (by rw [h, Bool.or_true])]
theorem must_wrong {r : Rd} (h : r.wrong = true) (is : Bool) : mustF r is = r := by
  unfold mustF
  split
  · cases r; cases h; rfl
  · rfl
theorem imm_wrong {r : Rd} (h : r.wrong = true) : ∀ k, (immS bs r k).2 = r
  | 0 => rfl
  | k + 1 => by
    show (nextF bs (immS bs r k).2).2 = r
    rw [imm_wrong h k, next_wrong h]
theorem two_wrong {r : Rd} (h : r.wrong = true) : twoD bs r = r := by
  rw [twoD, next_wrong h, must_wrong h]
theorem mem_wrong {r : Rd} (h : r.wrong = true) : memD bs r = r := by
  have h1 : memD1 bs r = r := by rw [memD1, next_wrong h, must_wrong h]
  have h2 : memD2 bs r = r := by
    rw [memD2, h1, next_wrong h]
    split
    · rw [must_wrong h]
    · rfl
  rw [memD, h2]
  exact imm_wrong h 4
/-- As it is, or cut, or wrong from the beginning. -/
def As3 (k : Nat) (p p' : Ins × Rd) : Prop := (p' = p ∧ p.2.at_ ≤ k) ∨ Cutd p'.2 ∨ p.2.wrong = true
theorem As3.same {p p' : Ins × Rd} (e : p' = p) (h : p.2.at_ ≤ k) : As3 k p p' := .inl ⟨e, h⟩
theorem As3.cut {p p' : Ins × Rd} (h : Cutd p'.2) : As3 k p p' := .inr (.inl h)
theorem As3.wrong {p p' : Ins × Rd} (h : p.2.wrong = true) : As3 k p p' := .inr (.inr h)
theorem end_cut {r : Rd} (h : r.wrong = false) (hr : r.at_ = k) (hk : k ≤ bs.length) : Cutd (nextF (bs.take k) r).2 := by
  have hl : (bs.take k).length = k := by rw [List.length_take]; omega
  unfold nextF
  split
  · rename_i hc
    rw [h, Bool.or_false] at hc
    exact ⟨hc, h⟩
  · rw [if_pos (by omega)]
    exact ⟨rfl, h⟩
theorem moved_as (hk : k ≤ bs.length) {r : Rd} (hr : r.at_ ≤ k) (x : Rx) : As3 k (movedR bs x r) (movedR (bs.take k) x r) := by
  by_cases hw : r.wrong = true
  · refine .wrong ?_
    unfold movedR
    split
    · show (memD bs r).wrong = true; rw [mem_wrong hw]; exact hw
    · show (twoD bs r).wrong = true; rw [two_wrong hw]; exact hw
  have hw : r.wrong = false := by cases h : r.wrong; rfl; exact absurd h hw
  by_cases he : r.at_ = k
  · refine .cut ?_
    have hn := end_cut hw he hk
    unfold movedR
    rw [peek_end he hk, if_neg (fun q => Bool.noConfusion q)]
    show Cutd (twoD (bs.take k) r)
    unfold twoD
    rw [must_cut hn]; exact hn
  · unfold movedR
    rw [peek_as (by omega) hk]
    split
    · rcases mem_as hk hr x with ⟨v, d, h⟩ | hc
      · exact .same (by rw [v, d]) h
      · exact .cut hc
    · rcases two_as hk hr x with ⟨v, d, h⟩ | hc
      · exact .same (by rw [v, d]) h
      · exact .cut hc
theorem numbered_as (hk : k ≤ bs.length) {r : Rd} (hr : r.at_ ≤ k) (x : Rx) (op : Int) : As3 k (numberedR bs x op r) (numberedR (bs.take k) x op r) := by
  rcases one_as hk hr x with ⟨v, d, h⟩ | hc
  · have hd : numD1 (bs.take k) x op r = numD1 bs x op r := by unfold numD1; rw [v, d]
    have h1 : (numD1 bs x op r).at_ ≤ k := by unfold numD1; rw [must_at]; exact h
    unfold numberedR
    rw [v, hd]
    split
    · rcases immD_as hk h1 4 with ⟨v2, d2, h2⟩ | hc
      · exact .same (by rw [v2, d2]) h2
      · exact .cut hc
    split
    · rcases immD_as hk h1 1 with ⟨v2, d2, h2⟩ | hc
      · exact .same (by rw [v2, d2]) (must_as h2 _)
      · exact .cut (by dsimp only; rw [must_cut hc]; exact hc)
    · exact .same rfl h1
  · refine .cut ?_
    have h1 : Cutd (numD1 (bs.take k) x op r) := by unfold numD1; rw [must_cut hc]; exact hc
    unfold numberedR
    split
    · show Cutd (immD _ _ 4); rw [immD_cut h1]; exact h1
    split
    · show Cutd (mustF (immD _ _ 1) _); rw [immD_cut h1, must_cut h1]; exact h1
    · exact h1
theorem narrow_as (hk : k ≤ bs.length) {r : Rd} (hr : r.at_ ≤ k) (x : Rx) (op : Int) : As3 k (narrowR bs x op r) (narrowR (bs.take k) x op r) := by
  unfold narrowR
  split
  · rcases mem_as hk hr x with ⟨v, d, h⟩ | hc
    · exact .same (by rw [v, d]) h
    · exact .cut hc
  split
  · rcases mem_as hk hr x with ⟨v, d, h⟩ | hc
    · exact .same (by rw [v, d]) h
    · exact .cut hc
  split
  · rcases mem_as hk hr x with ⟨v, d, h⟩ | hc
    · exact .same (by rw [v, d]) h
    · exact .cut hc
  split
  · rcases one_as hk hr x with ⟨v, d, h⟩ | hc
    · exact .same (by rw [v, d]) (must_as h _)
    · exact .cut (by dsimp only; rw [must_cut hc]; exact hc)
  split
  · exact .same rfl (must_as hr _)
  split
  · exact .same rfl (must_as hr _)
  · exact .same rfl (must_as hr _)
theorem farIn_as (hk : k ≤ bs.length) {r : Rd} (hr : r.at_ ≤ k) (x : Rx) (op : Int) : As3 k (farIn bs x op r) (farIn (bs.take k) x op r) := by
  unfold farIn
  split
  · rcases one_as hk hr x with ⟨v, d, h⟩ | hc
    · exact .same (by rw [v, d]) (must_as h _)
    · exact .cut (by dsimp only; rw [must_cut hc]; exact hc)
  split
  · rcases two_as hk hr x with ⟨v, d, h⟩ | hc
    · exact .same (by rw [v, d]) h
    · exact .cut hc
  split
  · rcases two_as hk hr x with ⟨v, d, h⟩ | hc
    · exact .same (by rw [v, d]) h
    · exact .cut hc
  split
  · by_cases hw : r.wrong = true
    · refine .wrong ?_
      split
      · show (memD bs r).wrong = true; rw [mem_wrong hw]; exact hw
      · show (twoD bs r).wrong = true; rw [two_wrong hw]; exact hw
    have hw : r.wrong = false := by cases h : r.wrong; rfl; exact absurd h hw
    by_cases he : r.at_ = k
    · refine .cut ?_
      have hn := end_cut hw he hk
      rw [peek_end he hk, if_neg (fun q => Bool.noConfusion q)]
      show Cutd (twoD (bs.take k) r)
      unfold twoD
      rw [must_cut hn]; exact hn
    · rw [peek_as (by omega) hk]
      split
      · rcases mem_as hk hr x with ⟨v, d, h⟩ | hc
        · exact .same (by rw [v, d]) h
        · exact .cut hc
      · rcases two_as hk hr x with ⟨v, d, h⟩ | hc
        · exact .same (by rw [v, d]) h
        · exact .cut hc
  · exact .same rfl (must_as hr _)
theorem far_as (hk : k ≤ bs.length) {r : Rd} (hr : r.at_ ≤ k) (x : Rx) : As3 k (farR bs x r) (farR (bs.take k) x r) := by
  have h1 : (farD1 x r).at_ ≤ k := must_as hr _
  unfold farR
  rcases next_as hk h1 with ⟨e, h⟩ | hc
  · rw [e]
    split
    · exact .same rfl h
    · exact farIn_as hk h x _
  · rw [if_pos (by rw [hc.1]; rfl : ((nextF (bs.take k) (farD1 x r)).2.cut || (nextF (bs.take k) (farD1 x r)).2.wrong) = true)]
    exact .cut hc
theorem realIn_as (hk : k ≤ bs.length) {r : Rd} (hr : r.at_ ≤ k) (f : Int) (x : Rx) (op : Int) : As3 k (realIn bs f x op r) (realIn (bs.take k) f x op r) := by
  unfold realIn
  split
  · rcases two_as hk hr x with ⟨v, d, h⟩ | hc
    · exact .same (by rw [v, d]) h
    · exact .cut hc
  · rcases two_as hk (must_as hr _) x with ⟨v, d, h⟩ | hc
    · exact .same (by rw [v, d]) h
    · exact .cut hc
theorem real_as (hk : k ≤ bs.length) {r : Rd} (hr : r.at_ ≤ k) (f : Int) : As3 k (realR bs f r) (realR (bs.take k) f r) := by
  unfold realR
  rcases next_as hk hr with ⟨e, h⟩ | hc
  · rw [e]
    split
    · exact .same rfl h
    · have e1 : realD1 (bs.take k) r = realD1 bs r := by unfold realD1; rw [e]
      have h1 : (realD1 bs r).at_ ≤ k := by unfold realD1; exact must_as h _
      rcases next_as hk h1 with ⟨e2, h2⟩ | hc
      · have e3 : realD2 (bs.take k) r = realD2 bs r := by unfold realD2; rw [e1, e2]
        have h3 : (realD2 bs r).at_ ≤ k := by unfold realD2; exact must_as h2 _
        rw [e3]
        rcases next_as hk h3 with ⟨e4, h4⟩ | hc
        · rw [e4]
          split
          · exact .same rfl h4
          · exact realIn_as hk h4 f _ _
        · rw [if_pos (by rw [hc.1]; rfl : ((nextF (bs.take k) (realD2 bs r)).2.cut || (nextF (bs.take k) (realD2 bs r)).2.wrong) = true)]
          exact .cut hc
      · have hc3 : Cutd (nextF (bs.take k) (realD2 (bs.take k) r)).2 := by
          have : Cutd (realD2 (bs.take k) r) := by unfold realD2; rw [e1, must_cut hc]; exact hc
          rw [next_cut this]; exact this
        rw [if_pos (by rw [hc3.1]; rfl : ((nextF (bs.take k) (realD2 (bs.take k) r)).2.cut || (nextF (bs.take k) (realD2 (bs.take k) r)).2.wrong) = true)]
        exact .cut hc3
  · rw [if_pos hc.1]
    exact .cut hc
theorem prefIn_as (hk : k ≤ bs.length) {r : Rd} (hr : r.at_ ≤ k) (x : Rx) (op : Int) : As3 k (prefIn bs x op r) (prefIn (bs.take k) x op r) := by
  unfold prefIn
  split
  · exact far_as hk hr x
  split
  · exact narrow_as hk hr x op
  split
  · rcases immD_as hk (must_as hr (decide (x.reg = 0))) 8 with ⟨v, d, h⟩ | hc
    · exact .same (by rw [v, d]) (must_as h _)
    · exact .cut (by dsimp only; rw [must_cut hc]; exact hc)
  split
  · rcases mem_as hk hr x with ⟨v, d, h⟩ | hc
    · exact .same (by rw [v, d]) h
    · exact .cut hc
  split
  · rcases mem_as hk hr x with ⟨v, d, h⟩ | hc
    · exact .same (by rw [v, d]) h
    · exact .cut hc
  split
  · exact moved_as hk hr x
  split
  · rcases one_as hk hr x with ⟨v, d, h⟩ | hc
    · rw [v, d]
      rcases immD_as hk (must_as h (decide ((oneV bs x r).1 = 0))) 4 with ⟨v2, d2, h2⟩ | hc
      · exact .same (by rw [v2, d2]) h2
      · exact .cut hc
    · exact .cut (by dsimp only; rw [must_cut hc, immD_cut hc]; exact hc)
  split
  · exact numbered_as hk hr x op
  split
  · rcases two_as hk hr x with ⟨v, d, h⟩ | hc
    · exact .same (by rw [v, d]) h
    · exact .cut hc
  · exact .same rfl (must_as hr _)
theorem pref_as (hk : k ≤ bs.length) {r : Rd} (hr : r.at_ ≤ k) (x : Rx) : As3 k (prefR bs x r) (prefR (bs.take k) x r) := by
  unfold prefR
  rcases next_as hk hr with ⟨e, h⟩ | hc
  · rw [e]
    split
    · exact .same rfl h
    · exact prefIn_as hk h x _
  · rw [if_pos (by rw [hc.1]; rfl : ((nextF (bs.take k) r).2.cut || (nextF (bs.take k) r).2.wrong) = true)]
    exact .cut hc
theorem insTwo_as (hk : k ≤ bs.length) {r : Rd} (hr : r.at_ ≤ k) : As3 k (insTwo bs r) (insTwo (bs.take k) r) := by
  rcases next_as hk hr with ⟨e, h⟩ | hc
  · unfold insTwo
    rw [e]
    split
    · exact .same rfl h
    split
    · exact .same rfl h
    split
    · rcases immD_as hk h 4 with ⟨v, d, h⟩ | hc
      · exact .same (by rw [v, d]) h
      · exact .cut hc
    · exact .same rfl (must_as h _)
  · refine .cut ?_
    unfold insTwo
    split
    · exact hc
    split
    · exact hc
    split
    · show Cutd (immD _ _ 4); rw [immD_cut hc]; exact hc
    · show Cutd (mustF _ false); rw [must_cut hc]; exact hc
theorem insIn_as (hk : k ≤ bs.length) {r : Rd} (hr : r.at_ ≤ k) (x : Int) : As3 k (insIn bs x r) (insIn (bs.take k) x r) := by
  unfold insIn
  split
  · exact pref_as hk (must_as hr _) _
  split
  · exact real_as hk hr x
  split
  · rcases immD_as hk hr 1 with ⟨v, d, h⟩ | hc
    · exact .same (by rw [v, d]) h
    · exact .cut hc
  split
  · rcases immD_as hk hr 1 with ⟨v, d, h⟩ | hc
    · exact .same (by rw [v, d]) h
    · exact .cut hc
  split
  · rcases immD_as hk hr 4 with ⟨v, d, h⟩ | hc
    · exact .same (by rw [v, d]) h
    · exact .cut hc
  split
  · rcases immD_as hk hr 4 with ⟨v, d, h⟩ | hc
    · exact .same (by rw [v, d]) h
    · exact .cut hc
  split
  · exact .same rfl hr
  split
  · exact insTwo_as hk hr
  · exact .same rfl (must_as hr _)
theorem ins_as (hk : k ≤ bs.length) {r : Rd} (hr : r.at_ ≤ k) : As3 k (insR bs r) (insR (bs.take k) r) := by
  unfold insR
  rcases next_as hk hr with ⟨e, h⟩ | hc
  · rw [e]
    split
    · exact .same rfl h
    · exact insIn_as hk h _
  · rw [if_pos hc.1]
    exact .cut hc
end
theorem dec_cut {i : Ins} (hv : validF i = true) (hI : I64 i.imm) {k : Nat} (hk : k < (encF i).length) : decE ((encF i).take k) = 202 := by
  have hb := back_enc hv hI []
  rw [List.append_nil] at hb
  have h := ins_as (bs := encF i) (k := k) (by omega) (r := rd0) (Nat.zero_le k)
  rw [hb] at h
  rcases h with ⟨_, h⟩ | h | h
  · exact absurd (show (encF i).length ≤ k from h) (by omega)
  · rw [decE, if_neg (by rw [h.2]; exact fun q => Bool.noConfusion q), if_pos h.1]
  · exact absurd (show false = true from h) (fun q => Bool.noConfusion q)
end Go.Proofs.YtjndpakhmgapjaaDoor
