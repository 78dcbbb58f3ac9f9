/-
  TEXTS JOINED: Cut, Lst, Inv, Pfx, Guess, CutR, Rdr, WkG, Wk19, Wk20.
-/
import Derived.Test.YtjndpakhmgapjaaDoorDd
set_option linter.unusedSimpArgs false
set_option linter.unusedVariables false
set_option linter.unusedSectionVars false
set_option linter.unnecessarySimpa false
namespace Go.Proofs.YtjndpakhmgapjaaDoor
open Go Go.RowKit
set_option linter.unusedSimpArgs false
set_option linter.unusedVariables false
set_option linter.unnecessarySimpa false
def Cutd (r : Rd) : Prop := r.cut = true ∧ r.wrong = false
theorem next_cut {bs : List UInt8} {r : Rd} (h : Cutd r) : nextF bs r = (0, r) := by
  rw [nextF, if_pos (by rw [h.1]; rfl)]
theorem must_cut {r : Rd} (h : Cutd r) (is : Bool) : mustF r is = r := by
  rw [mustF, if_neg (by rw [h.1]; exact fun q => Bool.noConfusion q)]
theorem must_at (r : Rd) (is : Bool) : (mustF r is).at_ = r.at_ := by
  unfold mustF
  split <;> rfl
theorem imm_cut {bs : List UInt8} {r : Rd} (h : Cutd r) : ∀ k, (immS bs r k).2 = r
  | 0 => rfl
  | k + 1 => by
    show (nextF bs (immS bs r k).2).2 = r
    rw [imm_cut h k, next_cut h]
theorem immD_cut {bs : List UInt8} {r : Rd} (h : Cutd r) (k : Nat) : immD bs r k = r := imm_cut h k
/-! ### the first bytes -/
section
variable {bs : List UInt8} {k : Nat}
/-- As it is, or cut. -/
def As (k : Nat) {α : Type} (p p' : α × Rd) : Prop := (p' = p ∧ p.2.at_ ≤ k) ∨ Cutd p'.2
theorem byte_take {j : Nat} (h : j < k) : byteAt (bs.take k) j = byteAt bs j := by
  unfold byteAt
  rw [List.getD_eq_getElem?_getD, List.getD_eq_getElem?_getD, List.getElem?_take, if_pos h]
theorem next_as (hk : k ≤ bs.length) {r : Rd} (hr : r.at_ ≤ k) : As k (nextF bs r) (nextF (bs.take k) r) := by
  have hl : (bs.take k).length = k := by rw [List.length_take]; omega
  by_cases hc : (r.cut || r.wrong) = true
  · refine .inl ⟨?_, ?_⟩
    · rw [nextF, if_pos hc, nextF, if_pos hc]
    · rw [nextF, if_pos hc]; exact hr
  · by_cases he : r.at_ = k
    · refine .inr ?_
      rw [nextF, if_neg hc, if_pos (by omega)]
      refine ⟨rfl, ?_⟩
      show r.wrong = false
      cases h : r.wrong
      · rfl
      · rw [h, Bool.or_true] at hc; exact absurd rfl hc
    · refine .inl ⟨?_, ?_⟩
      · rw [nextF, if_neg hc, if_neg (by omega), nextF, if_neg hc, if_neg (by omega), byte_take (by omega)]
      · rw [nextF, if_neg hc, if_neg (by omega)]
        show r.at_ + 1 ≤ k
        omega
theorem imm_as (hk : k ≤ bs.length) {r : Rd} (hr : r.at_ ≤ k) : ∀ m, As k (immS bs r m) (immS (bs.take k) r m)
  | 0 => .inl ⟨rfl, hr⟩
  | m + 1 => by
    rcases imm_as hk hr m with ⟨e, h⟩ | hc
    · rcases next_as hk h with ⟨e2, h2⟩ | hc
      · refine .inl ⟨?_, h2⟩
        show ((immS (bs.take k) r m).1 + (nextF _ (immS (bs.take k) r m).2).1 * 256 ^ m, (nextF _ (immS (bs.take k) r m).2).2) = _
        rw [e, e2]
        rfl
      · refine .inr ?_
        show Cutd (nextF _ (immS (bs.take k) r m).2).2
        rw [e]; exact hc
    · refine .inr ?_
      show Cutd (nextF _ (immS (bs.take k) r m).2).2
      rw [next_cut hc]; exact hc
theorem immD_as (hk : k ≤ bs.length) {r : Rd} (hr : r.at_ ≤ k) (m : Nat) : (immV (bs.take k) r m = immV bs r m ∧ immD (bs.take k) r m = immD bs r m ∧ (immD bs r m).at_ ≤ k) ∨ Cutd (immD (bs.take k) r m) := by
  unfold immV immD
  rcases imm_as hk hr m with ⟨e, h⟩ | hc
  · exact .inl ⟨by rw [e], by rw [e], h⟩
  · exact .inr hc
theorem two_as (hk : k ≤ bs.length) {r : Rd} (hr : r.at_ ≤ k) (x : Rx) : (twoV (bs.take k) x r = twoV bs x r ∧ twoD (bs.take k) r = twoD bs r ∧ (twoD bs r).at_ ≤ k) ∨ Cutd (twoD (bs.take k) r) := by
  unfold twoV twoD
  rcases next_as hk hr with ⟨e, h⟩ | hc
  · exact .inl ⟨by rw [e], by rw [e], by rw [must_at]; exact h⟩
  · exact .inr (by rw [must_cut hc]; exact hc)
theorem one_as (hk : k ≤ bs.length) {r : Rd} (hr : r.at_ ≤ k) (x : Rx) : (oneV (bs.take k) x r = oneV bs x r ∧ oneD (bs.take k) x r = oneD bs x r ∧ (oneD bs x r).at_ ≤ k) ∨ Cutd (oneD (bs.take k) x r) := two_as hk (by rw [must_at]; exact hr) x
theorem mem_as (hk : k ≤ bs.length) {r : Rd} (hr : r.at_ ≤ k) (x : Rx) : (memV (bs.take k) x r = memV bs x r ∧ memD (bs.take k) r = memD bs r ∧ (memD bs r).at_ ≤ k) ∨ Cutd (memD (bs.take k) r) := by
  rcases next_as hk hr with ⟨e, h⟩ | hc
  · have e1 : memD1 (bs.take k) r = memD1 bs r := by unfold memD1; rw [e]
    have h1 : (memD1 bs r).at_ ≤ k := by unfold memD1; rw [must_at]; exact h
    have h2 : (memD2 (bs.take k) r = memD2 bs r ∧ (memD2 bs r).at_ ≤ k) ∨ Cutd (memD2 (bs.take k) r) := by
      unfold memD2
      rw [e, e1]
      split
      · rcases next_as hk h1 with ⟨e3, h3⟩ | hc
        · exact .inl ⟨by rw [e3], by rw [must_at]; exact h3⟩
        · exact .inr (by rw [must_cut hc]; exact hc)
      · exact .inl ⟨rfl, h1⟩
    rcases h2 with ⟨e2, h2⟩ | hc
    · rcases immD_as hk h2 4 with ⟨v, d, h4⟩ | hc
      · exact .inl ⟨by unfold memV; rw [e, e2, v], by unfold memD; rw [e2, d], h4⟩
      · exact .inr (by unfold memD; rw [e2]; exact hc)
    · exact .inr (by unfold memD; rw [immD_cut hc]; exact hc)
  · have h1 : Cutd (memD1 (bs.take k) r) := by unfold memD1; rw [must_cut hc]; exact hc
    have h2 : Cutd (memD2 (bs.take k) r) := by
      unfold memD2
      split
      · rw [next_cut h1, must_cut h1]; exact h1
      · exact h1
    exact .inr (by unfold memD; rw [immD_cut h2]; exact h2)
theorem must_as {r : Rd} (hr : r.at_ ≤ k) (is : Bool) : (mustF r is).at_ ≤ k := by rw [must_at]; exact hr
theorem peek_as {r : Rd} (hr : r.at_ < k) (hk : k ≤ bs.length) : peekF (bs.take k) r = peekF bs r := by
  unfold peekF
  have hl : (bs.take k).length = k := by rw [List.length_take]; omega
  rw [hl, byte_take hr, decide_eq_true (show (r.at_ : Int) < (k : Int) by omega), decide_eq_true (show (r.at_ : Int) < (bs.length : Int) by omega)]
theorem peek_end {r : Rd} (hr : r.at_ = k) (hk : k ≤ bs.length) : peekF (bs.take k) r = false := by
  unfold peekF
  have hl : (bs.take k).length = k := by rw [List.length_take]; omega
  rw [hl, decide_eq_false (show ¬ (r.at_ : Int) < (k : Int) by omega)]
  rfl
theorem next_wrong {r : Rd} (h : r.wrong = true) : nextF bs r = (0, r) := by
  rw [nextF, if_pos (by rw [h, Bool.or_true])]
theorem must_wrong {r : Rd} (h : r.wrong = true) (is : Bool) : mustF r is = r := by
  unfold mustF
  split
  · cases r; cases h; rfl
  · rfl
theorem imm_wrong {r : Rd} (h : r.wrong = true) : ∀ k, (immS bs r k).2 = r
  | 0 => rfl
  | k + 1 => by
    show (nextF bs (immS bs r k).2).2 = r
    rw [imm_wrong h k, next_wrong h]
theorem two_wrong {r : Rd} (h : r.wrong = true) : twoD bs r = r := by
  rw [twoD, next_wrong h, must_wrong h]
theorem mem_wrong {r : Rd} (h : r.wrong = true) : memD bs r = r := by
  have h1 : memD1 bs r = r := by rw [memD1, next_wrong h, must_wrong h]
  have h2 : memD2 bs r = r := by
    rw [memD2, h1, next_wrong h]
    split
    · rw [must_wrong h]
    · rfl
  rw [memD, h2]
  exact imm_wrong h 4
/-- As it is, or cut, or wrong from the beginning. -/
def As3 (k : Nat) (p p' : Ins × Rd) : Prop := (p' = p ∧ p.2.at_ ≤ k) ∨ Cutd p'.2 ∨ p.2.wrong = true
theorem As3.same {p p' : Ins × Rd} (e : p' = p) (h : p.2.at_ ≤ k) : As3 k p p' := .inl ⟨e, h⟩
theorem As3.cut {p p' : Ins × Rd} (h : Cutd p'.2) : As3 k p p' := .inr (.inl h)
theorem As3.wrong {p p' : Ins × Rd} (h : p.2.wrong = true) : As3 k p p' := .inr (.inr h)
theorem end_cut {r : Rd} (h : r.wrong = false) (hr : r.at_ = k) (hk : k ≤ bs.length) : Cutd (nextF (bs.take k) r).2 := by
  have hl : (bs.take k).length = k := by rw [List.length_take]; omega
  unfold nextF
  split
  · rename_i hc
    rw [h, Bool.or_false] at hc
    exact ⟨hc, h⟩
  · rw [if_pos (by omega)]
    exact ⟨rfl, h⟩
theorem moved_as (hk : k ≤ bs.length) {r : Rd} (hr : r.at_ ≤ k) (x : Rx) : As3 k (movedR bs x r) (movedR (bs.take k) x r) := by
  by_cases hw : r.wrong = true
  · refine .wrong ?_
    unfold movedR
    split
    · show (memD bs r).wrong = true; rw [mem_wrong hw]; exact hw
    · show (twoD bs r).wrong = true; rw [two_wrong hw]; exact hw
  have hw : r.wrong = false := by cases h : r.wrong; rfl; exact absurd h hw
  by_cases he : r.at_ = k
  · refine .cut ?_
    have hn := end_cut hw he hk
    unfold movedR
    rw [peek_end he hk, if_neg (fun q => Bool.noConfusion q)]
    show Cutd (twoD (bs.take k) r)
    unfold twoD
    rw [must_cut hn]; exact hn
  · unfold movedR
    rw [peek_as (by omega) hk]
    split
    · rcases mem_as hk hr x with ⟨v, d, h⟩ | hc
      · exact .same (by rw [v, d]) h
      · exact .cut hc
    · rcases two_as hk hr x with ⟨v, d, h⟩ | hc
      · exact .same (by rw [v, d]) h
      · exact .cut hc
theorem numbered_as (hk : k ≤ bs.length) {r : Rd} (hr : r.at_ ≤ k) (x : Rx) (op : Int) : As3 k (numberedR bs x op r) (numberedR (bs.take k) x op r) := by
  rcases one_as hk hr x with ⟨v, d, h⟩ | hc
  · have hd : numD1 (bs.take k) x op r = numD1 bs x op r := by unfold numD1; rw [v, d]
    have h1 : (numD1 bs x op r).at_ ≤ k := by unfold numD1; rw [must_at]; exact h
    unfold numberedR
    rw [v, hd]
    split
    · rcases immD_as hk h1 4 with ⟨v2, d2, h2⟩ | hc
      · exact .same (by rw [v2, d2]) h2
      · exact .cut hc
    split
    · rcases immD_as hk h1 1 with ⟨v2, d2, h2⟩ | hc
      · exact .same (by rw [v2, d2]) (must_as h2 _)
      · exact .cut (by dsimp only; rw [must_cut hc]; exact hc)
    · exact .same rfl h1
  · refine .cut ?_
    have h1 : Cutd (numD1 (bs.take k) x op r) := by unfold numD1; rw [must_cut hc]; exact hc
    unfold numberedR
    split
    · show Cutd (immD _ _ 4); rw [immD_cut h1]; exact h1
    split
    · show Cutd (mustF (immD _ _ 1) _); rw [immD_cut h1, must_cut h1]; exact h1
    · exact h1
theorem narrow_as (hk : k ≤ bs.length) {r : Rd} (hr : r.at_ ≤ k) (x : Rx) (op : Int) : As3 k (narrowR bs x op r) (narrowR (bs.take k) x op r) := by
  unfold narrowR
  split
  · rcases mem_as hk hr x with ⟨v, d, h⟩ | hc
    · exact .same (by rw [v, d]) h
    · exact .cut hc
  split
  · rcases mem_as hk hr x with ⟨v, d, h⟩ | hc
    · exact .same (by rw [v, d]) h
    · exact .cut hc
  split
  · rcases mem_as hk hr x with ⟨v, d, h⟩ | hc
    · exact .same (by rw [v, d]) h
    · exact .cut hc
  split
  · rcases one_as hk hr x with ⟨v, d, h⟩ | hc
    · exact .same (by rw [v, d]) (must_as h _)
    · exact .cut (by dsimp only; rw [must_cut hc]; exact hc)
  split
  · exact .same rfl (must_as hr _)
  split
  · exact .same rfl (must_as hr _)
  · exact .same rfl (must_as hr _)
theorem farIn_as (hk : k ≤ bs.length) {r : Rd} (hr : r.at_ ≤ k) (x : Rx) (op : Int) : As3 k (farIn bs x op r) (farIn (bs.take k) x op r) := by
  unfold farIn
  split
  · rcases one_as hk hr x with ⟨v, d, h⟩ | hc
    · exact .same (by rw [v, d]) (must_as h _)
    · exact .cut (by dsimp only; rw [must_cut hc]; exact hc)
  split
  · rcases two_as hk hr x with ⟨v, d, h⟩ | hc
    · exact .same (by rw [v, d]) h
    · exact .cut hc
  split
  · rcases two_as hk hr x with ⟨v, d, h⟩ | hc
    · exact .same (by rw [v, d]) h
    · exact .cut hc
  split
  · by_cases hw : r.wrong = true
    · refine .wrong ?_
      split
      · show (memD bs r).wrong = true; rw [mem_wrong hw]; exact hw
      · show (twoD bs r).wrong = true; rw [two_wrong hw]; exact hw
    have hw : r.wrong = false := by cases h : r.wrong; rfl; exact absurd h hw
    by_cases he : r.at_ = k
    · refine .cut ?_
      have hn := end_cut hw he hk
      rw [peek_end he hk, if_neg (fun q => Bool.noConfusion q)]
      show Cutd (twoD (bs.take k) r)
      unfold twoD
      rw [must_cut hn]; exact hn
    · rw [peek_as (by omega) hk]
      split
      · rcases mem_as hk hr x with ⟨v, d, h⟩ | hc
        · exact .same (by rw [v, d]) h
        · exact .cut hc
      · rcases two_as hk hr x with ⟨v, d, h⟩ | hc
        · exact .same (by rw [v, d]) h
        · exact .cut hc
  · exact .same rfl (must_as hr _)
theorem far_as (hk : k ≤ bs.length) {r : Rd} (hr : r.at_ ≤ k) (x : Rx) : As3 k (farR bs x r) (farR (bs.take k) x r) := by
  have h1 : (farD1 x r).at_ ≤ k := must_as hr _
  unfold farR
  rcases next_as hk h1 with ⟨e, h⟩ | hc
  · rw [e]
    split
    · exact .same rfl h
    · exact farIn_as hk h x _
  · rw [if_pos (by rw [hc.1]; rfl : ((nextF (bs.take k) (farD1 x r)).2.cut || (nextF (bs.take k) (farD1 x r)).2.wrong) = true)]
    exact .cut hc
theorem realIn_as (hk : k ≤ bs.length) {r : Rd} (hr : r.at_ ≤ k) (f : Int) (x : Rx) (op : Int) : As3 k (realIn bs f x op r) (realIn (bs.take k) f x op r) := by
  unfold realIn
  split
  · rcases two_as hk hr x with ⟨v, d, h⟩ | hc
    · exact .same (by rw [v, d]) h
    · exact .cut hc
  · rcases two_as hk (must_as hr _) x with ⟨v, d, h⟩ | hc
    · exact .same (by rw [v, d]) h
    · exact .cut hc
theorem real_as (hk : k ≤ bs.length) {r : Rd} (hr : r.at_ ≤ k) (f : Int) : As3 k (realR bs f r) (realR (bs.take k) f r) := by
  unfold realR
  rcases next_as hk hr with ⟨e, h⟩ | hc
  · rw [e]
    split
    · exact .same rfl h
    · have e1 : realD1 (bs.take k) r = realD1 bs r := by unfold realD1; rw [e]
      have h1 : (realD1 bs r).at_ ≤ k := by unfold realD1; exact must_as h _
      rcases next_as hk h1 with ⟨e2, h2⟩ | hc
      · have e3 : realD2 (bs.take k) r = realD2 bs r := by unfold realD2; rw [e1, e2]
        have h3 : (realD2 bs r).at_ ≤ k := by unfold realD2; exact must_as h2 _
        rw [e3]
        rcases next_as hk h3 with ⟨e4, h4⟩ | hc
        · rw [e4]
          split
          · exact .same rfl h4
          · exact realIn_as hk h4 f _ _
        · rw [if_pos (by rw [hc.1]; rfl : ((nextF (bs.take k) (realD2 bs r)).2.cut || (nextF (bs.take k) (realD2 bs r)).2.wrong) = true)]
          exact .cut hc
      · have hc3 : Cutd (nextF (bs.take k) (realD2 (bs.take k) r)).2 := by
          have : Cutd (realD2 (bs.take k) r) := by unfold realD2; rw [e1, must_cut hc]; exact hc
          rw [next_cut this]; exact this
        rw [if_pos (by rw [hc3.1]; rfl : ((nextF (bs.take k) (realD2 (bs.take k) r)).2.cut || (nextF (bs.take k) (realD2 (bs.take k) r)).2.wrong) = true)]
        exact .cut hc3
  · rw [if_pos hc.1]
    exact .cut hc
theorem prefIn_as (hk : k ≤ bs.length) {r : Rd} (hr : r.at_ ≤ k) (x : Rx) (op : Int) : As3 k (prefIn bs x op r) (prefIn (bs.take k) x op r) := by
  unfold prefIn
  split
  · exact far_as hk hr x
  split
  · exact narrow_as hk hr x op
  split
  · rcases immD_as hk (must_as hr (decide (x.reg = 0))) 8 with ⟨v, d, h⟩ | hc
    · exact .same (by rw [v, d]) (must_as h _)
    · exact .cut (by dsimp only; rw [must_cut hc]; exact hc)
  split
  · rcases mem_as hk hr x with ⟨v, d, h⟩ | hc
    · exact .same (by rw [v, d]) h
    · exact .cut hc
  split
  · rcases mem_as hk hr x with ⟨v, d, h⟩ | hc
    · exact .same (by rw [v, d]) h
    · exact .cut hc
  split
  · exact moved_as hk hr x
  split
  · rcases one_as hk hr x with ⟨v, d, h⟩ | hc
    · rw [v, d]
      rcases immD_as hk (must_as h (decide ((oneV bs x r).1 = 0))) 4 with ⟨v2, d2, h2⟩ | hc
      · exact .same (by rw [v2, d2]) h2
      · exact .cut hc
    · exact .cut (by dsimp only; rw [must_cut hc, immD_cut hc]; exact hc)
  split
  · exact numbered_as hk hr x op
  split
  · rcases two_as hk hr x with ⟨v, d, h⟩ | hc
    · exact .same (by rw [v, d]) h
    · exact .cut hc
  · exact .same rfl (must_as hr _)
theorem pref_as (hk : k ≤ bs.length) {r : Rd} (hr : r.at_ ≤ k) (x : Rx) : As3 k (prefR bs x r) (prefR (bs.take k) x r) := by
  unfold prefR
  rcases next_as hk hr with ⟨e, h⟩ | hc
  · rw [e]
    split
    · exact .same rfl h
    · exact prefIn_as hk h x _
  · rw [if_pos (by rw [hc.1]; rfl : ((nextF (bs.take k) r).2.cut || (nextF (bs.take k) r).2.wrong) = true)]
    exact .cut hc
theorem insTwo_as (hk : k ≤ bs.length) {r : Rd} (hr : r.at_ ≤ k) : As3 k (insTwo bs r) (insTwo (bs.take k) r) := by
  rcases next_as hk hr with ⟨e, h⟩ | hc
  · unfold insTwo
    rw [e]
    split
    · exact .same rfl h
    split
    · exact .same rfl h
    split
    · rcases immD_as hk h 4 with ⟨v, d, h⟩ | hc
      · exact .same (by rw [v, d]) h
      · exact .cut hc
    · exact .same rfl (must_as h _)
  · refine .cut ?_
    unfold insTwo
    split
    · exact hc
    split
    · exact hc
    split
    · show Cutd (immD _ _ 4); rw [immD_cut hc]; exact hc
    · show Cutd (mustF _ false); rw [must_cut hc]; exact hc
theorem insIn_as (hk : k ≤ bs.length) {r : Rd} (hr : r.at_ ≤ k) (x : Int) : As3 k (insIn bs x r) (insIn (bs.take k) x r) := by
  unfold insIn
  split
  · exact pref_as hk (must_as hr _) _
  split
  · exact real_as hk hr x
  split
  · rcases immD_as hk hr 1 with ⟨v, d, h⟩ | hc
    · exact .same (by rw [v, d]) h
    · exact .cut hc
  split
  · rcases immD_as hk hr 1 with ⟨v, d, h⟩ | hc
    · exact .same (by rw [v, d]) h
    · exact .cut hc
  split
  · rcases immD_as hk hr 4 with ⟨v, d, h⟩ | hc
    · exact .same (by rw [v, d]) h
    · exact .cut hc
  split
  · rcases immD_as hk hr 4 with ⟨v, d, h⟩ | hc
    · exact .same (by rw [v, d]) h
    · exact .cut hc
  split
  · exact .same rfl hr
  split
  · exact insTwo_as hk hr
  · exact .same rfl (must_as hr _)
theorem ins_as (hk : k ≤ bs.length) {r : Rd} (hr : r.at_ ≤ k) : As3 k (insR bs r) (insR (bs.take k) r) := by
  unfold insR
  rcases next_as hk hr with ⟨e, h⟩ | hc
  · rw [e]
    split
    · exact .same rfl h
    · exact insIn_as hk h _
  · rw [if_pos hc.1]
    exact .cut hc
end
theorem dec_cut {i : Ins} (hv : validF i = true) (hI : I64 i.imm) {k : Nat} (hk : k < (encF i).length) : decE ((encF i).take k) = 202 := by
  have hb := back_enc hv hI []
  rw [List.append_nil] at hb
  have h := ins_as (bs := encF i) (k := k) (by omega) (r := rd0) (Nat.zero_le k)
  rw [hb] at h
  rcases h with ⟨_, h⟩ | h | h
  · exact absurd (show (encF i).length ≤ k from h) (by omega)
  · rw [decE, if_neg (by rw [h.2]; exact fun q => Bool.noConfusion q), if_pos h.1]
  · exact absurd (show false = true from h) (fun q => Bool.noConfusion q)
end Go.Proofs.YtjndpakhmgapjaaDoor

namespace Go.Proofs.YtjndpakhmgapjaaDoor
open Go Go.RowKit
set_option linter.unusedSimpArgs false
set_option linter.unusedVariables false
set_option linter.unnecessarySimpa false
structure Good (l : List Ins) : Prop where
  valid : ∀ x ∈ l, validF x = true
  imm : ∀ x ∈ l, I64 x.imm
end Go.Proofs.YtjndpakhmgapjaaDoor

namespace Go.Proofs.YtjndpakhmgapjaaDoor
open Go Go.RowKit
set_option linter.unusedSimpArgs false
set_option linter.unusedVariables false
set_option linter.unnecessarySimpa false
def Ok (r : Rd) : Prop := r.cut = false ∧ r.wrong = false
section
variable {bs : List UInt8} {r : Rd} {l : List UInt8}
theorem ok_next (h : Ok (nextF bs r).2) : Ok r := by
  unfold nextF at h
  split at h
  · exact h
  · split at h
    · exact absurd (show true = false from h.1) (fun q => Bool.noConfusion q)
    · exact h
theorem ok_must {is : Bool} (h : Ok (mustF r is)) : Ok r ∧ is = true ∧ mustF r is = r := by
  unfold mustF at h ⊢
  by_cases hc : (!r.cut && !is) = true
  · rw [if_pos hc] at h; exact absurd (show true = false from h.2) (fun q => Bool.noConfusion q)
  · rw [if_neg hc] at h
    rw [if_neg hc]
    refine ⟨h, ?_, rfl⟩
    cases is
    · rw [h.1] at hc; exact absurd rfl hc
    · rfl
theorem ok_imm : ∀ k, Ok (immS bs r k).2 → Ok r
  | 0, h => h
  | k + 1, h => ok_imm k (ok_next h)
theorem ok_two (h : Ok (twoD bs r)) : Ok r := ok_next (ok_must h).1
theorem byte_of (b : UInt8) : byteOf (b.toNat : Int) = b := by
  unfold byteOf
  have h := u8_toNat b
  have e : ((b.toNat : Int) % 256).toNat = b.toNat := by omega
  rw [e]
  exact UInt8.ofNat_toNat
/-- So much has been read. -/
structure Pre (bs : List UInt8) (r : Rd) (l : List UInt8) : Prop where
  st : r = R0 l.length
  tk : bs.take l.length = l
theorem Pre.start (bs : List UInt8) : Pre bs rd0 [] := ⟨rfl, rfl⟩
theorem Pre.le (h : Pre bs r l) : l.length ≤ bs.length := by
  have := congrArg List.length h.tk
  rw [List.length_take] at this
  omega
theorem Pre.lt (h : Pre bs r l) (ok : Ok (nextF bs r).2) : l.length < bs.length := by
  rcases Nat.lt_or_ge l.length bs.length with g | g
  · exact g
  · exfalso
    have hl := h.le
    rw [h.st, nextF, if_neg (by show ¬ (false || false) = true; decide), if_pos (by show l.length = bs.length; omega)] at ok
    exact absurd (show true = false from ok.1) (fun q => Bool.noConfusion q)
theorem Pre.next (h : Pre bs r l) (ok : Ok (nextF bs r).2) : Pre bs (nextF bs r).2 (l ++ [byteOf (nextF bs r).1]) := by
  have hlt := h.lt ok
  obtain ⟨hr, ht⟩ := h
  subst hr
  rw [nx hlt]
  refine ⟨by rw [List.length_append]; rfl, ?_⟩
  rw [List.length_append]
  show bs.take (l.length + 1) = l ++ [byteOf (byteAt bs l.length)]
  rw [List.take_succ_eq_append_getElem hlt, ht]
  congr 2
  unfold byteAt
  rw [byte_of, List.getD_eq_getElem?_getD, List.getElem?_eq_getElem hlt]
  rfl
theorem leBytes_more : ∀ (k : Nat) (n m : Int), leBytes k (n + m * 256 ^ k) = leBytes k n
  | 0, _, _ => rfl
  | k + 1, n, m => by
    have e : n + m * 256 ^ (k + 1) = n + m * 256 ^ k * 256 := by rw [Int.pow_succ, Int.mul_assoc]
    rw [e, leBytes, leBytes, Int.add_mul_emod_self_right, Int.add_mul_ediv_right _ _ (by decide), leBytes_more k]
theorem Pre.immS (h : Pre bs r l) : ∀ k, Ok (immS bs r k).2 → Pre bs (immS bs r k).2 (l ++ leBytes k (immS bs r k).1)
  | 0, _ => by
    show Pre bs r (l ++ [])
    rw [List.append_nil]; exact h
  | k + 1, ok => by
    have h1 := Pre.immS h k (ok_next ok)
    have h2 := h1.next ok
    obtain ⟨a0, a1⟩ := imm_range bs r k
    have hp : (0 : Int) < 256 ^ k := Int.pow_pos (by decide)
    show Pre bs (nextF bs (Go.Proofs.YtjndpakhmgapjaaDoor.immS bs r k).2).2 (l ++ leBytes (k + 1) ((Go.Proofs.YtjndpakhmgapjaaDoor.immS bs r k).1 + (nextF bs (Go.Proofs.YtjndpakhmgapjaaDoor.immS bs r k).2).1 * 256 ^ k))
    rw [leBytes_succ, leBytes_more, Int.add_mul_ediv_right _ _ (by omega), Int.ediv_eq_zero_of_lt a0 a1, Int.zero_add, ← List.append_assoc]
    exact h2
theorem leBytes_sgn (k : Nat) (n : Int) : leBytes k (sgn k n) = leBytes k n := by
  unfold sgn
  split
  · rfl
  · have h := leBytes_more k n (-1)
    rw [← h]
    congr 1
    omega
theorem Pre.imm (h : Pre bs r l) (k : Nat) (ok : Ok (immD bs r k)) : Pre bs (immD bs r k) (l ++ immF (immV bs r k) k) := by
  unfold immF immV
  rw [leBytes_sgn]
  exact h.immS k ok
theorem immV1 : -128 ≤ immV bs r 1 ∧ immV bs r 1 ≤ 127 := by
  have h := imm_range bs r 1
  unfold immV sgn
  split <;> omega
theorem immV4 : smallF (immV bs r 4) = true := by
  have h := imm_range bs r 4
  unfold smallF inF immV sgn
  rw [Bool.and_eq_true, decide_eq_true_eq, decide_eq_true_eq]
  split <;> omega
theorem immV8 : I64 (immV bs r 8) := by
  have h := imm_range bs r 8
  unfold I64 immV sgn
  split <;> omega
theorem small_i64 {n : Int} (h : smallF n = true) : I64 n := by
  unfold smallF inF at h
  rw [Bool.and_eq_true, decide_eq_true_eq, decide_eq_true_eq] at h
  unfold I64
  omega
theorem I64_0 : I64 0 := by unfold I64; decide

/-! ### prefixes and registers -/
structure RxOk (x : Rx) : Prop where
  w : x.wide = 0 ∨ x.wide = 1
  p : x.reg = 0 ∨ x.reg = 8
  q : x.rm = 0 ∨ x.rm = 8
def rexB (x : Rx) : Int := 64 + x.reg / 8 * 4 + x.rm / 8 + 8 * x.wide
theorem fin256 {p : Int} (hp : 0 ≤ p ∧ p ≤ 255) (P : Int → Prop) (h : ∀ a : Fin 256, P (a.val : Int)) : P p := by
  have h2 := h ⟨p.toNat, by omega⟩
  have h3 : ((⟨p.toNat, by omega⟩ : Fin 256).val : Int) = p := by show ((p.toNat : Nat) : Int) = p; omega
  rwa [h3] at h2
set_option maxRecDepth 100000 in
theorem ands {v : Int} (hv : 0 ≤ v ∧ v ≤ 255) : (andI v 240 = 64 → andI v 2 = 0 → v = 64 + v / 4 % 2 * 4 + v % 2 + 8 * (v / 8 % 2)) ∧ (andI v 242 = 64 → v = 64 + v / 4 % 2 * 4 + v % 2 + 8 * (v / 8 % 2)) ∧ (andI v 240 = 144 → v = 144 + v % 16) ∧ (andI v 240 = 64 → v = 64 + v % 16) ∧ (andI v 240 = 112 → v = 112 + v % 16) ∧ (andI v 240 = 128 → v = 128 + v % 16) ∧ (andI v 248 = 80 → v = 80 + v % 8) ∧ (andI v 248 = 88 → v = 88 + v % 8) ∧ (andI v 248 = 184 → v = 184 + v % 8) :=
  fin256 hv (fun v => (andI v 240 = 64 → andI v 2 = 0 → v = 64 + v / 4 % 2 * 4 + v % 2 + 8 * (v / 8 % 2)) ∧ (andI v 242 = 64 → v = 64 + v / 4 % 2 * 4 + v % 2 + 8 * (v / 8 % 2)) ∧ (andI v 240 = 144 → v = 144 + v % 16) ∧ (andI v 240 = 64 → v = 64 + v % 16) ∧ (andI v 240 = 112 → v = 112 + v % 16) ∧ (andI v 240 = 128 → v = 128 + v % 16) ∧ (andI v 248 = 80 → v = 80 + v % 8) ∧ (andI v 248 = 88 → v = 88 + v % 8) ∧ (andI v 248 = 184 → v = 184 + v % 8)) (by decide +kernel)
theorem split_ok (v : Int) : RxOk (splitF v) := by
  unfold splitF
  refine ⟨?_, ?_, ?_⟩ <;> dsimp only <;> omega
theorem split_rex {v : Int} (h : v = 64 + v / 4 % 2 * 4 + v % 2 + 8 * (v / 8 % 2)) : rexB (splitF v) = v := by
  unfold rexB splitF
  dsimp only
  omega
theorem rexB1 {x : Rx} {p q : Int} (hw : x.wide = 1) (hp : p / 8 * 8 = x.reg) (hq : q / 8 * 8 = x.rm) : rexB x = rexN true p q := by
  unfold rexB rexN
  rw [← hp, ← hq, hw, if_pos rfl]
  omega
theorem rexB0 {x : Rx} {p q : Int} (hw : x.wide = 0) (hp : p / 8 * 8 = x.reg) (hq : q / 8 * 8 = x.rm) : rexB x = rexN false p q := by
  unfold rexB rexN
  rw [← hp, ← hq, hw, if_neg (fun q => Bool.noConfusion q)]
  omega
theorem or_part {c : Int} (hc : c = 0 ∨ c = 8) (a : Int) : orI c (a % 8) = c + a % 8 := by
  rcases hc with rfl | rfl
  · exact fin8 (fun a => orI 0 a = 0 + a) (by decide)
  · exact fin8 (fun a => orI 8 a = 8 + a) (by decide)
theorem Pre.two (h : Pre bs r l) {x : Rx} (hx : RxOk x) (ok : Ok (twoD bs r)) : ∃ p q, twoV bs x r = (p, q) ∧ (0 ≤ p ∧ p ≤ 15) ∧ (0 ≤ q ∧ q ≤ 15) ∧ p / 8 * 8 = x.reg ∧ q / 8 * 8 = x.rm ∧ Pre bs (twoD bs r) (l ++ [byteOf (twoN p q)]) := by
  obtain ⟨h1, h2, h3⟩ := ok_must ok
  have hn := h.next h1
  have hr := next_range bs r
  rw [decide_eq_true_eq] at h2
  have hp := hx.p
  have hq := hx.q
  refine ⟨_, _, rfl, ?_, ?_, ?_, ?_, ?_⟩
  · rw [or_part hx.p]; omega
  · rw [or_part hx.q]; omega
  · rw [or_part hx.p]; omega
  · rw [or_part hx.q]; omega
  · rw [or_part hx.p, or_part hx.q]
    have e : twoN (x.reg + (nextF bs r).1 / 8 % 8) (x.rm + (nextF bs r).1 % 8) = (nextF bs r).1 := by unfold twoN; omega
    rw [e]
    unfold twoD
    rw [h3]
    exact hn
theorem Pre.one (h : Pre bs r l) {x : Rx} (hx : RxOk x) (ok : Ok (oneD bs x r)) : ∃ p q, oneV bs x r = (p, q) ∧ (0 ≤ p ∧ p ≤ 7) ∧ (0 ≤ q ∧ q ≤ 15) ∧ x.reg = 0 ∧ q / 8 * 8 = x.rm ∧ Pre bs (oneD bs x r) (l ++ [byteOf (twoN p q)]) := by
  obtain ⟨h1, h2, h3⟩ := ok_must (ok_two ok)
  rw [decide_eq_true_eq] at h2
  unfold oneD at ok
  rw [h3] at ok
  obtain ⟨p, q, e, hp, hq, rp, rq, hn⟩ := h.two hx ok
  refine ⟨p, q, ?_, by omega, hq, h2, rq, ?_⟩
  · unfold oneV; rw [h3]; exact e
  · unfold oneD; rw [h3]; exact hn
theorem Pre.mem (h : Pre bs r l) {x : Rx} (hx : RxOk x) (ok : Ok (memD bs r)) : ∃ p q n, memV bs x r = (p, q, n) ∧ (0 ≤ p ∧ p ≤ 15) ∧ (0 ≤ q ∧ q ≤ 15) ∧ p / 8 * 8 = x.reg ∧ q / 8 * 8 = x.rm ∧ smallF n = true ∧ Pre bs (memD bs r) (l ++ memF p q n) := by
  have ok2 : Ok (memD2 bs r) := ok_imm 4 ok
  have ok1 : Ok (memD1 bs r) := by
    unfold memD2 at ok2
    split at ok2
    · exact ok_next (ok_must ok2).1
    · exact ok2
  obtain ⟨h1, h2, h3⟩ := ok_must ok1
  have hn := h.next h1
  have hr := next_range bs r
  rw [decide_eq_true_eq] at h2
  have hp := hx.p
  have hq := hx.q
  have e : memN (x.reg + (nextF bs r).1 / 8 % 8) (x.rm + (nextF bs r).1 % 8) = (nextF bs r).1 := by unfold memN; omega
  have e4 : (x.rm + (nextF bs r).1 % 8) % 8 = (nextF bs r).1 % 8 := by omega
  have hd1 : Pre bs (memD1 bs r) (l ++ [byteOf (nextF bs r).1]) := by unfold memD1; rw [h3]; exact hn
  have hd2 : Pre bs (memD2 bs r) (l ++ (byteOf (nextF bs r).1 :: (if (nextF bs r).1 % 8 = 4 then [36] else []))) := by
    unfold memD2 at ok2 ⊢
    by_cases h4 : (nextF bs r).1 % 8 = 4
    · rw [if_pos h4] at ok2 ⊢
      rw [if_pos h4]
      obtain ⟨g1, g2, g3⟩ := ok_must ok2
      rw [decide_eq_true_eq] at g2
      have := hd1.next g1
      rw [g2, List.append_assoc] at this
      rw [g3]
      exact this
    · rw [if_neg h4]
      rw [if_neg h4]
      exact hd1
  refine ⟨_, _, _, rfl, ?_, ?_, ?_, ?_, immV4, ?_⟩
  · rw [or_part hx.p]; omega
  · rw [or_part hx.q]; omega
  · rw [or_part hx.p]; omega
  · rw [or_part hx.q]; omega
  · rw [or_part hx.p, or_part hx.q]
    unfold memF
    rw [e, e4]
    have := hd2.imm 4 ok
    rw [List.append_assoc] at this
    exact this

/-! ### each instruction -/
theorem valid_fl {i : Ins} {f : Int} (hf : fieldsF i.kind = (f, true)) (hd : 0 ≤ i.d ∧ i.d ≤ 15) (hs : 0 ≤ i.s ∧ i.s ≤ 15) (hc : 0 ≤ i.cond ∧ i.cond ≤ 15) (h1 : noneF f 1 i.d = true) (h2 : noneF f 2 i.s = true) (h4 : noneF f 4 i.imm = true) (h8 : noneF f 8 i.cond = true) (h16 : noneF f 16 i.size = true) (hz : sizedF i = true) : validF i = true := by
  have hb : bad0 i = false := by
    unfold bad0 inF
    rw [hf, decide_eq_true hd.1, decide_eq_true hd.2, decide_eq_true hs.1, decide_eq_true hs.2, decide_eq_true hc.1, decide_eq_true hc.2]
    rfl
  unfold validF
  rw [if_neg (by rw [hb]; exact fun q => Bool.noConfusion q), hf]
  dsimp only
  rw [h1, h2, h4, h8, h16, hz]
  rfl
/-- What is done is right. -/
def Dn (bs : List UInt8) (p : Ins × Rd) : Prop := Ok p.2 → validF p.1 = true ∧ I64 p.1.imm ∧ Pre bs p.2 (encF p.1)
theorem Dn.mk {i : Ins} {r : Rd} (h : Ok r → ∃ l, validF i = true ∧ I64 i.imm ∧ Pre bs r l ∧ encF i = l) : Dn bs (i, r) := by
  intro ok
  obtain ⟨l, h1, h2, h3, h4⟩ := h ok
  exact ⟨h1, h2, h4 ▸ h3⟩
theorem Dn.no {i : Ins} {r : Rd} : Dn bs (i, mustF r false) := fun ok => absurd (ok_must ok).2.1 (fun q => Bool.noConfusion q)
abbrev R15 : 0 ≤ (0 : Int) ∧ (0 : Int) ≤ 15 := ⟨by decide, by decide⟩
end
section
variable {bs : List UInt8} {r : Rd} {l : List UInt8}
theorem m16 (c : Int) : 0 ≤ c % 16 ∧ c % 16 ≤ 15 := by omega
theorem d8 {x : Rx} (hx : RxOk x) (op : Int) : (0 ≤ orI x.rm (op % 8) ∧ orI x.rm (op % 8) ≤ 15) ∧ orI x.rm (op % 8) / 8 * 8 = x.rm ∧ orI x.rm (op % 8) % 8 = op % 8 := by
  have h := hx.q
  rw [or_part h]
  omega
theorem rex_w {x : Rx} (hx : RxOk x) (h : ¬ x.wide = 0) : x.wide = 1 := hx.w.resolve_left h
theorem sized_j4 {i : Ins} (hk : i.kind = 35 ∨ i.kind = 36) (hz : i.size = 4) (hs : smallF i.imm = true) : sizedF i = true := by
  unfold sizedF
  rw [if_neg (by omega), if_pos hk, hz, hs]
  rfl
/-! ### two and far -/
theorem movedR_dn {x : Rx} (hx : RxOk x) (hw : x.wide = 1) (h : Pre bs r [byteOf (rexB x), 137]) : Dn bs (movedR bs x r) := by
  unfold movedR
  split
  · refine Dn.mk fun ok => ?_
    obtain ⟨p, q, n, e, hp, hq, rp, rq, hn, hk⟩ := h.mem hx ok
    rw [e]
    refine ⟨_, valid_fl (f := 23) rfl hq hp R15 rfl rfl rfl rfl rfl ?_, small_i64 hn, hk, ?_⟩
    · show ((decide ((8 : Int) = 8) || decide ((8 : Int) = 4) || decide ((8 : Int) = 1)) && smallF n) = true
      rw [hn]; rfl
    · rw [rexB1 hw rp rq]; rfl
  · refine Dn.mk fun ok => ?_
    obtain ⟨p, q, e, hp, hq, rp, rq, hk⟩ := h.two hx ok
    rw [e]
    refine ⟨_, valid_fl (f := 3) rfl hq hp R15 rfl rfl rfl rfl rfl rfl, I64_0, hk, ?_⟩
    rw [rexB1 hw rp rq]; rfl
theorem farIn_dn {x : Rx} {op : Int} (hx : RxOk x) (hop : 0 ≤ op ∧ op ≤ 255) (h : Pre bs r [byteOf (rexB x), 15, byteOf op]) : Dn bs (farIn bs x op r) := by
  have hA := ands hop
  unfold farIn
  split
  · rename_i hc
    rw [Bool.and_eq_true, decide_eq_true_eq, decide_eq_true_eq] at hc
    have ho := hA.2.2.1 hc.2
    refine Dn.mk fun ok => ?_
    obtain ⟨ok1, ok2, ok3⟩ := ok_must ok
    obtain ⟨p, q, e, hp, hq, rp, rq, hk⟩ := h.one hx ok1
    rw [e, decide_eq_true_eq] at ok2
    dsimp only at ok2
    subst ok2
    rw [ok3, e]
    refine ⟨_, valid_fl (f := 9) rfl hq R15 (m16 op) rfl rfl rfl rfl rfl rfl, I64_0, hk, ?_⟩
    rw [rexB0 (p := 0) (q := q) hc.1 rp.symm rq]
    show [_, 15, byteOf (144 + op % 16), _] = [_, 15, byteOf op, _]
    rw [← ho]
  split
  · rename_i _ hc
    rw [Bool.and_eq_true, decide_eq_true_eq, decide_eq_true_eq] at hc
    have ho := hA.2.2.2.1 hc.2
    refine Dn.mk fun ok => ?_
    obtain ⟨p, q, e, hp, hq, rp, rq, hk⟩ := h.two hx ok
    rw [e]
    refine ⟨_, valid_fl (f := 11) rfl hp hq (m16 op) rfl rfl rfl rfl rfl rfl, I64_0, hk, ?_⟩
    rw [rexB1 hc.1 rp rq]
    show [_, 15, byteOf (64 + op % 16), _] = [_, 15, byteOf op, _]
    rw [← ho]
  split
  · rename_i _ _ hc
    rw [Bool.and_eq_true, decide_eq_true_eq, decide_eq_true_eq] at hc
    refine Dn.mk fun ok => ?_
    obtain ⟨p, q, e, hp, hq, rp, rq, hk⟩ := h.two hx ok
    rw [e]
    refine ⟨_, valid_fl (f := 3) rfl hp hq R15 rfl rfl rfl rfl rfl rfl, I64_0, hk, ?_⟩
    rw [rexB1 hc.1 rp rq, hc.2]
    rfl
  split
  · rename_i _ _ _ hc
    rw [Bool.and_eq_true, decide_eq_true_eq, decide_eq_true_eq] at hc
    split
    · refine Dn.mk fun ok => ?_
      obtain ⟨p, q, n, e, hp, hq, rp, rq, hn, hk⟩ := h.mem hx ok
      rw [e]
      refine ⟨_, valid_fl (f := 23) rfl hp hq R15 rfl rfl rfl rfl rfl ?_, small_i64 hn, hk, ?_⟩
      · show ((decide ((1 : Int) = 8) || decide ((1 : Int) = 4) || decide ((1 : Int) = 1)) && smallF n) = true
        rw [hn]; rfl
      · rw [rexB1 hc.1 rp rq, hc.2]; rfl
    · refine Dn.mk fun ok => ?_
      obtain ⟨p, q, e, hp, hq, rp, rq, hk⟩ := h.two hx ok
      rw [e]
      refine ⟨_, valid_fl (f := 3) rfl hp hq R15 rfl rfl rfl rfl rfl rfl, I64_0, hk, ?_⟩
      rw [rexB1 hc.1 rp rq, hc.2]; rfl
  · exact Dn.no
theorem far_dn {x : Rx} (hx : RxOk x) (h : Pre bs r [byteOf (rexB x), 15]) : Dn bs (farR bs x r) := by
  unfold farR
  split
  · rename_i hc
    intro ok
    rw [show (nextF bs (farD1 x r)).2.cut = false from ok.1, show (nextF bs (farD1 x r)).2.wrong = false from ok.2] at hc
    exact absurd hc (by decide)
  · rename_i hc
    have ok : Ok (nextF bs (farD1 x r)).2 := by
      rw [Bool.or_eq_true, not_or, Bool.not_eq_true, Bool.not_eq_true] at hc
      exact hc
    obtain ⟨h1, h2, h3⟩ := ok_must (ok_next ok)
    have e : farD1 x r = r := h3
    rw [e] at ok ⊢
    exact farIn_dn hx (next_range bs r) (h.next ok)
theorem narrow_dn {x : Rx} {op : Int} (hx : RxOk x) (hw : x.wide = 0) (hop : 0 ≤ op ∧ op ≤ 255) (h : Pre bs r [byteOf (rexB x), byteOf op]) : Dn bs (narrowR bs x op r) := by
  have hA := ands hop
  unfold narrowR
  split
  · rename_i hc
    refine Dn.mk fun ok => ?_
    obtain ⟨p, q, n, e, hp, hq, rp, rq, hn, hk⟩ := h.mem hx ok
    rw [e]
    refine ⟨_, valid_fl (f := 23) rfl hp hq R15 rfl rfl rfl rfl rfl ?_, small_i64 hn, hk, ?_⟩
    · show ((decide ((4 : Int) = 8) || decide ((4 : Int) = 4) || decide ((4 : Int) = 1)) && smallF n) = true
      rw [hn]; rfl
    · rw [rexB0 hw rp rq, hc]; rfl
  split
  · rename_i _ hc
    refine Dn.mk fun ok => ?_
    obtain ⟨p, q, n, e, hp, hq, rp, rq, hn, hk⟩ := h.mem hx ok
    rw [e]
    refine ⟨_, valid_fl (f := 23) rfl hq hp R15 rfl rfl rfl rfl rfl ?_, small_i64 hn, hk, ?_⟩
    · show ((decide ((4 : Int) = 8) || decide ((4 : Int) = 4) || decide ((4 : Int) = 1)) && smallF n) = true
      rw [hn]; rfl
    · rw [rexB0 hw rp rq, hc]; rfl
  split
  · rename_i _ _ hc
    refine Dn.mk fun ok => ?_
    obtain ⟨p, q, n, e, hp, hq, rp, rq, hn, hk⟩ := h.mem hx ok
    rw [e]
    refine ⟨_, valid_fl (f := 23) rfl hq hp R15 rfl rfl rfl rfl rfl ?_, small_i64 hn, hk, ?_⟩
    · show ((decide ((1 : Int) = 8) || decide ((1 : Int) = 4) || decide ((1 : Int) = 1)) && smallF n) = true
      rw [hn]; rfl
    · rw [rexB0 hw rp rq, hc]; rfl
  split
  · rename_i _ _ _ hc
    refine Dn.mk fun ok => ?_
    obtain ⟨ok1, ok2, ok3⟩ := ok_must ok
    obtain ⟨p, q, e, hp, hq, rp, rq, hk⟩ := h.one hx ok1
    rw [e, Bool.or_eq_true, decide_eq_true_eq, decide_eq_true_eq] at ok2
    dsimp only at ok2
    rw [ok3, e]
    dsimp only
    rcases ok2 with rfl | rfl
    · rw [if_pos rfl]
      refine ⟨_, valid_fl (f := 1) rfl hq R15 R15 rfl rfl rfl rfl rfl rfl, I64_0, hk, ?_⟩
      rw [rexB0 (p := 0) (q := q) hw rp.symm rq, hc]; rfl
    · rw [if_neg (by decide)]
      refine ⟨_, valid_fl (f := 1) rfl hq R15 R15 rfl rfl rfl rfl rfl rfl, I64_0, hk, ?_⟩
      rw [rexB0 (p := 0) (q := q) hw rp.symm rq, hc]; rfl
  split
  · rename_i _ _ _ _ hc
    have ho := hA.2.2.2.2.2.2.1 hc
    refine Dn.mk fun ok => ?_
    obtain ⟨ok1, ok2, ok3⟩ := ok_must ok
    rw [decide_eq_true_eq] at ok2
    rw [ok3]
    obtain ⟨g1, g2, g3⟩ := d8 hx op
    refine ⟨_, valid_fl (f := 1) rfl g1 R15 R15 rfl rfl rfl rfl rfl rfl, I64_0, h, ?_⟩
    rw [rexB0 (p := 0) hw ok2.symm g2]
    show [_, byteOf (80 + orI x.rm (op % 8) % 8)] = _
    rw [g3, ← ho]
  split
  · rename_i _ _ _ _ _ hc
    have ho := hA.2.2.2.2.2.2.2.1 hc
    refine Dn.mk fun ok => ?_
    obtain ⟨ok1, ok2, ok3⟩ := ok_must ok
    rw [decide_eq_true_eq] at ok2
    rw [ok3]
    obtain ⟨g1, g2, g3⟩ := d8 hx op
    refine ⟨_, valid_fl (f := 1) rfl g1 R15 R15 rfl rfl rfl rfl rfl rfl, I64_0, h, ?_⟩
    rw [rexB0 (p := 0) hw ok2.symm g2]
    show [_, byteOf (88 + orI x.rm (op % 8) % 8)] = _
    rw [g3, ← ho]
  · exact Dn.no
/-! ### those with a number in ModRM -/
theorem num_kinds {op n : Int} (hn : 0 ≤ n ∧ n ≤ 7) (hop : op = 129 ∨ op = 247 ∨ op = 211 ∨ op = 193) (h : 0 < kindN op n 16) : opF (kindN op n 16) = (op, n) ∧ clsF (kindN op n 16) = (if op = 129 then 1 else if op = 193 then 3 else 2) ∧ fieldsF (kindN op n 16) = (if op = 129 then 5 else if op = 193 then 5 else 1, true) ∧ (op = 193 → kindN op n 16 = 29 ∨ kindN op n 16 = 30 ∨ kindN op n 16 = 31) ∧ (¬ op = 193 → 15 ≤ kindN op n 16 ∧ kindN op n 16 ≤ 28) := by
  have e : n = 0 ∨ n = 1 ∨ n = 2 ∨ n = 3 ∨ n = 4 ∨ n = 5 ∨ n = 6 ∨ n = 7 := by omega
  rcases hop with rfl | rfl | rfl | rfl <;> rcases e with rfl | rfl | rfl | rfl | rfl | rfl | rfl | rfl <;> revert h <;> decide
theorem sized_mid {i : Ins} (h : 15 ≤ i.kind ∧ i.kind ≤ 28) (hs : smallF i.imm = true) : sizedF i = true := by
  unfold sizedF
  rw [if_neg (by omega), if_neg (by omega), if_neg (by omega), hs, Bool.or_true]
theorem numbered_dn {x : Rx} {op : Int} (hx : RxOk x) (hw : x.wide = 1) (hop : op = 129 ∨ op = 247 ∨ op = 211 ∨ op = 193) (h : Pre bs r [byteOf (rexB x), byteOf op]) : Dn bs (numberedR bs x op r) := by
  have hN : Ok (numD1 bs x op r) → ∃ n q, oneV bs x r = (n, q) ∧ (0 ≤ q ∧ q ≤ 15) ∧ byteOf (rexB x) = byteOf (rexN true 0 q) ∧ 0 < kindN op n 16 ∧ (0 ≤ n ∧ n ≤ 7) ∧ Pre bs (numD1 bs x op r) [byteOf (rexB x), byteOf op, byteOf (twoN n q)] := by
    intro ok
    obtain ⟨ok1, ok2, ok3⟩ := ok_must ok
    obtain ⟨p, q, e, hp, hq, rp, rq, hk⟩ := h.one hx ok1
    rw [e, decide_eq_true_eq] at ok2
    refine ⟨p, q, e, hq, by rw [rexB1 (p := 0) (q := q) hw rp.symm rq], ok2, hp, ?_⟩
    unfold numD1
    rw [ok3]
    exact hk
  unfold numberedR
  split
  · rename_i hc
    refine Dn.mk fun ok => ?_
    obtain ⟨n, q, e, hq, hx2, hk0, hn, hk⟩ := hN (ok_imm 4 ok)
    obtain ⟨k1, k2, k3, _, k5⟩ := num_kinds hn hop hk0
    rw [if_pos hc] at k2 k3
    rw [e]
    dsimp only
    refine ⟨_, valid_fl k3 hq R15 R15 rfl rfl rfl rfl rfl (sized_mid (k5 (by omega)) immV4), small_i64 immV4, hk.imm 4 ok, ?_⟩
    rw [enc1 k2]
    dsimp only
    rw [k1, hx2]; rfl
  split
  · rename_i hc0 hc
    refine Dn.mk fun ok => ?_
    obtain ⟨ok1, ok2, ok3⟩ := ok_must ok
    obtain ⟨n, q, e, hq, hx2, hk0, hn, hk⟩ := hN (ok_imm 1 ok1)
    obtain ⟨k1, k2, k3, k4, _⟩ := num_kinds hn hop hk0
    rw [if_neg hc0, if_pos hc] at k2 k3
    rw [e, ok3]
    dsimp only
    have hi : sizedF ⟨kindN op n 16, q, 0, 0, 0, immV bs (numD1 bs x op r) 1⟩ = true := by
      have := k4 hc
      unfold sizedF
      dsimp only
      rw [if_neg (by omega), if_neg (by omega), if_pos this]
      exact ok2
    have hv := immV1 (bs := bs) (r := numD1 bs x op r)
    refine ⟨_, valid_fl k3 hq R15 R15 rfl rfl rfl rfl rfl hi, by show I64 (immV bs _ 1); unfold I64; omega, hk.imm 1 ok1, ?_⟩
    rw [enc3 k2]
    dsimp only
    rw [k1, hx2]; rfl
  · rename_i hc0 hc
    refine Dn.mk fun ok => ?_
    obtain ⟨n, q, e, hq, hx2, hk0, hn, hk⟩ := hN ok
    obtain ⟨k1, k2, k3, _, k5⟩ := num_kinds hn hop hk0
    rw [if_neg hc0, if_neg hc] at k2 k3
    rw [e]
    dsimp only
    refine ⟨_, valid_fl k3 hq R15 R15 rfl rfl rfl rfl rfl (sized_mid (k5 hc) rfl), I64_0, hk, ?_⟩
    rw [enc2 k2]
    dsimp only
    rw [k1, hx2]
/-! ### behind a REX byte -/
theorem kindP_mem {op k : Int} (h : kindP op = some k) : (opF k).1 = op ∧ k ∈ kindsP := by
  unfold kindP at h
  exact ⟨by simpa using List.find?_some h, List.mem_of_find?_eq_some h⟩
theorem kindP_cls : ∀ k ∈ kindsP, clsF k = 0 ∧ fieldsF k = (3, true) ∧ 6 ≤ k ∧ k ≤ 14 := by decide
theorem sized_low {i : Ins} (h : 6 ≤ i.kind ∧ i.kind ≤ 14) (hs : smallF i.imm = true) : sizedF i = true := by
  unfold sizedF
  rw [if_neg (by omega), if_neg (by omega), if_neg (by omega), hs, Bool.or_true]
theorem prefIn_dn {x : Rx} {op : Int} (hx : RxOk x) (hop : 0 ≤ op ∧ op ≤ 255) (h : Pre bs r [byteOf (rexB x), byteOf op]) : Dn bs (prefIn bs x op r) := by
  have hA := ands hop
  unfold prefIn
  split
  · rename_i hc
    rw [hc] at h
    exact far_dn hx h
  split
  · rename_i _ hw
    exact narrow_dn hx hw hop h
  have hw : x.wide = 1 := rex_w hx (by assumption)
  split
  · rename_i _ _ hc
    have ho := hA.2.2.2.2.2.2.2.2 hc
    refine Dn.mk fun ok => ?_
    obtain ⟨ok1, ok2, ok3⟩ := ok_must ok
    obtain ⟨ok4, ok5, ok6⟩ := ok_must (ok_imm 8 ok1)
    rw [decide_eq_true_eq] at ok5
    rw [ok3]
    rw [ok6] at ok1 ok2 ⊢
    rw [Bool.not_eq_true'] at ok2
    obtain ⟨g1, g2, g3⟩ := d8 hx op
    refine ⟨_, valid_fl (f := 5) rfl g1 R15 R15 rfl rfl rfl rfl rfl rfl, immV8, h.imm 8 ok1, ?_⟩
    rw [enc5 rfl]
    dsimp only
    rw [if_neg (by rw [ok2]; exact fun q => Bool.noConfusion q), rexB1 (p := 0) hw ok5.symm g2, g3, ← ho]; rfl
  split
  · rename_i _ _ _ hc
    refine Dn.mk fun ok => ?_
    obtain ⟨p, q, n, e, hp, hq, rp, rq, hn, hk⟩ := h.mem hx ok
    rw [e]
    refine ⟨_, valid_fl (f := 23) rfl hp hq R15 rfl rfl rfl rfl rfl ?_, small_i64 hn, hk, ?_⟩
    · show ((decide ((8 : Int) = 8) || decide ((8 : Int) = 4) || decide ((8 : Int) = 1)) && smallF n) = true
      rw [hn]; rfl
    · rw [rexB1 hw rp rq, hc]; rfl
  split
  · rename_i _ _ _ _ hc
    refine Dn.mk fun ok => ?_
    obtain ⟨p, q, n, e, hp, hq, rp, rq, hn, hk⟩ := h.mem hx ok
    rw [e]
    refine ⟨_, valid_fl (f := 7) rfl hp hq R15 rfl rfl rfl rfl rfl ?_, small_i64 hn, hk, ?_⟩
    · exact hn
    · rw [rexB1 hw rp rq, hc]; rfl
  split
  · rename_i _ _ _ _ _ hc
    rw [hc] at h
    exact movedR_dn hx hw h
  split
  · rename_i _ _ _ _ _ _ hc
    refine Dn.mk fun ok => ?_
    obtain ⟨ok1, ok2, ok3⟩ := ok_must (ok_imm 4 ok)
    obtain ⟨p, q, e, hp, hq, rp, rq, hk⟩ := h.one hx ok1
    rw [ok3] at ok ⊢
    rw [e, decide_eq_true_eq] at ok2
    dsimp only at ok2
    subst ok2
    rw [e]
    refine ⟨_, valid_fl (f := 5) rfl hq R15 R15 rfl rfl rfl rfl rfl rfl, small_i64 immV4, hk.imm 4 ok, ?_⟩
    rw [enc5 rfl]
    dsimp only
    rw [if_pos immV4, rexB1 (p := 0) hw rp.symm rq, hc]; rfl
  split
  · rename_i _ _ _ _ _ _ _ hc
    exact numbered_dn hx hw hc h
  split
  · rename_i k hc
    obtain ⟨ho, hm⟩ := kindP_mem hc
    obtain ⟨c0, cf, cr⟩ := kindP_cls k hm
    refine Dn.mk fun ok => ?_
    obtain ⟨p, q, e, hp, hq, rp, rq, hk⟩ := h.two hx ok
    rw [e]
    refine ⟨_, valid_fl cf hq hp R15 rfl rfl rfl rfl rfl (sized_low cr rfl), I64_0, hk, ?_⟩
    rw [enc0 c0]
    dsimp only
    rw [rexB1 hw rp rq, ho]; rfl
  · exact Dn.no
theorem next_keeps (bs : List UInt8) (r : Rd) : (nextF bs r).2.wrong = r.wrong := by
  unfold nextF
  split
  · rfl
  · split <;> rfl
theorem ok_pref {x : Rx} (h : Ok (prefR bs x r).2) : Ok r := by
  unfold prefR at h
  split at h
  · exact ok_next h
  · rename_i hc
    rw [Bool.or_eq_true, not_or, Bool.not_eq_true, Bool.not_eq_true] at hc
    exact ok_next hc
theorem pref_dn {x : Rx} (hx : RxOk x) (h : Pre bs r [byteOf (rexB x)]) : Dn bs (prefR bs x r) := by
  unfold prefR
  split
  · rename_i hc
    intro ok
    rw [show (nextF bs r).2.cut = false from ok.1, show (nextF bs r).2.wrong = false from ok.2] at hc
    exact absurd hc (by decide)
  · rename_i hc
    have ok : Ok (nextF bs r).2 := by
      rw [Bool.or_eq_true, not_or, Bool.not_eq_true, Bool.not_eq_true] at hc
      exact hc
    exact prefIn_dn hx (next_range bs r) (h.next ok)
/-! ### behind a byte 66 or F2 -/
theorem realK_pos {first op : Int} {x : Rx} (h : 0 < realK first x op) : (first = 102 ∧ x.wide = 1 ∧ op = 110 ∧ realK first x op = 45) ∨ (first = 102 ∧ x.wide = 0 ∧ op = 46 ∧ realK first x op = 51) ∨ (first = 242 ∧ x.wide = 1 ∧ op = 42 ∧ realK first x op = 52) ∨ (first = 242 ∧ x.wide = 0 ∧ op = 88 ∧ realK first x op = 47) ∨ (first = 242 ∧ x.wide = 0 ∧ op = 89 ∧ realK first x op = 48) ∨ (first = 242 ∧ x.wide = 0 ∧ op = 92 ∧ realK first x op = 49) ∨ (first = 242 ∧ x.wide = 0 ∧ op = 94 ∧ realK first x op = 50) := by
  generalize hk : realK first x op = k at h ⊢
  unfold realK at hk
  simp only [Bool.and_eq_true, decide_eq_true_eq] at hk
  split at hk
  · rename_i hc
    exact .inl ⟨hc.1.1, hc.1.2, hc.2, hk.symm⟩
  split at hk
  · rename_i hc
    exact .inr (.inl ⟨hc.1.1, hc.1.2, hc.2, hk.symm⟩)
  split at hk
  · rename_i hc
    exact .inr (.inr (.inl ⟨hc.1.1, hc.1.2, hc.2, hk.symm⟩))
  split at hk
  · rename_i hc
    exact .inr (.inr (.inr (.inl ⟨hc.1.1, hc.1.2, hc.2, hk.symm⟩)))
  split at hk
  · rename_i hc
    exact .inr (.inr (.inr (.inr (.inl ⟨hc.1.1, hc.1.2, hc.2, hk.symm⟩))))
  split at hk
  · rename_i hc
    exact .inr (.inr (.inr (.inr (.inr (.inl ⟨hc.1.1, hc.1.2, hc.2, hk.symm⟩)))))
  split at hk
  · rename_i hc
    exact .inr (.inr (.inr (.inr (.inr (.inr (⟨hc.1.1, hc.1.2, hc.2, hk.symm⟩))))))
  · omega
theorem realIn_dn {x : Rx} {first op : Int} (hx : RxOk x) (h : Pre bs r [byteOf first, byteOf (rexB x), 15, byteOf op]) : Dn bs (realIn bs first x op r) := by
  unfold realIn
  split
  · rename_i hc
    rw [Bool.and_eq_true, Bool.and_eq_true, decide_eq_true_eq, decide_eq_true_eq, decide_eq_true_eq] at hc
    obtain ⟨⟨hf, hw⟩, ho⟩ := hc
    refine Dn.mk fun ok => ?_
    obtain ⟨p, q, e, hp, hq, rp, rq, hk⟩ := h.two hx ok
    rw [e]
    refine ⟨_, valid_fl (f := 3) rfl hq hp R15 rfl rfl rfl rfl rfl rfl, I64_0, hk, ?_⟩
    rw [rexB1 hw rp rq, hf, ho]; rfl
  · refine Dn.mk fun ok => ?_
    obtain ⟨ok1, ok2, ok3⟩ := ok_must (ok_two ok)
    rw [decide_eq_true_eq] at ok2
    rw [ok3] at ok ⊢
    obtain ⟨p, q, e, hp, hq, rp, rq, hk⟩ := h.two hx ok
    rw [e]
    dsimp only
    rcases realK_pos ok2 with ⟨hf, hw, ho, hk2⟩ | ⟨hf, hw, ho, hk2⟩ | ⟨hf, hw, ho, hk2⟩ | ⟨hf, hw, ho, hk2⟩ | ⟨hf, hw, ho, hk2⟩ | ⟨hf, hw, ho, hk2⟩ | ⟨hf, hw, ho, hk2⟩ <;> rw [hk2]
    all_goals refine ⟨_, valid_fl (f := 3) rfl hp hq R15 rfl rfl rfl rfl rfl rfl, I64_0, hk, ?_⟩
    all_goals first | (rw [rexB1 hw rp rq, hf, ho]; rfl) | (rw [rexB0 hw rp rq, hf, ho]; rfl)
theorem real_dn {first : Int} (h : Pre bs r [byteOf first]) : Dn bs (realR bs first r) := by
  unfold realR
  split
  · rename_i hc
    intro ok
    rw [show (nextF bs r).2.cut = false from ok.1] at hc
    exact absurd hc (by decide)
  split
  · rename_i hc
    intro ok
    rw [show (nextF bs (realD2 bs r)).2.cut = false from ok.1, show (nextF bs (realD2 bs r)).2.wrong = false from ok.2] at hc
    exact absurd hc (by decide)
  · rename_i hc
    have ok : Ok (nextF bs (realD2 bs r)).2 := by
      rw [Bool.or_eq_true, not_or, Bool.not_eq_true, Bool.not_eq_true] at hc
      exact hc
    obtain ⟨a1, a2, a3⟩ := ok_must (ok_next ok)
    obtain ⟨b1, b2, b3⟩ := ok_must (ok_next a1)
    rw [decide_eq_true_eq] at a2 b2
    have e2 : realD2 bs r = (nextF bs (realD1 bs r)).2 := a3
    have e1 : realD1 bs r = (nextF bs r).2 := b3
    have hr := next_range bs r
    have hrx := split_rex ((ands hr).2.1 b2)
    have h1 := h.next b1
    rw [e1] at a1 a2
    have h2 := h1.next a1
    rw [e2, e1] at ok ⊢
    have h3 := h2.next ok
    rw [a2] at h3
    refine realIn_dn (split_ok _) ?_
    rw [hrx]
    exact h3
/-! ### all of it -/
theorem insTwo_dn (h : Pre bs r [15]) : Dn bs (insTwo bs r) := by
  have hr := next_range bs r
  unfold insTwo
  split
  · rename_i hc
    refine Dn.mk fun ok => ?_
    have hk := h.next ok
    rw [hc] at hk
    exact ⟨_, rfl, I64_0, hk, rfl⟩
  split
  · rename_i _ hc
    refine Dn.mk fun ok => ?_
    have hk := h.next ok
    rw [hc] at hk
    exact ⟨_, rfl, I64_0, hk, rfl⟩
  split
  · rename_i _ _ hc
    refine Dn.mk fun ok => ?_
    have ok1 := ok_imm 4 ok
    have hk := h.next ok1
    have ho := (ands hr).2.2.2.2.2.1 hc
    refine ⟨_, valid_fl (f := 28) rfl R15 R15 (m16 _) rfl rfl rfl rfl rfl ?_, small_i64 immV4, hk.imm 4 ok, ?_⟩
    · exact sized_j4 (.inr rfl) rfl immV4
    · show 15 :: byteOf (128 + (nextF bs r).1 % 16) :: _ = _
      rw [← ho]; rfl
  · exact Dn.no
theorem insIn_dn {v : Int} (hv : 0 ≤ v ∧ v ≤ 255) (h : Pre bs r [byteOf v]) : Dn bs (insIn bs v r) := by
  have hA := ands hv
  unfold insIn
  split
  · rename_i hc
    intro ok
    have hm : Ok (mustF r (decide (andI v 2 = 0))) := ok_pref ok
    obtain ⟨m1, m2, m3⟩ := ok_must hm
    rw [decide_eq_true_eq] at m2
    have hrx := split_rex (hA.1 hc m2)
    rw [m3] at ok ⊢
    exact pref_dn (split_ok v) (by rw [hrx]; exact h) ok
  split
  · exact real_dn h
  split
  · rename_i _ _ hc
    refine Dn.mk fun ok => ?_
    have ho := hA.2.2.2.2.1 hc
    have hi := immV1 (bs := bs) (r := r)
    refine ⟨_, valid_fl (f := 28) rfl R15 R15 (m16 _) rfl rfl rfl rfl rfl ?_, by show I64 (immV bs _ 1); unfold I64; omega, h.imm 1 ok, ?_⟩
    · show (decide ((1 : Int) = 4) && smallF (immV bs r 1) || decide ((1 : Int) = 1) && inF (immV bs r 1) (-128) 127) = true
      rw [inF_of hi.1 hi.2]; rfl
    · show byteOf (112 + v % 16) :: _ = _
      rw [← ho]; rfl
  split
  · rename_i _ _ _ hc
    refine Dn.mk fun ok => ?_
    have hi := immV1 (bs := bs) (r := r)
    refine ⟨_, valid_fl (f := 20) rfl R15 R15 R15 rfl rfl rfl rfl rfl ?_, by show I64 (immV bs _ 1); unfold I64; omega, h.imm 1 ok, ?_⟩
    · show (decide ((1 : Int) = 4) && smallF (immV bs r 1) || decide ((1 : Int) = 1) && inF (immV bs r 1) (-128) 127) = true
      rw [inF_of hi.1 hi.2]; rfl
    · rw [hc]; rfl
  split
  · rename_i _ _ _ _ hc
    refine Dn.mk fun ok => ?_
    refine ⟨_, valid_fl (f := 20) rfl R15 R15 R15 rfl rfl rfl rfl rfl ?_, small_i64 immV4, h.imm 4 ok, ?_⟩
    · exact sized_j4 (.inl rfl) rfl immV4
    · rw [hc]; rfl
  split
  · rename_i _ _ _ _ _ hc
    refine Dn.mk fun ok => ?_
    refine ⟨_, valid_fl (f := 4) rfl R15 R15 R15 rfl rfl rfl rfl rfl immV4, small_i64 immV4, h.imm 4 ok, ?_⟩
    rw [hc]; rfl
  split
  · rename_i _ _ _ _ _ _ hc
    refine Dn.mk fun ok => ?_
    rw [hc] at h
    exact ⟨_, rfl, I64_0, h, rfl⟩
  split
  · rename_i _ _ _ _ _ _ _ hc
    rw [hc] at h
    exact insTwo_dn h
  · exact Dn.no
theorem ins_dn (bs : List UInt8) : Dn bs (insR bs rd0) := by
  unfold insR
  split
  · rename_i hc
    intro ok
    rw [show (nextF bs rd0).2.cut = false from ok.1] at hc
    exact absurd hc (by decide)
  · intro ok
    rename_i hc
    have ok1 : Ok (nextF bs rd0).2 := ⟨by rwa [Bool.not_eq_true] at hc, next_keeps bs rd0⟩
    exact insIn_dn (next_range bs rd0) ((Pre.start bs).next ok1) ok
/-- What is decoded is encoded as it stood. -/
theorem reads {bs : List UInt8} (h : decE bs = 0) : validF (decI bs) = true ∧ I64 (decI bs).imm ∧ encF (decI bs) = bs.take (decN bs) ∧ decN bs = (encF (decI bs)).length ∧ decN bs ≤ bs.length := by
  have hok : Ok (insR bs rd0).2 := by
    unfold decE at h
    split at h
    · exact absurd h (by decide)
    · split at h
      · exact absurd h (by decide)
      · rename_i h1 h2
        rw [Bool.not_eq_true] at h1 h2
        exact ⟨h2, h1⟩
  have hn : ¬ ((insR bs rd0).2.wrong = true ∨ (insR bs rd0).2.cut = true) := by
    rw [hok.1, hok.2]
    decide
  obtain ⟨h1, h2, h3⟩ := ins_dn bs hok
  have e1 : decI bs = (insR bs rd0).1 := if_neg hn
  have e2 : decN bs = (encF (insR bs rd0).1).length := by
    rw [decN, if_neg hn, h3.st]
  rw [e1, e2]
  exact ⟨h1, h2, h3.tk.symm, rfl, h3.le⟩
theorem reads_no {bs : List UInt8} (h : ¬ decE bs = 0) : decI bs = nilI ∧ decN bs = 0 ∧ (decE bs = 201 ∨ decE bs = 202) := by
  have hb : (insR bs rd0).2.wrong = true ∨ (insR bs rd0).2.cut = true := by
    unfold decE at h
    split at h
    · exact .inl (by assumption)
    · split at h
      · exact .inr (by assumption)
      · exact absurd rfl h
  refine ⟨if_pos hb, if_pos hb, ?_⟩
  unfold decE
  rcases hb with hb | hb
  · rw [if_pos hb]; exact .inl rfl
  · split
    · exact .inl rfl
    · exact .inr rfl
end
end Go.Proofs.YtjndpakhmgapjaaDoor

namespace Go.Proofs.YtjndpakhmgapjaaDoor
open Go Go.RowKit
set_option linter.unusedSimpArgs false
set_option linter.unusedVariables false
set_option linter.unnecessarySimpa false
def Cu (r : Rd) : Prop := r.cut = true ∧ r.wrong = false
/-- Bytes begin with others, and go on. -/
def Qb (bs l : List UInt8) : Prop := ∃ t, t ≠ [] ∧ bs ++ t = l
theorem Qb.mk {l w : List UInt8} {x : UInt8} : Qb l (l ++ x :: w) := ⟨x :: w, List.cons_ne_nil _ _, rfl⟩
theorem leNum_range : ∀ u : List UInt8, 0 ≤ leNum u ∧ leNum u < 256 ^ u.length
  | [] => ⟨Int.le_refl 0, by decide⟩
  | b :: r => by
    have h := leNum_range r
    have hb := u8_toNat b
    have e : (256 : Int) ^ (b :: r).length = 256 ^ r.length * 256 := Int.pow_succ ..
    rw [e, leNum]
    omega
theorem leBytes_num : ∀ (k : Nat) (u : List UInt8) (m : Int), u.length ≤ k → leBytes k (leNum u + 256 ^ u.length * m) = u ++ leBytes (k - u.length) m
  | k, [], m, _ => by
    show leBytes k (0 + 1 * m) = _
    rw [Int.zero_add, Int.one_mul]
    rfl
  | 0, b :: u, m, h => absurd h (by simp)
  | k + 1, b :: u, m, h => by
    have hb := u8_toNat b
    have e : leNum (b :: u) + 256 ^ (b :: u).length * m = (b.toNat : Int) + (leNum u + 256 ^ u.length * m) * 256 := by
      rw [leNum, show (256 : Int) ^ (b :: u).length = 256 ^ u.length * 256 from Int.pow_succ .., Int.add_mul, Int.mul_assoc, Int.mul_comm 256 m, ← Int.mul_assoc, Int.mul_comm 256 (leNum u), Int.add_assoc]
    have ih := leBytes_num k u m (by simpa using h)
    rw [e, leBytes, Int.add_mul_emod_self_right, Int.add_mul_ediv_right _ _ (by decide), Int.ediv_eq_zero_of_lt hb.1 (by omega), Int.zero_add, ih]
    have e2 : UInt8.ofNat ((b.toNat : Int) % 256).toNat = b := byte_of b
    rw [show k + 1 - (b :: u).length = k - u.length by simp]
    show UInt8.ofNat _ :: _ = _
    rw [e2]
    rfl
section
variable {bs : List UInt8} {r : Rd} {l : List UInt8}
theorem cu_must {is : Bool} (h : Cu (mustF r is)) : Cu r := by
  unfold mustF at h
  split at h
  · exact absurd (show true = false from h.2) (fun q => Bool.noConfusion q)
  · exact h
theorem pre_ok (h : Pre bs r l) : Ok r := by rw [h.st]; exact ⟨rfl, rfl⟩
theorem not_cu (h : Ok r) (c : Cu r) : False := by have := h.1; rw [c.1] at this; cases this
theorem cu_next (c : Cu (nextF bs r).2) : Cu r ∨ Ok r ∧ r.at_ = bs.length := by
  unfold nextF at c
  split at c
  · exact .inl c
  · rename_i hc
    rw [Bool.or_eq_true, not_or, Bool.not_eq_true, Bool.not_eq_true] at hc
    split at c
    · rename_i ha
      exact .inr ⟨hc, ha⟩
    · exact .inl c
theorem Pre.all (h : Pre bs r l) (ha : r.at_ = bs.length) : bs = l := by
  have ht := h.tk
  rw [h.st] at ha
  have hl : l.length = bs.length := ha
  rw [hl, List.take_length] at ht
  exact ht
theorem Pre.nextC (h : Pre bs r l) (c : Cu (nextF bs r).2) : bs = l := by
  rcases cu_next c with c | ⟨_, ha⟩
  · exact (not_cu (pre_ok h) c).elim
  · exact h.all ha
theorem next_or (bs : List UInt8) (h : r.wrong = false) : Ok (nextF bs r).2 ∨ Cu (nextF bs r).2 := by
  have hw : (nextF bs r).2.wrong = false := by rw [next_keeps]; exact h
  cases hc : (nextF bs r).2.cut
  · exact .inl ⟨hc, hw⟩
  · exact .inr ⟨hc, hw⟩
theorem must_or {is : Bool} (h : Ok r) (hw : (mustF r is).wrong = false) : Ok (mustF r is) ∧ is = true ∧ mustF r is = r := by
  have hc : Ok (mustF r is) := by
    refine ⟨?_, hw⟩
    unfold mustF
    split
    · exact h.1
    · exact h.1
  obtain ⟨_, h2, h3⟩ := ok_must hc
  exact ⟨hc, h2, h3⟩
theorem Pre.twoC (h : Pre bs r l) (c : Cu (twoD bs r)) : bs = l := h.nextC (cu_must c)
theorem Pre.oneC (h : Pre bs r l) {x : Rx} (c : Cu (oneD bs x r)) : x.reg = 0 ∧ bs = l := by
  have c1 : Cu (nextF bs (mustF r (decide (x.reg = 0)))).2 := cu_must c
  have hw : (mustF r (decide (x.reg = 0))).wrong = false := by have := c1.2; rwa [next_keeps] at this
  obtain ⟨_, h2, h3⟩ := must_or (pre_ok h) hw
  rw [h3] at c1
  exact ⟨by simpa using h2, h.nextC c1⟩
theorem Pre.immC (h : Pre bs r l) : ∀ k, Cu (Go.Proofs.YtjndpakhmgapjaaDoor.immS bs r k).2 → ∃ u : List UInt8, u.length < k ∧ bs = l ++ u
  | 0, c => (not_cu (pre_ok h) c).elim
  | k + 1, c => by
    rcases cu_next c with c | ⟨ok, ha⟩
    · obtain ⟨u, h1, h2⟩ := Pre.immC h k c
      exact ⟨u, by omega, h2⟩
    · have h1 := h.immS k ok
      refine ⟨_, ?_, h1.all ha⟩
      rw [leBytes_length]
      omega
theorem cu_imm0 : ∀ k, Cu (immS bs r k).2 → Cu r ∨ Ok r
  | 0, c => .inl c
  | k + 1, c => by
    rcases cu_next c with c | ⟨ok, _⟩
    · exact cu_imm0 k c
    · exact .inr (ok_imm k ok)
theorem part4 {u : List UInt8} (hu : u.length < 4) : ∃ n, smallF n = true ∧ ∃ x w, immF n 4 = u ++ x :: w := by
  have h := leNum_range u
  have hp : (256 : Int) ^ u.length ≤ 256 ^ 3 := by
    have : u.length = 0 ∨ u.length = 1 ∨ u.length = 2 ∨ u.length = 3 := by omega
    rcases this with e | e | e | e <;> rw [e] <;> decide
  refine ⟨leNum u, ?_, 0, leBytes (4 - u.length - 1) 0, ?_⟩
  · unfold smallF inF
    rw [Bool.and_eq_true, decide_eq_true_eq, decide_eq_true_eq]
    have : (256 : Int) ^ 3 = 16777216 := by decide
    omega
  · have e := leBytes_num 4 u 0 (by omega)
    rw [Int.mul_zero, Int.add_zero] at e
    unfold immF
    rw [e]
    obtain ⟨j, hj⟩ : ∃ j, 4 - u.length = j + 1 := ⟨4 - u.length - 1, by omega⟩
    rw [hj]
    rfl
theorem part8 {u : List UInt8} (hu : u.length < 8) : ∃ n, smallF n = false ∧ I64 n ∧ ∃ x w, immF n 8 = u ++ x :: w := by
  have h := leNum_range u
  have hc : u.length = 0 ∨ u.length = 1 ∨ u.length = 2 ∨ u.length = 3 ∨ u.length = 4 ∨ u.length = 5 ∨ u.length = 6 ∨ u.length = 7 := by omega
  refine ⟨leNum u + 256 ^ u.length * 256 ^ (7 - u.length), ?_, ?_, ?_⟩
  · have hs : smallF (leNum u + 256 ^ u.length * 256 ^ (7 - u.length)) ≠ true := by
      intro hh
      unfold smallF inF at hh
      rw [Bool.and_eq_true, decide_eq_true_eq, decide_eq_true_eq] at hh
      rcases hc with e | e | e | e | e | e | e | e <;> rw [e] at h hh <;> simp only [Nat.reduceSub, Int.reducePow, Int.reduceMul] at h hh <;> omega
    simpa using hs
  · unfold I64
    rcases hc with e | e | e | e | e | e | e | e <;> rw [e] at h ⊢ <;> simp only [Nat.reduceSub, Int.reducePow, Int.reduceMul] at h ⊢ <;> omega
  · have e := leBytes_num 8 u (256 ^ (7 - u.length)) (by omega)
    unfold immF
    rw [e]
    obtain ⟨j, hj⟩ : ∃ j, 8 - u.length = j + 1 := ⟨8 - u.length - 1, by omega⟩
    rw [hj]
    exact ⟨_, _, rfl⟩
theorem Qb.imm {l u : List UInt8} {n : Int} {k : Nat} (h : ∃ x w, immF n k = u ++ x :: w) : Qb (l ++ u) (l ++ immF n k) := by
  obtain ⟨x, w, e⟩ := h
  rw [e, ← List.append_assoc]
  exact Qb.mk
theorem Pre.immC4 (h : Pre bs r l) (c : Cu (immD bs r 4)) : ∃ n, smallF n = true ∧ Qb bs (l ++ immF n 4) := by
  obtain ⟨u, hu, rfl⟩ := h.immC 4 c
  obtain ⟨n, h1, h2⟩ := part4 hu
  exact ⟨n, h1, Qb.imm h2⟩
theorem Pre.immC8 (h : Pre bs r l) (c : Cu (immD bs r 8)) : ∃ n, smallF n = false ∧ I64 n ∧ Qb bs (l ++ immF n 8) := by
  obtain ⟨u, hu, rfl⟩ := h.immC 8 c
  obtain ⟨n, h1, h3, h2⟩ := part8 hu
  exact ⟨n, h1, h3, Qb.imm h2⟩
theorem Pre.immC1 (h : Pre bs r l) (c : Cu (immD bs r 1)) : Qb bs (l ++ immF 0 1) := by
  obtain ⟨u, hu, rfl⟩ := h.immC 1 c
  obtain rfl : u = [] := List.eq_nil_of_length_eq_zero (by omega)
  rw [List.append_nil]
  exact Qb.mk
theorem Pre.memC (h : Pre bs r l) {x : Rx} (hx : RxOk x) (c : Cu (memD bs r)) : ∃ p q n, (0 ≤ p ∧ p ≤ 15) ∧ (0 ≤ q ∧ q ≤ 15) ∧ p / 8 * 8 = x.reg ∧ q / 8 * 8 = x.rm ∧ smallF n = true ∧ Qb bs (l ++ memF p q n) := by
  have hp := hx.p
  have hq := hx.q
  have hr := next_range bs r
  have first : bs = l → ∃ p q n, (0 ≤ p ∧ p ≤ 15) ∧ (0 ≤ q ∧ q ≤ 15) ∧ p / 8 * 8 = x.reg ∧ q / 8 * 8 = x.rm ∧ smallF n = true ∧ Qb bs (l ++ memF p q n) := by
    rintro rfl
    exact ⟨x.reg, x.rm, 0, by omega, by omega, by omega, by omega, rfl, Qb.mk⟩
  have part : Ok (memD1 bs r) → Pre bs (memD1 bs r) (l ++ [byteOf (nextF bs r).1]) ∧ (nextF bs r).1 / 64 = 2 := by
    intro ok1
    obtain ⟨h1, h2, h3⟩ := ok_must ok1
    have hn := h.next h1
    rw [decide_eq_true_eq] at h2
    refine ⟨?_, h2⟩
    unfold memD1
    rw [h3]
    exact hn
  have e : (nextF bs r).1 / 64 = 2 → memN (x.reg + (nextF bs r).1 / 8 % 8) (x.rm + (nextF bs r).1 % 8) = (nextF bs r).1 := by unfold memN; omega
  have e4 : (x.rm + (nextF bs r).1 % 8) % 8 = (nextF bs r).1 % 8 := by omega
  have rest : ∀ n, smallF n = true → (nextF bs r).1 / 64 = 2 → Qb bs (l ++ memF (x.reg + (nextF bs r).1 / 8 % 8) (x.rm + (nextF bs r).1 % 8) n) → ∃ p q n, (0 ≤ p ∧ p ≤ 15) ∧ (0 ≤ q ∧ q ≤ 15) ∧ p / 8 * 8 = x.reg ∧ q / 8 * 8 = x.rm ∧ smallF n = true ∧ Qb bs (l ++ memF p q n) :=
    fun n hn h2 hQ => ⟨_, _, n, by omega, by omega, by omega, by omega, hn, hQ⟩
  have c1 : Cu (memD1 bs r) → bs = l := fun c => h.nextC (cu_must c)
  rcases cu_imm0 4 c with c2 | ok2
  · unfold memD2 at c2
    by_cases h4 : (nextF bs r).1 % 8 = 4
    · rw [if_pos h4] at c2
      rcases cu_next (cu_must c2) with c3 | ⟨ok1, ha⟩
      · exact first (c1 c3)
      · obtain ⟨hd1, h2⟩ := part ok1
        have hb := hd1.all ha
        refine rest 0 rfl h2 ?_
        unfold memF
        rw [e h2, e4, if_pos h4]
        refine ⟨36 :: immF 0 4, List.cons_ne_nil _ _, ?_⟩
        conv => lhs; arg 1; rw [hb]
        rw [List.append_assoc]
        rfl
    · rw [if_neg h4] at c2
      exact first (c1 c2)
  · have hd2 : Pre bs (memD2 bs r) (l ++ (byteOf (nextF bs r).1 :: (if (nextF bs r).1 % 8 = 4 then [36] else []))) ∧ (nextF bs r).1 / 64 = 2 := by
      unfold memD2 at ok2 ⊢
      by_cases h4 : (nextF bs r).1 % 8 = 4
      · rw [if_pos h4] at ok2 ⊢
        rw [if_pos h4]
        obtain ⟨g1, g2, g3⟩ := ok_must ok2
        rw [decide_eq_true_eq] at g2
        obtain ⟨hd1, h2⟩ := part (ok_next g1)
        have := hd1.next g1
        rw [g2, List.append_assoc] at this
        rw [g3]
        exact ⟨this, h2⟩
      · rw [if_neg h4] at ok2 ⊢
        rw [if_neg h4]
        exact part ok2
    obtain ⟨hd2, h2⟩ := hd2
    obtain ⟨n, hn, hQ⟩ := hd2.immC4 c
    refine rest n hn h2 ?_
    unfold memF
    rw [e h2, e4]
    rw [List.append_assoc] at hQ
    exact hQ
/-- What is cut has a way on. -/
def Wn (bs : List UInt8) (p : Ins × Rd) : Prop := Cu p.2 → ∃ i, validF i = true ∧ I64 i.imm ∧ Qb bs (encF i)
theorem Wn.no {i : Ins} {r : Rd} {is : Bool} (h : Ok r) : Wn bs (i, mustF r is) := fun c => (not_cu h (cu_must c)).elim
theorem rx15 {x : Rx} (hx : RxOk x) : (0 ≤ x.reg ∧ x.reg ≤ 15) ∧ (0 ≤ x.rm ∧ x.rm ≤ 15) ∧ x.reg / 8 * 8 = x.reg ∧ x.rm / 8 * 8 = x.rm := by
  have h1 := hx.p
  have h2 := hx.q
  omega
theorem movedR_wn {x : Rx} (hx : RxOk x) (hw : x.wide = 1) (h : Pre bs r [byteOf (rexB x), 137]) : Wn bs (movedR bs x r) := by
  obtain ⟨x1, x2, x3, x4⟩ := rx15 hx
  unfold movedR
  split
  · intro c
    obtain ⟨p, q, n, hp, hq, rp, rq, hn, hk⟩ := h.memC hx c
    refine ⟨⟨4, q, p, 0, 8, n⟩, valid_fl (f := 23) rfl hq hp R15 rfl rfl rfl rfl rfl ?_, small_i64 hn, ?_⟩
    · show ((decide ((8 : Int) = 8) || decide ((8 : Int) = 4) || decide ((8 : Int) = 1)) && smallF n) = true
      rw [hn]; rfl
    · rw [rexB1 hw rp rq] at hk; exact hk
  · intro c
    obtain rfl := h.twoC c
    refine ⟨⟨1, x.rm, x.reg, 0, 0, 0⟩, valid_fl (f := 3) rfl x2 x1 R15 rfl rfl rfl rfl rfl rfl, I64_0, ?_⟩
    rw [rexB1 hw x3 x4]
    exact Qb.mk
theorem farIn_wn {x : Rx} {op : Int} (hx : RxOk x) (hop : 0 ≤ op ∧ op ≤ 255) (h : Pre bs r [byteOf (rexB x), 15, byteOf op]) : Wn bs (farIn bs x op r) := by
  have hA := ands hop
  obtain ⟨x1, x2, x3, x4⟩ := rx15 hx
  unfold farIn
  split
  · rename_i hc
    rw [Bool.and_eq_true, decide_eq_true_eq, decide_eq_true_eq] at hc
    have ho := hA.2.2.1 hc.2
    intro c
    obtain ⟨hr0, rfl⟩ := h.oneC (cu_must c)
    refine ⟨⟨32, x.rm, 0, op % 16, 0, 0⟩, valid_fl (f := 9) rfl x2 R15 (m16 op) rfl rfl rfl rfl rfl rfl, I64_0, ?_⟩
    rw [rexB0 (p := 0) (q := x.rm) hc.1 hr0.symm x4]
    show Qb [_, 15, byteOf op] [_, 15, byteOf (144 + op % 16), _]
    rw [← ho]
    exact Qb.mk (l := [_, _, _])
  split
  · rename_i _ hc
    rw [Bool.and_eq_true, decide_eq_true_eq, decide_eq_true_eq] at hc
    have ho := hA.2.2.2.1 hc.2
    intro c
    obtain rfl := h.twoC c
    refine ⟨⟨34, x.reg, x.rm, op % 16, 0, 0⟩, valid_fl (f := 11) rfl x1 x2 (m16 op) rfl rfl rfl rfl rfl rfl, I64_0, ?_⟩
    rw [rexB1 hc.1 x3 x4]
    show Qb [_, 15, byteOf op] [_, 15, byteOf (64 + op % 16), _]
    rw [← ho]
    exact Qb.mk (l := [_, _, _])
  split
  · rename_i _ _ hc
    rw [Bool.and_eq_true, decide_eq_true_eq, decide_eq_true_eq] at hc
    intro c
    obtain rfl := h.twoC c
    refine ⟨⟨21, x.reg, x.rm, 0, 0, 0⟩, valid_fl (f := 3) rfl x1 x2 R15 rfl rfl rfl rfl rfl rfl, I64_0, ?_⟩
    rw [rexB1 hc.1 x3 x4, hc.2]
    exact Qb.mk (l := [_, _, _])
  split
  · rename_i _ _ _ hc
    rw [Bool.and_eq_true, decide_eq_true_eq, decide_eq_true_eq] at hc
    split
    · intro c
      obtain ⟨p, q, n, hp, hq, rp, rq, hn, hk⟩ := h.memC hx c
      refine ⟨⟨3, p, q, 0, 1, n⟩, valid_fl (f := 23) rfl hp hq R15 rfl rfl rfl rfl rfl ?_, small_i64 hn, ?_⟩
      · show ((decide ((1 : Int) = 8) || decide ((1 : Int) = 4) || decide ((1 : Int) = 1)) && smallF n) = true
        rw [hn]; rfl
      · rw [rexB1 hc.1 rp rq, hc.2] at hk; exact hk
    · intro c
      obtain rfl := h.twoC c
      refine ⟨⟨33, x.reg, x.rm, 0, 0, 0⟩, valid_fl (f := 3) rfl x1 x2 R15 rfl rfl rfl rfl rfl rfl, I64_0, ?_⟩
      rw [rexB1 hc.1 x3 x4, hc.2]
      exact Qb.mk (l := [_, _, _])
  · exact Wn.no (pre_ok h)
theorem far_wn {x : Rx} (hx : RxOk x) (h : Pre bs r [byteOf (rexB x), 15]) : Wn bs (farR bs x r) := by
  obtain ⟨x1, x2, x3, x4⟩ := rx15 hx
  unfold farR
  split
  · intro c
    have hw : (farD1 x r).wrong = false := by have := c.2; rwa [show (nextF bs (farD1 x r)).2.wrong = _ from next_keeps _ _] at this
    obtain ⟨_, h2, h3⟩ := must_or (pre_ok h) hw
    rw [show farD1 x r = r from h3] at c
    obtain rfl := h.nextC c
    rw [Bool.or_eq_true, decide_eq_true_eq, decide_eq_true_eq] at h2
    by_cases hw1 : x.wide = 1
    · refine ⟨⟨21, x.reg, x.rm, 0, 0, 0⟩, valid_fl (f := 3) rfl x1 x2 R15 rfl rfl rfl rfl rfl rfl, I64_0, ?_⟩
      rw [rexB1 hw1 x3 x4]
      exact Qb.mk (l := [_, _])
    · have hr0 := h2.resolve_left hw1
      have hw0 : x.wide = 0 := hx.w.resolve_right hw1
      refine ⟨⟨32, x.rm, 0, 0, 0, 0⟩, valid_fl (f := 9) rfl x2 R15 R15 rfl rfl rfl rfl rfl rfl, I64_0, ?_⟩
      rw [rexB0 (p := 0) (q := x.rm) hw0 hr0.symm x4]
      exact Qb.mk (l := [_, _])
  · rename_i hc
    have ok : Ok (nextF bs (farD1 x r)).2 := by
      rw [Bool.or_eq_true, not_or, Bool.not_eq_true, Bool.not_eq_true] at hc
      exact hc
    obtain ⟨h1, h2, h3⟩ := ok_must (ok_next ok)
    have e : farD1 x r = r := h3
    rw [e] at ok ⊢
    exact farIn_wn hx (next_range bs r) (h.next ok)
theorem narrow_wn {x : Rx} {op : Int} (hx : RxOk x) (hw : x.wide = 0) (hop : 0 ≤ op ∧ op ≤ 255) (h : Pre bs r [byteOf (rexB x), byteOf op]) : Wn bs (narrowR bs x op r) := by
  obtain ⟨x1, x2, x3, x4⟩ := rx15 hx
  unfold narrowR
  split
  · rename_i hc
    intro c
    obtain ⟨p, q, n, hp, hq, rp, rq, hn, hk⟩ := h.memC hx c
    refine ⟨⟨3, p, q, 0, 4, n⟩, valid_fl (f := 23) rfl hp hq R15 rfl rfl rfl rfl rfl ?_, small_i64 hn, ?_⟩
    · show ((decide ((4 : Int) = 8) || decide ((4 : Int) = 4) || decide ((4 : Int) = 1)) && smallF n) = true
      rw [hn]; rfl
    · rw [rexB0 hw rp rq, hc] at hk; exact hk
  split
  · rename_i _ hc
    intro c
    obtain ⟨p, q, n, hp, hq, rp, rq, hn, hk⟩ := h.memC hx c
    refine ⟨⟨4, q, p, 0, 4, n⟩, valid_fl (f := 23) rfl hq hp R15 rfl rfl rfl rfl rfl ?_, small_i64 hn, ?_⟩
    · show ((decide ((4 : Int) = 8) || decide ((4 : Int) = 4) || decide ((4 : Int) = 1)) && smallF n) = true
      rw [hn]; rfl
    · rw [rexB0 hw rp rq, hc] at hk; exact hk
  split
  · rename_i _ _ hc
    intro c
    obtain ⟨p, q, n, hp, hq, rp, rq, hn, hk⟩ := h.memC hx c
    refine ⟨⟨4, q, p, 0, 1, n⟩, valid_fl (f := 23) rfl hq hp R15 rfl rfl rfl rfl rfl ?_, small_i64 hn, ?_⟩
    · show ((decide ((1 : Int) = 8) || decide ((1 : Int) = 4) || decide ((1 : Int) = 1)) && smallF n) = true
      rw [hn]; rfl
    · rw [rexB0 hw rp rq, hc] at hk; exact hk
  split
  · rename_i _ _ _ hc
    intro c
    obtain ⟨hr0, rfl⟩ := h.oneC (cu_must c)
    refine ⟨⟨38, x.rm, 0, 0, 0, 0⟩, valid_fl (f := 1) rfl x2 R15 R15 rfl rfl rfl rfl rfl rfl, I64_0, ?_⟩
    rw [rexB0 (p := 0) (q := x.rm) hw hr0.symm x4, hc]
    exact Qb.mk (l := [_, _])
  split
  · exact Wn.no (pre_ok h)
  split
  · exact Wn.no (pre_ok h)
  · exact Wn.no (pre_ok h)
theorem numbered_wn {x : Rx} {op : Int} (hx : RxOk x) (hw : x.wide = 1) (hop : op = 129 ∨ op = 247 ∨ op = 211 ∨ op = 193) (h : Pre bs r [byteOf (rexB x), byteOf op]) : Wn bs (numberedR bs x op r) := by
  obtain ⟨x1, x2, x3, x4⟩ := rx15 hx
  have hN : Ok (numD1 bs x op r) → ∃ n q, oneV bs x r = (n, q) ∧ (0 ≤ q ∧ q ≤ 15) ∧ byteOf (rexB x) = byteOf (rexN true 0 q) ∧ 0 < kindN op n 16 ∧ (0 ≤ n ∧ n ≤ 7) ∧ Pre bs (numD1 bs x op r) [byteOf (rexB x), byteOf op, byteOf (twoN n q)] := by
    intro ok
    obtain ⟨ok1, ok2, ok3⟩ := ok_must ok
    obtain ⟨p, q, e, hp, hq, rp, rq, hk⟩ := h.one hx ok1
    rw [e, decide_eq_true_eq] at ok2
    refine ⟨p, q, e, hq, by rw [rexB1 (p := 0) (q := q) hw rp.symm rq], ok2, hp, ?_⟩
    unfold numD1
    rw [ok3]
    exact hk
  have hC : Cu (numD1 bs x op r) → byteOf (rexB x) = byteOf (rexN true 0 x.rm) ∧ bs = [byteOf (rexB x), byteOf op] := by
    intro c
    obtain ⟨hr0, e⟩ := h.oneC (cu_must c)
    exact ⟨by rw [rexB1 (p := 0) (q := x.rm) hw hr0.symm x4], e⟩
  unfold numberedR
  split
  · rename_i hc
    intro c
    rcases cu_imm0 4 c with c0 | ok
    · obtain ⟨e1, e2⟩ := hC c0
      refine ⟨⟨15, x.rm, 0, 0, 0, 0⟩, valid_fl (f := 5) rfl x2 R15 R15 rfl rfl rfl rfl rfl rfl, I64_0, ?_⟩
      rw [e2, e1, hc]
      exact Qb.mk (l := [_, _])
    · obtain ⟨n, q, e, hq, hx2, hk0, hn, hk⟩ := hN ok
      obtain ⟨k1, k2, k3, _, k5⟩ := num_kinds hn hop hk0
      rw [if_pos hc] at k2 k3
      obtain ⟨m, hm, hQ⟩ := hk.immC4 c
      refine ⟨⟨kindN op n 16, q, 0, 0, 0, m⟩, valid_fl k3 hq R15 R15 rfl rfl rfl rfl rfl (sized_mid (k5 (by omega)) hm), small_i64 hm, ?_⟩
      rw [enc1 k2]
      dsimp only
      rw [k1, ← hx2]
      exact hQ
  split
  · rename_i hc0 hc
    intro c
    have c := cu_must c
    rcases cu_imm0 1 c with c0 | ok
    · obtain ⟨e1, e2⟩ := hC c0
      refine ⟨⟨29, x.rm, 0, 0, 0, 0⟩, valid_fl (f := 5) rfl x2 R15 R15 rfl rfl rfl rfl rfl rfl, I64_0, ?_⟩
      rw [e2, e1, hc]
      exact Qb.mk (l := [_, _])
    · obtain ⟨n, q, e, hq, hx2, hk0, hn, hk⟩ := hN ok
      obtain ⟨k1, k2, k3, k4, _⟩ := num_kinds hn hop hk0
      rw [if_neg hc0, if_pos hc] at k2 k3
      have hQ := hk.immC1 c
      have hi : sizedF ⟨kindN op n 16, q, 0, 0, 0, 0⟩ = true := by
        have := k4 hc
        unfold sizedF
        dsimp only
        rw [if_neg (by omega), if_neg (by omega), if_pos this]
        rfl
      refine ⟨⟨kindN op n 16, q, 0, 0, 0, 0⟩, valid_fl k3 hq R15 R15 rfl rfl rfl rfl rfl hi, I64_0, ?_⟩
      rw [enc3 k2]
      dsimp only
      rw [k1, ← hx2]
      exact hQ
  · rename_i hc0 hc
    intro c
    obtain ⟨e1, e2⟩ := hC c
    have ho : op = 247 ∨ op = 211 := by omega
    rcases ho with ho | ho
    · refine ⟨⟨22, x.rm, 0, 0, 0, 0⟩, valid_fl (f := 1) rfl x2 R15 R15 rfl rfl rfl rfl rfl rfl, I64_0, ?_⟩
      rw [e2, e1, ho]
      exact Qb.mk (l := [_, _])
    · refine ⟨⟨26, x.rm, 0, 0, 0, 0⟩, valid_fl (f := 1) rfl x2 R15 R15 rfl rfl rfl rfl rfl rfl, I64_0, ?_⟩
      rw [e2, e1, ho]
      exact Qb.mk (l := [_, _])
theorem prefIn_wn {x : Rx} {op : Int} (hx : RxOk x) (hop : 0 ≤ op ∧ op ≤ 255) (h : Pre bs r [byteOf (rexB x), byteOf op]) : Wn bs (prefIn bs x op r) := by
  have hA := ands hop
  obtain ⟨x1, x2, x3, x4⟩ := rx15 hx
  unfold prefIn
  split
  · rename_i hc
    rw [hc] at h
    exact far_wn hx h
  split
  · rename_i _ hw
    exact narrow_wn hx hw hop h
  have hw : x.wide = 1 := rex_w hx (by assumption)
  split
  · rename_i _ _ hc
    have ho := hA.2.2.2.2.2.2.2.2 hc
    intro c
    have c := cu_must c
    rcases cu_imm0 8 c with c0 | ok
    · exact (not_cu (pre_ok h) (cu_must c0)).elim
    · obtain ⟨ok4, ok5, ok6⟩ := ok_must ok
      rw [decide_eq_true_eq] at ok5
      obtain ⟨g1, g2, g3⟩ := d8 hx op
      have c : Cu (immD bs (mustF r (decide (x.reg = 0))) 8) := c
      rw [ok6] at c
      obtain ⟨n, hn, hn2, hQ⟩ := h.immC8 c
      refine ⟨⟨2, orI x.rm (op % 8), 0, 0, 0, n⟩, valid_fl (f := 5) rfl g1 R15 R15 rfl rfl rfl rfl rfl rfl, hn2, ?_⟩
      rw [enc5 rfl]
      dsimp only
      rw [if_neg (by rw [hn]; exact fun q => Bool.noConfusion q), g3, ← ho]
      rw [rexB1 (p := 0) hw ok5.symm g2] at hQ
      exact hQ
  split
  · rename_i _ _ _ hc
    intro c
    obtain ⟨p, q, n, hp, hq, rp, rq, hn, hk⟩ := h.memC hx c
    refine ⟨⟨3, p, q, 0, 8, n⟩, valid_fl (f := 23) rfl hp hq R15 rfl rfl rfl rfl rfl ?_, small_i64 hn, ?_⟩
    · show ((decide ((8 : Int) = 8) || decide ((8 : Int) = 4) || decide ((8 : Int) = 1)) && smallF n) = true
      rw [hn]; rfl
    · rw [rexB1 hw rp rq, hc] at hk; exact hk
  split
  · rename_i _ _ _ _ hc
    intro c
    obtain ⟨p, q, n, hp, hq, rp, rq, hn, hk⟩ := h.memC hx c
    refine ⟨⟨5, p, q, 0, 0, n⟩, valid_fl (f := 7) rfl hp hq R15 rfl rfl rfl rfl rfl ?_, small_i64 hn, ?_⟩
    · exact hn
    · rw [rexB1 hw rp rq, hc] at hk; exact hk
  split
  · rename_i _ _ _ _ _ hc
    rw [hc] at h
    exact movedR_wn hx hw h
  split
  · rename_i _ _ _ _ _ _ hc
    intro c
    rcases cu_imm0 4 c with c0 | ok
    · obtain ⟨hr0, rfl⟩ := h.oneC (cu_must c0)
      refine ⟨⟨2, x.rm, 0, 0, 0, 0⟩, valid_fl (f := 5) rfl x2 R15 R15 rfl rfl rfl rfl rfl rfl, I64_0, ?_⟩
      rw [rexB1 (p := 0) hw hr0.symm x4, hc]
      exact Qb.mk (l := [_, _])
    · obtain ⟨ok1, ok2, ok3⟩ := ok_must ok
      obtain ⟨p, q, e, hp, hq, rp, rq, hk⟩ := h.one hx ok1
      rw [e, decide_eq_true_eq] at ok2
      dsimp only at ok2
      subst ok2
      have c : Cu (immD bs (mustF (oneD bs x r) (decide ((oneV bs x r).1 = 0))) 4) := c
      rw [ok3] at c
      obtain ⟨n, hn, hQ⟩ := hk.immC4 c
      refine ⟨⟨2, q, 0, 0, 0, n⟩, valid_fl (f := 5) rfl hq R15 R15 rfl rfl rfl rfl rfl rfl, small_i64 hn, ?_⟩
      rw [enc5 rfl]
      dsimp only
      rw [if_pos hn]
      rw [rexB1 (p := 0) hw rp.symm rq, hc] at hQ
      exact hQ
  split
  · rename_i _ _ _ _ _ _ _ hc
    exact numbered_wn hx hw hc h
  split
  · rename_i k hc
    obtain ⟨ho, hm⟩ := kindP_mem hc
    obtain ⟨c0, cf, cr⟩ := kindP_cls k hm
    intro c
    obtain rfl := h.twoC c
    refine ⟨⟨k, x.rm, x.reg, 0, 0, 0⟩, valid_fl cf x2 x1 R15 rfl rfl rfl rfl rfl (sized_low cr rfl), I64_0, ?_⟩
    rw [enc0 c0]
    dsimp only
    rw [rexB1 hw x3 x4, ho]
    exact Qb.mk (l := [_, _])
  · exact Wn.no (pre_ok h)
theorem pref_wn {x : Rx} (hx : RxOk x) (h : Pre bs r [byteOf (rexB x)]) : Wn bs (prefR bs x r) := by
  obtain ⟨x1, x2, x3, x4⟩ := rx15 hx
  unfold prefR
  split
  · intro c
    obtain rfl := h.nextC c
    rcases hx.w with hw | hw
    · refine ⟨⟨3, x.reg, x.rm, 0, 4, 0⟩, valid_fl (f := 23) rfl x1 x2 R15 rfl rfl rfl rfl rfl rfl, I64_0, ?_⟩
      rw [rexB0 hw x3 x4]
      exact Qb.mk (l := [_])
    · refine ⟨⟨1, x.rm, x.reg, 0, 0, 0⟩, valid_fl (f := 3) rfl x2 x1 R15 rfl rfl rfl rfl rfl rfl, I64_0, ?_⟩
      rw [rexB1 hw x3 x4]
      exact Qb.mk (l := [_])
  · rename_i hc
    have ok : Ok (nextF bs r).2 := by
      rw [Bool.or_eq_true, not_or, Bool.not_eq_true, Bool.not_eq_true] at hc
      exact hc
    exact prefIn_wn hx (next_range bs r) (h.next ok)
theorem wr_pref {x : Rx} (h : (prefR bs x r).2.wrong = false) : r.wrong = false := by
  unfold prefR at h
  split at h
  · rwa [show (nextF bs r).2.wrong = _ from next_keeps _ _] at h
  · rename_i hc
    rw [Bool.or_eq_true, not_or, Bool.not_eq_true, Bool.not_eq_true, next_keeps] at hc
    exact hc.2
/-- Behind 66 or F2 and a REX byte there is always one. -/
theorem real_any {x : Rx} {first : Int} (hx : RxOk x) (hf : first = 102 ∨ first = 242) : ∃ op i y, validF i = true ∧ I64 i.imm ∧ encF i = [byteOf first, byteOf (rexB x), 15, op, y] := by
  obtain ⟨x1, x2, x3, x4⟩ := rx15 hx
  rcases hf with rfl | rfl <;> rcases hx.w with hw | hw
  · exact ⟨46, ⟨51, x.reg, x.rm, 0, 0, 0⟩, _, valid_fl (f := 3) rfl x1 x2 R15 rfl rfl rfl rfl rfl rfl, I64_0, by rw [rexB0 hw x3 x4]; rfl⟩
  · exact ⟨110, ⟨45, x.reg, x.rm, 0, 0, 0⟩, _, valid_fl (f := 3) rfl x1 x2 R15 rfl rfl rfl rfl rfl rfl, I64_0, by rw [rexB1 hw x3 x4]; rfl⟩
  · exact ⟨88, ⟨47, x.reg, x.rm, 0, 0, 0⟩, _, valid_fl (f := 3) rfl x1 x2 R15 rfl rfl rfl rfl rfl rfl, I64_0, by rw [rexB0 hw x3 x4]; rfl⟩
  · exact ⟨42, ⟨52, x.reg, x.rm, 0, 0, 0⟩, _, valid_fl (f := 3) rfl x1 x2 R15 rfl rfl rfl rfl rfl rfl, I64_0, by rw [rexB1 hw x3 x4]; rfl⟩
theorem realIn_wn {x : Rx} {first op : Int} (hx : RxOk x) (h : Pre bs r [byteOf first, byteOf (rexB x), 15, byteOf op]) : Wn bs (realIn bs first x op r) := by
  obtain ⟨x1, x2, x3, x4⟩ := rx15 hx
  unfold realIn
  split
  · rename_i hc
    rw [Bool.and_eq_true, Bool.and_eq_true, decide_eq_true_eq, decide_eq_true_eq, decide_eq_true_eq] at hc
    obtain ⟨⟨hf, hw⟩, ho⟩ := hc
    intro c
    obtain rfl := h.twoC c
    refine ⟨⟨46, x.rm, x.reg, 0, 0, 0⟩, valid_fl (f := 3) rfl x2 x1 R15 rfl rfl rfl rfl rfl rfl, I64_0, ?_⟩
    rw [rexB1 hw x3 x4, hf, ho]
    exact Qb.mk (l := [_, _, _, _])
  · intro c
    have c1 : Cu (nextF bs (mustF r (decide (0 < realK first x op)))).2 := cu_must c
    have hw : (mustF r (decide (0 < realK first x op))).wrong = false := by have := c1.2; rwa [next_keeps] at this
    obtain ⟨_, h2, h3⟩ := must_or (pre_ok h) hw
    rw [h3] at c1
    obtain rfl := h.nextC c1
    rw [decide_eq_true_eq] at h2
    rcases realK_pos h2 with ⟨hf, hw, ho, hk2⟩ | ⟨hf, hw, ho, hk2⟩ | ⟨hf, hw, ho, hk2⟩ | ⟨hf, hw, ho, hk2⟩ | ⟨hf, hw, ho, hk2⟩ | ⟨hf, hw, ho, hk2⟩ | ⟨hf, hw, ho, hk2⟩
    all_goals refine ⟨⟨realK first x op, x.reg, x.rm, 0, 0, 0⟩, ?_, I64_0, ?_⟩ <;> rw [hk2]
    all_goals first | exact valid_fl (f := 3) rfl x1 x2 R15 rfl rfl rfl rfl rfl rfl | (rw [rexB1 hw x3 x4, hf, ho]; exact Qb.mk (l := [_, _, _, _])) | (rw [rexB0 hw x3 x4, hf, ho]; exact Qb.mk (l := [_, _, _, _]))
theorem real_wn {first : Int} (hf : first = 102 ∨ first = 242) (h : Pre bs r [byteOf first]) : Wn bs (realR bs first r) := by
  have hr := next_range bs r
  have n1 := next_or bs (pre_ok h).2
  have s1 : Ok (realD1 bs r) → realD1 bs r = (nextF bs r).2 ∧ Pre bs (realD1 bs r) [byteOf first, byteOf (nextF bs r).1] ∧ byteOf (rexB (splitF (nextF bs r).1)) = byteOf (nextF bs r).1 := by
    intro ok
    obtain ⟨b1, b2, b3⟩ := ok_must ok
    rw [decide_eq_true_eq] at b2
    have e1 : realD1 bs r = (nextF bs r).2 := b3
    exact ⟨e1, by rw [e1]; exact h.next b1, by rw [split_rex ((ands hr).2.1 b2)]⟩
  have s2 : Ok (realD2 bs r) → realD2 bs r = (nextF bs (realD1 bs r)).2 ∧ Ok (realD1 bs r) ∧ Pre bs (realD2 bs r) [byteOf first, byteOf (nextF bs r).1, 15] := by
    intro ok
    obtain ⟨a1, a2, a3⟩ := ok_must ok
    have e2 : realD2 bs r = (nextF bs (realD1 bs r)).2 := a3
    have ok1 := ok_next a1
    obtain ⟨_, p1, _⟩ := s1 ok1
    have p2 := p1.next a1
    rw [decide_eq_true_eq] at a2
    rw [a2] at p2
    exact ⟨e2, ok1, by rw [e2]; exact p2⟩
  unfold realR
  split
  · intro c
    obtain rfl := h.nextC c
    obtain ⟨op, i, y, hv, hi, he⟩ := real_any (split_ok 64) hf
    exact ⟨i, hv, hi, by rw [he]; exact Qb.mk (l := [_])⟩
  rename_i hnc
  have okn : Ok (nextF bs r).2 := ⟨by rwa [Bool.not_eq_true] at hnc, by rw [next_keeps]; exact (pre_ok h).2⟩
  split
  · intro c
    have hw2 : (realD2 bs r).wrong = false := by have := c.2; rwa [show (nextF bs (realD2 bs r)).2.wrong = _ from next_keeps _ _] at this
    have hw1 : (realD1 bs r).wrong = false := by
      unfold realD2 mustF at hw2
      split at hw2
      · exact absurd (show true = false from hw2) (fun q => Bool.noConfusion q)
      · rwa [next_keeps] at hw2
    obtain ⟨ok1, _, _⟩ := must_or okn hw1
    obtain ⟨e1, p1, hrx⟩ := s1 ok1
    obtain ⟨op, i, y, hv, hi, he⟩ := real_any (split_ok (nextF bs r).1) hf
    rw [hrx] at he
    rcases cu_next c with c2 | ⟨ok2, ha⟩
    · have hb := p1.nextC (cu_must c2)
      refine ⟨i, hv, hi, ?_⟩
      rw [he]
      conv => lhs; rw [hb]
      exact Qb.mk (l := [_, _])
    · obtain ⟨_, _, p2⟩ := s2 ok2
      have hb := p2.all ha
      refine ⟨i, hv, hi, ?_⟩
      rw [he]
      conv => lhs; rw [hb]
      exact Qb.mk (l := [_, _, _])
  · rename_i hc
    have ok : Ok (nextF bs (realD2 bs r)).2 := by
      rw [Bool.or_eq_true, not_or, Bool.not_eq_true, Bool.not_eq_true] at hc
      exact hc
    obtain ⟨e2, ok1, p2⟩ := s2 (ok_next ok)
    obtain ⟨e1, p1, hrx⟩ := s1 ok1
    refine realIn_wn (split_ok _) ?_
    rw [hrx]
    exact p2.next ok
theorem insTwo_wn (h : Pre bs r [15]) : Wn bs (insTwo bs r) := by
  have hr := next_range bs r
  have hcut : Cu (nextF bs r).2 → ∃ i, validF i = true ∧ I64 i.imm ∧ Qb bs (encF i) := by
    intro c
    obtain rfl := h.nextC c
    exact ⟨⟨43, 0, 0, 0, 0, 0⟩, rfl, I64_0, Qb.mk (l := [_])⟩
  unfold insTwo
  split
  · exact hcut
  split
  · exact hcut
  split
  · rename_i _ _ hc
    intro c
    rcases cu_imm0 4 c with c0 | ok1
    · exact hcut c0
    · have hk := h.next ok1
      have ho := (ands hr).2.2.2.2.2.1 hc
      obtain ⟨n, hn, hQ⟩ := hk.immC4 c
      refine ⟨⟨36, 0, 0, (nextF bs r).1 % 16, 4, n⟩, valid_fl (f := 28) rfl R15 R15 (m16 _) rfl rfl rfl rfl rfl ?_, small_i64 hn, ?_⟩
      · exact sized_j4 (.inr rfl) rfl hn
      · show Qb bs (15 :: byteOf (128 + (nextF bs r).1 % 16) :: _)
        rw [← ho]; exact hQ
  · exact fun c => hcut (cu_must c)
theorem insIn_wn {v : Int} (hv : 0 ≤ v ∧ v ≤ 255) (h : Pre bs r [byteOf v]) : Wn bs (insIn bs v r) := by
  have hA := ands hv
  unfold insIn
  split
  · rename_i hc
    intro c
    obtain ⟨m1, m2, m3⟩ := must_or (pre_ok h) (wr_pref c.2)
    rw [decide_eq_true_eq] at m2
    have hrx := split_rex (hA.1 hc m2)
    rw [m3] at c
    exact pref_wn (split_ok v) (by rw [hrx]; exact h) c
  split
  · rename_i _ hc
    rw [Bool.or_eq_true, decide_eq_true_eq, decide_eq_true_eq] at hc
    exact real_wn hc h
  split
  · rename_i _ _ hc
    have ho := hA.2.2.2.2.1 hc
    intro c
    have hQ := h.immC1 c
    refine ⟨⟨36, 0, 0, v % 16, 1, 0⟩, valid_fl (f := 28) rfl R15 R15 (m16 _) rfl rfl rfl rfl rfl rfl, I64_0, ?_⟩
    show Qb bs (byteOf (112 + v % 16) :: _)
    rw [← ho]; exact hQ
  split
  · rename_i _ _ _ hc
    intro c
    have hQ := h.immC1 c
    refine ⟨⟨35, 0, 0, 0, 1, 0⟩, rfl, I64_0, ?_⟩
    rw [hc] at hQ
    exact hQ
  split
  · rename_i _ _ _ _ hc
    intro c
    obtain ⟨n, hn, hQ⟩ := h.immC4 c
    refine ⟨⟨35, 0, 0, 0, 4, n⟩, valid_fl (f := 20) rfl R15 R15 R15 rfl rfl rfl rfl rfl ?_, small_i64 hn, ?_⟩
    · exact sized_j4 (.inl rfl) rfl hn
    · rw [hc] at hQ; exact hQ
  split
  · rename_i _ _ _ _ _ hc
    intro c
    obtain ⟨n, hn, hQ⟩ := h.immC4 c
    refine ⟨⟨37, 0, 0, 0, 0, n⟩, valid_fl (f := 4) rfl R15 R15 R15 rfl rfl rfl rfl rfl hn, small_i64 hn, ?_⟩
    rw [hc] at hQ; exact hQ
  split
  · exact fun c => (not_cu (pre_ok h) c).elim
  split
  · rename_i _ _ _ _ _ _ _ hc
    rw [hc] at h
    exact insTwo_wn h
  · exact Wn.no (pre_ok h)
theorem ins_wn (bs : List UInt8) : Wn bs (insR bs rd0) := by
  unfold insR
  split
  · intro c
    obtain rfl := (Pre.start bs).nextC c
    exact ⟨⟨40, 0, 0, 0, 0, 0⟩, rfl, I64_0, Qb.mk (l := [])⟩
  · rename_i hc
    have ok1 : Ok (nextF bs rd0).2 := ⟨by rwa [Bool.not_eq_true] at hc, next_keeps bs rd0⟩
    exact insIn_wn (next_range bs rd0) ((Pre.start bs).next ok1)
/-- What is cut is the beginning of one that may be. -/
theorem cut_ext {bs : List UInt8} (h : decE bs = 202) : ∃ i, validF i = true ∧ I64 i.imm ∧ Qb bs (encF i) := by
  unfold decE at h
  split at h
  · exact absurd h (by decide)
  · split at h
    · rename_i h1 h2
      rw [Bool.not_eq_true] at h1
      exact ins_wn bs ⟨h2, h1⟩
    · exact absurd h (by decide)
end
end Go.Proofs.YtjndpakhmgapjaaDoor

namespace Go.Proofs.YtjndpakhmgapjaaDoor
open Go Go.RowKit
set_option linter.unusedSimpArgs false
set_option linter.unusedVariables false
set_option linter.unnecessarySimpa false
def signF (l : List UInt8) : Int := sgn l.length (leNum l)
def gA (f : FormF) : Nat := if 0 < f.first then 1 else 0
def gB (f : FormF) : Nat := if f.rex = true then gA f + 1 else gA f
def gC (f : FormF) : Nat := gB f + f.op.length
def gX (f : FormF) (bs : List UInt8) : Int := if f.rex = true then byteAt bs (gA f) else 0
def gL (f : FormF) (bs : List UInt8) : Int := byteAt bs (gC f - 1)
def gM (f : FormF) (bs : List UInt8) : Int := byteAt bs (gC f)
def gUp0 (f : FormF) (bs : List UInt8) : Int := gX f bs / 4 % 2 * 8
def gBs0 (f : FormF) (bs : List UInt8) : Int := gX f bs % 2 * 8
def gUp (f : FormF) (bs : List UInt8) : Int := gUp0 f bs + gM f bs / 8 % 8
def gBs (f : FormF) (bs : List UInt8) : Int := gBs0 f bs + gM f bs % 8
def gCd (f : FormF) (bs : List UInt8) : Int := if f.cond = 4 then gL f bs % 16 else 0
def gD0 (f : FormF) (bs : List UInt8) : Int := if f.d = 3 then gBs0 f bs + gL f bs % 8 else 0
def gD1 (f : FormF) (bs : List UInt8) : Int := if f.d = 1 then gUp f bs else gD0 f bs
def gD2 (f : FormF) (bs : List UInt8) : Int := if f.d = 2 then gBs f bs else gD1 f bs
def gS1 (f : FormF) (bs : List UInt8) : Int := if f.s = 1 then gUp f bs else 0
def gS2 (f : FormF) (bs : List UInt8) : Int := if f.s = 2 then gBs f bs else gS1 f bs
def gE2 (f : FormF) (bs : List UInt8) : Nat := if (decide (f.mod = 2) && decide (gM f bs % 8 = 4)) = true then gC f + 1 + 1 else gC f + 1
def gDd (f : FormF) (bs : List UInt8) : Int := if 0 ≤ f.mod then gD2 f bs else gD0 f bs
def gSs (f : FormF) (bs : List UInt8) : Int := if 0 ≤ f.mod then gS2 f bs else 0
def gE (f : FormF) (bs : List UInt8) : Nat := if 0 ≤ f.mod then gE2 f bs else gC f
def part (bs : List UInt8) (a n : Nat) : List UInt8 := (List.range n).map fun k => bs.getD (a + k) 0
def gI (f : FormF) (bs : List UInt8) : Int := signF (part bs (gE f bs) (sizeR f.imm))
def guessF (f : FormF) (bs : List UInt8) : Ins := ⟨f.kind, gDd f bs, gSs f bs, gCd f bs, f.size, gI f bs⟩
def begF (b w : List UInt8) : Bool := decide (b.take w.length = w)
def pad (bs : List UInt8) : List UInt8 := bs ++ List.replicate (10 - bs.length) 1
def cutI (f : FormF) (bs : List UInt8) : Ins := if (decide (f.imm = 7) && smallF (guessF f bs).imm) = true then guessF f (pad bs) else guessF f bs
def cutF (f : FormF) (bs : List UInt8) : Bool := fitsF f (cutI f bs) && (begF (bytesF f (cutI f bs)) bs && decide (bs.length < (bytesF f (cutI f bs)).length))
def hitF (bs : List UInt8) (f : FormF) : Bool := fitsF f (guessF f bs) && begF bs (bytesF f (guessF f bs))
/-! ### numbers -/
theorem part_len (bs : List UInt8) (a n : Nat) : (part bs a n).length = n := by simp [part]
theorem leBytes_le : ∀ u : List UInt8, leBytes u.length (leNum u) = u
  | [] => rfl
  | b :: u => by
    have hb := u8_toNat b
    have ih := leBytes_le u
    rw [show leNum (b :: u) = (b.toNat : Int) + leNum u * 256 by rw [leNum, Int.mul_comm], List.length_cons, leBytes, Int.add_mul_emod_self_right, Int.add_mul_ediv_right _ _ (by decide), Int.ediv_eq_zero_of_lt hb.1 (by omega), Int.zero_add, ih]
    have e2 : UInt8.ofNat ((b.toNat : Int) % 256).toNat = b := byte_of b
    show UInt8.ofNat _ :: _ = _
    rw [e2]
theorem leNum_bytes : ∀ (k : Nat) (n : Int), leNum (leBytes k n) = n % 256 ^ k
  | 0, n => by show (0 : Int) = n % 1; rw [Int.emod_one]
  | k + 1, n => by
    have ih := leNum_bytes k (n / 256)
    have e : ((UInt8.ofNat (n % 256).toNat).toNat : Int) = n % 256 := by
      rw [UInt8.toNat_ofNat']
      omega
    have hp : (256 : Int) ^ (k + 1) = 256 * 256 ^ k := by rw [Int.pow_succ, Int.mul_comm]
    show ((UInt8.ofNat (n % 256).toNat).toNat : Int) + 256 * leNum (leBytes k (n / 256)) = _
    rw [e, ih, hp]
    have h1 := Int.emod_add_mul_ediv n 256
    have h2 := Int.emod_add_mul_ediv (n / 256) (256 ^ k)
    have hp0 : (0 : Int) < 256 ^ k := Int.pow_pos (by decide)
    have h3 := Int.emod_lt_of_pos (n / 256) hp0
    have h4 := Int.emod_nonneg (n / 256) (Int.ne_of_gt hp0)
    have h5 : n = (n % 256 + 256 * (n / 256 % 256 ^ k)) + (256 * 256 ^ k) * (n / 256 / 256 ^ k) := by
      have : n / 256 = n / 256 % 256 ^ k + 256 ^ k * (n / 256 / 256 ^ k) := h2.symm
      rw [Int.mul_assoc]
      omega
    rw [h5]
    rw [Int.add_mul_emod_self_left]
    have h6 := Int.emod_nonneg n (show (256 : Int) ≠ 0 by decide)
    have h7 := Int.emod_lt_of_pos n (show (0 : Int) < 256 by decide)
    have h8 : (n % 256 + 256 * (n / 256 % 256 ^ k)) % 256 = n % 256 := by omega
    have h9 : (n % 256 + 256 * (n / 256 % 256 ^ k)) / 256 = n / 256 % 256 ^ k := by omega
    rw [← h5]
    exact (Int.emod_eq_of_lt (by omega) (by omega)).symm
theorem leBytes_mod8 (k : Nat) (hk : k ≤ 8) (n : Int) : leBytes k (n % 18446744073709551616) = leBytes k n := by
  have h := leBytes_more k (n % 18446744073709551616) (18446744073709551616 / 256 ^ k * (n / 18446744073709551616))
  have hd : (18446744073709551616 : Int) / 256 ^ k * 256 ^ k = 18446744073709551616 := by
    have : k = 0 ∨ k = 1 ∨ k = 2 ∨ k = 3 ∨ k = 4 ∨ k = 5 ∨ k = 6 ∨ k = 7 ∨ k = 8 := by omega
    rcases this with e | e | e | e | e | e | e | e | e <;> rw [e] <;> decide
  rw [← h]
  congr 1
  rw [Int.mul_right_comm, hd]
  exact Int.emod_add_mul_ediv n _
theorem sgn_mod {k : Nat} (hk : k = 1 ∨ k = 4 ∨ k = 8) {n : Int} (h : -(256 ^ k) ≤ 2 * n ∧ 2 * n < 256 ^ k) : sgn k (n % 256 ^ k) = n := by
  unfold sgn
  rcases hk with e | e | e <;> rw [e] at h ⊢ <;> simp only [Int.reducePow, Int.reduceNeg] at h ⊢ <;> split <;> omega
theorem sign_le (u : List UInt8) (hu : u.length ≤ 8) : leBytes u.length (signF u % 18446744073709551616) = u := by
  rw [leBytes_mod8 _ hu]
  unfold signF
  rw [leBytes_sgn, leBytes_le]
theorem sign_range (u : List UInt8) (hu : u.length ≤ 8) : -(256 ^ u.length) ≤ 2 * signF u ∧ 2 * signF u < 256 ^ u.length := by
  have h := leNum_range u
  have hp : (0 : Int) < 256 ^ u.length := Int.pow_pos (by decide)
  unfold signF sgn
  split <;> omega
theorem sign_i64 (u : List UInt8) (hu : u.length ≤ 8) : I64 (signF u) := by
  have h := sign_range u hu
  have hp : (256 : Int) ^ u.length ≤ 18446744073709551616 := by
    have : u.length = 0 ∨ u.length = 1 ∨ u.length = 2 ∨ u.length = 3 ∨ u.length = 4 ∨ u.length = 5 ∨ u.length = 6 ∨ u.length = 7 ∨ u.length = 8 := by omega
    rcases this with e | e | e | e | e | e | e | e | e <;> rw [e] <;> decide
  unfold I64
  omega
theorem sign_zero (n : Nat) : signF (List.replicate n 0) = 0 := by
  have h : leNum (List.replicate n 0) = 0 := by
    induction n with
    | zero => rfl
    | succ n ih => rw [List.replicate_succ, leNum, ih]; rfl
  have hp : (0 : Int) < 256 ^ (List.replicate n (0 : UInt8)).length := Int.pow_pos (by decide)
  unfold signF sgn
  rw [h, if_pos (by omega)]
/-! ### forms -/
structure FormOk2 (f : FormF) : Prop where
  len : 1 ≤ f.op.length
  d : f.d = 0 ∨ f.d = 1 ∨ f.d = 2 ∨ f.d = 3
  s : f.s = 0 ∨ f.s = 1 ∨ f.s = 2
  ds : f.d = 0 ∨ ¬ f.d = f.s
  cond : f.cond = 0 ∨ f.cond = 4
  imm : f.imm = 0 ∨ f.imm = 5 ∨ f.imm = 6 ∨ f.imm = 7
  mod : f.mod = -1 ∧ (f.d = 0 ∨ f.d = 3) ∧ f.s = 0 ∨ (f.mod = 2 ∨ f.mod = 3) ∧ ¬ f.d = 3 ∧ f.rex = true ∧ (f.d = 2 ∨ f.s = 2)
  rex : f.rex = true ∨ f.d = 0 ∧ f.s = 0
  c4 : f.cond = 4 → f.op.getD (f.op.length - 1) 0 % 16 = 0 ∧ ¬ f.d = 3
  d3 : f.d = 3 → f.op.getD (f.op.length - 1) 0 % 8 = 0
  lo : f.op.getD (f.op.length - 1) 0 + (if f.cond = 4 then 15 else 0) + (if f.d = 3 then 7 else 0) ≤ 255
theorem forms_ok2 : ∀ f ∈ formsF, FormOk2 f := by
  have h : formsF.all (fun f => decide (1 ≤ f.op.length) && decide (f.d = 0 ∨ f.d = 1 ∨ f.d = 2 ∨ f.d = 3) && decide (f.s = 0 ∨ f.s = 1 ∨ f.s = 2) && decide (f.d = 0 ∨ ¬ f.d = f.s) && decide (f.cond = 0 ∨ f.cond = 4) && decide (f.imm = 0 ∨ f.imm = 5 ∨ f.imm = 6 ∨ f.imm = 7) && decide (f.mod = -1 ∧ (f.d = 0 ∨ f.d = 3) ∧ f.s = 0 ∨ (f.mod = 2 ∨ f.mod = 3) ∧ ¬ f.d = 3 ∧ f.rex = true ∧ (f.d = 2 ∨ f.s = 2)) && decide (f.rex = true ∨ f.d = 0 ∧ f.s = 0) && decide (f.cond = 4 → f.op.getD (f.op.length - 1) 0 % 16 = 0 ∧ ¬ f.d = 3) && decide (f.d = 3 → f.op.getD (f.op.length - 1) 0 % 8 = 0) && decide (f.op.getD (f.op.length - 1) 0 + (if f.cond = 4 then 15 else 0) + (if f.d = 3 then 7 else 0) ≤ 255)) = true := by decide +kernel
  intro f hf
  have := List.all_eq_true.1 h f hf
  simp only [Bool.and_eq_true, decide_eq_true_eq] at this
  obtain ⟨⟨⟨⟨⟨⟨⟨⟨⟨⟨a, b⟩, c⟩, d⟩, e⟩, g⟩, i⟩, j⟩, k⟩, l⟩, m⟩ := this
  exact ⟨a, b, c, d, e, g, i, j, k, l, m⟩
theorem byteOf_val {v : Int} (h : 0 ≤ v ∧ v ≤ 255) : ((byteOf v).toNat : Int) = v := by
  unfold byteOf
  rw [UInt8.toNat_ofNat']
  omega
theorem byteAt_app {a b : List UInt8} {k : Nat} (h : k < a.length) : byteAt (a ++ b) k = byteAt a k := by
  unfold byteAt
  rw [List.getD_eq_getElem?_getD, List.getD_eq_getElem?_getD, List.getElem?_append_left h]
theorem byteAt_out {a : List UInt8} {k : Nat} (h : a.length ≤ k) : byteAt a k = 0 := by
  unfold byteAt
  rw [List.getD_eq_getElem?_getD, List.getElem?_eq_none h]
  rfl
theorem byteAt_mid {a b : List UInt8} {c : UInt8} {k : Nat} (h : a.length = k) : byteAt (a ++ c :: b) k = (c.toNat : Int) := by
  unfold byteAt
  rw [List.getD_eq_getElem?_getD, List.getElem?_append_right (by omega), h, Nat.sub_self]
  rfl
section
variable {f : FormF} {i : Ins}
theorem r0_len (f : FormF) : (r0 f).length = gA f := by
  unfold r0 gA
  split <;> rfl
theorem r1_len (f : FormF) (i : Ins) : (r1 f i).length = gB f := by
  unfold r1 gB
  rw [List.length_append, r0_len]
  split <;> rfl
theorem r2_len (f : FormF) (i : Ins) (j : Nat) : (r2 f i j).length = gB f + j := by
  unfold r2
  rw [List.length_append, r1_len, List.length_map, List.length_range]
theorem bytes_r0 (f : FormF) (i : Ins) : ∃ t, bytesF f i = r0 f ++ t := by
  unfold bytesF r4 r3 r2 r1
  simp only [List.append_assoc]
  exact ⟨_, rfl⟩
theorem bytes_r1 (f : FormF) (i : Ins) : ∃ t, bytesF f i = r1 f i ++ t := by
  unfold bytesF r4 r3 r2
  simp only [List.append_assoc]
  exact ⟨_, rfl⟩
theorem bytes_r2 (f : FormF) (i : Ins) : bytesF f i = r2 f i f.op.length ++ ((if 0 ≤ f.mod then modB f i else []) ++ leBytes (sizeR f.imm) (i.imm % 18446744073709551616)) := by unfold bytesF r4 r3; simp only [List.append_assoc]
theorem r2_last (h : 1 ≤ f.op.length) : r2 f i f.op.length = r2 f i (f.op.length - 1) ++ [byteOf (opY f i (f.op.length - 1))] := by
  obtain ⟨n, hn⟩ : ∃ n, f.op.length = n + 1 := ⟨f.op.length - 1, by omega⟩
  rw [hn]
  show r2 f i (n + 1) = r2 f i n ++ [byteOf (opY f i n)]
  unfold r2
  rw [List.range_succ, List.map_append, List.append_assoc]
  rfl
/-- The parts of a form that hold fields. -/
structure Flds (f : FormF) (i : Ins) : Prop where
  d : (0 ≤ i.d ∧ i.d ≤ 15) ∧ (f.d = 0 → i.d = 0)
  s : (0 ≤ i.s ∧ i.s ≤ 15) ∧ (f.s = 0 → i.s = 0)
  c : (0 ≤ i.cond ∧ i.cond ≤ 15) ∧ (f.cond = 0 → i.cond = 0)
theorem field_zero {p n : Int} (h : fieldR p n = true) (hp : p = 0) : n = 0 := by
  unfold fieldR at h
  simp only [Bool.or_eq_true, Bool.and_eq_true, Bool.not_eq_true', decide_eq_true_eq, decide_eq_false_iff_not] at h
  omega
theorem field_of {p n : Int} (h : 0 ≤ n ∧ n ≤ 15) (h0 : p = 0 → n = 0) : fieldR p n = true := by
  unfold fieldR
  simp only [Bool.or_eq_true, Bool.and_eq_true, Bool.not_eq_true', decide_eq_true_eq, decide_eq_false_iff_not]
  by_cases hp : p = 0
  · exact .inl ⟨hp, h0 hp⟩
  · exact .inr ⟨⟨hp, h.1⟩, h.2⟩
theorem fits_flds (h : fitsF f i = true) : Flds f i := by
  have hr := fits_range h
  unfold fitsF at h
  simp only [Bool.and_eq_true] at h
  exact ⟨⟨hr.1, field_zero h.1.1.1.2⟩, ⟨hr.2.1, field_zero h.1.1.2⟩, ⟨hr.2.2, field_zero h.1.2⟩⟩
theorem up_range (h : Flds f i) : 0 ≤ upF f i ∧ upF f i ≤ 15 := at_range h.d.1 h.s.1 1
theorem base_range (h2 : FormOk2 f) (h : Flds f i) : 0 ≤ baseF f i ∧ baseF f i ≤ 15 := by
  have a := at_range (f := f) h.d.1 h.s.1 2
  have hm := h2.mod
  have hs := h2.s
  have b : atF f i 3 = 0 ∨ atF f i 2 = 0 := by
    unfold atF
    by_cases h3 : f.d = 3
    · right
      rw [if_neg (by omega), if_neg (by omega)]
    · left
      rw [if_neg h3, if_neg (by omega)]
  have c := at_range (f := f) h.d.1 h.s.1 3
  unfold baseF
  omega
def rexV (f : FormF) (i : Ins) : Int := 64 + 8 * f.w + 4 * (upF f i / 8) + baseF f i / 8
theorem rexV_range (h1 : FormOk f) (h2 : FormOk2 f) (h : Flds f i) : 0 ≤ rexV f i ∧ rexV f i ≤ 255 ∧ rexV f i / 4 % 2 = upF f i / 8 ∧ rexV f i % 2 = baseF f i / 8 := by
  have a := up_range h
  have b := base_range h2 h
  have c := h1.w
  unfold rexV
  omega
theorem at_rex (hr : f.rex = true) (t : List UInt8) : byteAt (r1 f i ++ t) (gA f) = ((byteOf (rexV f i)).toNat : Int) := by
  unfold r1
  rw [if_pos hr, List.append_assoc]
  exact byteAt_mid (r0_len f)
theorem opY_last (f : FormF) (i : Ins) : opY f i (f.op.length - 1) = f.op.getD (f.op.length - 1) 0 + (if f.cond = 4 then i.cond else 0) + (if f.d = 3 then i.d % 8 else 0) ∨ f.op.length = 0 := by
  rcases Nat.eq_zero_or_pos f.op.length with h | h
  · exact .inr h
  · left
    have e : (decide (((f.op.length - 1 : Nat) : Int) = (f.op.length : Int) - 1)) = true := by rw [decide_eq_true_eq]; omega
    unfold opY opX
    rw [e]
    simp only [Bool.true_and, decide_eq_true_eq]
def lastV (f : FormF) (i : Ins) : Int := f.op.getD (f.op.length - 1) 0 + (if f.cond = 4 then i.cond else 0) + (if f.d = 3 then i.d % 8 else 0)
theorem lastV_range (h1 : FormOk f) (h2 : FormOk2 f) (h : Flds f i) : 0 ≤ lastV f i ∧ lastV f i ≤ 255 ∧ (f.cond = 4 → lastV f i % 16 = i.cond) ∧ (f.d = 3 → lastV f i % 8 = i.d % 8) := by
  have ho := h1.op (f.op.getD (f.op.length - 1) 0) (by have := h2.len; simp [show f.op.length - 1 < f.op.length by omega])
  have hc := h.c.1
  have hlo := h2.lo
  have hc4 := h2.c4
  have hd3 := h2.d3
  unfold lastV
  have hd := h.d.1
  by_cases e1 : f.cond = 4
  · obtain ⟨hc4, hnd⟩ := hc4 e1
    rw [if_pos e1, if_neg hnd] at hlo ⊢
    exact ⟨by omega, by omega, fun _ => by omega, fun q => absurd q hnd⟩
  · by_cases e2 : f.d = 3
    · have hd3 := hd3 e2
      rw [if_neg e1, if_pos e2] at hlo ⊢
      exact ⟨by omega, by omega, fun q => absurd q e1, fun _ => by omega⟩
    · rw [if_neg e1, if_neg e2] at hlo ⊢
      exact ⟨by omega, by omega, fun q => absurd q e1, fun q => absurd q e2⟩
theorem at_last (h2 : FormOk2 f) (t : List UInt8) : byteAt (r2 f i f.op.length ++ t) (gC f - 1) = ((byteOf (lastV f i)).toNat : Int) := by
  have hl := h2.len
  have e := (opY_last f i).resolve_right (by omega)
  rw [r2_last hl, List.append_assoc, e]
  refine byteAt_mid ?_
  rw [r2_len]
  unfold gC
  omega
def modV (f : FormF) (i : Ins) : Int := 64 * f.mod + 8 * regX f i + baseF f i % 8
theorem modV_range (h1 : FormOk f) (h2 : FormOk2 f) (h : Flds f i) (hm : 0 ≤ f.mod) : 0 ≤ modV f i ∧ modV f i ≤ 255 ∧ modV f i / 8 % 8 = regX f i ∧ modV f i % 8 = baseF f i % 8 := by
  have a := up_range h
  have c := h1.mod
  have d := h1.digit
  have hr : 0 ≤ regX f i ∧ regX f i ≤ 7 := by
    unfold regX
    split <;> omega
  unfold modV
  omega
theorem at_mod (hm : 0 ≤ f.mod) (t : List UInt8) : byteAt (r2 f i f.op.length ++ ((if 0 ≤ f.mod then modB f i else []) ++ t)) (gC f) = ((byteOf (modV f i)).toNat : Int) := by
  rw [if_pos hm]
  unfold modB
  rw [List.cons_append]
  exact byteAt_mid (r2_len f i _)
/-- What reading gives where the parts with fields are read. -/
structure Reads (f : FormF) (i : Ins) (bs : List UInt8) : Prop where
  x : f.rex = true → byteAt bs (gA f) = rexV f i
  l : byteAt bs (gC f - 1) = lastV f i
  m : 0 ≤ f.mod → byteAt bs (gC f) = modV f i
theorem gX_parts (h1 : FormOk f) (h2 : FormOk2 f) (h : Flds f i) {bs : List UInt8} (hx : f.rex = true → byteAt bs (gA f) = rexV f i) : gUp0 f bs = upF f i / 8 * 8 ∧ gBs0 f bs = baseF f i / 8 * 8 := by
  obtain ⟨_, _, r1, r2⟩ := rexV_range h1 h2 h
  unfold gUp0 gBs0 gX
  by_cases hr : f.rex = true
  · rw [if_pos hr, hx hr, r1, r2]
    exact ⟨rfl, rfl⟩
  · have hz := h2.rex.resolve_left hr
    have e1 : upF f i = 0 := by
      unfold upF atF
      rw [if_neg (by omega), if_neg (by omega)]
    have e2 : baseF f i = 0 := by
      unfold baseF atF
      rw [if_neg (by omega), if_neg (by omega), if_neg (by omega), if_neg (by omega)]
      rfl
    rw [if_neg hr, e1, e2]
    exact ⟨rfl, rfl⟩
theorem flds_read (h1 : FormOk f) (h2 : FormOk2 f) (h : Flds f i) {bs : List UInt8} (hr : Reads f i bs) : gDd f bs = i.d ∧ gSs f bs = i.s ∧ gCd f bs = i.cond ∧ gE f bs = gC f + (if 0 ≤ f.mod then (modB f i).length else 0) := by
  obtain ⟨u0, b0⟩ := gX_parts h1 h2 h hr.x
  obtain ⟨_, _, lc, ld⟩ := lastV_range h1 h2 h
  have hl : gL f bs = lastV f i := hr.l
  have hcond : gCd f bs = i.cond := by
    unfold gCd
    split
    · rename_i e
      rw [hl, lc e]
    · exact (h.c.2 (h2.cond.resolve_right (by assumption))).symm
  by_cases hm : 0 ≤ f.mod
  · have hmod : (f.mod = 2 ∨ f.mod = 3) ∧ ¬ f.d = 3 ∧ f.rex = true ∧ (f.d = 2 ∨ f.s = 2) := by
      rcases h2.mod with q | q
      · omega
      · exact q
    obtain ⟨hmm, hd3, hrex, h22⟩ := hmod
    obtain ⟨_, _, m1, m2⟩ := modV_range h1 h2 h hm
    have hM : gM f bs = modV f i := hr.m hm
    have hup : f.d = 1 ∨ f.s = 1 → gUp f bs = upF f i := by
      intro q
      have e : regX f i = upF f i % 8 := by
        unfold regX
        rw [if_neg]
        rw [Bool.and_eq_true, Bool.not_eq_true', Bool.not_eq_true', decide_eq_false_iff_not, decide_eq_false_iff_not]
        omega
      unfold gUp
      rw [u0, hM, m1, e]
      omega
    have hbs : gBs f bs = baseF f i := by
      unfold gBs
      rw [b0, hM, m2]
      omega
    have hu1 : f.d = 1 → upF f i = i.d := fun q => by unfold upF atF; rw [if_pos q]
    have hu2 : f.s = 1 → upF f i = i.s := fun q => by
      have := h2.ds
      unfold upF atF; rw [if_neg (by omega), if_pos q]
    have hb3 : atF f i 3 = 0 := by
      have := h2.s
      unfold atF; rw [if_neg hd3, if_neg (by omega)]
    have hb1 : f.d = 2 → baseF f i = i.d := fun q => by unfold baseF; rw [hb3]; unfold atF; rw [if_pos q]; omega
    have hb2 : f.s = 2 → baseF f i = i.s := fun q => by
      have := h2.ds
      unfold baseF; rw [hb3]; unfold atF; rw [if_neg (by omega), if_pos q]; omega
    refine ⟨?_, ?_, hcond, ?_⟩
    · unfold gDd gD2 gD1 gD0
      rw [if_pos hm]
      split
      · rename_i q; rw [hbs, hb1 q]
      split
      · rename_i _ q; rw [hup (.inl q), hu1 q]
      try rw [if_neg hd3]
      exact (h.d.2 (by have := h2.d; omega)).symm
    · unfold gSs gS2 gS1
      rw [if_pos hm]
      split
      · rename_i q; rw [hbs, hb2 q]
      split
      · rename_i _ q; rw [hup (.inr q), hu2 q]
      exact (h.s.2 (by have := h2.s; omega)).symm
    · unfold gE gE2 modB
      rw [if_pos hm, if_pos hm, hM, m2]
      split <;> rfl
  · have hmod : f.mod = -1 ∧ (f.d = 0 ∨ f.d = 3) ∧ f.s = 0 := by
      rcases h2.mod with q | q
      · exact q
      · omega
    refine ⟨?_, ?_, hcond, ?_⟩
    · unfold gDd gD0
      rw [if_neg hm]
      split
      · rename_i q
        have hb : baseF f i = i.d := by
          unfold baseF atF
          rw [if_neg (by omega), if_neg (by omega), if_pos q]
          omega
        have hd := h.d.1
        rw [b0, hl, ld q, hb]
        omega
      · exact (h.d.2 (by omega)).symm
    · unfold gSs
      rw [if_neg hm]
      exact (h.s.2 hmod.2.2).symm
    · unfold gE
      rw [if_neg hm, if_neg hm]
      rfl
theorem r3_len (f : FormF) (i : Ins) : (r3 f i).length = gC f + (if 0 ≤ f.mod then (modB f i).length else 0) := by
  unfold r3 gC
  rw [List.length_append, r2_len]
  split <;> rfl
/-- All parts with fields are read. -/
theorem reads_all (h1 : FormOk f) (h2 : FormOk2 f) (h : Flds f i) {bs t : List UInt8} (hb : bs = r3 f i ++ t) : Reads f i bs := by
  have e : bs = r2 f i f.op.length ++ ((if 0 ≤ f.mod then modB f i else []) ++ t) := by rw [hb]; unfold r3; rw [List.append_assoc]
  refine ⟨fun hr => ?_, ?_, fun hm => ?_⟩
  · have e1 : bs = r1 f i ++ ((List.range f.op.length).map (fun k => byteOf (opY f i k)) ++ ((if 0 ≤ f.mod then modB f i else []) ++ t)) := by rw [e]; unfold r2; rw [List.append_assoc]
    obtain ⟨a, b, _⟩ := rexV_range h1 h2 h
    rw [e1, at_rex hr, byteOf_val ⟨a, b⟩]
  · obtain ⟨a, b, _⟩ := lastV_range h1 h2 h
    rw [e, at_last h2, byteOf_val ⟨a, b⟩]
  · obtain ⟨a, b, _⟩ := modV_range h1 h2 h hm
    rw [e, at_mod hm, byteOf_val ⟨a, b⟩]
theorem r3_eq {j : Ins} (hd : j.d = i.d) (hs : j.s = i.s) (hc : j.cond = i.cond) : r3 f j = r3 f i := by
  unfold r3 r2 r1 modB opY opX regX upF baseF atF
  rw [hd, hs, hc]
theorem part_eq {pre l t : List UInt8} {a n : Nat} (ha : pre.length = a) (hn : l.length = n) : part (pre ++ (l ++ t)) a n = l := by
  apply List.ext_getElem?
  intro k
  unfold part
  rw [List.getElem?_map]
  rcases Nat.lt_or_ge k n with hk | hk
  · rw [List.getElem?_range hk, Option.map_some, List.getD_eq_getElem?_getD, List.getElem?_append_right (by omega), ha, Nat.add_sub_cancel_left, List.getElem?_append_left (by omega), List.getElem?_eq_getElem (by omega)]
    rfl
  · rw [List.getElem?_eq_none (by rw [List.length_range]; exact hk), List.getElem?_eq_none (by omega)]
    rfl
theorem fits_imm (h2 : FormOk2 f) (h : fitsF f i = true) (hI : I64 i.imm) : signF (leBytes (sizeR f.imm) (i.imm % 18446744073709551616)) = i.imm := by
  unfold fitsF at h
  simp only [Bool.and_eq_true] at h
  have hn := h.2
  unfold I64 at hI
  have hcore : sizeR f.imm = 1 ∨ sizeR f.imm = 4 ∨ sizeR f.imm = 8 → (-(256 ^ sizeR f.imm) ≤ 2 * i.imm ∧ 2 * i.imm < 256 ^ sizeR f.imm) → signF (leBytes (sizeR f.imm) (i.imm % 18446744073709551616)) = i.imm := by
    intro hk hb
    rw [leBytes_mod8 _ (by omega)]
    unfold signF
    rw [leBytes_length, leNum_bytes]
    exact sgn_mod hk hb
  rcases h2.imm with e | e | e | e
  · rw [numberR, if_pos e, decide_eq_true_eq] at hn
    rw [hn, e]
    rfl
  · rw [numberR, if_neg (by omega), if_pos e] at hn
    have hs : sizeR f.imm = 1 := by rw [e]; rfl
    refine hcore (.inl hs) ?_
    rw [hs]
    split at hn <;> unfold inF at hn <;> rw [Bool.and_eq_true, decide_eq_true_eq, decide_eq_true_eq] at hn <;> simp only [Int.reducePow] <;> omega
  · rw [numberR, if_neg (by omega), if_neg (by omega), if_pos e] at hn
    have hs : sizeR f.imm = 4 := by rw [e]; rfl
    refine hcore (.inr (.inl hs)) ?_
    rw [hs]
    unfold smallF inF at hn; rw [Bool.and_eq_true, decide_eq_true_eq, decide_eq_true_eq] at hn; simp only [Int.reducePow]; omega
  · have hs : sizeR f.imm = 8 := by rw [e]; rfl
    refine hcore (.inr (.inr hs)) ?_
    rw [hs]
    simp only [Int.reducePow]; omega
theorem fits_ks (h : fitsF f i = true) : f.kind = i.kind ∧ f.size = i.size := by
  unfold fitsF at h
  simp only [Bool.and_eq_true, decide_eq_true_eq] at h
  exact ⟨h.1.1.1.1.1, h.1.1.1.1.2⟩
/-- WHAT A FORM LAYS IS GUESSED AGAIN. -/
theorem guess_bytes (h1 : FormOk f) (h2 : FormOk2 f) (h : fitsF f i = true) (hI : I64 i.imm) (t : List UInt8) : guessF f (bytesF f i ++ t) = i := by
  have hF := fits_flds h
  have hb : bytesF f i ++ t = r3 f i ++ (leBytes (sizeR f.imm) (i.imm % 18446744073709551616) ++ t) := by unfold bytesF r4; rw [List.append_assoc]
  obtain ⟨a, b, c, d⟩ := flds_read h1 h2 hF (reads_all h1 h2 hF hb)
  obtain ⟨k1, k2⟩ := fits_ks h
  have hg : gI f (bytesF f i ++ t) = i.imm := by
    unfold gI
    rw [d, hb, part_eq (r3_len f i) (leBytes_length _ _)]
    exact fits_imm h2 h hI
  unfold guessF
  rw [a, b, c, k1, k2, hg]
end
end Go.Proofs.YtjndpakhmgapjaaDoor

namespace Go.Proofs.YtjndpakhmgapjaaDoor
open Go Go.RowKit
set_option linter.unusedSimpArgs false
set_option linter.unusedVariables false
set_option linter.unnecessarySimpa false
theorem byteAt_range' (bs : List UInt8) (k : Nat) : 0 ≤ byteAt bs k ∧ byteAt bs k ≤ 255 := u8_toNat _
section
variable {f : FormF} {i : Ins}
theorem guess_flds (h2 : FormOk2 f) (bs : List UInt8) : Flds f (guessF f bs) := by
  have hx : 0 ≤ gUp0 f bs ∧ gUp0 f bs ≤ 8 := by
    have : 0 ≤ gX f bs / 4 % 2 ∧ gX f bs / 4 % 2 ≤ 1 := by omega
    unfold gUp0; omega
  have hb : 0 ≤ gBs0 f bs ∧ gBs0 f bs ≤ 8 := by unfold gBs0; omega
  have hu : 0 ≤ gUp f bs ∧ gUp f bs ≤ 15 := by unfold gUp; omega
  have hB : 0 ≤ gBs f bs ∧ gBs f bs ≤ 15 := by unfold gBs; omega
  have h0 : (0 ≤ gD0 f bs ∧ gD0 f bs ≤ 15) ∧ (f.d = 0 → gD0 f bs = 0) := by
    unfold gD0
    split
    · exact ⟨by omega, fun q => by omega⟩
    · exact ⟨by omega, fun _ => rfl⟩
  refine ⟨?_, ?_, ?_⟩
  · show (0 ≤ gDd f bs ∧ gDd f bs ≤ 15) ∧ (f.d = 0 → gDd f bs = 0)
    unfold gDd gD2 gD1
    split
    · split
      · exact ⟨hB, fun q => by omega⟩
      split
      · exact ⟨hu, fun q => by omega⟩
      · exact h0
    · exact h0
  · show (0 ≤ gSs f bs ∧ gSs f bs ≤ 15) ∧ (f.s = 0 → gSs f bs = 0)
    unfold gSs gS2 gS1
    split
    · split
      · exact ⟨hB, fun q => by omega⟩
      split
      · exact ⟨hu, fun q => by omega⟩
      · exact ⟨by omega, fun _ => rfl⟩
    · exact ⟨by omega, fun _ => rfl⟩
  · show (0 ≤ gCd f bs ∧ gCd f bs ≤ 15) ∧ (f.cond = 0 → gCd f bs = 0)
    unfold gCd
    split
    · exact ⟨by omega, fun q => by omega⟩
    · exact ⟨by omega, fun _ => rfl⟩
/-- The high bits come back. -/
theorem high_same (h1 : FormOk f) (h2 : FormOk2 f) (h : Flds f i) {bs : List UInt8} (hx : f.rex = true → byteAt bs (gA f) = rexV f i) : upF f (guessF f bs) / 8 = upF f i / 8 ∧ baseF f (guessF f bs) / 8 = baseF f i / 8 := by
  obtain ⟨u0, b0⟩ := gX_parts h1 h2 h hx
  have hur := up_range h
  have hbr := base_range h2 h
  have hd := h2.d
  have hs := h2.s
  have hds := h2.ds
  have eU : gUp f bs / 8 = upF f i / 8 := by unfold gUp; rw [u0]; omega
  have eB : gBs f bs / 8 = baseF f i / 8 := by unfold gBs; rw [b0]; omega
  have eL : (gBs0 f bs + gL f bs % 8) / 8 = baseF f i / 8 := by rw [b0]; omega
  by_cases hm : 0 ≤ f.mod
  · have hmod : (f.mod = 2 ∨ f.mod = 3) ∧ ¬ f.d = 3 ∧ f.rex = true ∧ (f.d = 2 ∨ f.s = 2) := by
      rcases h2.mod with q | q
      · omega
      · exact q
    obtain ⟨hmm, hd3, hrex, h22⟩ := hmod
    have ed : (guessF f bs).d = gD2 f bs := by show gDd f bs = _; unfold gDd; rw [if_pos hm]
    have es : (guessF f bs).s = gS2 f bs := by show gSs f bs = _; unfold gSs; rw [if_pos hm]
    constructor
    · unfold upF atF
      by_cases q : f.d = 1
      · have hu1 : upF f i = i.d := by unfold upF atF; rw [if_pos q]
        rw [if_pos q, if_pos q, ed, gD2, if_neg (by omega), gD1, if_pos q, eU, hu1]
      · rw [if_neg q, if_neg q]
        by_cases q2 : f.s = 1
        · have hu2 : upF f i = i.s := by unfold upF atF; rw [if_neg q, if_pos q2]
          rw [if_pos q2, if_pos q2, es, gS2, if_neg (by omega), gS1, if_pos q2, eU, hu2]
        · rw [if_neg q2, if_neg q2]
    · have hb3 : ∀ j : Ins, atF f j 3 = 0 := fun j => by unfold atF; rw [if_neg hd3, if_neg (by omega)]
      unfold baseF at eB ⊢
      rw [hb3, hb3] at *
      rw [Int.add_zero] at eB
      rw [Int.add_zero, Int.add_zero]
      unfold atF at eB ⊢
      by_cases q : f.d = 2
      · rw [if_pos q] at eB
        rw [if_pos q, if_pos q, ed, gD2, if_pos q, eB]
      · have q2 : f.s = 2 := h22.resolve_left q
        rw [if_neg q, if_pos q2] at eB
        rw [if_neg q, if_neg q, if_pos q2, if_pos q2, es, gS2, if_pos q2, eB]
  · have hmod : f.mod = -1 ∧ (f.d = 0 ∨ f.d = 3) ∧ f.s = 0 := by
      rcases h2.mod with q | q
      · exact q
      · omega
    have ed : (guessF f bs).d = gD0 f bs := by show gDd f bs = _; unfold gDd; rw [if_neg hm]
    constructor
    · unfold upF atF
      rw [if_neg (by omega), if_neg (by omega), if_neg (by omega), if_neg (by omega)]
    · have hbase : ∀ j : Ins, baseF f j = (if f.d = 3 then j.d else 0) := fun j => by
        unfold baseF atF
        rw [if_neg (show ¬ f.d = 2 by omega), if_neg (show ¬ f.s = 2 by omega), Int.zero_add, if_neg (show ¬ f.s = 3 by omega)]
      rw [hbase] at eL ⊢
      rw [hbase]
      by_cases q : f.d = 3
      · rw [if_pos q] at eL ⊢
        rw [if_pos q, ed, gD0, if_pos q]
        exact eL
      · rw [if_neg q, if_neg q]
theorem r1_same (h1 : FormOk f) (h2 : FormOk2 f) (h : Flds f i) {bs : List UInt8} (hx : f.rex = true → byteAt bs (gA f) = rexV f i) : r1 f (guessF f bs) = r1 f i := by
  obtain ⟨a, b⟩ := high_same h1 h2 h hx
  unfold r1
  rw [a, b]
theorem opY_low (f : FormF) (i : Ins) {k : Nat} (hk : k + 1 < f.op.length) : opY f i k = f.op.getD k 0 := by
  have e : decide ((k : Int) = (f.op.length : Int) - 1) = false := by rw [decide_eq_false_iff_not]; omega
  unfold opY opX
  rw [e]
  simp
theorem ops_low (f : FormF) (i j : Ins) {n : Nat} (hn : n + 1 ≤ f.op.length) : (List.range n).map (fun k => byteOf (opY f i k)) = (List.range n).map (fun k => byteOf (opY f j k)) := by
  apply List.map_congr_left
  intro k hk
  rw [List.mem_range] at hk
  rw [opY_low f i (by omega), opY_low f j (by omega)]
theorem last_same (h1 : FormOk f) (h2 : FormOk2 f) (h : Flds f i) {bs : List UInt8} (hl : byteAt bs (gC f - 1) = lastV f i) : lastV f (guessF f bs) = lastV f i := by
  obtain ⟨_, _, lc, ld⟩ := lastV_range h1 h2 h
  have hL : gL f bs = lastV f i := hl
  have hb8 : gBs0 f bs % 8 = 0 := by unfold gBs0; omega
  have ec : (if f.cond = 4 then (guessF f bs).cond else 0) = (if f.cond = 4 then i.cond else 0) := by
    split
    · rename_i q
      show gCd f bs = i.cond
      unfold gCd
      rw [if_pos q, hL, lc q]
    · rfl
  have ed : (if f.d = 3 then (guessF f bs).d % 8 else 0) = (if f.d = 3 then i.d % 8 else 0) := by
    split
    · rename_i q
      have hmod : ¬ 0 ≤ f.mod := by
        rcases h2.mod with q2 | q2
        · omega
        · exact fun _ => q2.2.1 q
      have e1 : (guessF f bs).d = gBs0 f bs + gL f bs % 8 := by show gDd f bs = _; unfold gDd gD0; rw [if_neg hmod, if_pos q]
      have := ld q
      rw [e1, hL]
      omega
    · rfl
  unfold lastV
  rw [ec, ed]
theorem r2_same (h1 : FormOk f) (h2 : FormOk2 f) (h : Flds f i) {bs : List UInt8} (hx : f.rex = true → byteAt bs (gA f) = rexV f i) (hl : byteAt bs (gC f - 1) = lastV f i) : r2 f (guessF f bs) f.op.length = r2 f i f.op.length := by
  have hlen := h2.len
  rw [r2_last hlen, r2_last hlen, (opY_last f (guessF f bs)).resolve_right (by omega), (opY_last f i).resolve_right (by omega)]
  show r2 f (guessF f bs) (f.op.length - 1) ++ [byteOf (lastV f (guessF f bs))] = r2 f i (f.op.length - 1) ++ [byteOf (lastV f i)]
  rw [last_same h1 h2 h hl]
  unfold r2
  rw [r1_same h1 h2 h hx, ops_low f (guessF f bs) i (by omega)]
/-- Beginnings. -/
def Bg (b w : List UInt8) : Prop := ∃ t, b ++ t = w
theorem Bg.len {b w : List UInt8} (h : Bg b w) : b.length ≤ w.length := by
  obtain ⟨t, rfl⟩ := h
  simp
theorem Bg.both {b c w : List UInt8} (h1 : Bg b w) (h2 : Bg c w) (hl : b.length ≤ c.length) : Bg b c := by
  obtain ⟨t, rfl⟩ := h1
  obtain ⟨u, e⟩ := h2
  refine ⟨c.drop b.length, ?_⟩
  have h3 := congrArg (List.take b.length) e
  rw [List.take_left, List.take_append_of_le_length hl] at h3
  have e2 := List.take_append_drop b.length c
  rwa [h3] at e2
theorem Bg.trans {b c w : List UInt8} (h1 : Bg b c) (h2 : Bg c w) : Bg b w := by
  obtain ⟨t, rfl⟩ := h1
  obtain ⟨u, rfl⟩ := h2
  exact ⟨t ++ u, by rw [List.append_assoc]⟩
theorem Bg.beg {b w : List UInt8} (h : Bg b w) : begF w b = true := by
  obtain ⟨t, rfl⟩ := h
  rw [begF, List.take_left, decide_eq_true_eq]
theorem beg_Bg {b w : List UInt8} (h : begF w b = true) : Bg b w := by
  rw [begF, decide_eq_true_eq] at h
  refine ⟨w.drop b.length, ?_⟩
  have e := List.take_append_drop b.length w
  rwa [h] at e
theorem at_beg {b w z : List UInt8} (h : Bg b w) {k : Nat} (hk : k < b.length) : byteAt (b ++ z) k = byteAt w k := by
  obtain ⟨t, rfl⟩ := h
  rw [byteAt_app hk, byteAt_app hk]
theorem part_pad {pre l b z : List UInt8} {n : Nat} (hb : Bg b (pre ++ l)) (hp : pre.length ≤ b.length) (hn : n = l.length) : ∃ u, u.length = n ∧ part (b ++ z) pre.length n = u ∧ Bg (b.drop pre.length) u := by
  obtain ⟨t, e⟩ := hb
  have hlb : b.length + t.length = pre.length + n := by have := congrArg List.length e; rw [List.length_append, List.length_append] at this; omega
  refine ⟨_, part_len _ _ _, rfl, (part (b ++ z) pre.length n).drop (b.length - pre.length), ?_⟩
  conv => rhs; rw [← List.take_append_drop (b.length - pre.length) (part (b ++ z) pre.length n)]
  congr 1
  apply List.ext_getElem?
  intro k
  rw [List.getElem?_drop, List.getElem?_take]
  unfold part
  rw [List.getElem?_map]
  split
  · rename_i hk
    rw [List.getElem?_range (by omega), Option.map_some, List.getD_eq_getElem?_getD, List.getElem?_append_left (by omega), List.getElem?_eq_getElem (by omega)]
    rfl
  · rw [List.getElem?_eq_none (by omega)]
theorem imm_zero {bs : List UInt8} {a n : Nat} (h : bs.length ≤ a) : part bs a n = List.replicate n 0 := by
  apply List.ext_getElem?
  intro k
  unfold part
  rw [List.getElem?_map, List.getElem?_replicate]
  split
  · rename_i hk
    rw [List.getElem?_range hk, Option.map_some, List.getD_eq_getElem?_getD, List.getElem?_eq_none (by omega)]
    rfl
  · rename_i hk
    rw [List.getElem?_eq_none (by rw [List.length_range]; omega)]
    rfl
theorem bytes_len (f : FormF) (i : Ins) : (bytesF f i).length = gC f + (if 0 ≤ f.mod then (modB f i).length else 0) + sizeR f.imm := by
  unfold bytesF r4
  rw [List.length_append, r3_len, leBytes_length]
theorem modB_len (f : FormF) (i : Ins) : 1 ≤ (modB f i).length ∧ (modB f i).length ≤ 2 := by
  unfold modB
  split <;> simp
/-- WHATEVER STANDS BEHIND what is read: the guess begins with what is read, and goes on. -/
theorem guess_on (h1 : FormOk f) (h2 : FormOk2 f) (h : Flds f i) {b : List UInt8} (hb : Bg b (bytesF f i)) (hlt : b.length < (bytesF f i).length) (z : List UInt8) : Bg b (bytesF f (guessF f (b ++ z))) ∧ b.length < (bytesF f (guessF f (b ++ z))).length := by
  have hlen := h2.len
  have hCB : gC f = gB f + f.op.length := rfl
  have hBA : gB f = if f.rex = true then gA f + 1 else gA f := rfl
  have hll := bytes_len f i
  have hlg := bytes_len f (guessF f (b ++ z))
  obtain ⟨x0, hx0⟩ := bytes_r1 f i
  have hrx : f.rex = true → gA f < b.length → byteAt (b ++ z) (gA f) = rexV f i := by
    intro hr hk
    obtain ⟨a, c, _⟩ := rexV_range h1 h2 h
    rw [at_beg hb hk, hx0, at_rex hr, byteOf_val ⟨a, c⟩]
  have hR2 : Bg (r2 f i f.op.length) (bytesF f i) := ⟨_, (bytes_r2 f i).symm⟩
  have hG2 : ∀ j, Bg (r2 f j f.op.length) (bytesF f j) := fun j => ⟨_, (bytes_r2 f j).symm⟩
  rcases Nat.lt_or_ge (gA f) b.length with hA | hA
  · -- the REX byte is read
    have hrx2 : f.rex = true → byteAt (b ++ z) (gA f) = rexV f i := fun hr => hrx hr hA
    rcases Nat.lt_or_ge b.length (gC f) with hC | hC
    · refine ⟨?_, by omega⟩
      have e : r2 f (guessF f (b ++ z)) (f.op.length - 1) = r2 f i (f.op.length - 1) := by
        unfold r2
        rw [r1_same h1 h2 h hrx2, ops_low f (guessF f (b ++ z)) i (by omega)]
      have hs : ∀ j, Bg (r2 f j (f.op.length - 1)) (bytesF f j) := fun j => Bg.trans ⟨[byteOf (opY f j (f.op.length - 1))], (r2_last hlen).symm⟩ (hG2 j)
      have hb2 : Bg b (r2 f i (f.op.length - 1)) := hb.both (hs i) (by rw [r2_len]; omega)
      rw [← e] at hb2
      exact hb2.trans (hs _)
    · have hl : byteAt (b ++ z) (gC f - 1) = lastV f i := by
        obtain ⟨a, c, _⟩ := lastV_range h1 h2 h
        rw [at_beg hb (by omega), bytes_r2, at_last h2, byteOf_val ⟨a, c⟩]
      have e2 := r2_same h1 h2 h hrx2 hl
      rcases Nat.lt_or_ge (gC f) b.length with hM | hM
      · -- ModRM too, or an immediate
        have hR : Reads f i (b ++ z) := by
          refine ⟨hrx2, hl, fun hm => ?_⟩
          obtain ⟨a, c, _⟩ := modV_range h1 h2 h hm
          rw [at_beg hb hM, bytes_r2, at_mod hm, byteOf_val ⟨a, c⟩]
        obtain ⟨e3, e4, e5, e6⟩ := flds_read h1 h2 h hR
        have e7 : r3 f (guessF f (b ++ z)) = r3 f i := r3_eq e3 e4 e5
        have hmb : (if 0 ≤ f.mod then (modB f (guessF f (b ++ z))).length else 0) = (if 0 ≤ f.mod then (modB f i).length else 0) := by
          have := congrArg List.length e7
          rw [r3_len, r3_len] at this
          omega
        refine ⟨?_, by rw [hlg, hmb, ← hll]; exact hlt⟩
        have hs : ∀ j, Bg (r3 f j) (bytesF f j) := fun j => ⟨_, rfl⟩
        rcases Nat.lt_or_ge b.length (r3 f i).length with h3 | h3
        · have hb2 := hb.both (hs i) (by omega)
          rw [← e7] at hb2
          exact hb2.trans (hs _)
        · have hsz := sizeR_le f.imm
          obtain ⟨u, hu1, hu2, hu3⟩ := part_pad (z := z) (show Bg b (r3 f i ++ leBytes (sizeR f.imm) (i.imm % 18446744073709551616)) from hb) h3 (leBytes_length _ _).symm
          have hI : (guessF f (b ++ z)).imm = signF u := by
            show gI f (b ++ z) = _
            unfold gI
            rw [e6, ← r3_len, hu2]
          have hle : leBytes (sizeR f.imm) (signF u % 18446744073709551616) = u := by
            have := sign_le u (by omega)
            rwa [hu1] at this
          have hbb : bytesF f (guessF f (b ++ z)) = r3 f i ++ u := by
            unfold bytesF r4
            rw [e7, hI, hle]
          obtain ⟨t, ht⟩ := hu3
          rw [hbb]
          refine ⟨t, ?_⟩
          have h5 : b = r3 f i ++ b.drop (r3 f i).length := by
            have h6 := (hs i).both hb h3
            obtain ⟨v, hv⟩ := h6
            rw [← hv, List.drop_left]
          conv => lhs; rw [h5]
          rw [List.append_assoc, ht]
      · have hbl : b.length = gC f := by omega
        have hb2 : Bg b (r2 f i f.op.length) := hb.both hR2 (by rw [r2_len]; omega)
        rw [← e2] at hb2
        refine ⟨hb2.trans (hG2 _), ?_⟩
        rw [hlg]
        by_cases hm : 0 ≤ f.mod
        · have := modB_len f (guessF f (b ++ z))
          rw [if_pos hm]
          omega
        · rw [if_neg hm] at hll ⊢
          omega
  · refine ⟨?_, by
      have : gA f ≤ gB f := by rw [hBA]; split <;> omega
      omega⟩
    obtain ⟨t, ht⟩ := bytes_r0 f i
    obtain ⟨t2, ht2⟩ := bytes_r0 f (guessF f (b ++ z))
    exact (hb.both ⟨t, ht.symm⟩ (by rw [r0_len]; omega)).trans ⟨t2, ht2.symm⟩
theorem fits_mk (h2 : FormOk2 f) {j : Ins} (hk : f.kind = j.kind) (hz : f.size = j.size) (h : Flds f j) (hn : numberR f j.imm = true) : fitsF f j = true := by
  unfold fitsF
  rw [decide_eq_true hk, decide_eq_true hz, field_of h.d.1 h.d.2, field_of h.s.1 h.s.2, field_of h.c.1 h.c.2, hn]
  rfl
theorem sized4_small {u : List UInt8} (h : u.length = 4) : smallF (signF u) = true := by
  have := sign_range u (by omega)
  rw [h] at this
  simp only [Int.reducePow, Int.reduceNeg] at this
  unfold smallF inF
  rw [Bool.and_eq_true, decide_eq_true_eq, decide_eq_true_eq]
  omega
theorem gE_le (f : FormF) (bs : List UInt8) : gC f ≤ gE f bs ∧ (0 ≤ f.mod → gC f + 1 ≤ gE f bs) ∧ (¬ 0 ≤ f.mod → gE f bs = gC f) := by
  unfold gE gE2
  split
  · split
    · exact ⟨by omega, fun _ => by omega, fun q => by omega⟩
    · exact ⟨by omega, fun _ => by omega, fun q => by omega⟩
  · exact ⟨by omega, fun q => by omega, fun _ => rfl⟩
/-- A proper beginning of what a form lays is cut, for the document. -/
theorem cut_form (hf : f ∈ formsF) (h : fitsF f i = true) {b : List UInt8} (hb : Bg b (bytesF f i)) (hlt : b.length < (bytesF f i).length) : cutF f b = true := by
  have h1 := forms_ok f hf
  have h2 := forms_ok2 f hf
  have hF := fits_flds h
  have go : ∀ z, numberR f (guessF f (b ++ z)).imm = true → fitsF f (guessF f (b ++ z)) = true ∧ begF (bytesF f (guessF f (b ++ z))) b = true ∧ b.length < (bytesF f (guessF f (b ++ z))).length := by
    intro z hn
    obtain ⟨g1, g2⟩ := guess_on h1 h2 hF hb hlt z
    exact ⟨fits_mk h2 rfl rfl (guess_flds h2 _) hn, g1.beg, g2⟩
  have hz : ∀ bs, guessF f bs = guessF f (bs ++ []) := fun bs => by rw [List.append_nil]
  unfold cutF cutI
  by_cases hc : (decide (f.imm = 7) && smallF (guessF f b).imm) = true
  · rw [if_pos hc]
    rw [Bool.and_eq_true, decide_eq_true_eq] at hc
    obtain ⟨h7, hs⟩ := hc
    have hform : f.mod = -1 ∧ gC f = 2 := by
      have : formsF.all (fun f => !decide (f.imm = 7) || (decide (f.mod = -1) && decide (gC f = 2))) = true := by decide +kernel
      have := List.all_eq_true.1 this f hf
      simpa [h7] using this
    obtain ⟨hm, hC⟩ := hform
    have hlen10 : (bytesF f i).length = 10 := by
      rw [bytes_len, if_neg (by omega), hC, h7]
      rfl
    have hn : numberR f (guessF f (pad b)).imm = true := by
      unfold numberR
      rw [if_neg (by omega), if_neg (by omega), if_neg (by omega)]
      have hI : (guessF f (pad b)).imm = signF (part (pad b) 2 8) := by
        show gI f (pad b) = _
        unfold gI
        rw [(gE_le f (pad b)).2.2 (by omega), hC, h7]
        rfl
      have hl9 : (pad b).getD 9 0 = 1 := by
        unfold pad
        rw [List.getD_eq_getElem?_getD, List.getElem?_append_right (by omega), List.getElem?_replicate, if_pos (by omega)]
        rfl
      obtain ⟨v, hv, hvl⟩ : ∃ v : List UInt8, part (pad b) 2 8 = v ++ [1] ∧ v.length = 7 := by
        refine ⟨part (pad b) 2 7, ?_, part_len _ _ _⟩
        unfold part
        rw [show (8 : Nat) = 7 + 1 from rfl, List.range_succ, List.map_append]
        show _ ++ [(pad b).getD (2 + 7) 0] = _
        rw [hl9]
      have hbig : smallF (signF (v ++ [1])) = false := by
        have hr := leNum_range v
        have e : ∀ v : List UInt8, leNum (v ++ [1]) = leNum v + 256 ^ v.length := by
          intro v
          induction v with
          | nil => rfl
          | cons c r ih =>
            rw [List.cons_append, leNum, ih, leNum, List.length_cons, Int.pow_succ]
            omega
        rw [hvl] at hr
        simp only [Int.reducePow] at hr
        have hne : smallF (signF (v ++ [1])) ≠ true := by
          intro hh
          unfold smallF inF at hh
          rw [Bool.and_eq_true, decide_eq_true_eq, decide_eq_true_eq] at hh
          unfold signF sgn at hh
          rw [e, List.length_append, hvl] at hh
          simp only [List.length_cons, List.length_nil, Nat.reduceAdd, Int.reducePow] at hh
          split at hh <;> omega
        simpa using hne
      rw [hI, hv, hbig]
      rfl
    obtain ⟨g1, g2, g3⟩ := go _ hn
    rw [show guessF f (pad b) = guessF f (b ++ List.replicate (10 - b.length) 1) from rfl, g1, g2, decide_eq_true g3]
    rfl
  · rw [if_neg hc]
    have hn : numberR f (guessF f b).imm = true := by
      have hzero : sizeR f.imm = 0 ∨ sizeR f.imm = 1 → (guessF f b).imm = 0 := by
        intro hsz
        show gI f b = 0
        unfold gI
        have hle := gE_le f b
        have hpart : part b (gE f b) (sizeR f.imm) = List.replicate (sizeR f.imm) 0 := by
          rcases hsz with e | e
          · rw [e]; rfl
          · refine imm_zero ?_
            have hll := bytes_len f i
            rw [e] at hll
            by_cases hm : 0 ≤ f.mod
            · rw [if_pos hm] at hll
              have hmb := modB_len f i
              rcases Nat.lt_or_ge (gC f) b.length with hC | hC
              · have hge : ∀ bs : List UInt8, gA f < gC f := fun _ => by
                  have := h2.len
                  unfold gC gB
                  split <;> omega
                have hgA := hge ([] : List UInt8)
                have hR : Reads f i (b ++ []) := by
                  refine ⟨fun hr => ?_, ?_, fun hm => ?_⟩
                  · obtain ⟨x0, hx0⟩ := bytes_r1 f i
                    obtain ⟨a, c, _⟩ := rexV_range h1 h2 hF
                    rw [at_beg hb (by omega), hx0, at_rex hr, byteOf_val ⟨a, c⟩]
                  · obtain ⟨a, c, _⟩ := lastV_range h1 h2 hF
                    rw [at_beg hb (by omega), bytes_r2, at_last h2, byteOf_val ⟨a, c⟩]
                  · obtain ⟨a, c, _⟩ := modV_range h1 h2 hF hm
                    rw [at_beg hb hC, bytes_r2, at_mod hm, byteOf_val ⟨a, c⟩]
                obtain ⟨_, _, _, e6⟩ := flds_read h1 h2 hF hR
                rw [List.append_nil, if_pos hm] at e6
                omega
              · have := hle.1
                omega
            · rw [if_neg hm] at hll
              have := hle.1
              omega
        rw [hpart, sign_zero]
      rcases h2.imm with e | e | e | e
      · rw [hzero (.inl (by rw [e]; rfl)), numberR, if_pos e]
        rfl
      · rw [hzero (.inr (by rw [e]; rfl)), numberR, if_neg (by omega), if_pos e]
        split <;> rfl
      · rw [numberR, if_neg (by omega), if_neg (by omega), if_pos e]
        show smallF (gI f b) = true
        unfold gI
        exact sized4_small (by rw [part_len, e]; rfl)
      · rw [numberR, if_neg (by omega), if_neg (by omega), if_neg (by omega)]
        rw [e, decide_eq_true rfl, Bool.true_and] at hc
        simpa using hc
    have := go [] (by rw [List.append_nil]; exact hn)
    rw [List.append_nil] at this
    obtain ⟨g1, g2, g3⟩ := this
    rw [g1, g2, decide_eq_true g3]
    rfl
end
/-! ### both readers -/
theorem guess_i64 (f : FormF) (bs : List UInt8) : I64 (guessF f bs).imm := by
  show I64 (gI f bs)
  unfold gI
  exact sign_i64 _ (by rw [part_len]; exact sizeR_le _)
theorem hit_dec {f : FormF} (hf : f ∈ formsF) {bs : List UInt8} (h : hitF bs f = true) : guessF f bs = decI bs ∧ (bytesF f (guessF f bs)).length = decN bs ∧ decE bs = 0 := by
  unfold hitF at h
  rw [Bool.and_eq_true] at h
  obtain ⟨hv, he⟩ := forms_enc hf h.1
  obtain ⟨t, ht⟩ := beg_Bg h.2
  rw [← he] at ht
  obtain ⟨a, b, c⟩ := dec_enc hv (guess_i64 f bs) t
  rw [ht] at a b c
  exact ⟨a.symm, by rw [b, he], c⟩
theorem dec_hit {bs : List UInt8} (h : decE bs = 0) : ∃ f ∈ formsF, hitF bs f = true := by
  obtain ⟨hv, hi, he, hn, hle⟩ := reads h
  obtain ⟨f, _, hf, hfit⟩ := refF_some hv
  have hb := (forms_enc hf hfit).2
  have hbs : bs = bytesF f (decI bs) ++ bs.drop (decN bs) := by
    rw [← hb, he]
    exact (List.take_append_drop _ _).symm
  have hg : guessF f bs = decI bs := by
    have := guess_bytes (forms_ok f hf) (forms_ok2 f hf) hfit hi (bs.drop (decN bs))
    rwa [← hbs] at this
  refine ⟨f, hf, ?_⟩
  unfold hitF
  rw [hg, hfit, Bool.true_and]
  exact Bg.beg ⟨_, hbs.symm⟩
theorem cut_dec {f : FormF} (hf : f ∈ formsF) {bs : List UInt8} (h : cutF f bs = true) : decE bs = 202 := by
  unfold cutF at h
  rw [Bool.and_eq_true, Bool.and_eq_true, decide_eq_true_eq] at h
  obtain ⟨h1, h2, h3⟩ := h
  obtain ⟨hv, he⟩ := forms_enc hf h1
  obtain ⟨t, ht⟩ := beg_Bg h2
  have hI : I64 (cutI f bs).imm := by
    unfold cutI
    split <;> exact guess_i64 _ _
  have hb : bs = (encF (cutI f bs)).take bs.length := by rw [he, ← ht, List.take_left]
  rw [hb]
  exact dec_cut hv hI (by rw [he]; exact h3)
theorem dec_cutF {bs : List UInt8} (h : decE bs = 202) : ∃ f ∈ formsF, cutF f bs = true := by
  obtain ⟨i, hv, hi, t, ht0, ht⟩ := cut_ext h
  obtain ⟨f, _, hf, hfit⟩ := refF_some hv
  have hb := (forms_enc hf hfit).2
  rw [hb] at ht
  refine ⟨f, hf, cut_form hf hfit ⟨t, ht⟩ ?_⟩
  have := congrArg List.length ht
  rw [List.length_append] at this
  have h0 := List.length_pos_iff.2 ht0
  omega
/-- The document's answer, form by form. -/
theorem ref_hit {bs : List UInt8} {j : Nat} (hj : j < formsF.length) (h : hitF bs (formsF.getD j default) = true) : guessF (formsF.getD j default) bs = decI bs ∧ (bytesF (formsF.getD j default) (guessF (formsF.getD j default) bs)).length = decN bs ∧ decE bs = 0 :=
  hit_dec (by rw [getD_eq' hj]; exact List.getElem_mem hj) h
theorem ref_end {bs : List UInt8} (hp : ∀ k, k < formsF.length → hitF bs (formsF.getD k default) = false) : decI bs = nilI ∧ decN bs = 0 ∧ decE bs = (if (formsF.any fun f => cutF f bs) = true then 202 else 201) := by
  have h0 : ¬ decE bs = 0 := by
    intro h
    obtain ⟨f, hf, hh⟩ := dec_hit h
    obtain ⟨k, hk, rfl⟩ := List.mem_iff_getElem.1 hf
    have := hp k hk
    rw [getD_eq' hk, hh] at this
    cases this
  obtain ⟨a, b, c⟩ := reads_no h0
  refine ⟨a, b, ?_⟩
  split
  · rename_i hc
    obtain ⟨f, hf, hh⟩ := List.any_eq_true.1 hc
    exact cut_dec hf hh
  · rename_i hc
    refine c.resolve_right fun h => hc ?_
    obtain ⟨f, hf, hh⟩ := dec_cutF h
    exact List.any_eq_true.2 ⟨f, hf, hh⟩
end Go.Proofs.YtjndpakhmgapjaaDoor

namespace Go.Proofs.YtjndpakhmgapjaaDoor
open Go Go.RowKit
set_option linter.unusedSimpArgs false
set_option linter.unusedVariables false
set_option linter.unnecessarySimpa false
theorem sign_cons {x : UInt8} {r : List UInt8} (hr : r ≠ []) : signF (x :: r) = 256 * signF r + (x.toNat : Int) := by
  have hb := u8_toNat x
  have h := leNum_range r
  obtain ⟨k, hk⟩ : ∃ k, r.length = k + 1 := ⟨r.length - 1, by have := List.length_pos_iff.2 hr; omega⟩
  have hp : (0 : Int) < 256 ^ k := Int.pow_pos (by decide)
  have e1 : (256 : Int) ^ (k + 1) = 256 ^ k * 256 := Int.pow_succ ..
  have e2 : (256 : Int) ^ (k + 1 + 1) = 256 ^ (k + 1) * 256 := Int.pow_succ ..
  unfold signF sgn
  rw [List.length_cons, hk, e2, leNum]
  rw [hk] at h
  rw [e1] at h ⊢
  by_cases q : 2 * leNum r < 256 ^ k * 256
  · rw [if_pos q, if_pos (by omega)]
    omega
  · rw [if_neg q, if_neg (by omega)]
    omega
theorem sign_one (x : UInt8) : signF [x] = if 127 < (x.toNat : Int) then (x.toNat : Int) - 256 else (x.toNat : Int) := by
  have e : leNum [x] = (x.toNat : Int) := by show (x.toNat : Int) + 256 * 0 = _; omega
  have h1 : (256 : Int) ^ ([x] : List UInt8).length = 256 := by show (256 : Int) ^ 1 = 256; decide
  unfold signF sgn
  rw [h1, e]
  by_cases q : 127 < (x.toNat : Int)
  · rw [if_pos q, if_neg (by omega)]
  · rw [if_neg q, if_pos (by omega)]
/-- The next byte below, as the code takes it. -/
def sx (l : List UInt8) (j : Nat) : Int := if (decide ((j : Int) - 1 = (l.length : Int) - 1) && decide (127 < ((l.getD (j - 1) 0).toNat : Int))) = true then ((l.getD (j - 1) 0).toNat : Int) - 256 else ((l.getD (j - 1) 0).toNat : Int)
theorem sign_step {l : List UInt8} {j : Nat} (h1 : 1 ≤ j) (h2 : j ≤ l.length) : signF (l.drop (j - 1)) = 256 * signF (l.drop j) + sx l j := by
  have e : l.drop (j - 1) = l.getD (j - 1) 0 :: l.drop j := by
    rw [List.drop_eq_getElem_cons (by omega), show j - 1 + 1 = j by omega, List.getD_eq_getElem?_getD, List.getElem?_eq_getElem (by omega)]
    rfl
  rw [e]
  unfold sx
  by_cases q : j = l.length
  · have hd : l.drop j = [] := List.drop_eq_nil_of_le (by omega)
    rw [hd, sign_one, decide_eq_true (show (j : Int) - 1 = (l.length : Int) - 1 by omega), Bool.true_and]
    have h0 : signF [] = 0 := rfl
    rw [h0]
    simp only [decide_eq_true_eq]
    split <;> omega
  · have hd : l.drop j ≠ [] := by
      intro hh
      have := congrArg List.length hh
      rw [List.length_drop, List.length_nil] at this
      omega
    rw [sign_cons hd, decide_eq_false (show ¬ (j : Int) - 1 = (l.length : Int) - 1 by omega), Bool.false_and, if_neg (by decide)]
theorem sign7 {u : List UInt8} (h : u.length ≤ 7) : -36028797018963968 ≤ signF u ∧ signF u ≤ 36028797018963967 := by
  have hr := sign_range u (by omega)
  have hp : (256 : Int) ^ u.length ≤ 72057594037927936 := by
    have : u.length = 0 ∨ u.length = 1 ∨ u.length = 2 ∨ u.length = 3 ∨ u.length = 4 ∨ u.length = 5 ∨ u.length = 6 ∨ u.length = 7 := by omega
    rcases this with e | e | e | e | e | e | e | e <;> rw [e] <;> decide
  omega
theorem sx_range (l : List UInt8) (j : Nat) : -128 ≤ sx l j ∧ sx l j ≤ 255 := by
  have hb := u8_toNat (l.getD (j - 1) 0)
  unfold sx
  split
  · rename_i q
    rw [Bool.and_eq_true, decide_eq_true_eq, decide_eq_true_eq] at q
    omega
  · omega
theorem sx_neg {l : List UInt8} {j : Nat} (hj : 1 ≤ j) (h : sx l j < 0) : signF (l.drop j) = 0 := by
  have hb := u8_toNat (l.getD (j - 1) 0)
  unfold sx at h
  split at h
  · rename_i q
    rw [Bool.and_eq_true, decide_eq_true_eq, decide_eq_true_eq] at q
    rw [List.drop_eq_nil_of_le (by omega)]
    rfl
  · omega
theorem beg_far {b w : List UInt8} (h : b.length < w.length) : begF b w = false := by
  unfold begF
  rw [decide_eq_false_iff_not]
  intro q
  have := congrArg List.length q
  rw [List.length_take] at this
  omega
theorem beg_ne {b w : List UInt8} {k : Nat} (h1 : k < w.length) (h2 : ¬ b.getD k 0 = w.getD k 0) : begF b w = false := by
  unfold begF
  rw [decide_eq_false_iff_not]
  intro q
  apply h2
  rw [List.getD_eq_getElem?_getD, List.getD_eq_getElem?_getD, ← q, List.getElem?_take, if_pos (by omega)]
theorem beg_all {b w : List UInt8} (hl : w.length ≤ b.length) (h : ∀ k, k < w.length → b.getD k 0 = w.getD k 0) : begF b w = true := by
  unfold begF
  rw [decide_eq_true_eq]
  apply List.ext_getElem (by rw [List.length_take]; omega)
  intro k h1 h2
  have := h k h2
  rw [List.getD_eq_getElem?_getD, List.getD_eq_getElem?_getD, List.getElem?_eq_getElem (by omega), List.getElem?_eq_getElem h2] at this
  rw [List.getElem_take]
  exact this
theorem u8_ne {a b : UInt8} (h : ¬ (a.toNat : Int) = (b.toNat : Int)) : ¬ a = b := fun q => h (by rw [q])
theorem u8_eq {a b : UInt8} (h : (a.toNat : Int) = (b.toNat : Int)) : a = b := UInt8.toNat_inj.1 (by omega)
theorem part_succ (bs : List UInt8) (a n : Nat) : part bs a (n + 1) = part bs a n ++ [bs.getD (a + n) 0] := by
  unfold part
  rw [List.range_succ, List.map_append]
  rfl
theorem gX_range (f : FormF) (bs : List UInt8) : 0 ≤ gX f bs ∧ gX f bs ≤ 255 := by
  unfold gX
  split
  · exact byteAt_range' bs _
  · omega
theorem gL_range (f : FormF) (bs : List UInt8) : 0 ≤ gL f bs ∧ gL f bs ≤ 255 := byteAt_range' bs _
theorem gM_range (f : FormF) (bs : List UInt8) : 0 ≤ gM f bs ∧ gM f bs ≤ 255 := byteAt_range' bs _
theorem gC_bound {f : FormF} (h1 : FormOk f) (h2 : FormOk2 f) : 1 ≤ gC f ∧ gC f ≤ 4 := by
  have := h1.len
  have := h2.len
  unfold gC gB gA
  split <;> split <;> omega
theorem gE_bound {f : FormF} (h1 : FormOk f) (h2 : FormOk2 f) (bs : List UInt8) : gE f bs ≤ 6 := by
  have := gC_bound h1 h2
  unfold gE gE2
  split
  · split <;> omega
  · omega
/-- The answer so far. -/
def eJ (bs : List UInt8) (j : Nat) : Int := if ((formsF.take j).any fun f => cutF f bs) = true then 202 else 201
theorem eJ_yes {bs : List UInt8} {j : Nat} (hj : j < formsF.length) (h : cutF (formsF.getD j default) bs = true) : eJ bs (j + 1) = 202 := by
  unfold eJ
  rw [List.take_succ_eq_append_getElem hj, List.any_append]
  rw [getD_eq' hj] at h
  simp [h]
theorem eJ_no {bs : List UInt8} {j : Nat} (hj : j < formsF.length) (h : cutF (formsF.getD j default) bs = false) : eJ bs (j + 1) = eJ bs j := by
  unfold eJ
  rw [List.take_succ_eq_append_getElem hj, List.any_append]
  rw [getD_eq' hj] at h
  simp [h]
theorem eJ_all (bs : List UInt8) : eJ bs 59 = if (formsF.any fun f => cutF f bs) = true then 202 else 201 := by
  unfold eJ
  rw [show formsF.take 59 = formsF from rfl]
theorem pad_done {bs : List UInt8} {m : Nat} (h1 : ¬ bs.length + m < 10) (h2 : m = 0 ∨ bs.length + m ≤ 10) : bs ++ List.replicate m 1 = pad bs := by
  unfold pad
  congr 2
  omega
theorem no_hit1 {f : FormF} {bs : List UInt8} (h : fitsF f (guessF f bs) = false) : hitF bs f = false := by unfold hitF; rw [h]; rfl
theorem no_hit2 {f : FormF} {bs : List UInt8} (h : begF bs (bytesF f (guessF f bs)) = false) : hitF bs f = false := by unfold hitF; rw [h, Bool.and_false]
theorem is_hit {f : FormF} {bs : List UInt8} (h1 : fitsF f (guessF f bs) = true) (h2 : begF bs (bytesF f (guessF f bs)) = true) : hitF bs f = true := by unfold hitF; rw [h1, h2]; rfl
end Go.Proofs.YtjndpakhmgapjaaDoor

namespace Go.Proofs.YtjndpakhmgapjaaDoor
open Go Go.RowKit
set_option linter.unusedVariables false
set_option linter.unnecessarySimpa false
set_option linter.unusedSimpArgs false

set_option maxHeartbeats 400000 in
theorem byteAt64 (bs : List UInt8) (k : Nat) (hbs : bs.length ≤ 1099511627776) (hk : k ≤ 1099511627776) :
    ACalls Tryd.prog 64 [u8s bs, .v (.int .i64 (k : Int))] [] fun t_ S => t_ = .v (.int .i64 (byteAt bs k)) := by
  refine ACalls.intro Tryd.func64 rfl Tryd.ntmps64 (Nat.le_of_ble_eq_true rfl) rfl fun X w0 => ?_
  refine AW.rseq ?_
  refine Y1 (Yv.assign rfl eV) ?_
  refine nl ?_
  refine AW.seq ?_
  refine AW.rseq ?_
  refine Y1 (Yv.move rfl eV) ?_
  refine Y1 (Yv.move rfl eV) ?_
  refine Y1 (Yv.lenSl rfl so_24 (B rfl) (E rfl rfl) len_u8s) ?_
  refine Y1 (Yv.lss rfl eV eV) ?_
  refine nl ?_
  refine AW.cond rfl (fun h0t => ?_) (fun h0f => ?_)
  ·
   try replace h0t := of_decide_eq_true h0t
   refine AW.rseq ?_
   refine Y1 (Yv.move rfl eV) ?_
   refine Y1 (Yv.move rfl eV) ?_
   refine Y1 (Yv.indexSl rfl ss_24 (B rfl) (E rfl rfl) (E rfl rfl) (fun hg => ⟨rfl, (by first | omega | (simp only [len_u8s, len_ints, len_forms]; omega))⟩)) ?_
   refine Y1 (Yv.loadRp rfl ag_5 (E rfl rfl) (fun hg => u8_get (by omega))) ?_
   refine Y1 (Yv.convU8 rfl Tryd.underlying5 kd_3 rfl (E rfl rfl)) ?_
   refine Y1 (Yv.assign rfl eV) ?_
   refine nl ?_
   refine AW.ret (retI (.tmp rfl .nil) ?_)
   rfl
  try replace h0f := of_decide_eq_false h0f
  refine AW.skip ?_
  refine AW.rseq ?_
  refine Y1 (Yv.assign rfl eV) ?_
  refine nl ?_
  refine AW.ret (retI (.tmp rfl .nil) ?_)
  rw [byteAt_out (by omega)]
  rfl

set_option maxHeartbeats 400000 in
theorem signed65 (l : List UInt8) (hl : l.length ≤ 8) :
    ACalls Tryd.prog 65 [u8s l] [] fun t_ S => t_ = .v (.int .i64 (signF l)) := by
  refine ACalls.intro Tryd.func65 rfl Tryd.ntmps65 (Nat.le_of_ble_eq_true rfl) rfl fun X w0 => ?_
  refine AW.rseq ?_
  refine Y1 (Yv.assign rfl eV) ?_
  refine nl ?_
  refine AW.rseq ?_
  refine Y1 (Yv.assign rfl eV) ?_
  refine nl ?_
  refine AW.seq ?_
  refine AW.rseq ?_
  refine Y1 (Yv.move rfl eV) ?_
  refine Y1 (Yv.lenSl rfl so_24 (B rfl) (E rfl rfl) len_u8s) ?_
  refine Y1 (Yv.subN_i64 rfl (E rfl rfl) (E rfl rfl) (fun hg => by omega)) ?_
  refine Y1 (Yv.assign rfl eV) ?_
  refine nl ?_
  refine AW.block ?_
  refine AW.loop (fun (j : Nat) => [(0, true, u8s l), (3, true, .v (.int .i64 (signF (l.drop j)))), (4, true, .v (.int .i64 ((j : Int) - 1)))]) (fun (j : Nat) => []) (fun (j : Nat) => j ≤ l.length) (fun (j : Nat) => j) l.length ?_ ?_ ?_ ?_
  · exact Nat.le_refl _
  · exact (Sub.cons rfl rfl (Sub.cons rfl (by rw [List.drop_length]; rfl) (Sub.cons rfl rfl Sub.nil)))
  · rfl
  ·
   intro j hinv
   have hs7 : 1 ≤ j → -36028797018963968 ≤ signF (l.drop j) ∧ signF (l.drop j) ≤ 36028797018963967 := fun hj => sign7 (by rw [List.length_drop]; omega)
   have hxr := sx_range l j
   refine AW.seq ?_
   refine AW.rseq ?_
   refine Y1 (Yv.move rfl eV) ?_
   refine Y1 (Yv.geq rfl eV eV) ?_
   refine nl ?_
   refine AW.cond rfl (fun h0t => ?_) (fun h0f => ?_)
   ·
    try replace h0t := of_decide_eq_true h0t
    have hj1 : 1 ≤ j := by omega
    have hs8 := hs7 hj1
    have hsn : sx l j < 0 → signF (l.drop j) = 0 := sx_neg hj1
    have hbx := u8_toNat (l.getD (j - 1) 0)
    refine AW.skip ?_
    refine AW.seq ?_
    refine AW.block ?_
    refine AW.rseq ?_
    refine Y1 (Yv.move rfl eV) ?_
    refine Y1 (Yv.move rfl eV) ?_
    refine Y1 (Yv.indexSl (j := (j - 1)) rfl ss_24 (B rfl) (E rfl rfl) (E rfl rfl) (fun hg => ⟨by omega, by simp only [len_u8s]; omega⟩)) ?_
    refine Y1 (Yv.loadRp rfl ag_5 (E rfl rfl) (fun hg => u8_get (by omega))) ?_
    refine Y1 (Yv.convU8 rfl Tryd.underlying5 kd_2 rfl (E rfl rfl)) ?_
    refine Y1 (Yv.assign rfl eV) ?_
    refine nl ?_
    refine AW.mid (α := Unit) (fun _ => [(0, true, u8s l), (3, true, .v (.int .i64 (signF (l.drop j)))), (4, true, .v (.int .i64 ((j : Int) - 1))), (5, true, .v (.int .i64 (sx l j)))]) (fun _ => []) (fun _ => True) ?_ ?_
    ·
     refine AW.rseq ?_
     refine Y1 (Yv.move rfl eV) ?_
     refine Y1 (Yv.move rfl eV) ?_
     refine Y1 (Yv.lenSl rfl so_24 (B rfl) (E rfl rfl) len_u8s) ?_
     refine Y1 (Yv.subN_i64 rfl (E rfl rfl) (E rfl rfl) (fun hg => by omega)) ?_
     refine Y1 (Yv.eql rfl eV eV) ?_
     refine Y1 (Yv.move rfl eV) ?_
     refine AWL.ygT rfl rfl rfl rfl (B rfl) (Yv.move rfl (E rfl rfl)) ?_
     refine AWL.ygT rfl rfl rfl rfl (B rfl) (Yv.gtr rfl (Eg rfl rfl id) (E rfl rfl)) ?_
     refine Y1 (Yv.pickAnd rfl (E rfl rfl) (Eg rfl rfl id)) ?_
     refine nl ?_
     refine AW.cond rfl (fun h1t => ?_) (fun h1f => ?_)
     ·
      try replace h1t := of_decide_eq_true h1t
      refine AW.region ?_
      refine Y1 (Yv.move rfl eV) ?_
      refine Y1 (Yv.subN_i64 rfl (E rfl rfl) (E rfl rfl) (fun hg => by omega)) ?_
      refine Y1 (Yv.assign rfl eV) ?_
      refine nl ?_
      refine ⟨(), trivial, (Sub.cons rfl rfl (Sub.cons rfl rfl (Sub.cons rfl rfl (Sub.cons rfl (by rw [sx, if_pos h1t]) Sub.nil)))), rfl⟩
     try replace h1f := of_decide_eq_false h1f
     refine AW.skip ?_
     refine ⟨(), trivial, (Sub.cons rfl rfl (Sub.cons rfl rfl (Sub.cons rfl rfl (Sub.cons rfl (by rw [sx, if_neg (ne_true_of_eq_false h1f)]) Sub.nil)))), rfl⟩
    ·
     rintro _ hmid
     refine AW.region ?_
     refine Y1 (Yv.move rfl eV) ?_
     refine Y1 (Yv.mulN_i64 rfl (E rfl rfl) (E rfl rfl) (fun hg => by omega)) ?_
     refine Y1 (Yv.move rfl eV) ?_
     refine Y1 (Yv.addN_i64 rfl (E rfl rfl) (E rfl rfl) (fun hg => by omega)) ?_
     refine Y1 (Yv.assign rfl eV) ?_
     refine nl ?_
     refine AW.region ?_
     refine Y1 (Yv.move rfl eV) ?_
     refine Y1 (Yv.subN_i64 rfl (E rfl rfl) (E rfl rfl) (fun hg => by omega)) ?_
     refine Y1 (Yv.assign rfl eV) ?_
     refine nl ?_
     refine ⟨j - 1, by omega, by omega, Sub.cons rfl rfl (Sub.cons rfl (by rw [sign_step (by omega) hinv]) (Sub.cons rfl (by congr 2; omega) Sub.nil)), rfl⟩
   try replace h0f := of_decide_eq_false h0f
   refine AW.exit ?_
   refine AW.rseq ?_
   refine Y1 (Yv.move rfl eV) ?_
   refine Y1 (Yv.assign rfl eV) ?_
   refine nl ?_
   refine AW.ret (retI (.tmp rfl .nil) ?_)
   obtain rfl : j = 0 := by omega
   rfl

set_option maxHeartbeats 400000 in
theorem begins46 (b w : List UInt8) (hb : b.length ≤ 1099511627776) (hw : w.length ≤ 1099511627776) :
    ACalls Tryd.prog 46 [u8s b, u8s w] [] fun t_ S => t_ = .v (.bool (begF b w)) := by
  refine ACalls.intro Tryd.func46 rfl Tryd.ntmps46 (Nat.le_of_ble_eq_true rfl) rfl fun X w0 => ?_
  refine AW.rseq ?_
  refine Y1 (Yv.assign rfl eV) ?_
  refine nl ?_
  refine AW.seq ?_
  refine AW.rseq ?_
  refine Y1 (Yv.move rfl eV) ?_
  refine Y1 (Yv.lenSl rfl so_24 (B rfl) (E rfl rfl) len_u8s) ?_
  refine Y1 (Yv.move rfl eV) ?_
  refine Y1 (Yv.lenSl rfl so_24 (B rfl) (E rfl rfl) len_u8s) ?_
  refine Y1 (Yv.gtr rfl eV eV) ?_
  refine nl ?_
  refine AW.cond rfl (fun h0t => ?_) (fun h0f => ?_)
  ·
   try replace h0t := of_decide_eq_true h0t
   refine AW.rseq ?_
   refine Y1 (Yv.assign rfl eV) ?_
   refine nl ?_
   refine AW.ret (retI (.tmp rfl .nil) ?_)
   rw [beg_far (by omega)]
   rfl
  try replace h0f := of_decide_eq_false h0f
  have hwl : w.length ≤ b.length := by omega
  refine AW.skip ?_
  refine AW.seq ?_
  refine AW.rseq ?_
  refine Y1 (Yv.assign rfl eV) ?_
  refine nl ?_
  refine AW.block ?_
  refine AW.loop (fun (k : Nat) => [(0, true, u8s b), (1, true, u8s w), (5, true, .v (.int .i64 (k : Int)))]) (fun (k : Nat) => []) (fun (k : Nat) => k ≤ w.length ∧ ∀ j, j < k → b.getD j 0 = w.getD j 0) (fun (k : Nat) => w.length - k) 0 ?_ ?_ ?_ ?_
  · exact ⟨Nat.zero_le _, fun j hj => by omega⟩
  · exact (Sub.cons rfl rfl (Sub.cons rfl rfl (Sub.cons rfl rfl Sub.nil)))
  · rfl
  ·
   intro k hinv
   obtain ⟨hk, hpre⟩ := hinv
   refine AW.seq ?_
   refine AW.rseq ?_
   refine Y1 (Yv.move rfl eV) ?_
   refine Y1 (Yv.move rfl eV) ?_
   refine Y1 (Yv.lenSl rfl so_24 (B rfl) (E rfl rfl) len_u8s) ?_
   refine Y1 (Yv.lss rfl eV eV) ?_
   refine nl ?_
   refine AW.cond rfl (fun h1t => ?_) (fun h1f => ?_)
   ·
    try replace h1t := of_decide_eq_true h1t
    refine AW.skip ?_
    refine AW.seq ?_
    refine AW.block ?_
    refine AW.rseqQ rfl (by kernel_rfl) ?_
    refine AWQ.y rfl rfl (B rfl) (Yv.move rfl (E rfl rfl)) ?_
    refine AWQ.y rfl rfl (B rfl) (Yv.move rfl (E rfl rfl)) ?_
    refine AWQ.y rfl rfl (B rfl) (Yv.indexSl rfl ss_24 (B rfl) (E rfl rfl) (E rfl rfl) (fun hg => ⟨rfl, (by first | omega | (simp only [len_u8s, len_ints, len_forms]; omega))⟩)) ?_
    refine AWQ.y rfl rfl (B rfl) (Yv.loadRp rfl ag_5 (E rfl rfl) (fun hg => u8_get (by omega))) ?_
    refine AWQ.y rfl rfl (B rfl) (Yv.move rfl (E rfl rfl)) ?_
    refine AWQ.y rfl rfl (B rfl) (Yv.move rfl (E rfl rfl)) ?_
    refine AWQ.y rfl rfl (B rfl) (Yv.indexSl rfl ss_24 (B rfl) (E rfl rfl) (E rfl rfl) (fun hg => ⟨rfl, (by first | omega | (simp only [len_u8s, len_ints, len_forms]; omega))⟩)) ?_
    refine AWQ.y rfl rfl (B rfl) (Yv.loadRp rfl ag_5 (E rfl rfl) (fun hg => u8_get (by omega))) ?_
    refine AWQ.y rfl rfl (B rfl) (Yv.neq rfl (E rfl rfl) (E rfl rfl)) ?_
    refine AWQ.nil ?_
    refine AW.cond rfl (fun h2t => ?_) (fun h2f => ?_)
    ·
     try replace h2t := of_decide_eq_true h2t
     have hne := u8_ne (by simpa using h2t)
     refine AW.rseq ?_
     refine Y1 (Yv.assign rfl eV) ?_
     refine nl ?_
     refine AW.ret (retI (.tmp rfl .nil) ?_)
     rw [beg_ne (k := k) (by omega) hne]
     rfl
    try replace h2f := of_decide_eq_false h2f
    have heq := u8_eq (by simpa using h2f)
    refine AW.skip ?_
    refine AW.region ?_
    refine Y1 (Yv.move rfl eV) ?_
    refine Y1 (Yv.addN_i64 rfl (E rfl rfl) (E rfl rfl) (fun hg => by omega)) ?_
    refine Y1 (Yv.assign rfl eV) ?_
    refine nl ?_
    refine ⟨k + 1, ⟨by omega, fun j hj => ?_⟩, by omega, Sub.cons rfl rfl (Sub.cons rfl rfl (Sub.cons rfl (by simp) Sub.nil)), rfl⟩
    rcases Nat.lt_or_ge j k with h | h
    · exact hpre j h
    · rw [show j = k by omega]; exact heq
   try replace h1f := of_decide_eq_false h1f
   refine AW.exit ?_
   refine AW.rseq ?_
   refine Y1 (Yv.assign rfl eV) ?_
   refine nl ?_
   refine AW.ret (retI (.tmp rfl .nil) ?_)
   rw [beg_all hwl (fun j hj => hpre j (by omega))]
   rfl

set_option maxHeartbeats 4000000 in
theorem guess45 (f : FormF) (bs : List UInt8) (hf1 : FormOk f) (hf2 : FormOk2 f) (hbs : bs.length ≤ 1099511627776) :
    ACalls Tryd.prog 45 [formT f, u8s bs] [] fun t_ S => t_ = insT (guessF f bs) := by
  have hgc := gC_bound hf1 hf2
  have hge := gE_bound hf1 hf2 bs
  have hgx := gX_range f bs
  have hgl := gL_range f bs
  have hgm := gM_range f bs
  have hbm := byteAt_range' bs (gC f)
  have hbl := byteAt_range' bs (gC f - 1)
  have hgcb : gC f = gB f + f.op.length := rfl
  have hgba : gA f ≤ 1 ∧ gB f ≤ gA f + 1 := by unfold gB gA; split <;> split <;> omega
  have hsz := sizeR_le f.imm
  have hu0 : 0 ≤ gUp0 f bs ∧ gUp0 f bs ≤ 8 := by unfold gUp0; omega
  have hb0 : 0 ≤ gBs0 f bs ∧ gBs0 f bs ≤ 8 := by unfold gBs0; omega
  refine ACalls.intro Tryd.func45 rfl Tryd.ntmps45 (Nat.le_of_ble_eq_true rfl) rfl fun X w0 => ?_
  refine AW.rseq ?_
  refine AWL.boxOp rfl rfl (B rfl) rfl (E rfl rfl) rfl (fun b2 => ?_)
  refine AWL.allocOp rfl rfl (B rfl) rfl zc_23 (fun b4 => ?_)
  refine nl ?_
  refine AW.rseq ?_
  refine Y1 (Yv.fieldBox rfl fo_45_0 eV) ?_
  refine Y1 (Yv.loadBox rfl ag_3 (i := 0) rfl (E rfl rfl) rfl) ?_
  refine Y1 (Yv.fieldBox rfl fo_45_1 eV) ?_
  refine Y1 (Yv.loadBox rfl ag_3 (i := 0) rfl (E rfl rfl) rfl) ?_
  refine Y1 (Yv.buildS rfl sh_23 (evpC (E rfl rfl) (evpC (E rfl rfl) evp0)) (fun _ => rfl)) ?_
  refine AWL.allocOp rfl rfl (B rfl) rfl zc_23 (fun b5 => ?_)
  refine AWL.storeBox (i := 2) rfl rfl rfl ag_23 rfl (E rfl rfl) (E rfl rfl) rfl rfl (Nat.le_of_ble_eq_true rfl) ?_
  refine nl ?_
  refine AW.eqS (S' := [.box b2 45 (formCells f), .box b4 23 (insCells ⟨0, 0, 0, 0, 0, 0⟩), .box b5 23 (insCells ⟨f.kind, 0, 0, 0, f.size, 0⟩)]) rfl ?_
  refine AW.rseq ?_
  refine Y1 (Yv.assign rfl eV) ?_
  refine nl ?_
  refine AW.mid (α := Unit) (fun _ => [(1, true, u8s bs), (2, true, .v (.pointer (some ⟨b2, 0, none⟩))), (4, true, .v (.pointer (some ⟨b4, 0, none⟩))), (5, true, .v (.pointer (some ⟨b5, 0, none⟩))), (6, true, .v (.int .i64 ((gA f : Nat) : Int)))]) (fun _ => [.box b2 45 (formCells f), .box b4 23 (insCells ⟨0, 0, 0, 0, 0, 0⟩), .box b5 23 (insCells ⟨f.kind, 0, 0, 0, f.size, 0⟩)]) (fun _ => True) ?_ ?_
  ·
   refine AW.rseq ?_
   refine Y1 (Yv.fieldBox rfl fo_45_2 eV) ?_
   refine Y1 (Yv.loadBox rfl ag_3 (i := 0) rfl (E rfl rfl) rfl) ?_
   refine Y1 (Yv.gtr rfl eV eV) ?_
   refine nl ?_
   refine AW.cond rfl (fun h0t => ?_) (fun h0f => ?_)
   ·
    try replace h0t := of_decide_eq_true h0t
    refine AW.region ?_
    refine Y1 (Yv.move rfl eV) ?_
    refine Y1 (Yv.addN_i64 rfl (E rfl rfl) (E rfl rfl) (fun hg => by omega)) ?_
    refine Y1 (Yv.assign rfl eV) ?_
    refine nl ?_
    refine ⟨(), trivial, (Sub.cons rfl rfl (Sub.cons rfl rfl (Sub.cons rfl rfl (Sub.cons rfl rfl (Sub.cons rfl (by rw [gA, if_pos h0t]; rfl) Sub.nil))))), rfl⟩
   try replace h0f := of_decide_eq_false h0f
   refine AW.skip ?_
   refine ⟨(), trivial, (Sub.cons rfl rfl (Sub.cons rfl rfl (Sub.cons rfl rfl (Sub.cons rfl rfl (Sub.cons rfl (by rw [gA, if_neg h0f]; rfl) Sub.nil))))), rfl⟩
  ·
   rintro _ hmid
   refine AW.rseq ?_
   refine Y1 (Yv.assign rfl eV) ?_
   refine nl ?_
   refine AW.mid (α := Unit) (fun _ => [(1, true, u8s bs), (2, true, .v (.pointer (some ⟨b2, 0, none⟩))), (4, true, .v (.pointer (some ⟨b4, 0, none⟩))), (5, true, .v (.pointer (some ⟨b5, 0, none⟩))), (6, true, .v (.int .i64 ((gB f : Nat) : Int))), (7, true, .v (.int .i64 (gX f bs)))]) (fun _ => [.box b2 45 (formCells f), .box b4 23 (insCells ⟨0, 0, 0, 0, 0, 0⟩), .box b5 23 (insCells ⟨f.kind, 0, 0, 0, f.size, 0⟩)]) (fun _ => True) ?_ ?_
   ·
    refine AW.rseq ?_
    refine Y1 (Yv.fieldBox rfl fo_45_3 eV) ?_
    refine Y1 (Yv.loadBox rfl ag_4 (i := 0) rfl (E rfl rfl) rfl) ?_
    refine nl ?_
    refine AW.cond rfl (fun h1t => ?_) (fun h1f => ?_)
    ·
     try replace h1t := of_decide_eq_true h1t
     refine AW.rseq ?_
     refine Y1 (Yv.move rfl eV) ?_
     refine Y1 (Yv.move rfl eV) ?_
     refine AWL.callT rfl rfl (B rfl) rfl ce_64 (E rfl rfl) (evsC (E rfl rfl) (evsC (E rfl rfl) evs0)) (byteAt64 bs (gA f) hbs (by omega)) ?_
     rintro t29 S29 rfl
     refine Y1 (Yv.assign rfl eV) ?_
     refine nl ?_
     refine AW.region ?_
     refine Y1 (Yv.move rfl eV) ?_
     refine Y1 (Yv.addN_i64 rfl (E rfl rfl) (E rfl rfl) (fun hg => by omega)) ?_
     refine Y1 (Yv.assign rfl eV) ?_
     refine nl ?_
     refine ⟨(), trivial, (Sub.cons rfl rfl (Sub.cons rfl rfl (Sub.cons rfl rfl (Sub.cons rfl rfl (Sub.cons rfl (by rw [gB, if_pos h1t]; simp) (Sub.cons rfl (by rw [gX, if_pos h1t]) Sub.nil)))))), rfl⟩
    try replace h1f := of_decide_eq_false h1f
    refine AW.skip ?_
    refine ⟨(), trivial, (Sub.cons rfl rfl (Sub.cons rfl rfl (Sub.cons rfl rfl (Sub.cons rfl rfl (Sub.cons rfl (by rw [gB, if_neg (ne_true_of_eq_false h1f)]) (Sub.cons rfl (by rw [gX, if_neg (ne_true_of_eq_false h1f)]; rfl) Sub.nil)))))), rfl⟩
   ·
    rintro _ hmid
    refine AW.rseq ?_
    refine Y1 (Yv.move rfl eV) ?_
    refine Y1 (Yv.fieldBox rfl fo_45_5 eV) ?_
    refine Y1 (Yv.loadBox rfl ag_43 (i := 0) rfl (E rfl rfl) rfl) ?_
    refine Y1 (Yv.lenSl rfl so_43 (B rfl) (E rfl rfl) len_ints) ?_
    refine Y1 (Yv.addN_i64 rfl (E rfl rfl) (E rfl rfl) (fun hg => by omega)) ?_
    refine Y1 (Yv.assign rfl eV) ?_
    refine nl ?_
    refine AW.rseq ?_
    refine Y1 (Yv.move rfl eV) ?_
    refine Y1 (Yv.move rfl eV) ?_
    refine Y1 (Yv.subN_i64 rfl (E rfl rfl) (E rfl rfl) (fun hg => by omega)) ?_
    rw [show (gB f : Int) + (f.op.length : Int) - 1 = ((gC f - 1 : Nat) : Int) from by omega]
    refine AWL.callT rfl rfl (B rfl) rfl ce_64 (E rfl rfl) (evsC (E rfl rfl) (evsC (E rfl rfl) evs0)) (byteAt64 bs (gC f - 1) hbs (by omega)) ?_
    rintro t40 S40 rfl
    refine Y1 (Yv.assign rfl eV) ?_
    refine nl ?_
    refine AW.mid (α := Unit) (fun _ => [(1, true, u8s bs), (2, true, .v (.pointer (some ⟨b2, 0, none⟩))), (4, true, .v (.pointer (some ⟨b4, 0, none⟩))), (5, true, .v (.pointer (some ⟨b5, 0, none⟩))), (6, true, .v (.int .i64 ((gC f : Nat) : Int))), (7, true, .v (.int .i64 (gX f bs))), (8, true, .v (.int .i64 (gL f bs)))]) (fun _ => [.box b2 45 (formCells f), .box b4 23 (insCells ⟨0, 0, 0, 0, 0, 0⟩), .box b5 23 (insCells ⟨f.kind, 0, 0, (gCd f bs), f.size, 0⟩)]) (fun _ => True) ?_ ?_
    ·
     refine AW.rseq ?_
     refine Y1 (Yv.fieldBox rfl fo_45_10 eV) ?_
     refine Y1 (Yv.loadBox rfl ag_3 (i := 0) rfl (E rfl rfl) rfl) ?_
     refine Y1 (Yv.eql rfl eV eV) ?_
     refine nl ?_
     refine AW.cond rfl (fun h2t => ?_) (fun h2f => ?_)
     ·
      try replace h2t := of_decide_eq_true h2t
      refine AW.region ?_
      refine Y1 (Yv.move rfl eV) ?_
      refine Y1 (Yv.remN rfl (E rfl rfl) (E rfl rfl) (fun hg => by omega)) ?_
      refine Y1 (Yv.fieldBox rfl fo_23_3 eV) ?_
      refine AWL.storeBox (i := 2) rfl rfl rfl ag_3 rfl (E rfl rfl) (E rfl rfl) rfl rfl (Nat.le_of_ble_eq_true rfl) ?_
      refine nl ?_
      refine ⟨(), trivial, (Sub.cons rfl rfl (Sub.cons rfl rfl (Sub.cons rfl rfl (Sub.cons rfl rfl (Sub.cons rfl (by rw [hgcb]; simp) (Sub.cons rfl rfl (Sub.cons rfl rfl Sub.nil))))))), ?_⟩
      rw [gCd, if_pos h2t]
      rfl
     try replace h2f := of_decide_eq_false h2f
     refine AW.skip ?_
     refine ⟨(), trivial, (Sub.cons rfl rfl (Sub.cons rfl rfl (Sub.cons rfl rfl (Sub.cons rfl rfl (Sub.cons rfl (by rw [hgcb]; simp) (Sub.cons rfl rfl (Sub.cons rfl rfl Sub.nil))))))), ?_⟩
     rw [gCd, if_neg h2f]
    ·
     rintro _ hmid
     refine AW.rseq ?_
     refine Y1 (Yv.move rfl eV) ?_
     refine Y1 (Yv.quoN_i64 rfl (E rfl rfl) (E rfl rfl) (fun hg => by omega)) ?_
     refine Y1 (Yv.remN rfl (E rfl rfl) (E rfl rfl) (fun hg => by omega)) ?_
     refine Y1 (Yv.mulN_i64 rfl (E rfl rfl) (E rfl rfl) (fun hg => by omega)) ?_
     refine Y1 (Yv.assign rfl eV) ?_
     refine nl ?_
     refine AW.rseq ?_
     refine Y1 (Yv.move rfl eV) ?_
     refine Y1 (Yv.remN rfl (E rfl rfl) (E rfl rfl) (fun hg => by omega)) ?_
     refine Y1 (Yv.mulN_i64 rfl (E rfl rfl) (E rfl rfl) (fun hg => by omega)) ?_
     refine Y1 (Yv.assign rfl eV) ?_
     refine nl ?_
     refine AW.mid (α := Unit) (fun _ => [(1, true, u8s bs), (2, true, .v (.pointer (some ⟨b2, 0, none⟩))), (4, true, .v (.pointer (some ⟨b4, 0, none⟩))), (5, true, .v (.pointer (some ⟨b5, 0, none⟩))), (6, true, .v (.int .i64 ((gC f : Nat) : Int))), (8, true, .v (.int .i64 (gL f bs))), (9, true, .v (.int .i64 (gUp0 f bs))), (10, true, .v (.int .i64 (gBs0 f bs)))]) (fun _ => [.box b2 45 (formCells f), .box b4 23 (insCells ⟨0, 0, 0, 0, 0, 0⟩), .box b5 23 (insCells ⟨f.kind, (gD0 f bs), 0, (gCd f bs), f.size, 0⟩)]) (fun _ => True) ?_ ?_
     ·
      refine AW.rseq ?_
      refine Y1 (Yv.fieldBox rfl fo_45_8 eV) ?_
      refine Y1 (Yv.loadBox rfl ag_3 (i := 0) rfl (E rfl rfl) rfl) ?_
      refine Y1 (Yv.eql rfl eV eV) ?_
      refine nl ?_
      refine AW.cond rfl (fun h3t => ?_) (fun h3f => ?_)
      ·
       try replace h3t := of_decide_eq_true h3t
       refine AW.region ?_
       refine Y1 (Yv.move rfl eV) ?_
       refine Y1 (Yv.move rfl eV) ?_
       refine Y1 (Yv.remN rfl (E rfl rfl) (E rfl rfl) (fun hg => by omega)) ?_
       refine Y1 (Yv.addN_i64 rfl (E rfl rfl) (E rfl rfl) (fun hg => by omega)) ?_
       refine Y1 (Yv.fieldBox rfl fo_23_1 eV) ?_
       refine AWL.storeBox (i := 2) rfl rfl rfl ag_3 rfl (E rfl rfl) (E rfl rfl) rfl rfl (Nat.le_of_ble_eq_true rfl) ?_
       refine nl ?_
       refine ⟨(), trivial, (Sub.cons rfl rfl (Sub.cons rfl rfl (Sub.cons rfl rfl (Sub.cons rfl rfl (Sub.cons rfl rfl (Sub.cons rfl rfl (Sub.cons rfl rfl (Sub.cons rfl rfl Sub.nil)))))))), ?_⟩
       rw [gD0, if_pos h3t]
       rfl
      try replace h3f := of_decide_eq_false h3f
      refine AW.skip ?_
      refine ⟨(), trivial, (Sub.cons rfl rfl (Sub.cons rfl rfl (Sub.cons rfl rfl (Sub.cons rfl rfl (Sub.cons rfl rfl (Sub.cons rfl rfl (Sub.cons rfl rfl (Sub.cons rfl rfl Sub.nil)))))))), ?_⟩
      rw [gD0, if_neg h3f]
     ·
      rintro _ hmid
      refine AW.mid (α := Unit) (fun _ => [(1, true, u8s bs), (2, true, .v (.pointer (some ⟨b2, 0, none⟩))), (4, true, .v (.pointer (some ⟨b4, 0, none⟩))), (5, true, .v (.pointer (some ⟨b5, 0, none⟩))), (6, true, .v (.int .i64 ((gE f bs : Nat) : Int)))]) (fun _ => [.box b2 45 (formCells f), .box b4 23 (insCells ⟨0, 0, 0, 0, 0, 0⟩), .box b5 23 (insCells ⟨f.kind, (gDd f bs), (gSs f bs), (gCd f bs), f.size, 0⟩)]) (fun _ => True) ?_ ?_
      ·
       refine AW.rseq ?_
       refine Y1 (Yv.fieldBox rfl fo_45_6 eV) ?_
       refine Y1 (Yv.loadBox rfl ag_3 (i := 0) rfl (E rfl rfl) rfl) ?_
       refine Y1 (Yv.geq rfl eV eV) ?_
       refine nl ?_
       refine AW.cond rfl (fun h4t => ?_) (fun h4f => ?_)
       ·
        try replace h4t := of_decide_eq_true h4t
        refine AW.rseq ?_
        refine Y1 (Yv.move rfl eV) ?_
        refine Y1 (Yv.move rfl eV) ?_
        refine AWL.callT rfl rfl (B rfl) rfl ce_64 (E rfl rfl) (evsC (E rfl rfl) (evsC (E rfl rfl) evs0)) (byteAt64 bs (gC f) hbs (by omega)) ?_
        rintro t67 S67 rfl
        refine Y1 (Yv.assign rfl eV) ?_
        refine nl ?_
        refine AW.rseq ?_
        refine Y1 (Yv.move rfl eV) ?_
        refine Y1 (Yv.addN_i64 rfl (E rfl rfl) (E rfl rfl) (fun hg => by omega)) ?_
        refine Y1 (Yv.assign rfl eV) ?_
        refine nl ?_
        refine AW.rseq ?_
        refine Y1 (Yv.move rfl eV) ?_
        refine Y1 (Yv.move rfl eV) ?_
        refine Y1 (Yv.quoN_i64 rfl (E rfl rfl) (E rfl rfl) (fun hg => by omega)) ?_
        refine Y1 (Yv.remN rfl (E rfl rfl) (E rfl rfl) (fun hg => by omega)) ?_
        refine Y1 (Yv.addN_i64 rfl (E rfl rfl) (E rfl rfl) (fun hg => by omega)) ?_
        refine Y1 (Yv.assign rfl eV) ?_
        refine nl ?_
        refine AW.rseq ?_
        refine Y1 (Yv.move rfl eV) ?_
        refine Y1 (Yv.move rfl eV) ?_
        refine Y1 (Yv.remN rfl (E rfl rfl) (E rfl rfl) (fun hg => by omega)) ?_
        refine Y1 (Yv.addN_i64 rfl (E rfl rfl) (E rfl rfl) (fun hg => by omega)) ?_
        refine Y1 (Yv.assign rfl eV) ?_
        refine nl ?_
        refine AW.mid (α := Unit) (fun _ => [(1, true, u8s bs), (2, true, .v (.pointer (some ⟨b2, 0, none⟩))), (4, true, .v (.pointer (some ⟨b4, 0, none⟩))), (5, true, .v (.pointer (some ⟨b5, 0, none⟩))), (6, true, .v (.int .i64 ((gE2 f bs : Nat) : Int))), (9, true, .v (.int .i64 (gUp f bs))), (10, true, .v (.int .i64 (gBs f bs)))]) (fun _ => [.box b2 45 (formCells f), .box b4 23 (insCells ⟨0, 0, 0, 0, 0, 0⟩), .box b5 23 (insCells ⟨f.kind, (gD0 f bs), 0, (gCd f bs), f.size, 0⟩)]) (fun _ => True) ?_ ?_
        ·
         refine AW.rseq ?_
         refine Y1 (Yv.fieldBox rfl fo_45_6 eV) ?_
         refine Y1 (Yv.loadBox rfl ag_3 (i := 0) rfl (E rfl rfl) rfl) ?_
         refine Y1 (Yv.eql rfl eV eV) ?_
         refine Y1 (Yv.move rfl eV) ?_
         refine AWL.ygT rfl rfl rfl rfl (B rfl) (Yv.move rfl (E rfl rfl)) ?_
         refine AWL.ygT rfl rfl rfl rfl (B rfl) (Yv.remN rfl (Eg rfl rfl id) (E rfl rfl) (fun hg => by first | omega | (simp only [Bool.and_eq_true, Bool.or_eq_false_iff, Bool.not_eq_true', Bool.not_eq_false', decide_eq_true_eq, decide_eq_false_iff_not] at hg; omega))) ?_
         refine AWL.ygT rfl rfl rfl rfl (B rfl) (Yv.eql rfl (Eg rfl rfl id) (E rfl rfl)) ?_
         refine Y1 (Yv.pickAnd rfl (E rfl rfl) (Eg rfl rfl id)) ?_
         refine nl ?_
         refine AW.cond rfl (fun h5t => ?_) (fun h5f => ?_)
         ·
          try replace h5t := of_decide_eq_true h5t
          refine AW.region ?_
          refine Y1 (Yv.move rfl eV) ?_
          refine Y1 (Yv.addN_i64 rfl (E rfl rfl) (E rfl rfl) (fun hg => by omega)) ?_
          refine Y1 (Yv.assign rfl eV) ?_
          refine nl ?_
          refine ⟨(), trivial, (Sub.cons rfl rfl (Sub.cons rfl rfl (Sub.cons rfl rfl (Sub.cons rfl rfl (Sub.cons rfl (by rw [gE2, if_pos (show (decide (f.mod = 2) && decide (gM f bs % 8 = 4)) = true from h5t)]; simp) (Sub.cons rfl rfl (Sub.cons rfl rfl Sub.nil))))))), rfl⟩
         try replace h5f := of_decide_eq_false h5f
         refine AW.skip ?_
         refine ⟨(), trivial, (Sub.cons rfl rfl (Sub.cons rfl rfl (Sub.cons rfl rfl (Sub.cons rfl rfl (Sub.cons rfl (by rw [gE2, if_neg (show ¬ (decide (f.mod = 2) && decide (gM f bs % 8 = 4)) = true from ne_true_of_eq_false h5f)]; simp) (Sub.cons rfl rfl (Sub.cons rfl rfl Sub.nil))))))), rfl⟩
        ·
         rintro _ hmid
         refine AW.mid (α := Unit) (fun _ => [(1, true, u8s bs), (2, true, .v (.pointer (some ⟨b2, 0, none⟩))), (4, true, .v (.pointer (some ⟨b4, 0, none⟩))), (5, true, .v (.pointer (some ⟨b5, 0, none⟩))), (6, true, .v (.int .i64 ((gE2 f bs : Nat) : Int))), (9, true, .v (.int .i64 (gUp f bs))), (10, true, .v (.int .i64 (gBs f bs)))]) (fun _ => [.box b2 45 (formCells f), .box b4 23 (insCells ⟨0, 0, 0, 0, 0, 0⟩), .box b5 23 (insCells ⟨f.kind, (gD1 f bs), 0, (gCd f bs), f.size, 0⟩)]) (fun _ => True) ?_ ?_
         ·
          refine AW.rseq ?_
          refine Y1 (Yv.fieldBox rfl fo_45_8 eV) ?_
          refine Y1 (Yv.loadBox rfl ag_3 (i := 0) rfl (E rfl rfl) rfl) ?_
          refine Y1 (Yv.eql rfl eV eV) ?_
          refine nl ?_
          refine AW.cond rfl (fun h6t => ?_) (fun h6f => ?_)
          ·
           try replace h6t := of_decide_eq_true h6t
           refine AW.region ?_
           refine Y1 (Yv.move rfl eV) ?_
           refine Y1 (Yv.fieldBox rfl fo_23_1 eV) ?_
           refine AWL.storeBox (i := 2) rfl rfl rfl ag_3 rfl (E rfl rfl) (E rfl rfl) rfl rfl (Nat.le_of_ble_eq_true rfl) ?_
           refine nl ?_
           refine ⟨(), trivial, (Sub.cons rfl rfl (Sub.cons rfl rfl (Sub.cons rfl rfl (Sub.cons rfl rfl (Sub.cons rfl rfl (Sub.cons rfl rfl (Sub.cons rfl rfl Sub.nil))))))), ?_⟩
           rw [gD1, if_pos h6t]
           rfl
          try replace h6f := of_decide_eq_false h6f
          refine AW.skip ?_
          refine ⟨(), trivial, (Sub.cons rfl rfl (Sub.cons rfl rfl (Sub.cons rfl rfl (Sub.cons rfl rfl (Sub.cons rfl rfl (Sub.cons rfl rfl (Sub.cons rfl rfl Sub.nil))))))), ?_⟩
          rw [gD1, if_neg h6f]
         ·
          rintro _ hmid
          refine AW.mid (α := Unit) (fun _ => [(1, true, u8s bs), (2, true, .v (.pointer (some ⟨b2, 0, none⟩))), (4, true, .v (.pointer (some ⟨b4, 0, none⟩))), (5, true, .v (.pointer (some ⟨b5, 0, none⟩))), (6, true, .v (.int .i64 ((gE2 f bs : Nat) : Int))), (9, true, .v (.int .i64 (gUp f bs))), (10, true, .v (.int .i64 (gBs f bs)))]) (fun _ => [.box b2 45 (formCells f), .box b4 23 (insCells ⟨0, 0, 0, 0, 0, 0⟩), .box b5 23 (insCells ⟨f.kind, (gD2 f bs), 0, (gCd f bs), f.size, 0⟩)]) (fun _ => True) ?_ ?_
          ·
           refine AW.rseq ?_
           refine Y1 (Yv.fieldBox rfl fo_45_8 eV) ?_
           refine Y1 (Yv.loadBox rfl ag_3 (i := 0) rfl (E rfl rfl) rfl) ?_
           refine Y1 (Yv.eql rfl eV eV) ?_
           refine nl ?_
           refine AW.cond rfl (fun h7t => ?_) (fun h7f => ?_)
           ·
            try replace h7t := of_decide_eq_true h7t
            refine AW.region ?_
            refine Y1 (Yv.move rfl eV) ?_
            refine Y1 (Yv.fieldBox rfl fo_23_1 eV) ?_
            refine AWL.storeBox (i := 2) rfl rfl rfl ag_3 rfl (E rfl rfl) (E rfl rfl) rfl rfl (Nat.le_of_ble_eq_true rfl) ?_
            refine nl ?_
            refine ⟨(), trivial, (Sub.cons rfl rfl (Sub.cons rfl rfl (Sub.cons rfl rfl (Sub.cons rfl rfl (Sub.cons rfl rfl (Sub.cons rfl rfl (Sub.cons rfl rfl Sub.nil))))))), ?_⟩
            rw [gD2, if_pos h7t]
            rfl
           try replace h7f := of_decide_eq_false h7f
           refine AW.skip ?_
           refine ⟨(), trivial, (Sub.cons rfl rfl (Sub.cons rfl rfl (Sub.cons rfl rfl (Sub.cons rfl rfl (Sub.cons rfl rfl (Sub.cons rfl rfl (Sub.cons rfl rfl Sub.nil))))))), ?_⟩
           rw [gD2, if_neg h7f]
          ·
           rintro _ hmid
           refine AW.mid (α := Unit) (fun _ => [(1, true, u8s bs), (2, true, .v (.pointer (some ⟨b2, 0, none⟩))), (4, true, .v (.pointer (some ⟨b4, 0, none⟩))), (5, true, .v (.pointer (some ⟨b5, 0, none⟩))), (6, true, .v (.int .i64 ((gE2 f bs : Nat) : Int))), (9, true, .v (.int .i64 (gUp f bs))), (10, true, .v (.int .i64 (gBs f bs)))]) (fun _ => [.box b2 45 (formCells f), .box b4 23 (insCells ⟨0, 0, 0, 0, 0, 0⟩), .box b5 23 (insCells ⟨f.kind, (gD2 f bs), (gS1 f bs), (gCd f bs), f.size, 0⟩)]) (fun _ => True) ?_ ?_
           ·
            refine AW.rseq ?_
            refine Y1 (Yv.fieldBox rfl fo_45_9 eV) ?_
            refine Y1 (Yv.loadBox rfl ag_3 (i := 0) rfl (E rfl rfl) rfl) ?_
            refine Y1 (Yv.eql rfl eV eV) ?_
            refine nl ?_
            refine AW.cond rfl (fun h8t => ?_) (fun h8f => ?_)
            ·
             try replace h8t := of_decide_eq_true h8t
             refine AW.region ?_
             refine Y1 (Yv.move rfl eV) ?_
             refine Y1 (Yv.fieldBox rfl fo_23_2 eV) ?_
             refine AWL.storeBox (i := 2) rfl rfl rfl ag_3 rfl (E rfl rfl) (E rfl rfl) rfl rfl (Nat.le_of_ble_eq_true rfl) ?_
             refine nl ?_
             refine ⟨(), trivial, (Sub.cons rfl rfl (Sub.cons rfl rfl (Sub.cons rfl rfl (Sub.cons rfl rfl (Sub.cons rfl rfl (Sub.cons rfl rfl (Sub.cons rfl rfl Sub.nil))))))), ?_⟩
             rw [gS1, if_pos h8t]
             rfl
            try replace h8f := of_decide_eq_false h8f
            refine AW.skip ?_
            refine ⟨(), trivial, (Sub.cons rfl rfl (Sub.cons rfl rfl (Sub.cons rfl rfl (Sub.cons rfl rfl (Sub.cons rfl rfl (Sub.cons rfl rfl (Sub.cons rfl rfl Sub.nil))))))), ?_⟩
            rw [gS1, if_neg h8f]
           ·
            rintro _ hmid
            refine AW.rseq ?_
            refine Y1 (Yv.fieldBox rfl fo_45_9 eV) ?_
            refine Y1 (Yv.loadBox rfl ag_3 (i := 0) rfl (E rfl rfl) rfl) ?_
            refine Y1 (Yv.eql rfl eV eV) ?_
            refine nl ?_
            refine AW.cond rfl (fun h9t => ?_) (fun h9f => ?_)
            ·
             try replace h9t := of_decide_eq_true h9t
             refine AW.region ?_
             refine Y1 (Yv.move rfl eV) ?_
             refine Y1 (Yv.fieldBox rfl fo_23_2 eV) ?_
             refine AWL.storeBox (i := 2) rfl rfl rfl ag_3 rfl (E rfl rfl) (E rfl rfl) rfl rfl (Nat.le_of_ble_eq_true rfl) ?_
             refine nl ?_
             refine ⟨(), trivial, (Sub.cons rfl rfl (Sub.cons rfl rfl (Sub.cons rfl rfl (Sub.cons rfl rfl (Sub.cons rfl (by rw [gE, if_pos h4t]) Sub.nil))))), ?_⟩
             rw [gDd, if_pos h4t, gSs, if_pos h4t, gS2, if_pos h9t]
             rfl
            try replace h9f := of_decide_eq_false h9f
            refine AW.skip ?_
            refine ⟨(), trivial, (Sub.cons rfl rfl (Sub.cons rfl rfl (Sub.cons rfl rfl (Sub.cons rfl rfl (Sub.cons rfl (by rw [gE, if_pos h4t]) Sub.nil))))), ?_⟩
            rw [gDd, if_pos h4t, gSs, if_pos h4t, gS2, if_neg h9f]
       try replace h4f := of_decide_eq_false h4f
       refine AW.skip ?_
       refine ⟨(), trivial, (Sub.cons rfl rfl (Sub.cons rfl rfl (Sub.cons rfl rfl (Sub.cons rfl rfl (Sub.cons rfl (by rw [gE, if_neg h4f]) Sub.nil))))), ?_⟩
       rw [gDd, if_neg h4f, gSs, if_neg h4f]
      ·
       rintro _ hmid
       refine AW.rseq ?_
       refine Y1 (Yv.assign rfl eV) ?_
       refine nl ?_
       refine AW.mid (α := Unit) (fun _ => [(1, true, u8s bs), (2, true, .v (.pointer (some ⟨b2, 0, none⟩))), (4, true, .v (.pointer (some ⟨b4, 0, none⟩))), (5, true, .v (.pointer (some ⟨b5, 0, none⟩))), (6, true, .v (.int .i64 ((gE f bs : Nat) : Int))), (12, true, .v (.int .i64 ((sizeR f.imm : Nat) : Int)))]) (fun _ => [.box b2 45 (formCells f), .box b4 23 (insCells ⟨0, 0, 0, 0, 0, 0⟩), .box b5 23 (insCells ⟨f.kind, (gDd f bs), (gSs f bs), (gCd f bs), f.size, 0⟩)]) (fun _ => True) ?_ ?_
       ·
        refine AW.rseq ?_
        refine Y1 (Yv.fieldBox rfl fo_45_11 eV) ?_
        refine Y1 (Yv.loadBox rfl ag_3 (i := 0) rfl (E rfl rfl) rfl) ?_
        refine nl ?_
        refine AW.block ?_
        refine AW.rseq ?_
        refine Y1 (Yv.eql rfl eV eV) ?_
        refine Y1 (Yv.assign rfl eV) ?_
        refine nl ?_
        refine AW.cond rfl (fun h10t => ?_) (fun h10f => ?_)
        ·
         try replace h10t := of_decide_eq_true h10t
         refine AW.region ?_
         refine Y1 (Yv.assign rfl eV) ?_
         refine nl ?_
         refine ⟨(), trivial, (Sub.cons rfl rfl (Sub.cons rfl rfl (Sub.cons rfl rfl (Sub.cons rfl rfl (Sub.cons rfl rfl (Sub.cons rfl (by rw [sizeR, if_pos h10t]; rfl) Sub.nil)))))), rfl⟩
        try replace h10f := of_decide_eq_false h10f
        refine AW.rseq ?_
        refine Y1 (Yv.eql rfl eV eV) ?_
        refine Y1 (Yv.assign rfl eV) ?_
        refine nl ?_
        refine AW.cond rfl (fun h11t => ?_) (fun h11f => ?_)
        ·
         try replace h11t := of_decide_eq_true h11t
         refine AW.region ?_
         refine Y1 (Yv.assign rfl eV) ?_
         refine nl ?_
         refine ⟨(), trivial, (Sub.cons rfl rfl (Sub.cons rfl rfl (Sub.cons rfl rfl (Sub.cons rfl rfl (Sub.cons rfl rfl (Sub.cons rfl (by rw [sizeR, if_neg h10f, if_pos h11t]; rfl) Sub.nil)))))), rfl⟩
        try replace h11f := of_decide_eq_false h11f
        refine AW.rseq ?_
        refine Y1 (Yv.eql rfl eV eV) ?_
        refine Y1 (Yv.assign rfl eV) ?_
        refine nl ?_
        refine AW.cond rfl (fun h12t => ?_) (fun h12f => ?_)
        ·
         try replace h12t := of_decide_eq_true h12t
         refine AW.region ?_
         refine Y1 (Yv.assign rfl eV) ?_
         refine nl ?_
         refine ⟨(), trivial, (Sub.cons rfl rfl (Sub.cons rfl rfl (Sub.cons rfl rfl (Sub.cons rfl rfl (Sub.cons rfl rfl (Sub.cons rfl (by rw [sizeR, if_neg h10f, if_neg h11f, if_pos h12t]; rfl) Sub.nil)))))), rfl⟩
        try replace h12f := of_decide_eq_false h12f
        refine AW.skip ?_
        refine ⟨(), trivial, (Sub.cons rfl rfl (Sub.cons rfl rfl (Sub.cons rfl rfl (Sub.cons rfl rfl (Sub.cons rfl rfl (Sub.cons rfl (by rw [sizeR, if_neg h10f, if_neg h11f, if_neg h12f]; rfl) Sub.nil)))))), rfl⟩
       ·
        rintro _ hmid
        refine AW.mid (α := Unit) (fun _ => [(1, true, u8s bs), (2, true, .v (.pointer (some ⟨b2, 0, none⟩))), (4, true, .v (.pointer (some ⟨b4, 0, none⟩))), (5, true, .v (.pointer (some ⟨b5, 0, none⟩)))]) (fun _ => [.box b2 45 (formCells f), .box b4 23 (insCells ⟨0, 0, 0, 0, 0, 0⟩), .box b5 23 (insCells ⟨f.kind, (gDd f bs), (gSs f bs), (gCd f bs), f.size, (gI f bs)⟩)]) (fun _ => True) ?_ ?_
        ·
         refine AW.rseq ?_
         refine Y1 (Yv.move rfl eV) ?_
         refine Y1 (Yv.gtr rfl eV eV) ?_
         refine nl ?_
         refine AW.cond rfl (fun h13t => ?_) (fun h13f => ?_)
         ·
          try replace h13t := of_decide_eq_true h13t
          refine AW.rseq ?_
          refine Y1 (Yv.assign rfl eV) ?_
          refine nl ?_
          refine AW.rowNil 5 1 ?_
          refine AW.seq ?_
          refine AW.rseq ?_
          refine Y1 (Yv.assign rfl eV) ?_
          refine nl ?_
          refine AW.block ?_
          refine AW.loop3 (fun (k : Nat) (Ao : Option Addr) (co : Nat) => [(1, true, u8s bs), (2, true, .v (.pointer (some ⟨b2, 0, none⟩))), (4, true, .v (.pointer (some ⟨b4, 0, none⟩))), (5, true, .v (.pointer (some ⟨b5, 0, none⟩))), (6, true, .v (.int .i64 ((gE f bs : Nat) : Int))), (12, true, .v (.int .i64 ((sizeR f.imm : Nat) : Int))), (13, true, .v (.slice Ao (part bs (gE f bs) k).length co)), (14, true, .v (.int .i64 (k : Int)))]) (fun (k : Nat) (Ao : Option Addr) (co : Nat) => [.box b2 45 (formCells f), .box b4 23 (insCells ⟨0, 0, 0, 0, 0, 0⟩), .box b5 23 (insCells ⟨f.kind, (gDd f bs), (gSs f bs), (gCd f bs), f.size, 0⟩), .row Ao (part bs (gE f bs) k).length co 5 1 ((part bs (gE f bs) k).map u8)]) (fun (k : Nat) (Ao : Option Addr) (co : Nat) => k ≤ sizeR f.imm) (fun (k : Nat) (Ao : Option Addr) (co : Nat) => sizeR f.imm - k) 0 none 0 ?_ ?_ ?_ ?_
          · exact Nat.zero_le _
          · exact (Sub.cons rfl rfl (Sub.cons rfl rfl (Sub.cons rfl rfl (Sub.cons rfl rfl (Sub.cons rfl rfl (Sub.cons rfl rfl (Sub.cons rfl rfl (Sub.cons rfl rfl Sub.nil))))))))
          · rfl
          ·
           intro k Ao co hinv
           have hpl := part_len bs (gE f bs) k
           have hbr := byteAt_range' bs (gE f bs + k)
           refine AW.seq ?_
           refine AW.rseq ?_
           refine Y1 (Yv.move rfl eV) ?_
           refine Y1 (Yv.move rfl eV) ?_
           refine Y1 (Yv.lss rfl eV eV) ?_
           refine nl ?_
           refine AW.cond rfl (fun h14t => ?_) (fun h14f => ?_)
           ·
            try replace h14t := of_decide_eq_true h14t
            refine AW.skip ?_
            refine AW.seq ?_
            refine AW.block ?_
            refine AW.region ?_
            refine Y1 (Yv.move rfl eV) ?_
            refine Y1 (Yv.move rfl eV) ?_
            refine Y1 (Yv.move rfl eV) ?_
            refine Y1 (Yv.move rfl eV) ?_
            refine Y1 (Yv.addN_i64 rfl (E rfl rfl) (E rfl rfl) (fun hg => by omega)) ?_
            rw [show (gE f bs : Int) + (k : Int) = ((gE f bs + k : Nat) : Int) from by omega]
            refine AWL.callT rfl rfl (B rfl) rfl ce_64 (E rfl rfl) (evsC (E rfl rfl) (evsC (E rfl rfl) evs0)) (byteAt64 bs (gE f bs + k) hbs (by omega)) ?_
            rintro t129 S129 rfl
            refine Y1 (Yv.convN_u8 rfl Tryd.underlying3 kd_5 (E rfl rfl) (fun hg => by omega)) ?_
            refine AWL.buildSlice1 rfl rfl (B rfl) rfl el_24 rfl (evsC (E rfl rfl) evs0) (Nat.le_of_ble_eq_true rfl) rfl rfl ?_
            refine AWL.appendRow (i := 3) rfl rfl (B rfl) rfl el_24 (B rfl) rfl (E rfl rfl) (SrcT.sl so_24 (B rfl) (E rfl rfl) rfl) (by unfold maxLen; omega) (by omega) (fun A132 c132 => ?_)
            refine Y1 (Yv.assign rfl eV) ?_
            refine nl ?_
            refine AW.region ?_
            refine Y1 (Yv.move rfl eV) ?_
            refine Y1 (Yv.addN_i64 rfl (E rfl rfl) (E rfl rfl) (fun hg => by omega)) ?_
            refine Y1 (Yv.assign rfl eV) ?_
            refine nl ?_
            have hps := part_succ bs (gE f bs) k
            refine ⟨k + 1, A132, c132, by omega, by omega, Sub.cons rfl rfl (Sub.cons rfl rfl (Sub.cons rfl rfl (Sub.cons rfl rfl (Sub.cons rfl rfl (Sub.cons rfl rfl (Sub.cons rfl (by rw [hps, List.length_append]; rfl) (Sub.cons rfl (by simp) Sub.nil))))))), ?_⟩
            rw [hps, List.map_append, List.length_append]
            rfl
           try replace h14f := of_decide_eq_false h14f
           refine AW.exit ?_
           obtain rfl : k = sizeR f.imm := by omega
           refine AW.freeze 3 13 rfl (B rfl) rfl ?_
           refine AW.region ?_
           refine Y1 (Yv.move rfl eV) ?_
           refine AWL.callT rfl rfl (B rfl) rfl ce_65 (E rfl rfl) (evsC (E rfl rfl) evs0) (signed65 (part bs (gE f bs) (sizeR f.imm)) (by rw [part_len]; omega)) ?_
           rintro t134 S134 rfl
           refine Y1 (Yv.fieldBox rfl fo_23_5 eV) ?_
           refine AWL.storeBox (i := 2) rfl rfl rfl ag_2 rfl (E rfl rfl) (E rfl rfl) rfl rfl (Nat.le_of_ble_eq_true rfl) ?_
           refine nl ?_
           refine ⟨(), trivial, (Sub.cons rfl rfl (Sub.cons rfl rfl (Sub.cons rfl rfl (Sub.cons rfl rfl Sub.nil)))), rfl⟩
         try replace h13f := of_decide_eq_false h13f
         refine AW.skip ?_
         refine ⟨(), trivial, (Sub.cons rfl rfl (Sub.cons rfl rfl (Sub.cons rfl rfl (Sub.cons rfl rfl Sub.nil)))), ?_⟩
         rw [gI, show sizeR f.imm = 0 by omega]
         rfl
        ·
         rintro _ hmid
         refine AW.rseq ?_
         refine Y1 (Yv.loadBoxA rfl ag_23 (i := 2) rfl (E rfl rfl) rfl rfl) ?_
         refine AWL.storeBox (i := 1) rfl rfl rfl ag_23 rfl (E rfl rfl) (E rfl rfl) rfl rfl (Nat.le_of_ble_eq_true rfl) ?_
         refine nl ?_
         refine AW.ret (retI (.cellA (i := 1) rfl ag_23 rfl rfl rfl .nil) ?_)
         rfl

end Go.Proofs.YtjndpakhmgapjaaDoor

namespace Go.Proofs.YtjndpakhmgapjaaDoor
open Go Go.RowKit
set_option linter.unusedVariables false
set_option linter.unnecessarySimpa false
set_option linter.unusedSimpArgs false

set_option maxHeartbeats 400000 in
theorem next63 (b : Nat) (bs : List UInt8) (r : Rd) (hb : bs.length ≤ 1099511627776) (hr : RdOk bs r) :
    ACalls Tryd.prog 58 [.v (.pointer (some ⟨b, 0, none⟩))] [Ent.box b 68 (rdCells bs r)] (fun t_ S => t_ = .v (.int .i64 (nextF bs r).1) ∧ S = [Ent.box b 68 (rdCells bs (nextF bs r).2)]) := by
  unfold RdOk at hr
  refine ACalls.intro Tryd.func58 rfl Tryd.ntmps58 (Nat.le_of_ble_eq_true rfl) rfl fun X w0 => ?_
  refine AW.rseq ?_
  refine Y1 (Yv.assign rfl eV) ?_
  refine nl ?_
  refine AW.seq ?_
  refine AW.rseq ?_
  refine Y1 (Yv.move rfl eV) ?_
  refine Y1 (Yv.nilChk rfl eV) ?_
  refine Y1 (Yv.fieldBox rfl fo_68_2 eV) ?_
  refine Y1 (Yv.loadBox rfl ag_4 (i := 0) rfl (E rfl rfl) rfl) ?_
  refine Y1 (Yv.move rfl eV) ?_
  refine AWL.ygF rfl rfl rfl rfl (B rfl) (Yv.move rfl (E rfl rfl)) ?_
  refine AWL.ygF rfl rfl rfl rfl (B rfl) (Yv.nilChk rfl (Eg rfl rfl id)) ?_
  refine AWL.ygF rfl rfl rfl rfl (B rfl) (Yv.fieldBox rfl fo_68_3 (Eg rfl rfl id)) ?_
  refine AWL.ygF rfl rfl rfl rfl (B rfl) (Yv.loadBox rfl ag_4 (i := 0) rfl (Eg rfl rfl id) rfl) ?_
  refine Y1 (Yv.pickOr (t := .const (.bool true)) rfl (E rfl rfl) (Eg rfl rfl id)) ?_
  refine nl ?_
  refine AW.cond rfl (fun h0t => ?_) (fun h0f => ?_)
  ·
   try replace h0t := of_decide_eq_true h0t
   refine AW.rseq ?_
   refine Y1 (Yv.assign rfl eV) ?_
   refine nl ?_
   refine AW.ret (retI (.tmp rfl .nil) ?_)
   rw [nextF, if_pos h0t]
   exact ⟨rfl, rfl⟩
  try replace h0f := of_decide_eq_false h0f
  refine AW.skip ?_
  refine AW.seq ?_
  refine AW.rseqQ rfl (by kernel_rfl) ?_
  refine AWQ.y rfl rfl (B rfl) (Yv.move rfl (E rfl rfl)) ?_
  refine AWQ.y rfl rfl (B rfl) (Yv.nilChk rfl (E rfl rfl)) ?_
  refine AWQ.y rfl rfl (B rfl) (Yv.fieldBox rfl fo_68_1 (E rfl rfl)) ?_
  refine AWQ.y rfl rfl (B rfl) (Yv.loadBox rfl ag_3 (i := 0) rfl (E rfl rfl) rfl) ?_
  refine AWQ.y rfl rfl (B rfl) (Yv.move rfl (E rfl rfl)) ?_
  refine AWQ.y rfl rfl (B rfl) (Yv.nilChk rfl (E rfl rfl)) ?_
  refine AWQ.y rfl rfl (B rfl) (Yv.fieldBox rfl fo_68_0 (E rfl rfl)) ?_
  refine AWQ.y rfl rfl (B rfl) (Yv.loadBox rfl ag_24 (i := 0) rfl (E rfl rfl) rfl) ?_
  refine AWQ.y rfl rfl (B rfl) (Yv.lenSl rfl so_24 (B rfl) (E rfl rfl) len_u8s) ?_
  refine AWQ.y rfl rfl (B rfl) (Yv.eql rfl (E rfl rfl) (E rfl rfl)) ?_
  refine AWQ.nil ?_
  refine AW.cond rfl (fun h1t => ?_) (fun h1f => ?_)
  ·
   try replace h1t := of_decide_eq_true h1t
   refine AW.rseq ?_
   refine Y1 (Yv.move rfl eV) ?_
   refine Y1 (Yv.nilChk rfl eV) ?_
   refine Y1 (Yv.fieldBox rfl fo_68_2 eV) ?_
   refine AWL.storeBox (i := 0) rfl rfl rfl ag_4 rfl (E rfl rfl) (E rfl rfl) rfl rfl (Nat.le_of_ble_eq_true rfl) ?_
   refine nl ?_
   refine AW.rseq ?_
   refine Y1 (Yv.assign rfl eV) ?_
   refine nl ?_
   refine AW.ret (retI (.tmp rfl .nil) ?_)
   rw [nextF, if_neg (ne_true_of_eq_false h0f), if_pos (by omega)]
   exact ⟨rfl, rfl⟩
  try replace h1f := of_decide_eq_false h1f
  refine AW.skip ?_
  refine AW.rseq ?_
  refine Y1 (Yv.move rfl eV) ?_
  refine Y1 (Yv.nilChk rfl eV) ?_
  refine Y1 (Yv.fieldBox rfl fo_68_1 eV) ?_
  refine Y1 (Yv.loadBox rfl ag_3 (i := 0) rfl (E rfl rfl) rfl) ?_
  refine Y1 (Yv.addN_i64 rfl (E rfl rfl) (E rfl rfl) (fun hg => by omega)) ?_
  refine Y1 (Yv.nilChk rfl eV) ?_
  refine Y1 (Yv.fieldBox rfl fo_68_1 eV) ?_
  refine AWL.storeBox (i := 0) rfl rfl rfl ag_3 rfl (E rfl rfl) (E rfl rfl) rfl rfl (Nat.le_of_ble_eq_true rfl) ?_
  refine nl ?_
  refine AW.rseqQ rfl (by kernel_rfl) ?_
  refine AWQ.y rfl rfl (B rfl) (Yv.move rfl (E rfl rfl)) ?_
  refine AWQ.y rfl rfl (B rfl) (Yv.nilChk rfl (E rfl rfl)) ?_
  refine AWQ.y rfl rfl (B rfl) (Yv.fieldBox rfl fo_68_0 (E rfl rfl)) ?_
  refine AWQ.y rfl rfl (B rfl) (Yv.loadBox rfl ag_24 (i := 0) rfl (E rfl rfl) rfl) ?_
  refine AWQ.y rfl rfl (B rfl) (Yv.move rfl (E rfl rfl)) ?_
  refine AWQ.y rfl rfl (B rfl) (Yv.nilChk rfl (E rfl rfl)) ?_
  refine AWQ.y rfl rfl (B rfl) (Yv.fieldBox rfl fo_68_1 (E rfl rfl)) ?_
  refine AWQ.y rfl rfl (B rfl) (Yv.loadBox rfl ag_3 (i := 0) rfl (E rfl rfl) rfl) ?_
  refine AWQ.y rfl rfl (B rfl) (Yv.subN_i64 rfl (E rfl rfl) (E rfl rfl) (fun hg => by omega)) ?_
  refine AWQ.y rfl rfl (B rfl) (Yv.indexSl (j := r.at_) rfl ss_24 (B rfl) (E rfl rfl) (E rfl rfl) (fun hg => ⟨by omega, by simp only [len_u8s]; omega⟩)) ?_
  refine AWQ.y rfl rfl (B rfl) (Yv.loadRp rfl ag_5 (E rfl rfl) (fun hg => u8_get (by omega))) ?_
  refine AWQ.y rfl rfl (B rfl) (Yv.convU8 rfl Tryd.underlying5 kd_3 rfl (E rfl rfl)) ?_
  refine AWQ.y rfl rfl (B rfl) (Yv.assign rfl (E rfl rfl)) ?_
  refine AWQ.nil ?_
  refine AW.ret (retI (.tmp rfl .nil) ?_)
  rw [nextF, if_neg (ne_true_of_eq_false h0f), if_neg (by omega)]
  exact ⟨rfl, rfl⟩

set_option maxHeartbeats 400000 in
theorem must64 (b : Nat) (bs : List UInt8) (r : Rd) (is : Bool) :
    ACalls Tryd.prog 59 [.v (.pointer (some ⟨b, 0, none⟩)), .v (.bool is)] [Ent.box b 68 (rdCells bs r)] (fun t_ S => S = [Ent.box b 68 (rdCells bs (mustF r is))]) := by
  refine ACalls.intro Tryd.func59 rfl Tryd.ntmps59 (Nat.le_of_ble_eq_true rfl) rfl fun X w0 => ?_
  refine AW.rseq ?_
  refine Y1 (Yv.move rfl eV) ?_
  refine Y1 (Yv.nilChk rfl eV) ?_
  refine Y1 (Yv.fieldBox rfl fo_68_2 eV) ?_
  refine Y1 (Yv.loadBox rfl ag_4 (i := 0) rfl (E rfl rfl) rfl) ?_
  refine Y1 (Yv.not rfl eV) ?_
  refine Y1 (Yv.move rfl eV) ?_
  refine AWL.ygT rfl rfl rfl rfl (B rfl) (Yv.move rfl (E rfl rfl)) ?_
  refine AWL.ygT rfl rfl rfl rfl (B rfl) (Yv.not rfl (Eg rfl rfl id)) ?_
  refine Y1 (Yv.pickAnd rfl (E rfl rfl) (Eg rfl rfl id)) ?_
  refine nl ?_
  refine AW.cond rfl (fun h0t => ?_) (fun h0f => ?_)
  ·
   try replace h0t := of_decide_eq_true h0t
   refine AW.region ?_
   refine Y1 (Yv.move rfl eV) ?_
   refine Y1 (Yv.nilChk rfl eV) ?_
   refine Y1 (Yv.fieldBox rfl fo_68_3 eV) ?_
   refine AWL.storeBox (i := 0) rfl rfl rfl ag_4 rfl (E rfl rfl) (E rfl rfl) rfl rfl (Nat.le_of_ble_eq_true rfl) ?_
   refine nl ?_
   refine retN .nil ?_
   rw [mustF, if_pos h0t] <;> rfl
  try replace h0f := of_decide_eq_false h0f
  refine AW.skip ?_
  refine retN .nil ?_
  rw [mustF, if_neg (ne_true_of_eq_false h0f)] <;> rfl

set_option maxHeartbeats 400000 in
theorem split66 (x : Int) (h0 : 0 ≤ x) (h1 : x ≤ 255) :
    ACalls Tryd.prog 61 [.v (.int .i64 x)] [] (fun t_ S => t_ = rxT (splitF x)) := by
  refine ACalls.intro Tryd.func61 rfl Tryd.ntmps61 (Nat.le_of_ble_eq_true rfl) rfl fun X w0 => ?_
  refine AW.rseq ?_
  refine AWL.allocOp rfl rfl (B rfl) rfl zc_87 (fun b2 => ?_)
  refine nl ?_
  refine AW.rseq ?_
  refine Y1 (Yv.move rfl eV) ?_
  refine Y1 (Yv.shrC 8 (by decide) (by decide) (by decide) rfl (E rfl rfl) (E rfl rfl)) ?_
  refine Y1 (Yv.andN_i64 1 2 (by decide) (by decide) (by decide) rfl (E rfl rfl) (E rfl rfl) (fun hg => ⟨by omega, by omega⟩)) ?_
  refine Y1 (Yv.move rfl eV) ?_
  refine Y1 (Yv.shrC 4 (by decide) (by decide) (by decide) rfl (E rfl rfl) (E rfl rfl)) ?_
  refine Y1 (Yv.andN_i64 1 2 (by decide) (by decide) (by decide) rfl (E rfl rfl) (E rfl rfl) (fun hg => ⟨by omega, by omega⟩)) ?_
  refine Y1 (Yv.shlCN_i64 8 (by decide) (by decide) rfl (E rfl rfl) (E rfl rfl) (fun hg => by omega)) ?_
  refine Y1 (Yv.move rfl eV) ?_
  refine Y1 (Yv.andN_i64 1 2 (by decide) (by decide) (by decide) rfl (E rfl rfl) (E rfl rfl) (fun hg => ⟨by omega, by omega⟩)) ?_
  refine Y1 (Yv.shlCN_i64 8 (by decide) (by decide) rfl (E rfl rfl) (E rfl rfl) (fun hg => by omega)) ?_
  refine Y1 (Yv.buildS rfl sh_87 (evpC (E rfl rfl) (evpC (E rfl rfl) (evpC (E rfl rfl) evp0))) (fun _ => rfl)) ?_
  refine AWL.storeBox (i := 0) rfl rfl rfl ag_87 rfl (E rfl rfl) (E rfl rfl) rfl rfl (Nat.le_of_ble_eq_true rfl) ?_
  refine nl ?_
  refine AW.ret (retI (.cellA (i := 0) rfl ag_87 rfl rfl rfl .nil) ?_)
  rfl

set_option maxHeartbeats 1000000 in
theorem imm68 (b : Nat) (bs : List UInt8) (r : Rd) (hb : bs.length ≤ 1099511627776) (hr : RdOk bs r) (k : Nat) (hk : k = 1 ∨ k = 4 ∨ k = 8) :
    ACalls Tryd.prog 63 [.v (.pointer (some ⟨b, 0, none⟩)), .v (.int .i64 (k : Int))] [Ent.box b 68 (rdCells bs r)] (fun t_ S => t_ = .v (.int .i64 (immV bs r k)) ∧ S = [Ent.box b 68 (rdCells bs (immD bs r k))]) := by
  refine ACalls.intro Tryd.func63 rfl Tryd.ntmps63 (Nat.le_of_ble_eq_true rfl) rfl fun X w0 => ?_
  refine AW.rseq ?_
  refine Y1 (Yv.assign rfl eV) ?_
  refine nl ?_
  refine AW.rseq ?_
  refine Y1 (Yv.assign rfl eV) ?_
  refine nl ?_
  refine AW.seq ?_
  refine AW.rseq ?_
  refine Y1 (Yv.move rfl eV) ?_
  refine Y1 (Yv.move rfl eV) ?_
  refine nl ?_
  refine AW.block ?_
  refine AW.loop (fun (j : Nat) => [(0, true, .v (.pointer (some ⟨b, 0, none⟩))), (1, true, .v (.int .i64 (k : Int))), (5, true, .v (.int .u64 (immS bs r j).1)), (8, true, .v (.int .i64 (k : Int))), (9, true, .v (.int .i64 (j : Int)))]) (fun (j : Nat) => [Ent.box b 68 (rdCells bs (immS bs r j).2)]) (fun (j : Nat) => j ≤ k) (fun (j : Nat) => k - j) 0 ?_ ?_ ?_ ?_
  · exact Nat.zero_le _
  · exact (Sub.cons rfl rfl (Sub.cons rfl rfl (Sub.cons rfl rfl (Sub.cons rfl rfl (Sub.cons rfl rfl Sub.nil)))))
  · rfl
  ·
   intro j hinv
   refine AW.rseq ?_
   refine Y1 (Yv.lss rfl eV eV) ?_
   refine nl ?_
   refine AW.seq ?_
   refine AW.cond rfl (fun h0t => ?_) (fun h0f => ?_)
   ·
    try replace h0t := of_decide_eq_true h0t
    refine AW.skip ?_
    refine AW.seq ?_
    refine AW.block ?_
    refine AW.rseq ?_
    refine Y1 (Yv.move rfl eV) ?_
    refine Y1 (Yv.assign rfl eV) ?_
    refine nl ?_
    obtain ⟨hv0, hv1⟩ := next_range bs (immS bs r j).2
    obtain ⟨hn0, hn1⟩ := imm_range bs r j
    refine AW.region ?_
    refine Y1 (Yv.move rfl eV) ?_
    refine Y1 (Yv.move rfl eV) ?_
    refine C1 rfl ce_58 (E rfl rfl) (evsC (E rfl rfl) evs0) (S1 := [Ent.box b 68 (rdCells bs (immS bs r j).2)]) (S2 := _) rfl (next63 b bs (immS bs r j).2 hb (imm_ok hr j)) ?_
    rintro t14 S14 ⟨rfl, rfl⟩
    refine Y1 (Yv.convN_u64 rfl Tryd.underlying3 kd_78 (E rfl rfl) (fun hg => by omega)) ?_
    refine Y1 (Yv.move rfl eV) ?_
    refine Y1 (Yv.mulN_i64 rfl (E rfl rfl) (E rfl rfl) (fun hg => by omega)) ?_
    refine Y1 (Yv.shl rfl (E rfl rfl) (E rfl rfl) (fun hg => by omega)) ?_
    refine Y1 (Yv.bits rfl rfl (E rfl rfl) (E rfl rfl)) ?_
    rw [or_shl (by omega) hn0 hn1 hv0 hv1]
    refine Y1 (Yv.assign rfl eV) ?_
    refine nl ?_
    refine AW.region ?_
    refine Y1 (Yv.addN_i64 rfl (E rfl rfl) (E rfl rfl) (fun hg => by omega)) ?_
    refine Y1 (Yv.move rfl eV) ?_
    refine nl ?_
    exact ⟨j + 1, by omega, by omega, Sub.cons rfl rfl (Sub.cons rfl rfl (Sub.cons rfl rfl (Sub.cons rfl rfl (Sub.cons rfl (by simp) Sub.nil)))), rfl⟩
   try replace h0f := of_decide_eq_false h0f
   refine AW.exit ?_
   obtain rfl : j = k := by omega
   obtain ⟨hn0, hn1⟩ := imm_range bs r j
   refine AW.rseq ?_
   refine Y1 (Yv.move rfl eV) ?_
   refine Y1 (Yv.mulN_i64 rfl (E rfl rfl) (E rfl rfl) (fun hg => by omega)) ?_
   refine Y1 (Yv.subN_i64 rfl (E rfl rfl) (E rfl rfl) (fun hg => by omega)) ?_
   refine Y1 (Yv.assign rfl eV) ?_
   refine nl ?_
   refine AW.rseq ?_
   refine Y1 (Yv.move rfl eV) ?_
   refine Y1 (Yv.move rfl eV) ?_
   refine Y1 (Yv.shl rfl (E rfl rfl) (E rfl rfl) (fun hg => by omega)) ?_
   refine Y1 (Yv.conv rfl Tryd.underlying78 kd_2 (E rfl rfl)) ?_
   refine Y1 (Yv.move rfl eV) ?_
   refine Y1 (Yv.shr rfl (E rfl rfl) (E rfl rfl) (fun hg => by omega)) ?_
   refine Y1 (Yv.assign rfl eV) ?_
   refine nl ?_
   refine AW.ret (retI (.tmp rfl .nil) ?_)
   refine ⟨?_, rfl⟩
   show T.v (.int .i64 _) = T.v (.int .i64 _)
   rw [immV, ← sgn_eq hk hn0 hn1]

set_option maxHeartbeats 400000 in
theorem two78 (b : Nat) (bs : List UInt8) (r : Rd) (hb : bs.length ≤ 1099511627776) (hr : RdOk bs r) (x : Rx) :
    ACalls Tryd.prog 78 [.v (.pointer (some ⟨b, 0, none⟩)), rxT x] [Ent.box b 68 (rdCells bs r)] (fun t_ S => t_ = .tup [.v (.int .i64 (twoV bs x r).1), .v (.int .i64 (twoV bs x r).2)] ∧ ∃ E, S = Ent.box b 68 (rdCells bs (twoD bs r)) :: E) := by
  obtain ⟨hx0, hx1⟩ := next_range bs r
  refine ACalls.intro Tryd.func78 rfl Tryd.ntmps78 (Nat.le_of_ble_eq_true rfl) rfl fun X w0 => ?_
  refine AW.rseq ?_
  refine AWL.boxOp rfl rfl (B rfl) rfl (E rfl rfl) rfl (fun b3 => ?_)
  refine Y1 (Yv.assign rfl eV) ?_
  refine Y1 (Yv.assign rfl eV) ?_
  refine nl ?_
  refine AW.rseq ?_
  refine Y1 (Yv.move rfl eV) ?_
  refine C1 rfl ce_58 (E rfl rfl) (evsC (E rfl rfl) evs0) (S1 := [Ent.box b 68 (rdCells bs r)]) (S2 := _) rfl (next63 b bs r hb hr) ?_
  rintro t8 S8 ⟨rfl, rfl⟩
  refine Y1 (Yv.assign rfl eV) ?_
  refine nl ?_
  refine AW.rseq ?_
  refine Y1 (Yv.move rfl eV) ?_
  refine Y1 (Yv.move rfl eV) ?_
  refine Y1 (Yv.shrC 64 (by decide) (by decide) (by decide) rfl (E rfl rfl) (E rfl rfl)) ?_
  refine Y1 (Yv.eql rfl eV eV) ?_
  refine C1 rfl ce_59 (E rfl rfl) (evsC (E rfl rfl) (evsC (E rfl rfl) evs0)) (S1 := [Ent.box b 68 (rdCells bs (nextF bs r).2)]) (S2 := _) rfl (must64 b bs (nextF bs r).2 (decide ((nextF bs r).1 / 64 = 3))) ?_
  rintro t13 S13 rfl
  refine nl ?_
  refine AW.rseqQ rfl (by kernel_rfl) ?_
  refine AWQ.y rfl rfl (B rfl) (Yv.fieldBox rfl fo_87_1 (E rfl rfl)) ?_
  refine AWQ.y rfl rfl (B rfl) (Yv.loadBox rfl ag_3 (i := 1) rfl (E rfl rfl) rfl) ?_
  refine AWQ.y rfl rfl (B rfl) (Yv.move rfl (E rfl rfl)) ?_
  refine AWQ.y rfl rfl (B rfl) (Yv.shrC 8 (by decide) (by decide) (by decide) rfl (E rfl rfl) (E rfl rfl)) ?_
  refine AWQ.y rfl rfl (B rfl) (Yv.andN_i64 3 8 (by decide) (by decide) (by decide) rfl (E rfl rfl) (E rfl rfl) (fun hg => ⟨by omega, by omega⟩)) ?_
  refine AWQ.y rfl rfl (B rfl) (Yv.bits rfl rfl (E rfl rfl) (E rfl rfl)) ?_
  refine AWQ.y rfl rfl (B rfl) (Yv.fieldBox rfl fo_87_2 (E rfl rfl)) ?_
  refine AWQ.y rfl rfl (B rfl) (Yv.loadBox rfl ag_3 (i := 1) rfl (E rfl rfl) rfl) ?_
  refine AWQ.y rfl rfl (B rfl) (Yv.move rfl (E rfl rfl)) ?_
  refine AWQ.y rfl rfl (B rfl) (Yv.andN_i64 3 8 (by decide) (by decide) (by decide) rfl (E rfl rfl) (E rfl rfl) (fun hg => ⟨by omega, by omega⟩)) ?_
  refine AWQ.y rfl rfl (B rfl) (Yv.bits rfl rfl (E rfl rfl) (E rfl rfl)) ?_
  refine AWQ.y rfl rfl (B rfl) (Yv.assign rfl (E rfl rfl)) ?_
  refine AWQ.y rfl rfl (B rfl) (Yv.assign rfl (E rfl rfl)) ?_
  refine AWQ.nil ?_
  refine AW.ret (retI (.tmp rfl (.tmp rfl .nil)) ?_)
  exact ⟨rfl, _, rfl⟩

set_option maxHeartbeats 400000 in
theorem one76 (b : Nat) (bs : List UInt8) (r : Rd) (hb : bs.length ≤ 1099511627776) (hr : RdOk bs r) (x : Rx) :
    ACalls Tryd.prog 76 [.v (.pointer (some ⟨b, 0, none⟩)), rxT x] [Ent.box b 68 (rdCells bs r)] (fun t_ S => t_ = .tup [.v (.int .i64 (oneV bs x r).1), .v (.int .i64 (oneV bs x r).2)] ∧ ∃ E, S = Ent.box b 68 (rdCells bs (oneD bs x r)) :: E) := by
  refine ACalls.intro Tryd.func76 rfl Tryd.ntmps76 (Nat.le_of_ble_eq_true rfl) rfl fun X w0 => ?_
  refine AW.rseq ?_
  refine AWL.boxOp rfl rfl (B rfl) rfl (E rfl rfl) rfl (fun b3 => ?_)
  refine Y1 (Yv.assign rfl eV) ?_
  refine Y1 (Yv.assign rfl eV) ?_
  refine nl ?_
  refine AW.rseq ?_
  refine Y1 (Yv.move rfl eV) ?_
  refine Y1 (Yv.fieldBox rfl fo_87_1 eV) ?_
  refine Y1 (Yv.loadBox rfl ag_3 (i := 1) rfl (E rfl rfl) rfl) ?_
  refine Y1 (Yv.eql rfl eV eV) ?_
  refine C1 rfl ce_59 (E rfl rfl) (evsC (E rfl rfl) (evsC (E rfl rfl) evs0)) (S1 := [Ent.box b 68 (rdCells bs r)]) (S2 := _) rfl (must64 b bs r (decide (x.reg = 0))) ?_
  rintro t10 S10 rfl
  refine nl ?_
  refine AW.rseq ?_
  refine Y1 (Yv.move rfl eV) ?_
  refine Y1 (Yv.loadBoxA rfl ag_87 (i := 1) rfl (E rfl rfl) rfl rfl) ?_
  refine C1 rfl ce_78 (E rfl rfl) (evsC (E rfl rfl) (evsC (E rfl rfl) evs0)) (S1 := [Ent.box b 68 (rdCells bs (mustF r (decide (x.reg = 0))))]) (S2 := _) rfl (two78 b bs (mustF r (decide (x.reg = 0))) hb (must_ok hr _) x) ?_
  rintro t14 S14 ⟨rfl, E14, rfl⟩
  refine AWL.tuck ?_
  refine Y1 (Yv.move rfl eV) ?_
  refine Y1 (Yv.extract rfl eV rfl) ?_
  refine Y1 (Yv.extract rfl eV rfl) ?_
  refine Y1 (Yv.assign rfl eV) ?_
  refine Y1 (Yv.assign rfl eV) ?_
  refine nl ?_
  refine AW.rseq ?_
  refine Y1 (Yv.move rfl eV) ?_
  refine Y1 (Yv.move rfl eV) ?_
  refine Y1 (Yv.assign rfl eV) ?_
  refine Y1 (Yv.assign rfl eV) ?_
  refine nl ?_
  refine AW.ret (retI (.tmp rfl (.tmp rfl .nil)) ?_)
  exact ⟨rfl, _, rfl⟩

set_option maxHeartbeats 1000000 in
theorem mem74 (b : Nat) (bs : List UInt8) (r : Rd) (hb : bs.length ≤ 1099511627776) (hr : RdOk bs r) (x : Rx) :
    ACalls Tryd.prog 74 [.v (.pointer (some ⟨b, 0, none⟩)), rxT x] [Ent.box b 68 (rdCells bs r)] (fun t_ S => t_ = .tup [.v (.int .i64 (memV bs x r).1), .v (.int .i64 (memV bs x r).2.1), .v (.int .i64 (memV bs x r).2.2)] ∧ ∃ E, S = Ent.box b 68 (rdCells bs (memD bs r)) :: E) := by
  obtain ⟨hx0, hx1⟩ := next_range bs r
  have hok1 : RdOk bs (memD1 bs r) := must_ok (next_ok hr) _
  have hok2 : RdOk bs (memD2 bs r) := by
    unfold memD2
    split
    · exact must_ok (next_ok hok1) _
    · exact hok1
  refine ACalls.intro Tryd.func74 rfl Tryd.ntmps74 (Nat.le_of_ble_eq_true rfl) rfl fun X w0 => ?_
  refine AW.rseq ?_
  refine AWL.boxOp rfl rfl (B rfl) rfl (E rfl rfl) rfl (fun b3 => ?_)
  refine Y1 (Yv.assign rfl eV) ?_
  refine Y1 (Yv.assign rfl eV) ?_
  refine Y1 (Yv.assign rfl eV) ?_
  refine nl ?_
  refine AW.rseq ?_
  refine Y1 (Yv.move rfl eV) ?_
  refine C1 rfl ce_58 (E rfl rfl) (evsC (E rfl rfl) evs0) (S1 := [Ent.box b 68 (rdCells bs r)]) (S2 := _) rfl (next63 b bs r hb hr) ?_
  rintro t9 S9 ⟨rfl, rfl⟩
  refine Y1 (Yv.assign rfl eV) ?_
  refine nl ?_
  refine AW.rseq ?_
  refine Y1 (Yv.move rfl eV) ?_
  refine Y1 (Yv.move rfl eV) ?_
  refine Y1 (Yv.shrC 64 (by decide) (by decide) (by decide) rfl (E rfl rfl) (E rfl rfl)) ?_
  refine Y1 (Yv.eql rfl eV eV) ?_
  refine C1 rfl ce_59 (E rfl rfl) (evsC (E rfl rfl) (evsC (E rfl rfl) evs0)) (S1 := [Ent.box b 68 (rdCells bs (nextF bs r).2)]) (S2 := _) rfl (must64 b bs (nextF bs r).2 (decide ((nextF bs r).1 / 64 = 2))) ?_
  rintro t14 S14 rfl
  refine nl ?_
  refine AW.mid (α := Unit) (fun _ => [(0, true, .v (.pointer (some ⟨b, 0, none⟩))), (3, true, .v (.pointer (some ⟨b3, 0, none⟩))), (7, true, .v (.int .i64 (nextF bs r).1))]) (fun _ => [Ent.box b 68 (rdCells bs (memD2 bs r)), .box b3 87 (rxCells x)]) (fun _ => True) ?_ ?_
  ·
   refine AW.rseq ?_
   refine Y1 (Yv.move rfl eV) ?_
   refine Y1 (Yv.andN_i64 3 8 (by decide) (by decide) (by decide) rfl (E rfl rfl) (E rfl rfl) (fun hg => ⟨by omega, by omega⟩)) ?_
   refine Y1 (Yv.eql rfl eV eV) ?_
   refine nl ?_
   refine AW.cond rfl (fun h0t => ?_) (fun h0f => ?_)
   ·
    try replace h0t := of_decide_eq_true h0t
    replace h0t : (nextF bs r).1 % 8 = 4 := h0t
    refine AW.region ?_
    refine Y1 (Yv.move rfl eV) ?_
    refine Y1 (Yv.move rfl eV) ?_
    refine C1 rfl ce_58 (E rfl rfl) (evsC (E rfl rfl) evs0) (S1 := [Ent.box b 68 (rdCells bs (memD1 bs r))]) (S2 := _) rfl (next63 b bs (memD1 bs r) hb hok1) ?_
    rintro t20 S20 ⟨rfl, rfl⟩
    refine Y1 (Yv.eql rfl eV eV) ?_
    refine C1 rfl ce_59 (E rfl rfl) (evsC (E rfl rfl) (evsC (E rfl rfl) evs0)) (S1 := [Ent.box b 68 (rdCells bs (nextF bs (memD1 bs r)).2)]) (S2 := _) rfl (must64 b bs (nextF bs (memD1 bs r)).2 (decide ((nextF bs (memD1 bs r)).1 = 36))) ?_
    rintro t22 S22 rfl
    refine nl ?_
    refine ⟨(), trivial, (Sub.cons rfl rfl (Sub.cons rfl rfl (Sub.cons rfl rfl Sub.nil))), ?_⟩
    rw [memD2, if_pos h0t]
    rfl
   try replace h0f := of_decide_eq_false h0f
   replace h0f : ¬ (nextF bs r).1 % 8 = 4 := h0f
   refine AW.skip ?_
   refine ⟨(), trivial, (Sub.cons rfl rfl (Sub.cons rfl rfl (Sub.cons rfl rfl Sub.nil))), ?_⟩
   rw [memD2, if_neg h0f]
   rfl
  ·
   rintro _ hmid
   refine AW.rseqH (HeldBox b3 (rxVals x)) rfl (tells_box (k := 1) rfl) ?_
   refine AWH.tk (i := 0) rfl rfl rfl (B rfl) (heldAll (freeField rfl fo_87_1 (E rfl rfl))) ?_
   refine AWH.tk (i := 1) rfl rfl rfl (B rfl) (heldLoad rfl ag_3 (E rfl rfl) rfl) ?_
   refine AWH.tk (i := 2) rfl rfl rfl (B rfl) (heldAll (freeMove rfl (E rfl rfl))) ?_
   refine AWH.tk (i := 3) rfl rfl rfl (B rfl) (heldAll (freeShrC 8 (by decide) (by decide) (by decide) rfl (E rfl rfl) (E rfl rfl))) ?_
   refine AWH.tk (i := 4) rfl rfl rfl (B rfl) (heldAll (freeAndN_i64 3 8 (by decide) (by decide) (by decide) rfl (E rfl rfl) (E rfl rfl) ⟨by omega, by omega⟩)) ?_
   refine AWH.tk (i := 5) rfl rfl rfl (B rfl) (heldAll (freeBits rfl rfl (E rfl rfl) (E rfl rfl))) ?_
   refine AWH.tk (i := 6) rfl rfl rfl (B rfl) (heldAll (freeField rfl fo_87_2 (E rfl rfl))) ?_
   refine AWH.tk (i := 7) rfl rfl rfl (B rfl) (heldLoad rfl ag_3 (E rfl rfl) rfl) ?_
   refine AWH.tk (i := 8) rfl rfl rfl (B rfl) (heldAll (freeMove rfl (E rfl rfl))) ?_
   refine AWH.tk (i := 9) rfl rfl rfl (B rfl) (heldAll (freeAndN_i64 3 8 (by decide) (by decide) (by decide) rfl (E rfl rfl) (E rfl rfl) ⟨by omega, by omega⟩)) ?_
   refine AWH.tk (i := 10) rfl rfl rfl (B rfl) (heldAll (freeBits rfl rfl (E rfl rfl) (E rfl rfl))) ?_
   refine AWH.one (i := 11) (by kernel_rfl) rfl ?_
   refine Y1 (Yv.move rfl eV) ?_
   refine tb 1 rfl ?_
   refine AWH.one (i := 12) (by kernel_rfl) rfl ?_
   refine C1 rfl ce_63 (E rfl rfl) (evsC (E rfl rfl) (evsC (E rfl rfl) evs0)) (S1 := [Ent.box b 68 (rdCells bs (memD2 bs r))]) (S2 := _) rfl (imm68 b bs (memD2 bs r) hb hok2 4 (.inr (.inl rfl))) ?_
   rintro t35 S35 ⟨rfl, rfl⟩
   refine tb 1 rfl ?_
   refine AWH.one (i := 13) (by kernel_rfl) rfl ?_
   refine Y1 (Yv.assign rfl eV) ?_
   refine tb 1 rfl ?_
   refine AWH.one (i := 14) (by kernel_rfl) rfl ?_
   refine Y1 (Yv.assign rfl eV) ?_
   refine tb 1 rfl ?_
   refine AWH.one (i := 15) (by kernel_rfl) rfl ?_
   refine Y1 (Yv.assign rfl eV) ?_
   refine tb 1 rfl ?_
   refine AWH.done (by kernel_rfl) ?_
   refine AW.ret (retI (.tmp rfl (.tmp rfl (.tmp rfl .nil))) ?_)
   exact ⟨rfl, _, rfl⟩

end Go.Proofs.YtjndpakhmgapjaaDoor

namespace Go.Proofs.YtjndpakhmgapjaaDoor
open Go Go.RowKit
set_option linter.unusedVariables false
set_option linter.unnecessarySimpa false
set_option linter.unusedSimpArgs false

set_option maxHeartbeats 1000000 in
theorem moved75 (b : Nat) (bs : List UInt8) (r : Rd) (hb : bs.length ≤ 1099511627776) (hr : RdOk bs r) (x : Rx) :
    ACalls Tryd.prog 75 [.v (.pointer (some ⟨b, 0, none⟩)), rxT x] [Ent.box b 68 (rdCells bs r)] (fun t_ S => t_ = insT (movedR bs x r).1 ∧ ∃ E, S = Ent.box b 68 (rdCells bs (movedR bs x r).2) :: E) := by
  refine ACalls.intro Tryd.func75 rfl Tryd.ntmps75 (Nat.le_of_ble_eq_true rfl) rfl fun X w0 => ?_
  refine AW.rseq ?_
  refine AWL.boxOp rfl rfl (B rfl) rfl (E rfl rfl) rfl (fun b3 => ?_)
  refine AWL.allocOp rfl rfl (B rfl) rfl zc_23 (fun b4 => ?_)
  refine nl ?_
  refine AW.seq ?_
  refine AW.rseqQ rfl (by kernel_rfl) ?_
  refine AWQ.y rfl rfl (B rfl) (Yv.move rfl (E rfl rfl)) ?_
  refine AWQ.y rfl rfl (B rfl) (Yv.nilChk rfl (E rfl rfl)) ?_
  refine AWQ.y rfl rfl (B rfl) (Yv.fieldBox rfl fo_68_1 (E rfl rfl)) ?_
  refine AWQ.y rfl rfl (B rfl) (Yv.loadBox rfl ag_3 (i := 0) rfl (E rfl rfl) rfl) ?_
  refine AWQ.y rfl rfl (B rfl) (Yv.move rfl (E rfl rfl)) ?_
  refine AWQ.y rfl rfl (B rfl) (Yv.nilChk rfl (E rfl rfl)) ?_
  refine AWQ.y rfl rfl (B rfl) (Yv.fieldBox rfl fo_68_0 (E rfl rfl)) ?_
  refine AWQ.y rfl rfl (B rfl) (Yv.loadBox rfl ag_24 (i := 0) rfl (E rfl rfl) rfl) ?_
  refine AWQ.y rfl rfl (B rfl) (Yv.lenSl rfl so_24 (B rfl) (E rfl rfl) len_u8s) ?_
  refine AWQ.y rfl rfl (B rfl) (Yv.lss rfl (E rfl rfl) (E rfl rfl)) ?_
  refine AWQ.y rfl rfl (B rfl) (Yv.move rfl (E rfl rfl)) ?_
  refine AWQ.ygT rfl rfl rfl rfl (B rfl) (Yv.move rfl (E rfl rfl)) ?_
  refine AWQ.ygT rfl rfl rfl rfl (B rfl) (Yv.nilChk rfl (Eg rfl rfl id)) ?_
  refine AWQ.ygT rfl rfl rfl rfl (B rfl) (Yv.fieldBox rfl fo_68_0 (Eg rfl rfl id)) ?_
  refine AWQ.ygT rfl rfl rfl rfl (B rfl) (Yv.loadBox rfl ag_24 (i := 0) rfl (Eg rfl rfl id) rfl) ?_
  refine AWQ.ygT rfl rfl rfl rfl (B rfl) (Yv.move rfl (E rfl rfl)) ?_
  refine AWQ.ygT rfl rfl rfl rfl (B rfl) (Yv.nilChk rfl (Eg rfl rfl id)) ?_
  refine AWQ.ygT rfl rfl rfl rfl (B rfl) (Yv.fieldBox rfl fo_68_1 (Eg rfl rfl id)) ?_
  refine AWQ.ygT rfl rfl rfl rfl (B rfl) (Yv.loadBox rfl ag_3 (i := 0) rfl (Eg rfl rfl id) rfl) ?_
  refine AWQ.ygT rfl rfl rfl rfl (B rfl) (Yv.indexSl rfl ss_24 (B rfl) (Eg rfl rfl id) (Eg rfl rfl id) (fun hg => ⟨rfl, (by first | omega | (simp only [len_u8s, len_ints]; omega) | (simp only [len_u8s, len_ints]; simp only [Bool.and_eq_true, Bool.or_eq_false_iff, Bool.not_eq_true', Bool.not_eq_false', decide_eq_true_eq, decide_eq_false_iff_not] at hg; omega))⟩)) ?_
  refine AWQ.ygT rfl rfl rfl rfl (B rfl) (Yv.loadRp rfl ag_5 (Eg rfl rfl id) (fun hg => u8_get (by simp only [Bool.true_and, decide_eq_true_eq] at hg; omega))) ?_
  refine AWQ.ygT rfl rfl rfl rfl (B rfl) (Yv.shrC 64 (by decide) (by decide) (by decide) rfl (Eg rfl rfl id) (E rfl rfl)) ?_
  refine AWQ.ygT rfl rfl rfl rfl (B rfl) (Yv.eql rfl (Eg rfl rfl id) (E rfl rfl)) ?_
  refine AWQ.y rfl rfl (B rfl) (Yv.pickAnd rfl (E rfl rfl) (Eg rfl rfl id)) ?_
  refine AWQ.nil ?_
  refine AW.cond rfl (fun h0t => ?_) (fun h0f => ?_)
  ·
   try replace h0t := of_decide_eq_true h0t
   refine AW.rseq ?_
   refine Y1 (Yv.move rfl eV) ?_
   refine Y1 (Yv.loadBoxA rfl ag_87 (i := 1) rfl (E rfl rfl) rfl rfl) ?_
   refine C1 rfl ce_74 (E rfl rfl) (evsC (E rfl rfl) (evsC (E rfl rfl) evs0)) (S1 := [Ent.box b 68 (rdCells bs r)]) (S2 := _) rfl (mem74 b bs r hb hr x) ?_
   rintro t37 S37 ⟨rfl, E37, rfl⟩
   refine AWL.tuck ?_
   refine Y1 (Yv.move rfl eV) ?_
   refine Y1 (Yv.extract rfl eV rfl) ?_
   refine Y1 (Yv.extract rfl eV rfl) ?_
   refine Y1 (Yv.extract rfl eV rfl) ?_
   refine Y1 (Yv.assign rfl eV) ?_
   refine Y1 (Yv.assign rfl eV) ?_
   refine Y1 (Yv.assign rfl eV) ?_
   refine nl ?_
   refine AW.rseq ?_
   refine Y1 (Yv.move rfl eV) ?_
   refine Y1 (Yv.move rfl eV) ?_
   refine Y1 (Yv.move rfl eV) ?_
   refine Y1 (Yv.buildS rfl sh_23 (evpC (E rfl rfl) (evpC (E rfl rfl) (evpC (E rfl rfl) (evpC (E rfl rfl) (evpC (E rfl rfl) evp0))))) (fun _ => rfl)) ?_
   refine AWL.storeBox (i := 2) rfl rfl rfl ag_23 rfl (E rfl rfl) (E rfl rfl) rfl rfl (Nat.le_of_ble_eq_true rfl) ?_
   refine nl ?_
   refine AW.ret (retI (.cellA (i := 2) rfl ag_23 rfl rfl rfl .nil) ?_)
   rw [movedR, if_pos (show peekF bs r = true from h0t)]
   exact ⟨rfl, _, rfl⟩
  try replace h0f := of_decide_eq_false h0f
  refine AW.skip ?_
  refine AW.rseq ?_
  refine Y1 (Yv.move rfl eV) ?_
  refine Y1 (Yv.loadBoxA rfl ag_87 (i := 1) rfl (E rfl rfl) rfl rfl) ?_
  refine C1 rfl ce_78 (E rfl rfl) (evsC (E rfl rfl) (evsC (E rfl rfl) evs0)) (S1 := [Ent.box b 68 (rdCells bs r)]) (S2 := _) rfl (two78 b bs r hb hr x) ?_
  rintro t48 S48 ⟨rfl, E48, rfl⟩
  refine AWL.tuck ?_
  refine Y1 (Yv.move rfl eV) ?_
  refine Y1 (Yv.extract rfl eV rfl) ?_
  refine Y1 (Yv.extract rfl eV rfl) ?_
  refine Y1 (Yv.assign rfl eV) ?_
  refine Y1 (Yv.assign rfl eV) ?_
  refine nl ?_
  refine AW.rseq ?_
  refine Y1 (Yv.move rfl eV) ?_
  refine Y1 (Yv.move rfl eV) ?_
  refine Y1 (Yv.buildS rfl sh_23 (evpC (E rfl rfl) (evpC (E rfl rfl) (evpC (E rfl rfl) evp0))) (fun _ => rfl)) ?_
  refine AWL.storeBox (i := 2) rfl rfl rfl ag_23 rfl (E rfl rfl) (E rfl rfl) rfl rfl (Nat.le_of_ble_eq_true rfl) ?_
  refine nl ?_
  refine AW.ret (retI (.cellA (i := 2) rfl ag_23 rfl rfl rfl .nil) ?_)
  rw [movedR, if_neg (show ¬ peekF bs r = true from ne_true_of_eq_false h0f)]
  exact ⟨rfl, _, rfl⟩

set_option maxHeartbeats 2000000 in
theorem numbered77 (b : Nat) (bs : List UInt8) (r : Rd) (hb : bs.length ≤ 1099511627776) (hr : RdOk bs r) (x : Rx) (op : Int) :
    ACalls Tryd.prog 77 [.v (.pointer (some ⟨b, 0, none⟩)), rxT x, .v (.int .i64 op)] [Ent.box b 68 (rdCells bs r)] (fun t_ S => t_ = insT (numberedR bs x op r).1 ∧ ∃ E, S = Ent.box b 68 (rdCells bs (numberedR bs x op r).2) :: E) := by
  have hok1 : RdOk bs (numD1 bs x op r) := must_ok (one_ok hr x) _
  refine ACalls.intro Tryd.func77 rfl Tryd.ntmps77 (Nat.le_of_ble_eq_true rfl) rfl fun X w0 => ?_
  refine AW.rseq ?_
  refine AWL.boxOp rfl rfl (B rfl) rfl (E rfl rfl) rfl (fun b4 => ?_)
  refine AWL.allocOp rfl rfl (B rfl) rfl zc_23 (fun b6 => ?_)
  refine nl ?_
  refine AW.rseq ?_
  refine Y1 (Yv.move rfl eV) ?_
  refine Y1 (Yv.loadBoxA rfl ag_87 (i := 1) rfl (E rfl rfl) rfl rfl) ?_
  refine C1 rfl ce_76 (E rfl rfl) (evsC (E rfl rfl) (evsC (E rfl rfl) evs0)) (S1 := [Ent.box b 68 (rdCells bs r)]) (S2 := _) rfl (one76 b bs r hb hr x) ?_
  rintro t18 S18 ⟨rfl, E18, rfl⟩
  refine AWL.tuck ?_
  refine Y1 (Yv.move rfl eV) ?_
  refine Y1 (Yv.extract rfl eV rfl) ?_
  refine Y1 (Yv.extract rfl eV rfl) ?_
  refine Y1 (Yv.assign rfl eV) ?_
  refine Y1 (Yv.assign rfl eV) ?_
  refine nl ?_
  refine AW.rseq ?_
  refine Y1 (Yv.assign rfl eV) ?_
  refine nl ?_
  refine AW.seq ?_
  refine AW.rseq ?_
  refine AWL.buildSlice1 rfl rfl (B rfl) rfl el_43 rfl (evsC (E rfl rfl) (evsC (E rfl rfl) (evsC (E rfl rfl) (evsC (E rfl rfl) (evsC (E rfl rfl) (evsC (E rfl rfl) (evsC (E rfl rfl) (evsC (E rfl rfl) (evsC (E rfl rfl) (evsC (E rfl rfl) (evsC (E rfl rfl) (evsC (E rfl rfl) (evsC (E rfl rfl) (evsC (E rfl rfl) (evsC (E rfl rfl) (evsC (E rfl rfl) evs0)))))))))))))))) (Nat.le_of_ble_eq_true rfl) rfl rfl ?_
  refine Y1 (Yv.lenSl rfl so_43 (B rfl) (E rfl rfl) (show _ = 16 * 1 from rfl)) ?_
  refine Y1 (Yv.move rfl eV) ?_
  refine nl ?_
  refine AW.block ?_
  refine AW.loop (fun (j : Nat) => [(0, true, .v (.pointer (some ⟨b, 0, none⟩))), (2, true, .v (.int .i64 op)), (4, true, .v (.pointer (some ⟨b4, 0, none⟩))), (6, true, .v (.pointer (some ⟨b6, 0, none⟩))), (7, true, .v (.int .i64 (oneV bs x r).1)), (8, true, .v (.int .i64 (oneV bs x r).2)), (9, true, .v (.int .i64 (kindN op (oneV bs x r).1 j))), (21, true, .sl 1 (ints kindsN)), (22, true, .v (.int .i64 16)), (23, true, .v (.int .i64 (j : Int)))]) (fun (j : Nat) => ([Ent.box b 68 (rdCells bs (oneD bs x r)), .box b4 87 (rxCells x), .box b6 23 (insCells nilI)] ++ E18)) (fun (j : Nat) => j ≤ 16) (fun (j : Nat) => 16 - j) 0 ?_ ?_ ?_ ?_
  · exact Nat.zero_le _
  · exact (Sub.cons rfl rfl (Sub.cons rfl rfl (Sub.cons rfl rfl (Sub.cons rfl rfl (Sub.cons rfl rfl (Sub.cons rfl rfl (Sub.cons rfl rfl (Sub.cons rfl rfl (Sub.cons rfl rfl (Sub.cons rfl rfl Sub.nil))))))))))
  · rfl
  ·
   intro j hinv
   refine AW.rseq ?_
   refine Y1 (Yv.lss rfl eV eV) ?_
   refine nl ?_
   refine AW.seq ?_
   refine AW.cond rfl (fun h0t => ?_) (fun h0f => ?_)
   ·
    try replace h0t := of_decide_eq_true h0t
    refine AW.skip ?_
    refine AW.seq ?_
    refine AW.block ?_
    refine AW.rseq ?_
    refine Y1 (Yv.indexSl (j := j) rfl ss_43 (B rfl) (E rfl rfl) (E rfl rfl) (fun hg => ⟨rfl, by show j * 1 < 16; omega⟩)) ?_
    refine Y1 (Yv.loadRp rfl ag_3 (E rfl rfl) (fun hg => ints_get (by show j < 16; omega))) ?_
    refine Y1 (Yv.assign rfl eV) ?_
    refine nl ?_
    refine AW.rseq ?_
    refine Y1 (Yv.move rfl eV) ?_
    refine AWL.callT rfl rfl (B rfl) rfl ce_26 (E rfl rfl) (evsC (E rfl rfl) evs0) (opcode33 (kindsN.getD j 0)) ?_
    rintro t29 S29 rfl
    refine Y1 (Yv.move rfl eV) ?_
    refine Y1 (Yv.extract rfl eV rfl) ?_
    refine Y1 (Yv.extract rfl eV rfl) ?_
    refine Y1 (Yv.assign rfl eV) ?_
    refine Y1 (Yv.assign rfl eV) ?_
    refine nl ?_
    refine AW.rseq ?_
    refine Y1 (Yv.move rfl eV) ?_
    refine Y1 (Yv.move rfl eV) ?_
    refine Y1 (Yv.eql rfl eV eV) ?_
    refine Y1 (Yv.move rfl eV) ?_
    refine AWL.ygT rfl rfl rfl rfl (B rfl) (Yv.move rfl (E rfl rfl)) ?_
    refine AWL.ygT rfl rfl rfl rfl (B rfl) (Yv.move rfl (E rfl rfl)) ?_
    refine AWL.ygT rfl rfl rfl rfl (B rfl) (Yv.eql rfl (Eg rfl rfl id) (Eg rfl rfl id)) ?_
    refine Y1 (Yv.pickAnd rfl (E rfl rfl) (Eg rfl rfl id)) ?_
    refine nl ?_
    refine AW.cond rfl (fun h1t => ?_) (fun h1f => ?_)
    ·
     try replace h1t := of_decide_eq_true h1t
     refine AW.region ?_
     refine Y1 (Yv.move rfl eV) ?_
     refine Y1 (Yv.assign rfl eV) ?_
     refine nl ?_
     refine AW.region ?_
     refine Y1 (Yv.addN_i64 rfl (E rfl rfl) (E rfl rfl) (fun hg => by omega)) ?_
     refine Y1 (Yv.move rfl eV) ?_
     refine nl ?_
     have hkn := kindN_next op (oneV bs x r).1 (show j < 16 by omega)
     refine ⟨j + 1, by omega, by omega, Sub.cons rfl rfl (Sub.cons rfl rfl (Sub.cons rfl rfl (Sub.cons rfl rfl (Sub.cons rfl rfl (Sub.cons rfl rfl (Sub.cons rfl (by rw [hkn, stepN, if_pos h1t]) (Sub.cons rfl rfl (Sub.cons rfl rfl (Sub.cons rfl (by simp) Sub.nil))))))))), rfl⟩
    try replace h1f := of_decide_eq_false h1f
    refine AW.skip ?_
    refine AW.region ?_
    refine Y1 (Yv.addN_i64 rfl (E rfl rfl) (E rfl rfl) (fun hg => by omega)) ?_
    refine Y1 (Yv.move rfl eV) ?_
    refine nl ?_
    have hkn := kindN_next op (oneV bs x r).1 (show j < 16 by omega)
    refine ⟨j + 1, by omega, by omega, Sub.cons rfl rfl (Sub.cons rfl rfl (Sub.cons rfl rfl (Sub.cons rfl rfl (Sub.cons rfl rfl (Sub.cons rfl rfl (Sub.cons rfl (by rw [hkn, stepN, if_neg (ne_true_of_eq_false h1f)]) (Sub.cons rfl rfl (Sub.cons rfl rfl (Sub.cons rfl (by simp) Sub.nil))))))))), rfl⟩
   try replace h0f := of_decide_eq_false h0f
   refine AW.exit ?_
   obtain rfl : j = 16 := by omega
   refine AW.rseq ?_
   refine Y1 (Yv.move rfl eV) ?_
   refine Y1 (Yv.move rfl eV) ?_
   refine Y1 (Yv.gtr rfl eV eV) ?_
   refine C1 rfl ce_59 (E rfl rfl) (evsC (E rfl rfl) (evsC (E rfl rfl) evs0)) (S1 := [Ent.box b 68 (rdCells bs (oneD bs x r))]) (S2 := _) rfl (must64 b bs (oneD bs x r) (decide (0 < (kindN op (oneV bs x r).1 16)))) ?_
   rintro t45 S45 rfl
   refine nl ?_
   refine AW.rseq ?_
   refine Y1 (Yv.move rfl eV) ?_
   refine Y1 (Yv.move rfl eV) ?_
   refine Y1 (Yv.buildS rfl sh_23 (evpC (E rfl rfl) (evpC (E rfl rfl) evp0)) (fun _ => rfl)) ?_
   refine AWL.allocOp rfl rfl (B rfl) rfl zc_23 (fun b14 => ?_)
   refine AWL.perm (S' := [Ent.box b 68 (rdCells bs (numD1 bs x op r)), .box b4 87 (rxCells x), .box b6 23 (insCells nilI), .box b14 23 (insCells nilI)] ++ E18) (List.Perm.append_left [_, _, _] (List.perm_append_comm (l₁ := [_]) (l₂ := E18))) ?_
   refine AWL.storeBox (i := 3) rfl rfl rfl ag_23 rfl (E rfl rfl) (E rfl rfl) rfl rfl (Nat.le_of_ble_eq_true rfl) ?_
   refine nl ?_
   refine AW.seq ?_
   refine AW.rseq ?_
   refine Y1 (Yv.move rfl eV) ?_
   refine nl ?_
   refine AW.block ?_
   refine AW.rseq ?_
   refine Y1 (Yv.eql rfl eV eV) ?_
   refine Y1 (Yv.assign rfl eV) ?_
   refine nl ?_
   refine AW.cond rfl (fun h2t => ?_) (fun h2f => ?_)
   ·
    try replace h2t := of_decide_eq_true h2t
    refine AW.region ?_
    refine Y1 (Yv.move rfl eV) ?_
    refine C1 rfl ce_63 (E rfl rfl) (evsC (E rfl rfl) (evsC (E rfl rfl) evs0)) (S1 := [Ent.box b 68 (rdCells bs (numD1 bs x op r))]) (S2 := _) rfl (imm68 b bs (numD1 bs x op r) hb hok1 4 (.inr (.inl rfl))) ?_
    rintro t53 S53 ⟨rfl, rfl⟩
    refine Y1 (Yv.fieldBox rfl fo_23_5 eV) ?_
    refine AWL.storeBox (i := 3) rfl rfl rfl ag_2 rfl (E rfl rfl) (E rfl rfl) rfl rfl (Nat.le_of_ble_eq_true rfl) ?_
    refine nl ?_
    refine AW.rseq ?_
    refine Y1 (Yv.loadBoxA rfl ag_23 (i := 3) rfl (E rfl rfl) rfl rfl) ?_
    refine AWL.storeBox (i := 2) rfl rfl rfl ag_23 rfl (E rfl rfl) (E rfl rfl) rfl rfl (Nat.le_of_ble_eq_true rfl) ?_
    refine nl ?_
    refine AW.ret (retI (.cellA (i := 2) rfl ag_23 rfl rfl rfl .nil) ?_)
    rw [numberedR, if_pos h2t]
    exact ⟨rfl, _, rfl⟩
   try replace h2f := of_decide_eq_false h2f
   refine AW.rseq ?_
   refine Y1 (Yv.eql rfl eV eV) ?_
   refine Y1 (Yv.assign rfl eV) ?_
   refine nl ?_
   refine AW.cond rfl (fun h3t => ?_) (fun h3f => ?_)
   ·
    try replace h3t := of_decide_eq_true h3t
    refine AW.rseq ?_
    refine Y1 (Yv.move rfl eV) ?_
    refine C1 rfl ce_63 (E rfl rfl) (evsC (E rfl rfl) (evsC (E rfl rfl) evs0)) (S1 := [Ent.box b 68 (rdCells bs (numD1 bs x op r))]) (S2 := _) rfl (imm68 b bs (numD1 bs x op r) hb hok1 1 (.inl rfl)) ?_
    rintro t58 S58 ⟨rfl, rfl⟩
    refine Y1 (Yv.fieldBox rfl fo_23_5 eV) ?_
    refine AWL.storeBox (i := 3) rfl rfl rfl ag_2 rfl (E rfl rfl) (E rfl rfl) rfl rfl (Nat.le_of_ble_eq_true rfl) ?_
    refine nl ?_
    refine AW.region ?_
    refine Y1 (Yv.move rfl eV) ?_
    refine Y1 (Yv.fieldBox rfl fo_23_5 eV) ?_
    refine Y1 (Yv.loadBox rfl ag_2 (i := 3) rfl (E rfl rfl) rfl) ?_
    refine Y1 (Yv.geq rfl eV eV) ?_
    refine Y1 (Yv.move rfl eV) ?_
    refine AWL.ygT rfl rfl rfl rfl (B rfl) (Yv.fieldBox rfl fo_23_5 (E rfl rfl)) ?_
    refine AWL.ygT rfl rfl rfl rfl (B rfl) (Yv.loadBox rfl ag_2 (i := 3) rfl (Eg rfl rfl id) rfl) ?_
    refine AWL.ygT rfl rfl rfl rfl (B rfl) (Yv.leq rfl (Eg rfl rfl id) (E rfl rfl)) ?_
    refine Y1 (Yv.pickAnd rfl (E rfl rfl) (Eg rfl rfl id)) ?_
    refine C1 rfl ce_59 (E rfl rfl) (evsC (E rfl rfl) (evsC (E rfl rfl) evs0)) (S1 := [Ent.box b 68 (rdCells bs (immD bs (numD1 bs x op r) 1))]) (S2 := _) rfl (must64 b bs (immD bs (numD1 bs x op r) 1) (decide (0 ≤ immV bs (numD1 bs x op r) 1) && decide (immV bs (numD1 bs x op r) 1 ≤ 63))) ?_
    rintro t69 S69 rfl
    refine nl ?_
    refine AW.rseq ?_
    refine Y1 (Yv.loadBoxA rfl ag_23 (i := 3) rfl (E rfl rfl) rfl rfl) ?_
    refine AWL.storeBox (i := 2) rfl rfl rfl ag_23 rfl (E rfl rfl) (E rfl rfl) rfl rfl (Nat.le_of_ble_eq_true rfl) ?_
    refine nl ?_
    refine AW.ret (retI (.cellA (i := 2) rfl ag_23 rfl rfl rfl .nil) ?_)
    rw [numberedR, if_neg h2f, if_pos h3t]
    exact ⟨rfl, _, rfl⟩
   try replace h3f := of_decide_eq_false h3f
   refine AW.skip ?_
   refine AW.rseq ?_
   refine Y1 (Yv.loadBoxA rfl ag_23 (i := 3) rfl (E rfl rfl) rfl rfl) ?_
   refine AWL.storeBox (i := 2) rfl rfl rfl ag_23 rfl (E rfl rfl) (E rfl rfl) rfl rfl (Nat.le_of_ble_eq_true rfl) ?_
   refine nl ?_
   refine AW.ret (retI (.cellA (i := 2) rfl ag_23 rfl rfl rfl .nil) ?_)
   rw [numberedR, if_neg h2f, if_neg h3f]
   exact ⟨rfl, _, rfl⟩

set_option maxHeartbeats 2000000 in
theorem narrow73 (b : Nat) (bs : List UInt8) (r : Rd) (hb : bs.length ≤ 1099511627776) (hr : RdOk bs r) (x : Rx) (op : Int) (ho0 : 0 ≤ op) (ho1 : op ≤ 255) :
    ACalls Tryd.prog 73 [.v (.pointer (some ⟨b, 0, none⟩)), rxT x, .v (.int .i64 op)] [Ent.box b 68 (rdCells bs r)] (fun t_ S => t_ = insT (narrowR bs x op r).1 ∧ ∃ E, S = Ent.box b 68 (rdCells bs (narrowR bs x op r).2) :: E) := by
  refine ACalls.intro Tryd.func73 rfl Tryd.ntmps73 (Nat.le_of_ble_eq_true rfl) rfl fun X w0 => ?_
  refine AW.rseq ?_
  refine AWL.boxOp rfl rfl (B rfl) rfl (E rfl rfl) rfl (fun b4 => ?_)
  refine AWL.allocOp rfl rfl (B rfl) rfl zc_23 (fun b6 => ?_)
  refine nl ?_
  refine AW.seq ?_
  refine AW.block ?_
  refine AW.rseq ?_
  refine Y1 (Yv.move rfl eV) ?_
  refine Y1 (Yv.eql rfl eV eV) ?_
  refine Y1 (Yv.assign rfl eV) ?_
  refine nl ?_
  refine AW.cond rfl (fun h0t => ?_) (fun h0f => ?_)
  ·
   try replace h0t := of_decide_eq_true h0t
   refine AW.rseq ?_
   refine Y1 (Yv.move rfl eV) ?_
   refine Y1 (Yv.loadBoxA rfl ag_87 (i := 1) rfl (E rfl rfl) rfl rfl) ?_
   refine C1 rfl ce_74 (E rfl rfl) (evsC (E rfl rfl) (evsC (E rfl rfl) evs0)) (S1 := [Ent.box b 68 (rdCells bs r)]) (S2 := _) rfl (mem74 b bs r hb hr x) ?_
   rintro t24 S24 ⟨rfl, E24, rfl⟩
   refine AWL.tuck ?_
   refine Y1 (Yv.move rfl eV) ?_
   refine Y1 (Yv.extract rfl eV rfl) ?_
   refine Y1 (Yv.extract rfl eV rfl) ?_
   refine Y1 (Yv.extract rfl eV rfl) ?_
   refine Y1 (Yv.assign rfl eV) ?_
   refine Y1 (Yv.assign rfl eV) ?_
   refine Y1 (Yv.assign rfl eV) ?_
   refine nl ?_
   refine AW.rseq ?_
   refine Y1 (Yv.move rfl eV) ?_
   refine Y1 (Yv.move rfl eV) ?_
   refine Y1 (Yv.move rfl eV) ?_
   refine Y1 (Yv.buildS rfl sh_23 (evpC (E rfl rfl) (evpC (E rfl rfl) (evpC (E rfl rfl) (evpC (E rfl rfl) (evpC (E rfl rfl) evp0))))) (fun _ => rfl)) ?_
   refine AWL.storeBox (i := 2) rfl rfl rfl ag_23 rfl (E rfl rfl) (E rfl rfl) rfl rfl (Nat.le_of_ble_eq_true rfl) ?_
   refine nl ?_
   refine AW.ret (retI (.cellA (i := 2) rfl ag_23 rfl rfl rfl .nil) ?_)
   rw [narrowR, if_pos h0t]
   exact ⟨rfl, _, rfl⟩
  try replace h0f := of_decide_eq_false h0f
  refine AW.rseq ?_
  refine Y1 (Yv.move rfl eV) ?_
  refine Y1 (Yv.eql rfl eV eV) ?_
  refine Y1 (Yv.assign rfl eV) ?_
  refine nl ?_
  refine AW.cond rfl (fun h1t => ?_) (fun h1f => ?_)
  ·
   try replace h1t := of_decide_eq_true h1t
   refine AW.rseq ?_
   refine Y1 (Yv.move rfl eV) ?_
   refine Y1 (Yv.loadBoxA rfl ag_87 (i := 1) rfl (E rfl rfl) rfl rfl) ?_
   refine C1 rfl ce_74 (E rfl rfl) (evsC (E rfl rfl) (evsC (E rfl rfl) evs0)) (S1 := [Ent.box b 68 (rdCells bs r)]) (S2 := _) rfl (mem74 b bs r hb hr x) ?_
   rintro t38 S38 ⟨rfl, E38, rfl⟩
   refine AWL.tuck ?_
   refine Y1 (Yv.move rfl eV) ?_
   refine Y1 (Yv.extract rfl eV rfl) ?_
   refine Y1 (Yv.extract rfl eV rfl) ?_
   refine Y1 (Yv.extract rfl eV rfl) ?_
   refine Y1 (Yv.assign rfl eV) ?_
   refine Y1 (Yv.assign rfl eV) ?_
   refine Y1 (Yv.assign rfl eV) ?_
   refine nl ?_
   refine AW.rseq ?_
   refine Y1 (Yv.move rfl eV) ?_
   refine Y1 (Yv.move rfl eV) ?_
   refine Y1 (Yv.move rfl eV) ?_
   refine Y1 (Yv.buildS rfl sh_23 (evpC (E rfl rfl) (evpC (E rfl rfl) (evpC (E rfl rfl) (evpC (E rfl rfl) (evpC (E rfl rfl) evp0))))) (fun _ => rfl)) ?_
   refine AWL.storeBox (i := 2) rfl rfl rfl ag_23 rfl (E rfl rfl) (E rfl rfl) rfl rfl (Nat.le_of_ble_eq_true rfl) ?_
   refine nl ?_
   refine AW.ret (retI (.cellA (i := 2) rfl ag_23 rfl rfl rfl .nil) ?_)
   rw [narrowR, if_neg h0f, if_pos h1t]
   exact ⟨rfl, _, rfl⟩
  try replace h1f := of_decide_eq_false h1f
  refine AW.rseq ?_
  refine Y1 (Yv.move rfl eV) ?_
  refine Y1 (Yv.eql rfl eV eV) ?_
  refine Y1 (Yv.assign rfl eV) ?_
  refine nl ?_
  refine AW.cond rfl (fun h2t => ?_) (fun h2f => ?_)
  ·
   try replace h2t := of_decide_eq_true h2t
   refine AW.rseq ?_
   refine Y1 (Yv.move rfl eV) ?_
   refine Y1 (Yv.loadBoxA rfl ag_87 (i := 1) rfl (E rfl rfl) rfl rfl) ?_
   refine C1 rfl ce_74 (E rfl rfl) (evsC (E rfl rfl) (evsC (E rfl rfl) evs0)) (S1 := [Ent.box b 68 (rdCells bs r)]) (S2 := _) rfl (mem74 b bs r hb hr x) ?_
   rintro t52 S52 ⟨rfl, E52, rfl⟩
   refine AWL.tuck ?_
   refine Y1 (Yv.move rfl eV) ?_
   refine Y1 (Yv.extract rfl eV rfl) ?_
   refine Y1 (Yv.extract rfl eV rfl) ?_
   refine Y1 (Yv.extract rfl eV rfl) ?_
   refine Y1 (Yv.assign rfl eV) ?_
   refine Y1 (Yv.assign rfl eV) ?_
   refine Y1 (Yv.assign rfl eV) ?_
   refine nl ?_
   refine AW.rseq ?_
   refine Y1 (Yv.move rfl eV) ?_
   refine Y1 (Yv.move rfl eV) ?_
   refine Y1 (Yv.move rfl eV) ?_
   refine Y1 (Yv.buildS rfl sh_23 (evpC (E rfl rfl) (evpC (E rfl rfl) (evpC (E rfl rfl) (evpC (E rfl rfl) (evpC (E rfl rfl) evp0))))) (fun _ => rfl)) ?_
   refine AWL.storeBox (i := 2) rfl rfl rfl ag_23 rfl (E rfl rfl) (E rfl rfl) rfl rfl (Nat.le_of_ble_eq_true rfl) ?_
   refine nl ?_
   refine AW.ret (retI (.cellA (i := 2) rfl ag_23 rfl rfl rfl .nil) ?_)
   rw [narrowR, if_neg h0f, if_neg h1f, if_pos h2t]
   exact ⟨rfl, _, rfl⟩
  try replace h2f := of_decide_eq_false h2f
  refine AW.rseq ?_
  refine Y1 (Yv.move rfl eV) ?_
  refine Y1 (Yv.eql rfl eV eV) ?_
  refine Y1 (Yv.assign rfl eV) ?_
  refine nl ?_
  refine AW.cond rfl (fun h3t => ?_) (fun h3f => ?_)
  ·
   try replace h3t := of_decide_eq_true h3t
   refine AW.rseq ?_
   refine Y1 (Yv.move rfl eV) ?_
   refine Y1 (Yv.loadBoxA rfl ag_87 (i := 1) rfl (E rfl rfl) rfl rfl) ?_
   refine C1 rfl ce_76 (E rfl rfl) (evsC (E rfl rfl) (evsC (E rfl rfl) evs0)) (S1 := [Ent.box b 68 (rdCells bs r)]) (S2 := _) rfl (one76 b bs r hb hr x) ?_
   rintro t66 S66 ⟨rfl, E66, rfl⟩
   refine AWL.tuck ?_
   refine Y1 (Yv.move rfl eV) ?_
   refine Y1 (Yv.extract rfl eV rfl) ?_
   refine Y1 (Yv.extract rfl eV rfl) ?_
   refine Y1 (Yv.assign rfl eV) ?_
   refine Y1 (Yv.assign rfl eV) ?_
   refine nl ?_
   refine AW.rseq ?_
   refine Y1 (Yv.move rfl eV) ?_
   refine Y1 (Yv.move rfl eV) ?_
   refine Y1 (Yv.eql rfl eV eV) ?_
   refine Y1 (Yv.move rfl eV) ?_
   refine AWL.ygF rfl rfl rfl rfl (B rfl) (Yv.move rfl (E rfl rfl)) ?_
   refine AWL.ygF rfl rfl rfl rfl (B rfl) (Yv.eql rfl (Eg rfl rfl id) (E rfl rfl)) ?_
   refine Y1 (Yv.pickOr (t := .const (.bool true)) rfl (E rfl rfl) (Eg rfl rfl id)) ?_
   refine C1 rfl ce_59 (E rfl rfl) (evsC (E rfl rfl) (evsC (E rfl rfl) evs0)) (S1 := [Ent.box b 68 (rdCells bs (oneD bs x r))]) (S2 := _) rfl (must64 b bs (oneD bs x r) (decide ((oneV bs x r).1 = 2) || decide ((oneV bs x r).1 = 4))) ?_
   rintro t76 S76 rfl
   refine nl ?_
   refine AW.seq ?_
   refine AW.rseq ?_
   refine Y1 (Yv.move rfl eV) ?_
   refine Y1 (Yv.eql rfl eV eV) ?_
   refine nl ?_
   refine AW.cond rfl (fun h4t => ?_) (fun h4f => ?_)
   ·
    try replace h4t := of_decide_eq_true h4t
    refine AW.rseq ?_
    refine Y1 (Yv.move rfl eV) ?_
    refine Y1 (Yv.buildS rfl sh_23 (evpC (E rfl rfl) (evpC (E rfl rfl) evp0)) (fun _ => rfl)) ?_
    refine AWL.storeBox (i := 2) rfl rfl rfl ag_23 rfl (E rfl rfl) (E rfl rfl) rfl rfl (Nat.le_of_ble_eq_true rfl) ?_
    refine nl ?_
    refine AW.ret (retI (.cellA (i := 2) rfl ag_23 rfl rfl rfl .nil) ?_)
    rw [narrowR, if_neg h0f, if_neg h1f, if_neg h2f, if_pos h3t, if_pos h4t]
    exact ⟨rfl, _, rfl⟩
   try replace h4f := of_decide_eq_false h4f
   refine AW.skip ?_
   refine AW.rseq ?_
   refine Y1 (Yv.move rfl eV) ?_
   refine Y1 (Yv.buildS rfl sh_23 (evpC (E rfl rfl) (evpC (E rfl rfl) evp0)) (fun _ => rfl)) ?_
   refine AWL.storeBox (i := 2) rfl rfl rfl ag_23 rfl (E rfl rfl) (E rfl rfl) rfl rfl (Nat.le_of_ble_eq_true rfl) ?_
   refine nl ?_
   refine AW.ret (retI (.cellA (i := 2) rfl ag_23 rfl rfl rfl .nil) ?_)
   rw [narrowR, if_neg h0f, if_neg h1f, if_neg h2f, if_pos h3t, if_neg h4f]
   exact ⟨rfl, _, rfl⟩
  try replace h3f := of_decide_eq_false h3f
  refine AW.rseq ?_
  refine Y1 (Yv.move rfl eV) ?_
  refine Y1 (Yv.bits rfl rfl (E rfl rfl) (E rfl rfl)) ?_
  refine Y1 (Yv.eql rfl eV eV) ?_
  refine Y1 (Yv.assign rfl eV) ?_
  refine nl ?_
  refine AW.cond rfl (fun h5t => ?_) (fun h5f => ?_)
  ·
   try replace h5t := of_decide_eq_true h5t
   refine AW.rseq ?_
   refine Y1 (Yv.move rfl eV) ?_
   refine Y1 (Yv.fieldBox rfl fo_87_1 eV) ?_
   refine Y1 (Yv.loadBox rfl ag_3 (i := 1) rfl (E rfl rfl) rfl) ?_
   refine Y1 (Yv.eql rfl eV eV) ?_
   refine C1 rfl ce_59 (E rfl rfl) (evsC (E rfl rfl) (evsC (E rfl rfl) evs0)) (S1 := [Ent.box b 68 (rdCells bs r)]) (S2 := _) rfl (must64 b bs r _) ?_
   rintro t91 S91 rfl
   refine nl ?_
   refine AW.rseq ?_
   refine Y1 (Yv.fieldBox rfl fo_87_2 eV) ?_
   refine Y1 (Yv.loadBox rfl ag_3 (i := 1) rfl (E rfl rfl) rfl) ?_
   refine Y1 (Yv.move rfl eV) ?_
   refine Y1 (Yv.andN_i64 3 8 (by decide) (by decide) (by decide) rfl (E rfl rfl) (E rfl rfl) (fun hg => ⟨by omega, by omega⟩)) ?_
   refine Y1 (Yv.bits rfl rfl (E rfl rfl) (E rfl rfl)) ?_
   refine Y1 (Yv.buildS rfl sh_23 (evpC (E rfl rfl) (evpC (E rfl rfl) evp0)) (fun _ => rfl)) ?_
   refine AWL.storeBox (i := 2) rfl rfl rfl ag_23 rfl (E rfl rfl) (E rfl rfl) rfl rfl (Nat.le_of_ble_eq_true rfl) ?_
   refine nl ?_
   refine AW.ret (retI (.cellA (i := 2) rfl ag_23 rfl rfl rfl .nil) ?_)
   rw [narrowR, if_neg h0f, if_neg h1f, if_neg h2f, if_neg h3f, if_pos h5t]
   exact ⟨rfl, _, rfl⟩
  try replace h5f := of_decide_eq_false h5f
  refine AW.rseq ?_
  refine Y1 (Yv.move rfl eV) ?_
  refine Y1 (Yv.bits rfl rfl (E rfl rfl) (E rfl rfl)) ?_
  refine Y1 (Yv.eql rfl eV eV) ?_
  refine Y1 (Yv.assign rfl eV) ?_
  refine nl ?_
  refine AW.cond rfl (fun h6t => ?_) (fun h6f => ?_)
  ·
   try replace h6t := of_decide_eq_true h6t
   refine AW.rseq ?_
   refine Y1 (Yv.move rfl eV) ?_
   refine Y1 (Yv.fieldBox rfl fo_87_1 eV) ?_
   refine Y1 (Yv.loadBox rfl ag_3 (i := 1) rfl (E rfl rfl) rfl) ?_
   refine Y1 (Yv.eql rfl eV eV) ?_
   refine C1 rfl ce_59 (E rfl rfl) (evsC (E rfl rfl) (evsC (E rfl rfl) evs0)) (S1 := [Ent.box b 68 (rdCells bs r)]) (S2 := _) rfl (must64 b bs r _) ?_
   rintro t106 S106 rfl
   refine nl ?_
   refine AW.rseq ?_
   refine Y1 (Yv.fieldBox rfl fo_87_2 eV) ?_
   refine Y1 (Yv.loadBox rfl ag_3 (i := 1) rfl (E rfl rfl) rfl) ?_
   refine Y1 (Yv.move rfl eV) ?_
   refine Y1 (Yv.andN_i64 3 8 (by decide) (by decide) (by decide) rfl (E rfl rfl) (E rfl rfl) (fun hg => ⟨by omega, by omega⟩)) ?_
   refine Y1 (Yv.bits rfl rfl (E rfl rfl) (E rfl rfl)) ?_
   refine Y1 (Yv.buildS rfl sh_23 (evpC (E rfl rfl) (evpC (E rfl rfl) evp0)) (fun _ => rfl)) ?_
   refine AWL.storeBox (i := 2) rfl rfl rfl ag_23 rfl (E rfl rfl) (E rfl rfl) rfl rfl (Nat.le_of_ble_eq_true rfl) ?_
   refine nl ?_
   refine AW.ret (retI (.cellA (i := 2) rfl ag_23 rfl rfl rfl .nil) ?_)
   rw [narrowR, if_neg h0f, if_neg h1f, if_neg h2f, if_neg h3f, if_neg h5f, if_pos h6t]
   exact ⟨rfl, _, rfl⟩
  try replace h6f := of_decide_eq_false h6f
  refine AW.skip ?_
  refine AW.rseq ?_
  refine Y1 (Yv.move rfl eV) ?_
  refine C1 rfl ce_59 (E rfl rfl) (evsC (E rfl rfl) (evsC (E rfl rfl) evs0)) (S1 := [Ent.box b 68 (rdCells bs r)]) (S2 := _) rfl (must64 b bs r _) ?_
  rintro t114 S114 rfl
  refine nl ?_
  refine AW.rseq ?_
  refine Y1 (Yv.buildS rfl sh_23 evp0 (fun _ => rfl)) ?_
  refine AWL.storeBox (i := 2) rfl rfl rfl ag_23 rfl (E rfl rfl) (E rfl rfl) rfl rfl (Nat.le_of_ble_eq_true rfl) ?_
  refine nl ?_
  refine AW.ret (retI (.cellA (i := 2) rfl ag_23 rfl rfl rfl .nil) ?_)
  rw [narrowR, if_neg h0f, if_neg h1f, if_neg h2f, if_neg h3f, if_neg h5f, if_neg h6f]
  exact ⟨rfl, _, rfl⟩

set_option maxHeartbeats 2000000 in
theorem far72 (b : Nat) (bs : List UInt8) (r : Rd) (hb : bs.length ≤ 1099511627776) (hr : RdOk bs r) (x : Rx) :
    ACalls Tryd.prog 72 [.v (.pointer (some ⟨b, 0, none⟩)), rxT x] [Ent.box b 68 (rdCells bs r)] (fun t_ S => t_ = insT (farR bs x r).1 ∧ ∃ E, S = Ent.box b 68 (rdCells bs (farR bs x r).2) :: E) := by
  have hok1 : RdOk bs (farD1 x r) := must_ok hr _
  have hok2 := next_ok hok1
  obtain ⟨hx0, hx1⟩ := next_range bs (farD1 x r)
  refine ACalls.intro Tryd.func72 rfl Tryd.ntmps72 (Nat.le_of_ble_eq_true rfl) rfl fun X w0 => ?_
  refine AW.rseq ?_
  refine AWL.boxOp rfl rfl (B rfl) rfl (E rfl rfl) rfl (fun b3 => ?_)
  refine AWL.allocOp rfl rfl (B rfl) rfl zc_23 (fun b4 => ?_)
  refine nl ?_
  refine AW.rseq ?_
  refine Y1 (Yv.move rfl eV) ?_
  refine Y1 (Yv.fieldBox rfl fo_87_0 eV) ?_
  refine Y1 (Yv.loadBox rfl ag_3 (i := 1) rfl (E rfl rfl) rfl) ?_
  refine Y1 (Yv.eql rfl eV eV) ?_
  refine Y1 (Yv.move rfl eV) ?_
  refine AWL.ygF rfl rfl rfl rfl (B rfl) (Yv.fieldBox rfl fo_87_1 (E rfl rfl)) ?_
  refine AWL.ygF rfl rfl rfl rfl (B rfl) (Yv.loadBox rfl ag_3 (i := 1) rfl (Eg rfl rfl id) rfl) ?_
  refine AWL.ygF rfl rfl rfl rfl (B rfl) (Yv.eql rfl (Eg rfl rfl id) (E rfl rfl)) ?_
  refine Y1 (Yv.pickOr (t := .const (.bool true)) rfl (E rfl rfl) (Eg rfl rfl id)) ?_
  refine C1 rfl ce_59 (E rfl rfl) (evsC (E rfl rfl) (evsC (E rfl rfl) evs0)) (S1 := [Ent.box b 68 (rdCells bs r)]) (S2 := _) rfl (must64 b bs r (decide (x.wide = 1) || decide (x.reg = 0))) ?_
  rintro t26 S26 rfl
  refine nl ?_
  refine AW.rseq ?_
  refine Y1 (Yv.move rfl eV) ?_
  refine C1 rfl ce_58 (E rfl rfl) (evsC (E rfl rfl) evs0) (S1 := [Ent.box b 68 (rdCells bs (farD1 x r))]) (S2 := _) rfl (next63 b bs (farD1 x r) hb hok1) ?_
  rintro t28 S28 ⟨rfl, rfl⟩
  refine Y1 (Yv.assign rfl eV) ?_
  refine nl ?_
  refine AW.seq ?_
  refine AW.rseq ?_
  refine Y1 (Yv.move rfl eV) ?_
  refine Y1 (Yv.nilChk rfl eV) ?_
  refine Y1 (Yv.fieldBox rfl fo_68_2 eV) ?_
  refine Y1 (Yv.loadBox rfl ag_4 (i := 0) rfl (E rfl rfl) rfl) ?_
  refine Y1 (Yv.move rfl eV) ?_
  refine AWL.ygF rfl rfl rfl rfl (B rfl) (Yv.move rfl (E rfl rfl)) ?_
  refine AWL.ygF rfl rfl rfl rfl (B rfl) (Yv.nilChk rfl (Eg rfl rfl id)) ?_
  refine AWL.ygF rfl rfl rfl rfl (B rfl) (Yv.fieldBox rfl fo_68_3 (Eg rfl rfl id)) ?_
  refine AWL.ygF rfl rfl rfl rfl (B rfl) (Yv.loadBox rfl ag_4 (i := 0) rfl (Eg rfl rfl id) rfl) ?_
  refine Y1 (Yv.pickOr (t := .const (.bool true)) rfl (E rfl rfl) (Eg rfl rfl id)) ?_
  refine nl ?_
  refine AW.cond rfl (fun h0t => ?_) (fun h0f => ?_)
  ·
   try replace h0t := of_decide_eq_true h0t
   refine AW.rseq ?_
   refine Y1 (Yv.buildS rfl sh_23 evp0 (fun _ => rfl)) ?_
   refine AWL.storeBox (i := 2) rfl rfl rfl ag_23 rfl (E rfl rfl) (E rfl rfl) rfl rfl (Nat.le_of_ble_eq_true rfl) ?_
   refine nl ?_
   refine AW.ret (retI (.cellA (i := 2) rfl ag_23 rfl rfl rfl .nil) ?_)
   rw [farR, if_pos h0t]
   exact ⟨rfl, _, rfl⟩
  try replace h0f := of_decide_eq_false h0f
  refine AW.skip ?_
  refine AW.seq ?_
  refine AW.block ?_
  refine AW.rseq ?_
  refine Y1 (Yv.fieldBox rfl fo_87_0 eV) ?_
  refine Y1 (Yv.loadBox rfl ag_3 (i := 1) rfl (E rfl rfl) rfl) ?_
  refine Y1 (Yv.eql rfl eV eV) ?_
  refine Y1 (Yv.move rfl eV) ?_
  refine AWL.ygT rfl rfl rfl rfl (B rfl) (Yv.move rfl (E rfl rfl)) ?_
  refine AWL.ygT rfl rfl rfl rfl (B rfl) (Yv.bits rfl rfl (Eg rfl rfl id) (E rfl rfl)) ?_
  refine AWL.ygT rfl rfl rfl rfl (B rfl) (Yv.eql rfl (Eg rfl rfl id) (E rfl rfl)) ?_
  refine Y1 (Yv.pickAnd rfl (E rfl rfl) (Eg rfl rfl id)) ?_
  refine Y1 (Yv.assign rfl eV) ?_
  refine nl ?_
  refine AW.cond rfl (fun h1t => ?_) (fun h1f => ?_)
  ·
   try replace h1t := of_decide_eq_true h1t
   refine AW.rseq ?_
   refine Y1 (Yv.move rfl eV) ?_
   refine Y1 (Yv.loadBoxA rfl ag_87 (i := 1) rfl (E rfl rfl) rfl rfl) ?_
   refine C1 rfl ce_76 (E rfl rfl) (evsC (E rfl rfl) (evsC (E rfl rfl) evs0)) (S1 := [Ent.box b 68 (rdCells bs (nextF bs (farD1 x r)).2)]) (S2 := _) rfl (one76 b bs (nextF bs (farD1 x r)).2 hb hok2 x) ?_
   rintro t52 S52 ⟨rfl, E52, rfl⟩
   refine AWL.tuck ?_
   refine Y1 (Yv.move rfl eV) ?_
   refine Y1 (Yv.extract rfl eV rfl) ?_
   refine Y1 (Yv.extract rfl eV rfl) ?_
   refine Y1 (Yv.assign rfl eV) ?_
   refine Y1 (Yv.assign rfl eV) ?_
   refine nl ?_
   refine AW.rseq ?_
   refine Y1 (Yv.move rfl eV) ?_
   refine Y1 (Yv.move rfl eV) ?_
   refine Y1 (Yv.eql rfl eV eV) ?_
   refine C1 rfl ce_59 (E rfl rfl) (evsC (E rfl rfl) (evsC (E rfl rfl) evs0)) (S1 := [Ent.box b 68 (rdCells bs (oneD bs x (nextF bs (farD1 x r)).2))]) (S2 := _) rfl (must64 b bs (oneD bs x (nextF bs (farD1 x r)).2) (decide ((oneV bs x (nextF bs (farD1 x r)).2).1 = 0))) ?_
   rintro t58 S58 rfl
   refine nl ?_
   refine AW.rseq ?_
   refine Y1 (Yv.move rfl eV) ?_
   refine Y1 (Yv.move rfl eV) ?_
   refine Y1 (Yv.andN_i64 4 16 (by decide) (by decide) (by decide) rfl (E rfl rfl) (E rfl rfl) (fun hg => ⟨by omega, by omega⟩)) ?_
   refine Y1 (Yv.buildS rfl sh_23 (evpC (E rfl rfl) (evpC (E rfl rfl) (evpC (E rfl rfl) evp0))) (fun _ => rfl)) ?_
   refine AWL.storeBox (i := 2) rfl rfl rfl ag_23 rfl (E rfl rfl) (E rfl rfl) rfl rfl (Nat.le_of_ble_eq_true rfl) ?_
   refine nl ?_
   refine AW.ret (retI (.cellA (i := 2) rfl ag_23 rfl rfl rfl .nil) ?_)
   rw [farR, if_neg (ne_true_of_eq_false h0f), farIn, if_pos h1t]
   exact ⟨rfl, _, rfl⟩
  try replace h1f := of_decide_eq_false h1f
  refine AW.rseq ?_
  refine Y1 (Yv.fieldBox rfl fo_87_0 eV) ?_
  refine Y1 (Yv.loadBox rfl ag_3 (i := 1) rfl (E rfl rfl) rfl) ?_
  refine Y1 (Yv.eql rfl eV eV) ?_
  refine Y1 (Yv.move rfl eV) ?_
  refine AWL.ygT rfl rfl rfl rfl (B rfl) (Yv.move rfl (E rfl rfl)) ?_
  refine AWL.ygT rfl rfl rfl rfl (B rfl) (Yv.bits rfl rfl (Eg rfl rfl id) (E rfl rfl)) ?_
  refine AWL.ygT rfl rfl rfl rfl (B rfl) (Yv.eql rfl (Eg rfl rfl id) (E rfl rfl)) ?_
  refine Y1 (Yv.pickAnd rfl (E rfl rfl) (Eg rfl rfl id)) ?_
  refine Y1 (Yv.assign rfl eV) ?_
  refine nl ?_
  refine AW.cond rfl (fun h2t => ?_) (fun h2f => ?_)
  ·
   try replace h2t := of_decide_eq_true h2t
   refine AW.rseq ?_
   refine Y1 (Yv.move rfl eV) ?_
   refine Y1 (Yv.loadBoxA rfl ag_87 (i := 1) rfl (E rfl rfl) rfl rfl) ?_
   refine C1 rfl ce_78 (E rfl rfl) (evsC (E rfl rfl) (evsC (E rfl rfl) evs0)) (S1 := [Ent.box b 68 (rdCells bs (nextF bs (farD1 x r)).2)]) (S2 := _) rfl (two78 b bs (nextF bs (farD1 x r)).2 hb hok2 x) ?_
   rintro t75 S75 ⟨rfl, E75, rfl⟩
   refine AWL.tuck ?_
   refine Y1 (Yv.move rfl eV) ?_
   refine Y1 (Yv.extract rfl eV rfl) ?_
   refine Y1 (Yv.extract rfl eV rfl) ?_
   refine Y1 (Yv.assign rfl eV) ?_
   refine Y1 (Yv.assign rfl eV) ?_
   refine nl ?_
   refine AW.rseq ?_
   refine Y1 (Yv.move rfl eV) ?_
   refine Y1 (Yv.move rfl eV) ?_
   refine Y1 (Yv.move rfl eV) ?_
   refine Y1 (Yv.andN_i64 4 16 (by decide) (by decide) (by decide) rfl (E rfl rfl) (E rfl rfl) (fun hg => ⟨by omega, by omega⟩)) ?_
   refine Y1 (Yv.buildS rfl sh_23 (evpC (E rfl rfl) (evpC (E rfl rfl) (evpC (E rfl rfl) (evpC (E rfl rfl) evp0)))) (fun _ => rfl)) ?_
   refine AWL.storeBox (i := 2) rfl rfl rfl ag_23 rfl (E rfl rfl) (E rfl rfl) rfl rfl (Nat.le_of_ble_eq_true rfl) ?_
   refine nl ?_
   refine AW.ret (retI (.cellA (i := 2) rfl ag_23 rfl rfl rfl .nil) ?_)
   rw [farR, if_neg (ne_true_of_eq_false h0f), farIn, if_neg (ne_true_of_eq_false h1f), if_pos h2t]
   exact ⟨rfl, _, rfl⟩
  try replace h2f := of_decide_eq_false h2f
  refine AW.rseq ?_
  refine Y1 (Yv.fieldBox rfl fo_87_0 eV) ?_
  refine Y1 (Yv.loadBox rfl ag_3 (i := 1) rfl (E rfl rfl) rfl) ?_
  refine Y1 (Yv.eql rfl eV eV) ?_
  refine Y1 (Yv.move rfl eV) ?_
  refine AWL.ygT rfl rfl rfl rfl (B rfl) (Yv.move rfl (E rfl rfl)) ?_
  refine AWL.ygT rfl rfl rfl rfl (B rfl) (Yv.eql rfl (Eg rfl rfl id) (E rfl rfl)) ?_
  refine Y1 (Yv.pickAnd rfl (E rfl rfl) (Eg rfl rfl id)) ?_
  refine Y1 (Yv.assign rfl eV) ?_
  refine nl ?_
  refine AW.cond rfl (fun h3t => ?_) (fun h3f => ?_)
  ·
   try replace h3t := of_decide_eq_true h3t
   refine AW.rseq ?_
   refine Y1 (Yv.move rfl eV) ?_
   refine Y1 (Yv.loadBoxA rfl ag_87 (i := 1) rfl (E rfl rfl) rfl rfl) ?_
   refine C1 rfl ce_78 (E rfl rfl) (evsC (E rfl rfl) (evsC (E rfl rfl) evs0)) (S1 := [Ent.box b 68 (rdCells bs (nextF bs (farD1 x r)).2)]) (S2 := _) rfl (two78 b bs (nextF bs (farD1 x r)).2 hb hok2 x) ?_
   rintro t94 S94 ⟨rfl, E94, rfl⟩
   refine AWL.tuck ?_
   refine Y1 (Yv.move rfl eV) ?_
   refine Y1 (Yv.extract rfl eV rfl) ?_
   refine Y1 (Yv.extract rfl eV rfl) ?_
   refine Y1 (Yv.assign rfl eV) ?_
   refine Y1 (Yv.assign rfl eV) ?_
   refine nl ?_
   refine AW.rseq ?_
   refine Y1 (Yv.move rfl eV) ?_
   refine Y1 (Yv.move rfl eV) ?_
   refine Y1 (Yv.buildS rfl sh_23 (evpC (E rfl rfl) (evpC (E rfl rfl) (evpC (E rfl rfl) evp0))) (fun _ => rfl)) ?_
   refine AWL.storeBox (i := 2) rfl rfl rfl ag_23 rfl (E rfl rfl) (E rfl rfl) rfl rfl (Nat.le_of_ble_eq_true rfl) ?_
   refine nl ?_
   refine AW.ret (retI (.cellA (i := 2) rfl ag_23 rfl rfl rfl .nil) ?_)
   rw [farR, if_neg (ne_true_of_eq_false h0f), farIn, if_neg (ne_true_of_eq_false h1f), if_neg (ne_true_of_eq_false h2f), if_pos h3t]
   exact ⟨rfl, _, rfl⟩
  try replace h3f := of_decide_eq_false h3f
  refine AW.rseq ?_
  refine Y1 (Yv.fieldBox rfl fo_87_0 eV) ?_
  refine Y1 (Yv.loadBox rfl ag_3 (i := 1) rfl (E rfl rfl) rfl) ?_
  refine Y1 (Yv.eql rfl eV eV) ?_
  refine Y1 (Yv.move rfl eV) ?_
  refine AWL.ygT rfl rfl rfl rfl (B rfl) (Yv.move rfl (E rfl rfl)) ?_
  refine AWL.ygT rfl rfl rfl rfl (B rfl) (Yv.eql rfl (Eg rfl rfl id) (E rfl rfl)) ?_
  refine Y1 (Yv.pickAnd rfl (E rfl rfl) (Eg rfl rfl id)) ?_
  refine Y1 (Yv.assign rfl eV) ?_
  refine nl ?_
  refine AW.cond rfl (fun h4t => ?_) (fun h4f => ?_)
  ·
   try replace h4t := of_decide_eq_true h4t
   refine AW.seq ?_
   refine AW.rseqQ rfl (by kernel_rfl) ?_
   refine AWQ.y rfl rfl (B rfl) (Yv.move rfl (E rfl rfl)) ?_
   refine AWQ.y rfl rfl (B rfl) (Yv.nilChk rfl (E rfl rfl)) ?_
   refine AWQ.y rfl rfl (B rfl) (Yv.fieldBox rfl fo_68_1 (E rfl rfl)) ?_
   refine AWQ.y rfl rfl (B rfl) (Yv.loadBox rfl ag_3 (i := 0) rfl (E rfl rfl) rfl) ?_
   refine AWQ.y rfl rfl (B rfl) (Yv.move rfl (E rfl rfl)) ?_
   refine AWQ.y rfl rfl (B rfl) (Yv.nilChk rfl (E rfl rfl)) ?_
   refine AWQ.y rfl rfl (B rfl) (Yv.fieldBox rfl fo_68_0 (E rfl rfl)) ?_
   refine AWQ.y rfl rfl (B rfl) (Yv.loadBox rfl ag_24 (i := 0) rfl (E rfl rfl) rfl) ?_
   refine AWQ.y rfl rfl (B rfl) (Yv.lenSl rfl so_24 (B rfl) (E rfl rfl) len_u8s) ?_
   refine AWQ.y rfl rfl (B rfl) (Yv.lss rfl (E rfl rfl) (E rfl rfl)) ?_
   refine AWQ.y rfl rfl (B rfl) (Yv.move rfl (E rfl rfl)) ?_
   refine AWQ.ygT rfl rfl rfl rfl (B rfl) (Yv.move rfl (E rfl rfl)) ?_
   refine AWQ.ygT rfl rfl rfl rfl (B rfl) (Yv.nilChk rfl (Eg rfl rfl id)) ?_
   refine AWQ.ygT rfl rfl rfl rfl (B rfl) (Yv.fieldBox rfl fo_68_0 (Eg rfl rfl id)) ?_
   refine AWQ.ygT rfl rfl rfl rfl (B rfl) (Yv.loadBox rfl ag_24 (i := 0) rfl (Eg rfl rfl id) rfl) ?_
   refine AWQ.ygT rfl rfl rfl rfl (B rfl) (Yv.move rfl (E rfl rfl)) ?_
   refine AWQ.ygT rfl rfl rfl rfl (B rfl) (Yv.nilChk rfl (Eg rfl rfl id)) ?_
   refine AWQ.ygT rfl rfl rfl rfl (B rfl) (Yv.fieldBox rfl fo_68_1 (Eg rfl rfl id)) ?_
   refine AWQ.ygT rfl rfl rfl rfl (B rfl) (Yv.loadBox rfl ag_3 (i := 0) rfl (Eg rfl rfl id) rfl) ?_
   refine AWQ.ygT rfl rfl rfl rfl (B rfl) (Yv.indexSl rfl ss_24 (B rfl) (Eg rfl rfl id) (Eg rfl rfl id) (fun hg => ⟨rfl, (by first | omega | (simp only [len_u8s, len_ints]; omega) | (simp only [len_u8s, len_ints]; simp only [Bool.and_eq_true, Bool.or_eq_false_iff, Bool.not_eq_true', Bool.not_eq_false', decide_eq_true_eq, decide_eq_false_iff_not] at hg; omega))⟩)) ?_
   refine AWQ.ygT rfl rfl rfl rfl (B rfl) (Yv.loadRp rfl ag_5 (Eg rfl rfl id) (fun hg => u8_get (by simp only [Bool.true_and, decide_eq_true_eq] at hg; omega))) ?_
   refine AWQ.ygT rfl rfl rfl rfl (B rfl) (Yv.shrC 64 (by decide) (by decide) (by decide) rfl (Eg rfl rfl id) (E rfl rfl)) ?_
   refine AWQ.ygT rfl rfl rfl rfl (B rfl) (Yv.eql rfl (Eg rfl rfl id) (E rfl rfl)) ?_
   refine AWQ.y rfl rfl (B rfl) (Yv.pickAnd rfl (E rfl rfl) (Eg rfl rfl id)) ?_
   refine AWQ.nil ?_
   refine AW.cond rfl (fun h5t => ?_) (fun h5f => ?_)
   ·
    try replace h5t := of_decide_eq_true h5t
    refine AW.rseq ?_
    refine Y1 (Yv.move rfl eV) ?_
    refine Y1 (Yv.loadBoxA rfl ag_87 (i := 1) rfl (E rfl rfl) rfl rfl) ?_
    refine C1 rfl ce_74 (E rfl rfl) (evsC (E rfl rfl) (evsC (E rfl rfl) evs0)) (S1 := [Ent.box b 68 (rdCells bs (nextF bs (farD1 x r)).2)]) (S2 := _) rfl (mem74 b bs (nextF bs (farD1 x r)).2 hb hok2 x) ?_
    rintro t135 S135 ⟨rfl, E135, rfl⟩
    refine AWL.tuck ?_
    refine Y1 (Yv.move rfl eV) ?_
    refine Y1 (Yv.extract rfl eV rfl) ?_
    refine Y1 (Yv.extract rfl eV rfl) ?_
    refine Y1 (Yv.extract rfl eV rfl) ?_
    refine Y1 (Yv.assign rfl eV) ?_
    refine Y1 (Yv.assign rfl eV) ?_
    refine Y1 (Yv.assign rfl eV) ?_
    refine nl ?_
    refine AW.rseq ?_
    refine Y1 (Yv.move rfl eV) ?_
    refine Y1 (Yv.move rfl eV) ?_
    refine Y1 (Yv.move rfl eV) ?_
    refine Y1 (Yv.buildS rfl sh_23 (evpC (E rfl rfl) (evpC (E rfl rfl) (evpC (E rfl rfl) (evpC (E rfl rfl) (evpC (E rfl rfl) evp0))))) (fun _ => rfl)) ?_
    refine AWL.storeBox (i := 2) rfl rfl rfl ag_23 rfl (E rfl rfl) (E rfl rfl) rfl rfl (Nat.le_of_ble_eq_true rfl) ?_
    refine nl ?_
    refine AW.ret (retI (.cellA (i := 2) rfl ag_23 rfl rfl rfl .nil) ?_)
    rw [farR, if_neg (ne_true_of_eq_false h0f), farIn, if_neg (ne_true_of_eq_false h1f), if_neg (ne_true_of_eq_false h2f), if_neg (ne_true_of_eq_false h3f), if_pos h4t, if_pos (show peekF bs (nextF bs (farD1 x r)).2 = true from h5t)]
    exact ⟨rfl, _, rfl⟩
   try replace h5f := of_decide_eq_false h5f
   refine AW.skip ?_
   refine AW.rseq ?_
   refine Y1 (Yv.move rfl eV) ?_
   refine Y1 (Yv.loadBoxA rfl ag_87 (i := 1) rfl (E rfl rfl) rfl rfl) ?_
   refine C1 rfl ce_78 (E rfl rfl) (evsC (E rfl rfl) (evsC (E rfl rfl) evs0)) (S1 := [Ent.box b 68 (rdCells bs (nextF bs (farD1 x r)).2)]) (S2 := _) rfl (two78 b bs (nextF bs (farD1 x r)).2 hb hok2 x) ?_
   rintro t146 S146 ⟨rfl, E146, rfl⟩
   refine AWL.tuck ?_
   refine Y1 (Yv.move rfl eV) ?_
   refine Y1 (Yv.extract rfl eV rfl) ?_
   refine Y1 (Yv.extract rfl eV rfl) ?_
   refine Y1 (Yv.assign rfl eV) ?_
   refine Y1 (Yv.assign rfl eV) ?_
   refine nl ?_
   refine AW.rseq ?_
   refine Y1 (Yv.move rfl eV) ?_
   refine Y1 (Yv.move rfl eV) ?_
   refine Y1 (Yv.buildS rfl sh_23 (evpC (E rfl rfl) (evpC (E rfl rfl) (evpC (E rfl rfl) evp0))) (fun _ => rfl)) ?_
   refine AWL.storeBox (i := 2) rfl rfl rfl ag_23 rfl (E rfl rfl) (E rfl rfl) rfl rfl (Nat.le_of_ble_eq_true rfl) ?_
   refine nl ?_
   refine AW.ret (retI (.cellA (i := 2) rfl ag_23 rfl rfl rfl .nil) ?_)
   rw [farR, if_neg (ne_true_of_eq_false h0f), farIn, if_neg (ne_true_of_eq_false h1f), if_neg (ne_true_of_eq_false h2f), if_neg (ne_true_of_eq_false h3f), if_pos h4t, if_neg (show ¬ peekF bs (nextF bs (farD1 x r)).2 = true from ne_true_of_eq_false h5f)]
   exact ⟨rfl, _, rfl⟩
  try replace h4f := of_decide_eq_false h4f
  refine AW.skip ?_
  refine AW.rseq ?_
  refine Y1 (Yv.move rfl eV) ?_
  refine C1 rfl ce_59 (E rfl rfl) (evsC (E rfl rfl) (evsC (E rfl rfl) evs0)) (S1 := [Ent.box b 68 (rdCells bs (nextF bs (farD1 x r)).2)]) (S2 := _) rfl (must64 b bs (nextF bs (farD1 x r)).2 false) ?_
  rintro t153 S153 rfl
  refine nl ?_
  refine AW.rseq ?_
  refine Y1 (Yv.buildS rfl sh_23 evp0 (fun _ => rfl)) ?_
  refine AWL.storeBox (i := 2) rfl rfl rfl ag_23 rfl (E rfl rfl) (E rfl rfl) rfl rfl (Nat.le_of_ble_eq_true rfl) ?_
  refine nl ?_
  refine AW.ret (retI (.cellA (i := 2) rfl ag_23 rfl rfl rfl .nil) ?_)
  rw [farR, if_neg (ne_true_of_eq_false h0f), farIn, if_neg (ne_true_of_eq_false h1f), if_neg (ne_true_of_eq_false h2f), if_neg (ne_true_of_eq_false h3f), if_neg (ne_true_of_eq_false h4f)]
  exact ⟨rfl, _, rfl⟩

end Go.Proofs.YtjndpakhmgapjaaDoor
