/-
  THE DOCUMENT'S ANSWERS: which things may be, in the document's words, are those of the package.
-/
import Derived.Test.YtbndnmmceccbkaaLay
namespace Go.Proofs.Ytbndnmmceccbkaa
open Go Go.RowKit
set_option linter.unusedSectionVars false
def mayBad (t : Thing) : Bool := bytesK t.kind && decide ((0 : Int) < t.refs.length) || !bytesK t.kind && decide ((0 : Int) < t.bytes.length)
theorem nil_iff (l : List UInt8) : decide ((0 : Int) < l.length) = !decide (l = []) := by
  cases l with
  | nil => rfl
  | cons a r =>
    have h : decide ((0 : Int) < (a :: r).length) = true := decide_eq_true (by rw [List.length_cons]; omega)
    rw [h]; rfl
theorem mayBad_eq (t : Thing) : mayBad t = made1 t := by unfold mayBad made1; rw [nil_iff]
section
variable {t : Thing} (ht : ThingOk 1099511627 t)
include ht
theorem made0_eq : made0 t = (decide (t.kind < 1) || decide (8 < t.kind)) := by
  have h1 := ht.by_
  have h2 := ht.rl
  unfold made0
  rw [decide_eq_false (show ¬ (1099511627775 : Int) < t.bytes.length by omega), decide_eq_false (show ¬ (1099511627775 : Int) ≤ t.refs.length by omega)]
  simp
theorem may_bad (h : mayBad t = true) : madeF t = false := by
  unfold madeF
  rw [mayBad_eq] at h
  split
  · rfl
  · first | rfl | rw [if_pos h]
theorem may_in (h : mayBad t = false) (h1 : 1 ≤ t.kind) (h8 : t.kind ≤ 8) : madeF t = if t.kind = 1 then decide (0 ≤ t.tag) && decide (t.tag ≤ 65535) else if t.kind = 8 then decide (0 ≤ t.tag) && decide (t.tag ≤ 4194303)
    else if t.kind = 3 then bigF t else if t.kind = 4 then decide (t.tag = 0) && decide ((t.bytes.length : Int) = 8) else if t.kind = 5 then decide (t.tag = 0) && decide ((t.refs.length : Int) = 1) else decide (t.tag = 0) := by
  rw [mayBad_eq] at h
  have h0 : made0 t = false := by rw [made0_eq ht, decide_eq_false (by omega), decide_eq_false (by omega)]; rfl
  unfold madeF
  rw [h0, if_neg (by decide), h, if_neg (by decide)]
theorem may_1 (h : mayBad t = false) (hk : t.kind = 1) : madeF t = (decide (0 ≤ t.tag) && decide (t.tag ≤ 65535)) := by rw [may_in ht h (by omega) (by omega), if_pos hk]
theorem may_8 (h : mayBad t = false) (hk : t.kind = 8) : madeF t = (decide (0 ≤ t.tag) && decide (t.tag < 4194304)) := by
  rw [may_in ht h (by omega) (by omega), if_neg (by omega), if_pos hk]
  congr 1
  exact decide_eq_decide.2 (by omega)
theorem may_276 (h : mayBad t = false) (hk : (decide (t.kind = 2) || decide (t.kind = 7) || decide (t.kind = 6)) = true) : madeF t = decide (t.tag = 0) := by
  simp only [Bool.or_eq_true, decide_eq_true_eq] at hk
  rw [may_in ht h (by omega) (by omega), if_neg (by omega), if_neg (by omega), if_neg (by omega), if_neg (by omega), if_neg (by omega)]
theorem may_4 (h : mayBad t = false) (hk : t.kind = 4) : madeF t = (decide (t.tag = 0) && decide ((t.bytes.length : Int) = 8)) := by
  rw [may_in ht h (by omega) (by omega), if_neg (by omega), if_neg (by omega), if_neg (by omega), if_pos hk]
theorem may_5 (h : mayBad t = false) (hk : t.kind = 5) : madeF t = (decide (t.tag = 0) && decide ((t.refs.length : Int) = 1)) := by
  rw [may_in ht h (by omega) (by omega), if_neg (by omega), if_neg (by omega), if_neg (by omega), if_neg (by omega), if_pos hk]
theorem may_3 (h : mayBad t = false) (hk : t.kind = 3) : madeF t = bigF t := by
  rw [may_in ht h (by omega) (by omega), if_neg (by omega), if_neg (by omega), if_pos hk]
theorem may_none (h1 : ¬ t.kind = 1) (h8 : ¬ t.kind = 8) (h276 : (decide (t.kind = 2) || decide (t.kind = 7) || decide (t.kind = 6)) = false) (h4 : ¬ t.kind = 4) (h5 : ¬ t.kind = 5) (h3 : ¬ t.kind = 3) : madeF t = false := by
  simp only [Bool.or_eq_false_iff, decide_eq_false_iff_not] at h276
  have h0 : made0 t = true := by
    rw [made0_eq ht, Bool.or_eq_true]
    rcases Int.lt_or_le t.kind 1 with q | q
    · left; exact decide_eq_true q
    · right; exact decide_eq_true (by omega)
  unfold madeF
  rw [if_pos h0]
end
theorem leNum_zero : ∀ (l : List UInt8), leNum l = 0 → ∀ b ∈ l, b = 0
  | [], _, b, hb => by cases hb
  | c :: r, h, b, hb => by
    have h1 := leNum_nonneg r
    have h2 := u8_toNat c
    simp only [leNum] at h
    rcases List.mem_cons.1 hb with e | e
    · subst e; exact UInt8.toNat_inj.1 (by show b.toNat = 0; omega)
    · exact leNum_zero r (by omega) b e
theorem four_zero {l : List UInt8} (h : l.length = 4) : decide (l = [0, 0, 0, 0]) = decide (leNum l = 0) := by
  apply decide_eq_decide.2
  constructor
  · intro e; rw [e]; rfl
  · intro e
    have h1 := leNum_zero l e
    match l, h with
    | [a, b, c, d], _ => rw [h1 a (by simp), h1 b (by simp), h1 c (by simp), h1 d (by simp)]
/-- The last four bytes. -/
def last4 (t : Thing) : List UInt8 := (t.bytes.drop ((t.bytes.length : Int) - 4).toNat).take (t.bytes.length - ((t.bytes.length : Int) - 4).toNat)
def mayBig0 (t : Thing) : Bool := decide (t.tag < 0) || decide (1 < t.tag) || decide ((t.bytes.length : Int) < 8) || !decide ((t.bytes.length : Int) % 4 = 0)
theorem last4_len {t : Thing} (h : mayBig0 t = false) : (last4 t).length = 4 := by
  simp only [mayBig0, Bool.or_eq_false_iff, decide_eq_false_iff_not] at h
  unfold last4
  rw [List.length_take, List.length_drop]; omega
theorem big_0 {t : Thing} (h : mayBig0 t = true) : bigF t = false := by
  unfold bigF
  rw [if_pos]
  simp only [mayBig0, Bool.or_eq_true, Bool.not_eq_true', decide_eq_true_eq, decide_eq_false_iff_not] at h
  simp only [big0, Bool.or_eq_true, Bool.and_eq_true, Bool.not_eq_true', decide_eq_true_eq, decide_eq_false_iff_not]
  rcases h with ((h | h) | h) | h
  · left; left; left; omega
  · left; left; left; omega
  · left; left; right; exact h
  · left; right; exact h
theorem big0_eq {t : Thing} (h : mayBig0 t = false) : big0 t = decide (leNum (last4 t) = 0) := by
  rw [← four_zero (last4_len h)]
  simp only [mayBig0, Bool.or_eq_false_iff, Bool.not_eq_false', decide_eq_true_eq, decide_eq_false_iff_not] at h
  unfold big0
  have h1 : (!decide (t.tag = 0) && !decide (t.tag = 1)) = false := by
    rw [Bool.and_eq_false_iff]
    rcases Int.lt_or_le t.tag 1 with q | q
    · left; rw [decide_eq_true (show t.tag = 0 by omega)]; rfl
    · right; rw [decide_eq_true (show t.tag = 1 by omega)]; rfl
  rw [h1, decide_eq_false h.1.2, decide_eq_true h.2]
  rfl
theorem big_z {t : Thing} (h : mayBig0 t = false) (hz : leNum (last4 t) = 0) : bigF t = false := by
  unfold bigF; rw [if_pos (by rw [big0_eq h]; exact decide_eq_true hz)]
theorem big_n {t : Thing} (h : mayBig0 t = false) (hz : ¬ leNum (last4 t) = 0) : bigF t = (decide ((8 : Int) < t.bytes.length) || decide (4611686018427387903 + t.tag < leNum t.bytes)) := by
  have hm := h
  simp only [mayBig0, Bool.or_eq_false_iff, Bool.not_eq_false', decide_eq_true_eq, decide_eq_false_iff_not] at hm
  unfold bigF
  rw [if_neg (by rw [big0_eq h, decide_eq_true_eq]; exact hz)]
  by_cases h8 : (8 : Int) < t.bytes.length
  · rw [if_pos h8, decide_eq_true h8]; rfl
  · rw [if_neg h8, decide_eq_false h8, Bool.false_or, List.drop_zero, List.take_of_length_le (by omega)]
theorem leNum_cons_drop {l : List UInt8} {j : Nat} (h0 : 0 < j) (h : j ≤ l.length) : leNum (l.drop (j - 1)) = 256 * leNum (l.drop j) + (l.getD (j - 1) 0).toNat := by
  rw [List.drop_eq_getElem_cons (show j - 1 < l.length by omega), leNum, getD_eq (show j - 1 < l.length by omega), show j - 1 + 1 = j by omega]; omega
theorem leNum_drop_lt {l : List UInt8} {j : Nat} (hl : l.length ≤ 8) (h0 : 0 < j) : leNum (l.drop j) ≤ 72057594037927935 := by
  have h1 := leNum_lt (l.drop j)
  have h2 : (l.drop j).length ≤ 7 := by rw [List.length_drop]; omega
  have h3 := pow_le (l.drop j).length h2
  omega
theorem fits_two' (r : RefV) (n : Nat) (h : ¬ r.kind = 1) : fitsF r n = (decide (r.kind = 2) && decide (0 ≤ r.n) && decide (r.n < (n : Int))) := by
  unfold fitsF
  rw [if_neg h]
  split
  · rename_i h2; rw [decide_eq_true h2]; rfl
  · rename_i h2; rw [decide_eq_false h2]; rfl
theorem fits_one' (r : RefV) (n : Nat) (h : r.kind = 1) : fitsF r n = (decide (-4611686018427387904 ≤ r.n) && decide (r.n < 4611686018427387904)) := by
  unfold fitsF
  rw [if_pos h]
  congr 1
  exact decide_eq_decide.2 (by omega)
/-- What the document's loop over the things knows. -/
def fineF (g : Graph) (j : Nat) : Bool := (g.roots.all fun r => fitsF r g.things.length) && (g.things.take j).all (goodT g)
theorem fine_step {g : Graph} {j : Nat} (h : j < g.things.length) (hf : fineF g j = true) : fineF g (j + 1) = goodT g (g.things.getD j default) := by
  unfold fineF at hf ⊢
  rw [Bool.and_eq_true] at hf
  rw [take_at h, List.all_append, hf.1, hf.2]
  simp
theorem fine_bad {g : Graph} {j : Nat} (h : fineF g j = false) : checkF g = 141 := by
  unfold checkF
  rw [if_neg]
  intro hc
  unfold checkB at hc
  rw [Bool.and_eq_true] at hc
  unfold fineF at h
  rw [hc.1, Bool.true_and] at h
  have : (g.things.take j).all (goodT g) = true := List.all_eq_true.2 fun t ht => List.all_eq_true.1 hc.2 t (List.mem_of_mem_take ht)
  rw [this] at h; cases h
theorem fine_all {g : Graph} {j : Nat} (hj : g.things.length ≤ j) (h : fineF g j = true) : checkF g = 0 := by
  unfold checkF
  rw [if_pos]
  unfold checkB
  unfold fineF at h
  rw [List.take_of_length_le hj] at h
  exact h
theorem all_bad {l : List RefV} {n j : Nat} (hj : j < l.length) (h : fitsF (l.getD j default) n = false) : (l.all fun r => fitsF r n) = false := by
  rw [List.all_eq_false]
  exact ⟨_, getD_mem' hj, by rw [h]; decide⟩
theorem all_good {l : List RefV} {n j : Nat} (hj : l.length ≤ j) (h : ∀ i, i < j → fitsF (l.getD i default) n = true) : (l.all fun r => fitsF r n) = true := List.all_eq_true.2 fun r hr => by
  obtain ⟨i, hi, rfl⟩ := List.getElem_of_mem hr
  rw [← getD_eq' hi]; exact h i (by omega)
theorem thing_up {t : Thing} (q : ThingOk 1048576 t) : ThingOk 1099511627 t := ⟨q.k0, q.k1, q.g0, q.g1, Nat.le_trans q.by_ (by decide), Nat.le_trans q.rl (by decide), q.rs⟩
theorem one_ok {t : Thing} (q : ThingOk 1099511627 t) : GraphOk 1099511627 ⟨[t], []⟩ := ⟨by simp, by simp, fun x hx => by simp only [List.mem_singleton] at hx; subst hx; exact q, fun r hr => by cases hr⟩
theorem thing_refs {l : List Thing} {j : Nat} (h : j < l.length) : (l.flatMap thingCells)[j * 4 + 3]? = some (.sl 2 ((l.getD j default).refs.flatMap refCells)) := flat_at tk h 3 (by decide)
theorem size_ref {t : Thing} : sizeF t = if madeF t = true then 8 + 8 * (if bytesK t.kind = true then ((longF t : Int) + 7) / 8 else longF t) else 0 := by
  unfold sizeF spanF
  split
  · split <;> omega
  · rfl
end Go.Proofs.Ytbndnmmceccbkaa
