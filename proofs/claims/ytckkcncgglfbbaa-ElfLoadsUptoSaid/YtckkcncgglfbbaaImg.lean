/-
  IMAGES as plain data, as trees; what the elf package's functions compute, in plain words.
-/
import Derived.Test.YtckkcncgglfbbaaPlain
namespace Go.Proofs.Ytckkcncgglfbbaa
open Go Go.RowKit
structure Seg where
  at_ : Int
  size : Int
  may : Int
  data : List UInt8
  deriving Inhabited, DecidableEq
structure Img where
  entry : Int
  segs : List Seg
  deriving Inhabited, DecidableEq
def segCells (s : Seg) : List T := [.v (.int .u64 s.at_), .v (.int .u64 s.size), .v (.int .i64 s.may), .sl 1 (s.data.map u8)]
def segT (s : Seg) : T := .agg (segCells s)
def segsT (l : List Seg) : T := .sl 4 (l.flatMap segCells)
def imgT (i : Img) : T := .agg [.v (.int .u64 i.entry), .sl 4 (i.segs.flatMap segCells)]
/-- The ranges that Go's kinds give, and a bound on the bytes. -/
def SegOk (s : Seg) : Prop := 0 ≤ s.at_ ∧ s.at_ ≤ 18446744073709551615 ∧ 0 ≤ s.size ∧ s.size ≤ 18446744073709551615 ∧ -9223372036854775808 ≤ s.may ∧ s.may ≤ 9223372036854775807 ∧ s.data.length ≤ 1099511627776
def ImgOk (i : Img) : Prop := 0 ≤ i.entry ∧ i.entry ≤ 18446744073709551615 ∧ i.segs.length ≤ 1099511627776 ∧ ∀ s ∈ i.segs, SegOk s

theorem len_segs {l : List Seg} : (l.flatMap segCells).length = l.length * 4 := by
  induction l with
  | nil => rfl
  | cons s r ih => rw [List.flatMap_cons, List.length_append, ih]; simp [segCells]; omega
theorem drop_segs : ∀ (l : List Seg) (j : Nat), (l.flatMap segCells).drop (j * 4) = (l.drop j).flatMap segCells
  | [], j => by simp
  | s :: r, 0 => by simp
  | s :: r, j + 1 => by
    rw [List.flatMap_cons, Nat.add_mul, Nat.one_mul, Nat.add_comm, List.drop_append]
    have h : (segCells s).length = 4 := rfl
    rw [List.drop_of_length_le (by omega), h, List.nil_append, Nat.add_sub_cancel_left, drop_segs r j]
    rfl
theorem seg_get {l : List Seg} {j : Nat} (h : j < l.length) : ((l.flatMap segCells).drop (j * 4)).take 4 = segCells (l.getD j default) ∧ (segCells (l.getD j default)).length = 4 := by
  refine ⟨?_, rfl⟩
  rw [drop_segs, List.drop_eq_getElem_cons h, List.flatMap_cons]
  have e : l.getD j default = l[j] := by simp [h]
  rw [e]
  rfl
theorem seg_ok {i : Img} (h : ImgOk i) {j : Nat} (hj : j < i.segs.length) : SegOk (i.segs.getD j default) := by
  have e : i.segs.getD j default = i.segs[j] := by simp [hj]
  rw [e]
  exact h.2.2.2 _ (List.getElem_mem hj)
theorem drop_seg {l : List Seg} {j : Nat} (h : j < l.length) : l.drop j = l.getD j default :: l.drop (j + 1) := by
  have e : l.getD j default = l[j] := by simp [h]
  rw [e, List.drop_eq_getElem_cons h]

/-! ### checked -/
def badB (strict : Bool) (s : Seg) (en : Int) : Bool :=
  strict && !decide (s.at_ % 4096 = 0) || decide (s.size < 1) || decide (s.size < (s.data.length : Int)) || decide (9223372036854775808 < s.size) || decide (9223372036854775808 - s.size < s.at_) || decide (s.may < 1) || decide (7 < s.may) || decide (s.at_ / 4096 < en)
def runs (entry : Int) (s : Seg) : Bool := !decide (s.may % 2 = 0) && decide (s.at_ ≤ entry) && decide (entry - s.at_ < s.size)
def lastPage (s : Seg) : Int := (s.at_ + s.size - 1) / 4096
def chk (entry : Int) (strict : Bool) : List Seg → Int → Bool → Bool
  | [], _, e => e
  | s :: r, en, e => if badB strict s en then false else chk entry strict r (lastPage s + 1) (e || runs entry s)
def errOf (b : Bool) : Int := if b then 0 else 210
def checkedB (i : Img) (strict : Bool) : Bool := !(decide ((i.segs.length : Int) < 1) || decide (64 < (i.segs.length : Int))) && chk i.entry strict i.segs 0 false
theorem bad_iff (strict : Bool) (s : Seg) (en : Int) : badB strict s en = true ↔ (strict = true ∧ ¬ s.at_ % 4096 = 0) ∨ s.size < 1 ∨ s.size < (s.data.length : Int) ∨ 9223372036854775808 < s.size ∨ 9223372036854775808 - s.size < s.at_ ∨ s.may < 1 ∨ 7 < s.may ∨ s.at_ / 4096 < en := by
  simp only [badB, Bool.or_eq_true, Bool.and_eq_true, Bool.not_eq_true', decide_eq_true_eq, decide_eq_false_iff_not, or_assoc]
def SegIn (s : Seg) : Prop := 0 ≤ s.at_ ∧ 1 ≤ s.size ∧ s.size ≤ 9223372036854775808 ∧ s.at_ ≤ 9223372036854775808 - s.size ∧ 1 ≤ s.may ∧ s.may ≤ 7 ∧ (s.data.length : Int) ≤ s.size
theorem runs_true {en : Int} {s : Seg} (h1 : s.may % 2 = 1) (h2 : s.at_ ≤ en) (h3 : en - s.at_ < s.size) : runs en s = true := by
  simp only [runs, Bool.and_eq_true, Bool.not_eq_true', decide_eq_true_eq, decide_eq_false_iff_not]
  exact ⟨⟨by omega, h2⟩, h3⟩
theorem runs_false {en : Int} {s : Seg} (h : ¬ (s.may % 2 = 1 ∧ s.at_ ≤ en ∧ en - s.at_ < s.size)) (h1 : 1 ≤ s.may) : runs en s = false := by
  rw [← Bool.not_eq_true]
  simp only [runs, Bool.and_eq_true, Bool.not_eq_true', decide_eq_true_eq, decide_eq_false_iff_not]
  omega
/-! ### Same -/
theorem take_more {l r : List Seg} {j : Nat} (h : l.take j = r.take j) (hl : j < l.length) (hr : j < r.length) (he : l.getD j default = r.getD j default) : l.take (j + 1) = r.take (j + 1) := by
  have e1 : l.getD j default = l[j] := by simp [hl]
  have e2 : r.getD j default = r[j] := by simp [hr]
  rw [List.take_succ_eq_append_getElem hl, List.take_succ_eq_append_getElem hr, h, ← e1, ← e2, he]
def fieldsB (x y : Seg) : Bool := !decide (x.at_ = y.at_) || !decide (x.size = y.size) || !decide (x.may = y.may) || !decide ((⟨x.data.toArray⟩ : ByteArray).data.toList = (⟨y.data.toArray⟩ : ByteArray).data.toList)
theorem seg_eq {x y : Seg} (h : fieldsB x y = false) : x = y := by
  simp only [fieldsB, Bool.or_eq_false_iff, Bool.not_eq_false', decide_eq_true_eq] at h
  obtain ⟨⟨⟨h1, h2⟩, h3⟩, h4⟩ := h
  cases x; cases y
  simp_all
theorem seg_ne {x y : Seg} (h : fieldsB x y = true) : x ≠ y := by
  rintro rfl
  simp [fieldsB] at h
theorem not_same {p q : Img} {j : Nat} (hp : j < p.segs.length) (hq : j < q.segs.length) (h : fieldsB (p.segs.getD j default) (q.segs.getD j default) = true) : decide (p = q) = false := by
  rw [decide_eq_false_iff_not]
  rintro rfl
  exact seg_ne h rfl
theorem not_same0 {p q : Img} (h : ¬ p.entry = q.entry ∨ ¬ (p.segs.length : Int) = (q.segs.length : Int)) : decide (p = q) = false := by
  rw [decide_eq_false_iff_not]
  rintro rfl
  simp at h
theorem is_same {p q : Img} (h1 : p.entry = q.entry) (h2 : p.segs.length = q.segs.length) {j : Nat} (h : p.segs.take j = q.segs.take j) (hj : p.segs.length ≤ j) : decide (p = q) = true := by
  rw [decide_eq_true_eq]
  rw [List.take_of_length_le hj, List.take_of_length_le (by omega)] at h
  cases p; cases q
  simp_all
end Go.Proofs.Ytckkcncgglfbbaa
