/-
  NUMBERING BY BREADTH: bounds of what comes out.
-/
import Derived.Test.YtbndnmmceccbkaaCanon
namespace Go.Proofs.Ytbndnmmceccbkaa
open Go Go.RowKit
theorem ixOf_lt {z : Int} {row : List Int} {i : Nat} (h : ixOf row z = some i) : i < row.length := by
  have := ixOf_some h
  rcases Nat.lt_or_ge i row.length with q | q
  · exact q
  · rw [List.getElem?_eq_none q] at this; cases this
theorem metR_refOk {b : Nat} (hb : b ≤ 1099511627776) {row : List Int} {r : RefV} (hr : row.length ≤ b) (h : RefOk r) : RefOk (metR row r).2 := by
  unfold metR
  split
  · split
    · rename_i i hi
      have := ixOf_lt hi
      exact ⟨by show (-9223372036854775808 : Int) ≤ 2; omega, by show (2 : Int) ≤ 9223372036854775807; omega, by show (-9223372036854775808 : Int) ≤ (i : Int); omega, by show (i : Int) ≤ 9223372036854775807; omega⟩
    · exact ⟨by show (-9223372036854775808 : Int) ≤ 2; omega, by show (2 : Int) ≤ 9223372036854775807; omega, by show (-9223372036854775808 : Int) ≤ (row.length : Int); omega, by show (row.length : Int) ≤ 9223372036854775807; omega⟩
  · exact h
theorem metF_refOk {b : Nat} (hb : b ≤ 1099511627776) : ∀ {l : List RefV} {row : List Int}, (metF row l).1.length ≤ b → (∀ r ∈ l, RefOk r) → ∀ r ∈ (metF row l).2, RefOk r
  | [], _, _, _ => fun r h => by cases h
  | a :: l, row, hr, h => by
    intro r hm
    have h1 := metR_row0 row a
    have h2 := metF_row0 l (metR row a).1
    have h3 : (metF row (a :: l)).1 = (metF (metR row a).1 l).1 := rfl
    rw [h3] at hr
    rcases List.mem_cons.1 hm with e | e
    · subst e; exact metR_refOk hb (by omega) (h a (by simp))
    · exact metF_refOk hb hr (fun r hr => h r (by simp [hr])) r e
theorem canonS_ok {b : Nat} (hb : b ≤ 1099511627776) {g : Graph} (hg : GraphOk b g) (hc : checkB g = true) : ∀ (f : Nat) (row : List Int) (out : List Thing), RowOk g.things.length row → (∀ t ∈ out, ThingOk b t) → out.length ≤ row.length →
    RowOk g.things.length (canonS g f row out).1 ∧ (∀ t ∈ (canonS g f row out).2, ThingOk b t) ∧ (canonS g f row out).2.length ≤ (canonS g f row out).1.length
  | 0, row, out, h1, h2, h3 => ⟨h1, h2, h3⟩
  | f + 1, row, out, h1, h2, h3 => by
    rcases Nat.lt_or_ge out.length row.length with q | q
    · rw [canonS_step q]
      have hz := row_at h1 q
      have hm : g.things.getD (row.getD out.length 0).toNat default ∈ g.things := getD_mem' (by omega)
      have ht := hg.ts _ hm
      have hok := metF_ok h1 (check_thing hc _ hm).2
      refine canonS_ok hb hg hc f _ _ hok (fun t hin => ?_) ?_
      · rcases List.mem_append.1 hin with e | e
        · exact h2 t e
        · simp only [List.mem_singleton] at e
          subst e
          have hl := hok.len
          have htl := hg.tl
          exact ⟨ht.k0, ht.k1, ht.g0, ht.g1, ht.by_, by show (metF row _).2.length ≤ b; rw [metF_len]; exact ht.rl, metF_refOk hb (by omega) ht.rs⟩
      · have := metF_row0 (g.things.getD (row.getD out.length 0).toNat default).refs row
        rw [List.length_append, List.length_singleton]; omega
    · rw [canonS_end q]; exact ⟨h1, h2, h3⟩
theorem canonG_ok {b : Nat} (hb : b ≤ 1099511627776) {g : Graph} (hg : GraphOk b g) : GraphOk b (canonG g) := by
  unfold canonG
  split
  · rename_i hc
    have h0 := metF_ok (RowOk.nil g.things.length) (check_roots hc)
    have h1 := canonS_ok hb hg hc g.things.length (metF [] g.roots).1 [] h0 (fun t h => by cases h) (Nat.zero_le _)
    have h2 := h1.1.len
    have h3 := h0.len
    have h4 := hg.tl
    exact ⟨by show (canonS g g.things.length (metF [] g.roots).1 []).2.length ≤ b; omega, by show (metF [] g.roots).2.length ≤ b; rw [metF_len]; exact hg.rl, h1.2.1, metF_refOk hb (by omega) hg.rs⟩
  · exact ⟨Nat.zero_le _, Nat.zero_le _, fun t h => (by cases h), fun t h => (by cases h)⟩
/-! ### what the equalities look for -/
theorem ne_len {α : Type} [DecidableEq α] {l l' : List α} (h : ¬ (l.length : Int) = l'.length) : decide (l = l') = false := decide_eq_false fun e => h (by rw [e])
theorem ne_at {α : Type} [Inhabited α] [DecidableEq α] {l l' : List α} {j : Nat} (h : ¬ l.getD j default = l'.getD j default) : decide (l = l') = false := decide_eq_false fun e => h (by rw [e])
theorem eq_all {α : Type} [Inhabited α] [DecidableEq α] {l l' : List α} {j : Nat} (hl : l.length = l'.length) (hj : l.length ≤ j) (h : ∀ i, i < j → l.getD i default = l'.getD i default) : decide (l = l') = true := decide_eq_true (eq_upto hl fun i hi => h i (by omega))
/-- The document's look at two graphs. -/
def graphEq (a b : Graph) : Bool := decide (a.roots = b.roots) && decide (a.things = b.things)
theorem graphEq_iff {a b : Graph} : graphEq a b = true ↔ a = b := by
  cases a; cases b
  simp only [graphEq, Bool.and_eq_true, decide_eq_true_eq, Graph.mk.injEq]
  exact ⟨fun ⟨a, b⟩ => ⟨b, a⟩, fun ⟨a, b⟩ => ⟨b, a⟩⟩
theorem graphEq_ne {g h : Graph} (e : ¬ g.roots = h.roots ∨ ¬ (g.things.length : Int) = h.things.length) : graphEq g h = false := by
  rw [← Bool.not_eq_true, graphEq_iff]
  rintro rfl
  rcases e with e | e <;> exact e rfl
theorem graphEq_at {g h : Graph} {j : Nat} (e : ¬ g.things.getD j default = h.things.getD j default) : graphEq g h = false := by
  rw [← Bool.not_eq_true, graphEq_iff]
  rintro rfl
  exact e rfl
theorem graphEq_all {g h : Graph} {j : Nat} (hr : g.roots = h.roots) (hl : g.things.length = h.things.length) (hj : g.things.length ≤ j) (hn : ∀ i, i < j → g.things.getD i default = h.things.getD i default) : graphEq g h = true := by
  rw [graphEq_iff]
  cases g; cases h
  simp only [Graph.mk.injEq]
  exact ⟨eq_upto hl fun i hi => hn i (Nat.lt_of_lt_of_le hi hj), hr⟩
theorem thing_ne {x y : Thing} (h : (!decide (x.refs = y.refs) || !decide (x.kind = y.kind) || !decide (x.tag = y.tag) || !decide (x.bytes = y.bytes)) = true) : ¬ x = y := by
  rintro rfl
  simp at h
theorem thing_eq_of {x y : Thing} (h : (!decide (x.refs = y.refs) || !decide (x.kind = y.kind) || !decide (x.tag = y.tag) || !decide (x.bytes = y.bytes)) = false) : x = y := by
  simp only [Bool.or_eq_false_iff, Bool.not_eq_false', decide_eq_true_eq] at h
  obtain ⟨⟨⟨a, b⟩, c⟩, d⟩ := h
  cases x; cases y
  simp only [Thing.mk.injEq]
  exact ⟨b, c, d, a⟩
end Go.Proofs.Ytbndnmmceccbkaa
