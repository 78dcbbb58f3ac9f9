/-
  NUMBERING BY BREADTH sees no names: a graph turned to other numbers gives the same; what comes out is numbered already.
-/
import Derived.Test.YtbndnmmceccbkaaCanonB
namespace Go.Proofs.Ytbndnmmceccbkaa
open Go Go.RowKit
def renR (φ : Int → Int) (r : RefV) : RefV := if r.kind = 2 then ⟨2, φ r.n⟩ else r
def ren (φ : Int → Int) (t : Thing) : Thing := ⟨t.kind, t.tag, t.bytes, t.refs.map (renR φ)⟩
def at_ (g : Graph) (z : Int) : Thing := g.things.getD z.toNat default
def Seen (V : Int → Prop) (l : List RefV) : Prop := ∀ r ∈ l, r.kind = 2 → V r.n
def Inj (V : Int → Prop) (φ : Int → Int) : Prop := ∀ z y, V z → V y → φ z = φ y → z = y
theorem ixOf_map {V : Int → Prop} {φ : Int → Int} (hi : Inj V φ) {z : Int} (hz : V z) : ∀ {row : List Int}, (∀ y ∈ row, V y) → ixOf (row.map φ) (φ z) = ixOf row z
  | [], _ => rfl
  | x :: r, h => by
    simp only [List.map_cons, ixOf]
    by_cases e : x = z
    · rw [if_pos e, if_pos (by rw [e])]
    · rw [if_neg e, if_neg (fun q => e (hi _ _ (h x (by simp)) hz q)), ixOf_map hi hz (fun y hy => h y (by simp [hy]))]
theorem metR_sub {V : Int → Prop} {row : List Int} {r : RefV} (h : ∀ y ∈ row, V y) (hr : r.kind = 2 → V r.n) : ∀ y ∈ (metR row r).1, V y := by
  unfold metR
  split
  · rename_i hk
    split
    · exact h
    · intro y hy
      rcases List.mem_append.1 hy with q | q
      · exact h y q
      · simp only [List.mem_singleton] at q; subst q; exact hr hk
  · exact h
theorem metR_map {V : Int → Prop} {φ : Int → Int} (hi : Inj V φ) {row : List Int} {r : RefV} (h : ∀ y ∈ row, V y) (hr : r.kind = 2 → V r.n) : metR (row.map φ) (renR φ r) = ((metR row r).1.map φ, (metR row r).2) := by
  unfold renR
  split
  · rename_i hk
    unfold metR
    rw [if_pos rfl, if_pos hk, ixOf_map hi (hr hk) h]
    split
    · rfl
    · simp
  · rename_i hk
    unfold metR
    rw [if_neg hk, if_neg hk]
theorem metF_sub {V : Int → Prop} : ∀ {l : List RefV} {row : List Int}, (∀ y ∈ row, V y) → Seen V l → ∀ y ∈ (metF row l).1, V y
  | [], _, h, _ => h
  | r :: l, row, h, hl => by
    show ∀ y ∈ (metF (metR row r).1 l).1, V y
    exact metF_sub (metR_sub h (hl r (by simp))) (fun q hq => hl q (by simp [hq]))
theorem metF_map {V : Int → Prop} {φ : Int → Int} (hi : Inj V φ) : ∀ {l : List RefV} {row : List Int}, (∀ y ∈ row, V y) → Seen V l → metF (row.map φ) (l.map (renR φ)) = ((metF row l).1.map φ, (metF row l).2)
  | [], _, _, _ => rfl
  | r :: l, row, h, hl => by
    rw [List.map_cons, metF, metR_map hi h (hl r (by simp))]
    simp only
    rw [metF_map hi (metR_sub h (hl r (by simp))) (fun q hq => hl q (by simp [hq])), metF]
structure Turns (V : Int → Prop) (φ : Int → Int) (g g' : Graph) : Prop where
  inj : Inj V φ
  thing : ∀ z, V z → at_ g' (φ z) = ren φ (at_ g z)
  seen : ∀ z, V z → Seen V (at_ g z).refs
theorem canonS_at {g : Graph} {f : Nat} {row : List Int} {out : List Thing} (h : out.length < row.length) : canonS g (f + 1) row out = canonS g f (metF row (at_ g row[out.length]).refs).1 (out ++ [reR (at_ g row[out.length]) (metF row (at_ g row[out.length]).refs).2]) := by
  rw [canonS, List.getElem?_eq_getElem h]; rfl
theorem canonS_map {V : Int → Prop} {φ : Int → Int} {g g' : Graph} (ht : Turns V φ g g') : ∀ (f : Nat) {row : List Int} {out : List Thing}, (∀ y ∈ row, V y) → canonS g' f (row.map φ) out = ((canonS g f row out).1.map φ, (canonS g f row out).2)
  | 0, _, _, _ => rfl
  | f + 1, row, out, h => by
    rcases Nat.lt_or_ge out.length row.length with q | q
    · rw [canonS_at q, canonS_at (by simpa using q), List.getElem_map, ht.thing _ (h _ (List.getElem_mem q))]
      have hs := ht.seen _ (h _ (List.getElem_mem q))
      show canonS g' f (metF (row.map φ) ((at_ g row[out.length]).refs.map (renR φ))).1 (out ++ [reR (ren φ (at_ g row[out.length])) (metF (row.map φ) ((at_ g row[out.length]).refs.map (renR φ))).2]) = _
      rw [metF_map ht.inj h hs]
      exact canonS_map ht f (metF_sub h hs)
    · rw [canonS_end q, canonS_end (by simpa using q)]
/-! ### fuel -/
theorem canonS_out (g : Graph) : ∀ (f : Nat) (row : List Int) (out : List Thing), out.length ≤ (canonS g f row out).2.length
  | 0, _, _ => Nat.le_refl _
  | f + 1, row, out => by
    rcases Nat.lt_or_ge out.length row.length with q | q
    · rw [canonS_at q]
      refine Nat.le_trans ?_ (canonS_out g f _ _)
      rw [List.length_append]; omega
    · rw [canonS_end q]; exact Nat.le_refl _
theorem canonS_enough {g : Graph} : ∀ (f f' : Nat) {row : List Int} {out : List Thing}, f ≤ f' → (canonS g f' row out).2.length ≤ out.length + f → canonS g f row out = canonS g f' row out
  | 0, f', row, out, _, h => by
    rcases Nat.lt_or_ge out.length row.length with q | q
    · cases f' with
      | zero => rfl
      | succ f' =>
        rw [canonS_at q] at h
        have := canonS_out g f' (metF row (at_ g row[out.length]).refs).1 (out ++ [reR (at_ g row[out.length]) (metF row (at_ g row[out.length]).refs).2])
        rw [List.length_append, List.length_singleton] at this
        omega
    · rw [canonS_end q, canonS_end q]
  | f + 1, 0, _, _, hf, _ => absurd hf (by omega)
  | f + 1, f' + 1, row, out, hf, h => by
    rcases Nat.lt_or_ge out.length row.length with q | q
    · rw [canonS_at q] at h ⊢
      rw [canonS_at q]
      exact canonS_enough f f' (by omega) (by rw [List.length_append, List.length_singleton]; omega)
    · rw [canonS_end q, canonS_end q]
theorem at_mem {g : Graph} {z : Int} (h0 : 0 ≤ z) (h1 : z < (g.things.length : Int)) : at_ g z ∈ g.things := getD_mem' (by omega)
theorem canonS_row {g : Graph} (hc : checkB g = true) : ∀ (f : Nat) {row : List Int} {out : List Thing}, RowOk g.things.length row → RowOk g.things.length (canonS g f row out).1
  | 0, _, _, h => h
  | f + 1, row, out, h => by
    rcases Nat.lt_or_ge out.length row.length with q | q
    · rw [canonS_at q]
      have hz := h.lo _ (List.getElem_mem q)
      exact canonS_row hc f (metF_ok h (check_thing hc _ (at_mem hz.1 hz.2)).2)
    · rw [canonS_end q]; exact h
theorem canonS_done {g : Graph} (hc : checkB g = true) : ∀ (f : Nat) {row : List Int} {out : List Thing}, RowOk g.things.length row → g.things.length ≤ out.length + f → (canonS g f row out).1.length ≤ (canonS g f row out).2.length
  | 0, row, out, h, hf => by have := h.len; show row.length ≤ out.length; omega
  | f + 1, row, out, h, hf => by
    rcases Nat.lt_or_ge out.length row.length with q | q
    · rw [canonS_at q]
      have hz := h.lo _ (List.getElem_mem q)
      exact canonS_done hc f (metF_ok h (check_thing hc _ (at_mem hz.1 hz.2)).2) (by rw [List.length_append, List.length_singleton]; omega)
    · rw [canonS_end q]; exact q
theorem canonS_le {g : Graph} : ∀ (f : Nat) {row : List Int} {out : List Thing}, out.length ≤ row.length → (canonS g f row out).2.length ≤ (canonS g f row out).1.length
  | 0, _, _, h => h
  | f + 1, row, out, h => by
    rcases Nat.lt_or_ge out.length row.length with q | q
    · rw [canonS_at q]
      refine canonS_le f ?_
      have := metF_row0 (at_ g row[out.length]).refs row
      rw [List.length_append, List.length_singleton]; omega
    · rw [canonS_end q]; exact h
/-- More fuel than things changes nothing. -/
theorem canonS_more {g : Graph} (hc : checkB g = true) {f : Nat} (hf : g.things.length ≤ f) {row : List Int} (h : RowOk g.things.length row) : canonS g f row [] = canonS g g.things.length row [] := by
  refine (canonS_enough g.things.length f hf ?_).symm
  have h1 := (canonS_row hc f (out := []) h).len
  have h2 := canonS_le (g := g) f (row := row) (out := []) (Nat.zero_le _)
  simp only [List.length_nil]; omega
theorem seen_valid {g : Graph} {l : List RefV} (h : ∀ r ∈ l, fitsF r g.things.length = true) : Seen (fun z => 0 ≤ z ∧ z < (g.things.length : Int)) l := fun r hr hk => fits_two (h r hr) hk
/-- A graph with other numbers comes out the same. -/
theorem canonG_turn {V : Int → Prop} {φ : Int → Int} {g g' : Graph} (ht : Turns V φ g g') (hc : checkB g = true) (hc' : checkB g' = true) (hr : g'.roots = g.roots.map (renR φ)) (hs : Seen V g.roots) (hl : g.things.length ≤ g'.things.length) : canonG g' = canonG g := by
  rw [canonG, canonG, if_pos hc, if_pos hc', canonF, canonF, hr]
  have h1 := metF_map ht.inj (row := []) (l := g.roots) (fun y hy => by cases hy) hs
  rw [List.map_nil] at h1
  rw [h1]
  simp only
  rw [canonS_map ht _ (metF_sub (fun y hy => by cases hy) hs), canonS_more hc hl (metF_ok (RowOk.nil _) (check_roots hc))]
end Go.Proofs.Ytbndnmmceccbkaa
