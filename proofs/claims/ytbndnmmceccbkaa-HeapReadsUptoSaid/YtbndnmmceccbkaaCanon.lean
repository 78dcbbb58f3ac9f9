/-
  NUMBERING BY BREADTH, in plain words: what the closure 'met' does to a list of values, and the loop over what was met.
-/
import Derived.Test.YtbndnmmceccbkaaPlain
namespace Go.Proofs.Ytbndnmmceccbkaa
open Go Go.RowKit
def z64 (z : Int) : T := .v (.int .i64 z)
def zk (k : IntKind) (z : Int) : T := .v (.int k z)
def ixOf : List Int → Int → Option Nat
  | [], _ => none
  | x :: r, z => if x = z then some 0 else (ixOf r z).map (· + 1)
/-- A row's places, as a map. -/
def mapE (k : IntKind) : Nat → List Int → List (Key × T)
  | _, [] => []
  | i, z :: r => (.i k z, .v (.int .i64 (i : Int))) :: mapE k (i + 1) r
theorem getK_mapE (k : IntKind) (z : Int) : ∀ (row : List Int) (i : Nat), getK (.i k z) (mapE k i row) = (ixOf row z).map fun j => T.v (.int .i64 ((i + j : Nat) : Int))
  | [], i => rfl
  | x :: r, i => by
    simp only [mapE, getK, ixOf, Key.i.injEq, true_and]
    by_cases h : x = z
    · simp [h]
    · rw [if_neg h, if_neg h, getK_mapE k z r (i + 1)]
      cases ixOf r z with
      | none => rfl
      | some j => simp only [Option.map_some]; congr 3; omega
theorem putK_mapE (k : IntKind) (z : Int) : ∀ (row : List Int) (i : Nat), ixOf row z = none → putK (.i k z) (.v (.int .i64 ((i + row.length : Nat) : Int))) (mapE k i row) = mapE k i (row ++ [z])
  | [], i, _ => rfl
  | x :: r, i, h => by
    simp only [ixOf] at h
    split at h
    · cases h
    · rename_i hx
      simp only [mapE, putK, List.cons_append, Key.i.injEq, true_and]
      rw [if_neg hx, ← putK_mapE k z r (i + 1) (by simpa using h)]
      congr 4
      simp only [List.length_cons]; omega
theorem mapE_good (k : IntKind) : ∀ (row : List Int) (i : Nat), ∀ e ∈ mapE k i row, goodK (.int k) e.1 = true
  | [], i, e, h => by cases h
  | z :: r, i, e, h => by
    cases h with
    | head => simp [goodK]
    | tail _ h => exact mapE_good k r (i + 1) e h
theorem ixOf_some {z : Int} : ∀ {row : List Int} {i : Nat}, ixOf row z = some i → row[i]? = some z
  | [], i, h => by cases h
  | x :: r, i, h => by
    simp only [ixOf] at h
    split at h
    · rename_i e; simp only [Option.some.injEq] at h; subst h; simp [e]
    · simp only [Option.map_eq_some_iff] at h
      obtain ⟨j, hj, rfl⟩ := h
      simpa using ixOf_some hj
theorem ixOf_none {z : Int} : ∀ {row : List Int}, ixOf row z = none → z ∉ row
  | [], _ => by simp
  | x :: r, h => by
    simp only [ixOf] at h
    split at h
    · cases h
    · rename_i e
      simp only [List.mem_cons, not_or]
      exact ⟨fun q => e q.symm, ixOf_none (by simpa using h)⟩
theorem ixOf_mem {z : Int} {row : List Int} (h : z ∈ row) : ∃ i, ixOf row z = some i := by
  cases e : ixOf row z with
  | none => exact absurd h (ixOf_none e)
  | some i => exact ⟨i, rfl⟩
/-- One value, its thing's number in place of the thing. -/
def metR (row : List Int) (r : RefV) : List Int × RefV :=
  if r.kind = 2 then match ixOf row r.n with
    | some i => (row, ⟨2, i⟩)
    | none => (row ++ [r.n], ⟨2, row.length⟩)
  else (row, r)
def metF : List Int → List RefV → List Int × List RefV
  | row, [] => (row, [])
  | row, r :: l => ((metF (metR row r).1 l).1, (metR row r).2 :: (metF (metR row r).1 l).2)
theorem metF_snoc : ∀ (l : List RefV) (row : List Int) (r : RefV), metF row (l ++ [r]) = ((metR (metF row l).1 r).1, (metF row l).2 ++ [(metR (metF row l).1 r).2])
  | [], row, r => rfl
  | a :: l, row, r => by rw [List.cons_append, metF, metF_snoc l, metF]; rfl
theorem met_take {l : List RefV} {j : Nat} (h : j < l.length) (row : List Int) : metF row (l.take (j + 1)) = ((metR (metF row (l.take j)).1 (l.getD j default)).1, (metF row (l.take j)).2 ++ [(metR (metF row (l.take j)).1 (l.getD j default)).2]) := by
  rw [List.take_add_one, List.getElem?_eq_getElem h, getD_eq' h]
  exact metF_snoc _ _ _
theorem metF_len : ∀ (l : List RefV) (row : List Int), (metF row l).2.length = l.length
  | [], _ => rfl
  | a :: l, row => by rw [metF]; simp [metF_len l]
theorem metR_row (row : List Int) (r : RefV) : (metR row r).1.length ≤ row.length + 1 := by
  unfold metR
  split
  · split <;> simp
  · simp
theorem metF_row : ∀ (l : List RefV) (row : List Int), (metF row l).1.length ≤ row.length + l.length
  | [], _ => by simp [metF]
  | a :: l, row => by
    rw [metF]
    have h1 := metF_row l (metR row a).1
    have h2 := metR_row row a
    simp only [List.length_cons]
    omega
theorem metR_row0 (row : List Int) (r : RefV) : row.length ≤ (metR row r).1.length := by
  unfold metR
  split
  · split <;> simp
  · simp
theorem metF_row0 : ∀ (l : List RefV) (row : List Int), row.length ≤ (metF row l).1.length
  | [], _ => by simp [metF]
  | a :: l, row => by
    rw [metF]
    exact Nat.le_trans (metR_row0 row a) (metF_row0 l (metR row a).1)
/-- Rows without twins, of numbers below n. -/
structure RowOk (n : Nat) (row : List Int) : Prop where
  nd : row.Nodup
  lo : ∀ z ∈ row, 0 ≤ z ∧ z < (n : Int)
theorem nodup_le : ∀ (n : Nat) (row : List Int), row.Nodup → (∀ z ∈ row, 0 ≤ z ∧ z < (n : Int)) → row.length ≤ n
  | 0, row, _, h => by
    cases row with
    | nil => simp
    | cons z r => have := h z (by simp); omega
  | n + 1, row, hn, h => by
    have h1 := nodup_le n (row.erase (n : Int)) (hn.erase _) (fun z hz => by
      have h2 := (List.Nodup.mem_erase_iff hn).1 hz
      have h3 := h z h2.2
      have h4 := h2.1
      omega)
    have h2 := List.length_erase (a := (n : Int)) (l := row)
    split at h2 <;> omega
theorem RowOk.len {n : Nat} {row : List Int} (h : RowOk n row) : row.length ≤ n := nodup_le n row h.nd h.lo
theorem RowOk.nil (n : Nat) : RowOk n [] := ⟨List.nodup_nil, fun z h => by cases h⟩
theorem fits_two {r : RefV} {n : Nat} (h : fitsF r n = true) (hk : r.kind = 2) : 0 ≤ r.n ∧ r.n < (n : Int) := by
  unfold fitsF at h
  rw [if_neg (by omega), if_pos hk] at h
  simpa using h
theorem metR_ok {n : Nat} {row : List Int} {r : RefV} (h : RowOk n row) (hr : fitsF r n = true) : RowOk n (metR row r).1 := by
  unfold metR
  split
  · rename_i hk
    split
    · exact h
    · rename_i hx
      refine ⟨?_, fun z hz => ?_⟩
      · rw [List.nodup_append]
        exact ⟨h.nd, by simp, fun a ha b hb e => by simp at hb; subst hb; subst e; exact ixOf_none hx ha⟩
      · rcases List.mem_append.1 hz with hz | hz
        · exact h.lo z hz
        · simp at hz; subst hz; exact fits_two hr hk
  · exact h
theorem metF_ok {n : Nat} : ∀ {l : List RefV} {row : List Int}, RowOk n row → (∀ r ∈ l, fitsF r n = true) → RowOk n (metF row l).1
  | [], _, h, _ => h
  | a :: l, row, h, hl => by
    show RowOk n (metF (metR row a).1 l).1
    exact metF_ok (metR_ok h (hl a (by simp))) (fun r hr => hl r (by simp [hr]))
/-- The loop: what stands in the row is numbered, one thing behind the other. -/
def reR (t : Thing) (l : List RefV) : Thing := ⟨t.kind, t.tag, t.bytes, l⟩
def canonS (g : Graph) : Nat → List Int → List Thing → List Int × List Thing
  | 0, row, out => (row, out)
  | f + 1, row, out => match row[out.length]? with
    | none => (row, out)
    | some z => canonS g f (metF row (g.things.getD z.toNat default).refs).1 (out ++ [reR (g.things.getD z.toNat default) (metF row (g.things.getD z.toNat default).refs).2])
def canonF (g : Graph) : Graph := ⟨(canonS g g.things.length (metF [] g.roots).1 []).2, (metF [] g.roots).2⟩
def canonG (g : Graph) : Graph := if checkB g = true then canonF g else ⟨[], []⟩
theorem check_zero {g : Graph} : checkF g = 0 ↔ checkB g = true := by
  unfold checkF
  split
  · rename_i h; simp [h]
  · rename_i h; simp [h]
theorem check_nz {g : Graph} (h : ¬ checkF g = 0) : checkB g = false := by
  rw [check_zero] at h
  simpa using h
theorem check_roots {g : Graph} (h : checkB g = true) : ∀ r ∈ g.roots, fitsF r g.things.length = true := by
  unfold checkB at h
  rw [Bool.and_eq_true] at h
  exact List.all_eq_true.1 h.1
theorem check_thing {g : Graph} (h : checkB g = true) : ∀ t ∈ g.things, madeF t = true ∧ ∀ r ∈ t.refs, fitsF r g.things.length = true := fun t ht => by
  unfold checkB at h
  rw [Bool.and_eq_true] at h
  have := List.all_eq_true.1 h.2 t ht
  rw [Bool.and_eq_true] at this
  exact ⟨this.1, List.all_eq_true.1 this.2⟩
theorem canonS_end {g : Graph} {f : Nat} {row : List Int} {out : List Thing} (h : row.length ≤ out.length) : canonS g f row out = (row, out) := by
  cases f with
  | zero => rfl
  | succ f => rw [canonS, List.getElem?_eq_none h]
theorem canonS_step {g : Graph} {f : Nat} {row : List Int} {out : List Thing} (h : out.length < row.length) : canonS g (f + 1) row out = canonS g f (metF row (g.things.getD (row.getD out.length 0).toNat default).refs).1 (out ++ [reR (g.things.getD (row.getD out.length 0).toNat default) (metF row (g.things.getD (row.getD out.length 0).toNat default).refs).2]) := by
  have e : row.getD out.length 0 = row[out.length] := by simp [h]
  rw [canonS, List.getElem?_eq_getElem h, e]
theorem row_at {row : List Int} {i n : Nat} (h : RowOk n row) (hi : i < row.length) : 0 ≤ row.getD i 0 ∧ row.getD i 0 < (n : Int) := by
  have : row.getD i 0 = row[i] := by simp [hi]
  rw [this]
  exact h.lo _ (List.getElem_mem hi)
theorem out_flat (out : List RefV) (r : RefV) : (out ++ [r]).flatMap refCells = out.flatMap refCells ++ refCells r := by simp
theorem thing_flat (out : List Thing) (t : Thing) : (out ++ [t]).flatMap thingCells = out.flatMap thingCells ++ thingCells t := by simp
theorem metR_in {row : List Int} {r : RefV} {i : Nat} (hk : r.kind = 2) (h : ixOf row r.n = some i) : metR row r = (row, ⟨2, i⟩) := by
  unfold metR; rw [if_pos hk, h]
theorem metR_new {row : List Int} {r : RefV} (hk : r.kind = 2) (h : ixOf row r.n = none) : metR row r = (row ++ [r.n], ⟨2, row.length⟩) := by
  unfold metR; rw [if_pos hk, h]
theorem metR_small {row : List Int} {r : RefV} (hk : ¬ r.kind = 2) : metR row r = (row, r) := by
  unfold metR; rw [if_neg hk]
/-! ### equality, as the code looks for it -/
theorem eq_upto {α : Type} [Inhabited α] {l l' : List α} (hl : l.length = l'.length) (h : ∀ i, i < l.length → l.getD i default = l'.getD i default) : l = l' := by
  apply List.ext_getElem hl
  intro i h1 h2
  have := h i h1
  rwa [getD_eq' h1, getD_eq' h2] at this
theorem ref_eq (a b : RefV) : (decide (a.kind = b.kind) && (decide (a.n = b.n) && true)) = decide (a = b) := by
  cases a; cases b
  simp only [RefV.mk.injEq, Bool.and_true]
  rename_i p q p' q'
  by_cases h1 : p = p' <;> by_cases h2 : q = q' <;> simp [h1, h2]
def thingEq (x y : Thing) : Bool := decide (x.kind = y.kind) && decide (x.tag = y.tag) && decide (x.bytes = y.bytes) && decide (x.refs = y.refs)
theorem thingEq_iff {x y : Thing} : thingEq x y = true ↔ x = y := by
  cases x; cases y
  simp only [thingEq, Bool.and_eq_true, decide_eq_true_eq, Thing.mk.injEq]
  exact ⟨fun ⟨⟨⟨a, b⟩, c⟩, d⟩ => ⟨a, b, c, d⟩, fun ⟨a, b, c, d⟩ => ⟨⟨⟨a, b⟩, c⟩, d⟩⟩
def sameF (g h : Graph) : Bool := decide (checkF g = 0) && decide (checkF h = 0) && decide ((canonG g).roots = (canonG h).roots) && decide ((canonG g).things = (canonG h).things)
abbrev nul : Value := .slice none 0 0
/-- What 'met' closes over. -/
abbrev CS (b5 bm b6 : Nat) (A : Option Addr) (c : Nat) (row : List Int) : St :=
  [.map bm (mapE .i64 0 row), .box b5 64 [.v (.map (some bm))], .box b6 65 [.v (.slice A row.length c)], .row A row.length c 2 1 (row.map z64)]
theorem len_z64 {l : List Int} : (l.map z64).length = l.length * 1 := by simp
theorem z64_get {l : List Int} {j : Nat} (h : j < l.length) : (l.map z64)[j * 1]? = some (.v (.int .i64 (l.getD j 0))) := by simp [h, z64]
end Go.Proofs.Ytbndnmmceccbkaa
