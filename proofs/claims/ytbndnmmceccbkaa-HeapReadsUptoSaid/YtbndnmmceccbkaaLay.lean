/-
  A GRAPH'S BYTES, in plain words: places, words, bytes; the steps of the code's loops.
-/
import Derived.Test.YtbndnmmceccbkaaCanonB
namespace Go.Proofs.Ytbndnmmceccbkaa
open Go Go.RowKit
def zu (z : Int) : T := .v (.int .u64 z)
theorem len_zu {l : List Int} : (l.map zu).length = l.length * 1 := by simp
theorem zu_get {l : List Int} {j : Nat} (h : j < l.length) : (l.map zu)[j * 1]? = some (.v (.int .u64 (l.getD j 0))) := by simp [h, zu]
def totalF : List Thing → Int
  | [] => 0
  | t :: r => sizeF t + totalF r
def placesF : Int → List Thing → List Int
  | _, [] => []
  | a, t :: r => a :: placesF (a + sizeF t) r
theorem totalF_snoc : ∀ (l : List Thing) (t : Thing), totalF (l ++ [t]) = totalF l + sizeF t
  | [], t => by simp [totalF]
  | x :: r, t => by rw [List.cons_append, totalF, totalF, totalF_snoc r]; omega
theorem placesF_snoc : ∀ (l : List Thing) (a : Int) (t : Thing), placesF a (l ++ [t]) = placesF a l ++ [a + totalF l]
  | [], a, t => by simp [placesF, totalF]
  | x :: r, a, t => by rw [List.cons_append, placesF, placesF_snoc r, placesF, totalF]; simp [Int.add_assoc]
theorem totalF_append : ∀ (l m : List Thing), totalF (l ++ m) = totalF l + totalF m
  | [], m => by simp [totalF]
  | x :: r, m => by rw [List.cons_append, totalF, totalF, totalF_append r]; omega
theorem take_at {α : Type} [Inhabited α] {l : List α} {j : Nat} (h : j < l.length) : l.take (j + 1) = l.take j ++ [l.getD j default] := by
  rw [List.take_add_one, List.getElem?_eq_getElem h, getD_eq' h]; rfl
theorem total_step {l : List Thing} {j : Nat} (h : j < l.length) : totalF (l.take (j + 1)) = totalF (l.take j) + sizeF (l.getD j default) := by rw [take_at h, totalF_snoc]
theorem places_step {l : List Thing} {j : Nat} (h : j < l.length) (a : Int) : placesF a (l.take (j + 1)) = placesF a (l.take j) ++ [a + totalF (l.take j)] := by rw [take_at h, placesF_snoc]
theorem placesF_len : ∀ (l : List Thing) (a : Int), (placesF a l).length = l.length
  | [], _ => rfl
  | t :: r, a => by simp [placesF, placesF_len r]
theorem bytesK_not8 {t : Thing} (h : bytesK t.kind = true) : ¬ t.kind = 8 := by
  intro e; rw [e] at h; exact absurd h (by decide)
theorem size_eq {t : Thing} (h : madeF t = true) : sizeF t = if bytesK t.kind = true then 8 + ((t.bytes.length : Int) + 7) / 8 * 8 else if t.kind = 8 then 16 + 8 * t.refs.length else 8 + 8 * t.refs.length := by
  rw [sizeF, if_pos h]
  unfold spanF longF
  split
  · rfl
  · split <;> omega
theorem size_range {b : Nat} {t : Thing} (h : ThingOk b t) : 0 ≤ sizeF t ∧ sizeF t ≤ 8 * b + 32 := by
  have h1 := h.by_
  have h2 := h.rl
  by_cases hm : madeF t = true
  · rw [size_eq hm]
    split
    · omega
    · split <;> omega
  · rw [sizeF, if_neg hm]; omega
theorem size_made {t : Thing} (h : madeF t = true) : 8 ≤ sizeF t ∧ sizeF t % 8 = 0 := by
  rw [size_eq h]
  split
  · omega
  · split <;> omega
theorem totalF_nonneg : ∀ (l : List Thing), 0 ≤ totalF l
  | [] => Int.le_refl _
  | t :: r => by
    have h1 := totalF_nonneg r
    have h2 : 0 ≤ sizeF t := by
      by_cases hm : madeF t = true
      · have := (size_made hm).1; omega
      · rw [sizeF, if_neg hm]; omega
    rw [totalF]; omega
theorem total_le (l : List Thing) (j : Nat) : totalF (l.take j) ≤ totalF l := by
  have h := totalF_append (l.take j) (l.drop j)
  rw [List.take_append_drop] at h
  have := totalF_nonneg (l.drop j)
  omega
theorem headF_range {b : Nat} (hb : b ≤ 1099511627) {t : Thing} (h : ThingOk b t) : 0 ≤ headF t ∧ headF t ≤ 18446744073709551615 := by
  have h1 := long_le h
  unfold headF
  split
  · rename_i hm
    obtain ⟨q1, q2, q3, q4, q5, _⟩ := made_spec hm
    split
    · omega
    · rename_i h8
      have := q5 h8
      omega
  · omega
/-- The word of a value, things lying at places. -/
def wordV (pl : List Int) (r : RefV) : Int := if r.kind = 1 then (2 * r.n + 1) % 18446744073709551616 else pl.getD r.n.toNat 0
def zerosB (n : Nat) : List UInt8 := List.replicate ((n + 7) / 8 * 8 - n) 0
def headB (t : Thing) : List UInt8 := leBytes 8 (headF t) ++ t.bytes ++ zerosB t.bytes.length
def codeB (t : Thing) : List UInt8 := if t.kind = 8 then leBytes 8 (4194304 + 16 * t.tag) else []
def wordsB (pl : List Int) (l : List RefV) : List UInt8 := l.flatMap fun r => leBytes 8 (wordV pl r)
def thingB (pl : List Int) (t : Thing) : List UInt8 := headB t ++ codeB t ++ wordsB pl t.refs
def layB (pl : List Int) (l : List Thing) : List UInt8 := l.flatMap (thingB pl)
theorem wordsB_len (pl : List Int) : ∀ (l : List RefV), (wordsB pl l).length = 8 * l.length
  | [] => rfl
  | r :: l => by
    show (leBytes 8 (wordV pl r) ++ wordsB pl l).length = _
    rw [List.length_append, leBytes_length, wordsB_len pl l, List.length_cons]; omega
theorem headB_len (t : Thing) : (headB t).length = 8 + (t.bytes.length + 7) / 8 * 8 := by
  rw [headB, List.length_append, List.length_append, leBytes_length, zerosB, List.length_replicate]; omega
theorem codeB_len (t : Thing) : (codeB t).length = if t.kind = 8 then 8 else 0 := by
  unfold codeB; split
  · rw [leBytes_length]
  · rfl
theorem thingB_len {pl : List Int} {t : Thing} (h : madeF t = true) : ((thingB pl t).length : Int) = sizeF t := by
  obtain ⟨_, _, _, _, _, hr, hb⟩ := made_spec h
  rw [thingB, List.length_append, List.length_append, headB_len, codeB_len, wordsB_len, size_eq h]
  by_cases hk : bytesK t.kind = true
  · rw [if_pos hk, if_neg (bytesK_not8 hk), hr hk]; simp only [List.length_nil]; omega
  · rw [if_neg hk, hb (by simpa using hk)]
    by_cases h8 : t.kind = 8
    · rw [if_pos h8, if_pos h8]; simp only [List.length_nil]; omega
    · rw [if_neg h8, if_neg h8]; simp only [List.length_nil]; omega
theorem layB_len {pl : List Int} : ∀ {l : List Thing}, (∀ t ∈ l, madeF t = true) → ((layB pl l).length : Int) = totalF l
  | [], _ => rfl
  | t :: r, h => by
    show ((thingB pl t ++ layB pl r).length : Int) = _
    have h1 := thingB_len (pl := pl) (h t (by simp))
    have h2 := layB_len (pl := pl) (l := r) (fun x hx => h x (by simp [hx]))
    rw [List.length_append, totalF]; omega
theorem total_mod : ∀ {l : List Thing}, (∀ t ∈ l, madeF t = true) → totalF l % 8 = 0
  | [], _ => rfl
  | t :: r, h => by
    have h1 := (size_made (h t (by simp))).2
    have h2 := total_mod (l := r) (fun x hx => h x (by simp [hx]))
    rw [totalF]; omega
theorem layB_step {pl : List Int} {l : List Thing} {j : Nat} (h : j < l.length) : layB pl (l.take (j + 1)) = layB pl (l.take j) ++ thingB pl (l.getD j default) := by
  rw [take_at h, layB, List.flatMap_append, List.flatMap_cons, List.flatMap_nil, List.append_nil]; rfl
theorem wordsB_step {pl : List Int} {l : List RefV} {j : Nat} (h : j < l.length) : wordsB pl (l.take (j + 1)) = wordsB pl (l.take j) ++ leBytes 8 (wordV pl (l.getD j default)) := by
  rw [take_at h, wordsB, List.flatMap_append, List.flatMap_cons, List.flatMap_nil, List.append_nil]; rfl
def wordsF (pl : List Int) (l : List RefV) : List Int := l.map (wordV pl)
theorem wordsF_step {pl : List Int} {l : List RefV} {j : Nat} (h : j < l.length) : wordsF pl (l.take (j + 1)) = wordsF pl (l.take j) ++ [wordV pl (l.getD j default)] := by
  rw [take_at h, wordsF, List.map_append]; rfl
/-- Error, bytes, roots. -/
def layOk (g : Graph) (a : Int) : Bool := decide (a % 8 = 0) && decide (a + totalF g.things ≤ 9223372036854775808)
def layE (g : Graph) (a : Int) : Int := if checkB g = true then (if layOk g a = true then 0 else 1) else 141
def layBs (g : Graph) (a : Int) : List UInt8 := if layE g a = 0 then layB (placesF a g.things) g.things else []
def layWs (g : Graph) (a : Int) : List Int := if layE g a = 0 then wordsF (placesF a g.things) g.roots else []
def layT (g : Graph) (a : Int) : T := .tup [u8s (layBs g a), .sl 1 ((layWs g a).map zu), .v (.int .i64 (layE g a))]
theorem lay_bad {g : Graph} {a : Int} (h : ¬ checkF g = 0) : layT g a = .tup [.sl 1 [], .sl 1 [], .v (.int .i64 (checkF g))] := by
  have e : layE g a = 141 := by rw [layE, check_nz h]; rfl
  have e2 : checkF g = 141 := by rw [checkF, check_nz h]; rfl
  rw [layT, layBs, layWs, if_neg (by rw [e]; decide), if_neg (by rw [e]; decide), e, e2]; rfl
theorem lay_arg {g : Graph} {a : Int} (h : checkB g = true) (hn : layOk g a = false) : layT g a = .tup [.sl 1 [], .sl 1 [], .v (.int .i64 1)] := by
  have e : layE g a = 1 := by rw [layE, if_pos h, hn]; rfl
  rw [layT, layBs, layWs, if_neg (by rw [e]; decide), if_neg (by rw [e]; decide), e]; rfl
theorem lay_ok {g : Graph} {a : Int} (h : checkB g = true) (hn : layOk g a = true) : layT g a = .tup [u8s (layB (placesF a g.things) g.things), .sl 1 ((wordsF (placesF a g.things) g.roots).map zu), .v (.int .i64 0)] := by
  have e : layE g a = 0 := by rw [layE, if_pos h, if_pos hn]
  rw [layT, layBs, layWs, if_pos e, if_pos e, e]
theorem layOk_far {g : Graph} {a : Int} (j : Nat) (h : 9223372036854775808 < a + totalF (g.things.take j)) : layOk g a = false := by
  have := total_le g.things j
  unfold layOk
  rw [Bool.and_eq_false_iff]; right; exact decide_eq_false (by omega)
theorem layOk_odd {g : Graph} {a : Int} (h : ¬ a % 8 = 0 ∨ 9223372036854775808 < a) : layOk g a = false := by
  have := totalF_nonneg g.things
  unfold layOk
  rw [Bool.and_eq_false_iff]
  rcases h with h | h
  · left; exact decide_eq_false h
  · right; exact decide_eq_false (by omega)
theorem layOk_fine {g : Graph} {a : Int} (h : a % 8 = 0) (h2 : a + totalF g.things ≤ 9223372036854775808) : layOk g a = true := by
  unfold layOk; rw [Bool.and_eq_true]; exact ⟨decide_eq_true h, decide_eq_true h2⟩
/-! ### the code's steps -/
theorem fill_row (l : List Int) (n : Nat) (x : Int) (h : l.length < n) : ((l.map zu ++ List.replicate (n - l.length) (zu 0)).set l.length (zu x)) = (l ++ [x]).map zu ++ List.replicate (n - (l ++ [x]).length) (zu 0) := by
  rw [List.set_append_right _ _ (by simp), List.length_map, Nat.sub_self, show n - l.length = (n - (l ++ [x]).length) + 1 by simp; omega, List.replicate_succ, List.set_cons_zero]
  simp
theorem fill_nil (n : Nat) : (List.replicate n (List.map T.v [Value.int .u64 0])).flatten = ([] : List Int).map zu ++ List.replicate (n - 0) (zu 0) := by
  show (List.replicate n [zu 0]).flatten = _
  simp
theorem rowEq {A : Option Addr} {c e k n n' : Nat} {cs cs' : List T} (h : n = n') (h2 : cs = cs') : Ent.row A n c e k cs = Ent.row A n' c e k cs' := by rw [h, h2]
theorem word_small (n : Int) : bitsOf .or .u64 (IntKind.u64.wrap (IntKind.u64.wrap n * 2)) 1 = (2 * n + 1) % 18446744073709551616 := by
  rw [IntKind.wrap_u64, IntKind.wrap_u64]
  have h1 : (n % 18446744073709551616 * 2) % 18446744073709551616 = 2 * (n % 9223372036854775808) := by omega
  obtain ⟨m, hm⟩ : ∃ m : Nat, n % 9223372036854775808 = m := ⟨(n % 9223372036854775808).toNat, by omega⟩
  rw [h1, hm, show (2 * (m : Int)) = ((m * 2 ^ 1 : Nat) : Int) by omega, show (1 : Int) = ((1 : Nat) : Int) from rfl, bits_or_nat _ _ (by omega) (by omega), Nat.or_comm, or_lt_add m 1 1 (by decide)]
  omega
theorem wordV_small {pl : List Int} {r : RefV} (h : r.kind = 1) : wordV pl r = (2 * r.n + 1) % 18446744073709551616 := by rw [wordV, if_pos h]
theorem wordV_thing {pl : List Int} {r : RefV} (h : ¬ r.kind = 1) : wordV pl r = pl.getD r.n.toNat 0 := by rw [wordV, if_neg h]
def PlOk (pl : List Int) : Prop := ∀ z ∈ pl, 0 ≤ z ∧ z ≤ 18446744073709551615
theorem wordV_range {pl : List Int} (h : PlOk pl) (r : RefV) : 0 ≤ wordV pl r ∧ wordV pl r ≤ 18446744073709551615 := by
  unfold wordV
  split
  · omega
  · rcases Nat.lt_or_ge r.n.toNat pl.length with q | q
    · have e : pl.getD r.n.toNat 0 = pl[r.n.toNat] := by simp [q]
      rw [e]; exact h _ (List.getElem_mem q)
    · have e : pl.getD r.n.toNat 0 = 0 := by simp [q]
      rw [e]; omega
theorem places_ok {l : List Thing} {a : Int} (h0 : 0 ≤ a) (h1 : a + totalF l ≤ 9223372036854775808) : PlOk (placesF a l) := by
  induction l generalizing a with
  | nil => intro z hz; cases hz
  | cons t r ih =>
    have h2 := totalF_nonneg r
    have h3 : 0 ≤ sizeF t := by have := totalF_nonneg [t]; simpa [totalF] using this
    rw [totalF] at h1
    intro z hz
    rcases List.mem_cons.1 hz with e | e
    · subst e; omega
    · exact ih (a := a + sizeF t) (by omega) (by omega) z e
theorem fits_which {r : RefV} {n : Nat} (h : fitsF r n = true) : r.kind = 1 ∨ (0 ≤ r.n ∧ r.n < (n : Int)) := by
  unfold fitsF at h
  split at h
  · left; assumption
  · split at h
    · right; simpa using h
    · cases h
/-- Zeros one by one up to the next word. -/
theorem pad_step (bs t : List UInt8) (k : Nat) : bs ++ t ++ List.replicate (k + 1) (0 : UInt8) = bs ++ t ++ List.replicate k 0 ++ [0] := by
  rw [List.replicate_succ', List.append_assoc (bs ++ t)]
end Go.Proofs.Ytbndnmmceccbkaa
