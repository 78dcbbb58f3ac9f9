/-
  READING, in plain words: the value of a word, the thing at an address, what words reach.
-/
import Derived.Test.YtbndnmmceccbkaaLay
namespace Go.Proofs.Ytbndnmmceccbkaa
open Go Go.RowKit
def smallOf (x : Int) : Int := IntKind.i64.wrap x / 2
def valR (row : List Int) (x : Int) : List Int × RefV :=
  if x % 2 = 1 then (row, ⟨1, smallOf x⟩) else match ixOf row x with
    | some i => (row, ⟨2, i⟩)
    | none => (row ++ [x], ⟨2, row.length⟩)
def valsF : List Int → List Int → List Int × List RefV
  | row, [] => (row, [])
  | row, x :: l => ((valsF (valR row x).1 l).1, (valR row x).2 :: (valsF (valR row x).1 l).2)
theorem valsF_snoc : ∀ (l : List Int) (row : List Int) (x : Int), valsF row (l ++ [x]) = ((valR (valsF row l).1 x).1, (valsF row l).2 ++ [(valR (valsF row l).1 x).2])
  | [], row, x => rfl
  | a :: l, row, x => by rw [List.cons_append, valsF, valsF_snoc l, valsF]; rfl
theorem valsF_len : ∀ (l : List Int) (row : List Int), (valsF row l).2.length = l.length
  | [], _ => rfl
  | a :: l, row => by rw [valsF]; simp [valsF_len l]
theorem vals_take {l : List Int} {j : Nat} (h : j < l.length) (row : List Int) : valsF row (l.take (j + 1)) = ((valR (valsF row (l.take j)).1 (l.getD j 0)).1, (valsF row (l.take j)).2 ++ [(valR (valsF row (l.take j)).1 (l.getD j 0)).2]) := by
  have e : l.getD j 0 = l[j] := by simp [h]
  rw [List.take_add_one, List.getElem?_eq_getElem h, e]
  exact valsF_snoc _ _ _
theorem valR_odd {row : List Int} {x : Int} (h : x % 2 = 1) : valR row x = (row, ⟨1, smallOf x⟩) := by unfold valR; rw [if_pos h]
theorem valR_in {row : List Int} {x : Int} {i : Nat} (hk : ¬ x % 2 = 1) (h : ixOf row x = some i) : valR row x = (row, ⟨2, i⟩) := by
  unfold valR; rw [if_neg hk, h]
theorem valR_new {row : List Int} {x : Int} (hk : ¬ x % 2 = 1) (h : ixOf row x = none) : valR row x = (row ++ [x], ⟨2, row.length⟩) := by
  unfold valR; rw [if_neg hk, h]
theorem valR_row (row : List Int) (x : Int) : (valR row x).1.length ≤ row.length + 1 := by
  unfold valR
  split
  · simp
  · split <;> simp
theorem valR_row0 (row : List Int) (x : Int) : row.length ≤ (valR row x).1.length := by
  unfold valR
  split
  · simp
  · split <;> simp
theorem valsF_row0 : ∀ (l : List Int) (row : List Int), row.length ≤ (valsF row l).1.length
  | [], _ => by simp [valsF]
  | a :: l, row => by
    rw [valsF]
    exact Nat.le_trans (valR_row0 row a) (valsF_row0 l (valR row a).1)
/-- Words of bytes. -/
def wordAt (b : List UInt8) (o : Nat) : Int := leNum ((b.drop o).take 8)
def wordsAt (b : List UInt8) (o : Nat) : Nat → List Int
  | 0 => []
  | n + 1 => wordsAt b o n ++ [wordAt b (o + 8 * n)]
theorem wordsAt_len (b : List UInt8) (o : Nat) : ∀ n, (wordsAt b o n).length = n
  | 0 => rfl
  | n + 1 => by rw [wordsAt, List.length_append, wordsAt_len b o n]; rfl
theorem words_at (b : List UInt8) (o : Nat) : ∀ (n j : Nat), j < n → (wordsAt b o n).getD j 0 = wordAt b (o + 8 * j)
  | 0, j, h => absurd h (Nat.not_lt_zero _)
  | n + 1, j, h => by
    have hl := wordsAt_len b o n
    rw [wordsAt, List.getD_eq_getElem?_getD]
    rcases Nat.lt_or_ge j n with q | q
    · rw [List.getElem?_append_left (by omega), ← List.getD_eq_getElem?_getD, words_at b o n j q]
    · obtain rfl : j = n := by omega
      rw [List.getElem?_append_right (by omega), hl, Nat.sub_self]; rfl
theorem wordAt_range (b : List UInt8) (o : Nat) : 0 ≤ wordAt b o ∧ wordAt b o ≤ 18446744073709551615 := by
  have := take_range b o 8
  unfold wordAt; omega
/-! ### one thing -/
def bad0 (b : List UInt8) (a x : Int) : Bool := !decide (x % 8 = 0) || decide (x < a) || decide ((b.length : Int) < x - a) || decide ((b.length : Int) - (x - a) < 8)
def bad1 (h r : Int) : Bool := decide (h % 2 = 0) || !decide (bitsOf .and .u64 h 192 = 0) || decide (h / 2 % 16 < 1) || decide (8 < h / 2 % 16) || decide (r < spanF (h / 2 % 16) (h / 16777216))
def zsOf (b : List UInt8) (o n : Nat) (k : Int) : List UInt8 := (b.drop (o + 8 + n)).take (o + (spanF k n).toNat - (o + 8 + n))
def body (b : List UInt8) (o : Nat) (h : Int) (row : List Int) : Option (List Int × Thing) :=
  let n := (h / 16777216).toNat
  let k := h / 2 % 16
  let g := h / 256 % 65536
  if bytesK k then (if (zsOf b o n k).any (fun z => !decide (z = 0)) then none else some (row, ⟨k, g, (b.drop (o + 8)).take n, []⟩))
  else if k = 8 then
    if n = 0 ∨ ¬ g = 0 then none
    else
      let c := IntKind.u64.wrap (wordAt b (o + 8) - 4194304)
      if ¬ c % 16 = 0 ∨ 4194303 < c / 16 then none
      else some ((valsF row (wordsAt b (o + 16) (n - 1))).1, ⟨8, c / 16, [], (valsF row (wordsAt b (o + 16) (n - 1))).2⟩)
  else some ((valsF row (wordsAt b (o + 8) n)).1, ⟨k, g, [], (valsF row (wordsAt b (o + 8) n)).2⟩)
def thingR (b : List UInt8) (a : Int) (row : List Int) (x : Int) : Option (List Int × Thing) :=
  if bad0 b a x then none
  else if bad1 (wordAt b (x - a).toNat) (b.length - (x - a)) then none
  else match body b (x - a).toNat (wordAt b (x - a).toNat) row with
    | none => none
    | some p => if madeF p.2 then some p else none
theorem thingR_bad0 {b : List UInt8} {a x : Int} {row : List Int} (h : bad0 b a x = true) : thingR b a row x = none := by unfold thingR; rw [if_pos h]
theorem thingR_bad1 {b : List UInt8} {a x : Int} {o : Nat} {row : List Int} (ho : x - a = o) (h0 : bad0 b a x = false) (h : bad1 (wordAt b o) (b.length - o) = true) : thingR b a row x = none := by
  unfold thingR; rw [ho, Int.toNat_natCast, h0, if_neg (by decide), if_pos h]
theorem thingR_body {b : List UInt8} {a x : Int} {o : Nat} {row : List Int} (ho : x - a = o) (h0 : bad0 b a x = false) (h : bad1 (wordAt b o) (b.length - o) = false) :
    thingR b a row x = match body b o (wordAt b o) row with | none => none | some p => if madeF p.2 then some p else none := by
  unfold thingR; rw [ho, Int.toNat_natCast, h0, if_neg (by decide), h, if_neg (by decide)]
theorem thingR_some {b : List UInt8} {a x : Int} {o : Nat} {row : List Int} {p : List Int × Thing} (ho : x - a = o) (h0 : bad0 b a x = false) (h : bad1 (wordAt b o) (b.length - o) = false) (hb : body b o (wordAt b o) row = some p) :
    thingR b a row x = if madeF p.2 = true then some p else none := by rw [thingR_body ho h0 h, hb]
theorem thingR_none {b : List UInt8} {a x : Int} {o : Nat} {row : List Int} (ho : x - a = o) (h0 : bad0 b a x = false) (h : bad1 (wordAt b o) (b.length - o) = false) (hb : body b o (wordAt b o) row = none) :
    thingR b a row x = none := by rw [thingR_body ho h0 h, hb]
/-! ### what words reach -/
def readS (b : List UInt8) (a : Int) : Nat → List Int → List Thing → Option (List Thing)
  | 0, row, out => if row.length ≤ out.length then some out else none
  | f + 1, row, out => match row[out.length]? with
    | none => some out
    | some x => match thingR b a row x with
      | none => none
      | some p => readS b a f p.1 (out ++ [p.2])
def fuelR (b : List UInt8) : Nat := b.length / 8 + 1
def badR (b : List UInt8) (a : Int) : Bool := !decide (a % 8 = 0) || decide (9223372036854775808 < a) || decide (9223372036854775808 - a < b.length)
def readR (b : List UInt8) (a : Int) (ws : List Int) : Graph × Int :=
  if badR b a then (⟨[], []⟩, 1)
  else match readS b a (fuelR b) (valsF [] ws).1 [] with
    | none => (⟨[], []⟩, 140)
    | some l => (⟨l, (valsF [] ws).2⟩, 0)
theorem readS_end {b : List UInt8} {a : Int} {f : Nat} {row : List Int} {out : List Thing} (h : row.length ≤ out.length) : readS b a f row out = some out := by
  cases f with
  | zero => rw [readS, if_pos h]
  | succ f => rw [readS, List.getElem?_eq_none h]
theorem readS_step {b : List UInt8} {a : Int} {f : Nat} {row : List Int} {out : List Thing} {p : List Int × Thing} (h : out.length < row.length) (hp : thingR b a row (row.getD out.length 0) = some p) : readS b a (f + 1) row out = readS b a f p.1 (out ++ [p.2]) := by
  have e : row.getD out.length 0 = row[out.length] := by simp [h]
  rw [e] at hp
  rw [readS, List.getElem?_eq_getElem h]
  simp only [hp]
theorem readS_fail {b : List UInt8} {a : Int} {f : Nat} {row : List Int} {out : List Thing} (h : out.length < row.length) (hp : thingR b a row (row.getD out.length 0) = none) : readS b a f row out = none := by
  have e : row.getD out.length 0 = row[out.length] := by simp [h]
  rw [e] at hp
  cases f with
  | zero => rw [readS, if_neg (by omega)]
  | succ f => rw [readS, List.getElem?_eq_getElem h]; simp only [hp]
/-- What a reader holds. -/
abbrev RS (bm br : Nat) (b : List UInt8) (a : Int) (A : Option Addr) (c : Nat) (row : List Int) : St :=
  [.map bm (mapE .u64 0 row), .box br 84 [u8s b, .v (.int .u64 a), .v (.map (some bm)), .v (.slice A row.length c), .v (.bool false)], .row A row.length c 29 1 (row.map zu)]
theorem RS_new {bm br : Nat} {b : List UInt8} {a x : Int} {A : Option Addr} {c : Nat} {row : List Int} (e3 : putK (.i .u64 x) (.v (.int .i64 (row.length : Int))) (mapE .u64 0 row) = mapE .u64 0 (row ++ [x])) :
    RS bm br b a A c (row ++ [x]) = [.map bm (putK (.i .u64 x) (.v (.int .i64 (row.length : Int))) (mapE .u64 0 row)), .box br 84 [u8s b, .v (.int .u64 a), .v (.map (some bm)), .v (.slice A (row.length + 1) c), .v (.bool false)], .row A (row.length + 1) c 29 1 (row.map zu ++ [.v (.int .u64 x)])] := by
  rw [e3, RS, List.length_append, List.length_singleton, List.map_append]; rfl
/-! ### what keeps the row short -/
theorem nodup_sub : ∀ (l m : List Int), l.Nodup → (∀ z ∈ l, z ∈ m) → l.length ≤ m.length
  | [], m, _, _ => Nat.zero_le _
  | z :: r, m, hn, h => by
    rw [List.nodup_cons] at hn
    have h1 := nodup_sub r (m.erase z) hn.2 (fun y hy => (List.mem_erase_of_ne (fun (e : y = z) => hn.1 (e ▸ hy))).2 (h y (by simp [hy])))
    have h2 : z ∈ m := h z (by simp)
    have h3 := List.length_erase_of_mem h2
    have h4 := List.length_pos_of_mem h2
    rw [List.length_cons]; omega
/-- Where words can come from. -/
def srcR (b : List UInt8) (ws : List Int) : List Int := ws ++ (List.range (b.length / 8)).map fun i => wordAt b (8 * i)
theorem srcR_len (b : List UInt8) (ws : List Int) : (srcR b ws).length = ws.length + b.length / 8 := by simp [srcR]
structure RowR (b : List UInt8) (ws row : List Int) : Prop where
  nd : row.Nodup
  src : ∀ z ∈ row, z ∈ srcR b ws
theorem RowR.len {b : List UInt8} {ws row : List Int} (h : RowR b ws row) : row.length ≤ ws.length + b.length / 8 := by
  have := nodup_sub row _ h.nd h.src
  rwa [srcR_len] at this
theorem RowR.range {b : List UInt8} {ws row : List Int} (hw : PlOk ws) (h : RowR b ws row) : PlOk row := fun z hz => by
  rcases List.mem_append.1 (h.src z hz) with e | e
  · exact hw z e
  · obtain ⟨i, _, rfl⟩ := List.mem_map.1 e
    exact wordAt_range b _
theorem RowR.nil (b : List UInt8) (ws : List Int) : RowR b ws [] := ⟨List.nodup_nil, fun z h => by cases h⟩
theorem valR_ok {b : List UInt8} {ws row : List Int} {x : Int} (h : RowR b ws row) (hx : x ∈ srcR b ws) : RowR b ws (valR row x).1 := by
  unfold valR
  split
  · exact h
  · split
    · exact h
    · rename_i hi
      refine ⟨?_, fun z hz => ?_⟩
      · rw [List.nodup_append]
        exact ⟨h.nd, by simp, fun a ha b hb e => by simp at hb; subst hb; subst e; exact ixOf_none hi ha⟩
      · rcases List.mem_append.1 hz with hz | hz
        · exact h.src z hz
        · simp at hz; subst hz; exact hx
theorem valsF_ok {b : List UInt8} {ws : List Int} : ∀ {l row : List Int}, RowR b ws row → (∀ x ∈ l, x ∈ srcR b ws) → RowR b ws (valsF row l).1
  | [], _, h, _ => h
  | a :: l, row, h, hl => by
    show RowR b ws (valsF (valR row a).1 l).1
    exact valsF_ok (valR_ok h (hl a (by simp))) (fun r hr => hl r (by simp [hr]))
theorem src_word {b : List UInt8} {ws : List Int} {o : Nat} (h8 : o % 8 = 0) (h : o + 8 ≤ b.length) : wordAt b o ∈ srcR b ws := by
  refine List.mem_append.2 (.inr (List.mem_map.2 ⟨o / 8, List.mem_range.2 (by omega), ?_⟩))
  rw [show 8 * (o / 8) = o by omega]
theorem src_words {b : List UInt8} {ws : List Int} {o : Nat} (h8 : o % 8 = 0) : ∀ {n : Nat}, o + 8 * n ≤ b.length → ∀ x ∈ wordsAt b o n, x ∈ srcR b ws
  | 0, _, x, hx => by cases hx
  | n + 1, h, x, hx => by
    rcases List.mem_append.1 hx with e | e
    · exact src_words h8 (by omega) x e
    · simp only [List.mem_singleton] at e
      subst e; exact src_word (by omega) (by omega)
end Go.Proofs.Ytbndnmmceccbkaa
