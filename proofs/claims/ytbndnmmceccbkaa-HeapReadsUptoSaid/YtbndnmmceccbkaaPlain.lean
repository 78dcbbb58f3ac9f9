/-
  GRAPHS as plain data, as trees; which things may be, in plain words.
-/
import Derived.Test.YtbndnmmceccbkaaBytes
namespace Go.Proofs.Ytbndnmmceccbkaa
open Go Go.RowKit
structure RefV where
  kind : Int
  n : Int
  deriving Inhabited, DecidableEq
structure Thing where
  kind : Int
  tag : Int
  bytes : List UInt8
  refs : List RefV
  deriving Inhabited, DecidableEq
structure Graph where
  things : List Thing
  roots : List RefV
  deriving Inhabited, DecidableEq
def refCells (r : RefV) : List T := [.v (.int .i64 r.kind), .v (.int .i64 r.n)]
def refsT (l : List RefV) : T := .sl 2 (l.flatMap refCells)
def thingCells (t : Thing) : List T := [.v (.int .i64 t.kind), .v (.int .i64 t.tag), sv t.bytes, .sl 2 (t.refs.flatMap refCells)]
def thingT (t : Thing) : T := .agg (thingCells t)
def graphT (g : Graph) : T := .agg [.sl 4 (g.things.flatMap thingCells), .sl 2 (g.roots.flatMap refCells)]
def RefOk (r : RefV) : Prop := -9223372036854775808 ≤ r.kind ∧ r.kind ≤ 9223372036854775807 ∧ -9223372036854775808 ≤ r.n ∧ r.n ≤ 9223372036854775807
/-- The ranges that Go's kinds give, and a bound. -/
structure ThingOk (b : Nat) (t : Thing) : Prop where
  k0 : -9223372036854775808 ≤ t.kind
  k1 : t.kind ≤ 9223372036854775807
  g0 : -9223372036854775808 ≤ t.tag
  g1 : t.tag ≤ 9223372036854775807
  by_ : t.bytes.length ≤ b
  rl : t.refs.length ≤ b
  rs : ∀ r ∈ t.refs, RefOk r
structure GraphOk (b : Nat) (g : Graph) : Prop where
  tl : g.things.length ≤ b
  rl : g.roots.length ≤ b
  ts : ∀ t ∈ g.things, ThingOk b t
  rs : ∀ r ∈ g.roots, RefOk r

theorem len_flat {α : Type} {f : α → List T} {k : Nat} (hk : ∀ a, (f a).length = k) : ∀ (l : List α), (l.flatMap f).length = l.length * k
  | [] => by simp
  | a :: r => by rw [List.flatMap_cons, List.length_append, hk, len_flat hk r, List.length_cons, Nat.add_mul]; omega
theorem drop_flat {α : Type} {f : α → List T} {k : Nat} (hk : ∀ a, (f a).length = k) : ∀ (l : List α) (j : Nat), (l.flatMap f).drop (j * k) = (l.drop j).flatMap f
  | [], j => by simp
  | a :: r, 0 => by simp
  | a :: r, j + 1 => by
    rw [List.flatMap_cons, Nat.add_mul, Nat.one_mul, Nat.add_comm, List.drop_append, List.drop_of_length_le (by rw [hk]; omega), hk, List.nil_append, Nat.add_sub_cancel_left, drop_flat hk r j]
    rfl
theorem getD_eq' {α : Type} [Inhabited α] {l : List α} {j : Nat} (h : j < l.length) : l.getD j default = l[j] := by simp [h]
theorem getD_mem' {α : Type} [Inhabited α] {l : List α} {j : Nat} (h : j < l.length) : l.getD j default ∈ l := by
  rw [getD_eq' h]; exact List.getElem_mem h
theorem flat_at {α : Type} [Inhabited α] {f : α → List T} {k : Nat} (hk : ∀ a, (f a).length = k) {l : List α} {j : Nat} (h : j < l.length) (i : Nat) (hi : i < k) : (l.flatMap f)[j * k + i]? = (f (l.getD j default))[i]? := by
  rw [← List.getElem?_drop, drop_flat hk, List.drop_eq_getElem_cons h, List.flatMap_cons, getD_eq' h, List.getElem?_append_left (by rw [hk]; exact hi)]
theorem flat_get {α : Type} [Inhabited α] {f : α → List T} {k : Nat} (hk : ∀ a, (f a).length = k) {l : List α} {j : Nat} (h : j < l.length) : ((l.flatMap f).drop (j * k)).take k = f (l.getD j default) ∧ (f (l.getD j default)).length = k := by
  refine ⟨?_, hk _⟩
  rw [drop_flat hk, List.drop_eq_getElem_cons h, List.flatMap_cons, getD_eq' h, List.take_left' (hk _)]
theorem rk (r : RefV) : (refCells r).length = 2 := rfl
theorem tk (t : Thing) : (thingCells t).length = 4 := rfl
theorem len_refs {l : List RefV} : (l.flatMap refCells).length = l.length * 2 := len_flat rk l
theorem len_things {l : List Thing} : (l.flatMap thingCells).length = l.length * 4 := len_flat tk l
theorem ref_get {l : List RefV} {j : Nat} (h : j < l.length) : ((l.flatMap refCells).drop (j * 2)).take 2 = refCells (l.getD j default) ∧ (refCells (l.getD j default)).length = 2 := flat_get rk h
theorem thing_get {l : List Thing} {j : Nat} (h : j < l.length) : ((l.flatMap thingCells).drop (j * 4)).take 4 = thingCells (l.getD j default) ∧ (thingCells (l.getD j default)).length = 4 := flat_get tk h

/-! ### which things may be -/
def bytesK (k : Int) : Bool := decide (k = 2) || decide (k = 7) || decide (k = 3) || decide (k = 4)
def big0 (t : Thing) : Bool :=
  !decide (t.tag = 0) && !decide (t.tag = 1) || decide ((t.bytes.length : Int) < 8) || !decide ((t.bytes.length : Int) % 4 = 0) || decide ((t.bytes.drop ((t.bytes.length : Int) - 4).toNat).take (t.bytes.length - ((t.bytes.length : Int) - 4).toNat) = [0, 0, 0, 0])
def bigF (t : Thing) : Bool :=
  if big0 t = true then false else if (8 : Int) < t.bytes.length then true else decide (4611686018427387903 + t.tag < leNum ((t.bytes.drop 0).take 8))
def made0 (t : Thing) : Bool := decide (t.kind < 1) || decide (8 < t.kind) || decide ((1099511627775 : Int) < t.bytes.length) || decide ((1099511627775 : Int) ≤ t.refs.length)
def made1 (t : Thing) : Bool := bytesK t.kind && decide ((0 : Int) < t.refs.length) || !bytesK t.kind && !decide (t.bytes = [])
def madeF (t : Thing) : Bool :=
  if made0 t = true then false
  else if made1 t = true then false
  else if t.kind = 1 then decide (0 ≤ t.tag) && decide (t.tag ≤ 65535)
  else if t.kind = 8 then decide (0 ≤ t.tag) && decide (t.tag ≤ 4194303)
  else if t.kind = 3 then bigF t
  else if t.kind = 4 then decide (t.tag = 0) && decide ((t.bytes.length : Int) = 8)
  else if t.kind = 5 then decide (t.tag = 0) && decide ((t.refs.length : Int) = 1)
  else decide (t.tag = 0)
def fitsF (r : RefV) (things : Nat) : Bool :=
  if r.kind = 1 then decide (-4611686018427387904 ≤ r.n) && decide (r.n ≤ 4611686018427387903)
  else if r.kind = 2 then decide (0 ≤ r.n) && decide (r.n < (things : Int)) else false
def checkB (g : Graph) : Bool := (g.roots.all fun r => fitsF r g.things.length) && g.things.all fun t => madeF t && t.refs.all fun r => fitsF r g.things.length
def checkF (g : Graph) : Int := if checkB g then 0 else 141
def longF (t : Thing) : Nat := if bytesK t.kind then t.bytes.length else if t.kind = 8 then t.refs.length + 1 else t.refs.length
def spanF (k n : Int) : Int := if bytesK k then 8 + (n + 7) / 8 * 8 else 8 + 8 * n
def sizeF (t : Thing) : Int := if madeF t then spanF t.kind (longF t) else 0
def headF (t : Thing) : Int := if madeF t then 1 + 2 * t.kind + (if t.kind = 8 then 0 else 256 * t.tag) + 16777216 * longF t else 0

theorem made_spec {t : Thing} (h : madeF t = true) : 1 ≤ t.kind ∧ t.kind ≤ 8 ∧ 0 ≤ t.tag ∧ t.tag ≤ 4194303 ∧ (t.kind ≠ 8 → t.tag ≤ 65535) ∧ (bytesK t.kind = true → t.refs = []) ∧ (bytesK t.kind = false → t.bytes = []) := by
  unfold madeF at h
  split at h
  · cases h
  rename_i h0
  split at h
  · cases h
  rename_i h1
  simp only [made0, made1, Bool.or_eq_true, Bool.and_eq_true, Bool.not_eq_true', decide_eq_true_eq, decide_eq_false_iff_not, not_or, not_and, Bool.not_eq_true] at h0 h1
  obtain ⟨⟨⟨a1, a2⟩, a3⟩, a4⟩ := h0
  obtain ⟨b1, b2⟩ := h1
  have e1 : bytesK t.kind = true → t.refs = [] := fun hb => List.eq_nil_of_length_eq_zero (by have := b1 hb; omega)
  have e2 : bytesK t.kind = false → t.bytes = [] := fun hb => Decidable.not_not.1 (b2 hb)
  have tag : 0 ≤ t.tag ∧ t.tag ≤ 4194303 ∧ (t.kind ≠ 8 → t.tag ≤ 65535) := by
    split at h
    · simp only [Bool.and_eq_true, decide_eq_true_eq] at h; omega
    split at h
    · simp only [Bool.and_eq_true, decide_eq_true_eq] at h; exact ⟨h.1, h.2, fun q => absurd (by assumption) q⟩
    split at h
    · unfold bigF at h
      split at h
      · cases h
      · rename_i hb
        simp only [big0, Bool.or_eq_true, Bool.and_eq_true, Bool.not_eq_true', decide_eq_true_eq, decide_eq_false_iff_not, not_or, not_and, Decidable.not_not] at hb
        have := hb.1.1.1
        omega
    split at h
    · simp only [Bool.and_eq_true, decide_eq_true_eq] at h; omega
    split at h
    · simp only [Bool.and_eq_true, decide_eq_true_eq] at h; omega
    · simp only [decide_eq_true_eq] at h; omega
  exact ⟨by omega, by omega, tag.1, tag.2.1, tag.2.2, e1, e2⟩
theorem long_le {b : Nat} {t : Thing} (h : ThingOk b t) : longF t ≤ b + 1 := by
  have h1 := h.by_
  have h2 := h.rl
  unfold longF
  split
  · omega
  · split <;> omega

/-! ### bits -/
theorem bits_or_nat (p q : Nat) (hp : p < 18446744073709551616) (hq : q < 18446744073709551616) : bitsOf .or .u64 (p : Int) (q : Int) = ((p ||| q : Nat) : Int) := by
  have h : p ||| q < 2 ^ 64 := Nat.or_lt_two_pow (n := 64) hp hq
  simp only [bitsOf, BitVec.toNat_or, ofInt_nat]
  rw [Nat.mod_eq_of_lt (show p < 2 ^ IntKind.u64.bits from hp), Nat.mod_eq_of_lt (show q < 2 ^ IntKind.u64.bits from hq)]
  exact IntWalk.u64_in _ ⟨by omega, by omega⟩
theorem or_lt_add (p q k : Nat) (h : q < 2 ^ k) : q ||| p * 2 ^ k = p * 2 ^ k + q := by
  have e := Nat.shiftLeft_add_eq_or_of_lt h p
  rw [Nat.shiftLeft_eq] at e
  rw [Nat.or_comm, ← e]
theorem shl_u64 (p k : Nat) (hk : k ≤ 64) (h : p * 2 ^ k < 18446744073709551616) : shlOf .u64 (p : Int) (k : Int) = ((p * 2 ^ k : Nat) : Int) := by
  unfold shlOf
  rw [Int.toNat_natCast, show min k IntKind.u64.bits = k from Nat.min_eq_left hk]
  have e : ((p : Int) * 2 ^ k) = ((p * 2 ^ k : Nat) : Int) := by rw [Int.natCast_mul, Int.natCast_pow]; rfl
  rw [e]
  exact IntWalk.u64_in _ ⟨by omega, by omega⟩
/-- The same number, as a natural one. -/
def leN : List UInt8 → Nat
  | [] => 0
  | b :: r => b.toNat + 256 * leN r
theorem leN_eq : ∀ l, leNum l = (leN l : Int)
  | [] => rfl
  | b :: r => by rw [leNum, leN, leN_eq r]; omega
theorem leN_lt : ∀ l, leN l < 2 ^ (8 * l.length)
  | [] => by simp [leN]
  | b :: r => by
    have h1 := leN_lt r
    have h2 := b.toNat_lt
    rw [List.length_cons, Nat.mul_add, Nat.mul_one, Nat.pow_add]
    simp only [leN]
    omega
theorem leN_snoc : ∀ (l : List UInt8) (b : UInt8), leN (l ++ [b]) = leN l + b.toNat * 2 ^ (8 * l.length)
  | [], b => by simp [leN]
  | c :: r, b => by
    rw [List.cons_append, leN, leN_snoc r b, leN, List.length_cons, Nat.mul_add 8, Nat.mul_one, Nat.pow_add, Nat.mul_add]
    rw [show 256 * (b.toNat * 2 ^ (8 * r.length)) = b.toNat * (2 ^ (8 * r.length) * 2 ^ 8) by rw [show (2 : Nat) ^ 8 = 256 by rfl, Nat.mul_left_comm, Nat.mul_comm 256]]
    omega
theorem take_snoc {bs : List UInt8} {a k : Nat} (h : a + k < bs.length) : (bs.drop a).take (k + 1) = (bs.drop a).take k ++ [bs.getD (a + k) 0] := by
  rw [List.take_add_one, List.getElem?_drop, List.getElem?_eq_getElem h, getD_eq h]; rfl
theorem word_step (bs : List UInt8) (a k : Nat) (hk : k < 8) (h : a + k < bs.length) :
    bitsOf .or .u64 (leNum ((bs.drop a).take k)) (shlOf .u64 ((bs.getD (a + k) 0).toNat : Int) (8 * (k : Int))) = leNum ((bs.drop a).take (k + 1)) := by
  rw [take_snoc h, leN_eq, leN_eq, leN_snoc]
  have h1 := leN_lt ((bs.drop a).take k)
  have h2 := (bs.getD (a + k) 0).toNat_lt
  have h3 : ((bs.drop a).take k).length = k := by rw [List.length_take, List.length_drop]; omega
  rw [h3] at h1 ⊢
  have h4 : (2 : Nat) ^ (8 * k) ≤ 2 ^ 56 := Nat.pow_le_pow_right (by decide) (by omega)
  have h5 : (bs.getD (a + k) 0).toNat * 2 ^ (8 * k) ≤ 255 * 2 ^ 56 := Nat.mul_le_mul (by omega) h4
  rw [show (8 * (k : Int)) = ((8 * k : Nat) : Int) by omega, shl_u64 _ _ (by omega) (by omega), bits_or_nat _ _ (by omega) (by omega), or_lt_add _ _ _ h1, Nat.add_comm]
/-- The header's bits. -/
theorem head_bits (k n g : Nat) (hk : k ≤ 15) (hn : n ≤ 1099511627775) (hg : g ≤ 65535) :
    1 ||| k * 2 ^ 1 = 1 + 2 * k ∧ (1 + 2 * k) ||| n * 2 ^ 24 = 1 + 2 * k + 16777216 * n ∧ (1 + 2 * k + 16777216 * n) ||| g * 2 ^ 8 = 1 + 2 * k + 256 * g + 16777216 * n := by
  have a1 := or_lt_add k 1 1 (by decide)
  have a2 := or_lt_add n (1 + 2 * k) 24 (by omega)
  have a3 := or_lt_add g (1 + 2 * k) 8 (by omega)
  have a4 := or_lt_add n (1 + 2 * k + 256 * g) 24 (by omega)
  refine ⟨by rw [a1]; omega, by rw [a2]; omega, ?_⟩
  have e1 : 1 + 2 * k + 16777216 * n = (1 + 2 * k) ||| n * 2 ^ 24 := by rw [a2]; omega
  have e2 : 1 + 2 * k + 256 * g = (1 + 2 * k) ||| g * 2 ^ 8 := by rw [a3]; omega
  rw [e1, Nat.or_assoc, Nat.or_comm (n * 2 ^ 24), ← Nat.or_assoc, ← e2, a4]
  omega
theorem head_or (k n g : Int) (h0 : 0 ≤ k) (h1 : k ≤ 15) (h2 : 0 ≤ n) (h3 : n ≤ 1099511627775) (h4 : 0 ≤ g) (h5 : g ≤ 65535) :
    bitsOf .or .u64 (bitsOf .or .u64 1 (k * 2)) (n * 16777216) = 1 + 2 * k + 16777216 * n ∧ bitsOf .or .u64 (1 + 2 * k + 16777216 * n) (g * 256) = 1 + 2 * k + 256 * g + 16777216 * n := by
  obtain ⟨k, rfl⟩ := Int.eq_ofNat_of_zero_le h0
  obtain ⟨n, rfl⟩ := Int.eq_ofNat_of_zero_le h2
  obtain ⟨g, rfl⟩ := Int.eq_ofNat_of_zero_le h4
  obtain ⟨a1, a2, a3⟩ := head_bits k n g (by omega) (by omega) (by omega)
  have b1 := bits_or_nat 1 (k * 2 ^ 1) (by decide) (by omega)
  have b2 := bits_or_nat (1 + 2 * k) (n * 2 ^ 24) (by omega) (by omega)
  have b3 := bits_or_nat (1 + 2 * k + 16777216 * n) (g * 2 ^ 8) (by omega) (by omega)
  rw [a1] at b1
  rw [a2] at b2
  rw [a3] at b3
  constructor
  · rw [show ((k : Int) * 2) = ((k * 2 ^ 1 : Nat) : Int) by omega, show (n : Int) * 16777216 = ((n * 2 ^ 24 : Nat) : Int) by omega, show (1 : Int) = ((1 : Nat) : Int) from rfl, b1, b2]; omega
  · rw [show (1 + 2 * (k : Int) + 16777216 * n) = ((1 + 2 * k + 16777216 * n : Nat) : Int) by omega, show (g : Int) * 256 = ((g * 2 ^ 8 : Nat) : Int) by omega, b3]; omega
/-- The place of the first for which p, or -1. -/
def ixF (p : RefV → Bool) (l : List RefV) : Int := if l.any p then (l.findIdx p : Int) else -1
theorem ixF_geq (p : RefV → Bool) (l : List RefV) : decide (0 ≤ ixF p l) = l.any p := by
  unfold ixF
  split
  · rename_i h; rw [h]; simp
  · rename_i h; rw [Bool.eq_false_iff.2 h]; rfl
theorem ixF_at {p : RefV → Bool} {l : List RefV} {j : Nat} (hj : j < l.length) (h : p (l.getD j default) = true) (hn : ∀ i, i < j → p (l.getD i default) = false) : ixF p l = j := by
  unfold ixF
  rw [if_pos (List.any_eq_true.2 ⟨_, getD_mem' hj, h⟩), (List.findIdx_eq hj).2 ⟨by rw [← getD_eq' hj]; exact h, fun i hi => by rw [← getD_eq' (by omega)]; exact hn i hi⟩]
theorem ixF_none {p : RefV → Bool} {l : List RefV} {j : Nat} (hj : l.length ≤ j) (hn : ∀ i, i < j → p (l.getD i default) = false) : ixF p l = -1 := by
  unfold ixF
  rw [if_neg]
  intro h
  obtain ⟨x, hx, hp⟩ := List.any_eq_true.1 h
  obtain ⟨i, hi, rfl⟩ := List.getElem_of_mem hx
  have := hn i (by omega)
  rw [getD_eq' hi, hp] at this
  cases this
def goodT (g : Graph) (t : Thing) : Bool := madeF t && t.refs.all fun r => fitsF r g.things.length
theorem all_of {g : Graph} (h : ∀ i, i < g.things.length → goodT g (g.things.getD i default) = true) : g.things.all (goodT g) = true := List.all_eq_true.2 fun t ht => by
  obtain ⟨i, hi, rfl⟩ := List.getElem_of_mem ht
  rw [← getD_eq' hi]; exact h i hi
theorem check_ok {g : Graph} (h1 : g.roots.any (fun r => !fitsF r g.things.length) = false) (h2 : ∀ i, i < g.things.length → goodT g (g.things.getD i default) = true) : checkF g = 0 := by
  unfold checkF
  rw [if_pos]
  unfold checkB
  rw [Bool.and_eq_true]
  refine ⟨List.all_eq_true.2 fun r hr => ?_, all_of h2⟩
  have := List.any_eq_false.1 h1 r hr
  simpa using this
theorem check_bad {g : Graph} (h : g.roots.any (fun r => !fitsF r g.things.length) = true ∨ ∃ t ∈ g.things, goodT g t = false) : checkF g = 141 := by
  unfold checkF
  rw [if_neg]
  intro hc
  unfold checkB at hc
  rw [Bool.and_eq_true] at hc
  rcases h with h | ⟨t, ht, h⟩
  · obtain ⟨r, hr, h⟩ := List.any_eq_true.1 h
    have := List.all_eq_true.1 hc.1 r hr
    simp [this] at h
  · have := List.all_eq_true.1 hc.2 t ht
    unfold goodT at h
    rw [this] at h
    cases h
theorem goodT_false {g : Graph} {t : Thing} (h : (!madeF t || t.refs.any (fun r => !fitsF r g.things.length)) = true) : goodT g t = false := by
  unfold goodT
  rcases Bool.or_eq_true _ _ ▸ h with h | h
  · simp only [Bool.not_eq_true'] at h; rw [h]; rfl
  · obtain ⟨r, hr, h⟩ := List.any_eq_true.1 h
    rw [Bool.and_eq_false_iff]
    refine .inr (List.all_eq_false.2 ⟨r, hr, by simpa using h⟩)
theorem goodT_true {g : Graph} {t : Thing} (h : (!madeF t || t.refs.any (fun r => !fitsF r g.things.length)) = false) : goodT g t = true := by
  rw [Bool.or_eq_false_iff] at h
  unfold goodT
  rw [Bool.and_eq_true]
  refine ⟨by simpa using h.1, List.all_eq_true.2 fun r hr => by have := List.any_eq_false.1 h.2 r hr; simpa using this⟩
abbrev gCells (g : Graph) : List T := [.sl 4 (g.things.flatMap thingCells), .sl 2 (g.roots.flatMap refCells)]
abbrev vp (b : Nat) : Value := .pointer (some ⟨b, 0, none⟩)
end Go.Proofs.Ytbndnmmceccbkaa
