/-
  THE READER of one instruction's bytes, as plain functions.
-/
import Derived.Test.YtjndpakhmgapjaaDoorIns
import Derived.Test.YtjndpakhmgapjaaDoorAw23
namespace Go.Proofs.YtjndpakhmgapjaaDoor
open Go Go.RowKit
set_option linter.unusedSimpArgs false
set_option linter.unusedVariables false
set_option linter.unnecessarySimpa false
structure Rd where
  at_ : Nat
  cut : Bool
  wrong : Bool
  deriving DecidableEq
structure Rx where
  wide : Int
  reg : Int
  rm : Int
  deriving DecidableEq
def rdCells (bs : List UInt8) (r : Rd) : List T := [u8s bs, .v (.int .i64 (r.at_ : Int)), .v (.bool r.cut), .v (.bool r.wrong)]
def rxVals (x : Rx) : List Value := [.int .i64 x.wide, .int .i64 x.reg, .int .i64 x.rm]
def rxCells (x : Rx) : List T := [.v (.int .i64 x.wide), .v (.int .i64 x.reg), .v (.int .i64 x.rm)]
def rxT (x : Rx) : T := .agg (rxCells x)
def nilI : Ins := ⟨0, 0, 0, 0, 0, 0⟩
def byteAt (bs : List UInt8) (k : Nat) : Int := ((bs.getD k 0).toNat : Int)
def nextF (bs : List UInt8) (r : Rd) : Int × Rd :=
  if (r.cut || r.wrong) = true then (0, r) else if r.at_ = bs.length then (0, ⟨r.at_, true, r.wrong⟩) else (byteAt bs r.at_, ⟨r.at_ + 1, r.cut, r.wrong⟩)
def mustF (r : Rd) (is : Bool) : Rd := if (!r.cut && !is) = true then ⟨r.at_, r.cut, true⟩ else r
abbrev orI (a b : Int) : Int := bitsOf .or .i64 a b
abbrev andI (a b : Int) : Int := bitsOf .and .i64 a b
def splitF (x : Int) : Rx := ⟨x / 8 % 2, x / 4 % 2 * 8, x % 2 * 8⟩
/-- So many bytes, the lowest first, as one number. -/
def immS (bs : List UInt8) (r : Rd) : Nat → Int × Rd
  | 0 => (0, r)
  | k + 1 => ((immS bs r k).1 + (nextF bs (immS bs r k).2).1 * 256 ^ k, (nextF bs (immS bs r k).2).2)
def sgn (k : Nat) (n : Int) : Int := if 2 * n < 256 ^ k then n else n - 256 ^ k
def immV (bs : List UInt8) (r : Rd) (k : Nat) : Int := sgn k (immS bs r k).1
def immD (bs : List UInt8) (r : Rd) (k : Nat) : Rd := (immS bs r k).2
def twoV (bs : List UInt8) (x : Rx) (r : Rd) : Int × Int := (orI x.reg ((nextF bs r).1 / 8 % 8), orI x.rm ((nextF bs r).1 % 8))
def twoD (bs : List UInt8) (r : Rd) : Rd := mustF (nextF bs r).2 (decide ((nextF bs r).1 / 64 = 3))
def oneV (bs : List UInt8) (x : Rx) (r : Rd) : Int × Int := twoV bs x (mustF r (decide (x.reg = 0)))
def oneD (bs : List UInt8) (x : Rx) (r : Rd) : Rd := twoD bs (mustF r (decide (x.reg = 0)))
def memD1 (bs : List UInt8) (r : Rd) : Rd := mustF (nextF bs r).2 (decide ((nextF bs r).1 / 64 = 2))
def memD2 (bs : List UInt8) (r : Rd) : Rd := if (nextF bs r).1 % 8 = 4 then mustF (nextF bs (memD1 bs r)).2 (decide ((nextF bs (memD1 bs r)).1 = 36)) else memD1 bs r
def memV (bs : List UInt8) (x : Rx) (r : Rd) : Int × Int × Int := (orI x.reg ((nextF bs r).1 / 8 % 8), orI x.rm ((nextF bs r).1 % 8), immV bs (memD2 bs r) 4)
def memD (bs : List UInt8) (r : Rd) : Rd := immD bs (memD2 bs r) 4
def peekF (bs : List UInt8) (r : Rd) : Bool := decide ((r.at_ : Int) < (bs.length : Int)) && decide (byteAt bs r.at_ / 64 = 2)
def movedR (bs : List UInt8) (x : Rx) (r : Rd) : Ins × Rd :=
  if peekF bs r = true then (⟨4, (memV bs x r).2.1, (memV bs x r).1, 0, 8, (memV bs x r).2.2⟩, memD bs r) else (⟨1, (twoV bs x r).2, (twoV bs x r).1, 0, 0, 0⟩, twoD bs r)
def kindsN : List Int := [15, 16, 17, 18, 19, 20, 22, 23, 24, 25, 26, 27, 28, 29, 30, 31]
def stepN (op n a k : Int) : Int := if (decide ((opF k).1 = op) && decide ((opF k).2 = n)) = true then k else a
def kindN (op n : Int) (j : Nat) : Int := (kindsN.take j).foldl (stepN op n) 0
def numD1 (bs : List UInt8) (x : Rx) (op : Int) (r : Rd) : Rd := mustF (oneD bs x r) (decide (0 < kindN op (oneV bs x r).1 16))
def numberedR (bs : List UInt8) (x : Rx) (op : Int) (r : Rd) : Ins × Rd :=
  if op = 129 then (⟨kindN op (oneV bs x r).1 16, (oneV bs x r).2, 0, 0, 0, immV bs (numD1 bs x op r) 4⟩, immD bs (numD1 bs x op r) 4)
  else if op = 193 then (⟨kindN op (oneV bs x r).1 16, (oneV bs x r).2, 0, 0, 0, immV bs (numD1 bs x op r) 1⟩, mustF (immD bs (numD1 bs x op r) 1) (decide (0 ≤ immV bs (numD1 bs x op r) 1) && decide (immV bs (numD1 bs x op r) 1 ≤ 63)))
  else (⟨kindN op (oneV bs x r).1 16, (oneV bs x r).2, 0, 0, 0, 0⟩, numD1 bs x op r)
def narrowR (bs : List UInt8) (x : Rx) (op : Int) (r : Rd) : Ins × Rd :=
  if op = 139 then (⟨3, (memV bs x r).1, (memV bs x r).2.1, 0, 4, (memV bs x r).2.2⟩, memD bs r)
  else if op = 137 then (⟨4, (memV bs x r).2.1, (memV bs x r).1, 0, 4, (memV bs x r).2.2⟩, memD bs r)
  else if op = 136 then (⟨4, (memV bs x r).2.1, (memV bs x r).1, 0, 1, (memV bs x r).2.2⟩, memD bs r)
  else if op = 255 then (⟨if (oneV bs x r).1 = 2 then 38 else 39, (oneV bs x r).2, 0, 0, 0, 0⟩, mustF (oneD bs x r) (decide ((oneV bs x r).1 = 2) || decide ((oneV bs x r).1 = 4)))
  else if andI op 248 = 80 then (⟨41, orI x.rm (op % 8), 0, 0, 0, 0⟩, mustF r (decide (x.reg = 0)))
  else if andI op 248 = 88 then (⟨42, orI x.rm (op % 8), 0, 0, 0, 0⟩, mustF r (decide (x.reg = 0)))
  else (nilI, mustF r false)
def farD1 (x : Rx) (r : Rd) : Rd := mustF r (decide (x.wide = 1) || decide (x.reg = 0))
def farIn (bs : List UInt8) (x : Rx) (op : Int) (r : Rd) : Ins × Rd :=
  if (decide (x.wide = 0) && decide (andI op 240 = 144)) = true then (⟨32, (oneV bs x r).2, 0, op % 16, 0, 0⟩, mustF (oneD bs x r) (decide ((oneV bs x r).1 = 0)))
  else if (decide (x.wide = 1) && decide (andI op 240 = 64)) = true then (⟨34, (twoV bs x r).1, (twoV bs x r).2, op % 16, 0, 0⟩, twoD bs r)
  else if (decide (x.wide = 1) && decide (op = 175)) = true then (⟨21, (twoV bs x r).1, (twoV bs x r).2, 0, 0, 0⟩, twoD bs r)
  else if (decide (x.wide = 1) && decide (op = 182)) = true then
    if peekF bs r = true then (⟨3, (memV bs x r).1, (memV bs x r).2.1, 0, 1, (memV bs x r).2.2⟩, memD bs r) else (⟨33, (twoV bs x r).1, (twoV bs x r).2, 0, 0, 0⟩, twoD bs r)
  else (nilI, mustF r false)
def farR (bs : List UInt8) (x : Rx) (r : Rd) : Ins × Rd :=
  if ((nextF bs (farD1 x r)).2.cut || (nextF bs (farD1 x r)).2.wrong) = true then (nilI, (nextF bs (farD1 x r)).2) else farIn bs x (nextF bs (farD1 x r)).1 (nextF bs (farD1 x r)).2
def realK (first : Int) (x : Rx) (op : Int) : Int :=
  if (decide (first = 102) && decide (x.wide = 1) && decide (op = 110)) = true then 45
  else if (decide (first = 102) && decide (x.wide = 0) && decide (op = 46)) = true then 51
  else if (decide (first = 242) && decide (x.wide = 1) && decide (op = 42)) = true then 52
  else if (decide (first = 242) && decide (x.wide = 0) && decide (op = 88)) = true then 47
  else if (decide (first = 242) && decide (x.wide = 0) && decide (op = 89)) = true then 48
  else if (decide (first = 242) && decide (x.wide = 0) && decide (op = 92)) = true then 49
  else if (decide (first = 242) && decide (x.wide = 0) && decide (op = 94)) = true then 50
  else 0
def realIn (bs : List UInt8) (first : Int) (x : Rx) (op : Int) (r : Rd) : Ins × Rd :=
  if (decide (first = 102) && decide (x.wide = 1) && decide (op = 126)) = true then (⟨46, (twoV bs x r).2, (twoV bs x r).1, 0, 0, 0⟩, twoD bs r)
  else (⟨realK first x op, (twoV bs x (mustF r (decide (0 < realK first x op)))).1, (twoV bs x (mustF r (decide (0 < realK first x op)))).2, 0, 0, 0⟩, twoD bs (mustF r (decide (0 < realK first x op))))
def realD1 (bs : List UInt8) (r : Rd) : Rd := mustF (nextF bs r).2 (decide (andI (nextF bs r).1 242 = 64))
def realD2 (bs : List UInt8) (r : Rd) : Rd := mustF (nextF bs (realD1 bs r)).2 (decide ((nextF bs (realD1 bs r)).1 = 15))
def realR (bs : List UInt8) (first : Int) (r : Rd) : Ins × Rd :=
  if (nextF bs r).2.cut = true then (nilI, (nextF bs r).2)
  else if ((nextF bs (realD2 bs r)).2.cut || (nextF bs (realD2 bs r)).2.wrong) = true then (nilI, (nextF bs (realD2 bs r)).2)
  else realIn bs first (splitF (nextF bs r).1) (nextF bs (realD2 bs r)).1 (nextF bs (realD2 bs r)).2
def kindsP : List Int := [6, 7, 8, 9, 10, 11, 12, 13, 14]
def kindP (op : Int) : Option Int := kindsP.find? (fun k => decide ((opF k).1 = op))
def prefIn (bs : List UInt8) (x : Rx) (op : Int) (r : Rd) : Ins × Rd :=
  if op = 15 then farR bs x r
  else if x.wide = 0 then narrowR bs x op r
  else if andI op 248 = 184 then (⟨2, orI x.rm (op % 8), 0, 0, 0, immV bs (mustF r (decide (x.reg = 0))) 8⟩, mustF (immD bs (mustF r (decide (x.reg = 0))) 8) (!smallF (immV bs (mustF r (decide (x.reg = 0))) 8)))
  else if op = 139 then (⟨3, (memV bs x r).1, (memV bs x r).2.1, 0, 8, (memV bs x r).2.2⟩, memD bs r)
  else if op = 141 then (⟨5, (memV bs x r).1, (memV bs x r).2.1, 0, 0, (memV bs x r).2.2⟩, memD bs r)
  else if op = 137 then movedR bs x r
  else if op = 199 then (⟨2, (oneV bs x r).2, 0, 0, 0, immV bs (mustF (oneD bs x r) (decide ((oneV bs x r).1 = 0))) 4⟩, immD bs (mustF (oneD bs x r) (decide ((oneV bs x r).1 = 0))) 4)
  else if op = 129 ∨ op = 247 ∨ op = 211 ∨ op = 193 then numberedR bs x op r
  else match kindP op with
    | some k => (⟨k, (twoV bs x r).2, (twoV bs x r).1, 0, 0, 0⟩, twoD bs r)
    | none => (nilI, mustF r false)
def prefR (bs : List UInt8) (x : Rx) (r : Rd) : Ins × Rd :=
  if ((nextF bs r).2.cut || (nextF bs r).2.wrong) = true then (nilI, (nextF bs r).2) else prefIn bs x (nextF bs r).1 (nextF bs r).2
def insTwo (bs : List UInt8) (r : Rd) : Ins × Rd :=
  if (nextF bs r).1 = 5 then (⟨43, 0, 0, 0, 0, 0⟩, (nextF bs r).2)
  else if (nextF bs r).1 = 11 then (⟨44, 0, 0, 0, 0, 0⟩, (nextF bs r).2)
  else if andI (nextF bs r).1 240 = 128 then (⟨36, 0, 0, (nextF bs r).1 % 16, 4, immV bs (nextF bs r).2 4⟩, immD bs (nextF bs r).2 4)
  else (nilI, mustF (nextF bs r).2 false)
def insIn (bs : List UInt8) (x : Int) (r : Rd) : Ins × Rd :=
  if andI x 240 = 64 then prefR bs (splitF x) (mustF r (decide (andI x 2 = 0)))
  else if (decide (x = 102) || decide (x = 242)) = true then realR bs x r
  else if andI x 240 = 112 then (⟨36, 0, 0, x % 16, 1, immV bs r 1⟩, immD bs r 1)
  else if x = 235 then (⟨35, 0, 0, 0, 1, immV bs r 1⟩, immD bs r 1)
  else if x = 233 then (⟨35, 0, 0, 0, 4, immV bs r 4⟩, immD bs r 4)
  else if x = 232 then (⟨37, 0, 0, 0, 0, immV bs r 4⟩, immD bs r 4)
  else if x = 195 then (⟨40, 0, 0, 0, 0, 0⟩, r)
  else if x = 15 then insTwo bs r
  else (nilI, mustF r false)
def insR (bs : List UInt8) (r : Rd) : Ins × Rd :=
  if (nextF bs r).2.cut = true then (nilI, (nextF bs r).2) else insIn bs (nextF bs r).1 (nextF bs r).2
def rd0 : Rd := ⟨0, false, false⟩
def decI (bs : List UInt8) : Ins := if (insR bs rd0).2.wrong = true ∨ (insR bs rd0).2.cut = true then nilI else (insR bs rd0).1
def decN (bs : List UInt8) : Nat := if (insR bs rd0).2.wrong = true ∨ (insR bs rd0).2.cut = true then 0 else (insR bs rd0).2.at_
def decE (bs : List UInt8) : Int := if (insR bs rd0).2.wrong = true then 201 else if (insR bs rd0).2.cut = true then 202 else 0

section
variable {cx : Cx} {env : Env} {ops : Array Oper} {l : List Oper} {K : Env → St → Prop} {x : Ent} {E R : St}
/-- What a call has left behind its first entry goes behind what stood there. -/
theorem AWL.tuck (h : AWL cx ops l K env ((x :: R) ++ E)) : AWL cx ops l K env ((x :: E) ++ R) := by
  refine AWL.perm (S' := (x :: R) ++ E) ?_ h
  exact List.Perm.cons x List.perm_append_comm
end
/-! ### ranges -/
theorem byteAt_range (bs : List UInt8) (k : Nat) : 0 ≤ byteAt bs k ∧ byteAt bs k ≤ 255 := u8_toNat _
theorem next_range (bs : List UInt8) (r : Rd) : 0 ≤ (nextF bs r).1 ∧ (nextF bs r).1 ≤ 255 := by
  unfold nextF
  split
  · exact ⟨Int.le_refl 0, show (0 : Int) ≤ 255 by decide⟩
  · split
    · exact ⟨Int.le_refl 0, show (0 : Int) ≤ 255 by decide⟩
    · exact byteAt_range bs _
def RdOk (bs : List UInt8) (r : Rd) : Prop := r.at_ ≤ bs.length
theorem next_ok {bs : List UInt8} {r : Rd} (h : RdOk bs r) : RdOk bs (nextF bs r).2 := by
  unfold nextF
  split
  · exact h
  · split
    · exact h
    · unfold RdOk at h ⊢
      show r.at_ + 1 ≤ bs.length
      omega
theorem must_ok {bs : List UInt8} {r : Rd} (h : RdOk bs r) (is : Bool) : RdOk bs (mustF r is) := by
  unfold mustF
  split <;> exact h
theorem imm_ok {bs : List UInt8} {r : Rd} (h : RdOk bs r) : ∀ k, RdOk bs (immS bs r k).2
  | 0 => h
  | k + 1 => next_ok (imm_ok h k)
theorem imm_range (bs : List UInt8) (r : Rd) : ∀ k, 0 ≤ (immS bs r k).1 ∧ (immS bs r k).1 < 256 ^ k
  | 0 => ⟨Int.le_refl _, show (0 : Int) < 1 by decide⟩
  | k + 1 => by
    obtain ⟨h1, h2⟩ := imm_range bs r k
    obtain ⟨h3, h4⟩ := next_range bs (immS bs r k).2
    have hp : (0 : Int) < 256 ^ k := Int.pow_pos (by decide)
    have h5 : 0 ≤ (nextF bs (immS bs r k).2).1 * 256 ^ k := Int.mul_nonneg h3 (by omega)
    have h6 : (nextF bs (immS bs r k).2).1 * 256 ^ k ≤ 255 * 256 ^ k := Int.mul_le_mul_of_nonneg_right h4 (by omega)
    have e : (256 : Int) ^ (k + 1) = 256 ^ k * 256 := Int.pow_succ ..
    show 0 ≤ (immS bs r k).1 + _ ∧ (immS bs r k).1 + _ < 256 ^ (k + 1)
    rw [e]
    omega

/-! ### numbers, byte by byte -/
theorem or_add (n v : Nat) (j : Nat) (hn : n < 2 ^ j) : n ||| v * 2 ^ j = n + v * 2 ^ j := by
  rw [Nat.or_comm, Nat.add_comm, Nat.mul_comm, Nat.two_pow_add_eq_or_of_lt hn]
theorem p256 (j : Nat) : (256 : Nat) ^ j = 2 ^ (8 * j) := by
  rw [Nat.pow_mul]
theorem or_shl {n v : Int} {j : Nat} (hj : j < 8) (h0 : 0 ≤ n) (h1 : n < 256 ^ j) (hv0 : 0 ≤ v) (hv1 : v ≤ 255) : bitsOf .or .u64 n (shlOf .u64 v (8 * (j : Int))) = n + v * 256 ^ j := by
  obtain ⟨n, rfl⟩ := Int.eq_ofNat_of_zero_le h0
  obtain ⟨v, rfl⟩ := Int.eq_ofNat_of_zero_le hv0
  have hp : (256 : Int) ^ j = ((256 ^ j : Nat) : Int) := by rw [Int.natCast_pow]; rfl
  rw [hp] at h1 ⊢
  have h1 : n < 256 ^ j := by omega
  have hv1 : v ≤ 255 := by omega
  have hle : (256 : Nat) ^ j ≤ 256 ^ 7 := Nat.pow_le_pow_right (by decide) (by omega)
  have hb : v * 256 ^ j ≤ 255 * 256 ^ j := Nat.mul_le_mul_right _ hv1
  have hs : shlOf .u64 (v : Int) (8 * (j : Int)) = ((v * 256 ^ j : Nat) : Int) := by
    unfold shlOf
    have e1 : (8 * (j : Int)).toNat = 8 * j := by omega
    have e2 : min (8 * j) IntKind.u64.bits = 8 * j := Nat.min_eq_left (by show 8 * j ≤ 64; omega)
    rw [e1, e2]
    have e3 : (v : Int) * 2 ^ (8 * j) = ((v * 256 ^ j : Nat) : Int) := by rw [p256, Int.natCast_mul, Int.natCast_pow]; rfl
    rw [e3]
    exact IntWalk.u64_in _ ⟨by omega, by omega⟩
  rw [hs]
  show IntKind.u64.wrap ((BitVec.ofInt 64 (n : Int) ||| BitVec.ofInt 64 ((v * 256 ^ j : Nat) : Int)).toNat : Int) = _
  have en : BitVec.ofInt 64 (n : Int) = BitVec.ofNat 64 n := by rw [BitVec.ofInt_natCast]
  have ev : BitVec.ofInt 64 ((v * 256 ^ j : Nat) : Int) = BitVec.ofNat 64 (v * 256 ^ j) := by rw [BitVec.ofInt_natCast]
  rw [en, ev, BitVec.toNat_or, BitVec.toNat_ofNat, BitVec.toNat_ofNat, Nat.mod_eq_of_lt (by omega), Nat.mod_eq_of_lt (by omega)]
  have := or_add n v (8 * j) (by rw [← p256]; exact h1)
  rw [← p256] at this
  rw [this, ← Int.natCast_mul, ← Int.natCast_add]
  exact IntWalk.u64_in _ ⟨by omega, by omega⟩
theorem sgn_eq {k : Nat} (hk : k = 1 ∨ k = 4 ∨ k = 8) {n : Int} (h0 : 0 ≤ n) (h1 : n < 256 ^ k) : shrOf .i64 (IntKind.i64.wrap (shlOf .u64 n (64 - 8 * (k : Int)))) (64 - 8 * (k : Int)) = sgn k n := by
  unfold shrOf shlOf sgn
  rcases hk with rfl | rfl | rfl
  · show (IntKind.i64.wrap (IntKind.u64.wrap (n * 72057594037927936))).fdiv 72057594037927936 = if 2 * n < 256 then n else n - 256
    rw [Int.fdiv_eq_ediv_of_nonneg _ (by decide), IntKind.wrap_i64, IntKind.wrap_u64]
    have h1 : n < 256 := h1
    split <;> omega
  · show (IntKind.i64.wrap (IntKind.u64.wrap (n * 4294967296))).fdiv 4294967296 = if 2 * n < 4294967296 then n else n - 4294967296
    rw [Int.fdiv_eq_ediv_of_nonneg _ (by decide), IntKind.wrap_i64, IntKind.wrap_u64]
    have h1 : n < 4294967296 := h1
    split <;> omega
  · show (IntKind.i64.wrap (IntKind.u64.wrap (n * 1))).fdiv 1 = if 2 * n < 18446744073709551616 then n else n - 18446744073709551616
    rw [Int.fdiv_eq_ediv_of_nonneg _ (by decide), IntKind.wrap_i64, IntKind.wrap_u64]
    have h1 : n < 18446744073709551616 := h1
    split <;> omega
theorem kindN_next (op n : Int) {j : Nat} (h : j < 16) : kindN op n (j + 1) = stepN op n (kindN op n j) (kindsN.getD j 0) := by
  have hl : j < kindsN.length := h
  unfold kindN
  rw [List.take_succ_eq_append_getElem hl, List.foldl_append, List.getD_eq_getElem?_getD, List.getElem?_eq_getElem hl]
  rfl
theorem kindP_at {op : Int} {j : Nat} (hj : j < 9) (hp : ∀ i, i < j → ¬ (opF (kindsP.getD i 0)).1 = op) (h : (opF (kindsP.getD j 0)).1 = op) : kindP op = some (kindsP.getD j 0) := by
  have hl : j < kindsP.length := hj
  have g : ∀ i (hi : i < kindsP.length), kindsP.getD i 0 = kindsP[i] := fun i hi => by
    rw [List.getD_eq_getElem?_getD, List.getElem?_eq_getElem hi]; rfl
  rw [kindP, g j hl, List.find?_eq_some_iff_getElem]
  rw [g j hl] at h
  refine ⟨by rw [decide_eq_true_eq]; exact h, j, hl, rfl, fun i hi => ?_⟩
  have := hp i hi
  rw [g i (by omega)] at this
  rw [decide_eq_false this]; rfl
theorem kindP_none {op : Int} (hp : ∀ i, i < 9 → ¬ (opF (kindsP.getD i 0)).1 = op) : kindP op = none := by
  rw [kindP, List.find?_eq_none]
  intro k hk
  obtain ⟨i, hi, rfl⟩ := List.mem_iff_getElem.1 hk
  have := hp i hi
  rw [List.getD_eq_getElem?_getD, List.getElem?_eq_getElem hi] at this
  rw [decide_eq_true_eq]; exact this
theorem one_ok {bs : List UInt8} {r : Rd} (h : RdOk bs r) (x : Rx) : RdOk bs (oneD bs x r) := must_ok (next_ok (must_ok h _)) _
theorem two_ok {bs : List UInt8} {r : Rd} (h : RdOk bs r) : RdOk bs (twoD bs r) := must_ok (next_ok h) _
end Go.Proofs.YtjndpakhmgapjaaDoor
