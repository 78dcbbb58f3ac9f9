/-
  INSTRUCTIONS as plain data; which may be; their bytes.
-/
import Derived.Test.YtjndpakhmgapjaaDoorBytes
namespace Go.Proofs.YtjndpakhmgapjaaDoor
open Go Go.RowKit
set_option linter.unusedSimpArgs false
set_option linter.unusedVariables false
section
variable {cx : Cx} {env : Env} {S : St} {o : Oper} {ops : Array Oper} {l : List Oper} {K : Env → St → Prop} {d : Nat} {Hd : World → Prop}
theorem AWH.tk {fuel i : Nat} {listed : Array Bool} {t : T} (hi : ops[i]? = some o) (hg : o.guard = none) (hd : o.dst = some d) (hN : d < cx.N)
    (hy : ∀ a w, Sim cx env S a w → ∃ u, VRep w (cx.X ++ M S) t u ∧ ∀ w', Hd w' → (execOp a.eval o).run cx.P w' = .ok (.value u) w') (h : AWH cx ops Hd fuel (listed.setIfInBounds i true) K ((d, true, t) :: env) S)
    (hs : Region.noSelect ops = true := by kernel_rfl) (hf : Region.free .any ops listed i = true := by kernel_rfl) (hr : (Region.ready .any ops listed).contains i = true := by kernel_rfl) : AWH cx ops Hd (fuel + 1) listed K env S := AWH.take hi hs hf hr hg hd hN hy h
theorem tb {b : Nat} {ty : TypeId} {us : List Value} {K : Env → St → Prop} (k : Nat) (hi : S[k]? = some (.box b ty (us.map T.v))) (h : K env S) : AWL cx ops [] (fun env S => Tells cx (HeldBox b us) env S ∧ K env S) env S := AWL.nil ⟨tells_box hi, h⟩
end
structure Ins where
  kind : Int
  d : Int
  s : Int
  cond : Int
  size : Int
  imm : Int
  deriving Inhabited, DecidableEq
def insVals (i : Ins) : List Value := [.int .i64 i.kind, .int .i64 i.d, .int .i64 i.s, .int .i64 i.cond, .int .i64 i.size, .int .i64 i.imm]
def insCells (i : Ins) : List T := [.v (.int .i64 i.kind), .v (.int .i64 i.d), .v (.int .i64 i.s), .v (.int .i64 i.cond), .v (.int .i64 i.size), .v (.int .i64 i.imm)]
def insT (i : Ins) : T := .agg (insCells i)
def I64 (n : Int) : Prop := -9223372036854775808 ≤ n ∧ n ≤ 9223372036854775807
structure InsOk (i : Ins) : Prop where
  kind : I64 i.kind
  d : I64 i.d
  s : I64 i.s
  cond : I64 i.cond
  size : I64 i.size
  imm : I64 i.imm

/-! ### which may be -/
def fieldTab : List Int := [0, 3, 5, 23, 23, 7, 3, 3, 3, 3, 3, 3, 3, 3, 3, 5, 5, 5, 5, 5, 5, 3, 1, 1, 1, 1, 1, 1, 1, 5, 5, 5, 9, 3, 11, 20, 28, 4, 1, 1, 0, 1, 1, 0, 0, 3, 3, 3, 3, 3, 3, 3, 3]
def fieldsF (k : Int) : Int × Bool := if 1 ≤ k ∧ k ≤ 52 then (fieldTab.getD k.toNat 0, true) else (0, false)
def inF (n lo hi : Int) : Bool := decide (lo ≤ n) && decide (n ≤ hi)
def smallF (n : Int) : Bool := inF n (-2147483648) 2147483647
def sizedF (i : Ins) : Bool :=
  if i.kind = 3 ∨ i.kind = 4 then (decide (i.size = 8) || decide (i.size = 4) || decide (i.size = 1)) && smallF i.imm
  else if i.kind = 35 ∨ i.kind = 36 then decide (i.size = 4) && smallF i.imm || decide (i.size = 1) && inF i.imm (-128) 127
  else if i.kind = 29 ∨ i.kind = 30 ∨ i.kind = 31 then inF i.imm 0 63
  else decide (i.kind = 2) || smallF i.imm
def noneF (f has n : Int) : Bool := !decide (bitsOf .and .i64 f has = 0) || decide (n = 0)
def bad0 (i : Ins) : Bool := !(fieldsF i.kind).2 || !inF i.d 0 15 || !inF i.s 0 15 || !inF i.cond 0 15
def validF (i : Ins) : Bool :=
  if bad0 i = true then false
  else noneF (fieldsF i.kind).1 1 i.d && noneF (fieldsF i.kind).1 2 i.s && noneF (fieldsF i.kind).1 4 i.imm && noneF (fieldsF i.kind).1 8 i.cond && noneF (fieldsF i.kind).1 16 i.size && sizedF i
theorem fields_out {k : Int} (h : ¬ (1 ≤ k ∧ k ≤ 52)) : fieldsF k = (0, false) := if_neg h
theorem validF_regs {i : Ins} (h : validF i = true) : (1 ≤ i.kind ∧ i.kind ≤ 52) ∧ (0 ≤ i.d ∧ i.d ≤ 15) ∧ (0 ≤ i.s ∧ i.s ≤ 15) ∧ (0 ≤ i.cond ∧ i.cond ≤ 15) := by
  unfold validF at h
  split at h
  · cases h
  rename_i hb
  simp only [bad0, inF, Bool.or_eq_true, Bool.not_eq_true', not_or, Bool.not_eq_false, Bool.and_eq_true, decide_eq_true_eq] at hb
  obtain ⟨⟨⟨h1, h2⟩, h3⟩, h4⟩ := hb
  refine ⟨?_, h2, h3, h4⟩
  unfold fieldsF at h1
  split at h1
  · assumption
  · exact absurd h1 (by decide)

/-! ### the bytes -/
def byteOf (x : Int) : UInt8 := UInt8.ofNat (x % 256).toNat
theorem byteOf_wrap (p : Int) : T.v (.int .u8 (IntKind.u8.wrap p)) = u8 (byteOf p) := u8_wrap p
def ints (l : List Int) : List T := l.map fun x => .v (.int .i64 x)
theorem len_ints {l : List Int} : (ints l).length = l.length * 1 := by simp [ints]
theorem ints_get {l : List Int} {j : Nat} (h : j < l.length) : (ints l)[j * 1]? = some (.v (.int .i64 (l.getD j 0))) := by simp [ints, h]
def rexN (wide : Bool) (p q : Int) : Int := 64 + p / 8 * 4 + q / 8 + (if wide then 8 else 0)
def twoN (p q : Int) : Int := 192 + p % 8 * 8 + q % 8
def memN (p q : Int) : Int := 128 + p % 8 * 8 + q % 8
theorem rex_or (p q : Int) (hp : 0 ≤ p ∧ p ≤ 15) (hq : 0 ≤ q ∧ q ≤ 15) : bitsOf .or .i64 (bitsOf .or .i64 64 (p / 8 * 4)) (q / 8) = 64 + p / 8 * 4 + q / 8 := by
  have h1 : p / 8 = 0 ∨ p / 8 = 1 := by omega
  have h2 : q / 8 = 0 ∨ q / 8 = 1 := by omega
  rcases h1 with h1 | h1 <;> rcases h2 with h2 | h2 <;> rw [h1, h2] <;> decide
theorem rex_or8 (p q : Int) (hp : 0 ≤ p ∧ p ≤ 15) (hq : 0 ≤ q ∧ q ≤ 15) : bitsOf .or .i64 (bitsOf .or .i64 (bitsOf .or .i64 64 (p / 8 * 4)) (q / 8)) 8 = 64 + p / 8 * 4 + q / 8 + 8 := by
  have h1 : p / 8 = 0 ∨ p / 8 = 1 := by omega
  have h2 : q / 8 = 0 ∨ q / 8 = 1 := by omega
  rcases h1 with h1 | h1 <;> rcases h2 with h2 | h2 <;> rw [h1, h2] <;> decide
theorem fin8 {p : Int} (P : Int → Prop) (h : ∀ a : Fin 8, P (a.val : Int)) : P (p % 8) := by
  have h1 : 0 ≤ p % 8 ∧ p % 8 < 8 := ⟨Int.emod_nonneg _ (by decide), Int.emod_lt_of_pos _ (by decide)⟩
  have h2 := h ⟨(p % 8).toNat, by omega⟩
  have h3 : ((⟨(p % 8).toNat, by omega⟩ : Fin 8).val : Int) = p % 8 := by show (((p % 8).toNat : Nat) : Int) = p % 8; omega
  rwa [h3] at h2
theorem fin16 {p : Int} (hp : 0 ≤ p ∧ p ≤ 15) (P : Int → Prop) (h : ∀ a : Fin 16, P (a.val : Int)) : P p := by
  have h2 := h ⟨p.toNat, by omega⟩
  have h3 : ((⟨p.toNat, by omega⟩ : Fin 16).val : Int) = p := by show ((p.toNat : Nat) : Int) = p; omega
  rwa [h3] at h2
theorem two_or (p q : Int) : bitsOf .or .i64 (bitsOf .or .i64 192 (p % 8 * 8)) (q % 8) = twoN p q := by
  unfold twoN
  exact fin8 (fun a => bitsOf .or .i64 (bitsOf .or .i64 192 (a * 8)) (q % 8) = 192 + a * 8 + q % 8) (fun a => fin8 (fun b => bitsOf .or .i64 (bitsOf .or .i64 192 ((a.val : Int) * 8)) b = 192 + (a.val : Int) * 8 + b) ((by decide : ∀ a b : Fin 8, bitsOf .or .i64 (bitsOf .or .i64 192 ((a.val : Int) * 8)) (b.val : Int) = 192 + (a.val : Int) * 8 + (b.val : Int)) a))
theorem mem_or (p q : Int) : bitsOf .or .i64 (bitsOf .or .i64 128 (p % 8 * 8)) (q % 8) = memN p q := by
  unfold memN
  exact fin8 (fun a => bitsOf .or .i64 (bitsOf .or .i64 128 (a * 8)) (q % 8) = 128 + a * 8 + q % 8) (fun a => fin8 (fun b => bitsOf .or .i64 (bitsOf .or .i64 128 ((a.val : Int) * 8)) b = 128 + (a.val : Int) * 8 + b) ((by decide : ∀ a b : Fin 8, bitsOf .or .i64 (bitsOf .or .i64 128 ((a.val : Int) * 8)) (b.val : Int) = 128 + (a.val : Int) * 8 + (b.val : Int)) a))
theorem or_cond (c : Int) (hc : 0 ≤ c ∧ c ≤ 15) : bitsOf .or .i64 112 c = 112 + c ∧ bitsOf .or .i64 128 c = 128 + c ∧ bitsOf .or .i64 144 c = 144 + c ∧ bitsOf .or .i64 64 c = 64 + c :=
  fin16 hc (fun c => bitsOf .or .i64 112 c = 112 + c ∧ bitsOf .or .i64 128 c = 128 + c ∧ bitsOf .or .i64 144 c = 144 + c ∧ bitsOf .or .i64 64 c = 64 + c) (by decide)
theorem or_reg (c : Int) : bitsOf .or .i64 80 (c % 8) = 80 + c % 8 ∧ bitsOf .or .i64 88 (c % 8) = 88 + c % 8 ∧ bitsOf .or .i64 184 (c % 8) = 184 + c % 8 :=
  fin8 (fun c => bitsOf .or .i64 80 c = 80 + c ∧ bitsOf .or .i64 88 c = 88 + c ∧ bitsOf .or .i64 184 c = 184 + c) (by decide)
theorem byteOf_and (n : Int) : byteOf (bitsOf .and .i64 n 255) = byteOf n := by
  unfold byteOf
  congr 2
  show (IntKind.i64.wrap _) % 256 = n % 256
  have h1 : ((BitVec.ofInt 64 n &&& BitVec.ofInt 64 255).toNat : Int) = n % 256 := by
    have e : BitVec.ofInt 64 255 = 255#64 := by decide
    rw [e, BitVec.toNat_and, BitVec.toNat_ofInt]
    have : (255#64).toNat = 2 ^ 8 - 1 := by decide
    rw [this, Nat.and_two_pow_sub_one_eq_mod]
    omega
  show (IntKind.i64.wrap ((BitVec.ofInt 64 n &&& BitVec.ofInt 64 255).toNat : Int)) % 256 = n % 256
  rw [h1]
  have h2 : IntKind.i64.wrap (n % 256) = n % 256 := IntWalk.i64_in _ ⟨by omega, by omega⟩
  rw [h2]; omega
def immF (n : Int) (k : Nat) : List UInt8 := leBytes k n
theorem immF_succ (n : Int) (k : Nat) : immF n (k + 1) = immF n k ++ [byteOf (n / 256 ^ k)] := leBytes_succ k n
def putF (l : List Int) : List UInt8 := l.map byteOf
def opTab : List (Int × Int) := [(255, 4), (137, 0), (255, 4), (255, 4), (255, 4), (255, 4), (1, 0), (9, 0), (17, 0), (25, 0), (33, 0), (41, 0), (49, 0), (57, 0), (133, 0), (129, 0), (129, 1), (129, 4), (129, 5), (129, 6), (129, 7), (255, 4), (247, 4), (247, 6), (247, 3), (247, 2), (211, 4), (211, 5), (211, 7), (193, 4), (193, 5), (193, 7), (255, 4), (255, 4), (255, 4), (255, 4), (255, 4), (255, 4), (255, 2)]
def opF (k : Int) : Int × Int := if 1 ≤ k ∧ k ≤ 38 then opTab.getD k.toNat (255, 4) else (255, 4)
theorem op_out {k : Int} (h : ¬ (k = 1 ∨ 6 ≤ k ∧ k ≤ 20 ∨ 22 ≤ k ∧ k ≤ 31 ∨ k = 38)) : opF k = (255, 4) := by
  unfold opF
  split
  · have h1 : k = 2 ∨ k = 3 ∨ k = 4 ∨ k = 5 ∨ k = 21 ∨ k = 32 ∨ k = 33 ∨ k = 34 ∨ k = 35 ∨ k = 36 ∨ k = 37 := by omega
    rcases h1 with h1 | h1 | h1 | h1 | h1 | h1 | h1 | h1 | h1 | h1 | h1 <;> rw [h1] <;> rfl
  · rfl
def memF (p q n : Int) : List UInt8 := byteOf (memN p q) :: (if q % 8 = 4 then [36] else []) ++ immF n 4
def memoryF (i : Ins) : List UInt8 :=
  if i.kind = 5 then byteOf (rexN true i.d i.s) :: 141 :: memF i.d i.s i.imm
  else if i.kind = 3 ∧ i.size = 1 then byteOf (rexN true i.d i.s) :: 15 :: 182 :: memF i.d i.s i.imm
  else if i.kind = 3 then byteOf (rexN (decide (i.size = 8)) i.d i.s) :: 139 :: memF i.d i.s i.imm
  else if i.size = 1 then byteOf (rexN false i.s i.d) :: 136 :: memF i.s i.d i.imm
  else byteOf (rexN (decide (i.size = 8)) i.s i.d) :: 137 :: memF i.s i.d i.imm
def jumpF (i : Ins) : List UInt8 :=
  if i.kind = 37 then 232 :: immF i.imm 4
  else if i.kind = 35 ∧ i.size = 1 then 235 :: immF i.imm 1
  else if i.kind = 35 then 233 :: immF i.imm 4
  else if i.size = 1 then byteOf (112 + i.cond) :: immF i.imm 1
  else 15 :: byteOf (128 + i.cond) :: immF i.imm 4
def farF (i : Ins) : List UInt8 :=
  if i.kind = 21 then [byteOf (rexN true i.d i.s), 15, 175, byteOf (twoN i.d i.s)]
  else if i.kind = 32 then [byteOf (rexN false 0 i.d), 15, byteOf (144 + i.cond), byteOf (twoN 0 i.d)]
  else if i.kind = 33 then [byteOf (rexN true i.d i.s), 15, 182, byteOf (twoN i.d i.s)]
  else if i.kind = 34 then [byteOf (rexN true i.d i.s), 15, byteOf (64 + i.cond), byteOf (twoN i.d i.s)]
  else if i.kind = 45 then [102, byteOf (rexN true i.d i.s), 15, 110, byteOf (twoN i.d i.s)]
  else if i.kind = 46 then [102, byteOf (rexN true i.s i.d), 15, 126, byteOf (twoN i.s i.d)]
  else if i.kind = 47 then [242, byteOf (rexN false i.d i.s), 15, 88, byteOf (twoN i.d i.s)]
  else if i.kind = 48 then [242, byteOf (rexN false i.d i.s), 15, 89, byteOf (twoN i.d i.s)]
  else if i.kind = 49 then [242, byteOf (rexN false i.d i.s), 15, 92, byteOf (twoN i.d i.s)]
  else if i.kind = 50 then [242, byteOf (rexN false i.d i.s), 15, 94, byteOf (twoN i.d i.s)]
  else if i.kind = 51 then [102, byteOf (rexN false i.d i.s), 15, 46, byteOf (twoN i.d i.s)]
  else if i.kind = 52 then [242, byteOf (rexN true i.d i.s), 15, 42, byteOf (twoN i.d i.s)]
  else []
def cls : List Nat := [8, 0, 5, 6, 6, 6, 0, 0, 0, 0, 0, 0, 0, 0, 0, 1, 1, 1, 1, 1, 1, 8, 2, 2, 2, 2, 2, 2, 2, 3, 3, 3, 8, 8, 8, 7, 7, 7, 4, 4, 11, 9, 10, 12, 13]
def clsF (k : Int) : Nat := if 1 ≤ k ∧ k ≤ 44 then cls.getD k.toNat 8 else 8
def encF (i : Ins) : List UInt8 :=
  match clsF i.kind with
  | 0 => [byteOf (rexN true i.s i.d), byteOf (opF i.kind).1, byteOf (twoN i.s i.d)]
  | 1 => byteOf (rexN true 0 i.d) :: byteOf (opF i.kind).1 :: byteOf (twoN (opF i.kind).2 i.d) :: immF i.imm 4
  | 2 => [byteOf (rexN true 0 i.d), byteOf (opF i.kind).1, byteOf (twoN (opF i.kind).2 i.d)]
  | 3 => byteOf (rexN true 0 i.d) :: byteOf (opF i.kind).1 :: byteOf (twoN (opF i.kind).2 i.d) :: immF i.imm 1
  | 4 => [byteOf (rexN false 0 i.d), byteOf (opF i.kind).1, byteOf (twoN (opF i.kind).2 i.d)]
  | 5 => if smallF i.imm = true then byteOf (rexN true 0 i.d) :: 199 :: byteOf (twoN 0 i.d) :: immF i.imm 4 else byteOf (rexN true 0 i.d) :: byteOf (184 + i.d % 8) :: immF i.imm 8
  | 6 => memoryF i
  | 7 => jumpF i
  | 8 => farF i
  | 9 => [byteOf (rexN false 0 i.d), byteOf (80 + i.d % 8)]
  | 10 => [byteOf (rexN false 0 i.d), byteOf (88 + i.d % 8)]
  | 11 => [195]
  | 12 => [15, 5]
  | _ => [15, 11]
theorem cls_far {i : Ins} (h : ¬ (i.kind = 1 ∨ 2 ≤ i.kind ∧ i.kind ≤ 20 ∨ 22 ≤ i.kind ∧ i.kind ≤ 31 ∨ 35 ≤ i.kind ∧ i.kind ≤ 44)) : encF i = farF i := by
  unfold encF clsF
  have hc : (if 1 ≤ i.kind ∧ i.kind ≤ 44 then cls.getD i.kind.toNat 8 else 8) = 8 := by
    split
    · have h1 : i.kind = 21 ∨ i.kind = 32 ∨ i.kind = 33 ∨ i.kind = 34 := by omega
      rcases h1 with h1 | h1 | h1 | h1 <;> rw [h1] <;> rfl
    · rfl
  rw [hc]
  rfl
end Go.Proofs.YtjndpakhmgapjaaDoor
