/-
  TEXTS JOINED: Wd, Wk1, Aw21, Aw22, Aw24, Aw26, Aw27, Aw28, Wn, Wk3, Wk4, Ws, Aw29, Wt, Wu, Wk6, Aw30, Wv, Wk7, Wx, Wk8.
-/
import Derived.OrdersHeld
import Derived.Scope
import Derived.Maps.RangeRun
import Derived.Test.YtlfklgganokgdaaSa
set_option linter.unusedSimpArgs false
set_option linter.unusedVariables false
set_option linter.unusedSectionVars false
set_option linter.unnecessarySimpa false
namespace Go.Proofs.Ytlfklgganokgdaa
open Go Go.RowKit
structure Ins where
 kind : Int
 d : Int
 a : Int
 b : Int
 l : Int
 f : Int
 cond : Int
 real : Int
 size : Int
 imm : Int
 args : List Int
 deriving Inhabited
structure Fn where
 name : List UInt8
 params : Int
 regs : Int
 slots : Int
 code : List Ins
 deriving Inhabited
structure Prog where
 funs : List Fn
 data : List UInt8
 zero : Int
 deriving Inhabited
def zi (z : Int) : T := .v (.int .i64 z)
def bv (b : Bool) : T := .v (.bool b)
def insCells (i : Ins) : List T := [zi i.kind, zi i.d, zi i.a, zi i.b, zi i.l, zi i.f, zi i.cond, zi i.real, zi i.size, zi i.imm, .sl 1 (i.args.map zi)]
def fnCells (f : Fn) : List T := [sv f.name, zi f.params, zi f.regs, zi f.slots, .sl 11 (f.code.flatMap insCells)]
def progCells (p : Prog) : List T := [.sl 5 (p.funs.flatMap fnCells), .sl 1 (p.data.map u8), zi p.zero]
theorem ik (i : Ins) : (insCells i).length = 11 := rfl
theorem fk (f : Fn) : (fnCells f).length = 5 := rfl
structure Has where
 d : Bool
 a : Bool
 b : Bool
 args : Bool
 cond : Bool
 size : Bool
 l : Bool
 f : Bool
 deriving Inhabited, DecidableEq
def hasCells (h : Has) : List T := [bv h.d, bv h.a, bv h.b, bv h.args, bv h.cond, bv h.size, bv h.l, bv h.f]
def has0 : Has := ⟨false, false, false, false, false, false, false, false⟩
def ofF (k : Int) : Option Has :=
 if ((k = 1 ∨ k = 27) ∨ k = 29) ∨ k = 31 then some { has0 with d := true }
 else if k = 2 then some { has0 with d := true, a := true }
 else if (3 ≤ k ∧ k ≤ 14) ∨ k = 16 then some { has0 with d := true, a := true, b := true }
 else if k = 15 then some { has0 with d := true, a := true, b := true, cond := true }
 else if k = 17 then some { has0 with d := true, a := true, size := true }
 else if k = 18 then some { has0 with a := true, b := true, size := true }
 else if k = 19 ∨ k = 20 then some { has0 with l := true }
 else if k = 21 then some { has0 with a := true, b := true, cond := true, l := true }
 else if k = 22 then some { has0 with d := true, f := true, args := true }
 else if k = 23 then some { has0 with d := true, a := true, args := true }
 else if k = 24 then some { has0 with f := true, args := true }
 else if k = 25 then some { has0 with a := true, args := true }
 else if k = 26 ∨ k = 32 then some { has0 with a := true }
 else if k = 28 then some { has0 with d := true, f := true }
 else if k = 30 then some { has0 with d := true, args := true }
 else none
def hasF (k : Int) : Has := (ofF k).getD has0
def isF (k : Int) : Bool := (ofF k).isSome
def endsF (k : Int) : Bool := ((decide (k = 20) || decide (k = 24)) || decide (k = 25)) || decide (k = 26)
/-! ### maps of labels -/
abbrev LM := List (Int × Int)
def lmT (m : LM) : List (Key × T) := m.map fun e => (.i .i64 e.1, zi e.2)
def getL (k : Int) : LM → Int
 | [] => 0
 | e :: r => if e.1 = k then e.2 else getL k r
def putL (k v : Int) : LM → LM
 | [] => [(k, v)]
 | e :: r => if e.1 = k then (k, v) :: r else e :: putL k v r
theorem get_lm (k : Int) : ∀ m : LM, (getK (.i .i64 k) (lmT m)).getD (zi 0) = zi (getL k m)
 | [] => rfl
 | e :: r => by
  have ih := get_lm k r
  by_cases h : e.1 = k
  ·rw [getL, if_pos h]
   show (getK _ ((_, _) :: _)).getD _ = _
   rw [getK, if_pos (by simp [h])]; rfl
  ·rw [getL, if_neg h, ← ih]
   show (getK _ ((_, _) :: _)).getD _ = _
   rw [getK, if_neg (by simp [h])]; rfl
theorem put_lm (k v : Int) : ∀ m : LM, putK (.i .i64 k) (zi v) (lmT m) = lmT (putL k v m)
 | [] => rfl
 | e :: r => by
  have ih := put_lm k v r
  by_cases h : e.1 = k
  ·rw [putL, if_pos h]
   show putK _ _ ((_, _) :: _) = _
   rw [putK, if_pos (by simp [h])]; rfl
  ·rw [putL, if_neg h]
   show putK _ _ ((_, _) :: _) = _
   rw [putK, if_neg (by simp [h]), show putK (.i .i64 k) (zi v) (r.map fun e => (Key.i .i64 e.1, zi e.2)) = lmT (putL k v r) from ih]; rfl
theorem lm_good (m : LM) (dd : TypeDesc) (h : dd = .int .i64) : ∀ e ∈ lmT m, goodK dd e.1 = true := by
 subst h
 intro e he
 obtain ⟨x, _, rfl⟩ := List.mem_map.1 he
 rfl
def cntStep (m : LM) (i : Ins) : LM := if i.kind = 19 then putL i.l (getL i.l m + 1) m else m
def cntL (code : List Ins) : LM := code.foldl cntStep []
def whStep (m : LM) (e : Ins × Nat) : LM := if e.1.kind = 19 then putL e.1.l (e.2 : Int) m else m
def whL (code : List Ins) : LM := code.zipIdx.foldl whStep []
theorem gd {α : Type} [Inhabited α] {l : List α} {j : Nat} (h : j < l.length) : l.getD j default = l[j] := by simp [h]
theorem take_gd {α : Type} [Inhabited α] {l : List α} {j : Nat} (h : j < l.length) : l.take (j + 1) = l.take j ++ [l.getD j default] := by
 rw [List.take_succ_eq_append_getElem h, gd h]
theorem cnt_succ {code : List Ins} {j : Nat} (h : j < code.length) : cntL (code.take (j + 1)) = cntStep (cntL (code.take j)) (code.getD j default) := by
 unfold cntL
 rw [take_gd h, List.foldl_append]
 rfl
def whT (code : List Ins) (j : Nat) : LM := (code.zipIdx.take j).foldl whStep []
theorem wh_succ {code : List Ins} {j : Nat} (h : j < code.length) : whT code (j + 1) = whStep (whT code j) (code.getD j default, j) := by
 unfold whT
 rw [List.take_succ_eq_append_getElem (by simpa using h), List.foldl_append, gd h]
 simp
theorem wh_all {code : List Ins} {j : Nat} (h : code.length ≤ j) : whT code j = whL code := by
 unfold whT whL
 rw [List.take_of_length_le (by simpa using h)]
/-! ### cells of programs -/
theorem len_flat {α : Type} {f : α → List T} {k : Nat} (hk : ∀ a, (f a).length = k) : ∀ (l : List α), (l.flatMap f).length = l.length * k
 | [] => by simp
 | a :: r => by rw [List.flatMap_cons, List.length_append, hk, len_flat hk r, List.length_cons, Nat.add_mul]; omega
theorem drop_flat {α : Type} {f : α → List T} {k : Nat} (hk : ∀ a, (f a).length = k) : ∀ (l : List α) (j : Nat), (l.flatMap f).drop (j * k) = (l.drop j).flatMap f
 | [], j => by simp
 | a :: r, 0 => by simp
 | a :: r, j + 1 => by
  rw [List.flatMap_cons, Nat.add_mul, Nat.one_mul, Nat.add_comm, List.drop_append, List.drop_of_length_le (by rw [hk]; omega), hk, List.nil_append, Nat.add_sub_cancel_left, drop_flat hk r j]
  rfl
theorem flat_at {α : Type} [Inhabited α] {f : α → List T} {k : Nat} (hk : ∀ a, (f a).length = k) {l : List α} {j : Nat} (h : j < l.length) (i : Nat) (hi : i < k) : (l.flatMap f)[j * k + i]? = (f (l.getD j default))[i]? := by
 rw [← List.getElem?_drop, drop_flat hk, List.drop_eq_getElem_cons h, List.flatMap_cons, gd h, List.getElem?_append_left (by rw [hk]; exact hi)]
theorem flat_cells {α : Type} [Inhabited α] {f : α → List T} {k : Nat} (hk : ∀ a, (f a).length = k) {l : List α} {j : Nat} (h : j < l.length) : ((l.flatMap f).drop (j * k)).take k = f (l.getD j default) := by
 rw [drop_flat hk, List.drop_eq_getElem_cons h, List.flatMap_cons, gd h, List.take_left' (hk _)]
theorem len_code {l : List Ins} : (l.flatMap insCells).length = l.length * 11 := len_flat ik l
theorem len_funs {l : List Fn} : (l.flatMap fnCells).length = l.length * 5 := len_flat fk l
theorem len_args {l : List Int} : (l.map zi).length = l.length * 1 := by simp
theorem len_data {l : List UInt8} : (l.map u8).length = l.length * 1 := by simp
theorem ikind_at {l : List Ins} {j : Nat} (h : j < l.length) : (l.flatMap insCells)[j * 11 + 0]? = some (zi (l.getD j default).kind) := flat_at ik h 0 (by decide)
theorem ins_cells {l : List Ins} {j : Nat} (h : j < l.length) : ((l.flatMap insCells).drop (j * 11)).take 11 = insCells (l.getD j default) ∧ (insCells (l.getD j default)).length = 11 := ⟨flat_cells ik h, rfl⟩
theorem fn_cells {l : List Fn} {j : Nat} (h : j < l.length) : ((l.flatMap fnCells).drop (j * 5)).take 5 = fnCells (l.getD j default) ∧ (fnCells (l.getD j default)).length = 5 := ⟨flat_cells fk h, rfl⟩
theorem fpar_at {l : List Fn} {j : Nat} (h : j < l.length) : (l.flatMap fnCells)[j * 5 + 1]? = some (zi (l.getD j default).params) := flat_at fk h 1 (by decide)
theorem fcode_at {l : List Fn} {j : Nat} (h : j < l.length) : (l.flatMap fnCells)[j * 5 + 4]? = some (.sl 11 ((l.getD j default).code.flatMap insCells)) := flat_at fk h 4 (by decide)
theorem arg_at {l : List Int} {j : Nat} (h : j < l.length) : (l.map zi)[j * 1 + 0]? = some (zi (l.getD j default)) := by
 rw [Nat.mul_one, Nat.add_zero, List.getElem?_map, List.getElem?_eq_getElem h, gd h]; rfl
theorem getL_put (k v k' : Int) : ∀ m : LM, getL k' (putL k v m) = if k' = k then v else getL k' m
 | [] => by
  simp only [putL, getL]
  by_cases h : k = k'
  ·rw [if_pos h, if_pos h.symm]
  ·rw [if_neg h, if_neg (fun e => h e.symm)]
 | e :: r => by
  have ih := getL_put k v k' r
  simp only [putL]
  by_cases h : e.1 = k
  ·rw [if_pos h]
   simp only [getL]
   by_cases h2 : k = k'
   ·rw [if_pos h2, if_pos h2.symm]
   ·rw [if_neg h2, if_neg (fun e => h2 e.symm), if_neg (fun e' => h2 (h ▸ e'))]
  ·rw [if_neg h]
   simp only [getL]
   by_cases h2 : e.1 = k'
   ·rw [if_pos h2, if_neg (fun e' => h (h2.trans e')), if_pos h2]
   ·rw [if_neg h2, ih, if_neg h2]
theorem cnt_bd : ∀ (code : List Ins) (l : Int), 0 ≤ getL l (cntL code) ∧ getL l (cntL code) ≤ code.length := by
 have key : ∀ (code : List Ins) (m : LM) (n : Nat), (∀ l, 0 ≤ getL l m ∧ getL l m ≤ n) → ∀ l, 0 ≤ getL l (code.foldl cntStep m) ∧ getL l (code.foldl cntStep m) ≤ n + code.length := by
  intro code
  induction code with
  | nil => intro m n h l; simpa using h l
  | cons i r ih =>
   intro m n h l
   have h2 : ∀ l, 0 ≤ getL l (cntStep m i) ∧ getL l (cntStep m i) ≤ (n + 1 : Nat) := fun l => by
    unfold cntStep
    split
    ·rw [getL_put]
     split
     ·have := h i.l; omega
     ·have := h l; omega
    ·have := h l; omega
   have h3 := ih _ (n + 1) h2 l
   rw [List.foldl_cons, List.length_cons]
   omega
 intro code l
 have := key code [] 0 (fun l => by simp [getL]) l
 unfold cntL
 omega
/-! ### which instructions may be -/
def badRB (h : Has) (regs : Int) (i : Ins) : Bool := ((h.d && (decide (i.d < 0) || decide (regs ≤ i.d))) || (h.a && (decide (i.a < 0) || decide (regs ≤ i.a)))) || (h.b && (decide (i.b < 0) || decide (regs ≤ i.b)))
def badCB (h : Has) (i : Ins) : Bool := (h.cond && (decide (i.cond < 1) || decide (6 < i.cond))) || (((h.size && !decide (i.size = 1)) && !decide (i.size = 4)) && !decide (i.size = 8))
def badLB (h : Has) (nf : Int) (many : LM) (i : Ins) : Bool := (h.l && !decide (getL i.l many = 1)) || (h.f && (decide (i.f < 0) || decide (nf ≤ i.f)))
def outB (regs a : Int) : Bool := decide (a < 0) || decide (regs ≤ a)
def badAB (h : Has) (regs : Int) (i : Ins) : Bool := h.args && i.args.any (outB regs)
def mostF (k : Int) : Int := if k = 30 then 3 else 4
def parF (p : Prog) (f : Int) : Int := (p.funs.getD f.toNat default).params
def badNB (h : Has) (p : Prog) (i : Ins) : Bool := (h.args && decide (mostF i.kind < i.args.length)) || ((h.args && h.f) && !decide ((i.args.length : Int) = parF p i.f))
def restB (p : Prog) (slots : Int) (i : Ins) : Bool :=
 if i.kind = 16 then decide (1 ≤ i.real) && decide (i.real ≤ 8)
 else if i.kind = 17 ∨ i.kind = 18 then decide (-2147483648 ≤ i.imm) && decide (i.imm ≤ 2147483647)
 else if i.kind = 27 then decide (0 ≤ i.imm) && decide (i.imm ≤ p.data.length + p.zero)
 else if i.kind = 31 ∨ i.kind = 32 then decide (0 ≤ i.imm) && decide (i.imm < slots)
 else true
def mayR (p : Prog) (f : Fn) (many : LM) (i : Ins) : Bool :=
 if isF i.kind = false then false else if badRB (hasF i.kind) f.regs i = true then false else if badCB (hasF i.kind) i = true then false else if badLB (hasF i.kind) p.funs.length many i = true then false
 else if badAB (hasF i.kind) f.regs i = true then false else if badNB (hasF i.kind) p i = true then false else restB p f.slots i
section
variable {p : Prog} {f : Fn} {many : LM} {i : Ins}
theorem may_0 (h : (!isF i.kind) = true) : mayR p f many i = false := by
 rw [Bool.not_eq_true'] at h
 rw [mayR, if_pos h]
theorem may_1 (h0 : (!isF i.kind) = false) (h : badRB (hasF i.kind) f.regs i = true) : mayR p f many i = false := by
 rw [Bool.not_eq_false'] at h0
 rw [mayR, if_neg (by rw [h0]; decide), if_pos h]
theorem may_2 (h0 : (!isF i.kind) = false) (h1 : badRB (hasF i.kind) f.regs i = false) (h : badCB (hasF i.kind) i = true) : mayR p f many i = false := by
 rw [Bool.not_eq_false'] at h0
 rw [mayR, if_neg (by rw [h0]; decide), if_neg (by rw [h1]; decide), if_pos h]
theorem may_3 (h0 : (!isF i.kind) = false) (h1 : badRB (hasF i.kind) f.regs i = false) (h2 : badCB (hasF i.kind) i = false) (h : badLB (hasF i.kind) p.funs.length many i = true) : mayR p f many i = false := by
 rw [Bool.not_eq_false'] at h0
 rw [mayR, if_neg (by rw [h0]; decide), if_neg (by rw [h1]; decide), if_neg (by rw [h2]; decide), if_pos h]
theorem may_4 (h0 : (!isF i.kind) = false) (h1 : badRB (hasF i.kind) f.regs i = false) (h2 : badCB (hasF i.kind) i = false) (h3 : badLB (hasF i.kind) p.funs.length many i = false) (h : badAB (hasF i.kind) f.regs i = true) : mayR p f many i = false := by
 rw [Bool.not_eq_false'] at h0
 rw [mayR, if_neg (by rw [h0]; decide), if_neg (by rw [h1]; decide), if_neg (by rw [h2]; decide), if_neg (by rw [h3]; decide), if_pos h]
theorem may_5 (h0 : (!isF i.kind) = false) (h1 : badRB (hasF i.kind) f.regs i = false) (h2 : badCB (hasF i.kind) i = false) (h3 : badLB (hasF i.kind) p.funs.length many i = false) (h4 : badAB (hasF i.kind) f.regs i = false) (h : badNB (hasF i.kind) p i = true) : mayR p f many i = false := by
 rw [Bool.not_eq_false'] at h0
 rw [mayR, if_neg (by rw [h0]; decide), if_neg (by rw [h1]; decide), if_neg (by rw [h2]; decide), if_neg (by rw [h3]; decide), if_neg (by rw [h4]; decide), if_pos h]
theorem may_6 (h0 : (!isF i.kind) = false) (h1 : badRB (hasF i.kind) f.regs i = false) (h2 : badCB (hasF i.kind) i = false) (h3 : badLB (hasF i.kind) p.funs.length many i = false) (h4 : badAB (hasF i.kind) f.regs i = false) (h : badNB (hasF i.kind) p i = false) : mayR p f many i = restB p f.slots i := by
 rw [Bool.not_eq_false'] at h0
 rw [mayR, if_neg (by rw [h0]; decide), if_neg (by rw [h1]; decide), if_neg (by rw [h2]; decide), if_neg (by rw [h3]; decide), if_neg (by rw [h4]; decide), if_neg (by rw [h]; decide)]
end
theorem lb_lt {h : Has} {n : Nat} {many : LM} {i : Ins} (hb : badLB h n many i = false) (hf : h.f = true) : 0 ≤ i.f ∧ i.f.toNat < n := by
 unfold badLB at hb
 rw [hf, Bool.true_and, Bool.or_eq_false_iff, Bool.or_eq_false_iff, decide_eq_false_iff_not, decide_eq_false_iff_not] at hb
 omega
def badPB (p : Prog) : Bool := (((decide ((p.funs.length : Int) = 0) || !decide ((p.funs.getD 0 default).params = 0)) || decide (p.zero < 0)) || decide (268435456 < p.zero)) || decide (268435456 - p.zero < p.data.length)
def sumC (p : Prog) (j : Nat) : Nat := ((p.funs.take j).map fun f => f.code.length).sum
theorem sumC_succ {p : Prog} {j : Nat} (h : j < p.funs.length) : sumC p (j + 1) = sumC p j + (p.funs.getD j default).code.length := by
 unfold sumC
 rw [take_gd h]
 simp
theorem sumC_le (p : Prog) (j : Nat) : sumC p j ≤ (p.funs.map fun f => f.code.length).sum := by
 unfold sumC
 conv => rhs; rw [← List.take_append_drop j p.funs]
 rw [List.map_append, List.sum_append]
 omega
def badFB (f : Fn) : Bool := ((((((decide (f.params < 0) || decide (4 < f.params)) || decide (f.regs < f.params)) || decide (65536 < f.regs)) || decide (f.slots < 0)) || decide (1048576 < f.slots)) || decide ((f.code.length : Int) = 0))
def lastK (f : Fn) : Int := (f.code.getD (f.code.length - 1) default).kind
def funR (p : Prog) (f : Fn) : Bool := !badFB f && endsF (lastK f) && f.code.all (mayR p f (cntL f.code))
def checkR (p : Prog) : Int :=
 if badPB p = true then 130 else if 4194304 < sumC p p.funs.length then 130 else if p.funs.all (funR p) then 0 else 130
theorem all_of {α : Type} [Inhabited α] {q : α → Bool} {l : List α} (h : ∀ k, k < l.length → q (l.getD k default) = true) : l.all q = true := by
 rw [List.all_eq_true]
 intro x hx
 obtain ⟨k, hk, rfl⟩ := List.mem_iff_getElem.1 hx
 rw [← gd hk]; exact h k hk
theorem not_all {α : Type} [Inhabited α] {q : α → Bool} {l : List α} {k : Nat} (hk : k < l.length) (h : q (l.getD k default) = false) : l.all q = false := by
 rw [List.all_eq_false]
 exact ⟨l[k], List.getElem_mem hk, by rw [← gd hk, h]; decide⟩
theorem any_at {α : Type} [Inhabited α] {q : α → Bool} {l : List α} {k : Nat} (hk : k < l.length) (h : q (l.getD k default) = true) : l.any q = true := by
 rw [List.any_eq_true]
 exact ⟨l[k], List.getElem_mem hk, by rw [← gd hk, h]⟩
theorem not_any {α : Type} [Inhabited α] {q : α → Bool} {l : List α} (h : ∀ k, k < l.length → q (l.getD k default) = false) : l.any q = false := by
 rw [List.any_eq_false]
 intro x hx
 obtain ⟨k, hk, rfl⟩ := List.mem_iff_getElem.1 hx
 rw [← gd hk, h k hk]; decide
structure InsIn (i : Ins) : Prop where
 imm0 : -9223372036854775808 ≤ i.imm
 imm1 : i.imm ≤ 9223372036854775807
 args : i.args.length ≤ 1048576
structure FnIn (f : Fn) : Prop where
 regs0 : -9223372036854775808 ≤ f.regs
 regs1 : f.regs ≤ 9223372036854775807
 code : f.code.length ≤ 1048576
 ins : ∀ i ∈ f.code, InsIn i
structure ProgIn (p : Prog) : Prop where
 funs : p.funs.length ≤ 1048576
 data : p.data.length ≤ 1048576
 fn : ∀ f ∈ p.funs, FnIn f
 all : (p.funs.map fun f => f.code.length).sum ≤ 1048576
 zero0 : -9223372036854775808 ≤ p.zero
 zero1 : p.zero ≤ 9223372036854775807
theorem getD_mem {α : Type} [Inhabited α] {l : List α} {j : Nat} (h : j < l.length) : l.getD j default ∈ l := by
 rw [gd h]; exact List.getElem_mem h
section
variable {p : Prog}
theorem pb_zero (h0 : badPB p = false) : 0 ≤ p.zero ∧ p.zero ≤ 268435456 := by
 unfold badPB at h0
 simp only [Bool.or_eq_false_iff, decide_eq_false_iff_not] at h0
 omega
theorem fun_1 {f : Fn} (h : badFB f = true) : funR p f = false := by rw [funR, h]; rfl
end
end Go.Proofs.Ytlfklgganokgdaa

namespace Go.Proofs.Ytlfklgganokgdaa
open Go Go.RowKit

set_option maxHeartbeats 4000000 in
theorem fields57 (k : Int) :
    ACalls Try.prog 57 [zi k] [] (fun t S => t = .tup [.agg (hasCells (hasF k)), bv (isF k)]) := by
 refine ACalls.intro Try.func57 rfl Try.ntmps57 nB rfl fun X w0 => ?_
 refine rs ?_
 refine AWL.allocOp rfl rfl (B rfl) rfl zc_122 (fun b2 => ?_)
 refine ya ?_
 refine AW.seq ?_
 refine rs (ym (nl ?_))
 refine AW.block ?_
 refine AW.seq ?_
 refine rs (Y1 (Yv.eql rfl eV eV) ?_)
 refine ya ?_
 refine AW.cond rfl (fun h0t => ?_) (fun h0f => ?_)
 ·try replace h0t := odt h0t
  refine AW.skip ?_
  refine AW.cond rfl (fun h1t => ?_) (fun h1f => ?_)
  ·try replace h1t := odt h1t
   refine rs (Y1 (Yv.buildS rfl sh_122 (evpC eV evp0) (fun _ => rfl)) ?_)
   refine AWL.storeBox (i := 0) rfl rfl rfl ag_122 rfl (E rfl rfl) (E rfl rfl) rfl rfl nB ?_
   refine ya ?_
   refine AW.ret (retI (.cellA (i := 0) rfl ag_122 rfl rfl rfl (.tmp rfl .nil)) ?_)
   rw [h0t]; rfl
  exfalso; replace h1f := odf h1f; omega
 try replace h0f := odf h0f
 refine rs (Y1 (Yv.eql rfl eV eV) ?_)
 refine ya ?_
 refine AW.cond rfl (fun h2t => ?_) (fun h2f => ?_)
 ·try replace h2t := odt h2t
  refine AW.skip ?_
  refine AW.cond rfl (fun h3t => ?_) (fun h3f => ?_)
  ·try replace h3t := odt h3t
   refine rs (Y1 (Yv.buildS rfl sh_122 (evpC eV evp0) (fun _ => rfl)) ?_)
   refine AWL.storeBox (i := 0) rfl rfl rfl ag_122 rfl (E rfl rfl) (E rfl rfl) rfl rfl nB ?_
   refine ya ?_
   refine AW.ret (retI (.cellA (i := 0) rfl ag_122 rfl rfl rfl (.tmp rfl .nil)) ?_)
   rw [h2t]; rfl
  exfalso; replace h3f := odf h3f; omega
 try replace h2f := odf h2f
 refine rs (Y1 (Yv.eql rfl eV eV) ?_)
 refine ya ?_
 refine AW.cond rfl (fun h4t => ?_) (fun h4f => ?_)
 ·try replace h4t := odt h4t
  refine AW.skip ?_
  refine AW.cond rfl (fun h5t => ?_) (fun h5f => ?_)
  ·try replace h5t := odt h5t
   refine rs (Y1 (Yv.buildS rfl sh_122 (evpC eV evp0) (fun _ => rfl)) ?_)
   refine AWL.storeBox (i := 0) rfl rfl rfl ag_122 rfl (E rfl rfl) (E rfl rfl) rfl rfl nB ?_
   refine ya ?_
   refine AW.ret (retI (.cellA (i := 0) rfl ag_122 rfl rfl rfl (.tmp rfl .nil)) ?_)
   rw [h4t]; rfl
  exfalso; replace h5f := odf h5f; omega
 try replace h4f := odf h4f
 refine AW.region ?_
 refine Y1 (Yv.eql rfl eV eV) ?_
 refine ya ?_
 refine AW.cond rfl (fun h6t => ?_) (fun h6f => ?_)
 ·try replace h6t := odt h6t
  refine rs (Y1 (Yv.buildS rfl sh_122 (evpC eV evp0) (fun _ => rfl)) ?_)
  refine AWL.storeBox (i := 0) rfl rfl rfl ag_122 rfl (E rfl rfl) (E rfl rfl) rfl rfl nB ?_
  refine ya ?_
  refine AW.ret (retI (.cellA (i := 0) rfl ag_122 rfl rfl rfl (.tmp rfl .nil)) ?_)
  rw [h6t]; rfl
 try replace h6f := odf h6f
 refine rs (Y1 (Yv.eql rfl eV eV) ?_)
 refine ya ?_
 refine AW.cond rfl (fun h7t => ?_) (fun h7f => ?_)
 ·try replace h7t := odt h7t
  refine rs (Y1 (Yv.buildS rfl sh_122 (evpC eV (evpC eV evp0)) (fun _ => rfl)) ?_)
  refine AWL.storeBox (i := 0) rfl rfl rfl ag_122 rfl (E rfl rfl) (E rfl rfl) rfl rfl nB ?_
  refine ya ?_
  refine AW.ret (retI (.cellA (i := 0) rfl ag_122 rfl rfl rfl (.tmp rfl .nil)) ?_)
  rw [h7t]; rfl
 try replace h7f := odf h7f
 refine AW.seq ?_
 refine rs (Y1 (Yv.eql rfl eV eV) ?_)
 refine ya ?_
 refine AW.cond rfl (fun h8t => ?_) (fun h8f => ?_)
 ·try replace h8t := odt h8t
  refine AW.skip ?_
  refine AW.cond rfl (fun h9t => ?_) (fun h9f => ?_)
  ·try replace h9t := odt h9t
   refine rs (Y1 (Yv.buildS rfl sh_122 (evpC eV (evpC eV (evpC eV evp0))) (fun _ => rfl)) ?_)
   refine AWL.storeBox (i := 0) rfl rfl rfl ag_122 rfl (E rfl rfl) (E rfl rfl) rfl rfl nB ?_
   refine ya ?_
   refine AW.ret (retI (.cellA (i := 0) rfl ag_122 rfl rfl rfl (.tmp rfl .nil)) ?_)
   rw [h8t]; rfl
  exfalso; replace h9f := odf h9f; omega
 try replace h8f := odf h8f
 refine rs (Y1 (Yv.eql rfl eV eV) ?_)
 refine ya ?_
 refine AW.cond rfl (fun h10t => ?_) (fun h10f => ?_)
 ·try replace h10t := odt h10t
  refine AW.skip ?_
  refine AW.cond rfl (fun h11t => ?_) (fun h11f => ?_)
  ·try replace h11t := odt h11t
   refine rs (Y1 (Yv.buildS rfl sh_122 (evpC eV (evpC eV (evpC eV evp0))) (fun _ => rfl)) ?_)
   refine AWL.storeBox (i := 0) rfl rfl rfl ag_122 rfl (E rfl rfl) (E rfl rfl) rfl rfl nB ?_
   refine ya ?_
   refine AW.ret (retI (.cellA (i := 0) rfl ag_122 rfl rfl rfl (.tmp rfl .nil)) ?_)
   rw [h10t]; rfl
  exfalso; replace h11f := odf h11f; omega
 try replace h10f := odf h10f
 refine rs (Y1 (Yv.eql rfl eV eV) ?_)
 refine ya ?_
 refine AW.cond rfl (fun h12t => ?_) (fun h12f => ?_)
 ·try replace h12t := odt h12t
  refine AW.skip ?_
  refine AW.cond rfl (fun h13t => ?_) (fun h13f => ?_)
  ·try replace h13t := odt h13t
   refine rs (Y1 (Yv.buildS rfl sh_122 (evpC eV (evpC eV (evpC eV evp0))) (fun _ => rfl)) ?_)
   refine AWL.storeBox (i := 0) rfl rfl rfl ag_122 rfl (E rfl rfl) (E rfl rfl) rfl rfl nB ?_
   refine ya ?_
   refine AW.ret (retI (.cellA (i := 0) rfl ag_122 rfl rfl rfl (.tmp rfl .nil)) ?_)
   rw [h12t]; rfl
  exfalso; replace h13f := odf h13f; omega
 try replace h12f := odf h12f
 refine rs (Y1 (Yv.eql rfl eV eV) ?_)
 refine ya ?_
 refine AW.cond rfl (fun h14t => ?_) (fun h14f => ?_)
 ·try replace h14t := odt h14t
  refine AW.skip ?_
  refine AW.cond rfl (fun h15t => ?_) (fun h15f => ?_)
  ·try replace h15t := odt h15t
   refine rs (Y1 (Yv.buildS rfl sh_122 (evpC eV (evpC eV (evpC eV evp0))) (fun _ => rfl)) ?_)
   refine AWL.storeBox (i := 0) rfl rfl rfl ag_122 rfl (E rfl rfl) (E rfl rfl) rfl rfl nB ?_
   refine ya ?_
   refine AW.ret (retI (.cellA (i := 0) rfl ag_122 rfl rfl rfl (.tmp rfl .nil)) ?_)
   rw [h14t]; rfl
  exfalso; replace h15f := odf h15f; omega
 try replace h14f := odf h14f
 refine rs (Y1 (Yv.eql rfl eV eV) ?_)
 refine ya ?_
 refine AW.cond rfl (fun h16t => ?_) (fun h16f => ?_)
 ·try replace h16t := odt h16t
  refine AW.skip ?_
  refine AW.cond rfl (fun h17t => ?_) (fun h17f => ?_)
  ·try replace h17t := odt h17t
   refine rs (Y1 (Yv.buildS rfl sh_122 (evpC eV (evpC eV (evpC eV evp0))) (fun _ => rfl)) ?_)
   refine AWL.storeBox (i := 0) rfl rfl rfl ag_122 rfl (E rfl rfl) (E rfl rfl) rfl rfl nB ?_
   refine ya ?_
   refine AW.ret (retI (.cellA (i := 0) rfl ag_122 rfl rfl rfl (.tmp rfl .nil)) ?_)
   rw [h16t]; rfl
  exfalso; replace h17f := odf h17f; omega
 try replace h16f := odf h16f
 refine rs (Y1 (Yv.eql rfl eV eV) ?_)
 refine ya ?_
 refine AW.cond rfl (fun h18t => ?_) (fun h18f => ?_)
 ·try replace h18t := odt h18t
  refine AW.skip ?_
  refine AW.cond rfl (fun h19t => ?_) (fun h19f => ?_)
  ·try replace h19t := odt h19t
   refine rs (Y1 (Yv.buildS rfl sh_122 (evpC eV (evpC eV (evpC eV evp0))) (fun _ => rfl)) ?_)
   refine AWL.storeBox (i := 0) rfl rfl rfl ag_122 rfl (E rfl rfl) (E rfl rfl) rfl rfl nB ?_
   refine ya ?_
   refine AW.ret (retI (.cellA (i := 0) rfl ag_122 rfl rfl rfl (.tmp rfl .nil)) ?_)
   rw [h18t]; rfl
  exfalso; replace h19f := odf h19f; omega
 try replace h18f := odf h18f
 refine rs (Y1 (Yv.eql rfl eV eV) ?_)
 refine ya ?_
 refine AW.cond rfl (fun h20t => ?_) (fun h20f => ?_)
 ·try replace h20t := odt h20t
  refine AW.skip ?_
  refine AW.cond rfl (fun h21t => ?_) (fun h21f => ?_)
  ·try replace h21t := odt h21t
   refine rs (Y1 (Yv.buildS rfl sh_122 (evpC eV (evpC eV (evpC eV evp0))) (fun _ => rfl)) ?_)
   refine AWL.storeBox (i := 0) rfl rfl rfl ag_122 rfl (E rfl rfl) (E rfl rfl) rfl rfl nB ?_
   refine ya ?_
   refine AW.ret (retI (.cellA (i := 0) rfl ag_122 rfl rfl rfl (.tmp rfl .nil)) ?_)
   rw [h20t]; rfl
  exfalso; replace h21f := odf h21f; omega
 try replace h20f := odf h20f
 refine rs (Y1 (Yv.eql rfl eV eV) ?_)
 refine ya ?_
 refine AW.cond rfl (fun h22t => ?_) (fun h22f => ?_)
 ·try replace h22t := odt h22t
  refine AW.skip ?_
  refine AW.cond rfl (fun h23t => ?_) (fun h23f => ?_)
  ·try replace h23t := odt h23t
   refine rs (Y1 (Yv.buildS rfl sh_122 (evpC eV (evpC eV (evpC eV evp0))) (fun _ => rfl)) ?_)
   refine AWL.storeBox (i := 0) rfl rfl rfl ag_122 rfl (E rfl rfl) (E rfl rfl) rfl rfl nB ?_
   refine ya ?_
   refine AW.ret (retI (.cellA (i := 0) rfl ag_122 rfl rfl rfl (.tmp rfl .nil)) ?_)
   rw [h22t]; rfl
  exfalso; replace h23f := odf h23f; omega
 try replace h22f := odf h22f
 refine rs (Y1 (Yv.eql rfl eV eV) ?_)
 refine ya ?_
 refine AW.cond rfl (fun h24t => ?_) (fun h24f => ?_)
 ·try replace h24t := odt h24t
  refine AW.skip ?_
  refine AW.cond rfl (fun h25t => ?_) (fun h25f => ?_)
  ·try replace h25t := odt h25t
   refine rs (Y1 (Yv.buildS rfl sh_122 (evpC eV (evpC eV (evpC eV evp0))) (fun _ => rfl)) ?_)
   refine AWL.storeBox (i := 0) rfl rfl rfl ag_122 rfl (E rfl rfl) (E rfl rfl) rfl rfl nB ?_
   refine ya ?_
   refine AW.ret (retI (.cellA (i := 0) rfl ag_122 rfl rfl rfl (.tmp rfl .nil)) ?_)
   rw [h24t]; rfl
  exfalso; replace h25f := odf h25f; omega
 try replace h24f := odf h24f
 refine rs (Y1 (Yv.eql rfl eV eV) ?_)
 refine ya ?_
 refine AW.cond rfl (fun h26t => ?_) (fun h26f => ?_)
 ·try replace h26t := odt h26t
  refine AW.skip ?_
  refine AW.cond rfl (fun h27t => ?_) (fun h27f => ?_)
  ·try replace h27t := odt h27t
   refine rs (Y1 (Yv.buildS rfl sh_122 (evpC eV (evpC eV (evpC eV evp0))) (fun _ => rfl)) ?_)
   refine AWL.storeBox (i := 0) rfl rfl rfl ag_122 rfl (E rfl rfl) (E rfl rfl) rfl rfl nB ?_
   refine ya ?_
   refine AW.ret (retI (.cellA (i := 0) rfl ag_122 rfl rfl rfl (.tmp rfl .nil)) ?_)
   rw [h26t]; rfl
  exfalso; replace h27f := odf h27f; omega
 try replace h26f := odf h26f
 refine rs (Y1 (Yv.eql rfl eV eV) ?_)
 refine ya ?_
 refine AW.cond rfl (fun h28t => ?_) (fun h28f => ?_)
 ·try replace h28t := odt h28t
  refine AW.skip ?_
  refine AW.cond rfl (fun h29t => ?_) (fun h29f => ?_)
  ·try replace h29t := odt h29t
   refine rs (Y1 (Yv.buildS rfl sh_122 (evpC eV (evpC eV (evpC eV evp0))) (fun _ => rfl)) ?_)
   refine AWL.storeBox (i := 0) rfl rfl rfl ag_122 rfl (E rfl rfl) (E rfl rfl) rfl rfl nB ?_
   refine ya ?_
   refine AW.ret (retI (.cellA (i := 0) rfl ag_122 rfl rfl rfl (.tmp rfl .nil)) ?_)
   rw [h28t]; rfl
  exfalso; replace h29f := odf h29f; omega
 try replace h28f := odf h28f
 refine rs (Y1 (Yv.eql rfl eV eV) ?_)
 refine ya ?_
 refine AW.cond rfl (fun h30t => ?_) (fun h30f => ?_)
 ·try replace h30t := odt h30t
  refine AW.skip ?_
  refine AW.cond rfl (fun h31t => ?_) (fun h31f => ?_)
  ·try replace h31t := odt h31t
   refine rs (Y1 (Yv.buildS rfl sh_122 (evpC eV (evpC eV (evpC eV evp0))) (fun _ => rfl)) ?_)
   refine AWL.storeBox (i := 0) rfl rfl rfl ag_122 rfl (E rfl rfl) (E rfl rfl) rfl rfl nB ?_
   refine ya ?_
   refine AW.ret (retI (.cellA (i := 0) rfl ag_122 rfl rfl rfl (.tmp rfl .nil)) ?_)
   rw [h30t]; rfl
  exfalso; replace h31f := odf h31f; omega
 try replace h30f := odf h30f
 refine AW.region ?_
 refine Y1 (Yv.eql rfl eV eV) ?_
 refine ya ?_
 refine AW.cond rfl (fun h32t => ?_) (fun h32f => ?_)
 ·try replace h32t := odt h32t
  refine rs (Y1 (Yv.buildS rfl sh_122 (evpC eV (evpC eV (evpC eV evp0))) (fun _ => rfl)) ?_)
  refine AWL.storeBox (i := 0) rfl rfl rfl ag_122 rfl (E rfl rfl) (E rfl rfl) rfl rfl nB ?_
  refine ya ?_
  refine AW.ret (retI (.cellA (i := 0) rfl ag_122 rfl rfl rfl (.tmp rfl .nil)) ?_)
  rw [h32t]; rfl
 try replace h32f := odf h32f
 refine rs (Y1 (Yv.eql rfl eV eV) ?_)
 refine ya ?_
 refine AW.cond rfl (fun h33t => ?_) (fun h33f => ?_)
 ·try replace h33t := odt h33t
  refine rs (Y1 (Yv.buildS rfl sh_122 (evpC eV (evpC eV (evpC eV (evpC eV evp0)))) (fun _ => rfl)) ?_)
  refine AWL.storeBox (i := 0) rfl rfl rfl ag_122 rfl (E rfl rfl) (E rfl rfl) rfl rfl nB ?_
  refine ya ?_
  refine AW.ret (retI (.cellA (i := 0) rfl ag_122 rfl rfl rfl (.tmp rfl .nil)) ?_)
  rw [h33t]; rfl
 try replace h33f := odf h33f
 refine rs (Y1 (Yv.eql rfl eV eV) ?_)
 refine ya ?_
 refine AW.cond rfl (fun h34t => ?_) (fun h34f => ?_)
 ·try replace h34t := odt h34t
  refine rs (Y1 (Yv.buildS rfl sh_122 (evpC eV (evpC eV (evpC eV evp0))) (fun _ => rfl)) ?_)
  refine AWL.storeBox (i := 0) rfl rfl rfl ag_122 rfl (E rfl rfl) (E rfl rfl) rfl rfl nB ?_
  refine ya ?_
  refine AW.ret (retI (.cellA (i := 0) rfl ag_122 rfl rfl rfl (.tmp rfl .nil)) ?_)
  rw [h34t]; rfl
 try replace h34f := odf h34f
 refine rs (Y1 (Yv.eql rfl eV eV) ?_)
 refine ya ?_
 refine AW.cond rfl (fun h35t => ?_) (fun h35f => ?_)
 ·try replace h35t := odt h35t
  refine rs (Y1 (Yv.buildS rfl sh_122 (evpC eV (evpC eV (evpC eV evp0))) (fun _ => rfl)) ?_)
  refine AWL.storeBox (i := 0) rfl rfl rfl ag_122 rfl (E rfl rfl) (E rfl rfl) rfl rfl nB ?_
  refine ya ?_
  refine AW.ret (retI (.cellA (i := 0) rfl ag_122 rfl rfl rfl (.tmp rfl .nil)) ?_)
  rw [h35t]; rfl
 try replace h35f := odf h35f
 refine AW.seq ?_
 refine rs (Y1 (Yv.eql rfl eV eV) ?_)
 refine ya ?_
 refine AW.cond rfl (fun h36t => ?_) (fun h36f => ?_)
 ·try replace h36t := odt h36t
  refine AW.skip ?_
  refine AW.cond rfl (fun h37t => ?_) (fun h37f => ?_)
  ·try replace h37t := odt h37t
   refine rs (Y1 (Yv.buildS rfl sh_122 (evpC eV evp0) (fun _ => rfl)) ?_)
   refine AWL.storeBox (i := 0) rfl rfl rfl ag_122 rfl (E rfl rfl) (E rfl rfl) rfl rfl nB ?_
   refine ya ?_
   refine AW.ret (retI (.cellA (i := 0) rfl ag_122 rfl rfl rfl (.tmp rfl .nil)) ?_)
   rw [h36t]; rfl
  exfalso; replace h37f := odf h37f; omega
 try replace h36f := odf h36f
 refine AW.region ?_
 refine Y1 (Yv.eql rfl eV eV) ?_
 refine ya ?_
 refine AW.cond rfl (fun h38t => ?_) (fun h38f => ?_)
 ·try replace h38t := odt h38t
  refine rs (Y1 (Yv.buildS rfl sh_122 (evpC eV evp0) (fun _ => rfl)) ?_)
  refine AWL.storeBox (i := 0) rfl rfl rfl ag_122 rfl (E rfl rfl) (E rfl rfl) rfl rfl nB ?_
  refine ya ?_
  refine AW.ret (retI (.cellA (i := 0) rfl ag_122 rfl rfl rfl (.tmp rfl .nil)) ?_)
  rw [h38t]; rfl
 try replace h38f := odf h38f
 refine rs (Y1 (Yv.eql rfl eV eV) ?_)
 refine ya ?_
 refine AW.cond rfl (fun h39t => ?_) (fun h39f => ?_)
 ·try replace h39t := odt h39t
  refine rs (Y1 (Yv.buildS rfl sh_122 (evpC eV (evpC eV (evpC eV (evpC eV evp0)))) (fun _ => rfl)) ?_)
  refine AWL.storeBox (i := 0) rfl rfl rfl ag_122 rfl (E rfl rfl) (E rfl rfl) rfl rfl nB ?_
  refine ya ?_
  refine AW.ret (retI (.cellA (i := 0) rfl ag_122 rfl rfl rfl (.tmp rfl .nil)) ?_)
  rw [h39t]; rfl
 try replace h39f := odf h39f
 refine rs (Y1 (Yv.eql rfl eV eV) ?_)
 refine ya ?_
 refine AW.cond rfl (fun h40t => ?_) (fun h40f => ?_)
 ·try replace h40t := odt h40t
  refine rs (Y1 (Yv.buildS rfl sh_122 (evpC eV (evpC eV (evpC eV evp0))) (fun _ => rfl)) ?_)
  refine AWL.storeBox (i := 0) rfl rfl rfl ag_122 rfl (E rfl rfl) (E rfl rfl) rfl rfl nB ?_
  refine ya ?_
  refine AW.ret (retI (.cellA (i := 0) rfl ag_122 rfl rfl rfl (.tmp rfl .nil)) ?_)
  rw [h40t]; rfl
 try replace h40f := odf h40f
 refine rs (Y1 (Yv.eql rfl eV eV) ?_)
 refine ya ?_
 refine AW.cond rfl (fun h41t => ?_) (fun h41f => ?_)
 ·try replace h41t := odt h41t
  refine rs (Y1 (Yv.buildS rfl sh_122 (evpC eV (evpC eV (evpC eV evp0))) (fun _ => rfl)) ?_)
  refine AWL.storeBox (i := 0) rfl rfl rfl ag_122 rfl (E rfl rfl) (E rfl rfl) rfl rfl nB ?_
  refine ya ?_
  refine AW.ret (retI (.cellA (i := 0) rfl ag_122 rfl rfl rfl (.tmp rfl .nil)) ?_)
  rw [h41t]; rfl
 try replace h41f := odf h41f
 refine rs (Y1 (Yv.eql rfl eV eV) ?_)
 refine ya ?_
 refine AW.cond rfl (fun h42t => ?_) (fun h42f => ?_)
 ·try replace h42t := odt h42t
  refine rs (Y1 (Yv.buildS rfl sh_122 (evpC eV (evpC eV evp0)) (fun _ => rfl)) ?_)
  refine AWL.storeBox (i := 0) rfl rfl rfl ag_122 rfl (E rfl rfl) (E rfl rfl) rfl rfl nB ?_
  refine ya ?_
  refine AW.ret (retI (.cellA (i := 0) rfl ag_122 rfl rfl rfl (.tmp rfl .nil)) ?_)
  rw [h42t]; rfl
 try replace h42f := odf h42f
 refine rs (Y1 (Yv.eql rfl eV eV) ?_)
 refine ya ?_
 refine AW.cond rfl (fun h43t => ?_) (fun h43f => ?_)
 ·try replace h43t := odt h43t
  refine rs (Y1 (Yv.buildS rfl sh_122 (evpC eV (evpC eV evp0)) (fun _ => rfl)) ?_)
  refine AWL.storeBox (i := 0) rfl rfl rfl ag_122 rfl (E rfl rfl) (E rfl rfl) rfl rfl nB ?_
  refine ya ?_
  refine AW.ret (retI (.cellA (i := 0) rfl ag_122 rfl rfl rfl (.tmp rfl .nil)) ?_)
  rw [h43t]; rfl
 try replace h43f := odf h43f
 refine AW.seq ?_
 refine rs (Y1 (Yv.eql rfl eV eV) ?_)
 refine ya ?_
 refine AW.cond rfl (fun h44t => ?_) (fun h44f => ?_)
 ·try replace h44t := odt h44t
  refine AW.skip ?_
  refine AW.cond rfl (fun h45t => ?_) (fun h45f => ?_)
  ·try replace h45t := odt h45t
   refine rs (Y1 (Yv.buildS rfl sh_122 (evpC eV evp0) (fun _ => rfl)) ?_)
   refine AWL.storeBox (i := 0) rfl rfl rfl ag_122 rfl (E rfl rfl) (E rfl rfl) rfl rfl nB ?_
   refine ya ?_
   refine AW.ret (retI (.cellA (i := 0) rfl ag_122 rfl rfl rfl (.tmp rfl .nil)) ?_)
   rw [h44t]; rfl
  exfalso; replace h45f := odf h45f; omega
 try replace h44f := odf h44f
 refine AW.region ?_
 refine Y1 (Yv.eql rfl eV eV) ?_
 refine ya ?_
 refine AW.cond rfl (fun h46t => ?_) (fun h46f => ?_)
 ·try replace h46t := odt h46t
  refine rs (Y1 (Yv.buildS rfl sh_122 (evpC eV evp0) (fun _ => rfl)) ?_)
  refine AWL.storeBox (i := 0) rfl rfl rfl ag_122 rfl (E rfl rfl) (E rfl rfl) rfl rfl nB ?_
  refine ya ?_
  refine AW.ret (retI (.cellA (i := 0) rfl ag_122 rfl rfl rfl (.tmp rfl .nil)) ?_)
  rw [h46t]; rfl
 try replace h46f := odf h46f
 refine rs (Y1 (Yv.eql rfl eV eV) ?_)
 refine ya ?_
 refine AW.cond rfl (fun h47t => ?_) (fun h47f => ?_)
 ·try replace h47t := odt h47t
  refine rs (Y1 (Yv.buildS rfl sh_122 (evpC eV (evpC eV evp0)) (fun _ => rfl)) ?_)
  refine AWL.storeBox (i := 0) rfl rfl rfl ag_122 rfl (E rfl rfl) (E rfl rfl) rfl rfl nB ?_
  refine ya ?_
  refine AW.ret (retI (.cellA (i := 0) rfl ag_122 rfl rfl rfl (.tmp rfl .nil)) ?_)
  rw [h47t]; rfl
 try replace h47f := odf h47f
 refine rs (Y1 (Yv.eql rfl eV eV) ?_)
 refine ya ?_
 refine AW.cond rfl (fun h48t => ?_) (fun h48f => ?_)
 ·try replace h48t := odt h48t
  refine rs (Y1 (Yv.buildS rfl sh_122 (evpC eV (evpC eV evp0)) (fun _ => rfl)) ?_)
  refine AWL.storeBox (i := 0) rfl rfl rfl ag_122 rfl (E rfl rfl) (E rfl rfl) rfl rfl nB ?_
  refine ya ?_
  refine AW.ret (retI (.cellA (i := 0) rfl ag_122 rfl rfl rfl (.tmp rfl .nil)) ?_)
  rw [h48t]; rfl
 try replace h48f := odf h48f
 refine AW.skip ?_
 refine rs (Y1 (Yv.buildS rfl sh_122 evp0 (fun _ => rfl)) ?_)
 refine AWL.storeBox (i := 0) rfl rfl rfl ag_122 rfl (E rfl rfl) (E rfl rfl) rfl rfl nB ?_
 refine ya ?_
 refine AW.ret (retI (.cellA (i := 0) rfl ag_122 rfl rfl rfl (.tmp rfl .nil)) ?_)
 unfold hasF isF ofF
 rw [if_neg (by omega), if_neg (by omega), if_neg (by omega), if_neg (by omega), if_neg (by omega), if_neg (by omega), if_neg (by omega), if_neg (by omega), if_neg (by omega), if_neg (by omega), if_neg (by omega), if_neg (by omega), if_neg (by omega), if_neg (by omega), if_neg (by omega)]
 rfl

set_option maxHeartbeats 400000 in
theorem ends34 (k : Int) :
    ACalls Try.prog 34 [zi k] [] (fun t S => t = bv (endsF k)) := by
 refine ACalls.intro Try.func34 rfl Try.ntmps34 nB rfl fun X w0 => ?_
 refine ra ?_
 refine rs (ym ?_)
 refine Y1 (Yv.eql rfl eV eV) ?_
 refine ym ?_
 refine gF (Yv.move rfl eV) ?_
 refine gF (Yv.eql rfl (Eg rfl rfl id) eV) ?_
 refine Y1 (Yv.pickOr (t := .const (.bool true)) rfl eV (Eg rfl rfl id)) ?_
 refine ym ?_
 refine gF (Yv.move rfl eV) ?_
 refine gF (Yv.eql rfl (Eg rfl rfl id) eV) ?_
 refine Y1 (Yv.pickOr (t := .const (.bool true)) rfl eV (Eg rfl rfl id)) ?_
 refine ym ?_
 refine gF (Yv.move rfl eV) ?_
 refine gF (Yv.eql rfl (Eg rfl rfl id) eV) ?_
 refine Y1 (Yv.pickOr (t := .const (.bool true)) rfl eV (Eg rfl rfl id)) ?_
 refine ya ?_
 refine AW.ret (retI (.tmp rfl .nil) ?_)
 rfl

end Go.Proofs.Ytlfklgganokgdaa

namespace Go.Proofs.Ytlfklgganokgdaa
open Go Go.RowKit

section
variable {cx : Cx} {env : Env} {S : St} {o : Oper} {g : Bool} {x y z : Operand} {ops : Array Oper} {l : List Oper} {K : Env → St → Prop} {Q : Exit → Env → St → Prop} {d : Nat} {Hd : World → Prop}

def Tells (cx : Cx) (Hd : World → Prop) (env : Env) (S : St) : Prop := ∀ a w, Sim cx env S a w → Hd w
def AWH (cx : Cx) (ops : Array Oper) (Hd : World → Prop) (fuel : Nat) (listed : Array Bool) (K : Env → St → Prop) (env : Env) (S : St) : Prop :=
 ∀ a w, Sim cx env S a w → Hd w → wpAnyH cx.P .any ops (liftN cx K) Hd fuel listed a w

theorem AW.rseqH (Hd : World → Prop) {id : Nat} {l : List Oper} {y : Code} (hm : cx.P.follows .mixedOrders = true) (ht : Tells cx Hd env S) (h : AWH cx l.toArray Hd l.length (Array.replicate l.length false) (AW cx y Q) env S) : AW cx (.seq (.region id l.toArray true) y) Q env S := by
 refine AW.seq fun a w hs => ?_
 have h1 := wp_region_held (id := id) hm (h a _ hs.drew (ht _ _ hs.drew))
 refine Code.wp_mono (fun e a w hq => ?_) h1
 obtain ⟨rfl, env', S', h1, h2⟩ := hq
 exact ⟨env', S', h1, h2⟩
theorem AW.regionH (Hd : World → Prop) {id : Nat} {l : List Oper} (hm : cx.P.follows .mixedOrders = true) (ht : Tells cx Hd env S) (h : AWH cx l.toArray Hd l.length (Array.replicate l.length false) (Q .normal) env S) : AW cx (.region id l.toArray true) Q env S := by
 intro a w hs
 have h1 := wp_region_held (id := id) hm (h a _ hs.drew (ht _ _ hs.drew))
 refine Code.wp_mono (fun e a w hq => ?_) h1
 obtain ⟨rfl, env', S', h1, h2⟩ := hq
 exact ⟨env', S', h1, h2⟩
theorem AWH.done {fuel : Nat} {listed : Array Bool} (hr : Region.ready .any ops listed = []) (h : K env S) : AWH cx ops Hd fuel listed K env S :=
 fun a w hs _ => wpAnyH_done hr ⟨rfl, env, S, hs, h⟩ fuel
theorem AWH.one {fuel i : Nat} {listed : Array Bool} (hr : Region.ready .any ops listed = [i]) (hi : ops[i]? = some o) (h : AWL cx ops [o] (fun env S => Tells cx Hd env S ∧ AWH cx ops Hd fuel (listed.setIfInBounds i true) K env S) env S) : AWH cx ops Hd (fuel + 1) listed K env S := by
 intro a w hs hd
 refine wpAnyH_all hr (by simp) fun j hj => ?_
 rw [List.mem_singleton] at hj
 subst hj
 exact wpOp_of_AWL hi h (fun _ _ a w h1 h2 => ⟨h1.1 a w h2, h1.2 a w h2 (h1.1 a w h2)⟩) hs
theorem AWH.two {fuel i j : Nat} {o' : Oper} {listed : Array Bool} (hr : Region.ready .any ops listed = [i, j]) (hi : ops[i]? = some o) (hj : ops[j]? = some o') (h : AWL cx ops [o] (fun env S => Tells cx Hd env S ∧ AWH cx ops Hd fuel (listed.setIfInBounds i true) K env S) env S) (h' : AWL cx ops [o'] (fun env S => Tells cx Hd env S ∧ AWH cx ops Hd fuel (listed.setIfInBounds j true) K env S) env S) : AWH cx ops Hd (fuel + 1) listed K env S := by
 intro a w hs hd
 refine wpAnyH_all hr (by simp) fun q hq => ?_
 simp only [List.mem_cons, List.not_mem_nil, or_false] at hq
 rcases hq with rfl | rfl
 ·exact wpOp_of_AWL hi h (fun _ _ a w h1 h2 => ⟨h1.1 a w h2, h1.2 a w h2 (h1.1 a w h2)⟩) hs
 exact wpOp_of_AWL hj h' (fun _ _ a w h1 h2 => ⟨h1.1 a w h2, h1.2 a w h2 (h1.1 a w h2)⟩) hs
theorem AWH.three {fuel i j k : Nat} {o' o'' : Oper} {listed : Array Bool} (hr : Region.ready .any ops listed = [i, j, k]) (hi : ops[i]? = some o) (hj : ops[j]? = some o') (hk : ops[k]? = some o'') (h : AWL cx ops [o] (fun env S => Tells cx Hd env S ∧ AWH cx ops Hd fuel (listed.setIfInBounds i true) K env S) env S) (h' : AWL cx ops [o'] (fun env S => Tells cx Hd env S ∧ AWH cx ops Hd fuel (listed.setIfInBounds j true) K env S) env S) (h'' : AWL cx ops [o''] (fun env S => Tells cx Hd env S ∧ AWH cx ops Hd fuel (listed.setIfInBounds k true) K env S) env S) : AWH cx ops Hd (fuel + 1) listed K env S := by
 intro a w hs hd
 refine wpAnyH_all hr (by simp) fun q hq => ?_
 simp only [List.mem_cons, List.not_mem_nil, or_false] at hq
 rcases hq with rfl | rfl | rfl
 ·exact wpOp_of_AWL hi h (fun _ _ a w h1 h2 => ⟨h1.1 a w h2, h1.2 a w h2 (h1.1 a w h2)⟩) hs
 ·exact wpOp_of_AWL hj h' (fun _ _ a w h1 h2 => ⟨h1.1 a w h2, h1.2 a w h2 (h1.1 a w h2)⟩) hs
 exact wpOp_of_AWL hk h'' (fun _ _ a w h1 h2 => ⟨h1.1 a w h2, h1.2 a w h2 (h1.1 a w h2)⟩) hs
theorem AWH.take {fuel i : Nat} {listed : Array Bool} {t : T} (hi : ops[i]? = some o) (hs : Region.noSelect ops = true) (hf : Region.free .any ops listed i = true) (hr : (Region.ready .any ops listed).contains i = true) (hg : o.guard = none) (hd : o.dst = some d) (hN : d < cx.N)
    (hy : ∀ a w, Sim cx env S a w → ∃ u, VRep w (cx.X ++ M S) t u ∧ ∀ w', Hd w' → (execOp a.eval o).run cx.P w' = .ok (.value u) w') (h : AWH cx ops Hd fuel (listed.setIfInBounds i true) K ((d, true, t) :: env) S) : AWH cx ops Hd (fuel + 1) listed K env S := by
 intro a w hsim hdw
 obtain ⟨u, h1, h2⟩ := hy a w hsim
 refine wpAnyH_take (v := u) hi hs hf hr (fun c a w hq => absurd hq.1 (by simp)) (.inl ⟨wanted_none hg, h2⟩) hdw ?_
 rw [hd]
 exact h _ _ (hsim.put hN (fun _ => h1) (by simp)) hdw
theorem heldAll {t : T} (h : ∀ a w, Sim cx env S a w → ∃ u, VRep w (cx.X ++ M S) t u ∧ ∀ w', (execOp a.eval o).run cx.P w' = .ok (.value u) w') : ∀ a w, Sim cx env S a w → ∃ u, VRep w (cx.X ++ M S) t u ∧ ∀ w', Hd w' → (execOp a.eval o).run cx.P w' = .ok (.value u) w' :=
 fun a w hs => (h a w hs).imp fun u q => ⟨q.1, fun w' _ => q.2 w'⟩
end
end Go.Proofs.Ytlfklgganokgdaa

namespace Go.Proofs.Ytlfklgganokgdaa
open Go Go.RowKit
section
variable {cx : Cx} {env : Env} {S : St} {o : Oper} {x : Operand}
end

section
variable {cx : Cx} {env : Env} {S : St} {o : Oper} {x y : Operand}
theorem freeIdxSl {t e : TypeId} {k j : Nat} {kd : IntKind} {p : Int} {l : List T} (ho : o.op = .indexAddr t x y) (h : sliceSz cx.P t = some (e, k)) (hk : 0 < k) (hy : Ev env true y (.v (.int kd p))) (hx : Ev env true x (.sl k l)) (hj : p = (j : Int) ∧ j * k < l.length) : ∀ a w, Sim cx env S a w → ∃ u, VRep w (cx.X ++ M S) (.rp l (j * k)) u ∧ ∀ w', (execOp a.eval o).run cx.P w' = .ok (.value u) w' := by
 intro a w hs
 have hv := hx.rep hs rfl
 obtain ⟨rfl, hjl⟩ := hj
 generalize hu : a.eval x = u at hv
 cases hv with
 | sl0 hc => simp at hjl
 | sl hn hkl hl hnc hc hb hL hcell hh h1 =>
  refine ⟨_, .rp hl hb hL hcell hh h1, fun w' => ?_⟩
  refine exec_indexAddr ho h hu (hy.val hs rfl) ?_ w'
  rw [hkl] at hjl
  exact Nat.lt_of_mul_lt_mul_right hjl
theorem freeIdxRow {t e e' : TypeId} {k j i n c : Nat} {kd : IntKind} {p : Int} {A : Option Addr} {cs : List T} (ho : o.op = .indexAddr t x y) (h : sliceSz cx.P t = some (e, k)) (hi : S[i]? = some (.row A n c e' k cs)) (hy : Ev env true y (.v (.int kd p))) (hx : Ev env true x (.v (.slice A n c))) (hj : p = (j : Int) ∧ j < n) : ∀ a w, Sim cx env S a w → ∃ u, VRep w (cx.X ++ M S) (.ep (.slice A n c) (j * k)) u ∧ ∀ w', (execOp a.eval o).run cx.P w' = .ok (.value u) w' := by
 intro a w hs
 have hv := hx.val hs rfl
 obtain ⟨rfl, hjl⟩ := hj
 obtain ⟨us, hr, _⟩ := hs.row hi
 rcases hr.2.2.2 with ⟨_, h0, _⟩ | ⟨gb, cur, fr, rfl, _⟩
 ·omega
 refine ⟨_, .ep, fun w' => ?_⟩
 have := exec_indexAddr ho h hv (hy.val hs rfl) hjl w'
 rw [add_lit', Nat.zero_add] at this
 exact this
theorem freeExtract {i : Nat} {l : List T} {r : T} (ho : o.op = .extract x i) (hx : Ev env true x (.tup l)) (hr : l[i]? = some r) : ∀ a w, Sim cx env S a w → ∃ u, VRep w (cx.X ++ M S) r u ∧ ∀ w', (execOp a.eval o).run cx.P w' = .ok (.value u) w' := by
 intro a w hs
 have hv := hx.rep hs rfl
 generalize hu : a.eval x = u at hv
 cases hv with
 | tup hl hh =>
  rename_i ys
  have hi : i < ys.length := hl ▸ (List.getElem?_eq_some_iff.1 hr).1
  refine ⟨ys[i], hh i r _ hr (List.getElem?_eq_getElem hi), fun w' => ?_⟩
  simp [execOp, ho, hu, Instr.extract, Sem.run_pure, List.getElem?_eq_getElem hi]
end

section
variable {cx : Cx} {env : Env} {S : St} {o : Oper} {g : Bool} {x y : Operand}
inductive FK2 where
 | c (k : FK)
 | st (n : Nat) (l : List (Nat × FK))
end
end Go.Proofs.Ytlfklgganokgdaa

namespace Go.Proofs.Ytlfklgganokgdaa
open Go Go.RowKit
structure Gv where
 b : Nat
 cs : Array Value
section
variable {cx : Cx} {env : Env} {S : St} {o : Oper} {ops : Array Oper} {l : List Oper} {K : Env → St → Prop} {d : Nat}
end
end Go.Proofs.Ytlfklgganokgdaa

namespace Go.Proofs.Ytlfklgganokgdaa
open Go Go.RowKit
section
variable {P : Program} {ops : Array Oper} {md : Region.Mode} {C : World → Prop}

def wpT (P : Program) (md : Region.Mode) (ops : Array Oper) (C : World → Prop) (D : Nat → Bool) (Q : Array Bool → Act → Prop) : Nat → Array Bool → Act → Prop
 | 0, listed, a => (∀ j, D j = true → listed.getD j true = true) ∧ Q listed a
 | fuel + 1, listed, a => (∃ j, D j = true ∧ j ∈ Region.ready md ops listed) ∧
  ∀ i ∈ Region.ready md ops listed, D i = true → qOp P ops C i (wpT P md ops C D Q fuel (listed.setIfInBounds i true)) a
theorem wpT_first {D : Nat → Bool} {Q : Array Bool → Act → Prop} {i : Nat} {oi : Oper} {v : Value} (hi : ops[i]? = some oi) (hD : D i = true) (hsel : ∀ (j : Nat) (o : Oper) cs b, ops[j]? = some o → o.op ≠ .select cs b) :
    ∀ (fuel : Nat) (listed : Array Bool) (a : Act),
     (∀ j oj, ops[j]? = some oj → j ≠ i → listed.getD j true = false → (∀ e ∈ oj.after, Region.binds md e = true → e.on ≠ i) → oi.apart ops oj = true) →
     i ∈ Region.ready md ops listed → YieldsIn P ops C oi v a →
     wpT P md ops C D Q fuel (listed.setIfInBounds i true) (a.put oi.dst v) → wpT P md ops C D Q (fuel + 1) listed a := by
 intro fuel
 induction fuel with
 | zero =>
  intro listed a _ hr hy H
  refine ⟨⟨i, hD, hr⟩, fun j hj hDj => ?_⟩
  by_cases hji : j = i
  ·subst hji; exact hy.qOp hi H
  ·have h1 := H.1 j hDj
   have h0 := (mem_ready.1 hj).1
   rw [getD_set_ne true (Ne.symm hji), h0] at h1
   cases h1
 | succ fuel ih =>
  intro listed a hfree hr hy H
  refine ⟨⟨i, hD, hr⟩, fun j hj hDj => ?_⟩
  by_cases hji : j = i
  ·subst hji; exact hy.qOp hi H
  ·have h1 := H.2 j (ready_mono hj hji) hDj
   obtain ⟨hjun, oj, hoj, hall⟩ := mem_ready.1 hj
   have hnot : ∀ e ∈ oj.after, Region.binds md e = true → e.on ≠ i := fun e he hb heq => by
    have h1 := hall e he hb
    have h0 := (mem_ready.1 hr).1
    rw [heq] at h1
    rcases Nat.lt_or_ge i listed.size with h' | h'
    ·simp [h'] at h0 h1; rw [h0] at h1; cases h1
    ·simp [Array.getElem?_eq_none h'] at h1
   have h2 := qOp_put hoj (hfree j oj hoj hji hjun hnot) (fun cs b => hsel i oi cs b hi) (fun cs b => hsel j oj cs b hoj) hy h1
   have hfree' : ∀ k ok, ops[k]? = some ok → k ≠ i → (listed.setIfInBounds j true).getD k true = false →
       (∀ e ∈ ok.after, Region.binds md e = true → e.on ≠ i) → oi.apart ops ok = true := fun k ok hk hki hun hno => by
    refine hfree k ok hk hki ?_ hno
    by_cases hjk : j = k
    ·subst hjk; exact hjun
    ·rw [getD_set_ne true hjk] at hun; exact hun
   refine qOp_mono (fun a' h3 => ih (listed.setIfInBounds j true) a' hfree' (ready_mono hr (Ne.symm hji)) h3.1 ?_) h2
   rw [Array.setIfInBounds_comm _ _ hji]
   exact h3.2
def maskL {α : Type} : List Bool → List α → List α
 | true :: m, a :: l => a :: maskL m l
 | false :: m, _ :: l => maskL m l
 | _, _ => []
def afterM : List Bool → Nat → Array Bool → Array Bool
 | [], _, listed => listed
 | true :: m, k, listed => afterM m (k + 1) (listed.setIfInBounds k true)
 | false :: m, k, listed => afterM m (k + 1) listed
def phaseFrom (md : Region.Mode) (ops : Array Oper) : List Bool → Nat → Array Bool → Bool
 | [], _, _ => true
 | true :: m, k, listed => (Region.ready md ops listed).contains k && Region.free md ops listed k && phaseFrom md ops m (k + 1) (listed.setIfInBounds k true)
 | false :: m, k, listed => phaseFrom md ops m (k + 1) listed
def depsIn (md : Region.Mode) (ops : Array Oper) (k : Nat) (g : Array Bool) : Bool := ((ops[k]?).map fun o => o.after.all fun e => !Region.binds md e || g.getD e.on false).getD false
def shut (md : Region.Mode) (ops : Array Oper) (m : List Bool) (L : List Nat) (g : Array Bool) : Array Bool :=
 L.foldl (fun g k => if m.getD k false && !depsIn md ops k g then g.setIfInBounds k false else g) g
def strayB (md : Region.Mode) (ops : Array Oper) (m : List Bool) (listed f : Array Bool) : Bool :=
 (List.range listed.size).all fun j => (!m.getD j false || (f.getD j false && !listed.getD j true)) && (!f.getD j true || listed.getD j true || m.getD j false) && (!m.getD j false || (Region.ready md ops (shut md ops m (List.range listed.size) (f.setIfInBounds j false))).all fun k => m.getD k false)
def phaseB (md : Region.Mode) (ops : Array Oper) (m : List Bool) (listed : Array Bool) : Bool :=
 Region.noSelect ops && (phaseFrom md ops m 0 listed && (decide (m.length ≤ listed.size) && (decide ((afterM m 0 listed).size = listed.size) && strayB md ops m listed (afterM m 0 listed))))
theorem wpT_lex {D : Nat → Bool} {Q : Act → Prop} (hs : Region.noSelect ops = true) : ∀ (m : List Bool) (l : List Oper) (k : Nat) (listed : Array Bool) (a : Act), (∀ j, l[j]? = ops[k + j]?) →
    phaseFrom md ops m k listed = true → (∀ j, m[j]? = some true → D (k + j) = true) → (∀ j, D j = true → (∃ q, j = k + q ∧ m[q]? = some true) ∨ listed.getD j true = true) →
    wpQuiet P ops C Q (maskL m l) a → wpT P md ops C D (fun f a => f = afterM m k listed ∧ Q a) (m.count true) listed a
 | [], l, k, listed, a, _, _, _, hc, h => by
  refine ⟨fun j hj => (hc j hj).resolve_left (fun ⟨q, _, hq⟩ => by simp at hq), rfl, ?_⟩
  have e : maskL ([] : List Bool) l = [] := by cases l <;> rfl
  rw [e] at h
  exact h
 | false :: m, l, k, listed, a, hl, hB, hD, hc, h => by
  have e : (false :: m).count true = m.count true := by simp
  rw [e]
  refine wpT_lex hs m l.tail (k + 1) listed a (fun j => ?_) hB (fun j hj => ?_) (fun j hj => ?_) ?_
  ·have := hl (j + 1)
   rw [List.getElem?_tail]
   rw [this]
   congr 1
   omega
  ·have := hD (j + 1) (by simpa using hj)
   rwa [show k + 1 + j = k + (j + 1) by omega]
  ·rcases hc j hj with ⟨q, h1, h2⟩ | h1
   ·cases q with
    | zero => simp at h2
    | succ q => exact .inl ⟨q, by omega, by simpa using h2⟩
   ·exact .inr h1
  ·cases l with
   | nil => simpa [maskL] using h
   | cons o l => simpa [maskL] using h
 | true :: m, [], k, listed, a, hl, hB, hD, hc, h => by
  exfalso
  simp only [phaseFrom, Bool.and_eq_true] at hB
  have hr : k ∈ Region.ready md ops listed := by simpa using hB.1.1
  obtain ⟨_, o, ho, _⟩ := mem_ready.1 hr
  have := hl 0
  rw [Nat.add_zero, ho] at this
  simp at this
 | true :: m, o :: l, k, listed, a, hl, hB, hD, hc, h => by
  have h0 : ops[k]? = some o := by simpa using (hl 0).symm
  simp only [phaseFrom, Bool.and_eq_true] at hB
  obtain ⟨⟨hr, hf⟩, hB'⟩ := hB
  have hr : k ∈ Region.ready md ops listed := by simpa using hr
  have hst : qOp P ops C k (wpQuiet P ops C Q (maskL m l)) a := by unfold qOp; simp only [h0]; exact h
  obtain ⟨v, hy, hK⟩ := yieldsIn_of_qOp h0 hst
  have hlt : k < listed.size := by
   rcases Nat.lt_or_ge k listed.size with h' | h'
   ·exact h'
   ·have := (mem_ready.1 hr).1
    simp [Array.getElem?_eq_none h'] at this
  have e : (true :: m).count true = m.count true + 1 := by simp
  rw [e]
  refine wpT_first h0 (hD 0 rfl) (Region.noSelect_spec hs) _ listed a (Region.free_spec h0 hf) hr hy ?_
  refine wpT_lex hs m l (k + 1) _ _ (fun j => by have := hl (j + 1); simpa [Nat.add_assoc, Nat.add_comm 1 j] using this) hB' (fun j hj => ?_) (fun j hj => ?_) hK
  ·have := hD (j + 1) (by simpa using hj)
   rwa [show k + 1 + j = k + (j + 1) by omega]
  ·rcases hc j hj with ⟨q, h1, h2⟩ | h1
   ·cases q with
    | zero =>
     right
     subst h1
     simp [hlt]
    | succ q => exact .inl ⟨q, by omega, by simpa using h2⟩
   ·right
    by_cases hkj : k = j
    ·subst hkj
     simp [hlt]
    ·rw [getD_set_ne true hkj]
     exact h1
theorem getD_unset {f : Array Bool} {i j : Nat} (d : Bool) (h : i ≠ j) : (f.setIfInBounds i false).getD j d = f.getD j d := by
 simp [Array.getElem?_setIfInBounds_ne h]
theorem shut_keep {m : List Bool} {i : Nat} : ∀ (L : List Nat) (g : Array Bool), g.getD i true = false → (shut md ops m L g).getD i true = false
 | [], _, h => h
 | k :: L, g, h => by
  refine shut_keep (m := m) L _ ?_
  show (if (m.getD k false && !depsIn md ops k g) = true then g.setIfInBounds k false else g).getD i true = false
  split
  ·by_cases hk : k = i
   ·subst hk
    rcases Nat.lt_or_ge k g.size with h' | h'
    ·simp [h']
    ·rw [Array.getD_eq_getD_getElem?, Array.getElem?_eq_none h'] at h
     cases h
   ·rw [getD_unset true hk]
    exact h
  ·exact h
theorem shut_sup {m : List Bool} {listed : Array Bool} (hc : ∀ k, m.getD k false = true → listed.getD k false = true → depsIn md ops k listed = true) : ∀ (L : List Nat) (g : Array Bool), (∀ x, listed.getD x false = true → g.getD x false = true) →
    ∀ x, listed.getD x false = true → (shut md ops m L g).getD x false = true
 | [], _, h => h
 | k :: L, g, h => by
  refine shut_sup hc L _ fun x hx => ?_
  show (if (m.getD k false && !depsIn md ops k g) = true then g.setIfInBounds k false else g).getD x false = true
  split
  ·rename_i hk
   rw [Bool.and_eq_true, Bool.not_eq_true'] at hk
   by_cases hkx : k = x
   ·exfalso
    subst hkx
    have h1 := hc k hk.1 hx
    have h2 := hk.2
    unfold depsIn at h1 h2
    cases ho : ops[k]? with
    | none => rw [ho] at h1; cases h1
    | some o =>
     rw [ho] at h1 h2
     simp only [Option.map_some, Option.getD_some] at h1 h2
     rw [Array.all_eq_true'] at h1
     have h3 : (o.after.all fun e => !Region.binds md e || g.getD e.on false) = true := by
      rw [Array.all_eq_true']
      intro e he
      have := h1 e he
      rw [Bool.or_eq_true] at this ⊢
      rcases this with q | q
      ·exact .inl q
      ·exact .inr (h _ q)
     rw [h3] at h2
     cases h2
   ·rw [getD_unset false hkx]
    exact h x hx
  ·exact h x hx
theorem wpAny_of_T {m : List Bool} {listed0 f : Array Bool} (hm : m.length ≤ listed0.size) (hf : f.size = listed0.size) (hB : strayB md ops m listed0 f = true) {Q : Array Bool → Act → Prop} {Q' : Exit → Act → World → Prop} {rest : Nat}
    (hQ : ∀ listed a w, C w → Q listed a → wpAny P md ops Q' rest listed a w) : ∀ (fuel : Nat) (listed : Array Bool) (a : Act) (w : World), C w →
     (listed.size = listed0.size ∧ (∀ j, listed.getD j false = true → f.getD j false = true) ∧ (∀ j, listed0.getD j true = true → listed.getD j true = true) ∧ ∀ k, m.getD k false = true → listed.getD k false = true → depsIn md ops k listed = true) →
     wpT P md ops C (fun j => m.getD j false) Q fuel listed a → wpAny P md ops Q' (fuel + rest) listed a w
 | 0, listed, a, w, hw, _, h => by
  rw [Nat.zero_add]
  exact hQ listed a w hw h.2
 | fuel + 1, listed, a, w, hw, ⟨i1, i2, i3, i4⟩, h => by
  have hall : ∀ j, j < listed0.size → _ := fun j hj => by
   have := hB
   unfold strayB at this
   rw [List.all_eq_true] at this
   exact this j (List.mem_range.2 hj)
  have hDlt : ∀ j, m.getD j false = true → j < listed0.size := fun j hj => by
   rcases Nat.lt_or_ge j m.length with h' | h'
   ·omega
   ·rw [List.getD_eq_getElem?_getD, List.getElem?_eq_none h'] at hj
    cases hj
  obtain ⟨⟨j0, hD0, hr0⟩, h2⟩ := h
  have hD0 : m.getD j0 false = true := hD0
  have hin : ∀ i ∈ Region.ready md ops listed, m.getD i false = true := by
   intro i hi
   obtain ⟨hu, o, ho, hdep⟩ := mem_ready.1 hi
   obtain ⟨hu0, _⟩ := mem_ready.1 hr0
   have hilt : i < listed0.size := by
    rcases Nat.lt_or_ge i listed.size with h' | h'
    ·omega
    ·rw [Array.getD_eq_getD_getElem?, Array.getElem?_eq_none h'] at hu
     cases hu
   have a1 := hall i hilt
   have a0 := hall j0 (hDlt j0 hD0)
   simp only [Bool.and_eq_true, Bool.or_eq_true, Bool.not_eq_true', List.all_eq_true] at a1 a0
   rcases a1.1.2 with (h1 | h1) | h1
   ·have hne : j0 ≠ i := by
     rintro rfl
     have := a0.1.1
     rcases this with q | q
     ·rw [hD0] at q; cases q
     ·have q := q.1
      rw [Array.getD_eq_getD_getElem?] at q h1
      rcases hx : f[j0]? with _ | b
      ·rw [hx] at h1; cases h1
      ·rw [hx] at h1 q
       simp only [Option.getD_some] at h1 q
       rw [h1] at q; cases q
    have hsup : ∀ x, listed.getD x false = true → (f.setIfInBounds j0 false).getD x false = true := fun x hx => by
     have hne' : j0 ≠ x := by
      rintro rfl
      rw [Array.getD_eq_getD_getElem?] at hx hu0
      rcases hy : listed[j0]? with _ | b
      ·rw [hy] at hx; cases hx
      ·rw [hy] at hx hu0
       simp only [Option.getD_some] at hx hu0
       rw [hu0] at hx; cases hx
     rw [getD_unset false hne']
     exact i2 _ hx
    have hrd : i ∈ Region.ready md ops (shut md ops m (List.range listed0.size) (f.setIfInBounds j0 false)) :=
     mem_ready.2 ⟨shut_keep _ _ (by rw [getD_unset true hne]; exact h1), o, ho, fun e he hb => shut_sup i4 _ _ hsup _ (hdep e he hb)⟩
    rcases a0.2 with q | q
    ·rw [hD0] at q; cases q
    ·exact q i hrd
   ·have := i3 i h1
    rw [hu] at this
    cases this
   ·exact h1
  rw [show fuel + 1 + rest = fuel + rest + 1 by omega]
  refine ⟨fun hn => absurd (hn ▸ hr0) (by simp), fun i hi => ?_⟩
  have hDi := hin i hi
  refine wpOp_of_qOp hw (fun a' w' hw' hk => wpAny_of_T hm hf hB hQ fuel _ a' w' hw' ⟨by rw [Array.size_setIfInBounds]; exact i1, fun j hj => ?_, fun j hj => ?_, fun k hk hkl => ?_⟩ hk) (h2 i hi hDi)
  ·by_cases hij : i = j
   ·subst hij
    have a1 := hall i (hDlt i hDi)
    simp only [Bool.and_eq_true, Bool.or_eq_true, Bool.not_eq_true'] at a1
    rcases a1.1.1 with q | q
    ·rw [hDi] at q; cases q
    ·exact q.1
   ·rw [getD_set_ne false hij] at hj
    exact i2 j hj
  ·by_cases hij : i = j
   ·subst hij
    have hlt : i < listed.size := by have := hDlt i hDi; omega
    simp [hlt]
   ·rw [getD_set_ne true hij]
    exact i3 j hj
  ·have hsub : ∀ x, listed.getD x false = true → (listed.setIfInBounds i true).getD x false = true := fun x hx => getD_set_true hx
   have hdk : depsIn md ops k listed = true := by
    by_cases hik : i = k
    ·subst hik
     obtain ⟨_, o, ho, hdep⟩ := mem_ready.1 hi
     unfold depsIn
     rw [ho]
     simp only [Option.map_some, Option.getD_some]
     rw [Array.all_eq_true']
     intro e he
     rw [Bool.or_eq_true, Bool.not_eq_true']
     cases hb : Region.binds md e
     ·exact .inl rfl
     ·exact .inr (hdep e he hb)
    ·rw [getD_set_ne false hik] at hkl
     exact i4 k hk hkl
   unfold depsIn at hdk ⊢
   cases ho : ops[k]? with
   | none => rw [ho] at hdk; cases hdk
   | some o =>
    rw [ho] at hdk
    simp only [Option.map_some, Option.getD_some] at hdk ⊢
    rw [Array.all_eq_true'] at hdk ⊢
    intro e he
    have := hdk e he
    rw [Bool.or_eq_true] at this ⊢
    rcases this with q | q
    ·exact .inl q
    ·exact .inr (hsub _ q)
end
section
variable {cx : Cx} {env : Env} {S : St} {o : Oper} {x y : Operand} {ops : Array Oper} {l : List Oper} {K : Env → St → Prop}
theorem freeFieldEp {s : TypeId} {i off p : Nat} {v : Value} (ho : o.op = .fieldAddr s x i) (h : fieldOff cx.P s i = some off) (hx : Ev env true x (.ep v p)) : ∀ a w, Sim cx env S a w → ∃ u, VRep w (cx.X ++ M S) (.ep v (p + off)) u ∧ ∀ w', (execOp a.eval o).run cx.P w' = .ok (.value u) w' := by
 intro a w hs
 have hr := hx.rep hs rfl
 generalize hv : a.eval x = u at hr
 cases hr with
 | ep =>
  refine ⟨_, .ep, fun w' => ?_⟩
  rw [exec_fieldAddr ho h hv]
  unfold Addr.add
  split
  ·rename_i h0; subst h0; rfl
  ·rfl
theorem freeFieldRp {s : TypeId} {i off p : Nat} {l : List T} (ho : o.op = .fieldAddr s x i) (h : fieldOff cx.P s i = some off) (hx : Ev env true x (.rp l p)) : ∀ a w, Sim cx env S a w → ∃ u, VRep w (cx.X ++ M S) (.rp l (p + off)) u ∧ ∀ w', (execOp a.eval o).run cx.P w' = .ok (.value u) w' := by
 intro a w hs
 have hr := hx.rep hs rfl
 generalize hv : a.eval x = u at hr
 cases hr with
 | rp hl hb hL hcell hh h1 =>
  refine ⟨_, .rp hl hb hL hcell hh h1, fun w' => ?_⟩
  rw [exec_fieldAddr ho h hv, add_add']
theorem AWL.callF {d : Nat} {lo : List Oper} {f : FuncId} {xf : Operand} {xs : Array Operand} {ats : Array TypeId} {fst cap : Array Value} {ts : List T} {F1 S1 F2 : St} {R : T → St → Prop} (hg : o.guard = none) (hd : o.dst = some d) (hN : d < cx.N)
    (ho : o.op = .call { callee := .value xf, args := xs, argTypes := ats }) (hf : calleeB cx.P f = true) (hxf : Ev env true xf (.v (.func (.func f) fst cap))) (hx : Evs env true xs.toList ts) (hS : S = F1 ++ (S1 ++ F2))
    (hc : ACalls cx.P f (fst.toList.map T.v ++ (ts ++ cap.toList.map T.v)) S1 R) (hr : ∀ t S', R t S' → AWL cx ops lo K ((d, true, t) :: env) (F1 ++ (S' ++ F2))) : AWL cx ops (o :: lo) K env S := by
 subst hS
 refine AWL.perm (S' := S1 ++ (F1 ++ F2)) (List.perm_append_comm_assoc S1 F1 F2) ?_
 exact AWL.call hg hd hN ho hf hxf hx (S1 := S1) (S2 := F1 ++ F2) rfl hc (fun t S' h => AWL.perm (S' := F1 ++ (S' ++ F2)) (List.perm_append_comm_assoc F1 S' F2) (hr t S' h))
theorem AWL.callE {d : Nat} {lo : List Oper} {f : FuncId} {xf : Operand} {xs : Array Operand} {ats : Array TypeId} {fst cap : Array Value} {ts : List T} {F1 S1 : St} {R : T → St → Prop} (hg : o.guard = none) (hd : o.dst = some d) (hN : d < cx.N)
    (ho : o.op = .call { callee := .value xf, args := xs, argTypes := ats }) (hf : calleeB cx.P f = true) (hxf : Ev env true xf (.v (.func (.func f) fst cap))) (hx : Evs env true xs.toList ts) (hS : S = F1 ++ S1)
    (hc : ACalls cx.P f (fst.toList.map T.v ++ (ts ++ cap.toList.map T.v)) S1 R) (hr : ∀ t S', R t S' → AWL cx ops lo K ((d, true, t) :: env) (F1 ++ S')) : AWL cx ops (o :: lo) K env S :=
 AWL.callF hg hd hN ho hf hxf hx (F1 := F1) (S1 := S1) (F2 := []) (by rw [List.append_nil]; exact hS) hc (fun t S' h => by rw [List.append_nil]; exact hr t S' h)
theorem AWL.callKP {d : Nat} {lo : List Oper} {f : FuncId} {xf : Operand} {xs : Array Operand} {ats : Array TypeId} {fst cap : Array Value} {ts : List T} {S1 S2 : St} {R : T → St → Prop} {r : Value} (hg : o.guard = none) (hd : o.dst = some d) (hN : d < cx.N)
    (ho : o.op = .call { callee := .value xf, args := xs, argTypes := ats }) (hf : calleeB cx.P f = true) (hxf : Ev env true xf (.v (.func (.func f) fst cap))) (hx : Evs env true xs.toList ts) (hS : S.Perm (S1 ++ S2))
    (hc : ACalls cx.P f (fst.toList.map T.v ++ (ts ++ cap.toList.map T.v)) S1 R) (hq : ∀ t S', R t S' → t = .v r ∧ S' = S1) (hr : AWL cx ops lo K ((d, true, .v r) :: env) S) : AWL cx ops (o :: lo) K env S :=
 AWL.perm hS.symm (AWL.callK hg hd hN ho hf hxf hx rfl hc hq (AWL.perm hS hr))
theorem AWP.phase {fuel : Nat} {listed : Array Bool} (m : List Bool) (rest : Nat) (hf : m.count true + rest = fuel) (hB : phaseB .any l.toArray m listed = true) (hle : (List.range listed.size).all (fun j => !listed.getD j false || (afterM m 0 listed).getD j false) = true)
    (h : AWQ cx l.toArray (maskL m l) (fun env S => AWP cx l.toArray rest (afterM m 0 listed) K env S) env S) : AWP cx l.toArray fuel listed K env S := by
 intro a w hs
 subst hf
 unfold phaseB at hB
 simp only [Bool.and_eq_true, decide_eq_true_eq] at hB
 obtain ⟨b1, b2, b3, b4, b5⟩ := hB
 have h1 := h a w hs
 refine wpAny_of_T (C := fun w' => Keeps [] w w') b3 b4 b5 (Q := fun f a' => f = afterM m 0 listed ∧ ∀ w', Keeps [] w w' → ∃ env' S', Sim cx env' S' a' w' ∧ AWP cx l.toArray rest (afterM m 0 listed) K env' S') (fun f a' w' hw' hq => ?_) (m.count true) listed a w (Keeps.refl _ _) ⟨rfl, fun j hj => ?_, fun j hj => hj, fun k hk hkl => ?_⟩ ?_
 ·obtain ⟨rfl, hq⟩ := hq
  obtain ⟨env', S', s1, s2⟩ := hq w' hw'
  exact s2 a' w' s1
 ·rw [List.all_eq_true] at hle
  rcases Nat.lt_or_ge j listed.size with h' | h'
  ·have := hle j (List.mem_range.2 h')
   rw [hj] at this
   simpa using this
  rw [Array.getD_eq_getD_getElem?, Array.getElem?_eq_none h'] at hj
  cases hj
 ·exfalso
  have hlt : k < listed.size := by
   rcases Nat.lt_or_ge k listed.size with h' | h'
   ·exact h'
   ·rw [Array.getD_eq_getD_getElem?, Array.getElem?_eq_none h'] at hkl
    cases hkl
  unfold strayB at b5
  rw [List.all_eq_true] at b5
  have := b5 k (List.mem_range.2 hlt)
  simp only [Bool.and_eq_true, Bool.or_eq_true, Bool.not_eq_true'] at this
  rcases this.1.1 with q | q
  ·rw [hk] at q; cases q
  have q := q.2
  rw [Array.getD_eq_getD_getElem?] at q hkl
  rcases hx : listed[k]? with _ | b
  ·rw [hx] at hkl; cases hkl
  rw [hx] at hkl q
  simp only [Option.getD_some] at hkl q
  rw [hkl] at q; cases q
 refine wpT_lex b1 m l 0 listed a (fun j => by simp) b2 (fun j hj => ?_) (fun j hj => ?_) h1
 ·rw [Nat.zero_add, List.getD_eq_getElem?_getD, hj]
  rfl
 left
 refine ⟨j, by omega, ?_⟩
 rw [List.getD_eq_getElem?_getD] at hj
 rcases hx : m[j]? with _ | b
 ·rw [hx] at hj; cases hj
 rw [hx] at hj
 simp only [Option.getD_some] at hj
 rw [hj]
end
end Go.Proofs.Ytlfklgganokgdaa

namespace Go.Proofs.Ytlfklgganokgdaa
open Go Go.RowKit
section
variable {cx : Cx} {env : Env} {S : St} {o : Oper} {g : Bool} {x y z : Operand} {ops : Array Oper} {l : List Oper} {K : Env → St → Prop} {Q : Exit → Env → St → Prop} {d : Nat}
/-! ### arguments seen as trees for one call that writes nothing -/
def Sees (cx : Cx) (env : Env) (S : St) (g : Bool) (x : Operand) (t : T) : Prop := ∀ a w, Sim cx env S a w → g = true → VRep w [] t (a.eval x)
def Seens (cx : Cx) (env : Env) (S : St) (g : Bool) : List Operand → List T → Prop
 | [], [] => True
 | x :: r, t :: r' => Sees cx env S g x t ∧ Seens cx env S g r r'
 | _, _ => False
theorem Sees.ev {t : T} (h : Ev env g x t) : Sees cx env S g x t := fun a w hs hg => (h.rep hs hg).mono (Nat.le_refl _) (fun _ _ _ => rfl) (fun _ _ hm => by cases hm)
theorem Seens.one {t : T} (h1 : Sees cx env S g x t) : Seens cx env S g [x] [t] := ⟨h1, trivial⟩
end
end Go.Proofs.Ytlfklgganokgdaa

namespace Go.Proofs.Ytlfklgganokgdaa
open Go Go.RowKit
open Go.ChangeMaps (setBlock)
section
variable {cx : Cx} {env : Env} {S : St} {o : Oper} {g : Bool} {x y z : Operand} {ops : Array Oper} {l : List Oper} {c : Code} {K : Env → St → Prop} {Q : Exit → Env → St → Prop} {d : Nat}
structure MapRaw (es : List (Key × T)) (ms : Array MapEntry) (clock : Nat) : Prop where
 st : Stamps ms clock
 keys : ms.toList.map (·.key) = es.map (·.1.val)
 vals : ms.toList.map (fun e => T.v e.val) = es.map (·.2)
 one : ∀ e ∈ ms.toList, e.val.oneCell' = true
end
section
variable {cx : Cx} {env : Env} {S : St} {o : Oper} {x y z : Operand} {ops : Array Oper} {l : List Oper} {K : Env → St → Prop} {d : Nat}
end
theorem ACalls.less {P : Program} {f : FuncId} {ts : List T} {S0 : St} {R R' : T → St → Prop} (h : ACalls P f ts S0 R) (hr : ∀ t S', R t S' → ∃ S'', S''.Sublist S' ∧ R' t S'') : ACalls P f ts S0 R' := fun X w args h1 h2 h3 h4 h5 =>
 (h X w args h1 h2 h3 h4 h5).mono fun e w' ⟨v, t, S', a, b, c, d, e', f', r⟩ => by
  obtain ⟨S'', hs, r'⟩ := hr t S' r
  have hM : (M S'').Sublist (M S') := hs.filterMap _
  have hL : ∀ b, b < w'.heap.size → b ∈ X ++ M S'' → b ∈ X ++ M S' := fun b _ hb => by
   rcases List.mem_append.1 hb with hb | hb
   ·exact List.mem_append.2 (.inl hb)
   ·exact List.mem_append.2 (.inr (hM.subset hb))
  exact ⟨v, t, S'', a, b, hM.nodup c, fun b hb => d b (hM.subset hb), fun e he => (e' e (hs.subset he)).mono (Nat.le_refl _) (fun _ _ => rfl) (fun _ _ _ => rfl) hL, f'.mono (Nat.le_refl _) (fun _ _ _ => rfl) hL, r'⟩
structure Came (ms : Array MapEntry) (L : List MapEntry) : Prop where
 sub : ∀ e ∈ L, e ∈ ms.toList
 nd : (L.map (·.born)).Nodup
theorem Came.nil {ms : Array MapEntry} : Came ms [] := ⟨fun _ h => (by cases h), .nil⟩
theorem nodup_frm {α β : Type} {f : α → β} {l : List α} (h : (l.map f).Nodup) : l.Nodup := by
 induction l with
 | nil => exact .nil
 | cons x r ih =>
  rw [List.map_cons, List.nodup_cons] at h
  rw [List.nodup_cons]
  exact ⟨fun hx => h.1 (List.mem_map.2 ⟨x, hx, rfl⟩), ih h.2⟩
theorem Came.len {ms : Array MapEntry} {L : List MapEntry} {clock : Nat} (h : Came ms L) : L.length ≤ ms.toList.length := (nodup_frm h.nd).length_le_of_subset h.sub
end Go.Proofs.Ytlfklgganokgdaa

namespace Go.Proofs.Ytlfklgganokgdaa
open Go Go.RowKit
def chkCells (p : Prog) (f : Fn) (m : Value) : List T := progCells p ++ fnCells f ++ [.v m]
def inB (regs r : Int) : Bool := decide (0 ≤ r) && decide (r < regs)
def w1B (ok : Bool) (h : Has) (regs : Int) (i : Ins) : Bool := (((!ok) || (h.d && !inB regs i.d)) || (h.a && !inB regs i.a)) || (h.b && !inB regs i.b)
def w2B (h : Has) (nf : Int) (many : LM) (i : Ins) : Bool := (badCB h i || (h.l && !decide (getL i.l many = 1))) || (h.f && (decide (i.f < 0) || decide (nf ≤ i.f)))
def w3B (h : Has) (regs : Int) (i : Ins) : Bool := h.args && i.args.any fun a => !inB regs a
def restW (p : Prog) (slots : Int) (i : Ins) : Bool :=
 if i.kind = 16 then decide (1 ≤ i.real) && decide (i.real ≤ 8)
 else if i.kind = 17 ∨ i.kind = 18 then decide (-2147483648 ≤ i.imm) && decide (i.imm ≤ 2147483647)
 else if i.kind = 22 ∨ i.kind = 24 then decide ((i.args.length : Int) = parF p i.f)
 else if i.kind = 23 ∨ i.kind = 25 then decide ((i.args.length : Int) ≤ 4)
 else if i.kind = 30 then decide ((i.args.length : Int) ≤ 3)
 else if i.kind = 27 then decide (0 ≤ i.imm) && decide (i.imm ≤ p.data.length + p.zero)
 else if i.kind = 31 ∨ i.kind = 32 then decide (0 ≤ i.imm) && decide (i.imm < slots)
 else true
def insW (p : Prog) (f : Fn) (many : LM) (i : Ins) : Bool :=
 if w1B (isF i.kind) (hasF i.kind) f.regs i = true then false else if w2B (hasF i.kind) p.funs.length many i = true then false else if w3B (hasF i.kind) f.regs i = true then false else restW p f.slots i
def funW (p : Prog) (f : Fn) : Bool := !(badFB f || !endsF (lastK f)) && f.code.all (insW p f (cntL f.code))
def checkW (p : Prog) : Int :=
 if badPB p = true then 130 else if 4194304 < sumC p p.funs.length then 130 else if p.funs.all (funW p) then 0 else 130
section
variable {p : Prog} {f : Fn} {many : LM} {i : Ins}
theorem ins_1 (h : w1B (isF i.kind) (hasF i.kind) f.regs i = true) : insW p f many i = false := by rw [insW, if_pos h]
theorem ins_2 (h1 : w1B (isF i.kind) (hasF i.kind) f.regs i = false) (h : w2B (hasF i.kind) p.funs.length many i = true) : insW p f many i = false := by rw [insW, if_neg (by rw [h1]; decide), if_pos h]
theorem ins_3 (h1 : w1B (isF i.kind) (hasF i.kind) f.regs i = false) (h2 : w2B (hasF i.kind) p.funs.length many i = false) (h : w3B (hasF i.kind) f.regs i = true) : insW p f many i = false := by rw [insW, if_neg (by rw [h1]; decide), if_neg (by rw [h2]; decide), if_pos h]
theorem ins_4 (h1 : w1B (isF i.kind) (hasF i.kind) f.regs i = false) (h2 : w2B (hasF i.kind) p.funs.length many i = false) (h3 : w3B (hasF i.kind) f.regs i = false) : insW p f many i = restW p f.slots i := by rw [insW, if_neg (by rw [h1]; decide), if_neg (by rw [h2]; decide), if_neg (by rw [h3]; decide)]
theorem w2_f (h : w2B (hasF i.kind) p.funs.length many i = false) (hf : (hasF i.kind).f = true) : 0 ≤ i.f ∧ i.f.toNat < p.funs.length := by
 unfold w2B at h
 rw [hf, Bool.true_and] at h
 simp only [Bool.or_eq_false_iff, decide_eq_false_iff_not] at h
 omega
theorem cw_0 (h : badPB p = true) : checkW p = 130 := by rw [checkW, if_pos h]
theorem cw_bad {k : Nat} (h0 : badPB p = false) (hs : ¬ 4194304 < sumC p p.funs.length) (hk : k < p.funs.length) (h : funW p (p.funs.getD k default) = false) : checkW p = 130 := by
 rw [checkW, if_neg (by rw [h0]; decide), if_neg hs, if_neg (by rw [not_all hk h]; decide)]
theorem cw_ok (h0 : badPB p = false) (hs : ¬ 4194304 < sumC p p.funs.length) (h : ∀ k, k < p.funs.length → funW p (p.funs.getD k default) = true) : checkW p = 0 := by
 rw [checkW, if_neg (by rw [h0]; decide), if_neg hs, if_pos (all_of h)]
theorem fw_1 (h : (badFB f || !endsF (lastK f)) = true) : funW p f = false := by rw [funW, h]; rfl
theorem fw_2 {k : Nat} (hk : k < f.code.length) (h : insW p f (cntL f.code) (f.code.getD k default) = false) : funW p f = false := by rw [funW, not_all hk h, Bool.and_false]
theorem fw_ok (h1 : (badFB f || !endsF (lastK f)) = false) (h3 : ∀ k, k < f.code.length → insW p f (cntL f.code) (f.code.getD k default) = true) : funW p f = true := by rw [funW, h1, all_of h3]; rfl
end
/-! ### both Checks answer alike -/
theorem out_in (regs a : Int) : outB regs a = !inB regs a := by
 unfold outB inB
 rw [Bool.not_and, ← decide_not, ← decide_not]
 congr 1 <;> (apply decide_eq_decide.2; omega)
theorem has_of {k : Int} (h : isF k = true) : 1 ≤ k ∧ k ≤ 32 := by
 apply Classical.byContradiction
 intro hn
 have e : ofF k = none := by
  unfold ofF
  rw [if_neg (by omega), if_neg (by omega), if_neg (by omega), if_neg (by omega), if_neg (by omega), if_neg (by omega), if_neg (by omega), if_neg (by omega), if_neg (by omega), if_neg (by omega), if_neg (by omega), if_neg (by omega), if_neg (by omega), if_neg (by omega), if_neg (by omega)]
 unfold isF at h
 rw [e] at h
 cases h
theorem restB_true {p : Prog} {slots : Int} {i : Ins} (h : i.kind ≠ 16 ∧ i.kind ≠ 17 ∧ i.kind ≠ 18 ∧ i.kind ≠ 27 ∧ i.kind ≠ 31 ∧ i.kind ≠ 32) : restB p slots i = true := by
 unfold restB
 rw [if_neg (by omega), if_neg (by omega), if_neg (by omega), if_neg (by omega)]
theorem restW_22 {p : Prog} {slots : Int} {i : Ins} (h : i.kind = 22 ∨ i.kind = 24) : restW p slots i = decide ((i.args.length : Int) = parF p i.f) := by
 unfold restW
 rw [if_neg (by omega), if_neg (by omega), if_pos h]
theorem restW_23 {p : Prog} {slots : Int} {i : Ins} (h : i.kind = 23 ∨ i.kind = 25) : restW p slots i = decide ((i.args.length : Int) ≤ 4) := by
 unfold restW
 rw [if_neg (by omega), if_neg (by omega), if_neg (by omega), if_pos h]
theorem restW_30 {p : Prog} {slots : Int} {i : Ins} (h : i.kind = 30) : restW p slots i = decide ((i.args.length : Int) ≤ 3) := by
 unfold restW
 rw [if_neg (by omega), if_neg (by omega), if_neg (by omega), if_neg (by omega), if_pos h]
theorem rest_eq {p : Prog} {f : Fn} {i : Ins} (hpar : ∀ g ∈ p.funs, 0 ≤ g.params ∧ g.params ≤ 4) (hk : isF i.kind = true) (hf : (hasF i.kind).f = true → i.f.toNat < p.funs.length) :
    (if badNB (hasF i.kind) p i = true then false else restB p f.slots i) = restW p f.slots i := by
 have h32 := has_of hk
 have hpf : (hasF i.kind).f = true → parF p i.f ≤ 4 := fun h => (hpar _ (getD_mem (hf h))).2
 by_cases h22 : i.kind = 22 ∨ i.kind = 24
 ·have e1 : (hasF i.kind).args = true ∧ (hasF i.kind).f = true := by rcases h22 with h | h <;> rw [h] <;> exact ⟨rfl, rfl⟩
  have e2 := hpf e1.2
  have e3 : mostF i.kind = 4 := by unfold mostF; rw [if_neg (by omega)]
  rw [restB_true (by omega), restW_22 h22]
  unfold badNB
  rw [e1.1, e1.2, e3]
  simp only [Bool.true_and, Bool.and_true, Bool.or_eq_true, decide_eq_true_eq, Bool.not_eq_true', decide_eq_false_iff_not]
  by_cases h : (i.args.length : Int) = parF p i.f
  ·rw [if_neg (by omega), decide_eq_true h]
  rw [if_pos (.inr h), decide_eq_false h]
 by_cases h23 : i.kind = 23 ∨ i.kind = 25
 ·have e1 : (hasF i.kind).args = true ∧ (hasF i.kind).f = false := by rcases h23 with h | h <;> rw [h] <;> exact ⟨rfl, rfl⟩
  have e3 : mostF i.kind = 4 := by unfold mostF; rw [if_neg (by omega)]
  rw [restB_true (by omega), restW_23 h23]
  unfold badNB
  rw [e1.1, e1.2, e3]
  simp only [Bool.true_and, Bool.and_false, Bool.false_and, Bool.or_false, decide_eq_true_eq]
  by_cases h : (i.args.length : Int) ≤ 4
  ·rw [if_neg (by omega), decide_eq_true h]
  rw [if_pos (by omega), decide_eq_false h]
 by_cases h30 : i.kind = 30
 ·have e1 : (hasF i.kind).args = true ∧ (hasF i.kind).f = false := by rw [h30]; exact ⟨rfl, rfl⟩
  have e3 : mostF i.kind = 3 := by unfold mostF; rw [if_pos h30]
  rw [restB_true (by omega), restW_30 h30]
  unfold badNB
  rw [e1.1, e1.2, e3]
  simp only [Bool.true_and, Bool.and_false, Bool.false_and, Bool.or_false, decide_eq_true_eq]
  by_cases h : (i.args.length : Int) ≤ 3
  ·rw [if_neg (by omega), decide_eq_true h]
  rw [if_pos (by omega), decide_eq_false h]
 have e1 : (hasF i.kind).args = false := by
  have key : ∀ n : Fin 33, ¬ (n.val = 22 ∨ n.val = 24 ∨ n.val = 23 ∨ n.val = 25 ∨ n.val = 30) → (hasF (n.val : Int)).args = false := by decide +kernel
  obtain ⟨n, hn⟩ := Int.eq_ofNat_of_zero_le (show 0 ≤ i.kind by omega)
  rw [hn]
  exact key ⟨n, by omega⟩ (by simp only; omega)
 have e2 : badNB (hasF i.kind) p i = false := by unfold badNB; rw [e1]; rfl
 rw [if_neg (by rw [e2]; decide)]
 unfold restB restW
 by_cases h16 : i.kind = 16
 ·rw [if_pos h16, if_pos h16]
 rw [if_neg h16, if_neg h16]
 by_cases h17 : i.kind = 17 ∨ i.kind = 18
 ·rw [if_pos h17, if_pos h17]
 rw [if_neg h17, if_neg h17, if_neg h22, if_neg h23, if_neg h30]
theorem may_ins {p : Prog} {f : Fn} {many : LM} {i : Ins} (hpar : ∀ g ∈ p.funs, 0 ≤ g.params ∧ g.params ≤ 4) : insW p f many i = mayR p f many i := by
 cases h0 : isF i.kind with
 | false => rw [may_0 (by rw [h0]; rfl), ins_1 (by unfold w1B; rw [h0]; rfl)]
 | true =>
 have o := out_in
 have e1 : w1B (isF i.kind) (hasF i.kind) f.regs i = badRB (hasF i.kind) f.regs i := by
  unfold w1B badRB
  rw [h0, ← o, ← o, ← o]
  rfl
 cases h1 : badRB (hasF i.kind) f.regs i with
 | true => rw [may_1 (by rw [h0]; rfl) h1, ins_1 (e1.trans h1)]
 | false =>
  have e2 : w2B (hasF i.kind) p.funs.length many i = (badCB (hasF i.kind) i || badLB (hasF i.kind) p.funs.length many i) := by
   unfold w2B badLB
   rw [Bool.or_assoc]
  cases h2 : badCB (hasF i.kind) i with
  | true => rw [may_2 (by rw [h0]; rfl) h1 h2, ins_2 (e1.trans h1) (by rw [e2, h2]; rfl)]
  | false =>
   cases h3 : badLB (hasF i.kind) p.funs.length many i with
   | true => rw [may_3 (by rw [h0]; rfl) h1 h2 h3, ins_2 (e1.trans h1) (by rw [e2, h2, h3]; rfl)]
   | false =>
    have e3 : w3B (hasF i.kind) f.regs i = badAB (hasF i.kind) f.regs i := by
     unfold w3B badAB
     congr 2
     funext a
     exact (o _ _).symm
    have h2' : w2B (hasF i.kind) p.funs.length many i = false := by rw [e2, h2, h3]; rfl
    cases h4 : badAB (hasF i.kind) f.regs i with
    | true => rw [may_4 (by rw [h0]; rfl) h1 h2 h3 h4, ins_3 (e1.trans h1) h2' (e3.trans h4)]
    | false =>
     have e5 := rest_eq (f := f) hpar h0 (fun h => (lb_lt h3 h).2)
     have h0' : (!isF i.kind) = false := by rw [h0]; rfl
     cases h5 : badNB (hasF i.kind) p i with
     | true => rw [ins_4 (e1.trans h1) h2' (e3.trans h4), may_5 h0' h1 h2 h3 h4 h5, ← e5, if_pos h5]
     | false => rw [ins_4 (e1.trans h1) h2' (e3.trans h4), may_6 h0' h1 h2 h3 h4 h5, ← e5, if_neg (by rw [h5]; decide)]
theorem fb_par {f : Fn} (h : badFB f = false) : 0 ≤ f.params ∧ f.params ≤ 4 := by
 unfold badFB at h
 simp only [Bool.or_eq_false_iff, decide_eq_false_iff_not] at h
 omega
theorem check_eq (p : Prog) : checkW p = checkR p := by
 unfold checkW checkR
 have e : p.funs.all (funW p) = p.funs.all (funR p) := by
  by_cases h : ∀ g ∈ p.funs, badFB g = false
  ·have hpar : ∀ g ∈ p.funs, 0 ≤ g.params ∧ g.params ≤ 4 := fun g hg => fb_par (h g hg)
   have : ∀ g ∈ p.funs, funW p g = funR p g := fun g hg => by
    unfold funW funR
    have e2 : (insW p g (cntL g.code)) = (mayR p g (cntL g.code)) := by funext i; exact may_ins hpar
    rw [e2, h g hg]
    simp
   rw [Bool.eq_iff_iff, List.all_eq_true, List.all_eq_true]
   exact ⟨fun q g hg => by rw [← this g hg]; exact q g hg, fun q g hg => by rw [this g hg]; exact q g hg⟩
  ·have ⟨g, hg, hb⟩ : ∃ g ∈ p.funs, badFB g = true := by
    apply Classical.byContradiction
    intro hn
    exact h fun g hg => by
     cases hc : badFB g with
     | false => rfl
     | true => exact absurd ⟨g, hg, hc⟩ hn
   rw [List.all_eq_false.2 ⟨g, hg, by rw [fw_1 (by rw [hb]; rfl)]; decide⟩, List.all_eq_false.2 ⟨g, hg, by rw [fun_1 hb]; decide⟩]
 rw [e]
end Go.Proofs.Ytlfklgganokgdaa

namespace Go.Proofs.Ytlfklgganokgdaa
open Go Go.RowKit

set_option maxHeartbeats 400000 in
theorem reg58 (bc : Nat) (p : Prog) (f : Fn) (m : Value) (r : Int) :
    ACalls Try.prog 58 [.v (.pointer (some ⟨bc, 0, none⟩)), zi r] [.box bc 55 (chkCells p f m)] (fun t S => t = bv (inB f.regs r) ∧ S = [.box bc 55 (chkCells p f m)]) := by
 refine ACalls.intro Try.func58 rfl Try.ntmps58 nB rfl fun X w0 => ?_
 refine ra ?_
 refine rs (ym ?_)
 refine Y1 (Yv.geq rfl eV eV) ?_
 refine ym ?_
 refine gT (Yv.move rfl eV) ?_
 refine gT (Yv.move rfl eV) ?_
 refine gT (Yv.nilChk rfl (Eg rfl rfl id)) ?_
 refine gT (Yv.fieldBox rfl fo_55_1 (Eg rfl rfl id)) ?_
 refine gT (Yv.fieldBox rfl fo_51_2 (Eg rfl rfl id)) ?_
 refine gT (Yv.loadBox rfl ag_3 (i := 0) rfl (Eg rfl rfl id) rfl) ?_
 refine gT (Yv.lss rfl (Eg rfl rfl id) (Eg rfl rfl id)) ?_
 refine Y1 (Yv.pickAnd rfl eV (Eg rfl rfl id)) ?_
 refine ya ?_
 refine AW.ret (retI (.tmp rfl .nil) ?_)
 exact ⟨rfl, rfl⟩

set_option maxHeartbeats 8000000 in
theorem ins35_ (bc : Nat) (p : Prog) (f : Fn) (many : LM) (i : Ins) (m : Nat) (hp : ProgIn p) (hi : InsIn i) (hz : 0 ≤ p.zero ∧ p.zero ≤ 268435456) :
    ACalls Try.prog 35 [.v (.pointer (some ⟨bc, 0, none⟩)), .agg (insCells i)] [.box bc 55 (chkCells p f (.map (some m))), .map m (lmT many)] (fun t S => t = bv (insW p f many i) ∧ [.box bc 55 (chkCells p f (.map (some m))), .map m (lmT many)].Sublist S) := by
 have hpf := hp.funs
 have hpd := hp.data
 have hal := hi.args
 refine ACalls.intro Try.func35 rfl Try.ntmps35 nB rfl fun X w0 => ?_
 refine rs ?_
 refine AWL.boxOp rfl rfl (B rfl) rfl (E rfl rfl) rfl (fun b3 => ?_)
 refine ya ?_
 refine rs (yf fo_58_0 ?_)
 refine yl ag_3 2 ?_
 refine AWL.callT rfl rfl (B rfl) rfl ce_57 (E rfl rfl) (evsC (E rfl rfl) evs0) (fields57 i.kind) ?_
 rintro t12 S12 rfl
 refine ym ?_
 refine Y1 (Yv.extract rfl eV rfl) ?_
 refine Y1 (Yv.extract rfl eV rfl) ?_
 refine AWL.allocOp rfl rfl (B rfl) rfl zc_122 (fun b5 => ?_)
 refine AWL.storeBox (i := 3) rfl rfl rfl ag_122 rfl (E rfl rfl) (E rfl rfl) rfl rfl nB ?_
 refine ya ?_
 refine AW.eqS (S' := [.box bc 55 (chkCells p f (.map (some m))), .map m (lmT many), .box b3 58 (insCells i), .box b5 122 (hasCells (hasF i.kind))]) rfl ?_
 refine AW.seq ?_
 refine rs (ym ?_)
 refine Y1 (Yv.not rfl eV) ?_
 refine ym ?_
 refine gF (Yv.fieldBox rfl fo_122_0 eV) ?_
 refine gF (Yv.loadBox rfl ag_4 (i := 3) rfl (Eg rfl rfl id) rfl) ?_
 refine gF (Yv.move rfl (Eg rfl rfl id)) ?_
 refine gT (Yv.move rfl eV) ?_
 refine gT (Yv.fieldBox rfl fo_58_1 eV) ?_
 refine gT (Yv.loadBox rfl ag_3 (i := 2) rfl (Eg rfl rfl id) rfl) ?_
 refine AWL.callKgT rfl rfl rfl rfl (B rfl) rfl ce_58 (E rfl rfl) (evsC (Eg rfl rfl id) (evsC (Eg rfl rfl id) evs0)) (S1 := [.box bc 55 (chkCells p f (.map (some m)))]) (S2 := _) rfl (fun hg => reg58 bc p f (.map (some m)) i.d) (fun t S h => h) ?_
 refine gT (Yv.not rfl (Eg rfl rfl id)) ?_
 refine gF (Yv.pickAnd rfl (Eg rfl rfl id) (Eg rfl rfl id)) ?_
 refine Y1 (Yv.pickOr (t := .const (.bool true)) rfl eV (Eg rfl rfl id)) ?_
 refine ym ?_
 refine gF (Yv.fieldBox rfl fo_122_1 eV) ?_
 refine gF (Yv.loadBox rfl ag_4 (i := 3) rfl (Eg rfl rfl id) rfl) ?_
 refine gF (Yv.move rfl (Eg rfl rfl id)) ?_
 refine gT (Yv.move rfl eV) ?_
 refine gT (Yv.fieldBox rfl fo_58_2 eV) ?_
 refine gT (Yv.loadBox rfl ag_3 (i := 2) rfl (Eg rfl rfl id) rfl) ?_
 refine AWL.callKgT rfl rfl rfl rfl (B rfl) rfl ce_58 (E rfl rfl) (evsC (Eg rfl rfl id) (evsC (Eg rfl rfl id) evs0)) (S1 := [.box bc 55 (chkCells p f (.map (some m)))]) (S2 := _) rfl (fun hg => reg58 bc p f (.map (some m)) i.a) (fun t S h => h) ?_
 refine gT (Yv.not rfl (Eg rfl rfl id)) ?_
 refine gF (Yv.pickAnd rfl (Eg rfl rfl id) (Eg rfl rfl id)) ?_
 refine Y1 (Yv.pickOr (t := .const (.bool true)) rfl eV (Eg rfl rfl id)) ?_
 refine ym ?_
 refine gF (Yv.fieldBox rfl fo_122_2 eV) ?_
 refine gF (Yv.loadBox rfl ag_4 (i := 3) rfl (Eg rfl rfl id) rfl) ?_
 refine gF (Yv.move rfl (Eg rfl rfl id)) ?_
 refine gT (Yv.move rfl eV) ?_
 refine gT (Yv.fieldBox rfl fo_58_3 eV) ?_
 refine gT (Yv.loadBox rfl ag_3 (i := 2) rfl (Eg rfl rfl id) rfl) ?_
 refine AWL.callKgT rfl rfl rfl rfl (B rfl) rfl ce_58 (E rfl rfl) (evsC (Eg rfl rfl id) (evsC (Eg rfl rfl id) evs0)) (S1 := [.box bc 55 (chkCells p f (.map (some m)))]) (S2 := _) rfl (fun hg => reg58 bc p f (.map (some m)) i.b) (fun t S h => h) ?_
 refine gT (Yv.not rfl (Eg rfl rfl id)) ?_
 refine gF (Yv.pickAnd rfl (Eg rfl rfl id) (Eg rfl rfl id)) ?_
 refine Y1 (Yv.pickOr (t := .const (.bool true)) rfl eV (Eg rfl rfl id)) (nl ?_)
 refine AW.cond rfl (fun h0t => ?_) (fun h0f => ?_)
 ·have h0tr := h0t
  refine ra ?_
  refine AW.ret (retI (.tmp rfl .nil) ?_)
  refine ⟨by show bv _ = bv _; rw [ins_1 h0t], by simp⟩
 have h0fr := h0f
 refine AW.skip ?_
 refine AW.seq ?_
 refine AW.rseqQ rfl (by kernel_rfl) ?_
 refine qf fo_122_4 ?_
 refine ql ag_4 3 ?_
 refine qm ?_
 refine kT (Yv.fieldBox rfl fo_58_6 eV) ?_
 refine kT (Yv.loadBox rfl ag_3 (i := 2) rfl (Eg rfl rfl id) rfl) ?_
 refine kT (Yv.lss rfl (Eg rfl rfl id) eV) ?_
 refine kT (Yv.move rfl (Eg rfl rfl id)) ?_
 refine kF (Yv.fieldBox rfl fo_58_6 eV) ?_
 refine kF (Yv.loadBox rfl ag_3 (i := 2) rfl (Eg rfl rfl id) rfl) ?_
 refine kF (Yv.gtr rfl (Eg rfl rfl id) eV) ?_
 refine kT (Yv.pickOr (t := .const (.bool true)) rfl (Eg rfl rfl id) (Eg rfl rfl id)) ?_
 refine Q1 (Yv.pickAnd rfl eV (Eg rfl rfl id)) ?_
 refine qm ?_
 refine kF (Yv.fieldBox rfl fo_122_5 eV) ?_
 refine kF (Yv.loadBox rfl ag_4 (i := 3) rfl (Eg rfl rfl id) rfl) ?_
 refine kF (Yv.move rfl (Eg rfl rfl id)) ?_
 refine kT (Yv.fieldBox rfl fo_58_8 eV) ?_
 refine kT (Yv.loadBox rfl ag_3 (i := 2) rfl (Eg rfl rfl id) rfl) ?_
 refine kT (Yv.neq rfl (Eg rfl rfl id) eV) ?_
 refine kF (Yv.pickAnd rfl (Eg rfl rfl id) (Eg rfl rfl id)) ?_
 refine kF (Yv.move rfl (Eg rfl rfl id)) ?_
 refine kT (Yv.fieldBox rfl fo_58_8 eV) ?_
 refine kT (Yv.loadBox rfl ag_3 (i := 2) rfl (Eg rfl rfl id) rfl) ?_
 refine kT (Yv.neq rfl (Eg rfl rfl id) eV) ?_
 refine kF (Yv.pickAnd rfl (Eg rfl rfl id) (Eg rfl rfl id)) ?_
 refine kF (Yv.move rfl (Eg rfl rfl id)) ?_
 refine kT (Yv.fieldBox rfl fo_58_8 eV) ?_
 refine kT (Yv.loadBox rfl ag_3 (i := 2) rfl (Eg rfl rfl id) rfl) ?_
 refine kT (Yv.neq rfl (Eg rfl rfl id) eV) ?_
 refine kF (Yv.pickAnd rfl (Eg rfl rfl id) (Eg rfl rfl id)) ?_
 refine Q1 (Yv.pickOr (t := .const (.bool true)) rfl eV (Eg rfl rfl id)) ?_
 refine qm ?_
 refine kF (Yv.fieldBox rfl fo_122_6 eV) ?_
 refine kF (Yv.loadBox rfl ag_4 (i := 3) rfl (Eg rfl rfl id) rfl) ?_
 refine kF (Yv.move rfl (Eg rfl rfl id)) ?_
 refine kT (Yv.move rfl eV) ?_
 refine kT (Yv.nilChk rfl (Eg rfl rfl id)) ?_
 refine kT (Yv.fieldBox rfl fo_55_2 (Eg rfl rfl id)) ?_
 refine kT (Yv.loadBox rfl ag_53 (i := 0) rfl (Eg rfl rfl id) rfl) ?_
 refine kT (Yv.fieldBox rfl fo_58_4 eV) ?_
 refine kT (Yv.loadBox rfl ag_3 (i := 2) rfl (Eg rfl rfl id) rfl) ?_
 refine kT (Yv.eqT (Yv.lookup1 (k := .i _ _) (i := 1) rfl mp_53 rfl (Eg rfl rfl id) (Eg rfl rfl id) rfl (lm_good _ _ rfl)) (get_lm _ _)) ?_
 refine kT (Yv.neq rfl (Eg rfl rfl id) eV) ?_
 refine kF (Yv.pickAnd rfl (Eg rfl rfl id) (Eg rfl rfl id)) ?_
 refine Q1 (Yv.pickOr (t := .const (.bool true)) rfl eV (Eg rfl rfl id)) ?_
 refine qm ?_
 refine kF (Yv.fieldBox rfl fo_122_7 eV) ?_
 refine kF (Yv.loadBox rfl ag_4 (i := 3) rfl (Eg rfl rfl id) rfl) ?_
 refine kF (Yv.move rfl (Eg rfl rfl id)) ?_
 refine kT (Yv.fieldBox rfl fo_58_5 eV) ?_
 refine kT (Yv.loadBox rfl ag_3 (i := 2) rfl (Eg rfl rfl id) rfl) ?_
 refine kT (Yv.lss rfl (Eg rfl rfl id) eV) ?_
 refine kT (Yv.move rfl (Eg rfl rfl id)) ?_
 refine kF (Yv.fieldBox rfl fo_58_5 eV) ?_
 refine kF (Yv.loadBox rfl ag_3 (i := 2) rfl (Eg rfl rfl id) rfl) ?_
 refine kF (Yv.move rfl eV) ?_
 refine kF (Yv.nilChk rfl (Eg rfl rfl id)) ?_
 refine kF (Yv.fieldBox rfl fo_55_0 (Eg rfl rfl id)) ?_
 refine kF (Yv.fieldBox rfl fo_25_0 (Eg rfl rfl id)) ?_
 refine kF (Yv.loadBox rfl ag_22 (i := 0) rfl (Eg rfl rfl id) rfl) ?_
 refine kF (Yv.lenSl rfl so_22 (B rfl) (Eg rfl rfl id) len_funs) ?_
 refine kF (Yv.geq rfl (Eg rfl rfl id) (Eg rfl rfl id)) ?_
 refine kT (Yv.pickOr (t := .const (.bool true)) rfl (Eg rfl rfl id) (Eg rfl rfl id)) ?_
 refine kF (Yv.pickAnd rfl (Eg rfl rfl id) (Eg rfl rfl id)) ?_
 refine Q1 (Yv.pickOr (t := .const (.bool true)) rfl eV (Eg rfl rfl id)) ?_
 refine AWQ.nil ?_
 refine AW.cond rfl (fun h1t => ?_) (fun h1f => ?_)
 ·have h1tr := h1t
  refine ra ?_
  refine AW.ret (retI (.tmp rfl .nil) ?_)
  refine ⟨by show bv _ = bv _; rw [ins_2 h0f h1t], by simp⟩
 have h1fr := h1f
 refine AW.skip ?_
 refine AW.mid (α := Unit) (fun _ => [(0, true, pv bc), (3, true, pv b3), (5, true, pv b5)]) (fun _ => [.box bc 55 (chkCells p f (.map (some m))), .map m (lmT many), .box b3 58 (insCells i), .box b5 122 (hasCells (hasF i.kind))]) (fun _ => w3B (hasF i.kind) f.regs i = false) ?_ ?_
 ·refine rs (yf fo_122_3 ?_)
  refine yl ag_4 3 (nl ?_)
  refine AW.cond rfl (fun h2t => ?_) (fun h2f => ?_)
  ·refine rs (yf fo_58_10 ?_)
   refine yl ag_47 2 ?_
   refine Y1 (Yv.lenSl rfl so_47 (B rfl) eV len_args) ?_
   refine ym (nl ?_)
   refine AW.block ?_
   refine AW.loop (fun (j : Nat) => [(0, true, pv bc), (3, true, pv b3), (5, true, pv b5), (118, true, .sl 1 (i.args.map zi)), (119, true, .v (.int .i64 (i.args.length : Int))), (120, true, .v (.int .i64 (j : Int)))]) (fun (j : Nat) => [.box bc 55 (chkCells p f (.map (some m))), .map m (lmT many), .box b3 58 (insCells i), .box b5 122 (hasCells (hasF i.kind))]) (fun (j : Nat) => j ≤ i.args.length ∧ ∀ q, q < j → (!inB f.regs (i.args.getD q default)) = false) (fun (j : Nat) => i.args.length - j) 0 ?_ ?_ ?_ ?_
   ·exact ⟨Nat.zero_le _, fun q hq => absurd hq (Nat.not_lt_zero q)⟩
   ·exact (su (su (su (su (su (su sn))))))
   ·rfl
   intro j hinv
   obtain ⟨hj, hout⟩ := hinv
   refine rs (Y1 (Yv.lss rfl eV eV) (nl ?_))
   refine AW.seq ?_
   refine AW.cond rfl (fun h3t => ?_) (fun h3f => ?_)
   ·try replace h3t := odt h3t
    have hj2 : j < i.args.length := by omega
    refine AW.skip ?_
    refine AW.seq ?_
    refine AW.block ?_
    refine rs (Y1 (Yv.indexSl rfl ss_47 (B rfl) eV eV (fun hg => ⟨rfl, (by first | omega | (simp only [len_code, len_funs, len_args, len_data]; omega))⟩)) ?_)
    refine Y1 (Yv.loadRp rfl ag_3 eV (fun hg => arg_at (by omega))) ?_
    refine ya ?_
    refine rs (ym ?_)
    refine ym ?_
    refine AWL.callK rfl rfl (B rfl) rfl ce_58 (E rfl rfl) (evsC (E rfl rfl) (evsC (E rfl rfl) evs0)) (S1 := [.box bc 55 (chkCells p f (.map (some m)))]) (S2 := _) rfl (reg58 bc p f (.map (some m)) (i.args.getD j default)) (fun t S h => h) ?_
    refine Y1 (Yv.not rfl eV) (nl ?_)
    refine AW.cond rfl (fun h4t => ?_) (fun h4f => ?_)
    ·refine ra ?_
     refine AW.ret (retI (.tmp rfl .nil) ?_)
     refine ⟨by show bv _ = bv _; rw [ins_3 h0f h1f (by unfold w3B; rw [show (hasF i.kind).args = true from h2t, any_at hj2 h4t]; rfl)], by simp⟩
    refine AW.skip ?_
    refine AW.region ?_
    refine Y1 (Yv.addN_i64 rfl eV eV (fun hg => by omega)) ?_
    refine ym (nl ?_)
    refine ⟨j + 1, ⟨by omega, fun q hq => ?_⟩, by omega, (su (su (su (su (su (Sub.cons rfl (by simp) Sub.nil)))))), rfl⟩
    rcases Nat.lt_or_ge q j with h | h
    ·exact hout q h
    obtain rfl : q = j := by omega
    exact h4f
   try replace h3f := odf h3f
   refine AW.exit ?_
   refine ⟨(), by unfold w3B; rw [not_any (fun k hk => hout k (by omega)), Bool.and_false], (su (su (su sn))), rfl⟩
  refine AW.skip ?_
  refine ⟨(), by unfold w3B; rw [show (hasF i.kind).args = false from h2f, Bool.false_and], (su (su (su sn))), rfl⟩
 rintro _ hA
 refine AW.seq ?_
 refine rs (yf fo_58_0 ?_)
 refine yl ag_3 2 (nl ?_)
 refine AW.block ?_
 refine rs (Y1 (Yv.eql rfl eV eV) ?_)
 refine ya ?_
 refine AW.cond rfl (fun h5t => ?_) (fun h5f => ?_)
 ·try replace h5t := odt h5t
  refine rs (yf fo_58_7 ?_)
  refine yl ag_3 2 ?_
  refine Y1 (Yv.geq rfl eV eV) ?_
  refine ym ?_
  refine gT (Yv.fieldBox rfl fo_58_7 eV) ?_
  refine gT (Yv.loadBox rfl ag_3 (i := 2) rfl (Eg rfl rfl id) rfl) ?_
  refine gT (Yv.leq rfl (Eg rfl rfl id) eV) ?_
  refine Y1 (Yv.pickAnd rfl eV (Eg rfl rfl id)) ?_
  refine ya ?_
  refine AW.ret (retI (.tmp rfl .nil) ?_)
  refine ⟨?_, by simp⟩
  show bv _ = bv _
  rw [ins_4 h0f h1f hA]
  unfold restW
  rw [if_pos (by omega)]
 try replace h5f := odf h5f
 refine AW.seq ?_
 refine rs (Y1 (Yv.eql rfl eV eV) ?_)
 refine ya ?_
 refine AW.cond rfl (fun h6t => ?_) (fun h6f => ?_)
 ·try replace h6t := odt h6t
  refine AW.skip ?_
  refine AW.cond rfl (fun h7t => ?_) (fun h7f => ?_)
  ·try replace h7t := odt h7t
   refine rs (yf fo_58_9 ?_)
   refine yl ag_2 2 ?_
   refine Y1 (Yv.geq rfl eV eV) ?_
   refine ym ?_
   refine gT (Yv.fieldBox rfl fo_58_9 eV) ?_
   refine gT (Yv.loadBox rfl ag_2 (i := 2) rfl (Eg rfl rfl id) rfl) ?_
   refine gT (Yv.leq rfl (Eg rfl rfl id) eV) ?_
   refine Y1 (Yv.pickAnd rfl eV (Eg rfl rfl id)) ?_
   refine ya ?_
   refine AW.ret (retI (.tmp rfl .nil) ?_)
   refine ⟨?_, by simp⟩
   show bv _ = bv _
   rw [ins_4 h0f h1f hA]
   unfold restW
   rw [if_neg (by omega), if_pos (by omega)]
  exfalso; replace h7f := odf h7f; omega
 try replace h6f := odf h6f
 refine AW.region ?_
 refine Y1 (Yv.eql rfl eV eV) ?_
 refine ya ?_
 refine AW.cond rfl (fun h8t => ?_) (fun h8f => ?_)
 ·try replace h8t := odt h8t
  refine rs (yf fo_58_9 ?_)
  refine yl ag_2 2 ?_
  refine Y1 (Yv.geq rfl eV eV) ?_
  refine ym ?_
  refine gT (Yv.fieldBox rfl fo_58_9 eV) ?_
  refine gT (Yv.loadBox rfl ag_2 (i := 2) rfl (Eg rfl rfl id) rfl) ?_
  refine gT (Yv.leq rfl (Eg rfl rfl id) eV) ?_
  refine Y1 (Yv.pickAnd rfl eV (Eg rfl rfl id)) ?_
  refine ya ?_
  refine AW.ret (retI (.tmp rfl .nil) ?_)
  refine ⟨?_, by simp⟩
  show bv _ = bv _
  rw [ins_4 h0f h1f hA]
  unfold restW
  rw [if_neg (by omega), if_pos (by omega)]
 try replace h8f := odf h8f
 refine AW.seq ?_
 refine rs (Y1 (Yv.eql rfl eV eV) ?_)
 refine ya ?_
 refine AW.cond rfl (fun h9t => ?_) (fun h9f => ?_)
 ·try replace h9t := odt h9t
  refine AW.skip ?_
  refine AW.cond rfl (fun h10t => ?_) (fun h10f => ?_)
  ·try replace h10t := odt h10t
   have hff : (hasF i.kind).f = true := by
    have hk : i.kind = 22 ∨ i.kind = 24 := by omega
    rcases hk with h | h <;> rw [h] <;> rfl
   refine AW.rseqQ rfl (by kernel_rfl) ?_
   refine qf fo_58_10 ?_
   refine ql ag_47 2 ?_
   refine Q1 (Yv.lenSl rfl so_47 (B rfl) eV len_args) ?_
   refine qm ?_
   refine Q1 (Yv.nilChk rfl eV) ?_
   refine qf fo_55_0 ?_
   refine qf fo_25_0 ?_
   refine ql ag_22 0 ?_
   refine qf fo_58_5 ?_
   refine ql ag_3 2 ?_
   refine Q1 (Yv.indexSl (j := i.f.toNat) rfl ss_22 (B rfl) eV eV (fun hg => ⟨(Int.toNat_of_nonneg (w2_f h1f hff).1).symm, by rw [len_funs]; have := (w2_f h1f hff).2; omega⟩)) ?_
   refine Q1 (Yv.fieldRp rfl fo_51_1 eV) ?_
   refine Q1 (Yv.loadRp rfl ag_3 eV (fun hg => fpar_at (w2_f h1f hff).2)) ?_
   refine Q1 (Yv.eql rfl eV eV) ?_
   refine Q1 (Yv.assign rfl eV) ?_
   refine AWQ.nil ?_
   refine AW.ret (retI (.tmp rfl .nil) ?_)
   refine ⟨?_, by simp⟩
   show bv _ = bv _
   rw [ins_4 h0f h1f hA]
   unfold restW
   rw [if_neg (by omega), if_neg (by omega), if_pos (by omega)]
   rfl
  exfalso; replace h10f := odf h10f; omega
 try replace h9f := odf h9f
 refine AW.region ?_
 refine Y1 (Yv.eql rfl eV eV) ?_
 refine ya ?_
 refine AW.cond rfl (fun h11t => ?_) (fun h11f => ?_)
 ·try replace h11t := odt h11t
  have hff : (hasF i.kind).f = true := by
   have hk : i.kind = 22 ∨ i.kind = 24 := by omega
   rcases hk with h | h <;> rw [h] <;> rfl
  refine AW.rseqQ rfl (by kernel_rfl) ?_
  refine qf fo_58_10 ?_
  refine ql ag_47 2 ?_
  refine Q1 (Yv.lenSl rfl so_47 (B rfl) eV len_args) ?_
  refine qm ?_
  refine Q1 (Yv.nilChk rfl eV) ?_
  refine qf fo_55_0 ?_
  refine qf fo_25_0 ?_
  refine ql ag_22 0 ?_
  refine qf fo_58_5 ?_
  refine ql ag_3 2 ?_
  refine Q1 (Yv.indexSl (j := i.f.toNat) rfl ss_22 (B rfl) eV eV (fun hg => ⟨(Int.toNat_of_nonneg (w2_f h1f hff).1).symm, by rw [len_funs]; have := (w2_f h1f hff).2; omega⟩)) ?_
  refine Q1 (Yv.fieldRp rfl fo_51_1 eV) ?_
  refine Q1 (Yv.loadRp rfl ag_3 eV (fun hg => fpar_at (w2_f h1f hff).2)) ?_
  refine Q1 (Yv.eql rfl eV eV) ?_
  refine Q1 (Yv.assign rfl eV) ?_
  refine AWQ.nil ?_
  refine AW.ret (retI (.tmp rfl .nil) ?_)
  refine ⟨?_, by simp⟩
  show bv _ = bv _
  rw [ins_4 h0f h1f hA]
  unfold restW
  rw [if_neg (by omega), if_neg (by omega), if_pos (by omega)]
  rfl
 try replace h11f := odf h11f
 refine AW.seq ?_
 refine rs (Y1 (Yv.eql rfl eV eV) ?_)
 refine ya ?_
 refine AW.cond rfl (fun h12t => ?_) (fun h12f => ?_)
 ·try replace h12t := odt h12t
  refine AW.skip ?_
  refine AW.cond rfl (fun h13t => ?_) (fun h13f => ?_)
  ·try replace h13t := odt h13t
   refine rs (yf fo_58_10 ?_)
   refine yl ag_47 2 ?_
   refine Y1 (Yv.lenSl rfl so_47 (B rfl) eV len_args) ?_
   refine Y1 (Yv.leq rfl eV eV) ?_
   refine ya ?_
   refine AW.ret (retI (.tmp rfl .nil) ?_)
   refine ⟨?_, by simp⟩
   show bv _ = bv _
   rw [ins_4 h0f h1f hA]
   unfold restW
   rw [if_neg (by omega), if_neg (by omega), if_neg (by omega), if_pos (by omega)]
  exfalso; replace h13f := odf h13f; omega
 try replace h12f := odf h12f
 refine AW.region ?_
 refine Y1 (Yv.eql rfl eV eV) ?_
 refine ya ?_
 refine AW.cond rfl (fun h14t => ?_) (fun h14f => ?_)
 ·try replace h14t := odt h14t
  refine rs (yf fo_58_10 ?_)
  refine yl ag_47 2 ?_
  refine Y1 (Yv.lenSl rfl so_47 (B rfl) eV len_args) ?_
  refine Y1 (Yv.leq rfl eV eV) ?_
  refine ya ?_
  refine AW.ret (retI (.tmp rfl .nil) ?_)
  refine ⟨?_, by simp⟩
  show bv _ = bv _
  rw [ins_4 h0f h1f hA]
  unfold restW
  rw [if_neg (by omega), if_neg (by omega), if_neg (by omega), if_pos (by omega)]
 try replace h14f := odf h14f
 refine rs (Y1 (Yv.eql rfl eV eV) ?_)
 refine ya ?_
 refine AW.cond rfl (fun h15t => ?_) (fun h15f => ?_)
 ·try replace h15t := odt h15t
  refine rs (yf fo_58_10 ?_)
  refine yl ag_47 2 ?_
  refine Y1 (Yv.lenSl rfl so_47 (B rfl) eV len_args) ?_
  refine Y1 (Yv.leq rfl eV eV) ?_
  refine ya ?_
  refine AW.ret (retI (.tmp rfl .nil) ?_)
  refine ⟨?_, by simp⟩
  show bv _ = bv _
  rw [ins_4 h0f h1f hA]
  unfold restW
  rw [if_neg (by omega), if_neg (by omega), if_neg (by omega), if_neg (by omega), if_pos (by omega)]
 try replace h15f := odf h15f
 refine rs (Y1 (Yv.eql rfl eV eV) ?_)
 refine ya ?_
 refine AW.cond rfl (fun h16t => ?_) (fun h16f => ?_)
 ·try replace h16t := odt h16t
  refine AW.rseqQ rfl (by kernel_rfl) ?_
  refine qf fo_58_9 ?_
  refine ql ag_2 2 ?_
  refine Q1 (Yv.geq rfl eV eV) ?_
  refine qm ?_
  refine kT (Yv.fieldBox rfl fo_58_9 eV) ?_
  refine kT (Yv.loadBox rfl ag_2 (i := 2) rfl (Eg rfl rfl id) rfl) ?_
  refine kT (Yv.move rfl eV) ?_
  refine kT (Yv.nilChk rfl (Eg rfl rfl id)) ?_
  refine kT (Yv.fieldBox rfl fo_55_0 (Eg rfl rfl id)) ?_
  refine kT (Yv.fieldBox rfl fo_25_1 (Eg rfl rfl id)) ?_
  refine kT (Yv.loadBox rfl ag_23 (i := 0) rfl (Eg rfl rfl id) rfl) ?_
  refine kT (Yv.lenSl rfl so_23 (B rfl) (Eg rfl rfl id) len_data) ?_
  refine kT (Yv.move rfl eV) ?_
  refine kT (Yv.nilChk rfl (Eg rfl rfl id)) ?_
  refine kT (Yv.fieldBox rfl fo_55_0 (Eg rfl rfl id)) ?_
  refine kT (Yv.fieldBox rfl fo_25_2 (Eg rfl rfl id)) ?_
  refine kT (Yv.loadBox rfl ag_3 (i := 0) rfl (Eg rfl rfl id) rfl) ?_
  refine kT (Yv.addN_i64 rfl (Eg rfl rfl id) (Eg rfl rfl id) (fun hg => by first | omega | (simp only [Bool.and_eq_true, Bool.or_eq_false_iff, Bool.not_eq_true', Bool.not_eq_false', decide_eq_true_eq, decide_eq_false_iff_not] at hg; omega))) ?_
  refine kT (Yv.leq rfl (Eg rfl rfl id) (Eg rfl rfl id)) ?_
  refine Q1 (Yv.pickAnd rfl eV (Eg rfl rfl id)) ?_
  refine Q1 (Yv.assign rfl eV) ?_
  refine AWQ.nil ?_
  refine AW.ret (retI (.tmp rfl .nil) ?_)
  refine ⟨?_, by simp⟩
  show bv _ = bv _
  rw [ins_4 h0f h1f hA]
  unfold restW
  rw [if_neg (by omega), if_neg (by omega), if_neg (by omega), if_neg (by omega), if_neg (by omega), if_pos (by omega)]
 try replace h16f := odf h16f
 refine AW.seq ?_
 refine rs (Y1 (Yv.eql rfl eV eV) ?_)
 refine ya ?_
 refine AW.cond rfl (fun h17t => ?_) (fun h17f => ?_)
 ·try replace h17t := odt h17t
  refine AW.skip ?_
  refine AW.cond rfl (fun h18t => ?_) (fun h18f => ?_)
  ·try replace h18t := odt h18t
   refine AW.rseqQ rfl (by kernel_rfl) ?_
   refine qf fo_58_9 ?_
   refine ql ag_2 2 ?_
   refine Q1 (Yv.geq rfl eV eV) ?_
   refine qm ?_
   refine kT (Yv.fieldBox rfl fo_58_9 eV) ?_
   refine kT (Yv.loadBox rfl ag_2 (i := 2) rfl (Eg rfl rfl id) rfl) ?_
   refine kT (Yv.move rfl eV) ?_
   refine kT (Yv.nilChk rfl (Eg rfl rfl id)) ?_
   refine kT (Yv.fieldBox rfl fo_55_1 (Eg rfl rfl id)) ?_
   refine kT (Yv.fieldBox rfl fo_51_3 (Eg rfl rfl id)) ?_
   refine kT (Yv.loadBox rfl ag_3 (i := 0) rfl (Eg rfl rfl id) rfl) ?_
   refine kT (Yv.lss rfl (Eg rfl rfl id) (Eg rfl rfl id)) ?_
   refine Q1 (Yv.pickAnd rfl eV (Eg rfl rfl id)) ?_
   refine Q1 (Yv.assign rfl eV) ?_
   refine AWQ.nil ?_
   refine AW.ret (retI (.tmp rfl .nil) ?_)
   refine ⟨?_, by simp⟩
   show bv _ = bv _
   rw [ins_4 h0f h1f hA]
   unfold restW
   rw [if_neg (by omega), if_neg (by omega), if_neg (by omega), if_neg (by omega), if_neg (by omega), if_neg (by omega), if_pos (by omega)]
  exfalso; replace h18f := odf h18f; omega
 try replace h17f := odf h17f
 refine AW.region ?_
 refine Y1 (Yv.eql rfl eV eV) ?_
 refine ya ?_
 refine AW.cond rfl (fun h19t => ?_) (fun h19f => ?_)
 ·try replace h19t := odt h19t
  refine AW.rseqQ rfl (by kernel_rfl) ?_
  refine qf fo_58_9 ?_
  refine ql ag_2 2 ?_
  refine Q1 (Yv.geq rfl eV eV) ?_
  refine qm ?_
  refine kT (Yv.fieldBox rfl fo_58_9 eV) ?_
  refine kT (Yv.loadBox rfl ag_2 (i := 2) rfl (Eg rfl rfl id) rfl) ?_
  refine kT (Yv.move rfl eV) ?_
  refine kT (Yv.nilChk rfl (Eg rfl rfl id)) ?_
  refine kT (Yv.fieldBox rfl fo_55_1 (Eg rfl rfl id)) ?_
  refine kT (Yv.fieldBox rfl fo_51_3 (Eg rfl rfl id)) ?_
  refine kT (Yv.loadBox rfl ag_3 (i := 0) rfl (Eg rfl rfl id) rfl) ?_
  refine kT (Yv.lss rfl (Eg rfl rfl id) (Eg rfl rfl id)) ?_
  refine Q1 (Yv.pickAnd rfl eV (Eg rfl rfl id)) ?_
  refine Q1 (Yv.assign rfl eV) ?_
  refine AWQ.nil ?_
  refine AW.ret (retI (.tmp rfl .nil) ?_)
  refine ⟨?_, by simp⟩
  show bv _ = bv _
  rw [ins_4 h0f h1f hA]
  unfold restW
  rw [if_neg (by omega), if_neg (by omega), if_neg (by omega), if_neg (by omega), if_neg (by omega), if_neg (by omega), if_pos (by omega)]
 try replace h19f := odf h19f
 refine AW.skip ?_
 refine ra ?_
 refine AW.ret (retI (.tmp rfl .nil) ?_)
 refine ⟨?_, by simp⟩
 show bv _ = bv _
 rw [ins_4 h0f h1f hA]
 unfold restW
 rw [if_neg (by omega), if_neg (by omega), if_neg (by omega), if_neg (by omega), if_neg (by omega), if_neg (by omega), if_neg (by omega)]

theorem ins35 (bc : Nat) (p : Prog) (f : Fn) (many : LM) (i : Ins) (m : Nat) (hp : ProgIn p) (hi : InsIn i) (hz : 0 ≤ p.zero ∧ p.zero ≤ 268435456) : ACalls Try.prog 35 [.v (.pointer (some ⟨bc, 0, none⟩)), .agg (insCells i)] [.box bc 55 (chkCells p f (.map (some m))), .map m (lmT many)] (fun t S => t = bv (insW p f many i) ∧ S = [.box bc 55 (chkCells p f (.map (some m))), .map m (lmT many)]) :=
 (ins35_ bc p f many i m hp hi hz).less fun t S' ⟨h1, h2⟩ => ⟨_, h2, h1, rfl⟩
end Go.Proofs.Ytlfklgganokgdaa

namespace Go.Proofs.Ytlfklgganokgdaa
open Go Go.RowKit

set_option maxHeartbeats 8000000 in
theorem function20_ (bc : Nat) (p : Prog) (f : Fn) (hp : ProgIn p) (hf : FnIn f) (hz : 0 ≤ p.zero ∧ p.zero ≤ 268435456) :
    ACalls Try.prog 20 [.v (.pointer (some ⟨bc, 0, none⟩))] [.box bc 55 (chkCells p f (.map none))] (fun t S => t = bv (funW p f)) := by
 have hfc := hf.code
 refine ACalls.intro Try.func20 rfl Try.ntmps20 nB rfl fun X w0 => ?_
 refine ra ?_
 refine rs (ym ?_)
 refine Y1 (Yv.nilChk rfl eV) ?_
 refine yf fo_55_1 ?_
 refine Y1 (Yv.loadBoxA rfl ag_51 (i := 0) rfl eV rfl rfl) ?_
 refine AWL.allocOp rfl rfl (B rfl) rfl zc_51 (fun b3 => ?_)
 refine AWL.storeBox (i := 1) rfl rfl rfl ag_51 rfl (E rfl rfl) (E rfl rfl) rfl rfl nB (nl ?_)
 refine AW.eqS (S' := [.box bc 55 (chkCells p f (.map none)), .box b3 51 (fnCells f)]) rfl ?_
 refine rs (yf fo_51_4 ?_)
 refine yl ag_49 1 ?_
 refine Y1 (Yv.lenSl rfl so_49 (B rfl) eV len_code) ?_
 refine ya ?_
 refine AW.seq ?_
 refine rs (yf fo_51_1 ?_)
 refine yl ag_3 1 ?_
 refine Y1 (Yv.lss rfl eV eV) ?_
 refine ym ?_
 refine gF (Yv.fieldBox rfl fo_51_1 eV) ?_
 refine gF (Yv.loadBox rfl ag_3 (i := 1) rfl (Eg rfl rfl id) rfl) ?_
 refine gF (Yv.gtr rfl (Eg rfl rfl id) eV) ?_
 refine Y1 (Yv.pickOr (t := .const (.bool true)) rfl eV (Eg rfl rfl id)) ?_
 refine ym ?_
 refine gF (Yv.fieldBox rfl fo_51_1 eV) ?_
 refine gF (Yv.loadBox rfl ag_3 (i := 1) rfl (Eg rfl rfl id) rfl) ?_
 refine gF (Yv.fieldBox rfl fo_51_2 eV) ?_
 refine gF (Yv.loadBox rfl ag_3 (i := 1) rfl (Eg rfl rfl id) rfl) ?_
 refine gF (Yv.gtr rfl (Eg rfl rfl id) (Eg rfl rfl id)) ?_
 refine Y1 (Yv.pickOr (t := .const (.bool true)) rfl eV (Eg rfl rfl id)) ?_
 refine ym ?_
 refine gF (Yv.fieldBox rfl fo_51_2 eV) ?_
 refine gF (Yv.loadBox rfl ag_3 (i := 1) rfl (Eg rfl rfl id) rfl) ?_
 refine gF (Yv.gtr rfl (Eg rfl rfl id) eV) ?_
 refine Y1 (Yv.pickOr (t := .const (.bool true)) rfl eV (Eg rfl rfl id)) ?_
 refine ym ?_
 refine gF (Yv.fieldBox rfl fo_51_3 eV) ?_
 refine gF (Yv.loadBox rfl ag_3 (i := 1) rfl (Eg rfl rfl id) rfl) ?_
 refine gF (Yv.lss rfl (Eg rfl rfl id) eV) ?_
 refine Y1 (Yv.pickOr (t := .const (.bool true)) rfl eV (Eg rfl rfl id)) ?_
 refine ym ?_
 refine gF (Yv.fieldBox rfl fo_51_3 eV) ?_
 refine gF (Yv.loadBox rfl ag_3 (i := 1) rfl (Eg rfl rfl id) rfl) ?_
 refine gF (Yv.gtr rfl (Eg rfl rfl id) eV) ?_
 refine Y1 (Yv.pickOr (t := .const (.bool true)) rfl eV (Eg rfl rfl id)) ?_
 refine ym ?_
 refine gF (Yv.move rfl eV) ?_
 refine gF (Yv.eql rfl (Eg rfl rfl id) eV) ?_
 refine Y1 (Yv.pickOr (t := .const (.bool true)) rfl eV (Eg rfl rfl id)) ?_
 refine ym ?_
 refine gF (Yv.fieldBox rfl fo_51_4 eV) ?_
 refine gF (Yv.loadBox rfl ag_49 (i := 1) rfl (Eg rfl rfl id) rfl) ?_
 refine gF (Yv.move rfl eV) ?_
 refine gF (Yv.subN_i64 rfl (Eg rfl rfl id) (E rfl rfl) (fun hg => by first | omega | (simp only [Bool.and_eq_true, Bool.or_eq_false_iff, Bool.not_eq_true', Bool.not_eq_false', decide_eq_true_eq, decide_eq_false_iff_not] at hg; omega))) ?_
 refine gF (Yv.indexSl (j := (f.code.length - 1)) rfl ss_49 (B rfl) (Eg rfl rfl id) (Eg rfl rfl id) (fun hg => by simp only [Bool.or_eq_true, Bool.and_eq_true, Bool.or_eq_false_iff, Bool.and_eq_false_iff, Bool.not_eq_true', Bool.not_eq_false', decide_eq_true_eq, decide_eq_false_iff_not, Decidable.not_not] at hg; exact ⟨by omega, by rw [len_code]; omega⟩)) ?_
 refine gF (Yv.fieldRp rfl fo_58_0 (Eg rfl rfl id)) ?_
 refine gF (Yv.loadRp rfl ag_3 (Eg rfl rfl id) (fun hg => ikind_at (by first | omega | (simp only [Bool.or_eq_true, Bool.and_eq_true, Bool.or_eq_false_iff, Bool.and_eq_false_iff, Bool.not_eq_true', Bool.not_eq_false', decide_eq_true_eq, decide_eq_false_iff_not, Decidable.not_not] at hg; omega)))) ?_
 refine AWL.callPgF rfl rfl rfl rfl (B rfl) rfl ce_34 (E rfl rfl) (evsC (Eg rfl rfl id) evs0) (fun hg => ends34 (lastK f)) (fun t S h => h) ?_
 refine gF (Yv.not rfl (Eg rfl rfl id)) ?_
 refine Y1 (Yv.pickOr (t := .const (.bool true)) rfl eV (Eg rfl rfl id)) (nl ?_)
 refine AW.cond rfl (fun h0t => ?_) (fun h0f => ?_)
 ·refine ra ?_
  refine AW.ret (retI (.tmp rfl .nil) ?_)
  show bv _ = bv _
  rw [fw_1 h0t]
 refine AW.skip ?_
 refine rs (ym ?_)
 refine AWL.makeMapOp rfl rfl (B rfl) rfl (fun b62 => ?_)
 refine Y1 (Yv.nilChk rfl eV) ?_
 refine yf fo_55_2 ?_
 refine AWL.storeBox (i := 0) rfl rfl rfl ag_53 rfl (E rfl rfl) (E rfl rfl) rfl rfl nB (nl ?_)
 refine AW.perm (S' := [.box bc 55 (chkCells p f (.map (some b62))), .map b62 (lmT (cntL (f.code.take 0))), .box b3 51 (fnCells f)]) ((List.Perm.swap _ _ []).cons _) ?_
 refine AW.seq ?_
 refine rs (yf fo_51_4 ?_)
 refine yl ag_49 2 ?_
 refine Y1 (Yv.lenSl rfl so_49 (B rfl) eV len_code) ?_
 refine ym (nl ?_)
 refine AW.block ?_
 refine AW.loop (fun (j : Nat) => [(0, true, pv bc), (3, true, pv b3), (66, true, .sl 11 (f.code.flatMap insCells)), (67, true, .v (.int .i64 (f.code.length : Int))), (68, true, .v (.int .i64 (j : Int)))]) (fun (j : Nat) => [.box bc 55 (chkCells p f (.map (some b62))), .map b62 (lmT (cntL (f.code.take j))), .box b3 51 (fnCells f)]) (fun (j : Nat) => j ≤ f.code.length) (fun (j : Nat) => f.code.length - j) 0 ?_ ?_ ?_ ?_
 ·exact Nat.zero_le _
 ·exact (su (su (su (su (su sn)))))
 ·rfl
 intro j hinv
 have hj := hinv
 refine rs (Y1 (Yv.lss rfl eV eV) (nl ?_))
 refine AW.seq ?_
 refine AW.cond rfl (fun h1t => ?_) (fun h1f => ?_)
 ·try replace h1t := odt h1t
  have hj2 : j < f.code.length := by omega
  have hcb := cnt_bd (f.code.take j) (f.code.getD j default).l
  rw [List.length_take] at hcb
  refine AW.skip ?_
  refine AW.seq ?_
  refine AW.block ?_
  refine rs (Y1 (Yv.indexSl rfl ss_49 (B rfl) eV eV (fun hg => ⟨rfl, (by first | omega | (simp only [len_code, len_funs, len_args, len_data]; omega))⟩)) ?_)
  refine Y1 (Yv.loadRpA rfl ag_58 eV (fun hg => ins_cells (by omega))) ?_
  refine AWL.allocOp rfl rfl (B rfl) rfl zc_58 (fun b6 => ?_)
  refine AWL.storeBox (i := 3) rfl rfl rfl ag_58 rfl (E rfl rfl) (E rfl rfl) rfl rfl nB (nl ?_)
  refine rs (yf fo_58_0 ?_)
  refine yl ag_3 3 ?_
  refine Y1 (Yv.eql rfl eV eV) (nl ?_)
  refine AW.cond rfl (fun h2t => ?_) (fun h2f => ?_)
  ·try replace h2t := odt h2t
   refine AW.regionP rfl ?_
   refine AWP.phase [true, true, true, true, true, true, true, true] 1 rfl (by kernel_rfl) (by kernel_rfl) ?_
   refine qm ?_
   refine Q1 (Yv.nilChk rfl eV) ?_
   refine qf fo_55_2 ?_
   refine ql ag_53 0 ?_
   refine qf fo_58_4 ?_
   refine ql ag_3 3 ?_
   refine Q1 (Yv.eqT (Yv.lookup1 (k := .i _ _) (i := 1) rfl mp_53 rfl eV eV rfl (lm_good _ _ rfl)) (get_lm _ _)) ?_
   refine Q1 (Yv.addN_i64 rfl eV eV (fun hg => by omega)) ?_
   refine AWQ.nil ?_
   refine p1 8 ?_
   refine AWL.mapUpd (k := .i _ _) (i := 1) rfl rfl (.inl rfl) mp_53 rfl (E rfl rfl) (E rfl rfl) (E rfl rfl) rfl rfl (lm_good _ _ rfl) (nl ?_)
   refine AWP.done (by kernel_rfl) ?_
   refine AW.dropAt 3 ?_
   refine AW.region ?_
   refine Y1 (Yv.addN_i64 rfl eV eV (fun hg => by omega)) ?_
   refine ym (nl ?_)
   refine ⟨j + 1, by omega, by omega, (su (su (su (su (Sub.cons rfl (by simp) Sub.nil))))), ?_⟩
   rw [cnt_succ hj2, cntStep, if_pos h2t, ← put_lm]
   rfl
  try replace h2f := odf h2f
  refine AW.skip ?_
  refine AW.dropAt 3 ?_
  refine AW.region ?_
  refine Y1 (Yv.addN_i64 rfl eV eV (fun hg => by omega)) ?_
  refine ym (nl ?_)
  refine ⟨j + 1, by omega, by omega, (su (su (su (su (Sub.cons rfl (by simp) Sub.nil))))), ?_⟩
  rw [cnt_succ hj2, cntStep, if_neg h2f]
  rfl
 try replace h1f := odf h1f
 refine AW.exit ?_
 refine AW.seq ?_
 obtain rfl : j = f.code.length := by omega
 rw [List.take_length]
 refine rs (yf fo_51_4 ?_)
 refine yl ag_49 2 ?_
 refine Y1 (Yv.lenSl rfl so_49 (B rfl) eV len_code) ?_
 refine ym (nl ?_)
 refine AW.block ?_
 refine AW.loop (fun (q : Nat) => [(0, true, pv bc), (3, true, pv b3), (85, true, .sl 11 (f.code.flatMap insCells)), (86, true, .v (.int .i64 (f.code.length : Int))), (87, true, .v (.int .i64 (q : Int)))]) (fun (q : Nat) => [.box bc 55 (chkCells p f (.map (some b62))), .map b62 (lmT (cntL f.code)), .box b3 51 (fnCells f)]) (fun (q : Nat) => q ≤ f.code.length ∧ ∀ k, k < q → insW p f (cntL f.code) (f.code.getD k default) = true) (fun (q : Nat) => f.code.length - q) 0 ?_ ?_ ?_ ?_
 ·exact ⟨Nat.zero_le _, fun k hk => absurd hk (Nat.not_lt_zero k)⟩
 ·exact (su (su (su (su (su sn)))))
 ·rfl
 intro q hin3
 obtain ⟨hq, hmr⟩ := hin3
 refine rs (Y1 (Yv.lss rfl eV eV) (nl ?_))
 refine AW.seq ?_
 refine AW.cond rfl (fun h3t => ?_) (fun h3f => ?_)
 ·try replace h3t := odt h3t
  have hq2 : q < f.code.length := by omega
  refine AW.skip ?_
  refine AW.seq ?_
  refine AW.block ?_
  refine rs (Y1 (Yv.indexSl rfl ss_49 (B rfl) eV eV (fun hg => ⟨rfl, (by first | omega | (simp only [len_code, len_funs, len_args, len_data]; omega))⟩)) ?_)
  refine Y1 (Yv.loadRpA rfl ag_58 eV (fun hg => ins_cells (by omega))) ?_
  refine AWL.allocOp rfl rfl (B rfl) rfl zc_58 (fun b8 => ?_)
  refine AWL.storeBox (i := 3) rfl rfl rfl ag_58 rfl (E rfl rfl) (E rfl rfl) rfl rfl nB (nl ?_)
  refine rs (ym ?_)
  refine Y1 (Yv.loadBoxA rfl ag_58 (i := 3) rfl eV rfl rfl) ?_
  refine AWL.callK rfl rfl (B rfl) rfl ce_35 (E rfl rfl) (evsC (E rfl rfl) (evsC (E rfl rfl) evs0)) (S1 := [.box bc 55 (chkCells p f (.map (some b62))), .map b62 (lmT (cntL f.code))]) (S2 := _) rfl (ins35 bc p f (cntL f.code) (f.code.getD q default) b62 hp (hf.ins _ (getD_mem hq2)) hz) (fun t S h => h) ?_
  refine Y1 (Yv.not rfl eV) (nl ?_)
  refine AW.cond rfl (fun h4t => ?_) (fun h4f => ?_)
  ·refine ra ?_
   refine AW.ret (retI (.tmp rfl .nil) ?_)
   show bv _ = bv _
   rw [fw_2 hq2 (by simpa using h4t)]
  refine AW.skip ?_
  refine AW.dropAt 3 ?_
  refine AW.region ?_
  refine Y1 (Yv.addN_i64 rfl eV eV (fun hg => by omega)) ?_
  refine ym (nl ?_)
  refine ⟨q + 1, ⟨by omega, fun k hk => ?_⟩, by omega, (su (su (su (su (Sub.cons rfl (by simp) Sub.nil))))), rfl⟩
  rcases Nat.lt_or_ge k q with h | h
  ·exact hmr k h
  obtain rfl : k = q := by omega
  simpa using h4f
 try replace h3f := odf h3f
 refine AW.exit ?_
 refine ra ?_
 refine AW.ret (retI (.tmp rfl .nil) ?_)
 show bv _ = bv _
 rw [fw_ok h0f (fun k hk => hmr k (by omega))]

theorem function20 (bc : Nat) (p : Prog) (f : Fn) (hp : ProgIn p) (hf : FnIn f) (hz : 0 ≤ p.zero ∧ p.zero ≤ 268435456) : ACalls Try.prog 20 [.v (.pointer (some ⟨bc, 0, none⟩))] [.box bc 55 (chkCells p f (.map none))] (fun t S => t = bv (funW p f) ∧ S = []) :=
 (function20_ bc p f hp hf hz).less fun t S' h => ⟨[], List.nil_sublist _, h, rfl⟩
set_option maxHeartbeats 8000000 in
theorem Check6 (p : Prog) (hp : ProgIn p) :
    ACalls Try.prog 6 [.agg (progCells p)] [] (fun t S => t = zi (checkW p)) := by
 have hpf := hp.funs
 have hpd := hp.data
 have hall := hp.all
 refine ACalls.intro Try.func6 rfl Try.ntmps6 nB rfl fun X w0 => ?_
 refine rs ?_
 refine AWL.boxOp rfl rfl (B rfl) rfl (E rfl rfl) rfl (fun b1 => ?_)
 refine ya ?_
 refine AW.seq ?_
 refine rs (yf fo_25_0 ?_)
 refine yl ag_22 0 ?_
 refine Y1 (Yv.lenSl rfl so_22 (B rfl) eV len_funs) ?_
 refine Y1 (Yv.eql rfl eV eV) ?_
 refine ym ?_
 refine gF (Yv.fieldBox rfl fo_25_0 eV) ?_
 refine gF (Yv.loadBox rfl ag_22 (i := 0) rfl (Eg rfl rfl id) rfl) ?_
 refine gF (Yv.indexSl rfl ss_22 (B rfl) (E rfl rfl) (Eg rfl rfl id) (fun hg => ⟨rfl, (by first | omega | (simp only [len_code, len_funs, len_args, len_data]; omega) | (simp only [len_code, len_funs, len_args, len_data]; simp only [Bool.and_eq_true, Bool.or_eq_false_iff, Bool.not_eq_true', Bool.not_eq_false', decide_eq_true_eq, decide_eq_false_iff_not] at hg; omega))⟩)) ?_
 refine gF (Yv.fieldRp rfl fo_51_1 (Eg rfl rfl id)) ?_
 refine gF (Yv.loadRp rfl ag_3 (Eg rfl rfl id) (fun hg => fpar_at (j := 0) (by first | omega | (simp only [Bool.or_eq_true, Bool.and_eq_true, Bool.or_eq_false_iff, Bool.and_eq_false_iff, Bool.not_eq_true', Bool.not_eq_false', decide_eq_true_eq, decide_eq_false_iff_not, Decidable.not_not] at hg; omega)))) ?_
 refine gF (Yv.neq rfl (Eg rfl rfl id) eV) ?_
 refine Y1 (Yv.pickOr (t := .const (.bool true)) rfl eV (Eg rfl rfl id)) ?_
 refine ym ?_
 refine gF (Yv.fieldBox rfl fo_25_2 eV) ?_
 refine gF (Yv.loadBox rfl ag_3 (i := 0) rfl (Eg rfl rfl id) rfl) ?_
 refine gF (Yv.lss rfl (Eg rfl rfl id) eV) ?_
 refine Y1 (Yv.pickOr (t := .const (.bool true)) rfl eV (Eg rfl rfl id)) ?_
 refine ym ?_
 refine gF (Yv.fieldBox rfl fo_25_2 eV) ?_
 refine gF (Yv.loadBox rfl ag_3 (i := 0) rfl (Eg rfl rfl id) rfl) ?_
 refine gF (Yv.gtr rfl (Eg rfl rfl id) eV) ?_
 refine Y1 (Yv.pickOr (t := .const (.bool true)) rfl eV (Eg rfl rfl id)) ?_
 refine ym ?_
 refine gF (Yv.fieldBox rfl fo_25_1 eV) ?_
 refine gF (Yv.loadBox rfl ag_23 (i := 0) rfl (Eg rfl rfl id) rfl) ?_
 refine gF (Yv.lenSl rfl so_23 (B rfl) (Eg rfl rfl id) len_data) ?_
 refine gF (Yv.fieldBox rfl fo_25_2 eV) ?_
 refine gF (Yv.loadBox rfl ag_3 (i := 0) rfl (Eg rfl rfl id) rfl) ?_
 refine gF (Yv.subN_i64 rfl (E rfl rfl) (Eg rfl rfl id) (fun hg => by first | omega | (simp only [Bool.and_eq_true, Bool.or_eq_false_iff, Bool.not_eq_true', Bool.not_eq_false', decide_eq_true_eq, decide_eq_false_iff_not] at hg; omega))) ?_
 refine gF (Yv.gtr rfl (Eg rfl rfl id) (Eg rfl rfl id)) ?_
 refine Y1 (Yv.pickOr (t := .const (.bool true)) rfl eV (Eg rfl rfl id)) (nl ?_)
 refine AW.cond rfl (fun h0t => ?_) (fun h0f => ?_)
 ·refine ra ?_
  refine AW.ret (retI (.tmp rfl .nil) ?_)
  show zi _ = zi _
  rw [cw_0 h0t]
 refine AW.skip ?_
 refine ra ?_
 refine AW.seq ?_
 refine rs (yf fo_25_0 ?_)
 refine yl ag_22 0 ?_
 refine Y1 (Yv.lenSl rfl so_22 (B rfl) eV len_funs) ?_
 refine ym (nl ?_)
 refine AW.block ?_
 refine AW.loop (fun (j : Nat) => [(1, true, pv b1), (3, true, .v (.int .i64 (sumC p j : Int))), (41, true, .sl 5 (p.funs.flatMap fnCells)), (42, true, .v (.int .i64 (p.funs.length : Int))), (43, true, .v (.int .i64 (j : Int)))]) (fun (j : Nat) => [.box b1 25 (progCells p)]) (fun (j : Nat) => j ≤ p.funs.length) (fun (j : Nat) => p.funs.length - j) 0 ?_ ?_ ?_ ?_
 ·exact Nat.zero_le _
 ·exact (su (su (su (su (su sn)))))
 ·rfl
 intro j hinv
 refine rs (Y1 (Yv.lss rfl eV eV) (nl ?_))
 refine AW.seq ?_
 refine AW.cond rfl (fun h1t => ?_) (fun h1f => ?_)
 ·try replace h1t := odt h1t
  have hj : j < p.funs.length := by omega
  have hs1 := sumC_le p (j + 1)
  have hs2 := sumC_succ hj
  refine AW.skip ?_
  refine AW.seq ?_
  refine AW.block ?_
  refine rs (Y1 (Yv.indexSl rfl ss_22 (B rfl) eV eV (fun hg => ⟨rfl, (by first | omega | (simp only [len_code, len_funs, len_args, len_data]; omega))⟩)) ?_)
  refine Y1 (Yv.loadRpA rfl ag_51 eV (fun hg => fn_cells (by omega))) ?_
  refine AWL.allocOp rfl rfl (B rfl) rfl zc_51 (fun b5 => ?_)
  refine AWL.storeBox (i := 1) rfl rfl rfl ag_51 rfl (E rfl rfl) (E rfl rfl) rfl rfl nB (nl ?_)
  refine AW.region ?_
  refine ym ?_
  refine yf fo_51_4 ?_
  refine yl ag_49 1 ?_
  refine Y1 (Yv.lenSl rfl so_49 (B rfl) eV len_code) ?_
  refine Y1 (Yv.addN_i64 rfl eV eV (fun hg => by omega)) ?_
  refine ya ?_
  refine AW.dropAt 1 ?_
  refine AW.region ?_
  refine Y1 (Yv.addN_i64 rfl eV eV (fun hg => by omega)) ?_
  refine ym (nl ?_)
  refine ⟨j + 1, by omega, by omega, (su (Sub.cons rfl (by rw [sumC_succ hj]; simp) (su (su (Sub.cons rfl (by simp) Sub.nil))))), rfl⟩
 try replace h1f := odf h1f
 have hs3 := sumC_le p p.funs.length
 obtain rfl : j = p.funs.length := by omega
 refine AW.exit ?_
 refine AW.seq ?_
 refine rs (ym ?_)
 refine Y1 (Yv.gtr rfl eV eV) (nl ?_)
 refine AW.cond rfl (fun h2t => ?_) (fun h2f => ?_)
 ·try replace h2t := odt h2t
  exfalso; omega
 try replace h2f := odf h2f
 refine AW.skip ?_
 refine AW.seq ?_
 refine rs (yf fo_25_0 ?_)
 refine yl ag_22 0 ?_
 refine Y1 (Yv.lenSl rfl so_22 (B rfl) eV len_funs) ?_
 refine ym (nl ?_)
 refine AW.block ?_
 refine AW.loop (fun (j : Nat) => [(1, true, pv b1), (56, true, .sl 5 (p.funs.flatMap fnCells)), (57, true, .v (.int .i64 (p.funs.length : Int))), (58, true, .v (.int .i64 (j : Int)))]) (fun (j : Nat) => [.box b1 25 (progCells p)]) (fun (j : Nat) => j ≤ p.funs.length ∧ ∀ k, k < j → funW p (p.funs.getD k default) = true) (fun (j : Nat) => p.funs.length - j) 0 ?_ ?_ ?_ ?_
 ·exact ⟨Nat.zero_le _, fun k hk => absurd hk (Nat.not_lt_zero k)⟩
 ·exact (su (su (su (su sn))))
 ·rfl
 intro j hinv
 obtain ⟨hj2, hfr⟩ := hinv
 refine rs (Y1 (Yv.lss rfl eV eV) (nl ?_))
 refine AW.seq ?_
 refine AW.cond rfl (fun h3t => ?_) (fun h3f => ?_)
 ·try replace h3t := odt h3t
  have hjl : j < p.funs.length := by omega
  have hfi := hp.fn _ (getD_mem hjl)
  have hfc := hfi.code
  refine AW.skip ?_
  refine AW.seq ?_
  refine AW.block ?_
  refine rs (Y1 (Yv.indexSl rfl ss_22 (B rfl) eV eV (fun hg => ⟨rfl, (by first | omega | (simp only [len_code, len_funs, len_args, len_data]; omega))⟩)) ?_)
  refine Y1 (Yv.loadRpA rfl ag_51 eV (fun hg => fn_cells (by omega))) ?_
  refine AWL.allocOp rfl rfl (B rfl) rfl zc_51 (fun b7 => ?_)
  refine AWL.storeBox (i := 1) rfl rfl rfl ag_51 rfl (E rfl rfl) (E rfl rfl) rfl rfl nB (nl ?_)
  refine AW.eqS (S' := [.box b1 25 (progCells p), .box b7 51 (fnCells (p.funs.getD j default))]) rfl ?_
  refine rs (Y1 (Yv.loadBoxA rfl ag_25 (i := 0) rfl eV rfl rfl) ?_)
  refine Y1 (Yv.loadBoxA rfl ag_51 (i := 1) rfl eV rfl rfl) ?_
  refine Y1 (Yv.buildS rfl sh_55 (evpC eV (evpC eV evp0)) (fun _ => rfl)) ?_
  refine AWL.boxOp rfl rfl (B rfl) rfl (E rfl rfl) rfl (fun b65 => ?_)
  refine ya ?_
  refine AW.perm (S' := [.box b65 55 (chkCells p (p.funs.getD j default) (.map none)), .box b1 25 (progCells p), .box b7 51 (fnCells (p.funs.getD j default))]) (List.perm_append_comm (l₁ := ([.box b65 55 (chkCells p (p.funs.getD j default) (.map none))] : St)) (l₂ := [.box b1 25 (progCells p), .box b7 51 (fnCells (p.funs.getD j default))])) ?_
  refine rs (ym ?_)
  refine C1 rfl ce_20 (E rfl rfl) (evsC (E rfl rfl) evs0) (S1 := [.box b65 55 (chkCells p (p.funs.getD j default) (.map none))]) (S2 := _) rfl (function20 b65 p (p.funs.getD j default) hp hfi (pb_zero h0f)) ?_
  rintro t67 S67 ⟨rfl, rfl⟩
  refine Y1 (Yv.not rfl eV) (nl ?_)
  refine AW.cond rfl (fun h4t => ?_) (fun h4f => ?_)
  ·refine ra ?_
   refine AW.ret (retI (.tmp rfl .nil) ?_)
   show zi _ = zi _
   rw [cw_bad h0f (by have := sumC_le p p.funs.length; omega) hjl (by simpa using h4t)]
  refine AW.skip ?_
  refine AW.dropAt 1 ?_
  refine AW.region ?_
  refine Y1 (Yv.addN_i64 rfl eV eV (fun hg => by omega)) ?_
  refine ym (nl ?_)
  refine ⟨j + 1, ⟨by omega, fun k hk => ?_⟩, by omega, (su (su (su (Sub.cons rfl (by simp) Sub.nil)))), rfl⟩
  rcases Nat.lt_or_ge k j with h | h
  ·exact hfr k h
  obtain rfl : k = j := by omega
  simpa using h4f
 try replace h3f := odf h3f
 refine AW.exit ?_
 refine ra ?_
 refine AW.ret (retI (.tmp rfl .nil) ?_)
 show zi _ = zi _
 rw [cw_ok h0f (by have := sumC_le p p.funs.length; omega) (fun k hk => hfr k (by omega))]

end Go.Proofs.Ytlfklgganokgdaa

namespace Go.Proofs.Ytlfklgganokgdaa
open Go Go.RowKit
def rd1 (i : Ins) : List Int := if (hasF i.kind).a = true then [i.a] else []
def rd2 (i : Ins) : List Int := rd1 i ++ if (hasF i.kind).b = true then [i.b] else []
def readsF (i : Ins) : List Int := rd2 i ++ if (hasF i.kind).args = true then i.args else []
theorem rd1_t {i : Ins} (h : (hasF i.kind).a = true) : rd1 i = [i.a] := if_pos h
theorem rd1_f {i : Ins} (h : (hasF i.kind).a = false) : rd1 i = [] := if_neg (by rw [h]; decide)
theorem rd2_t {i : Ins} (h : (hasF i.kind).b = true) : rd2 i = rd1 i ++ [i.b] := by rw [rd2, if_pos h]
theorem rd2_f {i : Ins} (h : (hasF i.kind).b = false) : rd2 i = rd1 i := by rw [rd2, if_neg (by rw [h]; decide), List.append_nil]
theorem rd3_t {i : Ins} (h : (hasF i.kind).args = true) : readsF i = rd2 i ++ i.args := by rw [readsF, if_pos h]
theorem rd3_f {i : Ins} (h : (hasF i.kind).args = false) : readsF i = rd2 i := by rw [readsF, if_neg (by rw [h]; decide), List.append_nil]
def nx1 (wh : LM) (i : Ins) : List Int := if i.kind = 20 ∨ i.kind = 21 then [getL i.l wh] else []
def nextF (wh : LM) (i : Ins) (k : Nat) : List Int := nx1 wh i ++ if endsF i.kind = true then [] else [(k : Int) + 1]
theorem nx1_t {wh : LM} {i : Ins} (h : i.kind = 20 ∨ i.kind = 21) : nx1 wh i = [getL i.l wh] := if_pos h
theorem nx1_f {wh : LM} {i : Ins} (h : ¬ (i.kind = 20 ∨ i.kind = 21)) : nx1 wh i = [] := if_neg h
theorem nx_t {wh : LM} {i : Ins} {k : Nat} (h : endsF i.kind = true) : nextF wh i k = nx1 wh i := by rw [nextF, if_pos h, List.append_nil]
theorem nx_f {wh : LM} {i : Ins} {k : Nat} (h : endsF i.kind = false) : nextF wh i k = nx1 wh i ++ [(k : Int) + 1] := by rw [nextF, if_neg (by rw [h]; decide)]
def bh1 (regs : Nat) (i : Ins) (s : List Bool) : List Bool := if i.kind = 22 ∨ i.kind = 23 then List.replicate regs false ++ s.drop regs else s
def bh2 (regs : Nat) (i : Ins) (s : List Bool) : List Bool := if (hasF i.kind).d = true then (bh1 regs i s).set i.d.toNat true else bh1 regs i s
def behindF (regs : Nat) (i : Ins) (s : List Bool) : List Bool := if i.kind = 32 then (bh2 regs i s).set (regs + i.imm.toNat) true else bh2 regs i s
theorem bh1_len {regs : Nat} {i : Ins} {s : List Bool} (h : regs ≤ s.length) : (bh1 regs i s).length = s.length := by
 unfold bh1
 split
 ·rw [List.length_append, List.length_replicate, List.length_drop]; omega
 rfl
theorem bh2_len {regs : Nat} {i : Ins} {s : List Bool} (h : regs ≤ s.length) : (bh2 regs i s).length = s.length := by
 unfold bh2
 split
 ·rw [List.length_set, bh1_len h]
 exact bh1_len h
theorem behind_len {regs : Nat} {i : Ins} {s : List Bool} (h : regs ≤ s.length) : (behindF regs i s).length = s.length := by
 unfold behindF
 split
 ·rw [List.length_set, bh2_len h]
 exact bh2_len h
theorem rep_set {j regs : Nat} {s : List Bool} (hj : j < regs) (h : regs ≤ s.length) : (List.replicate j false ++ s.drop j).set j false = List.replicate (j + 1) false ++ s.drop (j + 1) := by
 rw [List.set_append_right _ _ (by simp)]
 simp only [List.length_replicate, Nat.sub_self]
 rw [List.drop_eq_getElem_cons (by omega), List.set_cons_zero, List.replicate_succ', List.append_assoc]
 rfl
theorem map_set {α : Type} {f : α → T} {l : List α} {j : Nat} {a : α} : (l.map f).set j (f a) = (l.set j a).map f := (List.map_set ..).symm
structure InsOk (p : Prog) (f : Fn) (many : LM) (i : Ins) : Prop where
 is : isF i.kind = true
 d : (hasF i.kind).d = true → 0 ≤ i.d ∧ i.d < f.regs
 a : (hasF i.kind).a = true → 0 ≤ i.a ∧ i.a < f.regs
 b : (hasF i.kind).b = true → 0 ≤ i.b ∧ i.b < f.regs
 args : (hasF i.kind).args = true → (∀ r ∈ i.args, 0 ≤ r ∧ r < f.regs) ∧ (i.args.length : Int) ≤ mostF i.kind
 cond : (hasF i.kind).cond = true → 1 ≤ i.cond ∧ i.cond ≤ 6
 size : (hasF i.kind).size = true → i.size = 1 ∨ i.size = 4 ∨ i.size = 8
 lab : (hasF i.kind).l = true → getL i.l many = 1
 fn : (hasF i.kind).f = true → 0 ≤ i.f ∧ i.f.toNat < p.funs.length
 par : (hasF i.kind).args = true → (hasF i.kind).f = true → (i.args.length : Int) = parF p i.f
 slot : i.kind = 31 ∨ i.kind = 32 → 0 ≤ i.imm ∧ i.imm < f.slots
 real : i.kind = 16 → 1 ≤ i.real ∧ i.real ≤ 8
 off : i.kind = 17 ∨ i.kind = 18 → -2147483648 ≤ i.imm ∧ i.imm ≤ 2147483647
 dat : i.kind = 27 → 0 ≤ i.imm ∧ i.imm ≤ p.data.length + p.zero
theorem may_ok {p : Prog} {f : Fn} {many : LM} {i : Ins} (h : mayR p f many i = true) : InsOk p f many i := by
 cases h0 : isF i.kind with
 | false => rw [may_0 (by rw [h0]; rfl)] at h; cases h
 | true =>
 have h0' : (!isF i.kind) = false := by rw [h0]; rfl
 cases h1 : badRB (hasF i.kind) f.regs i with
 | true => rw [may_1 h0' h1] at h; cases h
 | false =>
 cases h2 : badCB (hasF i.kind) i with
 | true => rw [may_2 h0' h1 h2] at h; cases h
 | false =>
 cases h3 : badLB (hasF i.kind) p.funs.length many i with
 | true => rw [may_3 h0' h1 h2 h3] at h; cases h
 | false =>
 cases h4 : badAB (hasF i.kind) f.regs i with
 | true => rw [may_4 h0' h1 h2 h3 h4] at h; cases h
 | false =>
 cases h5 : badNB (hasF i.kind) p i with
 | true => rw [may_5 h0' h1 h2 h3 h4 h5] at h; cases h
 | false =>
 rw [may_6 h0' h1 h2 h3 h4 h5] at h
 have q1 := h1
 unfold badRB at q1
 simp only [Bool.or_eq_false_iff, Bool.and_eq_false_iff, decide_eq_false_iff_not] at q1
 have q2 := h2
 unfold badCB at q2
 simp only [Bool.or_eq_false_iff, Bool.and_eq_false_iff, decide_eq_false_iff_not, Bool.not_eq_false', decide_eq_true_eq] at q2
 have q3 := h3
 unfold badLB at q3
 simp only [Bool.or_eq_false_iff, Bool.and_eq_false_iff, decide_eq_false_iff_not, Bool.not_eq_false', decide_eq_true_eq] at q3
 have q5 := h5
 unfold badNB at q5
 simp only [Bool.or_eq_false_iff, Bool.and_eq_false_iff, decide_eq_false_iff_not, Bool.not_eq_false', decide_eq_true_eq] at q5
 refine ⟨h0, fun e => ?_, fun e => ?_, fun e => ?_, fun e => ⟨fun r hr => ?_, ?_⟩, fun e => ?_, fun e => ?_, fun e => ?_, fun e => lb_lt h3 e, fun e e' => ?_, fun e => ?_, fun e => ?_, fun e => ?_, fun e => ?_⟩
 ·rw [e] at q1; simp at q1; omega
 ·rw [e] at q1; simp at q1; omega
 ·rw [e] at q1; simp at q1; omega
 ·have q4 := h4
  unfold badAB at q4
  rw [e, Bool.true_and, List.any_eq_false] at q4
  have := q4 r hr
  unfold outB at this
  simp at this
  omega
 ·rw [e] at q5; simp at q5; omega
 ·rw [e] at q2; simp at q2; omega
 ·rw [e] at q2; simp at q2; omega
 ·rw [e] at q3; simp at q3; omega
 ·rw [e, e'] at q5; simp at q5; exact q5.2
 ·unfold restB at h
  rw [if_neg (by omega), if_neg (by omega), if_neg (by omega), if_pos e] at h
  simp only [Bool.and_eq_true, decide_eq_true_eq] at h
  exact h
 ·unfold restB at h
  rw [if_pos e] at h
  simp only [Bool.and_eq_true, decide_eq_true_eq] at h
  exact h
 ·unfold restB at h
  rw [if_neg (by omega), if_pos e] at h
  simp only [Bool.and_eq_true, decide_eq_true_eq] at h
  exact h
 unfold restB at h
 rw [if_neg (by omega), if_neg (by omega), if_pos e] at h
 simp only [Bool.and_eq_true, decide_eq_true_eq] at h
 exact h
structure FnOk (p : Prog) (f : Fn) : Prop where
 par0 : 0 ≤ f.params
 par1 : f.params ≤ 4
 par2 : f.params ≤ f.regs
 regs : f.regs ≤ 65536
 slot0 : 0 ≤ f.slots
 slot1 : f.slots ≤ 1048576
 code : 0 < f.code.length
 last : endsF (lastK f) = true
 ins : ∀ i ∈ f.code, InsOk p f (cntL f.code) i
theorem fun_good {p : Prog} {f : Fn} (h : funR p f = true) : FnOk p f := by
 unfold funR at h
 rw [Bool.and_eq_true, Bool.and_eq_true, Bool.not_eq_true', List.all_eq_true] at h
 have q := h.1.1
 unfold badFB at q
 simp only [Bool.or_eq_false_iff, decide_eq_false_iff_not] at q
 exact ⟨by omega, by omega, by omega, by omega, by omega, by omega, by omega, h.1.2, fun i hi => may_ok (h.2 i hi)⟩
structure ProgOk (p : Prog) : Prop where
 first : (p.funs.getD 0 default).params = 0
 some : 0 < p.funs.length
 zero : 0 ≤ p.zero ∧ p.zero ≤ 268435456
 data : p.data.length + p.zero ≤ 268435456
 fn : ∀ f ∈ p.funs, FnOk p f
theorem check_good {p : Prog} (h : checkR p = 0) : ProgOk p := by
 unfold checkR at h
 cases hp : badPB p with
 | true => rw [if_pos hp] at h; cases h
 | false =>
  rw [if_neg (by rw [hp]; decide)] at h
  split at h
  ·cases h
  split at h
  ·rename_i ha
   rw [List.all_eq_true] at ha
   have q := hp
   unfold badPB at q
   simp only [Bool.or_eq_false_iff, decide_eq_false_iff_not, Bool.not_eq_false', decide_eq_true_eq] at q
   exact ⟨by omega, by omega, by omega, by omega, fun f hf => fun_good (ha f hf)⟩
  ·cases h
end Go.Proofs.Ytlfklgganokgdaa

namespace Go.Proofs.Ytlfklgganokgdaa
open Go Go.RowKit
section
variable {cx : Cx} {env : Env} {S : St} {o : Oper} {g : Bool} {x y z : Operand} {ops : Array Oper} {l : List Oper} {K : Env → St → Prop} {Q : Exit → Env → St → Prop} {d : Nat}
theorem run_append_rowS {P : Program} {w : World} {t tx ty e : TypeId} {k b n c m : Nat} {zs us news : List Value} {A : Option Addr} {v : Value} (he : elemOf P t = some (e, k, b, zs)) (hk : 0 < k) (hrow : RowIs w e k A n c us) (hs : Src P k tx v m news w) (h63 : n + m ≤ maxLen) (hb : (n + m) * b ≤ 140737488355328) :
    ∃ A' c' w', (Builtin.append_ #[t, tx] ty #[.slice A n c, v]).run P w = .ok (.slice A' (n + m) c') w' ∧ RowIs w' e k A' (n + m) c' (us ++ news) ∧ (∀ g, A'.map (·.block) = some g → A.map (·.block) = some g ∨ g = w.heap.size) ∧
     (∀ g, g < w.heap.size → A.map (·.block) ≠ some g → w'.heap[g]? = w.heap[g]?) ∧ w.heap.size ≤ w'.heap.size ∧ w'.os = w.os ∧ w'.tape = w.tape ∧ w'.output = w.output ∧ (A.isSome = true → A'.isSome = true) := by
 obtain ⟨h1, i, z, h2, h3, rfl, rfl, h6, h7, h8⟩ := elemOf_spec he
 obtain ⟨r1, r2, r3, r4⟩ := hrow
 by_cases hroom : n + m ≤ c
 ·rcases r4 with ⟨rfl, rfl, rfl⟩ | ⟨gb, cur, fr, rfl, hh, hfr, hsz, htk⟩
  ·obtain rfl : m = 0 := by omega
   obtain rfl : us = [] := List.eq_nil_of_length_eq_zero (by simpa using r1)
   obtain rfl : news = [] := List.eq_nil_of_length_eq_zero (by simpa using hs.newsLen)
   exact ⟨none, 0, w, run_append_nil0 w t tx ty e i h1 h2 v [] hs, ⟨by simp, by unfold maxLen; omega, Nat.le_refl _, .inl ⟨rfl, rfl, rfl⟩⟩, (fun g hg => by cases hg), fun _ _ _ => rfl, Nat.le_refl _, rfl, rfl, rfl, fun h => h⟩
  have hfit : n * i.size + news.length ≤ cur.size := by
   rw [hs.newsLen, hsz, ← Nat.add_mul]
   exact Nat.mul_le_mul_right _ hroom
  have hcell : ∀ j, j < news.length → (w.cell? ⟨gb, 0 + n * i.size + j, none⟩).isSome = true := fun j hj => by
   rw [cell_of_row w gb _ cur e fr hh, Array.getElem?_eq_getElem (by omega)]
   rfl
  have hfro : ∀ j, j < news.length → w.frozen? ⟨gb, 0 + n * i.size + j, none⟩ = false := fun j hj => by
   obtain ⟨lo, hi'⟩ := fr
   simp only [World.frozen?, hh]
   simp only at hfr
   rcases hfr with h | h <;> (simp; intro h'; omega)
  have hrun := run_append_room_src (P := P) w t tx ty e i h1 h2 gb 0 n c v m news hs hroom hcell hfro
  obtain ⟨cur', c1, c2⟩ := setCells_heap gb news (0 + n * i.size) w cur hh (by omega)
  obtain ⟨s1, s2, s3, s4, s5⟩ := setCells_rest gb news (0 + n * i.size) w
  refine ⟨_, _, _, hrun, ⟨by simp [r1, hs.newsLen, Nat.add_mul], r2, hroom, .inr ⟨gb, cur', fr, rfl, c1, ?_, ?_, ?_⟩⟩, fun g hg => .inl hg, fun g _ hne => s5 g (fun e => hne (by subst e; rfl)), Nat.le_of_eq s1.symm, s2, s3, s4, fun _ => rfl⟩
  ·have : cur'.size = cur.size := by
    have := congrArg List.length c2
    simp at this
    omega
   rw [this]; exact hfr
  ·have := congrArg List.length c2
   simp at this
   omega
  rw [c2, Nat.zero_add, htk]
  have : us.length + news.length = (n + m) * i.size := by rw [r1, hs.newsLen, Nat.add_mul]
  rw [← this]
  rw [← List.length_append, List.take_left]
 have hn' : c < n + m := by omega
 have hold : (Builtin.firstCells i.size n (.slice A n c)).run P w.drew = .ok us.toArray w.drew := by
  rcases r4 with ⟨rfl, rfl, rfl⟩ | ⟨gb, cur, fr, rfl, hh, hfr, hsz, htk⟩
  ·obtain rfl : us = [] := List.eq_nil_of_length_eq_zero (by simpa using r1)
   exact run_firstCells_none w.drew _ _ _ _
  ·refine run_firstCells_some w.drew _ _ _ _ _ us r1 (fun j u hu => ?_)
   rw [add_lit', Nat.zero_add]
   exact RowIs.cell (w := w) (e := e) (size := i.size) (n := n) (c := c) ⟨r1, r2, r3, .inr ⟨gb, cur, fr, rfl, hh, hfr, hsz, htk⟩⟩ hu
 have hfit := growslice_fits hn' hb
 unfold maxLen at h63
 have hrun := run_append_grow_src (P := P) w t tx ty e i z h1 h2 h3 A n c us hold v m news hs hn' (by omega) hfit
 have hcap1 := grownCap_ge w (n + m) c e
 have hcap2 := grownCap_le_maxLen w (n + m) c e (by unfold maxLen; omega)
 have hlen : us.length + news.length = (n + m) * i.size := by rw [r1, hs.newsLen, Nat.add_mul]
 refine ⟨_, _, _, hrun, ⟨by simp [hlen], hcap2, hcap1, .inr ⟨w.heap.size, _, (0, 0), rfl, heap_alloc_new w.drew _, .inl rfl, ?_, ?_⟩⟩, fun g hg => .inr (by simpa using hg.symm), fun g hg _ => Below.heap_alloc w.drew _ g hg, by simp, rfl, rfl, rfl, fun _ => rfl⟩
 ·have hz : z.cells.size = i.size := by rw [h6]; simpa using h7
  simp only [Array.size_append, List.size_toArray, List.length_append, hlen, size_zeroCells, hz]
  rw [← Nat.add_mul]
  congr 1
  omega
 simp only [Array.toList_append]
 have e1 : (us ++ news).length = (n + m) * i.size := by simp [hlen]
 rw [← e1, List.take_left]

theorem AWL.appendRowS {t tx e : TypeId} {k b n c m i : Nat} {zs : List Value} {A : Option Addr} {cs news : List T} (hg : o.guard = none) (hd : o.dst = some d) (hN : d < cx.N)
    (ho : o.op = .call { callee := .builtin .append, args := #[x, y], argTypes := #[t, tx] }) (he : elemOf cx.P t = some (e, k, b, zs)) (hk : 0 < k) (hi : S[i]? = some (.row A n c e k cs)) (hx : Ev env true x (.v (.slice A n c))) (hy : SrcT cx env S y tx k m news)
    (h63 : n + m ≤ maxLen) (hb : (n + m) * b ≤ 140737488355328)
    (hA : A.isSome = true) (hr : ∀ A' c', A'.isSome = true → AWL cx ops l K ((d, true, .v (.slice A' (n + m) c')) :: env) (S.set i (.row A' (n + m) c' e k (cs ++ news)))) : AWL cx ops (o :: l) K env S := by
 refine AWL.eff hg hd hN fun a w hs => ?_
 obtain ⟨us, hrow, hV⟩ := hs.row hi
 obtain ⟨ns, hVn, hsrc⟩ := hy a w hs
 obtain ⟨A', c', w', hrun, hrow', hblk, hkeep, hsz, hos, htp, hou, hSo⟩ := run_append_rowS (ty := o.type) he hk hrow hsrc h63 hb
 refine ⟨_, w', _, _, ?_, ?_, .v _, hr A' c' (hSo hA)⟩
 ·simp only [execOp, ho, resolve, invoke, builtin, Sem.run_bind, Sem.run_pure, Result.andThen_ok, List.map_toArray, List.map_cons, List.map_nil, hx.val hs rfl, hrun]
 refine hs.swap hi hblk hkeep hsz hos htp hou (fun L hL => ⟨us ++ ns, hrow', ?_⟩)
 have hb' : ∀ b, b < w.heap.size → b ∉ cx.X ++ M S → w'.heap[b]? = w.heap[b]? := fun b hlt hm => hkeep b hlt (fun h => hm (List.mem_append.2 (.inr (mem_M.2 ⟨_, List.mem_of_getElem? hi, h⟩))))
 exact (hV.append hVn).mono hsz hb' hL

theorem AWL.makeRowS {t e : TypeId} {n c k b : Nat} {zs : List Value} {kl kc : IntKind} (hg : o.guard = none) (hd : o.dst = some d) (hN : d < cx.N) (ho : o.op = .makeSlice t x y) (he : elemOf cx.P t = some (e, k, b, zs))
    (hx : Ev env true x (.v (.int kl (n : Int)))) (hy : Ev env true y (.v (.int kc (c : Int)))) (hnc : n ≤ c) (hb : b * c ≤ 281474976710656) (hc : c ≤ maxLen)
    (hr : ∀ A, A.isSome = true → AWL cx ops l K ((d, true, .v (.slice A n c)) :: env) (S ++ [.row A n c e k (List.replicate n (zs.map T.v)).flatten])) : AWL cx ops (o :: l) K env S := by
 refine AWL.eff hg hd hN fun a w hs => ?_
 obtain ⟨h1, i, z, h2, h3, h4, h5, h6, h7, h8⟩ := elemOf_spec he
 have hka := keeps_alloc w (.cells ((List.replicate c zs).flatten).toArray e)
 refine ⟨_, _, _, _, run_mk ho he (hx.val hs rfl) (hy.val hs rfl) hnc hb hc w, ?_, .v _, hr _ rfl⟩
 refine hs.add rfl hka ⟨(List.replicate n zs).flatten, ⟨flat_len n k zs h7, hc, hnc, .inr ⟨w.heap.size, _, (0, 0), rfl, heap_alloc_new w _, .inl rfl, by simpa using flat_len c k zs h7, flat_take n c k zs h7 hnc⟩⟩, hs.repsAdd rfl hka (vreps_flat n zs h8)⟩

theorem AWL.buildSliceRowS {t e : TypeId} {n k b : Nat} {zs : List Value} {parts : Array (Nat × Operand)} {ts : List T} (hg : o.guard = none) (hd : o.dst = some d) (hN : d < cx.N) (ho : o.op = .buildSlice t n parts)
    (he : elemOf cx.P t = some (e, k, b, zs)) (hk : 0 < k) (hi : idxOk 0 parts.toList = true) (hp : Evs env true (parts.toList.map (·.2)) ts) (hn : n * k ≤ 16777216) (hl : ts.length = n) (hall : (ts.all fun t => t.cellish && ((cellsT t).length == k)) = true)
    (hr : ∀ A, A.isSome = true → AWL cx ops l K ((d, true, .v (.slice A n n)) :: env) (S ++ [.row A n n e k (ts.flatMap cellsT)])) : AWL cx ops (o :: l) K env S := by
 refine AWL.eff hg hd hN fun a w hs => ?_
 obtain ⟨h1, i, z, h2, h3, h4, h5, h6, h7, h8⟩ := elemOf_spec he
 have hall' : ∀ t ∈ ts, t.cellish = true ∧ (cellsT t).length = k := fun t ht => by
  have := List.all_eq_true.1 hall t ht
  simpa using this
 have hfl : ((List.replicate n (zs.map T.v)).flatten).length = n * k := flat_len n k _ (by simpa using h7)
 have hf := fill_enum ts 0 ((List.replicate n (zs.map T.v)).flatten) hall' (by rw [hfl, hl, Nat.zero_add]; exact Nat.le_refl _)
 rw [Nat.zero_add, hl, Nat.zero_mul, List.take_zero, List.nil_append, List.drop_of_length_le (by rw [hfl]; exact Nat.le_refl _), List.append_nil] at hf
 obtain ⟨e1, e2⟩ := (evParts_enum hi hp).spec hs rfl
 have hz : VReps w (cx.X ++ M S) ((List.replicate n (zs.map T.v)).flatten) ((Array.range (n * k)).map (zs.toArray[· % zs.toArray.size]!)).toList := by rw [rep_range h7]; exact vreps_flat n zs h8
 obtain ⟨cells, c1, c2⟩ := fill_spec _ _ _ _ _ hz e1 e2 hf
 have hlen : (ts.flatMap cellsT).length = n * k := by
  rw [← hl]
  clear c2 hf hfl hl hp hall hr c1 e1 e2
  induction ts with
  | nil => simp
  | cons t r ih =>
   rw [List.flatMap_cons, List.length_append, (hall' t List.mem_cons_self).2, ih (fun t ht => hall' t (List.mem_cons_of_mem _ ht)), List.length_cons, Nat.succ_mul, Nat.add_comm]
 have hka := keeps_alloc w (.cells cells e)
 refine ⟨.slice (some ⟨w.heap.size, 0, none⟩) n n, w.alloc (.cells cells e), _, _, ?_, ?_, .v _, hr _ rfl⟩
 ·have hlim : ¬ (n * k > 2 ^ 24) := by omega
  simp only [execOp, ho, Instr.buildSlice, Sem.run_bind, run_underlying h1, Result.andThen_ok, sizeOf, typeInfo, run_program, h2, h4, Sem.run_pure]
  rw [if_neg hlim]
  have hl' : (Array.map (fun p : Nat × Operand => (p.1, a.eval p.2)) parts).toList = parts.toList.map fun p => (p.1, a.eval p.2) := by simp
  by_cases h0 : n * k = 0
  ·rw [if_pos h0]
   rw [h0, show Array.range 0 = #[] from rfl, Array.map_empty] at c1
   have hfill : Instr.fill (fun i => some (i * k, k)) ((Array.range (n * k)).map fun x => (#[] : Array Value)[x % (#[] : Array Value).size]!) (Array.map (fun p : Nat × Operand => (p.1, a.eval p.2)) parts).toList = some cells := by
    rw [h0, show Array.range 0 = #[] from rfl, Array.map_empty, hl']
    exact c1
   simp only [Sem.run_bind, Sem.run_pure, Result.andThen_ok, hfill, newRow, run_newObj]
   rfl
  rw [if_neg h0]
  have hfill : Instr.fill (fun i => some (i * k, k)) ((Array.range (n * k)).map fun x => zs.toArray[x % zs.toArray.size]!) (Array.map (fun p : Nat × Operand => (p.1, a.eval p.2)) parts).toList = some cells := by
   rw [hl']
   exact c1
  simp only [Sem.run_bind, Sem.run_pure, Result.andThen_ok, zeroValue, typeInfo, run_program, h2, h3, h6, hfill, newRow, run_newObj]
  rfl
 have hm : n ≤ maxLen := by
  unfold maxLen
  have : n ≤ n * k := Nat.le_mul_of_pos_right n hk
  omega
 refine hs.add rfl hka ⟨cells.toList, ⟨by rw [← c2.len, hlen], hm, Nat.le_refl _, .inr ⟨w.heap.size, cells, (0, 0), rfl, heap_alloc_new w _, .inl rfl, ?_, ?_⟩⟩, hs.repsAdd rfl hka c2⟩
 ·have := c2.len
  rw [hlen] at this
  simpa using this.symm
 have := c2.len
 rw [hlen] at this
 rw [this]
 exact List.take_length
end
end Go.Proofs.Ytlfklgganokgdaa

namespace Go.Proofs.Ytlfklgganokgdaa
open Go Go.RowKit
abbrev Fam := List (Option (List Bool))
def leB (a b : List Bool) : Prop := ∀ n, a.getD n false = true → b.getD n false = true
def leO : Option (List Bool) → Option (List Bool) → Prop
 | _, none => True
 | none, some _ => False
 | some a, some b => leB a b
def famAt (X : Fam) (k : Nat) : Option (List Bool) := X.getD k none
def firstF (R W P : Nat) : List Bool := List.replicate P true ++ List.replicate (W - P) false
structure Sol (f : Fn) (R W : Nat) (Y : Fam) : Prop where
 len : Y.length = f.code.length
 bits : ∀ k a, famAt Y k = some a → a.length = W
 first : ∃ a, famAt Y 0 = some a ∧ leB a (firstF R W f.params.toNat)
 step : ∀ k a, k < f.code.length → famAt Y k = some a → ∀ l ∈ nextF (whL f.code) (f.code.getD k default) k, leO (famAt Y l.toNat) (some (behindF R (f.code.getD k default) a))
def readOkB (R : Nat) (i : Ins) (a : List Bool) : Bool := (readsF i).all (fun r => a.getD r.toNat false) && (!decide (i.kind = 31) || a.getD (R + i.imm.toNat) false)
def ReadsOk (f : Fn) (R : Nat) (X : Fam) : Prop := ∀ k a, k < f.code.length → famAt X k = some a → readOkB R (f.code.getD k default) a = true
def StrictF (f : Fn) : Prop := ∃ Y, Sol f f.regs.toNat (f.regs.toNat + f.slots.toNat) Y ∧ ReadsOk f f.regs.toNat Y
theorem leB.refl (a : List Bool) : leB a a := fun _ h => h
theorem leB.trans {a b c : List Bool} (h : leB a b) (h' : leB b c) : leB a c := fun n q => h' n (h n q)
theorem leO.trans {a b c : Option (List Bool)} (h : leO a b) (h' : leO b c) : leO a c := by
 cases c with
 | none => cases a <;> trivial
 | some c =>
  cases b with
  | none => exact absurd h' (by cases a <;> exact id)
  | some b =>
   cases a with
   | none => exact h
   | some a => exact leB.trans h h'
theorem getD_set {l : List Bool} {i n : Nat} {b : Bool} : (l.set i b).getD n false = if i = n ∧ i < l.length then b else l.getD n false := by
 simp only [List.getD_eq_getElem?_getD, List.getElem?_set]
 by_cases h : i = n
 ·subst h
  by_cases h2 : i < l.length
  ·simp [h2]
  simp [h2]
 simp [h]
theorem leB.set {a b : List Bool} (h : leB a b) (hl : a.length = b.length) (i : Nat) : leB (a.set i true) (b.set i true) := fun n q => by
 rw [getD_set] at q ⊢
 split at q
 ·rename_i h1; rw [if_pos ⟨h1.1, by omega⟩]
 ·rename_i h1; rw [if_neg (fun h2 => h1 ⟨h2.1, by omega⟩)]; exact h n q
theorem getD_rep {R : Nat} {s : List Bool} {n : Nat} (h : R ≤ s.length) : (List.replicate R false ++ s.drop R).getD n false = if n < R then false else s.getD n false := by
 simp only [List.getD_eq_getElem?_getD]
 by_cases hn : n < R
 ·rw [List.getElem?_append_left (by simpa using hn), if_pos hn]
  simp [hn]
 rw [List.getElem?_append_right (by simp; omega), if_neg hn, List.getElem?_drop, List.length_replicate, show R + (n - R) = n by omega]
theorem behind_mono {R : Nat} {i : Ins} {a b : List Bool} (h : leB a b) (hl : a.length = b.length) (hR : R ≤ a.length) : leB (behindF R i a) (behindF R i b) := by
 have h1 : leB (bh1 R i a) (bh1 R i b) := by
  unfold bh1
  split
  ·intro n q
   rw [getD_rep (by omega)] at q ⊢
   split at q
   ·cases q
   ·rename_i h2; rw [if_neg h2]; exact h n q
  ·exact h
 have l1 : (bh1 R i a).length = (bh1 R i b).length := by rw [bh1_len hR, bh1_len (by omega), hl]
 have h2 : leB (bh2 R i a) (bh2 R i b) := by
  unfold bh2
  split
  ·exact h1.set l1 _
  ·exact h1
 have l2 : (bh2 R i a).length = (bh2 R i b).length := by rw [bh2_len hR, bh2_len (by omega), hl]
 unfold behindF
 split
 ·exact h2.set l2 _
 exact h2
/-! ### the search for the greatest family -/
def meetB (a b : List Bool) : List Bool := List.zipWith (· && ·) a b
def meetX (X : Fam) (l : Nat) (out : List Bool) : Fam := X.set l (some (match famAt X l with | none => out | some a => meetB a out))
theorem meet_get {a b : List Bool} (hl : a.length = b.length) (n : Nat) : (meetB a b).getD n false = (a.getD n false && b.getD n false) := by
 unfold meetB
 simp only [List.getD_eq_getElem?_getD, List.getElem?_zipWith]
 by_cases h : n < a.length
 ·rw [List.getElem?_eq_getElem h, List.getElem?_eq_getElem (by omega)]; rfl
 rw [List.getElem?_eq_none (by omega), List.getElem?_eq_none (by omega)]; rfl
theorem famAt_set {X : Fam} {l k : Nat} {v : Option (List Bool)} (hl : l < X.length) : famAt (X.set l v) k = if k = l then v else famAt X k := by
 unfold famAt
 simp only [List.getD_eq_getElem?_getD, List.getElem?_set]
 by_cases h : l = k
 ·subst h; simp [hl]
 rw [if_neg h, if_neg (fun e => h e.symm)]
def Above (f : Fn) (R W : Nat) (X : Fam) : Prop := ∀ Y, Sol f R W Y → ∀ k, leO (famAt Y k) (famAt X k)
structure FamIn (f : Fn) (W : Nat) (X : Fam) : Prop where
 len : X.length = f.code.length
 bits : ∀ k a, famAt X k = some a → a.length = W
theorem FamIn.meet {f : Fn} {W l : Nat} {X : Fam} {out : List Bool} (h : FamIn f W X) (hl : l < f.code.length) (ho : out.length = W) : FamIn f W (meetX X l out) := by
 refine ⟨by unfold meetX; rw [List.length_set, h.len], fun k a ha => ?_⟩
 unfold meetX at ha
 rw [famAt_set (by rw [h.len]; exact hl)] at ha
 split at ha
 ·cases hX : famAt X l with
  | none => rw [hX] at ha; simp only [Option.some.injEq] at ha; rw [← ha]; exact ho
  | some c =>
   rw [hX] at ha
   simp only [Option.some.injEq] at ha
   rw [← ha]
   unfold meetB
   rw [List.length_zipWith, h.bits _ c hX, ho, Nat.min_self]
 exact h.bits k a ha
/-! ### how much is left -/
def potO (W : Nat) : Option (List Bool) → Nat
 | none => W + 1
 | some a => a.countP id
def pot (W : Nat) (X : Fam) : Nat := (X.map (potO W)).sum
theorem sum_set {l : List Nat} {k : Nat} {v : Nat} (h : k < l.length) : (l.set k v).sum + l.getD k 0 = l.sum + v := by
 induction l generalizing k with
 | nil => simp at h
 | cons x r ih =>
  cases k with
  | zero => simp; omega
  | succ k =>
   have := ih (k := k) (by simpa using h)
   simp only [List.set_cons_succ, List.sum_cons, List.getD_cons_succ]
   omega
theorem pot_set {W k : Nat} {X : Fam} {v : Option (List Bool)} (h : k < X.length) : pot W (X.set k v) + potO W (famAt X k) = pot W X + potO W v := by
 unfold pot
 rw [List.map_set]
 have := sum_set (l := X.map (potO W)) (k := k) (v := potO W v) (by simpa using h)
 rw [show (X.map (potO W)).getD k 0 = potO W (famAt X k) by unfold famAt; simp [h]] at this
 exact this
theorem count_le (a : List Bool) : a.countP id ≤ a.length := List.countP_le_length
end Go.Proofs.Ytlfklgganokgdaa

namespace Go.Proofs.Ytlfklgganokgdaa
open Go Go.RowKit
theorem wh_pre {code : List Ins} (l : Int) : ∀ j, j ≤ code.length → 1 ≤ getL l (cntL (code.take j)) → 0 ≤ getL l (whT code j) ∧ getL l (whT code j) < j := by
 intro j
 induction j with
 | zero => intro _ h; simp [cntL, getL] at h
 | succ j ih =>
  intro hj h
  rw [cnt_succ (by omega)] at h
  rw [wh_succ (by omega)]
  have ih := ih (by omega)
  unfold cntStep at h
  unfold whStep
  by_cases hk : (code.getD j default).kind = 19
  ·rw [if_pos hk] at h ⊢
   rw [getL_put] at h ⊢
   by_cases hl : l = (code.getD j default).l
   ·rw [if_pos hl]; constructor <;> simp only <;> omega
   ·rw [if_neg hl] at h ⊢
    have := ih h
    omega
  ·rw [if_neg hk] at h ⊢
   have := ih h
   omega
theorem wh_in {code : List Ins} {l : Int} (h : 1 ≤ getL l (cntL code)) : 0 ≤ getL l (whL code) ∧ getL l (whL code) < code.length := by
 have := wh_pre (code := code) l code.length (Nat.le_refl _) (by rw [List.take_length]; exact h)
 rwa [wh_all (Nat.le_refl _)] at this
theorem next_in {p : Prog} {f : Fn} (hf : FnOk p f) {k : Nat} (hk : k < f.code.length) : ∀ l ∈ nextF (whL f.code) (f.code.getD k default) k, 0 ≤ l ∧ l.toNat < f.code.length := by
 intro l hl
 unfold nextF at hl
 rcases List.mem_append.1 hl with hl | hl
 ·unfold nx1 at hl
  split at hl
  ·rename_i hk2
   rw [List.mem_singleton] at hl
   subst hl
   have hlab := (hf.ins _ (getD_mem hk)).lab (by rcases hk2 with h | h <;> rw [h] <;> rfl)
   have := wh_in (code := f.code) (l := (f.code.getD k default).l) (by omega)
   omega
  cases hl
 split at hl
 ·cases hl
 rename_i he
 rw [List.mem_singleton] at hl
 subst hl
 have : k + 1 ≠ f.code.length := fun e => he (by
  have h1 := hf.last
  unfold lastK at h1
  rwa [show f.code.length - 1 = k by omega] at h1)
 omega
theorem reads_in {p : Prog} {f : Fn} {many : LM} {i : Ins} (h : InsOk p f many i) : ∀ r ∈ readsF i, 0 ≤ r ∧ r < f.regs := by
 intro r hr
 unfold readsF rd2 rd1 at hr
 rcases List.mem_append.1 hr with hr | hr
 ·rcases List.mem_append.1 hr with hr | hr
  ·split at hr
   ·rename_i e; rw [List.mem_singleton.1 hr]; exact h.a e
   cases hr
  split at hr
  ·rename_i e; rw [List.mem_singleton.1 hr]; exact h.b e
  cases hr
 split at hr
 ·rename_i e; exact (h.args e).1 r hr
 cases hr
structure Sl where
 A : Option Addr
 c : Nat
 v : Option (List Bool)
 deriving Inhabited
def Sl.bits (s : Sl) : List Bool := s.v.getD []
theorem meet_len {a out : List Bool} (h : a.length = out.length) : (meetB a out).length = a.length := by unfold meetB; rw [List.length_zipWith, h, Nat.min_self]
theorem meet_count : ∀ {a out : List Bool}, a.length = out.length → (meetB a out).countP id ≤ a.countP id ∧ (meetB a out ≠ a → (meetB a out).countP id < a.countP id)
 | [], [], _ => ⟨Nat.le_refl _, fun h => absurd rfl h⟩
 | x :: a, y :: out, h => by
  have ih := meet_count (a := a) (out := out) (by simpa using h)
  have e : meetB (x :: a) (y :: out) = (x && y) :: meetB a out := rfl
  rw [e, List.countP_cons, List.countP_cons]
  cases x with
  | false => refine ⟨by simpa using ih.1, fun hne => ?_⟩; have := ih.2 (fun e2 => hne (by rw [e2]; rfl)); simpa using this
  | true =>
   cases y with
   | true => refine ⟨by simpa using ih.1, fun hne => ?_⟩; have := ih.2 (fun e2 => hne (by rw [e2]; rfl)); simpa using this
   | false => constructor <;> (try intro _) <;> simp <;> have := ih.1 <;> omega
/-! ### a round -/
structure FI (f : Fn) (R W : Nat) (X0 X : Fam) (more : Bool) : Prop where
 fin : FamIn f W X
 ab : Above f R W X
 fst : ∃ a, famAt X 0 = some a ∧ leB a (firstF R W f.params.toNat)
 le : pot W X ≤ pot W X0
 lt : more = true → pot W X < pot W X0
 eq : more = false → X = X0
theorem FI.start {f : Fn} {R W : Nat} {X : Fam} (h1 : FamIn f W X) (h2 : Above f R W X) (h3 : ∃ a, famAt X 0 = some a ∧ leB a (firstF R W f.params.toNat)) : FI f R W X X false := ⟨h1, h2, h3, Nat.le_refl _, fun h => (by cases h), fun _ => rfl⟩
def chg (X : Fam) (l : Nat) (out : List Bool) : Bool := match famAt X l with | none => true | some a => !decide (meetB a out = a)
theorem FI.meet {f : Fn} {R W k : Nat} {X0 X : Fam} {more : Bool} {a : List Bool} {l : Int} (h : FI f R W X0 X more) (hR : R ≤ W) (hk : k < f.code.length) (hal : a.length = W) (ha : ∀ Y, Sol f R W Y → leO (famAt Y k) (some a)) (hl : l ∈ nextF (whL f.code) (f.code.getD k default) k) (hll : l.toNat < f.code.length) :
    FI f R W X0 (meetX X l.toNat (behindF R (f.code.getD k default) a)) (more || chg X l.toNat (behindF R (f.code.getD k default) a)) := by
 have hob : (behindF R (f.code.getD k default) a).length = W := by rw [behind_len (by omega), hal]
 have hlX : l.toNat < X.length := by rw [h.fin.len]; exact hll
 have hpot := pot_set (W := W) (v := some (match famAt X l.toNat with | none => behindF R (f.code.getD k default) a | some c => meetB c (behindF R (f.code.getD k default) a))) hlX
 have hle : pot W (meetX X l.toNat (behindF R (f.code.getD k default) a)) ≤ pot W X ∧ (chg X l.toNat (behindF R (f.code.getD k default) a) = true → pot W (meetX X l.toNat (behindF R (f.code.getD k default) a)) < pot W X) ∧ (chg X l.toNat (behindF R (f.code.getD k default) a) = false → meetX X l.toNat (behindF R (f.code.getD k default) a) = X) := by
  unfold meetX chg
  cases hX : famAt X l.toNat with
  | none =>
   rw [hX] at hpot
   have := count_le (behindF R (f.code.getD k default) a)
   simp only [potO] at hpot ⊢
   exact ⟨by omega, fun _ => by omega, fun h => by cases h⟩
  | some c =>
   rw [hX] at hpot
   have hcl := h.fin.bits _ c hX
   have hc := meet_count (a := c) (out := behindF R (f.code.getD k default) a) (by rw [hcl, hob])
   simp only [potO] at hpot ⊢
   refine ⟨by omega, fun hch => ?_, fun hch => ?_⟩
   ·simp only [Bool.not_eq_true', decide_eq_false_iff_not] at hch
    have := hc.2 hch
    omega
   ·simp only [Bool.not_eq_false', decide_eq_true_eq] at hch
    rw [hch]
    unfold famAt at hX
    apply List.ext_getElem?
    intro q
    rw [List.getElem?_set]
    split
    ·rename_i hq
     subst hq
     rw [List.getD_eq_getElem?_getD, List.getElem?_eq_getElem hlX] at hX
     rw [List.getElem?_eq_getElem hlX]
     simp only [Option.getD_some] at hX
     rw [hX]
    ·rfl
 refine ⟨h.fin.meet hll hob, fun Y hY q => ?_, ?_, by have := h.le; omega, fun hm => ?_, fun hm => ?_⟩
 ·have hx := h.ab Y hY
  unfold meetX
  rw [famAt_set hlX]
  by_cases hq : q = l.toNat
  ·subst hq
   rw [if_pos rfl]
   have hyk := ha Y hY
   cases hy : famAt Y k with
   | none => rw [hy] at hyk; exact absurd hyk id
   | some b =>
    rw [hy] at hyk
    have hbl := hY.bits k b hy
    have h1 := hY.step k b hk hy l hl
    have h2 := h1.trans (c := some (behindF R (f.code.getD k default) a)) (behind_mono hyk (by rw [hbl, hal]) (by omega))
    cases hX : famAt X l.toNat with
    | none => exact h2
    | some c =>
     have h3 := hx l.toNat
     rw [hX] at h3
     cases hz : famAt Y l.toNat with
     | none => rw [hz] at h3; exact absurd h3 id
     | some z =>
      rw [hz] at h2 h3
      intro n hn
      have hcl := h.fin.bits _ c hX
      rw [meet_get (by rw [hcl, hob]), h2 n hn, h3 n hn]
      rfl
  rw [if_neg hq]; exact hx q
 ·obtain ⟨z, hz1, hz2⟩ := h.fst
  unfold meetX
  rw [famAt_set hlX]
  by_cases hq : 0 = l.toNat
  ·rw [if_pos hq, ← hq, hz1]
   refine ⟨_, rfl, fun n hn => ?_⟩
   rw [meet_get (by rw [h.fin.bits 0 z hz1, hob]), Bool.and_eq_true] at hn
   exact hz2 n hn.1
  rw [if_neg hq]; exact ⟨z, hz1, hz2⟩
 ·have := h.le
  rw [Bool.or_eq_true] at hm
  rcases hm with hm | hm
  ·have := h.lt hm; omega
  have := hle.2.1 hm; omega
 rw [Bool.or_eq_false_iff] at hm
 rw [hle.2.2 hm.2]
 exact h.eq hm.1
theorem mk_nil (n : Nat) : (List.replicate n (([Value.slice none 0 0]).map T.v)).flatten = List.replicate n (T.v (.slice none 0 0)) := by
 induction n with
 | zero => rfl
 | succ n ih => rw [List.replicate_succ, List.flatten_cons, ih, List.replicate_succ]; rfl
theorem first_len {R W P : Nat} (h : P ≤ W) : (firstF R W P).length = W := by unfold firstF; simp; omega
section
variable {cx : Cx} {env : Env} {S : St} {ops : Array Oper} {l : List Oper} {code : Code} {K : Env → St → Prop} {Q : Exit → Env → St → Prop}
theorem AW.rowNils (e : TypeId) (k : Nat) : ∀ (m : Nat) {S : St}, AW cx code Q env (S ++ List.replicate m (.row none 0 0 e k [])) → AW cx code Q env S
 | 0, S, h => by simpa using h
 | m + 1, S, h => AW.rowNil e k (AW.rowNils e k m (by rw [List.append_assoc]; rw [List.replicate_succ] at h; exact h))
theorem AWL.putRow {F rows : St} {r : Ent} {L : Nat} (hL : L < rows.length) (h : AWL cx ops l K env (F ++ rows.set L r)) : AWL cx ops l K env (r :: (F ++ rows)) := by
 have e : rows.set L r = rows.take L ++ r :: rows.drop (L + 1) := by rw [List.set_eq_take_append_cons_drop, if_pos hL]
 have e2 : rows = rows.take L ++ rows[L] :: rows.drop (L + 1) := by rw [← List.drop_eq_getElem_cons hL, List.take_append_drop]
 rw [e] at h
 refine AWL.drop (S' := r :: (F ++ (rows.take L ++ rows.drop (L + 1)))) ?_ (AWL.perm ?_ h)
 ·refine List.Sublist.cons_cons _ (List.Sublist.append (List.Sublist.refl _) ?_)
  conv => rhs; rw [e2]
  exact List.Sublist.append (List.Sublist.refl _) (List.sublist_cons_self _ _)
 have h1 : (F ++ (rows.take L ++ r :: rows.drop (L + 1))) = (F ++ rows.take L) ++ r :: rows.drop (L + 1) := by simp
 rw [h1]
 refine List.perm_middle.trans (.of_eq ?_)
 simp
end
end Go.Proofs.Ytlfklgganokgdaa

namespace Go.Proofs.Ytlfklgganokgdaa
open Go Go.RowKit

def StrictP (p : Prog) : Prop := checkR p = 0 ∧ ∀ f ∈ p.funs, StrictF f
end Go.Proofs.Ytlfklgganokgdaa

namespace Go.Proofs.Ytlfklgganokgdaa
open Go Go.RowKit
abbrev Wd64 := BitVec 64
def zw (a : Wd64) : T := .v (.int .u64 (a.toNat : Int))
theorem wrap_u64 (z : Int) : IntKind.u64.wrap z = z % 18446744073709551616 := by
 unfold IntKind.wrap
 simp [IntKind.signed, IntKind.bits]
theorem wrap_nat (a : Wd64) : IntKind.u64.wrap (a.toNat : Int) = a.toNat := by
 rw [wrap_u64]
 have := a.isLt
 omega
theorem ofInt_word (a : Wd64) : BitVec.ofInt 64 (a.toNat : Int) = a := by
 apply BitVec.eq_of_toNat_eq
 rw [BitVec.toNat_ofInt]
 have := a.isLt
 omega
theorem bits_and (a b : Wd64) : bitsOf .and .u64 (a.toNat : Int) (b.toNat : Int) = ((a &&& b).toNat : Int) := by
 show IntKind.u64.wrap ((BitVec.ofInt 64 (a.toNat : Int) &&& BitVec.ofInt 64 (b.toNat : Int)).toNat : Int) = _
 rw [ofInt_word, ofInt_word, wrap_nat]
theorem bits_or (a b : Wd64) : bitsOf .or .u64 (a.toNat : Int) (b.toNat : Int) = ((a ||| b).toNat : Int) := by
 show IntKind.u64.wrap ((BitVec.ofInt 64 (a.toNat : Int) ||| BitVec.ofInt 64 (b.toNat : Int)).toNat : Int) = _
 rw [ofInt_word, ofInt_word, wrap_nat]
theorem bits_xor (a b : Wd64) : bitsOf .xor .u64 (a.toNat : Int) (b.toNat : Int) = ((a ^^^ b).toNat : Int) := by
 show IntKind.u64.wrap ((BitVec.ofInt 64 (a.toNat : Int) ^^^ BitVec.ofInt 64 (b.toNat : Int)).toNat : Int) = _
 rw [ofInt_word, ofInt_word, wrap_nat]
theorem bits_andNot (a b : Wd64) : bitsOf .andNot .u64 (a.toNat : Int) (b.toNat : Int) = ((a &&& ~~~b).toNat : Int) := by
 show IntKind.u64.wrap ((BitVec.ofInt 64 (a.toNat : Int) &&& ~~~BitVec.ofInt 64 (b.toNat : Int)).toNat : Int) = _
 rw [ofInt_word, ofInt_word, wrap_nat]
theorem shl_word (a : Wd64) {n : Nat} (hn : n < 64) : shlOf .u64 (a.toNat : Int) (n : Int) = ((a <<< n).toNat : Int) := by
 unfold shlOf
 rw [wrap_u64, BitVec.toNat_shiftLeft, Nat.shiftLeft_eq, show min (n : Int).toNat IntKind.u64.bits = n from by show min n 64 = n; omega, Int.natCast_emod, Int.natCast_mul, Int.natCast_pow]
 rfl
theorem shr_word (a : Wd64) {n : Nat} (hn : n < 64) : shrOf .u64 (a.toNat : Int) (n : Int) = ((a >>> n).toNat : Int) := by
 unfold shrOf
 rw [BitVec.toNat_ushiftRight, Nat.shiftRight_eq_div_pow, show min (n : Int).toNat IntKind.u64.bits = n from by show min n 64 = n; omega]
 rw [Int.fdiv_eq_ediv_of_nonneg _ (by have : (0 : Int) < 2 ^ n := Int.pow_pos (by decide); omega), Int.natCast_ediv, Int.natCast_pow]
 rfl
theorem word_inj (a b : Wd64) : decide ((a.toNat : Int) = (b.toNat : Int)) = decide (a = b) := by
 apply decide_eq_decide.2
 constructor
 ·intro h; exact BitVec.eq_of_toNat_eq (by omega)
 intro h; rw [h]
theorem word_lt (a b : Wd64) : decide ((a.toNat : Int) < (b.toNat : Int)) = decide (a < b) := by
 apply decide_eq_decide.2
 rw [BitVec.lt_def]
 omega
theorem word_le (a b : Wd64) : decide ((a.toNat : Int) ≤ (b.toNat : Int)) = decide (a ≤ b) := by
 apply decide_eq_decide.2
 rw [BitVec.le_def]
 omega
theorem add_word (a b : Wd64) : IntKind.u64.wrap ((a.toNat : Int) + (b.toNat : Int)) = ((a + b).toNat : Int) := by
 rw [wrap_u64, BitVec.toNat_add, Int.natCast_emod, Int.natCast_add]; rfl
theorem mul_word (a b : Wd64) : IntKind.u64.wrap ((a.toNat : Int) * (b.toNat : Int)) = ((a * b).toNat : Int) := by
 rw [wrap_u64, BitVec.toNat_mul, Int.natCast_emod, Int.natCast_mul]; rfl
theorem sub_word (a b : Wd64) : IntKind.u64.wrap ((a.toNat : Int) - (b.toNat : Int)) = ((a - b).toNat : Int) := by
 rw [wrap_u64, BitVec.toNat_sub]
 have := a.isLt
 have := b.isLt
 omega
section
variable {cx : Cx} {env : Env} {S : St} {o : Oper} {g : Bool} {x y z : Operand} {d : Nat}
theorem Yv.andW {ty yt : TypeId} {a b : Wd64} (ho : o.op = .binOp .and ty x y yt) (hx : Ev env g x (zw a)) (hy : Ev env g y (zw b)) : Yv cx o env S g (zw (a &&& b)) := by
 have h := Yv.bits (cx := cx) (S := S) ho rfl hx hy; rw [bits_and] at h; exact h
theorem Yv.orW {ty yt : TypeId} {a b : Wd64} (ho : o.op = .binOp .or ty x y yt) (hx : Ev env g x (zw a)) (hy : Ev env g y (zw b)) : Yv cx o env S g (zw (a ||| b)) := by
 have h := Yv.bits (cx := cx) (S := S) ho rfl hx hy; rw [bits_or] at h; exact h
theorem Yv.xorW {ty yt : TypeId} {a b : Wd64} (ho : o.op = .binOp .xor ty x y yt) (hx : Ev env g x (zw a)) (hy : Ev env g y (zw b)) : Yv cx o env S g (zw (a ^^^ b)) := by
 have h := Yv.bits (cx := cx) (S := S) ho rfl hx hy; rw [bits_xor] at h; exact h
theorem Yv.andNotW {ty yt : TypeId} {a b : Wd64} (ho : o.op = .binOp .andNot ty x y yt) (hx : Ev env g x (zw a)) (hy : Ev env g y (zw b)) : Yv cx o env S g (zw (a &&& ~~~b)) := by
 have h := Yv.bits (cx := cx) (S := S) ho rfl hx hy; rw [bits_andNot] at h; exact h
theorem Yv.shlW {ty yt : TypeId} {k : IntKind} {a : Wd64} {n : Nat} (ho : o.op = .binOp .shl ty x y yt) (hx : Ev env g x (zw a)) (hy : Ev env g y (.v (.int k (n : Int)))) (hn : n < 64) : Yv cx o env S g (zw (a <<< n)) := by
 have h := Yv.shl (cx := cx) (S := S) ho hx hy (fun _ => by omega); rw [shl_word a hn] at h; exact h
theorem Yv.shrW {ty yt : TypeId} {k : IntKind} {a : Wd64} {n : Nat} (ho : o.op = .binOp .shr ty x y yt) (hx : Ev env g x (zw a)) (hy : Ev env g y (.v (.int k (n : Int)))) (hn : n < 64) : Yv cx o env S g (zw (a >>> n)) := by
 have h := Yv.shr (cx := cx) (S := S) ho hx hy (fun _ => by omega); rw [shr_word a hn] at h; exact h
theorem Yv.eqlW {ty yt : TypeId} {a b : Wd64} (ho : o.op = .binOp .eql ty x y yt) (hx : Ev env g x (zw a)) (hy : Ev env g y (zw b)) : Yv cx o env S g (.v (.bool (decide (a = b)))) := by
 have h := Yv.eql (cx := cx) (S := S) ho hx hy; rw [word_inj] at h; exact h
theorem Yv.neqW {ty yt : TypeId} {a b : Wd64} (ho : o.op = .binOp .neq ty x y yt) (hx : Ev env g x (zw a)) (hy : Ev env g y (zw b)) : Yv cx o env S g (.v (.bool (!decide (a = b)))) := by
 have h := Yv.neq (cx := cx) (S := S) ho hx hy; rw [word_inj] at h; exact h
theorem Yv.lssW {ty yt : TypeId} {a b : Wd64} (ho : o.op = .binOp .lss ty x y yt) (hx : Ev env g x (zw a)) (hy : Ev env g y (zw b)) : Yv cx o env S g (.v (.bool (decide (a < b)))) := by
 have h := Yv.lss (cx := cx) (S := S) ho hx hy; rw [word_lt] at h; exact h
theorem Yv.leqW {ty yt : TypeId} {a b : Wd64} (ho : o.op = .binOp .leq ty x y yt) (hx : Ev env g x (zw a)) (hy : Ev env g y (zw b)) : Yv cx o env S g (.v (.bool (decide (a ≤ b)))) := by
 have h := Yv.leq (cx := cx) (S := S) ho hx hy; rw [word_le] at h; exact h
theorem Yv.gtrW {ty yt : TypeId} {a b : Wd64} (ho : o.op = .binOp .gtr ty x y yt) (hx : Ev env g x (zw a)) (hy : Ev env g y (zw b)) : Yv cx o env S g (.v (.bool (decide (b < a)))) := by
 have h := Yv.gtr (cx := cx) (S := S) ho hx hy; rw [word_lt] at h; exact h
theorem Yv.geqW {ty yt : TypeId} {a b : Wd64} (ho : o.op = .binOp .geq ty x y yt) (hx : Ev env g x (zw a)) (hy : Ev env g y (zw b)) : Yv cx o env S g (.v (.bool (decide (b ≤ a)))) := by
 have h := Yv.geq (cx := cx) (S := S) ho hx hy; rw [word_le] at h; exact h
theorem Yv.addW {ty yt : TypeId} {a b : Wd64} (ho : o.op = .binOp .add ty x y yt) (hx : Ev env g x (zw a)) (hy : Ev env g y (zw b)) : Yv cx o env S g (zw (a + b)) := by
 have h := Yv.add (cx := cx) (S := S) ho hx hy; rw [add_word] at h; exact h
theorem Yv.subW {ty yt : TypeId} {a b : Wd64} (ho : o.op = .binOp .sub ty x y yt) (hx : Ev env g x (zw a)) (hy : Ev env g y (zw b)) : Yv cx o env S g (zw (a - b)) := by
 have h := Yv.sub (cx := cx) (S := S) ho hx hy; rw [sub_word] at h; exact h
theorem Yv.mulW {ty yt : TypeId} {a b : Wd64} (ho : o.op = .binOp .mul ty x y yt) (hx : Ev env g x (zw a)) (hy : Ev env g y (zw b)) : Yv cx o env S g (zw (a * b)) := by
 have h := Yv.mul (cx := cx) (S := S) ho hx hy; rw [mul_word] at h; exact h
end
/-! ### a region that draws its order, gone through by what is done -/
section
variable {cx : Cx} {env : Env} {S : St} {ops : Array Oper} {K : Env → St → Prop}
theorem AWP.node {fuel : Nat} {listed : Array Bool} {ι : Type} (fuel' : Nat) (listed' : Array Bool) (E : ι → Env) (H : ι → St) (inv : ι → Prop) (h2 : ∀ y, inv y → AWP cx ops fuel' listed' K (E y) (H y)) (h1 : (∀ y, inv y → AWP cx ops fuel' listed' K (E y) (H y)) → AWP cx ops fuel listed K env S) : AWP cx ops fuel listed K env S := h1 h2
theorem AWP.to {fuel : Nat} {listed listed' : Array Bool} {env' : Env} {S' : St} (h : AWP cx ops fuel listed' K env' S') (hl : listed = listed') (hs : S = S') (hsub : Sub env' env) : AWP cx ops fuel listed K env S := by
 subst hl; subst hs
 exact fun a w hs => h a w (hs.weaken hsub)
theorem AWP.four {o0 o1 o2 o3 : Oper} {fuel i0 i1 i2 i3 : Nat} {listed : Array Bool} (hr : Region.ready .any ops listed = [i0, i1, i2, i3]) (e0 : ops[i0]? = some o0) (e1 : ops[i1]? = some o1) (e2 : ops[i2]? = some o2) (e3 : ops[i3]? = some o3)
    (h0 : AWL cx ops [o0] (AWP cx ops fuel (listed.setIfInBounds i0 true) K) env S) (h1 : AWL cx ops [o1] (AWP cx ops fuel (listed.setIfInBounds i1 true) K) env S) (h2 : AWL cx ops [o2] (AWP cx ops fuel (listed.setIfInBounds i2 true) K) env S) (h3 : AWL cx ops [o3] (AWP cx ops fuel (listed.setIfInBounds i3 true) K) env S) : AWP cx ops (fuel + 1) listed K env S := by
 intro a w hs
 refine wpAny_all hr (by simp) fun q hq => ?_
 simp only [List.mem_cons, List.not_mem_nil, or_false] at hq
 rcases hq with rfl | rfl | rfl | rfl
 ·exact wpOp_of_AWL e0 h0 (fun _ _ a w h1 h2 => h1 a w h2) hs
 ·exact wpOp_of_AWL e1 h1 (fun _ _ a w h1 h2 => h1 a w h2) hs
 ·exact wpOp_of_AWL e2 h2 (fun _ _ a w h1 h2 => h1 a w h2) hs
 exact wpOp_of_AWL e3 h3 (fun _ _ a w h1 h2 => h1 a w h2) hs
theorem AWP.five {o0 o1 o2 o3 o4 : Oper} {fuel i0 i1 i2 i3 i4 : Nat} {listed : Array Bool} (hr : Region.ready .any ops listed = [i0, i1, i2, i3, i4]) (e0 : ops[i0]? = some o0) (e1 : ops[i1]? = some o1) (e2 : ops[i2]? = some o2) (e3 : ops[i3]? = some o3) (e4 : ops[i4]? = some o4)
    (h0 : AWL cx ops [o0] (AWP cx ops fuel (listed.setIfInBounds i0 true) K) env S) (h1 : AWL cx ops [o1] (AWP cx ops fuel (listed.setIfInBounds i1 true) K) env S) (h2 : AWL cx ops [o2] (AWP cx ops fuel (listed.setIfInBounds i2 true) K) env S) (h3 : AWL cx ops [o3] (AWP cx ops fuel (listed.setIfInBounds i3 true) K) env S) (h4 : AWL cx ops [o4] (AWP cx ops fuel (listed.setIfInBounds i4 true) K) env S) : AWP cx ops (fuel + 1) listed K env S := by
 intro a w hs
 refine wpAny_all hr (by simp) fun q hq => ?_
 simp only [List.mem_cons, List.not_mem_nil, or_false] at hq
 rcases hq with rfl | rfl | rfl | rfl | rfl
 ·exact wpOp_of_AWL e0 h0 (fun _ _ a w h1 h2 => h1 a w h2) hs
 ·exact wpOp_of_AWL e1 h1 (fun _ _ a w h1 h2 => h1 a w h2) hs
 ·exact wpOp_of_AWL e2 h2 (fun _ _ a w h1 h2 => h1 a w h2) hs
 ·exact wpOp_of_AWL e3 h3 (fun _ _ a w h1 h2 => h1 a w h2) hs
 exact wpOp_of_AWL e4 h4 (fun _ _ a w h1 h2 => h1 a w h2) hs
theorem perm_ins {α : Type} {F G : List α} {x : α} : (F ++ x :: G).Perm ((F ++ G) ++ [x]) := List.perm_middle.trans (List.perm_append_singleton _ _).symm
end
section
variable {cx : Cx} {env : Env} {S : St} {o : Oper} {x : Operand} {ops : Array Oper} {l : List Oper} {K : Env → St → Prop} {d : Nat} {t : T} {Hd : World → Prop}
theorem to' {fuel : Nat} {listed listed' : Array Bool} {env' : Env} {S' : St} (h : AWP cx ops fuel listed' K env' S') (hsub : Sub env' env) (hl : listed = listed' := by kernel_rfl) (hs : S = S' := by rfl) : AWP cx ops fuel listed K env S := AWP.to h hl hs hsub
end
end Go.Proofs.Ytlfklgganokgdaa

namespace Go.Proofs.Ytlfklgganokgdaa
open Go Go.RowKit
def bitW (bs : List Wd64) (n : Nat) : Bool := (bs.getD (n / 64) 0#64).getLsbD (n % 64)
def absB (bs : List Wd64) : List Bool := (List.range (64 * bs.length)).map (bitW bs)
theorem absB_len (bs : List Wd64) : (absB bs).length = 64 * bs.length := by unfold absB; simp
theorem absB_get (bs : List Wd64) (n : Nat) : (absB bs).getD n false = bitW bs n := by
 unfold absB
 simp only [List.getD_eq_getElem?_getD, List.getElem?_map]
 by_cases h : n < 64 * bs.length
 ·rw [List.getElem?_range h]; rfl
 rw [List.getElem?_eq_none (by simpa using h)]
 unfold bitW
 rw [List.getD_eq_getElem?_getD, List.getElem?_eq_none (by omega)]
 simp
theorem ext_bits {a b : List Bool} (hl : a.length = b.length) (h : ∀ n, n < a.length → a.getD n false = b.getD n false) : a = b := by
 apply List.ext_getElem hl
 intro n h1 h2
 have := h n h1
 simpa [h1, h2] using this
theorem has_bit (w : Wd64) {r : Nat} (hr : r < 64) : decide ((w >>> r) &&& 1#64 = 1#64) = w.getLsbD r := by
 have e : ((w >>> r) &&& 1#64) = if w.getLsbD r then 1#64 else 0#64 := by
  apply BitVec.eq_of_getLsbD_eq
  intro i hi
  rw [BitVec.getLsbD_and, BitVec.getLsbD_ushiftRight]
  by_cases h0 : i = 0
  ·subst h0
   cases h : w.getLsbD r <;> simp [h]
  ·have h1 : (1#64).getLsbD i = false := by
    rw [BitVec.getLsbD_one]; simp; omega
   rw [h1, Bool.and_false]
   split
   ·exact h1.symm
   ·simp
 rw [e]
 cases w.getLsbD r <;> decide
theorem bit_or (w : Wd64) {r q : Nat} (hr : r < 64) (hq : q < 64) : (w ||| (1#64 <<< r)).getLsbD q = (w.getLsbD q || decide (q = r)) := by
 rw [BitVec.getLsbD_or, BitVec.getLsbD_shiftLeft]
 by_cases h : q = r
 ·subst h; simp [hq]
 by_cases h2 : q < r
 ·simp [h, h2]
 have : (1#64).getLsbD (q - r) = false := by rw [BitVec.getLsbD_one]; simp; omega
 simp [h, this]
theorem bit_clr (w : Wd64) {r q : Nat} (hr : r < 64) (hq : q < 64) : (w &&& ~~~(1#64 <<< r)).getLsbD q = (w.getLsbD q && !decide (q = r)) := by
 rw [BitVec.getLsbD_and, BitVec.getLsbD_not, BitVec.getLsbD_shiftLeft]
 by_cases h : q = r
 ·subst h; simp [hq]
 by_cases h2 : q < r
 ·simp [h, h2, hq]
 have : (1#64).getLsbD (q - r) = false := by rw [BitVec.getLsbD_one]; simp; omega
 simp [h, this, hq]
def putW (bs : List Wd64) (n : Nat) : List Wd64 := bs.set (n / 64) (bs.getD (n / 64) 0#64 ||| (1#64 <<< (n % 64)))
def clrW (bs : List Wd64) (n : Nat) : List Wd64 := bs.set (n / 64) (bs.getD (n / 64) 0#64 &&& ~~~(1#64 <<< (n % 64)))
theorem getD_setW {l : List Wd64} {i n : Nat} {b : Wd64} (h : i < l.length) : (l.set i b).getD n 0#64 = if i = n then b else l.getD n 0#64 := by
 simp only [List.getD_eq_getElem?_getD, List.getElem?_set]
 by_cases e : i = n
 ·subst e; simp [h]
 simp [e]
theorem abs_put {bs : List Wd64} {n : Nat} (h : n < 64 * bs.length) : absB (putW bs n) = (absB bs).set n true := by
 refine ext_bits (by rw [absB_len, List.length_set, absB_len]; unfold putW; rw [List.length_set]) fun q hq => ?_
 have hq' : q < 64 * bs.length := by rw [absB_len] at hq; unfold putW at hq; rwa [List.length_set] at hq
 rw [absB_get, getD_set, absB_get, absB_len]
 unfold bitW putW
 rw [getD_setW (by omega)]
 by_cases e : n / 64 = q / 64
 ·rw [if_pos e, bit_or _ (Nat.mod_lt _ (by decide)) (Nat.mod_lt _ (by decide))]
  by_cases e2 : n = q
  ·subst e2; rw [if_pos ⟨rfl, h⟩]; simp
  rw [if_neg (fun x => e2 x.1), decide_eq_false (by omega), Bool.or_false, e]
 rw [if_neg e, if_neg (fun x => e (by rw [x.1]))]
theorem abs_clr {bs : List Wd64} {n : Nat} (h : n < 64 * bs.length) : absB (clrW bs n) = (absB bs).set n false := by
 refine ext_bits (by rw [absB_len, List.length_set, absB_len]; unfold clrW; rw [List.length_set]) fun q hq => ?_
 have hq' : q < 64 * bs.length := by rw [absB_len] at hq; unfold clrW at hq; rwa [List.length_set] at hq
 rw [absB_get, getD_set, absB_get, absB_len]
 unfold bitW clrW
 rw [getD_setW (by omega)]
 by_cases e : n / 64 = q / 64
 ·rw [if_pos e, bit_clr _ (Nat.mod_lt _ (by decide)) (Nat.mod_lt _ (by decide))]
  by_cases e2 : n = q
  ·subst e2; rw [if_pos ⟨rfl, h⟩]; simp
  rw [if_neg (fun x => e2 x.1), decide_eq_false (by omega), e]; simp
 rw [if_neg e, if_neg (fun x => e (by rw [x.1]))]
theorem putW_len (bs : List Wd64) (n : Nat) : (putW bs n).length = bs.length := by unfold putW; rw [List.length_set]
theorem clrW_len (bs : List Wd64) (n : Nat) : (clrW bs n).length = bs.length := by unfold clrW; rw [List.length_set]
def meetW (a b : List Wd64) : List Wd64 := List.zipWith (· &&& ·) a b
theorem meetW_len {a b : List Wd64} (h : a.length = b.length) : (meetW a b).length = a.length := by unfold meetW; rw [List.length_zipWith, h, Nat.min_self]
theorem meetW_get {a b : List Wd64} (h : a.length = b.length) (n : Nat) : (meetW a b).getD n 0#64 = a.getD n 0#64 &&& b.getD n 0#64 := by
 unfold meetW
 simp only [List.getD_eq_getElem?_getD, List.getElem?_zipWith]
 by_cases hn : n < a.length
 ·rw [List.getElem?_eq_getElem hn, List.getElem?_eq_getElem (by omega)]; rfl
 rw [List.getElem?_eq_none (by omega), List.getElem?_eq_none (by omega)]; simp
theorem abs_meet {a b : List Wd64} (h : a.length = b.length) : absB (meetW a b) = meetB (absB a) (absB b) := by
 have hl : (absB a).length = (absB b).length := by rw [absB_len, absB_len, h]
 refine ext_bits (by rw [absB_len, meetW_len h, meet_len hl, absB_len]) fun q hq => ?_
 rw [meet_get hl, absB_get, absB_get, absB_get]
 unfold bitW
 rw [meetW_get h, BitVec.getLsbD_and]
theorem abs_inj {a b : List Wd64} (hl : a.length = b.length) (h : absB a = absB b) : a = b := by
 apply List.ext_getElem hl
 intro n h1 h2
 apply BitVec.eq_of_getLsbD_eq
 intro i hi
 have : (absB a).getD (64 * n + i) false = (absB b).getD (64 * n + i) false := by rw [h]
 rw [absB_get, absB_get] at this
 unfold bitW at this
 rw [show (64 * n + i) / 64 = n by omega, show (64 * n + i) % 64 = i by omega] at this
 simpa [h1, h2] using this
def mixW (a b : List Wd64) (n : Nat) : List Wd64 := (meetW a b).take n ++ a.drop n
theorem mixW_0 (a b : List Wd64) : mixW a b 0 = a := rfl
theorem mixW_len {a b : List Wd64} (h : a.length = b.length) (n : Nat) : (mixW a b n).length = a.length := by
 unfold mixW
 rw [List.length_append, List.length_take, List.length_drop, meetW_len h]
 omega
theorem mixW_all {a b : List Wd64} (h : a.length = b.length) {n : Nat} (hn : a.length ≤ n) : mixW a b n = meetW a b := by
 unfold mixW
 rw [List.drop_of_length_le hn, List.append_nil, List.take_of_length_le (by rw [meetW_len h]; exact hn)]
theorem mixW_at {a b : List Wd64} (h : a.length = b.length) {n m : Nat} (hm : n ≤ m) : (mixW a b n).getD m 0#64 = a.getD m 0#64 := by
 unfold mixW
 simp only [List.getD_eq_getElem?_getD]
 by_cases hn : n ≤ a.length
 ·rw [List.getElem?_append_right (by rw [List.length_take, meetW_len h]; omega), List.length_take, meetW_len h, Nat.min_eq_left hn, List.getElem?_drop, show n + (m - n) = m by omega]
 rw [List.getElem?_eq_none (by rw [List.length_append, List.length_take, List.length_drop, meetW_len h]; omega), List.getElem?_eq_none (by omega)]
theorem mixW_succ {a b : List Wd64} (h : a.length = b.length) {n : Nat} (hn : n < a.length) : mixW a b (n + 1) = (mixW a b n).set n (a.getD n 0#64 &&& b.getD n 0#64) := by
 have hl : ((meetW a b).take n).length = n := by rw [List.length_take, meetW_len h]; omega
 unfold mixW
 rw [List.set_append_right _ _ (by omega), hl, Nat.sub_self, List.drop_eq_getElem_cons hn, List.set_cons_zero, List.take_succ_eq_append_getElem (by rw [meetW_len h]; exact hn), List.append_assoc]
 congr 1
 rw [List.singleton_append]
 congr 1
 have := meetW_get h n
 simp only [List.getD_eq_getElem?_getD, List.getElem?_eq_getElem (show n < (meetW a b).length by rw [meetW_len h]; exact hn), Option.getD_some] at this
 rw [this]
 simp only [List.getD_eq_getElem?_getD]
theorem set_sameW {l : List Wd64} {n : Nat} (h : n < l.length) : l.set n (l.getD n 0#64) = l := by simp [h]
theorem mixW_same {a b : List Wd64} (h : a.length = b.length) {n : Nat} (hn : n < a.length) (hb : a.getD n 0#64 &&& b.getD n 0#64 = a.getD n 0#64) : mixW a b (n + 1) = mixW a b n := by
 rw [mixW_succ h hn, hb, ← mixW_at h (Nat.le_refl n)]
 exact set_sameW (by rw [mixW_len h]; exact hn)
theorem mixW_turn {a b : List Wd64} (h : a.length = b.length) {n : Nat} (hn : n < a.length) (hb : ¬ a.getD n 0#64 &&& b.getD n 0#64 = a.getD n 0#64) : mixW a b (n + 1) ≠ a := fun e => by
 have h1 : (mixW a b (n + 1)).getD n 0#64 = a.getD n 0#64 := by rw [e]
 rw [mixW_succ h hn, getD_setW (by rw [mixW_len h]; exact hn), if_pos rfl] at h1
 exact hb h1
theorem word_at {l : List Wd64} {n : Nat} (h : n < l.length) : (l.map zw)[n * 1 + 0]? = some (zw (l.getD n 0#64)) := by
 rw [Nat.mul_one, Nat.add_zero, List.getElem?_map, List.getElem?_eq_getElem h]
 simp [h]
theorem len_words {l : List Wd64} : (l.map zw).length = l.length * 1 := by simp
theorem mk_zero (n : Nat) : (List.replicate n (([Value.int .u64 0]).map T.v)).flatten = (List.replicate n 0#64).map zw := by
 induction n with
 | zero => rfl
 | succ n ih => rw [List.replicate_succ, List.flatten_cons, ih, List.replicate_succ]; rfl
theorem abs_zero (n : Nat) : absB (List.replicate n 0#64) = List.replicate (64 * n) false := by
 refine ext_bits (by rw [absB_len]; simp) fun q hq => ?_
 rw [absB_get]
 unfold bitW
 simp only [List.getD_eq_getElem?_getD, List.getElem?_replicate]
 split <;> split <;> simp
end Go.Proofs.Ytlfklgganokgdaa

namespace Go.Proofs.Ytlfklgganokgdaa
open Go Go.RowKit

set_option maxHeartbeats 400000 in
theorem has61 (A : Option Addr) (n c : Nat) (bs : List Wd64) (r : Nat) (hn : bs.length = n) (hr : r < 64 * n) (hb : n ≤ 1048576) :
    ACalls Try.prog 61 [.v (.slice A n c), .v (.int .i64 (r : Int))] [.row A n c 39 1 ((bs).map zw)] (fun t S => t = bv (bitW bs r) ∧ S = [.row A n c 39 1 ((bs).map zw)]) := by
 refine ACalls.intro Try.func61 rfl Try.ntmps61 nB rfl fun X w0 => ?_
 refine ra ?_
 refine rs (ym ?_)
 refine ym ?_
 refine Y1 (Yv.eqT (t' := .v (.int .i64 ((r / 64 : Nat) : Int))) (Yv.quoN_i64 rfl eV eV (fun hg => by omega)) rfl) ?_
 refine Y1 (Yv.indexRow (j := (r / 64)) rfl ss_101 (i := 0) rfl eV eV (fun hg => ⟨rfl, by omega⟩)) ?_
 refine Y1 (Yv.loadEp rfl ag_39 (i := 0) rfl (E rfl rfl) (fun hg => word_at (by first | omega | (simp only [Bool.or_eq_true, Bool.and_eq_true, Bool.or_eq_false_iff, Bool.and_eq_false_iff, Bool.not_eq_true', Bool.not_eq_false', decide_eq_true_eq, decide_eq_false_iff_not, Decidable.not_not] at hg; omega)))) ?_
 refine ym ?_
 refine Y1 (Yv.eqT (t' := .v (.int .i64 ((r % 64 : Nat) : Int))) (Yv.remN rfl eV eV (fun hg => by omega)) rfl) ?_
 refine Y1 (Yv.shrW rfl (E rfl rfl) (E rfl rfl) (Nat.mod_lt r (by decide))) ?_
 refine Y1 (Yv.andW (b := 1#64) rfl eV eV) ?_
 refine Y1 (Yv.eqlW (b := 1#64) rfl eV eV) ?_
 refine ya ?_
 refine AW.ret (retI (.tmp rfl .nil) ?_)
 refine ⟨?_, rfl⟩
 show bv _ = bv _
 rw [has_bit _ (Nat.mod_lt r (by decide))]
 rfl

set_option maxHeartbeats 400000 in
theorem put37 (A : Option Addr) (n c : Nat) (bs : List Wd64) (r : Nat) (hn : bs.length = n) (hr : r < 64 * n) (hb : n ≤ 1048576) :
    ACalls Try.prog 37 [.v (.slice A n c), .v (.int .i64 (r : Int))] [.row A n c 39 1 ((bs).map zw)] (fun t S => t = .tup [] ∧ S = [.row A n c 39 1 ((putW bs r).map zw)]) := by
 refine ACalls.intro Try.func37 rfl Try.ntmps37 nB rfl fun X w0 => ?_
 refine AW.regionP rfl ?_
 refine AWP.phase [true, true, true, true, true, true, true, true, true, true] 1 rfl (by kernel_rfl) (by kernel_rfl) ?_
 refine qm ?_
 refine qm ?_
 refine Q1 (Yv.eqT (t' := .v (.int .i64 ((r / 64 : Nat) : Int))) (Yv.quoN_i64 rfl eV eV (fun hg => by omega)) rfl) ?_
 refine Q1 (Yv.indexRow (j := (r / 64)) rfl ss_101 (i := 0) rfl eV eV (fun hg => ⟨rfl, by omega⟩)) ?_
 refine Q1 (Yv.loadEp rfl ag_39 (i := 0) rfl (E rfl rfl) (fun hg => word_at (by first | omega | (simp only [Bool.or_eq_true, Bool.and_eq_true, Bool.or_eq_false_iff, Bool.and_eq_false_iff, Bool.not_eq_true', Bool.not_eq_false', decide_eq_true_eq, decide_eq_false_iff_not, Decidable.not_not] at hg; omega)))) ?_
 refine qm ?_
 refine Q1 (Yv.eqT (t' := .v (.int .i64 ((r % 64 : Nat) : Int))) (Yv.remN rfl eV eV (fun hg => by omega)) rfl) ?_
 refine Q1 (Yv.shlW (a := 1#64) rfl (E rfl rfl) (E rfl rfl) (Nat.mod_lt r (by decide))) ?_
 refine Q1 (Yv.orW rfl eV eV) ?_
 refine Q1 (Yv.indexRow (j := (r / 64)) rfl ss_101 (i := 0) rfl eV eV (fun hg => ⟨rfl, by omega⟩)) ?_
 refine AWQ.nil ?_
 refine p1 10 ?_
 refine AWL.storeEp1 (i := 0) rfl rfl rfl ag_39 rfl (E rfl rfl) (E rfl rfl) rfl rfl (by rw [List.length_map]; omega) (nl ?_)
 refine AWP.done (by kernel_rfl) ?_
 refine retN .nil ?_
 refine ⟨rfl, ?_⟩
 unfold putW
 rw [← map_set, Nat.mul_one]
 rfl

set_option maxHeartbeats 1000000 in
theorem meet59 (A A2 : Option Addr) (n n2 c c2 : Nat) (bs bt : List Wd64) (hn : bs.length = n) (hn2 : bt.length = n2) (hnn : n = n2) (hb : n ≤ 1048576) :
    ACalls Try.prog 59 [.v (.slice A n c), .v (.slice A2 n2 c2)] [.row A n c 39 1 ((bs).map zw), .row A2 n2 c2 39 1 ((bt).map zw)] (fun t S => t = bv (!decide (meetW bs bt = bs)) ∧ S = [.row A n c 39 1 ((meetW bs bt).map zw), .row A2 n2 c2 39 1 ((bt).map zw)]) := by
 subst hnn
 have hl : bs.length = bt.length := by omega
 refine ACalls.intro Try.func59 rfl Try.ntmps59 nB rfl fun X w0 => ?_
 refine ra ?_
 refine ra ?_
 refine AW.seq ?_
 refine rs (ym ?_)
 refine Y1 (Yv.lenV rfl so_101 eV) ?_
 refine ym (nl ?_)
 refine AW.block ?_
 refine AW.loop (fun (j : Nat) => [(0, true, .v (.slice A n c)), (1, true, .v (.slice A2 n c2)), (5, true, bv (!decide (mixW bs bt j = bs))), (9, true, .v (.int .i64 (n : Int))), (10, true, .v (.int .i64 (j : Int)))]) (fun (j : Nat) => [.row A n c 39 1 ((mixW bs bt j).map zw), .row A2 n c2 39 1 ((bt).map zw)]) (fun (j : Nat) => j ≤ n) (fun (j : Nat) => n - j) 0 ?_ ?_ ?_ ?_
 ·exact Nat.zero_le _
 ·exact (su (su (Sub.cons rfl (by rw [mixW_0]; simp; rfl) (su (su sn)))))
 ·rfl
 intro j hinv
 refine rs (Y1 (Yv.lss rfl eV eV) (nl ?_))
 refine AW.seq ?_
 refine AW.cond rfl (fun h0t => ?_) (fun h0f => ?_)
 ·try replace h0t := odt h0t
  have hj2 : j < bs.length := by omega
  refine AW.skip ?_
  refine AW.seq ?_
  refine AW.block ?_
  refine rs (ym ?_)
  refine ya ?_
  refine AW.rseqQ rfl (by kernel_rfl) ?_
  refine qm ?_
  refine qm ?_
  refine Q1 (Yv.indexRow rfl ss_101 (i := 0) rfl eV eV (fun hg => ⟨rfl, by omega⟩)) ?_
  refine Q1 (Yv.loadEp rfl ag_39 (i := 0) rfl eV (fun hg => word_at (by rw [mixW_len hl]; omega))) ?_
  refine qm ?_
  refine qm ?_
  refine Q1 (Yv.indexRow rfl ss_101 (i := 1) rfl eV eV (fun hg => ⟨rfl, by omega⟩)) ?_
  refine Q1 (Yv.loadEp rfl ag_39 (i := 1) rfl (E rfl rfl) (fun hg => word_at (by first | omega | (simp only [Bool.or_eq_true, Bool.and_eq_true, Bool.or_eq_false_iff, Bool.and_eq_false_iff, Bool.not_eq_true', Bool.not_eq_false', decide_eq_true_eq, decide_eq_false_iff_not, Decidable.not_not] at hg; omega)))) ?_
  refine Q1 (Yv.andW rfl eV eV) ?_
  refine Q1 (Yv.assign rfl eV) ?_
  refine AWQ.nil ?_
  refine rs (ym ?_)
  refine ym ?_
  refine ym ?_
  refine Y1 (Yv.indexRow rfl ss_101 (i := 0) rfl eV eV (fun hg => ⟨rfl, by omega⟩)) ?_
  refine Y1 (Yv.loadEp rfl ag_39 (i := 0) rfl eV (fun hg => word_at (by rw [mixW_len hl]; omega))) ?_
  refine Y1 (Yv.neqW rfl eV eV) (nl ?_)
  refine AW.cond rfl (fun h1t => ?_) (fun h1f => ?_)
  ·have h1t : ¬ bs.getD j 0#64 &&& bt.getD j 0#64 = bs.getD j 0#64 := by
    rw [mixW_at hl (Nat.le_refl j)] at h1t
    simpa using h1t
   refine AW.region ?_
   refine ym ?_
   refine ym ?_
   refine ym ?_
   refine Y1 (Yv.indexRow rfl ss_101 (i := 0) rfl eV eV (fun hg => ⟨rfl, by omega⟩)) ?_
   refine AWL.storeEp1 (i := 0) rfl rfl rfl ag_39 rfl (E rfl rfl) (E rfl rfl) rfl rfl (by rw [List.length_map, mixW_len hl]; omega) ?_
   refine ya ?_
   refine AW.region ?_
   refine Y1 (Yv.addN_i64 rfl eV eV (fun hg => by omega)) ?_
   refine ym (nl ?_)
   refine ⟨j + 1, by omega, by omega, (su (su (Sub.cons rfl (by rw [decide_eq_false (mixW_turn hl hj2 h1t)]; rfl) (su (Sub.cons rfl (by simp) Sub.nil))))), ?_⟩
   rw [mixW_succ hl hj2, ← map_set, Nat.mul_one, ← mixW_at hl (Nat.le_refl j)]
   rfl
  have h1f : bs.getD j 0#64 &&& bt.getD j 0#64 = bs.getD j 0#64 := by
   rw [mixW_at hl (Nat.le_refl j)] at h1f
   simpa using h1f
  refine AW.skip ?_
  refine AW.region ?_
  refine Y1 (Yv.addN_i64 rfl eV eV (fun hg => by omega)) ?_
  refine ym (nl ?_)
  refine ⟨j + 1, by omega, by omega, (su (su (Sub.cons rfl (by rw [mixW_same hl hj2 h1f]) (su (Sub.cons rfl (by simp) Sub.nil))))), by rw [mixW_same hl hj2 h1f]⟩
 try replace h0f := odf h0f
 have hjn : bs.length ≤ j := by omega
 refine AW.exit ?_
 refine rs (ym ?_)
 refine ya ?_
 refine AW.ret (retI (.tmp rfl .nil) ?_)
 refine ⟨?_, ?_⟩
 ·show bv _ = bv _
  rw [mixW_all hl hjn]
 rw [mixW_all hl hjn]

set_option maxHeartbeats 400000 in
theorem stepfn60 (b7 b6 : Nat) (A : Option Addr) (n c : Nat) (bs : List Wd64) (fine : Bool) (r : Int) (h0 : 0 ≤ r) (hn : bs.length = n) (hr : r < 64 * n) (hb : n ≤ 1048576) :
    ACalls Try.prog 60 [zi r, .v (.pointer (some ⟨b7, 0, none⟩)), .v (.pointer (some ⟨b6, 0, none⟩))] [.row A n c 39 1 ((bs).map zw), .box b7 4 [bv (fine)], .box b6 101 [.v (.slice A n c)]] (fun t S => t = .tup [] ∧ S = [.row A n c 39 1 ((bs).map zw), .box b7 4 [bv (fine && bitW bs r.toNat)], .box b6 101 [.v (.slice A n c)]]) := by
 obtain ⟨q, rfl⟩ := Int.eq_ofNat_of_zero_le h0
 refine ACalls.intro Try.func60 rfl Try.ntmps60 nB rfl fun X w0 => ?_
 refine AW.region ?_
 refine yl ag_4 1 ?_
 refine ym ?_
 refine gT (Yv.loadBox rfl ag_101 (i := 2) rfl eV rfl) ?_
 refine gT (Yv.move rfl eV) ?_
 refine AWL.callKgT rfl rfl rfl rfl (B rfl) rfl ce_61 (E rfl rfl) (evsC (Eg rfl rfl id) (evsC (Eg rfl rfl id) evs0)) (S1 := [.row A n c 39 1 ((bs).map zw)]) (S2 := _) rfl (fun hg => has61 A n c bs q hn (by omega) hb) (fun t S h => h) ?_
 refine Y1 (Yv.pickAnd rfl eV (Eg rfl rfl id)) ?_
 refine AWL.storeBox (i := 1) rfl rfl rfl ag_4 rfl (E rfl rfl) (E rfl rfl) rfl rfl nB (nl ?_)
 refine retN .nil ?_
 exact ⟨rfl, rfl⟩

set_option maxHeartbeats 4000000 in
theorem reads49S_ (p : Prog) (f : Fn) (many : LM) (i : Ins) (b7 b6 : Nat) (A : Option Addr) (n c : Nat) (bs : List Wd64) (fine : Bool) (hi : InsOk p f many i) (ha : i.args.length ≤ 1048576) (hn : bs.length = n) (hr : f.regs ≤ 64 * n) (hb : n ≤ 1048576) :
    ACalls Try.prog 49 [.agg (insCells i), .v (.func (.func 60) #[] #[.pointer (some ⟨b7, 0, none⟩), .pointer (some ⟨b6, 0, none⟩)])] [.row A n c 39 1 ((bs).map zw), .box b7 4 [bv (fine)], .box b6 101 [.v (.slice A n c)]] (fun t S => t = .tup [] ∧ ([.row A n c 39 1 ((bs).map zw), .box b7 4 [bv (fine && (readsF i).all fun r => bitW bs r.toNat)], .box b6 101 [.v (.slice A n c)]] : St).Sublist S) := by
 refine ACalls.intro Try.func49 rfl Try.ntmps49 nB rfl fun X w0 => ?_
 refine rs ?_
 refine AWL.boxOp rfl rfl (B rfl) rfl (E rfl rfl) rfl (fun b2 => ?_)
 refine nl ?_
 refine rs (yf fo_58_0 ?_)
 refine yl ag_3 3 ?_
 refine AWL.callT rfl rfl (B rfl) rfl ce_57 (E rfl rfl) (evsC (E rfl rfl) evs0) (fields57 i.kind) ?_
 rintro t11 S11 rfl
 refine ym ?_
 refine Y1 (Yv.extract rfl eV rfl) ?_
 refine Y1 (Yv.extract rfl eV rfl) ?_
 refine AWL.allocOp rfl rfl (B rfl) rfl zc_122 (fun b4 => ?_)
 refine AWL.storeBox (i := 4) rfl rfl rfl ag_122 rfl (E rfl rfl) (E rfl rfl) rfl rfl nB ?_
 refine ya ?_
 refine AW.eqS (S' := [.row A n c 39 1 ((bs).map zw), .box b7 4 [bv (fine)], .box b6 101 [.v (.slice A n c)], .box b2 58 (insCells i), .box b4 122 (hasCells (hasF i.kind))]) rfl ?_
 refine AW.mid (α := Unit) (fun _ => [(1, true, .v (.func (.func 60) #[] #[.pointer (some ⟨b7, 0, none⟩), .pointer (some ⟨b6, 0, none⟩)])), (2, true, pv b2), (4, true, pv b4)]) (fun _ => [.row A n c 39 1 ((bs).map zw), .box b7 4 [bv (fine && (rd1 i).all fun r => bitW bs r.toNat)], .box b6 101 [.v (.slice A n c)], .box b2 58 (insCells i), .box b4 122 (hasCells (hasF i.kind))]) (fun _ => True) ?_ ?_
 ·refine rs (yf fo_122_1 ?_)
  refine yl ag_4 4 (nl ?_)
  refine AW.cond rfl (fun h0t => ?_) (fun h0f => ?_)
  ·refine AW.region ?_
   refine ym ?_
   refine yf fo_58_2 ?_
   refine yl ag_3 3 ?_
   refine C1 rfl ce_60 (E rfl rfl) (evsC (E rfl rfl) evs0) (S1 := [.row A n c 39 1 ((bs).map zw), .box b7 4 [bv (fine)], .box b6 101 [.v (.slice A n c)]]) (S2 := _) rfl (stepfn60 b7 b6 A n c bs (fine) i.a (hi.a h0t).1 hn (by have := (hi.a h0t).2; omega) hb) ?_
   rintro t19 S19 ⟨rfl, rfl⟩
   refine nl ?_
   refine ⟨(), trivial, (su (su (su sn))), ?_⟩
   rw [rd1_t h0t]
   simp [List.all_append, Bool.and_assoc]
  refine AW.skip ?_
  refine ⟨(), trivial, (su (su (su sn))), ?_⟩
  rw [rd1_f h0f]
  simp
 rintro _ hmid
 refine AW.mid (α := Unit) (fun _ => [(1, true, .v (.func (.func 60) #[] #[.pointer (some ⟨b7, 0, none⟩), .pointer (some ⟨b6, 0, none⟩)])), (2, true, pv b2), (4, true, pv b4)]) (fun _ => [.row A n c 39 1 ((bs).map zw), .box b7 4 [bv (fine && (rd2 i).all fun r => bitW bs r.toNat)], .box b6 101 [.v (.slice A n c)], .box b2 58 (insCells i), .box b4 122 (hasCells (hasF i.kind))]) (fun _ => True) ?_ ?_
 ·refine rs (yf fo_122_2 ?_)
  refine yl ag_4 4 (nl ?_)
  refine AW.cond rfl (fun h1t => ?_) (fun h1f => ?_)
  ·refine AW.region ?_
   refine ym ?_
   refine yf fo_58_3 ?_
   refine yl ag_3 3 ?_
   refine C1 rfl ce_60 (E rfl rfl) (evsC (E rfl rfl) evs0) (S1 := [.row A n c 39 1 ((bs).map zw), .box b7 4 [bv (fine && (rd1 i).all fun r => bitW bs r.toNat)], .box b6 101 [.v (.slice A n c)]]) (S2 := _) rfl (stepfn60 b7 b6 A n c bs (fine && (rd1 i).all fun r => bitW bs r.toNat) i.b (hi.b h1t).1 hn (by have := (hi.b h1t).2; omega) hb) ?_
   rintro t25 S25 ⟨rfl, rfl⟩
   refine nl ?_
   refine ⟨(), trivial, (su (su (su sn))), ?_⟩
   rw [rd2_t h1t]
   simp [List.all_append, Bool.and_assoc]
  refine AW.skip ?_
  refine ⟨(), trivial, (su (su (su sn))), ?_⟩
  rw [rd2_f h1f]
 rintro _ hmid
 refine rs (yf fo_122_3 ?_)
 refine yl ag_4 4 (nl ?_)
 refine AW.cond rfl (fun h2t => ?_) (fun h2f => ?_)
 ·refine rs (yf fo_58_10 ?_)
  refine yl ag_47 3 ?_
  refine Y1 (Yv.lenSl rfl so_47 (B rfl) eV len_args) ?_
  refine ym (nl ?_)
  refine AW.block ?_
  refine AW.loop (fun (j : Nat) => [(1, true, .v (.func (.func 60) #[] #[.pointer (some ⟨b7, 0, none⟩), .pointer (some ⟨b6, 0, none⟩)])), (2, true, pv b2), (4, true, pv b4), (29, true, .sl 1 (i.args.map zi)), (30, true, .v (.int .i64 (i.args.length : Int))), (31, true, .v (.int .i64 (j : Int)))]) (fun (j : Nat) => [.row A n c 39 1 ((bs).map zw), .box b7 4 [bv (fine && (rd2 i ++ i.args.take j).all fun r => bitW bs r.toNat)], .box b6 101 [.v (.slice A n c)], .box b2 58 (insCells i), .box b4 122 (hasCells (hasF i.kind))]) (fun (j : Nat) => j ≤ i.args.length) (fun (j : Nat) => i.args.length - j) 0 ?_ ?_ ?_ ?_
  ·exact Nat.zero_le _
  ·exact (su (su (su (su (su (su sn))))))
  ·rw [List.take_zero, List.append_nil]
  intro j hinv
  refine rs (Y1 (Yv.lss rfl eV eV) (nl ?_))
  refine AW.seq ?_
  refine AW.cond rfl (fun h3t => ?_) (fun h3f => ?_)
  ·try replace h3t := odt h3t
   have hj2 : j < i.args.length := by omega
   refine AW.skip ?_
   refine AW.seq ?_
   refine AW.block ?_
   refine rs (Y1 (Yv.indexSl rfl ss_47 (B rfl) eV eV (fun hg => ⟨rfl, (by first | omega | (simp only [len_code, len_funs, len_args, len_data]; omega))⟩)) ?_)
   refine Y1 (Yv.loadRp rfl ag_3 eV (fun hg => arg_at (by omega))) ?_
   refine ya ?_
   refine AW.region ?_
   refine ym ?_
   refine ym ?_
   refine C1 rfl ce_60 (E rfl rfl) (evsC (E rfl rfl) evs0) (S1 := [.row A n c 39 1 ((bs).map zw), .box b7 4 [bv (fine && (rd2 i ++ i.args.take j).all fun r => bitW bs r.toNat)], .box b6 101 [.v (.slice A n c)]]) (S2 := _) rfl (stepfn60 b7 b6 A n c bs (fine && (rd2 i ++ i.args.take j).all fun r => bitW bs r.toNat) (i.args.getD j default) ((hi.args h2t).1 _ (getD_mem hj2)).1 hn (by have := ((hi.args h2t).1 _ (getD_mem hj2)).2; omega) hb) ?_
   rintro t37 S37 ⟨rfl, rfl⟩
   refine nl ?_
   refine AW.region ?_
   refine Y1 (Yv.addN_i64 rfl eV eV (fun hg => by omega)) ?_
   refine ym (nl ?_)
   refine ⟨j + 1, by omega, by omega, (su (su (su (su (su (Sub.cons rfl (by simp) Sub.nil)))))), ?_⟩
   rw [take_gd hj2]
   simp [List.all_append, Bool.and_assoc]
  try replace h3f := odf h3f
  obtain rfl : j = i.args.length := by omega
  rw [List.take_length, ← rd3_t h2t]
  refine AW.exit ?_
  refine retN .nil ?_
  exact ⟨rfl, by simp⟩
 refine AW.skip ?_
 refine retN .nil ?_
 rw [← rd3_f h2f]
 exact ⟨rfl, by simp⟩

theorem reads49S (p : Prog) (f : Fn) (many : LM) (i : Ins) (b7 b6 : Nat) (A : Option Addr) (n c : Nat) (bs : List Wd64) (fine : Bool) (hi : InsOk p f many i) (ha : i.args.length ≤ 1048576) (hn : bs.length = n) (hr : f.regs ≤ 64 * n) (hb : n ≤ 1048576) : ACalls Try.prog 49 [.agg (insCells i), .v (.func (.func 60) #[] #[.pointer (some ⟨b7, 0, none⟩), .pointer (some ⟨b6, 0, none⟩)])] [.row A n c 39 1 ((bs).map zw), .box b7 4 [bv (fine)], .box b6 101 [.v (.slice A n c)]] (fun t S => t = .tup [] ∧ S = [.row A n c 39 1 ((bs).map zw), .box b7 4 [bv (fine && (readsF i).all fun r => bitW bs r.toNat)], .box b6 101 [.v (.slice A n c)]]) :=
 (reads49S_ p f many i b7 b6 A n c bs fine hi ha hn hr hb).less fun t S' ⟨h1, h2⟩ => ⟨_, h2, h1, rfl⟩
end Go.Proofs.Ytlfklgganokgdaa

namespace Go.Proofs.Ytlfklgganokgdaa
open Go Go.RowKit
structure Sw where
 A : Option Addr
 c : Nat
 v : Option (List Wd64)
 deriving Inhabited
def Sw.ws (s : Sw) : List Wd64 := s.v.getD []
def swCell (s : Sw) : T := .v (.slice s.A s.ws.length s.c)
def swRow (s : Sw) : Ent := .row s.A s.ws.length s.c 39 1 (s.ws.map zw)
def swOk (s : Sw) : Prop := s.A.isSome = s.v.isSome
def famW (l : List Sw) : Fam := l.map fun s => s.v.map absB
theorem fam_atW {l : List Sw} {k : Nat} (h : k < l.length) : famAt (famW l) k = (l.getD k default).v.map absB := by
 unfold famAt famW
 rw [gd h]
 simp [h]
theorem sw_row {l : List Sw} {k : Nat} (h : k < l.length) : (l.map swRow)[k]? = some (swRow (l.getD k default)) := by
 rw [List.getElem?_map, List.getElem?_eq_getElem h, gd h]; rfl
theorem sw_cell {l : List Sw} {k : Nat} (h : k < l.length) : (l.map swCell)[k * 1 + 0]? = some (swCell (l.getD k default)) := by
 rw [Nat.mul_one, Nat.add_zero, List.getElem?_map, List.getElem?_eq_getElem h, gd h]; rfl
theorem sw_none {s : Sw} (h : swOk s) (hA : s.A.isNone = true) : s.v = none := by
 unfold swOk at h
 cases hv : s.v with
 | none => rfl
 | some a => rw [hv, Option.isNone_iff_eq_none.1 hA] at h; cases h
theorem sw_some {s : Sw} (h : swOk s) (hA : s.A.isNone = false) : s.v = some s.ws := by
 unfold swOk at h
 unfold Sw.ws
 cases hv : s.v with
 | some a => rfl
 | none =>
  rw [hv] at h
  cases hA2 : s.A with
  | none => rw [hA2] at hA; cases hA
  | some x => rw [hA2] at h; cases h
structure FS where
 sls : List Sw
 todo : List Nat
 tA : Option Addr
 tc : Nat
 deriving Inhabited
def zn (k : Nat) : T := .v (.int .i64 (k : Int))
def flCells (f : Fn) (m : Nat) (aA : Option Addr) (n : Nat) (fs : FS) : List T := fnCells f ++ [.v (.map (some m)), .v (.slice aA n n), .v (.slice fs.tA fs.todo.length fs.tc)]
def FSt (bw : Nat) (f : Fn) (m : Nat) (aA : Option Addr) (n : Nat) (fs : FS) : St := .box bw 100 (flCells f m aA n fs) :: .row aA n n 101 1 (fs.sls.map swCell) :: .row fs.tA fs.todo.length fs.tc 3 1 (fs.todo.map zn) :: fs.sls.map swRow
structure FOk (n K : Nat) (fs : FS) : Prop where
 len : fs.sls.length = n
 ok : ∀ s ∈ fs.sls, swOk s
 lenK : ∀ s ∈ fs.sls, ∀ ws, s.v = some ws → ws.length = K
structure ToR (n K : Nat) (fs : FS) (k : Nat) (out : List Bool) (fs' : FS) : Prop where
 ok : FOk n K fs'
 fam : famW fs'.sls = meetX (famW fs.sls) k out
 todo : fs'.todo = if chg (famW fs.sls) k out = true then fs.todo ++ [k] else fs.todo
theorem FOk.set {n K k : Nat} {fs : FS} {A : Option Addr} {c : Nat} {ws : List Wd64} {todo : List Nat} {tA : Option Addr} {tc : Nat} (h : FOk n K fs) (hA : A.isSome = true) (hl : ws.length = K) : FOk n K ⟨fs.sls.set k ⟨A, c, some ws⟩, todo, tA, tc⟩ :=
 ⟨by show (fs.sls.set _ _).length = n; rw [List.length_set]; exact h.len, fun s hs => by
  rcases List.mem_or_eq_of_mem_set hs with hs | rfl
  ·exact h.ok s hs
  ·exact hA, fun s hs ws' e => by
  rcases List.mem_or_eq_of_mem_set hs with hs | rfl
  ·exact h.lenK s hs ws' e
  ·simp only [Option.some.injEq] at e
   rw [← e]; exact hl⟩
theorem to_nil {n K k : Nat} {fs : FS} {A : Option Addr} {c : Nat} {ws : List Wd64} {tA : Option Addr} {tc : Nat} (h : FOk n K fs) (hk : k < fs.sls.length) (hv : (fs.sls.getD k default).v = none) (hA : A.isSome = true) (hl : ws.length = K) :
    ToR n K fs k (absB ws) ⟨fs.sls.set k ⟨A, c, some ws⟩, fs.todo ++ [k], tA, tc⟩ := by
 refine ⟨h.set hA hl, ?_, ?_⟩
 ·unfold meetX
  rw [fam_atW hk, hv]
  unfold famW
  rw [List.map_set]
  rfl
 unfold chg
 rw [fam_atW hk, hv]
 rfl
theorem to_some {n K k : Nat} {fs : FS} {wk ws : List Wd64} {todo : List Nat} {tA : Option Addr} {tc : Nat} (h : FOk n K fs) (hk : k < fs.sls.length) (hv : (fs.sls.getD k default).v = some wk) (hl : ws.length = K) (ht : todo = if (!decide (meetW wk ws = wk)) = true then fs.todo ++ [k] else fs.todo) :
    ToR n K fs k (absB ws) ⟨fs.sls.set k ⟨(fs.sls.getD k default).A, (fs.sls.getD k default).c, some (meetW wk ws)⟩, todo, tA, tc⟩ := by
 have hwk := h.lenK _ (getD_mem hk) wk hv
 have hA := h.ok _ (getD_mem hk)
 unfold swOk at hA
 rw [hv] at hA
 have he : wk.length = ws.length := by omega
 refine ⟨h.set hA (by rw [meetW_len he]; exact hwk), ?_, ?_⟩
 ·unfold meetX
  rw [fam_atW hk, hv]
  unfold famW
  rw [List.map_set]
  show List.set _ _ (some (absB (meetW wk ws))) = _
  rw [abs_meet he]
  rfl
 show todo = _
 rw [ht]
 unfold chg
 rw [fam_atW hk, hv]
 have e : decide (meetB (absB wk) (absB ws) = absB wk) = decide (meetW wk ws = wk) := by
  apply decide_eq_decide.2
  rw [← abs_meet he]
  exact ⟨fun q => abs_inj (meetW_len he) q, fun q => by rw [q]⟩
 show _ = if (!decide (meetB (absB wk) (absB ws) = absB wk)) = true then _ else _
 rw [e]
theorem sw_rows {sls : List Sw} {k n : Nat} {A : Option Addr} {c : Nat} {x : List Wd64} (hx : x.length = n) : (sls.set k ⟨A, c, some x⟩).map swRow = (sls.map swRow).set k (.row A n c 39 1 (x.map zw)) := by
 rw [List.map_set]
 subst hx
 rfl
theorem sw_cells {sls : List Sw} {k : Nat} {x : List Wd64} (hk : k < sls.length) (hx : x.length = (sls.getD k default).ws.length) : (sls.set k ⟨(sls.getD k default).A, (sls.getD k default).c, some x⟩).map swCell = sls.map swCell := by
 rw [List.map_set]
 have e : swCell ⟨(sls.getD k default).A, (sls.getD k default).c, some x⟩ = swCell (sls.getD k default) := by
  unfold swCell
  show T.v (.slice _ x.length _) = _
  rw [hx]
 rw [e, gd hk]
 have : (sls.map swCell)[k]? = some (swCell sls[k]) := by rw [List.getElem?_map, List.getElem?_eq_getElem hk]; rfl
 obtain ⟨h1, h2⟩ := List.getElem?_eq_some_iff.1 this
 rw [← h2, List.set_getElem_self]
theorem sw_cell_set {sls : List Sw} {k n : Nat} {A : Option Addr} {c : Nat} {x : List Wd64} (hx : x.length = n) : (sls.set k ⟨A, c, some x⟩).map swCell = (sls.map swCell).set k (.v (.slice A n c)) := by
 rw [List.map_set]
 subst hx
 rfl
def Tos (n K : Nat) (out : List Bool) : List Nat → FS → FS → Prop
 | [], fs, fs' => fs' = fs
 | k :: r, fs, fs' => ∃ fs1, ToR n K fs k out fs1 ∧ Tos n K out r fs1 fs'
theorem Tos.app {n K : Nat} {out : List Bool} : ∀ {l l' : List Nat} {fs fs1 fs2 : FS}, Tos n K out l fs fs1 → Tos n K out l' fs1 fs2 → Tos n K out (l ++ l') fs fs2
 | [], _, _, _, _, h, h' => by rw [show _ = _ from h] at h'; exact h'
 | _ :: _, _, _, _, _, ⟨x, h1, h2⟩, h' => ⟨x, h1, Tos.app h2 h'⟩
theorem readOk_abs {R : Nat} {i : Ins} {ws : List Wd64} : readOkB R i (absB ws) = (((readsF i).all fun r => bitW ws r.toNat) && (!decide (i.kind = 31) || bitW ws (R + i.imm.toNat))) := by
 unfold readOkB
 rw [absB_get]
 congr 1
 congr 1
 funext r
 rw [absB_get]
def clrTo (ws : List Wd64) (j : Nat) : List Wd64 := (List.range j).foldl clrW ws
theorem clrTo_succ (ws : List Wd64) (j : Nat) : clrTo ws (j + 1) = clrW (clrTo ws j) j := by
 unfold clrTo
 rw [List.range_succ, List.foldl_append]
 rfl
theorem clrTo_len (ws : List Wd64) : ∀ j, (clrTo ws j).length = ws.length
 | 0 => rfl
 | j + 1 => by rw [clrTo_succ, clrW_len, clrTo_len ws j]
theorem clrTo_abs {ws : List Wd64} : ∀ {j : Nat}, j ≤ 64 * ws.length → absB (clrTo ws j) = List.replicate j false ++ (absB ws).drop j
 | 0, _ => rfl
 | j + 1, h => by
  rw [clrTo_succ, abs_clr (by rw [clrTo_len]; omega), clrTo_abs (by omega), rep_set (regs := 64 * ws.length) (by omega) (by rw [absB_len]; exact Nat.le_refl _)]
def wb1 (R : Nat) (i : Ins) (ws : List Wd64) : List Wd64 := if i.kind = 22 ∨ i.kind = 23 then clrTo ws R else ws
def wb2 (R : Nat) (i : Ins) (ws : List Wd64) : List Wd64 := if (hasF i.kind).d = true then putW (wb1 R i ws) i.d.toNat else wb1 R i ws
def wb3 (R : Nat) (i : Ins) (ws : List Wd64) : List Wd64 := if i.kind = 32 then putW (wb2 R i ws) (R + i.imm.toNat) else wb2 R i ws
theorem wb1_len {R : Nat} {i : Ins} {ws : List Wd64} : (wb1 R i ws).length = ws.length := by
 unfold wb1
 split
 ·exact clrTo_len ws R
 rfl
theorem wb2_len {R : Nat} {i : Ins} {ws : List Wd64} : (wb2 R i ws).length = ws.length := by
 unfold wb2
 split
 ·rw [putW_len, wb1_len]
 exact wb1_len
theorem wb3_len {R : Nat} {i : Ins} {ws : List Wd64} : (wb3 R i ws).length = ws.length := by
 unfold wb3
 split
 ·rw [putW_len, wb2_len]
 exact wb2_len
theorem wb3_abs {p : Prog} {f : Fn} {many : LM} {R : Nat} {i : Ins} {ws : List Wd64} (hR : f.regs = (R : Int)) (hi : InsOk p f many i) (hW : f.regs + f.slots ≤ 64 * ws.length) (hs : 0 ≤ f.slots) : absB (wb3 R i ws) = behindF R i (absB ws) := by
 have h1 : absB (wb1 R i ws) = bh1 R i (absB ws) := by
  unfold wb1 bh1
  split
  ·exact clrTo_abs (by omega)
  ·rfl
 have h2 : absB (wb2 R i ws) = bh2 R i (absB ws) := by
  unfold wb2 bh2
  split
  ·rename_i hd
   have := hi.d hd
   rw [abs_put (by rw [wb1_len]; omega), h1]
  ·exact h1
 unfold wb3 behindF
 split
 ·rename_i hk
  have := hi.slot (.inr hk)
  rw [abs_put (by rw [wb2_len]; omega), h2]
 exact h2
def SF (f : Fn) (W : Nat) : Prop := ∃ Y, Sol f f.regs.toNat W Y ∧ ReadsOk f f.regs.toNat Y
def rsz (W : Nat) (a : List Bool) : List Bool := (List.range W).map fun n => a.getD n false
theorem rsz_len (W : Nat) (a : List Bool) : (rsz W a).length = W := by unfold rsz; simp
theorem rsz_get {W : Nat} {a : List Bool} {n : Nat} (h : n < W) : (rsz W a).getD n false = a.getD n false := by
 unfold rsz
 simp [h]
theorem rsz_out {W : Nat} {a : List Bool} {n : Nat} (h : ¬ n < W) : (rsz W a).getD n false = false := by
 unfold rsz
 simp [h]
theorem behind_get {R : Nat} {i : Ins} {a : List Bool} {n : Nat} (hR : R ≤ a.length) : (behindF R i a).getD n false =
    if i.kind = 32 ∧ R + i.imm.toNat = n ∧ n < a.length then true else if (hasF i.kind).d = true ∧ i.d.toNat = n ∧ n < a.length then true else if (i.kind = 22 ∨ i.kind = 23) ∧ n < R then false else a.getD n false := by
 have h1 : (bh1 R i a).getD n false = if (i.kind = 22 ∨ i.kind = 23) ∧ n < R then false else a.getD n false := by
  unfold bh1
  split
  ·rename_i h
   rw [getD_rep hR]
   by_cases hn : n < R
   ·rw [if_pos hn, if_pos ⟨h, hn⟩]
   ·rw [if_neg hn, if_neg (fun q => hn q.2)]
  ·rename_i h; rw [if_neg (fun q => h q.1)]
 have h2 : (bh2 R i a).getD n false = if (hasF i.kind).d = true ∧ i.d.toNat = n ∧ n < a.length then true else if (i.kind = 22 ∨ i.kind = 23) ∧ n < R then false else a.getD n false := by
  unfold bh2
  split
  ·rename_i h
   rw [getD_set, bh1_len hR, h1]
   by_cases e : i.d.toNat = n ∧ i.d.toNat < a.length
   ·rw [if_pos e, if_pos ⟨h, e.1, by omega⟩]
   ·rw [if_neg e, if_neg (show ¬ ((hasF i.kind).d = true ∧ i.d.toNat = n ∧ n < a.length) from fun q => e ⟨q.2.1, by omega⟩)]
  ·rename_i h; rw [if_neg (show ¬ ((hasF i.kind).d = true ∧ i.d.toNat = n ∧ n < a.length) from fun q => h q.1), h1]
 unfold behindF
 split
 ·rename_i h
  rw [getD_set, bh2_len hR, h2]
  by_cases e : R + i.imm.toNat = n ∧ R + i.imm.toNat < a.length
  ·rw [if_pos e, if_pos ⟨h, e.1, by omega⟩]
  rw [if_neg e, if_neg (show ¬ (i.kind = 32 ∧ R + i.imm.toNat = n ∧ n < a.length) from fun q => e ⟨q.2.1, by omega⟩)]
 rename_i h; rw [if_neg (show ¬ (i.kind = 32 ∧ R + i.imm.toNat = n ∧ n < a.length) from fun q => h q.1), h2]
theorem first_get {R W P n : Nat} : (firstF R W P).getD n false = decide (n < P) := by
 unfold firstF
 simp only [List.getD_eq_getElem?_getD]
 by_cases h : n < P
 ·rw [List.getElem?_append_left (by simpa using h)]; simp [h]
 rw [List.getElem?_append_right (by simp; omega), List.getElem?_replicate]
 split <;> simp [h]
theorem fam_map {Y : Fam} {g : List Bool → List Bool} {k : Nat} : famAt (Y.map (Option.map g)) k = (famAt Y k).map g := by
 unfold famAt
 simp only [List.getD_eq_getElem?_getD, List.getElem?_map]
 cases Y[k]? <;> rfl
theorem SF_resize {p : Prog} {f : Fn} (hf : FnOk p f) {W1 W2 : Nat} (h1 : f.regs.toNat + f.slots.toNat ≤ W1) (h2 : f.regs.toNat + f.slots.toNat ≤ W2) (h : SF f W1) : SF f W2 := by
 obtain ⟨Y, hY, hr⟩ := h
 have hp2 := hf.par2
 have hp0 := hf.par0
 have hs0 := hf.slot0
 refine ⟨Y.map (Option.map (rsz W2)), ⟨by rw [List.length_map, hY.len], fun k a ha => ?_, ?_, fun k a hk ha l hl => ?_⟩, fun k a hk ha => ?_⟩
 ·rw [fam_map] at ha
  cases hy : famAt Y k with
  | none => rw [hy] at ha; cases ha
  | some b => rw [hy] at ha; simp only [Option.map_some, Option.some.injEq] at ha; rw [← ha, rsz_len]
 ·obtain ⟨a, ha, hle⟩ := hY.first
  refine ⟨rsz W2 a, by rw [fam_map, ha]; rfl, fun n hn => ?_⟩
  by_cases hw : n < W2
  ·rw [rsz_get hw] at hn
   have := hle n hn
   rw [first_get] at this ⊢
   exact this
  rw [rsz_out hw] at hn; cases hn
 ·rw [fam_map] at ha
  cases hy : famAt Y k with
  | none => rw [hy] at ha; cases ha
  | some b =>
   rw [hy] at ha
   simp only [Option.map_some, Option.some.injEq] at ha
   subst ha
   have hb := hY.bits k b hy
   have hst := hY.step k b hk hy l hl
   rw [fam_map]
   cases hz : famAt Y l.toNat with
   | none => rw [hz] at hst; exact absurd hst id
   | some z =>
    rw [hz] at hst
    intro n hn
    by_cases hw : n < W2
    ·rw [rsz_get hw] at hn
     have := hst n hn
     have hi := hf.ins _ (getD_mem hk)
     rw [behind_get (by omega)] at this
     rw [behind_get (by rw [rsz_len]; omega), rsz_len, rsz_get hw]
     by_cases c1 : (f.code.getD k default).kind = 32 ∧ f.regs.toNat + (f.code.getD k default).imm.toNat = n ∧ n < b.length
     ·rw [if_pos ⟨c1.1, c1.2.1, hw⟩]
     ·rw [if_neg c1] at this
      by_cases c2 : (hasF (f.code.getD k default).kind).d = true ∧ (f.code.getD k default).d.toNat = n ∧ n < b.length
      ·split
       ·rfl
       ·rw [if_pos ⟨c2.1, c2.2.1, hw⟩]
      ·rw [if_neg c2] at this
       split
       ·rfl
       split
       ·rfl
       exact this
    ·rw [rsz_out hw] at hn; cases hn
 rw [fam_map] at ha
 cases hy : famAt Y k with
 | none => rw [hy] at ha; cases ha
 | some b =>
  rw [hy] at ha
  simp only [Option.map_some, Option.some.injEq] at ha
  subst ha
  have hb := hr k b hk hy
  have hi := hf.ins _ (getD_mem hk)
  unfold readOkB at hb ⊢
  rw [Bool.and_eq_true, List.all_eq_true, Bool.or_eq_true] at hb ⊢
  refine ⟨fun r hr' => ?_, ?_⟩
  ·have := reads_in hi r hr'
   rw [rsz_get (by omega)]
   exact hb.1 r hr'
  ·rcases hb.2 with q | q
   ·exact .inl q
   ·by_cases h31 : (f.code.getD k default).kind = 31
    ·have := hi.slot (.inl h31)
     rw [rsz_get (by omega)]
     exact .inr q
    ·left; rw [decide_eq_false h31]; rfl
theorem strictF_at {p : Prog} {f : Fn} (hf : FnOk p f) {W : Nat} (h : f.regs.toNat + f.slots.toNat ≤ W) : StrictF f ↔ SF f W := ⟨fun q => SF_resize hf (Nat.le_refl _) h q, fun q => SF_resize hf h (Nat.le_refl _) q⟩
theorem perm_back {α : Type} {F B : List α} {r : α} {q : Nat} (hq : q < B.length) : (r :: (F ++ (B.take q ++ B.drop (q + 1)))).Perm (F ++ B.set q r) := by
 rw [List.set_eq_take_append_cons_drop, if_pos hq]
 have e : F ++ (B.take q ++ r :: B.drop (q + 1)) = (F ++ B.take q) ++ r :: B.drop (q + 1) := by simp
 rw [e]
 refine (List.perm_middle.trans (.of_eq ?_)).symm
 simp
theorem perm_outF {α : Type} {F B : List α} {f : α} {q : Nat} (hq : B[q]? = some f) : (F ++ B).Perm (f :: (F ++ (B.take q ++ B.drop (q + 1)))) := by
 obtain ⟨hl, rfl⟩ := List.getElem?_eq_some_iff.1 hq
 have e : F ++ B = (F ++ B.take q) ++ B[q] :: B.drop (q + 1) := by
  conv => lhs; rw [← List.take_append_drop q B, List.drop_eq_getElem_cons hl]
  simp [List.append_assoc]
 rw [e]
 refine List.perm_middle.trans (.of_eq ?_)
 simp [List.append_assoc]
end Go.Proofs.Ytlfklgganokgdaa

namespace Go.Proofs.Ytlfklgganokgdaa
open Go Go.RowKit

set_option maxHeartbeats 8000000 in
theorem to38 (bw : Nat) (f : Fn) (m : Nat) (aA : Option Addr) (n K : Nat) (fs : FS) (k : Nat) (As : Option Addr) (cs : Nat) (ws : List Wd64) (h : FOk n K fs) (hk : k < n) (hn : n ≤ 1048576) (hK : K ≤ 1048576) (hw : ws.length = K) (ht : fs.todo.length ≤ 4398046511104) :
    ACalls Try.prog 38 [.v (.pointer (some ⟨bw, 0, none⟩)), zn k, .v (.slice As K cs)] (.row As K cs 39 1 ((ws).map zw) :: FSt bw f m aA n fs) (fun t S => t = .tup [] ∧ ∃ fs', ToR n K fs k (absB ws) fs' ∧ S = .row As K cs 39 1 ((ws).map zw) :: FSt bw f m aA n fs') := by
 have hkl : k < fs.sls.length := by rw [h.len]; exact hk
 refine ACalls.intro Try.func38 rfl Try.ntmps38 nB rfl fun X w0 => ?_
 refine rs (ym ?_)
 refine Y1 (Yv.nilChk rfl eV) ?_
 refine yf fo_100_2 ?_
 refine yl ag_98 1 ?_
 refine ym ?_
 refine Y1 (Yv.indexRow rfl ss_98 (i := 2) rfl eV eV (fun hg => ⟨rfl, by omega⟩)) ?_
 refine Y1 (Yv.loadEp rfl ag_101 (i := 2) rfl eV (fun hg => sw_cell (by first | omega | assumption))) ?_
 refine Y1 (Yv.eqNilV rfl so_101 eV) (nl ?_)
 refine AW.cond rfl (fun h0t => ?_) (fun h0f => ?_)
 ·have hv := sw_none (h.ok _ (getD_mem hkl)) h0t
  refine AW.rseqP rfl ?_
  refine T1 (i := 0) rfl (freeMove rfl (E rfl rfl)) ?_
  refine T1 (i := 1) rfl (freeNil rfl (E rfl rfl)) ?_
  refine T1 (i := 2) rfl (freeField rfl fo_100_2 (E rfl rfl)) ?_
  refine T1 (i := 4) rfl (freeMove rfl (E rfl rfl)) ?_
  refine T1 (i := 6) rfl (freeMove rfl (E rfl rfl)) ?_
  refine AWP.two (i := 3) (j := 5) (by kernel_rfl) rfl rfl ?_ ?_
  ·refine yl ag_98 1 (nl ?_)
   refine p1 5 ?_
   refine AWL.buildSliceRowS rfl rfl (B rfl) rfl el_101 (B rfl) rfl evs0 nB rfl rfl (fun A19 hA19 => ?_)
   refine nl ?_
   refine p1 7 ?_
   refine AWL.perm (List.perm_append_singleton _ _).symm ?_
   refine AWL.appendRowS (i := 0) rfl rfl (B rfl) rfl el_101 (B rfl) rfl (E rfl rfl) (SrcT.row so_101 (i := 1) rfl (E rfl rfl)) (by unfold maxLen; omega) (by omega) hA19 (fun A21 c21 hA21 => ?_)
   rw [Nat.zero_add]
   refine AWL.putRow (F := ([.row As K cs 39 1 ((ws).map zw), .box bw 100 (flCells f m aA n fs), .row aA n n 101 1 (fs.sls.map swCell), .row fs.tA fs.todo.length fs.tc 3 1 (fs.todo.map zn)] : St)) (L := k) (by rw [List.length_map]; exact hkl) (nl ?_)
   refine p1 8 ?_
   refine Y1 (Yv.indexRow rfl ss_98 (i := 2) rfl eV eV (fun hg => ⟨rfl, by omega⟩)) (nl ?_)
   refine p1 9 ?_
   refine AWL.storeEp1 (i := 2) rfl rfl rfl ag_101 rfl (E rfl rfl) (E rfl rfl) rfl rfl (by rw [List.length_map, Nat.mul_one]; exact hkl) (nl ?_)
   refine AWP.done (by kernel_rfl) ?_
   refine AW.region ?_
   refine ym ?_
   refine ym ?_
   refine Y1 (Yv.nilChk rfl eV) ?_
   refine yf fo_100_3 ?_
   refine yl ag_47 1 ?_
   refine ym ?_
   refine AWL.buildSlice1 rfl rfl (B rfl) rfl el_47 rfl (evsC (E rfl rfl) evs0) nB rfl rfl ?_
   refine AWL.appendRow (i := 3) rfl rfl (B rfl) rfl el_47 (B rfl) rfl (E rfl rfl) (SrcT.sl so_47 (B rfl) (E rfl rfl) (m := 1) rfl) (by unfold maxLen; omega) (by omega) (fun A30 c30 => ?_)
   refine Y1 (Yv.nilChk rfl eV) ?_
   refine yf fo_100_3 ?_
   refine AWL.storeBox (i := 1) rfl rfl rfl ag_47 rfl (E rfl rfl) (E rfl rfl) rfl rfl nB (nl ?_)
   refine retN .nil ?_
   refine ⟨rfl, ⟨fs.sls.set k ⟨A21, c21, some ws⟩, fs.todo ++ [k], A30, c30⟩, to_nil h hkl hv hA21 hw, ?_⟩
   unfold FSt flCells
   dsimp only
   rw [sw_rows hw, sw_cell_set hw, List.map_append, List.length_append, Nat.mul_one]
   rfl
  refine AWL.buildSliceRowS rfl rfl (B rfl) rfl el_101 (B rfl) rfl evs0 nB rfl rfl (fun A19 hA19 => ?_)
  refine nl ?_
  refine AWP.two (i := 3) (j := 7) (by kernel_rfl) rfl rfl ?_ ?_
  ·refine yl ag_98 1 (nl ?_)
   refine p1 7 ?_
   refine AWL.perm (List.perm_append_singleton _ _).symm ?_
   refine AWL.appendRowS (i := 0) rfl rfl (B rfl) rfl el_101 (B rfl) rfl (E rfl rfl) (SrcT.row so_101 (i := 1) rfl (E rfl rfl)) (by unfold maxLen; omega) (by omega) hA19 (fun A21 c21 hA21 => ?_)
   rw [Nat.zero_add]
   refine AWL.putRow (F := ([.row As K cs 39 1 ((ws).map zw), .box bw 100 (flCells f m aA n fs), .row aA n n 101 1 (fs.sls.map swCell), .row fs.tA fs.todo.length fs.tc 3 1 (fs.todo.map zn)] : St)) (L := k) (by rw [List.length_map]; exact hkl) (nl ?_)
   refine p1 8 ?_
   refine Y1 (Yv.indexRow rfl ss_98 (i := 2) rfl eV eV (fun hg => ⟨rfl, by omega⟩)) (nl ?_)
   refine p1 9 ?_
   refine AWL.storeEp1 (i := 2) rfl rfl rfl ag_101 rfl (E rfl rfl) (E rfl rfl) rfl rfl (by rw [List.length_map, Nat.mul_one]; exact hkl) (nl ?_)
   refine AWP.done (by kernel_rfl) ?_
   refine AW.region ?_
   refine ym ?_
   refine ym ?_
   refine Y1 (Yv.nilChk rfl eV) ?_
   refine yf fo_100_3 ?_
   refine yl ag_47 1 ?_
   refine ym ?_
   refine AWL.buildSlice1 rfl rfl (B rfl) rfl el_47 rfl (evsC (E rfl rfl) evs0) nB rfl rfl ?_
   refine AWL.appendRow (i := 3) rfl rfl (B rfl) rfl el_47 (B rfl) rfl (E rfl rfl) (SrcT.sl so_47 (B rfl) (E rfl rfl) (m := 1) rfl) (by unfold maxLen; omega) (by omega) (fun A30 c30 => ?_)
   refine Y1 (Yv.nilChk rfl eV) ?_
   refine yf fo_100_3 ?_
   refine AWL.storeBox (i := 1) rfl rfl rfl ag_47 rfl (E rfl rfl) (E rfl rfl) rfl rfl nB (nl ?_)
   refine retN .nil ?_
   refine ⟨rfl, ⟨fs.sls.set k ⟨A21, c21, some ws⟩, fs.todo ++ [k], A30, c30⟩, to_nil h hkl hv hA21 hw, ?_⟩
   unfold FSt flCells
   dsimp only
   rw [sw_rows hw, sw_cell_set hw, List.map_append, List.length_append, Nat.mul_one]
   rfl
  refine AWL.perm (List.perm_append_singleton _ _).symm ?_
  refine AWL.appendRowS (i := 0) rfl rfl (B rfl) rfl el_101 (B rfl) rfl (E rfl rfl) (SrcT.row so_101 (i := 1) rfl (E rfl rfl)) (by unfold maxLen; omega) (by omega) hA19 (fun A21 c21 hA21 => ?_)
  rw [Nat.zero_add]
  refine AWL.putRow (F := ([.row As K cs 39 1 ((ws).map zw), .box bw 100 (flCells f m aA n fs), .row aA n n 101 1 (fs.sls.map swCell), .row fs.tA fs.todo.length fs.tc 3 1 (fs.todo.map zn)] : St)) (L := k) (by rw [List.length_map]; exact hkl) (nl ?_)
  refine p1 3 ?_
  refine yl ag_98 1 (nl ?_)
  refine p1 8 ?_
  refine Y1 (Yv.indexRow rfl ss_98 (i := 2) rfl eV eV (fun hg => ⟨rfl, by omega⟩)) (nl ?_)
  refine p1 9 ?_
  refine AWL.storeEp1 (i := 2) rfl rfl rfl ag_101 rfl (E rfl rfl) (E rfl rfl) rfl rfl (by rw [List.length_map, Nat.mul_one]; exact hkl) (nl ?_)
  refine AWP.done (by kernel_rfl) ?_
  refine AW.region ?_
  refine ym ?_
  refine ym ?_
  refine Y1 (Yv.nilChk rfl eV) ?_
  refine yf fo_100_3 ?_
  refine yl ag_47 1 ?_
  refine ym ?_
  refine AWL.buildSlice1 rfl rfl (B rfl) rfl el_47 rfl (evsC (E rfl rfl) evs0) nB rfl rfl ?_
  refine AWL.appendRow (i := 3) rfl rfl (B rfl) rfl el_47 (B rfl) rfl (E rfl rfl) (SrcT.sl so_47 (B rfl) (E rfl rfl) (m := 1) rfl) (by unfold maxLen; omega) (by omega) (fun A30 c30 => ?_)
  refine Y1 (Yv.nilChk rfl eV) ?_
  refine yf fo_100_3 ?_
  refine AWL.storeBox (i := 1) rfl rfl rfl ag_47 rfl (E rfl rfl) (E rfl rfl) rfl rfl nB (nl ?_)
  refine retN .nil ?_
  refine ⟨rfl, ⟨fs.sls.set k ⟨A21, c21, some ws⟩, fs.todo ++ [k], A30, c30⟩, to_nil h hkl hv hA21 hw, ?_⟩
  unfold FSt flCells
  dsimp only
  rw [sw_rows hw, sw_cell_set hw, List.map_append, List.length_append, Nat.mul_one]
  rfl
 have hv := sw_some (h.ok _ (getD_mem hkl)) h0f
 have hwK : (fs.sls.getD k default).ws.length = K := h.lenK _ (getD_mem hkl) _ hv
 have hml : (meetW (fs.sls.getD k default).ws ws).length = (fs.sls.getD k default).ws.length := meetW_len (by omega)
 refine AW.perm (perm_outF (F := ([.row As K cs 39 1 ((ws).map zw), .box bw 100 (flCells f m aA n fs), .row aA n n 101 1 (fs.sls.map swCell), .row fs.tA fs.todo.length fs.tc 3 1 (fs.todo.map zn)] : St)) (sw_row hkl)).symm ?_
 refine rs (ym ?_)
 refine Y1 (Yv.nilChk rfl eV) ?_
 refine yf fo_100_2 ?_
 refine yl ag_98 2 ?_
 refine ym ?_
 refine Y1 (Yv.indexRow rfl ss_98 (i := 3) rfl eV eV (fun hg => ⟨rfl, by omega⟩)) ?_
 refine Y1 (Yv.loadEp rfl ag_101 (i := 3) rfl eV (fun hg => sw_cell (by first | omega | assumption))) ?_
 refine ym ?_
 refine C1 rfl ce_59 (E rfl rfl) (evsC (E rfl rfl) (evsC (E rfl rfl) evs0)) (S1 := [swRow (fs.sls.getD k default), .row As K cs 39 1 ((ws).map zw)]) (S2 := _) rfl (meet59 (fs.sls.getD k default).A As (fs.sls.getD k default).ws.length K (fs.sls.getD k default).c cs (fs.sls.getD k default).ws ws rfl hw hwK (by omega)) ?_
 rintro t41 S41 ⟨rfl, rfl⟩
 refine nl ?_
 refine AW.perm (perm_back (F := ([.row As K cs 39 1 ((ws).map zw), .box bw 100 (flCells f m aA n fs), .row aA n n 101 1 (fs.sls.map swCell), .row fs.tA fs.todo.length fs.tc 3 1 (fs.todo.map zn)] : St)) (by rw [List.length_map]; exact hkl)).symm ?_
 refine AW.cond rfl (fun h1t => ?_) (fun h1f => ?_)
 ·refine AW.region ?_
  refine ym ?_
  refine ym ?_
  refine Y1 (Yv.nilChk rfl eV) ?_
  refine yf fo_100_3 ?_
  refine yl ag_47 1 ?_
  refine ym ?_
  refine AWL.buildSlice1 rfl rfl (B rfl) rfl el_47 rfl (evsC (E rfl rfl) evs0) nB rfl rfl ?_
  refine AWL.appendRow (i := 3) rfl rfl (B rfl) rfl el_47 (B rfl) rfl (E rfl rfl) (SrcT.sl so_47 (B rfl) (E rfl rfl) (m := 1) rfl) (by unfold maxLen; omega) (by omega) (fun A49 c49 => ?_)
  refine Y1 (Yv.nilChk rfl eV) ?_
  refine yf fo_100_3 ?_
  refine AWL.storeBox (i := 1) rfl rfl rfl ag_47 rfl (E rfl rfl) (E rfl rfl) rfl rfl nB (nl ?_)
  refine retN .nil ?_
  refine ⟨rfl, ⟨fs.sls.set k ⟨(fs.sls.getD k default).A, (fs.sls.getD k default).c, some (meetW (fs.sls.getD k default).ws ws)⟩, fs.todo ++ [k], A49, c49⟩, to_some h hkl hv hw (by rw [if_pos h1t]), ?_⟩
  unfold FSt flCells
  dsimp only
  rw [sw_rows hml, sw_cells hkl hml, List.map_append, List.length_append]
  rfl
 refine AW.skip ?_
 refine retN .nil ?_
 refine ⟨rfl, ⟨fs.sls.set k ⟨(fs.sls.getD k default).A, (fs.sls.getD k default).c, some (meetW (fs.sls.getD k default).ws ws)⟩, fs.todo, fs.tA, fs.tc⟩, to_some h hkl hv hw (by rw [if_neg (by rw [h1f]; decide)]), ?_⟩
 unfold FSt flCells
 dsimp only
 rw [sw_rows hml, sw_cells hkl hml]
 rfl

end Go.Proofs.Ytlfklgganokgdaa
