/-
  WHAT ONE READ-ONLY OPERATION YIELDS, said of symbolic states ('Yv'). Generic: no program is named here.
-/
import Derived.Test.YtjndpakhmgapjaaDoorAw2
namespace Go.Proofs.YtjndpakhmgapjaaDoor
open Go Go.RowKit
set_option linter.unusedVariables false

/-- An operand is the tree t, if g. -/
def Ev (env : Env) (g : Bool) (x : Operand) (t : T) : Prop := ∃ c, ev env x = some (c, t) ∧ plainConst x = true ∧ (g = true → c = true)

section
variable {cx : Cx} {env : Env} {S : St} {o : Oper} {g : Bool} {x y z : Operand}

theorem Ev.rep {t : T} (h : Ev env g x t) {a : Act} {w : World} (hs : Sim cx env S a w) (hg : g = true) : VRep w (cx.X ++ M S) t (a.eval x) := by
  obtain ⟨c, h1, h2, h3⟩ := h
  exact hs.ev h1 h2 (h3 hg)
theorem Ev.val {u : Value} (h : Ev env g x (.v u)) {a : Act} {w : World} (hs : Sim cx env S a w) (hg : g = true) : a.eval x = u := (h.rep hs hg).v_inv
theorem Ev.of_true {t : T} (h : Ev env true x t) : Ev env g x t := let ⟨c, h1, h2, h3⟩ := h; ⟨c, h1, h2, fun _ => h3 rfl⟩

/-- Operations whose run is a plain value. -/
theorem Yv.plain {u : Value} (h : ∀ a w, Sim cx env S a w → g = true → ∀ w', (execOp a.eval o).run cx.P w' = .ok (.value u) w') : Yv cx o env S g (.v u) :=
  fun a w hs hg => ⟨u, .v u, fun w' _ => h a w hs hg w'⟩

theorem Yv.move {t : T} (ho : o.op = .move x) (hx : Ev env g x t) : Yv cx o env S g t :=
  fun a w hs hg => ⟨a.eval x, hx.rep hs hg, fun w' _ => by simp [execOp, ho, Sem.run_pure]⟩
theorem Yv.assign {t : T} (ho : o.op = .assign x) (hx : Ev env g x t) : Yv cx o env S g t :=
  fun a w hs hg => ⟨a.eval x, hx.rep hs hg, fun w' _ => by simp [execOp, ho, Sem.run_pure]⟩

theorem run_pick {ρ : Operand → Value} {P : Program} {b : Bool} (ho : o.op = .pick x y z) (hx : ρ x = .bool b) (w : World) : (execOp ρ o).run P w = .ok (.value (if b then ρ y else ρ z)) w := by
  simp [execOp, ho, hx, asBool, Sem.run_bind, Sem.run_pure]
theorem Yv.pickOr {b q : Bool} {t : Operand} (ho : o.op = .pick x (.const (.bool true)) z) (hx : Ev env g x (.v (.bool b))) (hz : Ev env (g && !b) z (.v (.bool q))) : Yv cx o env S g (.v (.bool (b || q))) :=
  Yv.plain fun a w hs hg w' => by
    rw [run_pick ho (hx.val hs hg)]
    cases b
    · rw [hz.val hs (by simp [hg])]; rfl
    · rfl
theorem Yv.pickAnd {b q : Bool} (ho : o.op = .pick x z (.const (.bool false))) (hx : Ev env g x (.v (.bool b))) (hz : Ev env (g && b) z (.v (.bool q))) : Yv cx o env S g (.v (.bool (b && q))) :=
  Yv.plain fun a w hs hg w' => by
    rw [run_pick ho (hx.val hs hg)]
    cases b
    · rfl
    · rw [hz.val hs (by simp [hg])]; rfl

/-! ### Integers -/
theorem exec_binOp_int {ρ : Operand → Value} {P : Program} {op : BinOp} {ty yt : TypeId} {k k' : IntKind} {p q : Int} (ho : o.op = .binOp op ty x y yt) (hx : ρ x = .int k p) (hy : ρ y = .int k' q) (w : World) :
    (execOp ρ o).run P w = ((binOp op ty (.int k p) (.int k' q)).run P w).andThen fun v w => .ok (.value v) w := by
  have h : eqGuard op ty x y (.int k p) (.int k' q) = pure () := by
    unfold eqGuard
    split <;> rfl
  simp only [execOp, ho, hx, hy, h, Sem.run_bind, Sem.run_pure, pure_bind]

theorem Yv.add {ty yt : TypeId} {k : IntKind} {p q : Int} (ho : o.op = .binOp .add ty x y yt) (hx : Ev env g x (.v (.int k p))) (hy : Ev env g y (.v (.int k q))) : Yv cx o env S g (.v (.int k (k.wrap (p + q)))) :=
  Yv.plain fun a w hs hg w' => by rw [exec_binOp_int ho (hx.val hs hg) (hy.val hs hg)]; simp [binOp, Op.intArith, Sem.run_pure]
theorem Yv.sub {ty yt : TypeId} {k : IntKind} {p q : Int} (ho : o.op = .binOp .sub ty x y yt) (hx : Ev env g x (.v (.int k p))) (hy : Ev env g y (.v (.int k q))) : Yv cx o env S g (.v (.int k (k.wrap (p - q)))) :=
  Yv.plain fun a w hs hg w' => by rw [exec_binOp_int ho (hx.val hs hg) (hy.val hs hg)]; simp [binOp, Op.intArith, Sem.run_pure]
theorem Yv.mul {ty yt : TypeId} {k : IntKind} {p q : Int} (ho : o.op = .binOp .mul ty x y yt) (hx : Ev env g x (.v (.int k p))) (hy : Ev env g y (.v (.int k q))) : Yv cx o env S g (.v (.int k (k.wrap (p * q)))) :=
  Yv.plain fun a w hs hg w' => by rw [exec_binOp_int ho (hx.val hs hg) (hy.val hs hg)]; simp [binOp, Op.intArith, Sem.run_pure]
theorem Yv.quo {ty yt : TypeId} {k : IntKind} {p q : Int} (ho : o.op = .binOp .quo ty x y yt) (hx : Ev env g x (.v (.int k p))) (hy : Ev env g y (.v (.int k q))) (hq : g = true → q ≠ 0) : Yv cx o env S g (.v (.int k (k.wrap (p.tdiv q)))) :=
  Yv.plain fun a w hs hg w' => by rw [exec_binOp_int ho (hx.val hs hg) (hy.val hs hg)]; simp [binOp, Op.intDiv, Sem.run_pure, hq hg]
theorem Yv.rem {ty yt : TypeId} {k : IntKind} {p q : Int} (ho : o.op = .binOp .rem ty x y yt) (hx : Ev env g x (.v (.int k p))) (hy : Ev env g y (.v (.int k q))) (hq : g = true → q ≠ 0) : Yv cx o env S g (.v (.int k (p.tmod q))) :=
  Yv.plain fun a w hs hg w' => by rw [exec_binOp_int ho (hx.val hs hg) (hy.val hs hg)]; simp [binOp, Op.intDiv, Sem.run_pure, hq hg]
/-- The bits of two integers of a kind, as Go has them. -/
def bitsOf (op : BinOp) (k : IntKind) (p q : Int) : Int :=
  match op with
  | .and => k.wrap (BitVec.ofInt k.bits p &&& BitVec.ofInt k.bits q).toNat
  | .or => k.wrap (BitVec.ofInt k.bits p ||| BitVec.ofInt k.bits q).toNat
  | .xor => k.wrap (BitVec.ofInt k.bits p ^^^ BitVec.ofInt k.bits q).toNat
  | _ => k.wrap (BitVec.ofInt k.bits p &&& ~~~BitVec.ofInt k.bits q).toNat
def isBits : BinOp → Bool
  | .and | .or | .xor | .andNot => true
  | _ => false
theorem Yv.bits {op : BinOp} {ty yt : TypeId} {k : IntKind} {p q : Int} (ho : o.op = .binOp op ty x y yt) (hop : isBits op = true) (hx : Ev env g x (.v (.int k p))) (hy : Ev env g y (.v (.int k q))) : Yv cx o env S g (.v (.int k (bitsOf op k p q))) :=
  Yv.plain fun a w hs hg w' => by
    rw [exec_binOp_int ho (hx.val hs hg) (hy.val hs hg)]
    cases op <;> first | (cases hop; done) | simp [binOp, Op.intBits, Sem.run_pure, bitsOf]
/-- Shifts. -/
def shlOf (k : IntKind) (p q : Int) : Int := k.wrap (p * 2 ^ (min q.toNat k.bits))
def shrOf (k : IntKind) (p q : Int) : Int := p.fdiv (2 ^ (min q.toNat k.bits))
theorem Yv.shl {ty yt : TypeId} {k k' : IntKind} {p q : Int} (ho : o.op = .binOp .shl ty x y yt) (hx : Ev env g x (.v (.int k p))) (hy : Ev env g y (.v (.int k' q))) (hq : g = true → 0 ≤ q) : Yv cx o env S g (.v (.int k (shlOf k p q))) :=
  Yv.plain fun a w hs hg w' => by
    rw [exec_binOp_int ho (hx.val hs hg) (hy.val hs hg)]
    have := hq hg
    simp [binOp, Op.shift, Sem.run_pure, show ¬ q < 0 by omega, shlOf]
theorem Yv.shr {ty yt : TypeId} {k k' : IntKind} {p q : Int} (ho : o.op = .binOp .shr ty x y yt) (hx : Ev env g x (.v (.int k p))) (hy : Ev env g y (.v (.int k' q))) (hq : g = true → 0 ≤ q) : Yv cx o env S g (.v (.int k (shrOf k p q))) :=
  Yv.plain fun a w hs hg w' => by
    rw [exec_binOp_int ho (hx.val hs hg) (hy.val hs hg)]
    have := hq hg
    simp [binOp, Op.shift, Sem.run_pure, show ¬ q < 0 by omega, shrOf]
theorem Yv.eql {ty yt : TypeId} {k : IntKind} {p q : Int} (ho : o.op = .binOp .eql ty x y yt) (hx : Ev env g x (.v (.int k p))) (hy : Ev env g y (.v (.int k q))) : Yv cx o env S g (.v (.bool (decide (p = q)))) :=
  Yv.plain fun a w hs hg w' => by rw [exec_binOp_int ho (hx.val hs hg) (hy.val hs hg)]; simp [binOp, Op.intCmp, Sem.run_pure, BEq.beq]
theorem Yv.neq {ty yt : TypeId} {k : IntKind} {p q : Int} (ho : o.op = .binOp .neq ty x y yt) (hx : Ev env g x (.v (.int k p))) (hy : Ev env g y (.v (.int k q))) : Yv cx o env S g (.v (.bool (!decide (p = q)))) :=
  Yv.plain fun a w hs hg w' => by rw [exec_binOp_int ho (hx.val hs hg) (hy.val hs hg)]; simp [binOp, Op.intCmp, Sem.run_pure, bne, BEq.beq]
theorem Yv.lss {ty yt : TypeId} {k : IntKind} {p q : Int} (ho : o.op = .binOp .lss ty x y yt) (hx : Ev env g x (.v (.int k p))) (hy : Ev env g y (.v (.int k q))) : Yv cx o env S g (.v (.bool (decide (p < q)))) :=
  Yv.plain fun a w hs hg w' => by rw [exec_binOp_int ho (hx.val hs hg) (hy.val hs hg)]; simp [binOp, Op.intCmp, Sem.run_pure]
theorem Yv.leq {ty yt : TypeId} {k : IntKind} {p q : Int} (ho : o.op = .binOp .leq ty x y yt) (hx : Ev env g x (.v (.int k p))) (hy : Ev env g y (.v (.int k q))) : Yv cx o env S g (.v (.bool (decide (p ≤ q)))) :=
  Yv.plain fun a w hs hg w' => by rw [exec_binOp_int ho (hx.val hs hg) (hy.val hs hg)]; simp [binOp, Op.intCmp, Sem.run_pure]
theorem Yv.gtr {ty yt : TypeId} {k : IntKind} {p q : Int} (ho : o.op = .binOp .gtr ty x y yt) (hx : Ev env g x (.v (.int k p))) (hy : Ev env g y (.v (.int k q))) : Yv cx o env S g (.v (.bool (decide (q < p)))) :=
  Yv.plain fun a w hs hg w' => by rw [exec_binOp_int ho (hx.val hs hg) (hy.val hs hg)]; simp [binOp, Op.intCmp, Sem.run_pure]
theorem Yv.geq {ty yt : TypeId} {k : IntKind} {p q : Int} (ho : o.op = .binOp .geq ty x y yt) (hx : Ev env g x (.v (.int k p))) (hy : Ev env g y (.v (.int k q))) : Yv cx o env S g (.v (.bool (decide (q ≤ p)))) :=
  Yv.plain fun a w hs hg w' => by rw [exec_binOp_int ho (hx.val hs hg) (hy.val hs hg)]; simp [binOp, Op.intCmp, Sem.run_pure]
theorem Yv.not {ty : TypeId} {b : Bool} (ho : o.op = .unOp .not ty x) (hx : Ev env g x (.v (.bool b))) : Yv cx o env S g (.v (.bool !b)) :=
  Yv.plain fun a w hs hg w' => by simp [execOp, ho, hx.val hs hg, Op.unary, Sem.run_bind, Sem.run_pure]
theorem Yv.neg {ty : TypeId} {k : IntKind} {p : Int} (ho : o.op = .unOp .neg ty x) (hx : Ev env g x (.v (.int k p))) : Yv cx o env S g (.v (.int k (k.wrap (0 - p)))) :=
  Yv.plain fun a w hs hg w' => by simp [execOp, ho, hx.val hs hg, Op.unary, Op.intArith, Sem.run_bind, Sem.run_pure]
theorem Yv.compl {ty : TypeId} {k : IntKind} {p : Int} (ho : o.op = .unOp .xor ty x) (hx : Ev env g x (.v (.int k p))) : Yv cx o env S g (.v (.int k (bitsOf .xor k (if k.signed then -1 else k.max) p))) :=
  Yv.plain fun a w hs hg w' => by simp [execOp, ho, hx.val hs hg, Op.unary, Op.intBits, Sem.run_bind, Sem.run_pure, bitsOf]
/-- The kind of an integer type. -/
def kindOf (P : Program) (t : TypeId) : Option IntKind :=
  match P.underlying t with
  | some (.int k) => some k
  | _ => none
theorem kindOf_spec {P : Program} {t : TypeId} {k : IntKind} (h : kindOf P t = some k) : P.underlying t = some (.int k) := by
  unfold kindOf at h
  split at h
  · simp only [Option.some.injEq] at h; subst h; assumption
  · cases h
theorem Yv.conv {src dst : TypeId} {k k' : IntKind} {p : Int} {d : TypeDesc} (ho : o.op = .convert src dst x) (hs : cx.P.underlying src = some d) (hd : kindOf cx.P dst = some k') (hx : Ev env g x (.v (.int k p))) : Yv cx o env S g (.v (.int k' (k'.wrap p))) :=
  Yv.plain fun a w hsim hg w' => by
    simp only [execOp, ho, hx.val hsim hg, convert, Sem.run_bind, run_underlying hs, run_underlying (kindOf_spec hd), Result.andThen_ok, Conv.intToInt, Sem.run_pure]

/-! ### Bools and strings -/
def isBoolB (P : Program) (t : TypeId) : Bool := match P.underlying t with | some .bool => true | _ => false
theorem isBoolB_spec {P : Program} {t : TypeId} (h : isBoolB P t = true) : P.underlying t = some .bool := by
  unfold isBoolB at h
  split at h
  · assumption
  · cases h
theorem Yv.eqlB {ty yt : TypeId} {p q : Bool} (ho : o.op = .binOp .eql ty x y yt) (ht : isBoolB cx.P ty = true) (hx : Ev env g x (.v (.bool p))) (hy : Ev env g y (.v (.bool q))) : Yv cx o env S g (.v (.bool (p == q))) :=
  Yv.plain fun a w hs hg w' => by
    have h : eqGuard .eql ty x y (.bool p) (.bool q) = pure () := by unfold eqGuard; split <;> rfl
    simp only [execOp, ho, hx.val hs hg, hy.val hs hg, h, Sem.run_bind, Sem.run_pure, Result.andThen_ok, run_eql_bool _ ty p q (isBoolB_spec ht)]
theorem Yv.neqB {ty yt : TypeId} {p q : Bool} (ho : o.op = .binOp .neq ty x y yt) (ht : isBoolB cx.P ty = true) (hx : Ev env g x (.v (.bool p))) (hy : Ev env g y (.v (.bool q))) : Yv cx o env S g (.v (.bool (!(p == q)))) :=
  Yv.plain fun a w hs hg w' => by
    have h : eqGuard .neq ty x y (.bool p) (.bool q) = pure () := by unfold eqGuard; split <;> rfl
    simp only [execOp, ho, hx.val hs hg, hy.val hs hg, h, Sem.run_bind, Sem.run_pure, Result.andThen_ok, run_neq_bool _ ty p q (isBoolB_spec ht)]
theorem exec_binOp_str {ρ : Operand → Value} {P : Program} {op : BinOp} {ty yt : TypeId} {p q : ByteArray} (ho : o.op = .binOp op ty x y yt) (hx : ρ x = .string p) (hy : ρ y = .string q) (w : World) :
    (execOp ρ o).run P w = ((Op.stringOp op p q).run P w).andThen fun v w => .ok (.value v) w := by
  have h : eqGuard op ty x y (.string p) (.string q) = pure () := by
    unfold eqGuard
    split <;> rfl
  have h2 : binOp op ty (.string p) (.string q) = Op.stringOp op p q := by cases op <;> rfl
  simp only [execOp, ho, hx, hy, h, h2, Sem.run_bind, Sem.run_pure, pure_bind]
theorem Yv.eqlS {ty yt : TypeId} {p q : ByteArray} (ho : o.op = .binOp .eql ty x y yt) (hx : Ev env g x (.v (.string p))) (hy : Ev env g y (.v (.string q))) : Yv cx o env S g (.v (.bool (decide (p.data.toList = q.data.toList)))) :=
  Yv.plain fun a w hs hg w' => by
    rw [exec_binOp_str ho (hx.val hs hg) (hy.val hs hg)]
    have e : (p.data.toList == q.data.toList) = decide (p.data.toList = q.data.toList) := by rw [Bool.eq_iff_iff]; simp
    simp only [Op.stringOp, Sem.run_pure, Result.andThen_ok, ByteArray.toList_eq, e]
theorem Yv.neqS {ty yt : TypeId} {p q : ByteArray} (ho : o.op = .binOp .neq ty x y yt) (hx : Ev env g x (.v (.string p))) (hy : Ev env g y (.v (.string q))) : Yv cx o env S g (.v (.bool (!decide (p.data.toList = q.data.toList)))) :=
  Yv.plain fun a w hs hg w' => by
    rw [exec_binOp_str ho (hx.val hs hg) (hy.val hs hg)]
    have e : (p.data.toList == q.data.toList) = decide (p.data.toList = q.data.toList) := by rw [Bool.eq_iff_iff]; simp
    simp only [Op.stringOp, Sem.run_pure, Result.andThen_ok, ByteArray.toList_eq, e]
theorem Yv.lssS {ty yt : TypeId} {p q : ByteArray} (ho : o.op = .binOp .lss ty x y yt) (hx : Ev env g x (.v (.string p))) (hy : Ev env g y (.v (.string q))) : Yv cx o env S g (.v (.bool (Op.bytesLess p.data.toList q.data.toList))) :=
  Yv.plain fun a w hs hg w' => by
    rw [exec_binOp_str ho (hx.val hs hg) (hy.val hs hg)]
    simp [Op.stringOp, Sem.run_pure, ByteArray.toList_eq]
theorem Yv.addS {ty yt : TypeId} {p q : ByteArray} (ho : o.op = .binOp .add ty x y yt) (hx : Ev env g x (.v (.string p))) (hy : Ev env g y (.v (.string q))) (hb : g = true → p.size + q.size ≤ 9223372036854775807) : Yv cx o env S g (.v (.string (p ++ q))) :=
  Yv.plain fun a w hs hg w' => by
    rw [exec_binOp_str ho (hx.val hs hg) (hy.val hs hg), run_string_add_sum _ p q (hb hg)]
    rfl

/-! ### Lengths -/
def sliceOf (P : Program) (t : TypeId) : Option TypeId := match P.underlying t with | some (.slice e) => some e | _ => none
theorem sliceOf_spec {P : Program} {t e : TypeId} (h : sliceOf P t = some e) : P.underlying t = some (.slice e) := by
  unfold sliceOf at h
  split at h
  · simp only [Option.some.injEq] at h; subst h; assumption
  · cases h
def isStr (P : Program) (t : TypeId) : Bool := match P.underlying t with | some .string => true | _ => false
theorem isStr_spec {P : Program} {t : TypeId} (h : isStr P t = true) : P.underlying t = some .string := by
  unfold isStr at h
  split at h
  · assumption
  · cases h
/-- The shapes that a slice's value has. -/
theorem VRep.sl_inv {w : World} {L : List Nat} {k : Nat} {l : List T} {u : Value} (h : VRep w L (.sl k l) u) : ∃ A n c, u = .slice A n c ∧ l.length = n * k ∧ n ≤ c ∧ c ≤ maxLen := by
  cases h with
  | sl0 hc => exact ⟨_, 0, _, rfl, by simp, Nat.zero_le _, hc⟩
  | sl hn hk hl hnc hc _ _ _ _ _ => exact ⟨_, _, _, rfl, hk, hnc, hc⟩
theorem run_len_slice' {ρ : Operand → Value} {P : Program} {ty e : TypeId} {A : Option Addr} {n c : Nat} (ho : o.op = .call { callee := .builtin .len, args := #[x], argTypes := #[ty] }) (ht : P.underlying ty = some (.slice e)) (hx : ρ x = .slice A n c) (w : World) :
    (execOp ρ o).run P w = .ok (.value (.int .i64 n)) w := by
  simp [execOp, ho, resolve, invoke, builtin, hx, Builtin.len_, Sem.run_bind, Sem.run_pure, run_underlying ht, goInt]
theorem Yv.lenSl {ty e : TypeId} {k n : Nat} {l : List T} (ho : o.op = .call { callee := .builtin .len, args := #[x], argTypes := #[ty] }) (ht : sliceOf cx.P ty = some e) (hk : 0 < k) (hx : Ev env g x (.sl k l)) (hn : l.length = n * k) : Yv cx o env S g (.v (.int .i64 (n : Int))) :=
  Yv.plain fun a w hs hg w' => by
    obtain ⟨A, m, c, h1, h2, _⟩ := (hx.rep hs hg).sl_inv
    have : m = n := Nat.eq_of_mul_eq_mul_right hk (h2.symm.trans hn)
    subst this
    exact run_len_slice' ho (sliceOf_spec ht) h1 w'
theorem Yv.lenV {ty e : TypeId} {A : Option Addr} {n c : Nat} (ho : o.op = .call { callee := .builtin .len, args := #[x], argTypes := #[ty] }) (ht : sliceOf cx.P ty = some e) (hx : Ev env g x (.v (.slice A n c))) : Yv cx o env S g (.v (.int .i64 (n : Int))) :=
  Yv.plain fun a w hs hg w' => run_len_slice' ho (sliceOf_spec ht) (hx.val hs hg) w'
theorem Yv.lenS {ty : TypeId} {s : ByteArray} (ho : o.op = .call { callee := .builtin .len, args := #[x], argTypes := #[ty] }) (ht : isStr cx.P ty = true) (hx : Ev env g x (.v (.string s))) : Yv cx o env S g (.v (.int .i64 (s.size : Int))) :=
  Yv.plain fun a w hs hg w' => by
    simp [execOp, ho, resolve, invoke, builtin, hx.val hs hg, Builtin.len_, Sem.run_bind, Sem.run_pure, run_underlying (isStr_spec ht), goInt]

/-! ### Places -/
/-- Where a field lies, if it has cells. -/
def fieldOff (P : Program) (s : TypeId) (i : Nat) : Option Nat :=
  match P.underlying s with
  | some (.struct fs) => match fs[i]? with
    | some f => match P.info? f.type with
      | some inf => if inf.size = 0 then none else some f.offset
      | none => none
    | none => none
  | _ => none
theorem run_fieldAt {P : Program} {s : TypeId} {i off : Nat} (h : fieldOff P s i = some off) (ad : Addr) (w : World) : (Instr.fieldAt s (.pointer (some ad)) i).run P w = .ok (.pointer (some (ad.add off))) w := by
  unfold fieldOff at h
  split at h
  · rename_i fs hfs
    split at h
    · rename_i f hf
      split at h
      · rename_i inf hi
        split at h
        · cases h
        · rename_i hz
          simp only [Option.some.injEq] at h
          subst h
          simp [Instr.fieldAt, Sem.run_bind, run_underlying hfs, hf, Instr.sureAddr, Sem.run_pure, fieldPlace, sizeOf, typeInfo, hi, hz]
      · cases h
    · cases h
  · cases h
theorem exec_fieldAddr {ρ : Operand → Value} {P : Program} {s : TypeId} {i off : Nat} {ad : Addr} (ho : o.op = .fieldAddr s x i) (h : fieldOff P s i = some off) (hx : ρ x = .pointer (some ad)) (w : World) :
    (execOp ρ o).run P w = .ok (.value (.pointer (some (ad.add off)))) w := by
  simp [execOp, ho, hx, Sem.run_bind, run_fieldAt h, Sem.run_pure]
theorem Yv.fieldBox {s : TypeId} {i off b p : Nat} (ho : o.op = .fieldAddr s x i) (h : fieldOff cx.P s i = some off) (hx : Ev env g x (.v (.pointer (some ⟨b, p, none⟩)))) : Yv cx o env S g (.v (.pointer (some ⟨b, p + off, none⟩))) :=
  Yv.plain fun a w hs hg w' => by
    rw [exec_fieldAddr ho h (hx.val hs hg)]
    unfold Addr.add
    split
    · rename_i h0; subst h0; rfl
    · rfl
theorem Yv.fieldRp {s : TypeId} {i off p : Nat} {l : List T} (ho : o.op = .fieldAddr s x i) (h : fieldOff cx.P s i = some off) (hx : Ev env g x (.rp l p)) : Yv cx o env S g (.rp l (p + off)) := by
  intro a w hs hg
  have hr := hx.rep hs hg
  generalize hv : a.eval x = u at hr
  cases hr with
  | rp hl hb hL hcell hh h1 =>
    refine ⟨_, .rp hl hb hL hcell hh h1, fun w' _ => ?_⟩
    rw [exec_fieldAddr ho h hv, add_add']
theorem Yv.fieldEp {s : TypeId} {i off p : Nat} {v : Value} (ho : o.op = .fieldAddr s x i) (h : fieldOff cx.P s i = some off) (hx : Ev env g x (.ep v p)) : Yv cx o env S g (.ep v (p + off)) := by
  intro a w hs hg
  have hr := hx.rep hs hg
  generalize hv : a.eval x = u at hr
  cases hr with
  | ep =>
    refine ⟨_, .ep, fun w' _ => ?_⟩
    rw [exec_fieldAddr ho h hv]
    unfold Addr.add
    split
    · rename_i h0; subst h0; rfl
    · rfl

/-- Is a type a struct or an array; how many cells has it. -/
def aggSize (P : Program) (t : TypeId) : Option (Bool × Nat) :=
  match P.underlying t, P.info? t with
  | some d, some i => some ((match d with | .struct _ | .array _ _ => true | _ => false), i.size)
  | _, _ => none
theorem run_loadAt_agg {P : Program} {t : TypeId} {n : Nat} (h : aggSize P t = some (true, n)) {ad : Addr} {us : List Value} (hn : us.length = n) (w : World) (hc : ∀ j u, us[j]? = some u → w.cell? (ad.add j) = some u) :
    (Instr.loadAt t (.pointer (some ad))).run P w = .ok (.agg us.toArray) w := by
  unfold aggSize at h
  split at h
  · rename_i d i hd hi
    simp only [Option.some.injEq, Prod.mk.injEq] at h
    obtain ⟨h1, rfl⟩ := h
    have h2 : (isAgg t).run P w = .ok true w := by
      unfold isAgg
      simp only [Sem.run_bind, run_underlying hd, Result.andThen_ok]
      cases d <;> first | rfl | cases h1
    simp [Instr.loadAt, Instr.sureAddr, Sem.run_bind, Sem.run_pure, loadVar, h2, sizeOf, typeInfo, hi, ← hn, run_loadCells_list (P := P) w ad us hc]
  · cases h
theorem run_loadAt_one {P : Program} {t : TypeId} {n : Nat} (h : aggSize P t = some (false, n)) {ad : Addr} {u : Value} (w : World) (hc : w.cell? ad = some u) :
    (Instr.loadAt t (.pointer (some ad))).run P w = .ok u w := by
  unfold aggSize at h
  split at h
  · rename_i d i hd hi
    simp only [Option.some.injEq, Prod.mk.injEq] at h
    obtain ⟨h1, rfl⟩ := h
    have h2 : (isAgg t).run P w = .ok false w := by
      unfold isAgg
      simp only [Sem.run_bind, run_underlying hd, Result.andThen_ok]
      cases d <;> first | rfl | cases h1
    simp [Instr.loadAt, Instr.sureAddr, Sem.run_bind, Sem.run_pure, loadVar, h2, run_load, hc]
  · cases h
theorem exec_load {ρ : Operand → Value} {P : Program} {t : TypeId} {v : Value} (ho : o.op = .load t x) (w : World) (h : (Instr.loadAt t (ρ x)).run P w = .ok v w) : (execOp ρ o).run P w = .ok (.value v) w := by
  simp [execOp, ho, Sem.run_bind, h, Sem.run_pure]

theorem Yv.loadRp {t : TypeId} {n p : Nat} {l : List T} {r : T} (ho : o.op = .load t x) (h : aggSize cx.P t = some (false, n)) (hx : Ev env g x (.rp l p)) (hr : g = true → l[p]? = some r) : Yv cx o env S g r := by
  intro a w hs hg
  have hv := hx.rep hs hg
  generalize hu : a.eval x = u at hv
  cases hv with
  | rp hl hb hL hcell hh h1 =>
    rename_i us ad
    have hp : p < us.length := hl ▸ (List.getElem?_eq_some_iff.1 (hr hg)).1
    refine ⟨us[p], hh p r _ (hr hg) (List.getElem?_eq_getElem hp), fun w' hk => ?_⟩
    refine exec_load ho w' ?_
    rw [hu]
    exact run_loadAt_one h w' ((World.cell?_of_block (w := w) (by rw [block_add]; exact hk.block _ hb (by simp))).trans (hcell p _ (List.getElem?_eq_getElem hp)))
theorem Yv.loadRpA {t : TypeId} {n p : Nat} {l l' : List T} (ho : o.op = .load t x) (h : aggSize cx.P t = some (true, n)) (hx : Ev env g x (.rp l p)) (hr : g = true → (l.drop p).take n = l' ∧ l'.length = n) : Yv cx o env S g (.agg l') := by
  intro a w hs hg
  have hv := hx.rep hs hg
  generalize hu : a.eval x = u at hv
  cases hv with
  | rp hl hb hL hcell hh h1 =>
    rename_i us ad
    obtain ⟨e1, e2⟩ := hr hg
    have hV : VReps w (cx.X ++ M S) l' ((us.drop p).take n) := by rw [← e1]; exact ((VReps.mk hl hh h1).drop p).take n
    refine ⟨.agg ((us.drop p).take n).toArray, .agg hV.len hV.at_ hV.one, fun w' hk => ?_⟩
    refine exec_load ho w' ?_
    rw [hu]
    refine run_loadAt_agg h (by rw [← hV.len, e2]) w' (fun j v hj => ?_)
    rw [List.getElem?_take] at hj
    split at hj
    · rw [List.getElem?_drop] at hj
      rw [add_add']
      exact (World.cell?_of_block (w := w) (by rw [block_add]; exact hk.block _ hb (by simp))).trans (hcell _ _ hj)
    · cases hj
/-- A box's cells. -/
theorem Sim.box {a : Act} {w : World} (hs : Sim cx env S a w) {i b : Nat} {ty : TypeId} {cs : List T} (hi : S[i]? = some (.box b ty cs)) : ∃ us : List Value, w.heap[b]? = some (.cells us.toArray ty (0, 0)) ∧ VReps w (cx.X ++ M S) cs us :=
  hs.ents _ (List.mem_of_getElem? hi)
theorem cell_of_heap {w : World} {b : Nat} {us : List Value} {ty : TypeId} {fr : Nat × Nat} (h : w.heap[b]? = some (.cells us.toArray ty fr)) (j : Nat) : w.cell? ⟨b, j, none⟩ = us[j]? := by
  rw [cell_of_row w b j us.toArray ty fr h]; simp
theorem add_lit' (b p j : Nat) : (⟨b, p, none⟩ : Addr).add j = ⟨b, p + j, none⟩ := by
  unfold Addr.add
  split
  · rename_i h; subst h; rfl
  · rfl
theorem Yv.loadBox {t ty : TypeId} {n p i b : Nat} {cs : List T} {r : T} (ho : o.op = .load t x) (h : aggSize cx.P t = some (false, n)) (hi : S[i]? = some (.box b ty cs)) (hx : Ev env g x (.v (.pointer (some ⟨b, p, none⟩)))) (hr : cs[p]? = some r) : Yv cx o env S g r := by
  intro a w hs hg
  have hv := hx.val hs hg
  obtain ⟨us, hh, hV⟩ := hs.box hi
  obtain ⟨u, h1, h2, _⟩ := hV.get hr
  refine ⟨u, h2, fun w' hk => exec_load ho w' ?_⟩
  rw [hv]
  refine run_loadAt_one h w' ?_
  rw [World.cell?_of_block (w := w) (hk.block _ (lt_of_heap hh) (by simp)), cell_of_heap hh, h1]
theorem Yv.loadBoxA {t ty : TypeId} {n p i b : Nat} {cs l' : List T} (ho : o.op = .load t x) (h : aggSize cx.P t = some (true, n)) (hi : S[i]? = some (.box b ty cs)) (hx : Ev env g x (.v (.pointer (some ⟨b, p, none⟩)))) (hr : (cs.drop p).take n = l') (hl : l'.length = n) : Yv cx o env S g (.agg l') := by
  intro a w hs hg
  have hv := hx.val hs hg
  obtain ⟨us, hh, hV⟩ := hs.box hi
  have hV' : VReps w (cx.X ++ M S) l' ((us.drop p).take n) := by rw [← hr]; exact (hV.drop p).take n
  refine ⟨.agg ((us.drop p).take n).toArray, .agg hV'.len hV'.at_ hV'.one, fun w' hk => exec_load ho w' ?_⟩
  rw [hv]
  refine run_loadAt_agg h (by rw [← hV'.len, hl]) w' (fun j v hj => ?_)
  rw [List.getElem?_take] at hj
  split at hj
  · rw [List.getElem?_drop] at hj
    rw [add_lit', World.cell?_of_block (w := w) (hk.block _ (lt_of_heap hh) (by simp)), cell_of_heap hh, hj]
  · cases hj
end
end Go.Proofs.YtjndpakhmgapjaaDoor
