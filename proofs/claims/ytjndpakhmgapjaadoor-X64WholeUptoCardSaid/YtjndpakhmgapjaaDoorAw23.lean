/-
  BITS THAT MAY BE TAKEN FIRST in regions that draw their order. Generic: no program is named here.
-/
import Derived.Test.YtjndpakhmgapjaaDoorAw22
namespace Go.Proofs.YtjndpakhmgapjaaDoor
open Go Go.RowKit
set_option linter.unusedVariables false
set_option linter.unusedSectionVars false
set_option linter.unusedSimpArgs false
section
variable {cx : Cx} {env : Env} {S : St} {o : Oper} {x y : Operand}
theorem freeBits {op : BinOp} {ty yt : TypeId} {k : IntKind} {p q : Int} (ho : o.op = .binOp op ty x y yt) (hop : isBits op = true) (hx : Ev env true x (.v (.int k p))) (hy : Ev env true y (.v (.int k q))) : ∀ a w, Sim cx env S a w → ∃ u, VRep w (cx.X ++ M S) (.v (.int k (bitsOf op k p q))) u ∧ ∀ w', (execOp a.eval o).run cx.P w' = .ok (.value u) w' :=
  fun a w hs => ⟨_, .v _, fun w' => by
    rw [exec_binOp_int ho (hx.val hs rfl) (hy.val hs rfl)]
    cases op <;> first | (cases hop; done) | simp [binOp, Op.intBits, Sem.run_pure, bitsOf]⟩
theorem freeShrC {ty yt : TypeId} {k k' : IntKind} {p q : Int} (D : Int) (hD : (2 : Int) ^ (min q.toNat k.bits) = D) (h0 : 0 ≤ D) (hq : 0 ≤ q) (ho : o.op = .binOp .shr ty x y yt) (hx : Ev env true x (.v (.int k p))) (hy : Ev env true y (.v (.int k' q))) : ∀ a w, Sim cx env S a w → ∃ u, VRep w (cx.X ++ M S) (.v (.int k (p / D))) u ∧ ∀ w', (execOp a.eval o).run cx.P w' = .ok (.value u) w' :=
  fun a w hs => ⟨_, .v _, fun w' => by
    rw [exec_binOp_int ho (hx.val hs rfl) (hy.val hs rfl)]
    have e : p / D = shrOf k p q := by unfold shrOf; rw [hD, Int.fdiv_eq_ediv_of_nonneg p h0]
    rw [e]
    simp [binOp, Op.shift, Sem.run_pure, show ¬ q < 0 by omega, shrOf]⟩
theorem freeAndN_i64 {ty yt : TypeId} {p q : Int} (n : Nat) (D : Nat) (hD : 2 ^ n = D) (hDk : D ≤ 18446744073709551616) (hq : q = ((D - 1 : Nat) : Int)) (ho : o.op = .binOp .and ty x y yt) (hx : Ev env true x (.v (.int .i64 p))) (hy : Ev env true y (.v (.int .i64 q))) (hb : 0 ≤ p ∧ p ≤ 9223372036854775807) : ∀ a w, Sim cx env S a w → ∃ u, VRep w (cx.X ++ M S) (.v (.int .i64 (p % (D : Int)))) u ∧ ∀ w', (execOp a.eval o).run cx.P w' = .ok (.value u) w' := by
  intro a w hs
  obtain ⟨h0, h1⟩ := hb
  have h := freeBits (cx := cx) ho rfl hx hy a w hs
  obtain ⟨p, rfl⟩ := Int.eq_ofNat_of_zero_le h0
  have hB : (2 : Nat) ^ IntKind.i64.bits = 18446744073709551616 := by decide
  have hm : p % D ≤ p := Nat.mod_le p D
  have e := bits_and_mod (k := .i64) p hD (hB ▸ hDk) (by rw [hB]; omega) (IntWalk.i64_in _ ⟨by omega, by omega⟩)
  rw [hq, e, Int.natCast_emod] at h
  exact h
end
end Go.Proofs.YtjndpakhmgapjaaDoor
