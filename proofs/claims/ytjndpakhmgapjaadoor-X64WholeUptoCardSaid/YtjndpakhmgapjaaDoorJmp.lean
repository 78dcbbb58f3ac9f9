/-
  SMALL LEMMAS on what may be.
-/
import Derived.Test.YtjndpakhmgapjaaDoorRes
namespace Go.Proofs.YtjndpakhmgapjaaDoor
open Go Go.RowKit
set_option linter.unusedSimpArgs false
set_option linter.unusedVariables false
set_option linter.unnecessarySimpa false
theorem valid_mk {i : Ins} (hb : bad0 i = false) (h : (noneF (fieldsF i.kind).1 1 i.d && noneF (fieldsF i.kind).1 2 i.s && noneF (fieldsF i.kind).1 4 i.imm && noneF (fieldsF i.kind).1 8 i.cond && noneF (fieldsF i.kind).1 16 i.size && sizedF i) = true) : validF i = true := by
  rw [validF, if_neg (by rw [hb]; decide)]; exact h
theorem none_any (f h n : Int) (hf : ¬ bitsOf .and .i64 f h = 0) : noneF f h n = true := by rw [noneF, decide_eq_false hf]; rfl
theorem none_zero (f h : Int) : noneF f h 0 = true := by rw [noneF, decide_eq_true rfl, Bool.or_true]
theorem inF_of {n a b : Int} (h1 : a ≤ n) (h2 : n ≤ b) : inF n a b = true := by rw [inF, decide_eq_true h1, decide_eq_true h2]; rfl
theorem imm_len (n : Int) (k : Nat) : (immF n k).length = k := by simp [immF, leBytes_length]
end Go.Proofs.YtjndpakhmgapjaaDoor
