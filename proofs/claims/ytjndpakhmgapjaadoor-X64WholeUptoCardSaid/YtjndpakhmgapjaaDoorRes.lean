/-
  WHAT lines become: instruction by instruction.
-/
import Derived.Test.YtjndpakhmgapjaaDoorGrow
namespace Go.Proofs.YtjndpakhmgapjaaDoor
open Go Go.RowKit
set_option linter.unusedSimpArgs false
set_option linter.unusedVariables false
set_option linter.unnecessarySimpa false
def laidE (l : List Line) (at_ : Int) : Int := if checkF l ≠ 0 then checkF l else if farE at_ (pre (sizesF l) l.length) = true then 221 else 0
def outN (l : List Line) (tg sz : List Nat) (at_ : Int) (j : Nat) : List Ins := (List.range j).filterMap (insAt l tg sz at_)
theorem outN_some {l : List Line} {tg sz : List Nat} {at_ : Int} {j : Nat} {i : Ins} (h : insAt l tg sz at_ j = some i) : outN l tg sz at_ (j + 1) = outN l tg sz at_ j ++ [i] := by
  simp [outN, List.range_succ, h]
theorem outN_none {l : List Line} {tg sz : List Nat} {at_ : Int} {j : Nat} (h : insAt l tg sz at_ j = none) : outN l tg sz at_ (j + 1) = outN l tg sz at_ j := by
  simp [outN, List.range_succ, h]
theorem outN_len (l : List Line) (tg sz : List Nat) (at_ : Int) (j : Nat) : (outN l tg sz at_ j).length ≤ j := by
  have := List.length_filterMap_le (insAt l tg sz at_) (List.range j)
  simpa [outN] using this
theorem outN_cells {l : List Line} {tg sz : List Nat} {at_ : Int} {j : Nat} {i : Ins} (h : insAt l tg sz at_ j = some i) : (outN l tg sz at_ (j + 1)).length = (outN l tg sz at_ j).length + 1 ∧ (outN l tg sz at_ (j + 1)).flatMap insCells = (outN l tg sz at_ j).flatMap insCells ++ insCells i := by
  rw [outN_some h]
  simp
theorem laidE_at {l : List Line} {at_ : Int} (h : laidE l at_ = 0) : checkF l = 0 ∧ at_ ≤ 2147483647 ∧ (pre (sizesF l) l.length : Int) ≤ 2147483647 - at_ := by
  unfold laidE at h
  split at h
  · omega
  · rename_i hc
    split at h
    · cases h
    · rename_i hf
      simp only [farE, Bool.or_eq_true, decide_eq_true_eq] at hf
      omega
theorem sizesF_len (l : List Line) : (sizesF l).length = l.length := by rw [sizesF, growN_len, List.length_map]
theorem sizesF_le (l : List Line) : ∀ s ∈ sizesF l, s ≤ 11 := growN_le _ _ _ _ (sizes0_le l)
theorem tgF_len (l : List Line) : (tgF l).length = l.length := by simp [tgF]
theorem tgF_le (l : List Line) (k : Nat) : (tgF l).getD k 0 ≤ l.length := by
  refine getD_le (fun t ht => ?_) k
  obtain ⟨x, _, rfl⟩ := List.mem_map.1 ht
  unfold tgt0
  split
  · exact lookN_lt _ _
  · exact Nat.zero_le _
def insL (l : List Line) (at_ : Int) : List Ins := outN l (tgF l) (sizesF l) at_ l.length
theorem insL_len (l : List Line) (at_ : Int) : (insL l at_).length ≤ l.length := outN_len _ _ _ _ _
def encT (i : Ins) : T := if validF i = true then u8s (encF i) else ofConst (.slice none 0 0)
def encE (i : Ins) : Int := if validF i = true then 0 else 200
def allB (l : List Ins) : List UInt8 := if l.all validF = true then l.flatMap encF else []
def resL (l : List Line) (at_ : Int) : List Ins := if laidE l at_ = 0 then insL l at_ else []
theorem resL_ok {l : List Line} {at_ : Int} (h : laidE l at_ = 0) : resL l at_ = insL l at_ := if_pos h
theorem resL_no {l : List Line} {at_ : Int} (h : ¬ laidE l at_ = 0) : resL l at_ = [] := if_neg h
theorem resL_len (l : List Line) (at_ : Int) : (resL l at_).length ≤ l.length := by
  unfold resL
  split
  · exact insL_len l at_
  · exact Nat.zero_le _
def allE (l : List Ins) : Int := if l.all validF = true then 0 else 200
def asmE (l : List Line) (at_ : Int) : Int := if laidE l at_ ≠ 0 then laidE l at_ else allE (resL l at_)
def asmB (l : List Line) (at_ : Int) : List UInt8 := allB (resL l at_)
theorem all_bad {l : List Ins} {j : Nat} (hj : j < l.length) (h : ¬ validF (l.getD j default) = true) : ¬ l.all validF = true := fun q => h (List.all_eq_true.1 q _ (getD_mem' hj))
theorem all_good {l : List Ins} (h : ∀ i, i < l.length → validF (l.getD i default) = true) : l.all validF = true := by
  rw [List.all_eq_true]
  intro x hx
  obtain ⟨i, hi, rfl⟩ := List.mem_iff_getElem.1 hx
  have := h i hi
  rwa [getD_eq' hi] at this
theorem enc_le (l : List Ins) : (l.flatMap encF).length ≤ 11 * l.length := by
  induction l with
  | nil => simp
  | cons a r ih => have := encF_len a; simp only [List.flatMap_cons, List.length_append, List.length_cons]; omega
theorem enc_step {l : List Ins} {j : Nat} (hj : j < l.length) : ((l.take (j + 1)).flatMap encF).length = ((l.take j).flatMap encF).length + (encF (l.getD j default)).length ∧ ((l.take (j + 1)).flatMap encF).map u8 = ((l.take j).flatMap encF).map u8 ++ (encF (l.getD j default)).map u8 := by
  rw [take_flat hj]
  simp
theorem ins_eq (i k : Ins) : eqCells (insVals i) (insVals k) [(0, .i), (1, .i), (2, .i), (3, .i), (4, .i), (5, .i)] = some (decide (i = k)) := by
  cases i; cases k
  simp [eqCells, insVals, eqCell, Ins.mk.injEq, Bool.decide_and, Bool.and_assoc]
theorem same_step {a b : List Ins} {j : Nat} (hl : a.length = b.length) (hj : j < a.length) (h : a.take j = b.take j) (he : a.getD j default = b.getD j default) : a.take (j + 1) = b.take (j + 1) := by
  rw [take_getD hj, take_getD (by omega), h, he]
theorem same_no {a b : List Ins} {j : Nat} (he : ¬ a.getD j default = b.getD j default) : ¬ a = b := fun q => he (by rw [q])
end Go.Proofs.YtjndpakhmgapjaaDoor
