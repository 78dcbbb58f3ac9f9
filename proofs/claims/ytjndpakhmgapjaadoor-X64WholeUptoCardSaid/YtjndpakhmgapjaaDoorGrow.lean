/-
  PLACES and rounds, cell by cell.
-/
import Derived.Test.YtjndpakhmgapjaaDoorAsm
namespace Go.Proofs.YtjndpakhmgapjaaDoor
open Go Go.RowKit
set_option linter.unusedSimpArgs false
set_option linter.unusedVariables false
set_option linter.unnecessarySimpa false
def plN (sz : List Nat) (j : Nat) : List Nat := (List.range (j + 1)).map (pre sz) ++ List.replicate (sz.length - j) 0
theorem plN_zero (sz : List Nat) : plN sz 0 = List.replicate (sz.length + 1) 0 := by
  simp [plN, pre, List.replicate_succ]
theorem plN_all (sz : List Nat) : plN sz sz.length = plF sz := by simp [plN, plF]
theorem plN_len {sz : List Nat} {j : Nat} (h : j ≤ sz.length) : (plN sz j).length = sz.length + 1 := by simp [plN]; omega
theorem plN_get {sz : List Nat} {j : Nat} : (plN sz j).getD j 0 = pre sz j := by
  rw [plN, List.getD_eq_getElem?_getD, List.getElem?_append_left (by simp)]
  simp
theorem plN_set {sz : List Nat} {j v : Nat} (h : j < sz.length) (hv : pre sz (j + 1) = v) : (plN sz j).set (j + 1) v = plN sz (j + 1) := by
  subst hv
  unfold plN
  rw [List.set_append_right _ _ (by simp)]
  rw [List.range_succ (n := j + 1), List.map_append, List.append_assoc]
  congr 1
  have e : j + 1 - ((List.range (j + 1)).map (pre sz)).length = 0 := by simp
  rw [e, show sz.length - j = (sz.length - (j + 1)) + 1 by omega, List.replicate_succ]
  rfl
theorem plN_setU {sz : List Nat} {j : Nat} {v : Int} (h : j < sz.length) (hv : v = (pre sz j : Int) + (sz.getD j 0 : Nat)) : ((plN sz j).map zu).set ((j + 1) * 1) (.v (.int .u64 v)) = (plN sz (j + 1)).map zu := by
  rw [← plN_set h (pre_succ sz h), List.map_set, Nat.mul_one, hv]
  rfl
theorem pre_bound {sz : List Nat} (h1 : ∀ s ∈ sz, s ≤ 11) (h2 : sz.length ≤ 1099511627) (k : Nat) : pre sz k ≤ 12094627897 := by
  have := pre_le sz h1 k
  omega
theorem getD_le {sz : List Nat} {n : Nat} (h : ∀ s ∈ sz, s ≤ n) (k : Nat) : sz.getD k 0 ≤ n := by
  rcases Nat.lt_or_ge k sz.length with hk | hk
  · rw [List.getD_eq_getElem?_getD, List.getElem?_eq_getElem hk]
    exact h _ (List.getElem_mem hk)
  · rw [List.getD_eq_getElem?_getD, List.getElem?_eq_none hk]
    exact Nat.zero_le _
theorem plF_bound {sz : List Nat} (h1 : ∀ s ∈ sz, s ≤ 11) (h2 : sz.length ≤ 1099511627) (k : Nat) : (plF sz).getD k 0 ≤ 12094627897 := by
  refine getD_le (fun s hs => ?_) k
  simp only [plF, List.mem_map] at hs
  obtain ⟨i, _, rfl⟩ := hs
  exact pre_bound h1 h2 i

def mixN (l : List Line) (tg p sz : List Nat) (j : Nat) : List Nat := (roundF l tg p sz).take j ++ sz.drop j
theorem mix_len {l : List Line} {tg p sz : List Nat} {j : Nat} (h : j ≤ sz.length) : (mixN l tg p sz j).length = sz.length := by
  simp [mixN, roundF_len]; omega
theorem mix_zero (l : List Line) (tg p sz : List Nat) : mixN l tg p sz 0 = sz := by simp [mixN]
theorem mix_all (l : List Line) (tg p sz : List Nat) : mixN l tg p sz sz.length = roundF l tg p sz := by
  simp [mixN, ← roundF_len l tg p sz]
theorem mix_get {l : List Line} {tg p sz : List Nat} {j : Nat} (h : j < sz.length) : (mixN l tg p sz j).getD j 0 = sz.getD j 0 := by
  have e : ((roundF l tg p sz).take j).length = j := by rw [List.length_take, roundF_len]; omega
  rw [mixN, List.getD_eq_getElem?_getD, List.getElem?_append_right (by omega), e, List.getElem?_drop, Nat.sub_self, Nat.add_zero, ← List.getD_eq_getElem?_getD]
theorem mix_succ {l : List Line} {tg p sz : List Nat} {j : Nat} (h : j < sz.length) : (mixN l tg p sz j).set j (newS l tg p sz j) = mixN l tg p sz (j + 1) := by
  have e : ((roundF l tg p sz).take j).length = j := by rw [List.length_take, roundF_len]; omega
  have e2 : (roundF l tg p sz)[j]? = some (newS l tg p sz j) := by simp [roundF, h]
  unfold mixN
  rw [List.set_append_right _ _ (by omega), e, Nat.sub_self, List.drop_eq_getElem_cons h, List.set_cons_zero, List.take_add_one, e2]
  simp
theorem mix_setU {l : List Line} {tg p sz : List Nat} {j v : Nat} (h : j < sz.length) (hv : newS l tg p sz j = v) : ((mixN l tg p sz j).map zu).set (j * 1) (.v (.int .u64 (v : Int))) = (mixN l tg p sz (j + 1)).map zu := by
  rw [← mix_succ h, hv, List.map_set, Nat.mul_one]; rfl
theorem mix_same {l : List Line} {tg p sz : List Nat} {j : Nat} (h : j < sz.length) (hv : newS l tg p sz j = sz.getD j 0) : mixN l tg p sz (j + 1) = mixN l tg p sz j := by
  rw [← mix_succ h, hv]
  apply List.ext_getElem?
  intro i
  rw [List.getElem?_set]
  split
  · rename_i hi
    subst hi
    have := mix_get (l := l) (tg := tg) (p := p) h
    rw [if_pos (by rw [mix_len (by omega)]; exact h), ← this]
    rw [List.getD_eq_getElem?_getD, List.getElem?_eq_getElem (by rw [mix_len (by omega)]; exact h)]
    rfl
  · rfl
theorem mix_ne {l : List Line} {tg p sz : List Nat} {j : Nat} (h : j < sz.length) (hv : newS l tg p sz j ≠ sz.getD j 0) : mixN l tg p sz (j + 1) ≠ sz := by
  intro q
  rw [← mix_succ h] at q
  apply hv
  have := congrArg (fun z => z.getD j 0) q
  simp only [List.getD_eq_getElem?_getD, List.getElem?_set_self (show j < (mixN l tg p sz j).length by rw [mix_len (by omega)]; exact h)] at this ⊢
  exact this
theorem mix_le {l : List Line} {tg p sz : List Nat} {j : Nat} (h : ∀ s ∈ sz, s ≤ 11) : ∀ s ∈ mixN l tg p sz j, s ≤ 11 := by
  intro s hs
  simp only [mixN, List.mem_append] at hs
  rcases hs with hs | hs
  · exact round_le l tg p sz h s (List.mem_of_mem_take hs)
  · exact h s (List.mem_of_mem_drop hs)
theorem newS_no {l : List Line} {tg p sz : List Nat} {i : Nat} (h : ¬ (((l.getD i default).kind = 3 ∨ (l.getD i default).kind = 4) ∧ sz.getD i 0 = 2)) : newS l tg p sz i = sz.getD i 0 := by
  unfold newS
  rw [if_neg]
  intro q
  simp only [jmpF, Bool.and_eq_true, Bool.or_eq_true, decide_eq_true_eq] at q
  exact h q.1
theorem newS_in {l : List Line} {tg p sz : List Nat} {i : Nat} (h : outF (wayF tg p i) = false) : newS l tg p sz i = sz.getD i 0 := by
  unfold newS
  rw [if_neg]
  rw [h, Bool.and_false]
  decide
theorem newS_out {l : List Line} {tg p sz : List Nat} {i : Nat} (h0 : (l.getD i default).kind = 3 ∨ (l.getD i default).kind = 4) (h1 : sz.getD i 0 = 2) (h : outF (wayF tg p i) = true) : newS l tg p sz i = if (l.getD i default).kind = 4 then 6 else 5 := by
  unfold newS
  rw [if_pos]
  simp only [jmpF, Bool.and_eq_true, Bool.or_eq_true, decide_eq_true_eq]
  exact ⟨⟨h0, h1⟩, h⟩
theorem grow_exit {l : List Line} {tg sz r : List Nat} {f : Nat} (hf : sz.count 2 < f) (e : growN l tg f sz = r) (h : roundF l tg (plF sz) sz = sz) : r = sz := by
  obtain ⟨f, rfl⟩ : ∃ g, f = g + 1 := ⟨f - 1, by omega⟩
  rw [growN, if_pos h] at e
  exact e.symm
theorem grow_go {l : List Line} {tg sz r : List Nat} {f : Nat} (hf : sz.count 2 < f) (e : growN l tg f sz = r) (h : roundF l tg (plF sz) sz ≠ sz) : ∃ g, (roundF l tg (plF sz) sz).count 2 < g ∧ growN l tg g (roundF l tg (plF sz) sz) = r := by
  obtain ⟨f, rfl⟩ : ∃ g, f = g + 1 := ⟨f - 1, by omega⟩
  rw [growN, if_neg h] at e
  have := round_count l tg (plF sz) sz h
  exact ⟨f, by omega, e⟩
end Go.Proofs.YtjndpakhmgapjaaDoor
