/-
  WHAT sizes and places tell of jumps.
-/
import Derived.Test.YtjndpakhmgapjaaDoorMoves
namespace Go.Proofs.YtjndpakhmgapjaaDoor
open Go Go.RowKit
set_option linter.unusedSimpArgs false
set_option linter.unusedVariables false
set_option linter.unnecessarySimpa false

theorem pre_succ' (sz : List Nat) (k : Nat) : pre sz (k + 1) = pre sz k + sz.getD k 0 := by
  rcases Nat.lt_or_ge k sz.length with h | h
  · exact pre_succ sz h
  · rw [pre, pre, List.take_of_length_le (by omega), List.take_of_length_le h]
    simp [h]
theorem pre_grows {sz sz' : List Nat} (h : ∀ i, sz.getD i 0 ≤ sz'.getD i 0) (a : Nat) : ∀ d, pre sz (a + d) - pre sz a ≤ pre sz' (a + d) - pre sz' a ∧ pre sz a ≤ pre sz (a + d) ∧ pre sz' a ≤ pre sz' (a + d)
  | 0 => ⟨by rw [Nat.add_zero]; omega, Nat.le_refl _, Nat.le_refl _⟩
  | d + 1 => by
    obtain ⟨h1, h2, h3⟩ := pre_grows h a d
    have h4 := h (a + d)
    have h5 := pre_succ' sz (a + d)
    have h6 := pre_succ' sz' (a + d)
    rw [← Nat.add_assoc, h5, h6]
    omega
/-- How far a jump would go if it alone were short. -/
def shortW (tg sz : List Nat) (i : Nat) : Int :=
  if i < tg.getD i 0 then (pre sz (tg.getD i 0) : Int) - pre sz (i + 1) else (pre sz (tg.getD i 0) : Int) - pre sz i - 2
theorem short_way {tg sz : List Nat} {i : Nat} (hi : i < sz.length) (ht : tg.getD i 0 ≤ sz.length) (h : sz.getD i 0 = 2) : shortW tg sz i = wayF tg (plF sz) i := by
  unfold shortW wayF
  rw [plF_get sz ht, plF_get sz (by omega)]
  split
  · rfl
  · have := pre_succ' sz i
    omega
theorem short_out {tg sz sz' : List Nat} (h : ∀ i, sz.getD i 0 ≤ sz'.getD i 0) {i : Nat} (ho : outF (shortW tg sz i) = true) : outF (shortW tg sz' i) = true := by
  simp only [outF, Bool.or_eq_true, decide_eq_true_eq] at ho ⊢
  unfold shortW at ho ⊢
  by_cases hi : i < tg.getD i 0
  · rw [if_pos hi] at ho ⊢
    obtain ⟨h1, h2, h3⟩ := pre_grows h (i + 1) (tg.getD i 0 - (i + 1))
    rw [show i + 1 + (tg.getD i 0 - (i + 1)) = tg.getD i 0 by omega] at h1 h2 h3
    omega
  · rw [if_neg hi] at ho ⊢
    obtain ⟨h1, h2, h3⟩ := pre_grows h (tg.getD i 0) (i - tg.getD i 0)
    rw [show tg.getD i 0 + (i - tg.getD i 0) = i by omega] at h1 h2 h3
    omega
def isJmp (x : Line) : Prop := x.kind = 3 ∨ x.kind = 4
structure GI (l : List Line) (tg sz : List Nat) : Prop where
  len : sz.length = l.length
  stay : ∀ i, i < l.length → ¬ isJmp (l.getD i default) → sz.getD i 0 = size0 (l.getD i default)
  jump : ∀ i, i < l.length → isJmp (l.getD i default) → sz.getD i 0 = 2 ∨ sz.getD i 0 = (if (l.getD i default).kind = 4 then 6 else 5) ∧ outF (shortW tg sz i) = true
theorem round_get {l : List Line} {tg p sz : List Nat} {i : Nat} (h : i < sz.length) : (roundF l tg p sz).getD i 0 = newS l tg p sz i := by
  rw [List.getD_eq_getElem?_getD, List.getElem?_eq_getElem (by rw [roundF_len]; exact h)]
  simp [roundF]
theorem newS_ge (l : List Line) (tg p sz : List Nat) (i : Nat) : sz.getD i 0 ≤ newS l tg p sz i := by
  unfold newS
  split
  · rename_i h
    simp only [Bool.and_eq_true, decide_eq_true_eq] at h
    split <;> omega
  · exact Nat.le_refl _
theorem round_ge (l : List Line) (tg p sz : List Nat) (i : Nat) : sz.getD i 0 ≤ (roundF l tg p sz).getD i 0 := by
  rcases Nat.lt_or_ge i sz.length with h | h
  · rw [round_get h]; exact newS_ge l tg p sz i
  · rw [List.getD_eq_getElem?_getD, List.getElem?_eq_none h]; exact Nat.zero_le _
theorem GI.round {l : List Line} {tg sz : List Nat} (h : GI l tg sz) (ht : ∀ k, tg.getD k 0 ≤ l.length) : GI l tg (roundF l tg (plF sz) sz) := by
  refine ⟨by rw [roundF_len]; exact h.len, fun i hi hn => ?_, fun i hi hj => ?_⟩
  · rw [round_get (by rw [h.len]; exact hi), newS_no (fun q => hn q.1)]
    exact h.stay i hi hn
  · have hi' : i < sz.length := by rw [h.len]; exact hi
    have hge := round_ge l tg (plF sz) sz
    rw [round_get hi']
    rcases h.jump i hi hj with h2 | ⟨h5, ho⟩
    · by_cases ho : outF (wayF tg (plF sz) i) = true
      · refine .inr ⟨newS_out hj h2 ho, short_out hge ?_⟩
        rw [short_way hi' (by rw [h.len]; exact ht i) h2]
        exact ho
      · refine .inl ?_
        rw [newS_in (by simpa using ho)]
        exact h2
    · refine .inr ⟨?_, short_out hge ho⟩
      rw [newS_no (fun q => by have := q.2; rw [h5] at this; split at this <;> cases this)]
      exact h5
theorem GI.grow {l : List Line} {tg : List Nat} (ht : ∀ k, tg.getD k 0 ≤ l.length) : ∀ (f : Nat) (sz : List Nat), GI l tg sz → GI l tg (growN l tg f sz)
  | 0, _, h => h
  | f + 1, sz, h => by
    rw [growN]
    split
    · exact h
    · exact GI.grow ht f _ (h.round ht)
theorem GI.first (l : List Line) (tg : List Nat) : GI l tg (l.map size0) := by
  have hg : ∀ i, i < l.length → (l.map size0).getD i 0 = size0 (l.getD i default) := fun i hi => by
    simp [hi]
  refine ⟨by simp, fun i hi _ => hg i hi, fun i hi hj => .inl ?_⟩
  rw [hg i hi, size0, if_neg (by rcases hj with h | h <;> omega), if_pos (show (l.getD i default).kind = 3 ∨ (l.getD i default).kind = 4 from hj)]
theorem sizesF_GI (l : List Line) : GI l (tgF l) (sizesF l) := GI.grow (tgF_le l) _ _ (GI.first l _)
theorem sizesF_fix (l : List Line) : roundF l (tgF l) (plF (sizesF l)) (sizesF l) = sizesF l := by
  refine growN_fix l (tgF l) (l.length + 1) (l.map size0) ?_
  have := List.count_le_length (a := 2) (l := l.map size0)
  rw [List.length_map] at this
  omega
theorem sizesF_near {l : List Line} {i : Nat} (hi : i < l.length) (hj : isJmp (l.getD i default)) (h2 : (sizesF l).getD i 0 = 2) : outF (wayF (tgF l) (plF (sizesF l)) i) = false := by
  by_cases ho : outF (wayF (tgF l) (plF (sizesF l)) i) = true
  · have e := round_get (l := l) (tg := tgF l) (p := plF (sizesF l)) (show i < (sizesF l).length by rw [sizesF_len]; exact hi)
    rw [sizesF_fix, newS_out hj h2 ho, h2] at e
    split at e <;> cases e
  · simpa using ho

/-! ### labels -/
def whereF (l : List Line) (k : Int) : Int := match l.findIdx? (isLab k) with
  | some i => i
  | none => -1
theorem where_at {l : List Line} {k : Int} {j : Nat} (hj : j < l.length) (hp : ∀ i, i < j → isLab k (l.getD i default) = false) (h : isLab k (l.getD j default) = true) : whereF l k = j := by
  have e : l.findIdx? (isLab k) = some j := by
    rw [List.findIdx?_eq_some_iff_getElem]
    rw [getD_eq' hj] at h
    refine ⟨hj, h, fun i hi => ?_⟩
    have := hp i hi
    rw [getD_eq' (by omega)] at this
    rw [this]; decide
  rw [whereF, e]
theorem where_none {l : List Line} {k : Int} (hp : ∀ i, i < l.length → isLab k (l.getD i default) = false) : whereF l k = -1 := by
  have e : l.findIdx? (isLab k) = none := by
    rw [List.findIdx?_eq_none_iff]
    intro x hx
    obtain ⟨i, hi, rfl⟩ := List.mem_iff_getElem.1 hx
    have := hp i hi
    rwa [getD_eq' hi] at this
  rw [whereF, e]
theorem one_lab {k : Int} : ∀ {l : List Line} {i j : Nat}, l.countP (isLab k) ≤ 1 → i < l.length → j < l.length → isLab k (l.getD i default) = true → isLab k (l.getD j default) = true → i = j
  | [], i, j, _, hi, _, _, _ => absurd hi (by simp)
  | x :: r, i, j, hc, hi, hj, h1, h2 => by
    rw [List.countP_cons] at hc
    rcases i with _ | i <;> rcases j with _ | j
    · rfl
    · exfalso
      have hx : isLab k x = true := h1
      have : 0 < r.countP (isLab k) := List.countP_pos_iff.2 ⟨_, getD_mem' (by simpa using hj), h2⟩
      rw [if_pos hx] at hc; omega
    · exfalso
      have hx : isLab k x = true := h2
      have : 0 < r.countP (isLab k) := List.countP_pos_iff.2 ⟨_, getD_mem' (by simpa using hi), h1⟩
      rw [if_pos hx] at hc; omega
    · have := one_lab (k := k) (l := r) (i := i) (j := j) (by omega) (by simpa using hi) (by simpa using hj) h1 h2
      omega
theorem goes_where {l : List Line} (hc : checkF l = 0) {i : Nat} (hi : i < l.length) (hg : goesF (l.getD i default).kind = true) :
    (tgF l).getD i 0 < l.length ∧ isLab (l.getD i default).l (l.getD ((tgF l).getD i 0) default) = true ∧ whereF l (l.getD i default).l = ((tgF l).getD i 0 : Nat) := by
  obtain ⟨_, hb⟩ := checkF_zero hc
  have h1 := hb _ (getD_mem' hi)
  have hn : lookN (l.getD i default).l (cntM l) ≠ 0 := by
    intro q
    unfold labBad at h1
    rw [hg, q] at h1
    simp at h1
  rw [cntM_count] at hn
  have ht : (tgF l).getD i 0 = lookN (l.getD i default).l (labM l) := by
    simp only [tgF, List.getD_eq_getElem?_getD, List.getElem?_map, List.getElem?_eq_getElem hi, Option.map_some, Option.getD_some]
    rw [tgt0, if_pos (by rw [← getD_eq' hi]; exact hg), ← getD_eq' hi]
    try simp [hi]
  cases hm : getA (l.getD i default).l (labM l) with
  | none => exact absurd (labM_none _ _ hm) hn
  | some v =>
    obtain ⟨h2, h3⟩ := labM_lt _ _ _ hm
    have hv : (tgF l).getD i 0 = v := by rw [ht, lookN, hm]; rfl
    rw [hv]
    refine ⟨h2, h3, where_at h2 (fun j hj => ?_) h3⟩
    have h4 := hb _ (getD_mem' h2)
    have hk : (l.getD v default).kind = 2 ∧ (l.getD v default).l = (l.getD i default).l := by
      unfold isLab at h3
      rw [Bool.and_eq_true, decide_eq_true_eq, decide_eq_true_eq] at h3
      exact h3
    have hone : l.countP (isLab (l.getD i default).l) ≤ 1 := by
      unfold labBad at h4
      rw [hk.2, cntM_count, decide_eq_true hk.1] at h4
      simp only [Bool.true_and, Bool.or_eq_false_iff, decide_eq_false_iff_not] at h4
      omega
    cases hq : isLab (l.getD i default).l (l.getD j default)
    · rfl
    · exact absurd (one_lab hone h2 (by omega) h3 hq) (by omega)

/-! ### places -/
def plcL (l : List Line) (at_ : Int) : List Int := if laidE l at_ = 0 then (plF (sizesF l)).map (fun p : Nat => (p : Int) + at_) else []
def zq (z : Int) : T := .v (.int .u64 z)
theorem plc_len {l : List Line} {at_ : Int} (h : laidE l at_ = 0) : (plcL l at_).length = l.length + 1 := by
  rw [plcL, if_pos h, List.length_map, plF_len, sizesF_len]
theorem plc_get {l : List Line} {at_ : Int} (h : laidE l at_ = 0) {k : Nat} (hk : k ≤ l.length) : (plcL l at_).getD k 0 = (pre (sizesF l) k : Int) + at_ := by
  have e := plF_get (sizesF l) (k := k) (by rw [sizesF_len]; exact hk)
  have hl : k < (plF (sizesF l)).length := by rw [plF_len, sizesF_len]; omega
  rw [← e, plcL, if_pos h]
  simp only [List.getD_eq_getElem?_getD, List.getElem?_map, List.getElem?_eq_getElem hl, Option.map_some, Option.getD_some]
theorem len_zq {l : List Int} : (l.map zq).length = l.length * 1 := by simp
theorem zq_get {l : List Int} {j : Nat} (h : j < l.length) : (l.map zq)[j * 1]? = some (.v (.int .u64 (l.getD j 0))) := by simp [h, zq]
def mixA (p : List Nat) (at_ : Int) (j : Nat) : List Int := (p.take j).map (fun p : Nat => (p : Int) + at_) ++ (p.drop j).map (fun p : Nat => (p : Int))
theorem mixA_len (p : List Nat) (at_ : Int) (j : Nat) : (mixA p at_ j).length = p.length := by simp [mixA]; omega
theorem mixA_zero (p : List Nat) (at_ : Int) : (mixA p at_ 0).map zq = p.map zu := by
  simp only [mixA, List.take_zero, List.map_nil, List.nil_append, List.drop_zero, List.map_map]
  rfl
theorem mixA_all (p : List Nat) (at_ : Int) : mixA p at_ p.length = p.map (fun p : Nat => (p : Int) + at_) := by simp [mixA]
theorem mixA_get {p : List Nat} {at_ : Int} {j : Nat} (h : j < p.length) : (mixA p at_ j).getD j 0 = (p.getD j 0 : Nat) := by
  rw [mixA, List.getD_eq_getElem?_getD, List.getElem?_append_right (by simp; omega)]
  have e : j - ((p.take j).map (fun p : Nat => (p : Int) + at_)).length = 0 := by simp; omega
  rw [e, List.getElem?_map, List.getElem?_drop]
  simp [h]
theorem mixA_set {p : List Nat} {at_ : Int} {j : Nat} (h : j < p.length) {v : Int} (hv : v = (p.getD j 0 : Nat) + at_) : ((mixA p at_ j).map zq).set (j * 1) (.v (.int .u64 v)) = (mixA p at_ (j + 1)).map zq := by
  subst hv
  have hs : (mixA p at_ j).set j ((p.getD j 0 : Nat) + at_) = mixA p at_ (j + 1) := by
    unfold mixA
    have e : ((p.take j).map (fun p : Nat => (p : Int) + at_)).length = j := by simp; omega
    rw [List.set_append_right _ _ (by omega), e, Nat.sub_self, List.drop_eq_getElem_cons h, List.map_cons, List.set_cons_zero, List.take_succ_eq_append_getElem h, List.map_append, List.append_assoc]
    simp [h]
  rw [← hs, List.map_set, Nat.mul_one]
  rfl
end Go.Proofs.YtjndpakhmgapjaaDoor
