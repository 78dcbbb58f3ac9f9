/-
  LABELS with other numbers, other addresses.
-/
import Derived.Test.YtjndpakhmgapjaaDoorRes
namespace Go.Proofs.YtjndpakhmgapjaaDoor
open Go Go.RowKit
set_option linter.unusedSimpArgs false
set_option linter.unusedVariables false
set_option linter.unnecessarySimpa false

def xorF (c a : Int) : Int := bitsOf .xor .i64 a c
theorem wrap_inj (p q : Nat) (hp : p < 18446744073709551616) (hq : q < 18446744073709551616) (h : IntKind.i64.wrap (p : Int) = IntKind.i64.wrap (q : Int)) : p = q := by
  rw [IntKind.wrap_i64, IntKind.wrap_i64] at h
  omega
theorem xorF_inj {c a b : Int} (ha : I64 a) (hb : I64 b) (h : xorF c a = xorF c b) : a = b := by
  have h1 := wrap_inj _ _ (BitVec.isLt _) (BitVec.isLt _) h
  have h2 := BitVec.eq_of_toNat_eq h1
  have h3 : BitVec.ofInt 64 a = BitVec.ofInt 64 b := by
    have h5 : BitVec.ofInt 64 a ^^^ BitVec.ofInt 64 c = BitVec.ofInt 64 b ^^^ BitVec.ofInt 64 c := h2
    have := congrArg (fun z => z ^^^ BitVec.ofInt 64 c) h5
    simpa [BitVec.xor_assoc] using this
  have h4 := congrArg BitVec.toNat h3
  rw [BitVec.toNat_ofInt, BitVec.toNat_ofInt] at h4
  obtain ⟨a1, a2⟩ := ha
  obtain ⟨b1, b2⟩ := hb
  omega
theorem xorF_i64 (c a : Int) : I64 (xorF c a) := by
  unfold xorF bitsOf I64
  simp only [IntKind.wrap_i64]
  omega

def trF (f : Int → Int) (x : Line) : Line := { x with l := f x.l }
section
variable {f : Int → Int}
theorem tr_lineErr (x : Line) : lineErr (trF f x) = lineErr x := rfl
theorem tr_size0 (x : Line) : size0 (trF f x) = size0 x := rfl
def Inj (f : Int → Int) (l : List Line) : Prop := ∀ x ∈ l, ∀ y ∈ l, f x.l = f y.l → x.l = y.l
theorem tr_cnt {l : List Line} (hi : Inj f l) {x : Line} (hx : x ∈ l) : lookN (f x.l) (cntM (l.map (trF f))) = lookN x.l (cntM l) := by
  rw [cntM_count, cntM_count, List.countP_map]
  apply List.countP_congr
  intro y hy
  show (decide (y.kind = 2) && decide (f y.l = f x.l)) = true ↔ (decide (y.kind = 2) && decide (y.l = x.l)) = true
  rw [Bool.and_eq_true, Bool.and_eq_true, decide_eq_true_eq, decide_eq_true_eq, decide_eq_true_eq]
  constructor
  · rintro ⟨h1, h2⟩
    exact ⟨h1, hi y hy x hx h2⟩
  · rintro ⟨h1, h2⟩
    exact ⟨h1, by rw [h2]⟩
theorem tr_labBad {l : List Line} (hi : Inj f l) {x : Line} (hx : x ∈ l) : labBad (cntM (l.map (trF f))) (trF f x) = labBad (cntM l) x := by
  have := tr_cnt hi hx
  unfold labBad
  rw [show (trF f x).l = f x.l from rfl, this]
  rfl
theorem tr_find : ∀ l : List Line, (l.map (trF f)).find? (fun x => !decide (lineErr x = 0)) = (l.find? (fun x => !decide (lineErr x = 0))).map (trF f)
  | [] => rfl
  | x :: r => by
    rw [List.map_cons, List.find?_cons, List.find?_cons, tr_lineErr, tr_find r]
    split <;> rfl
theorem any_congr' {α : Type} {p q : α → Bool} : ∀ {l : List α}, (∀ x ∈ l, p x = q x) → l.any p = l.any q
  | [], _ => rfl
  | x :: r, h => by
    rw [List.any_cons, List.any_cons, h x (List.mem_cons_self ..), any_congr' (fun y hy => h y (List.mem_cons_of_mem _ hy))]
theorem tr_check {l : List Line} (hi : Inj f l) : checkF (l.map (trF f)) = checkF l := by
  have h : (l.map (trF f)).any (labBad (cntM (l.map (trF f)))) = l.any (labBad (cntM l)) := by
    rw [List.any_map]
    exact any_congr' fun x hx => tr_labBad hi hx
  unfold checkF
  rw [tr_find, h]
  cases l.find? (fun x => !decide (lineErr x = 0)) <;> rfl
theorem tr_labM (x : Line) (l : List Line) (hi : ∀ y ∈ l, f x.l = f y.l → x.l = y.l) : getA (f x.l) (labM (l.map (trF f))) = getA x.l (labM l) := by
  induction l using snocInd with
  | nil => rfl
  | snoc l y ih =>
    have ih := ih (fun z hz => hi z (List.mem_append_left _ hz))
    have hy := hi y (by simp)
    rw [List.map_append, List.map_cons, List.map_nil, labM_snoc, labM_snoc]
    show getA (f x.l) (if y.kind = 2 then putA (f y.l) (l.map (trF f)).length (labM (l.map (trF f))) else labM (l.map (trF f))) = _
    split
    · rw [getA_putA, getA_putA, List.length_map, ih]
      by_cases e : x.l = y.l
      · rw [if_pos e, if_pos (by rw [e])]
      · rw [if_neg e, if_neg (fun q => e (hy q))]
    · exact ih
theorem tr_tg {l : List Line} (hi : Inj f l) : tgF (l.map (trF f)) = tgF l := by
  unfold tgF
  rw [List.map_map]
  apply List.map_congr_left
  intro x hx
  simp only [Function.comp_apply, tgt0, lookN]
  rw [show (trF f x).l = f x.l from rfl, tr_labM x l (fun y hy => hi x hx y hy)]
  rfl
theorem tr_getD (l : List Line) (i : Nat) : ((l.map (trF f)).getD i default).kind = (l.getD i default).kind ∧ ((l.map (trF f)).getD i default).ins = (l.getD i default).ins ∧ ((l.map (trF f)).getD i default).cond = (l.getD i default).cond ∧ ((l.map (trF f)).getD i default).d = (l.getD i default).d := by
  simp only [List.getD_eq_getElem?_getD, List.getElem?_map]
  cases l[i]? <;> exact ⟨rfl, rfl, rfl, rfl⟩
theorem tr_newS (l : List Line) (tg p sz : List Nat) (i : Nat) : newS (l.map (trF f)) tg p sz i = newS l tg p sz i := by
  unfold newS
  rw [(tr_getD l i).1]
theorem tr_round (l : List Line) (tg p sz : List Nat) : roundF (l.map (trF f)) tg p sz = roundF l tg p sz := by
  unfold roundF
  exact List.map_congr_left fun i _ => tr_newS l tg p sz i
theorem tr_grow (l : List Line) (tg : List Nat) : ∀ n sz, growN (l.map (trF f)) tg n sz = growN l tg n sz
  | 0, _ => rfl
  | n + 1, sz => by rw [growN, growN, tr_round, tr_grow l tg n]
theorem tr_sizes {l : List Line} (hi : Inj f l) : sizesF (l.map (trF f)) = sizesF l := by
  have h := tr_tg hi
  unfold tgF at h
  unfold sizesF
  rw [h, List.length_map, tr_grow, List.map_map]
  congr 1
theorem tr_insAt (l : List Line) (tg sz : List Nat) (at_ : Int) (i : Nat) : insAt (l.map (trF f)) tg sz at_ i = insAt l tg sz at_ i := by
  obtain ⟨h1, h2, h3, h4⟩ := tr_getD (f := f) l i
  unfold insAt insF
  rw [h1, h2, h3, h4]
theorem tr_ins {l : List Line} (hi : Inj f l) (at_ : Int) : insL (l.map (trF f)) at_ = insL l at_ := by
  unfold insL outN
  rw [tr_tg hi, tr_sizes hi, List.length_map]
  rw [show insAt (l.map (trF f)) (tgF l) (sizesF l) at_ = insAt l (tgF l) (sizesF l) at_ from funext fun i => tr_insAt l _ _ _ i]
theorem tr_laid {l : List Line} (hi : Inj f l) (at_ : Int) : laidE (l.map (trF f)) at_ = laidE l at_ := by
  unfold laidE
  rw [tr_check hi, tr_sizes hi, List.length_map]
end

theorem tr_flat {f : Int → Int} {l : List Line} {j : Nat} (h : j < l.length) : ((l.take (j + 1)).map (trF f)).flatMap lineCells = ((l.take j).map (trF f)).flatMap lineCells ++ lineCells (trF f (l.getD j default)) := by
  rw [take_getD h, List.map_append, List.flatMap_append, List.map_cons, List.map_nil, List.flatMap_cons, List.flatMap_nil, List.append_nil]
/-! ### how many instructions -/
def cntK (l : List Line) (j : Nat) : Nat := (l.take j).countP (fun x => decide (x.kind ≠ 2))
theorem cntK_zero (l : List Line) : cntK l 0 = 0 := rfl
theorem cntK_le (l : List Line) (j : Nat) : cntK l j ≤ j := Nat.le_trans List.countP_le_length (List.length_take_le _ _)
theorem cntK_yes {l : List Line} {j : Nat} (h : j < l.length) (hk : ¬ (l.getD j default).kind = 2) : cntK l (j + 1) = cntK l j + 1 := by
  rw [cntK, take_getD h, List.countP_append]
  rw [List.countP_cons, List.countP_nil, if_pos (decide_eq_true hk)]
  rfl
theorem cntK_no {l : List Line} {j : Nat} (h : j < l.length) (hk : (l.getD j default).kind = 2) : cntK l (j + 1) = cntK l j := by
  rw [cntK, take_getD h, List.countP_append, List.countP_cons, List.countP_nil, if_neg (by rw [decide_eq_true_eq]; exact fun q => q hk)]
  rfl
theorem kind_ok {l : List Line} (hc : checkF l = 0) {j : Nat} (hj : j < l.length) : 1 ≤ (l.getD j default).kind ∧ (l.getD j default).kind ≤ 6 := by
  have h1 := (checkF_zero hc).1 _ (getD_mem' hj)
  unfold lineErr at h1
  split at h1
  · exact absurd h1 (by decide)
  · rename_i hb
    unfold badArg at hb
    simp only [Bool.or_eq_true, decide_eq_true_eq] at hb
    omega
theorem insAt_lab {l : List Line} {tg sz : List Nat} {at_ : Int} {j : Nat} (hk : (l.getD j default).kind = 2) : insAt l tg sz at_ j = none := by
  rw [insAt, insF, if_neg (by omega), if_neg (by omega), if_neg (by omega), if_neg (by omega), if_neg (by omega)]
theorem insAt_ex {l : List Line} {tg sz : List Nat} {at_ : Int} {j : Nat} (h1 : 1 ≤ (l.getD j default).kind) (h2 : (l.getD j default).kind ≤ 6) (hk : ¬ (l.getD j default).kind = 2) : ∃ i, insAt l tg sz at_ j = some i := by
  unfold insAt insF
  split
  · exact ⟨_, rfl⟩
  split
  · exact ⟨_, rfl⟩
  split
  · exact ⟨_, rfl⟩
  split
  · exact ⟨_, rfl⟩
  split
  · exact ⟨_, rfl⟩
  · omega
theorem outN_cnt {l : List Line} (hc : checkF l = 0) (tg sz : List Nat) (at_ : Int) : ∀ j, j ≤ l.length → (outN l tg sz at_ j).length = cntK l j
  | 0, _ => rfl
  | j + 1, h => by
    have ih := outN_cnt hc tg sz at_ j (by omega)
    by_cases hk : (l.getD j default).kind = 2
    · rw [outN_none (insAt_lab hk), ih, cntK_no (by omega) hk]
    · have h1 := kind_ok hc (show j < l.length by omega)
      obtain ⟨i, hi⟩ := insAt_ex (tg := tg) (sz := sz) (at_ := at_) h1.1 h1.2 hk
      rw [outN_some hi, List.length_append, ih, cntK_yes (by omega) hk]
      rfl
theorem outN_pre (l : List Line) (tg sz : List Nat) (at_ : Int) (j : Nat) : ∀ d, ∃ r, outN l tg sz at_ (j + d) = outN l tg sz at_ j ++ r
  | 0 => ⟨[], by simp⟩
  | d + 1 => by
    obtain ⟨r, hr⟩ := outN_pre l tg sz at_ j d
    rw [← Nat.add_assoc]
    cases h : insAt l tg sz at_ (j + d) with
    | none => exact ⟨r, by rw [outN_none h, hr]⟩
    | some i => exact ⟨r ++ [i], by rw [outN_some h, hr, List.append_assoc]⟩
theorem ins_at {l : List Line} (hc : checkF l = 0) (at_ : Int) {j : Nat} (hj : j < l.length) {i : Ins} (h : insAt l (tgF l) (sizesF l) at_ j = some i) : cntK l j < (insL l at_).length ∧ (insL l at_).getD (cntK l j) default = i := by
  have hL := outN_cnt hc (tgF l) (sizesF l) at_ j (by omega)
  obtain ⟨r, hr⟩ := outN_pre l (tgF l) (sizesF l) at_ (j + 1) (l.length - (j + 1))
  rw [show j + 1 + (l.length - (j + 1)) = l.length by omega, outN_some h] at hr
  have e : insL l at_ = outN l (tgF l) (sizesF l) at_ j ++ ([i] ++ r) := by rw [insL, hr, List.append_assoc]
  rw [e, ← hL]
  refine ⟨by simp, ?_⟩
  rw [List.getD_eq_getElem?_getD, List.getElem?_append_right (Nat.le_refl _)]
  simp
def mvI (a b k : Int) (x : Ins) : Ins := if k = 6 then { x with imm := x.imm - a + b } else x
theorem ins_moved {l : List Line} (hc : checkF l = 0) (a b : Int) (ha0 : 0 ≤ a) (ha : a ≤ 2147483647) (hn : l.length ≤ 1099511627) {j : Nat} (hj : j < l.length) (hk : ¬ (l.getD j default).kind = 2) :
    cntK l j < (insL l a).length ∧ cntK l j < (insL l b).length ∧ (insL l b).getD (cntK l j) default = mvI a b (l.getD j default).kind ((insL l a).getD (cntK l j) default) ∧
    ((l.getD j default).kind = 6 → 0 ≤ ((insL l a).getD (cntK l j) default).imm ∧ ((insL l a).getD (cntK l j) default).imm ≤ 14242111544) := by
  have h1 := kind_ok hc hj
  obtain ⟨i, hi⟩ := insAt_ex (tg := tgF l) (sz := sizesF l) (at_ := a) h1.1 h1.2 hk
  obtain ⟨i', hi'⟩ := insAt_ex (tg := tgF l) (sz := sizesF l) (at_ := b) h1.1 h1.2 hk
  obtain ⟨a1, a2⟩ := ins_at hc a hj hi
  obtain ⟨b1, b2⟩ := ins_at hc b hj hi'
  refine ⟨a1, b1, ?_⟩
  rw [a2, b2]
  have hp := plF_bound (sizesF_le l) (by rw [sizesF_len]; omega) ((tgF l).getD j 0)
  unfold insAt insF at hi hi'
  unfold mvI
  by_cases h6 : (l.getD j default).kind = 6
  · rw [if_neg (by omega), if_neg (by omega), if_neg (by omega), if_neg (by omega), if_pos h6] at hi hi'
    cases hi; cases hi'
    rw [if_pos h6]
    refine ⟨?_, fun _ => ⟨?_, ?_⟩⟩
    · show Ins.mk _ _ _ _ _ _ = Ins.mk _ _ _ _ _ _
      congr 1
      show b + _ = a + _ - a + b
      omega
    · show 0 ≤ a + _
      omega
    · show a + _ ≤ _
      omega
  · rw [if_neg h6]
    refine ⟨?_, fun q => absurd q h6⟩
    rw [if_neg h6] at hi hi'
    have e := hi.symm.trans hi'
    simp only [Option.some.injEq] at e
    exact e.symm
theorem moved_err {l : List Line} (hc : checkF l = 0) (b : Int) : laidE l b = 0 ∨ laidE l b = 221 := by
  unfold laidE
  rw [if_neg (fun q => q hc)]
  split
  · exact .inr rfl
  · exact .inl rfl
end Go.Proofs.YtjndpakhmgapjaaDoor
