/-
  LINES as plain data; which may be; sizes, places, what they become.
-/
import Derived.Test.YtjndpakhmgapjaaDoorEnc
namespace Go.Proofs.YtjndpakhmgapjaaDoor
open Go Go.RowKit
set_option linter.unusedSimpArgs false
set_option linter.unusedVariables false
structure Line where
  kind : Int
  ins : Ins
  l : Int
  cond : Int
  d : Int
  deriving Inhabited, DecidableEq
def lineCells (x : Line) : List T := [.v (.int .i64 x.kind), .v (.int .i64 x.ins.kind), .v (.int .i64 x.ins.d), .v (.int .i64 x.ins.s), .v (.int .i64 x.ins.cond), .v (.int .i64 x.ins.size), .v (.int .i64 x.ins.imm), .v (.int .i64 x.l), .v (.int .i64 x.cond), .v (.int .i64 x.d)]
def lineVals (x : Line) : List Value := [.int .i64 x.kind, .int .i64 x.ins.kind, .int .i64 x.ins.d, .int .i64 x.ins.s, .int .i64 x.ins.cond, .int .i64 x.ins.size, .int .i64 x.ins.imm, .int .i64 x.l, .int .i64 x.cond, .int .i64 x.d]
def linesT (l : List Line) : T := .sl 10 (l.flatMap lineCells)
def inssT (l : List Ins) : T := .sl 6 (l.flatMap insCells)
structure LineOk (x : Line) : Prop where
  kind : I64 x.kind
  ins : InsOk x.ins
  l : I64 x.l
  cond : I64 x.cond
  d : I64 x.d

theorem len_flat {α : Type} {f : α → List T} {k : Nat} (hk : ∀ a, (f a).length = k) : ∀ (l : List α), (l.flatMap f).length = l.length * k
  | [] => by simp
  | a :: r => by rw [List.flatMap_cons, List.length_append, hk, len_flat hk r, List.length_cons, Nat.add_mul]; omega
theorem drop_flat {α : Type} {f : α → List T} {k : Nat} (hk : ∀ a, (f a).length = k) : ∀ (l : List α) (j : Nat), (l.flatMap f).drop (j * k) = (l.drop j).flatMap f
  | [], j => by simp
  | a :: r, 0 => by simp
  | a :: r, j + 1 => by
    rw [List.flatMap_cons, Nat.add_mul, Nat.one_mul, Nat.add_comm, List.drop_append, List.drop_of_length_le (by rw [hk]; omega), hk, List.nil_append, Nat.add_sub_cancel_left, drop_flat hk r j]
    rfl
theorem getD_eq' {α : Type} [Inhabited α] {l : List α} {j : Nat} (h : j < l.length) : l.getD j default = l[j] := by simp [h]
theorem getD_mem' {α : Type} [Inhabited α] {l : List α} {j : Nat} (h : j < l.length) : l.getD j default ∈ l := by
  rw [getD_eq' h]; exact List.getElem_mem h
theorem flat_at {α : Type} [Inhabited α] {f : α → List T} {k : Nat} (hk : ∀ a, (f a).length = k) {l : List α} {j : Nat} (h : j < l.length) (i : Nat) (hi : i < k) : (l.flatMap f)[j * k + i]? = (f (l.getD j default))[i]? := by
  rw [← List.getElem?_drop, drop_flat hk, List.drop_eq_getElem_cons h, List.flatMap_cons, getD_eq' h, List.getElem?_append_left (by rw [hk]; exact hi)]
theorem flat_get {α : Type} [Inhabited α] {f : α → List T} {k : Nat} (hk : ∀ a, (f a).length = k) {l : List α} {j : Nat} (h : j < l.length) : ((l.flatMap f).drop (j * k)).take k = f (l.getD j default) ∧ (f (l.getD j default)).length = k := by
  refine ⟨?_, hk _⟩
  rw [drop_flat hk, List.drop_eq_getElem_cons h, List.flatMap_cons, getD_eq' h, List.take_left' (hk _)]
theorem lk (x : Line) : (lineCells x).length = 10 := rfl
theorem ik (i : Ins) : (insCells i).length = 6 := rfl
theorem len_lines {l : List Line} : (l.flatMap lineCells).length = l.length * 10 := len_flat lk l
theorem len_inss {l : List Ins} : (l.flatMap insCells).length = l.length * 6 := len_flat ik l
theorem line_get {l : List Line} {j : Nat} (h : j < l.length) : ((l.flatMap lineCells).drop (j * 10)).take 10 = lineCells (l.getD j default) ∧ (lineCells (l.getD j default)).length = 10 := flat_get lk h
theorem ins_get {l : List Ins} {j : Nat} (h : j < l.length) : ((l.flatMap insCells).drop (j * 6)).take 6 = insCells (l.getD j default) ∧ (insCells (l.getD j default)).length = 6 := flat_get ik h
theorem line_at {l : List Line} {j : Nat} (h : j < l.length) (i : Nat) (hi : i < 10) : (l.flatMap lineCells)[j * 10 + i]? = (lineCells (l.getD j default))[i]? := flat_at lk h i hi
theorem line_at0 {l : List Line} {j : Nat} (h : j < l.length) : (l.flatMap lineCells)[j * 10]? = some (.v (.int .i64 (l.getD j default).kind)) := line_at h 0 (by decide)
theorem line_at7 {l : List Line} {j : Nat} (h : j < l.length) : (l.flatMap lineCells)[j * 10 + 7]? = some (.v (.int .i64 (l.getD j default).l)) := line_at h 7 (by decide)
theorem take_flat {α β : Type} [Inhabited α] {f : α → List β} {l : List α} {j : Nat} (h : j < l.length) : (l.take (j + 1)).flatMap f = (l.take j).flatMap f ++ f (l.getD j default) := by
  rw [List.take_succ_eq_append_getElem h, List.flatMap_append, getD_eq' h]
  simp
theorem take_getD {α : Type} [Inhabited α] {l : List α} {j : Nat} (h : j < l.length) : l.take (j + 1) = l.take j ++ [l.getD j default] := by
  rw [List.take_succ_eq_append_getElem h, getD_eq' h]

theorem snocInd {α : Type} {P : List α → Prop} (nil : P []) (snoc : ∀ l x, P l → P (l ++ [x])) (l : List α) : P l := by
  have h : ∀ r : List α, P r.reverse := by
    intro r
    induction r with
    | nil => exact nil
    | cons x r ih => rw [List.reverse_cons]; exact snoc _ _ ih
  have h2 := h l.reverse
  rwa [List.reverse_reverse] at h2

/-! ### maps of labels -/
def getA (k : Int) : List (Int × Nat) → Option Nat
  | [] => none
  | e :: r => if e.1 = k then some e.2 else getA k r
def putA (k : Int) (v : Nat) : List (Int × Nat) → List (Int × Nat)
  | [] => [(k, v)]
  | e :: r => if e.1 = k then (k, v) :: r else e :: putA k v r
def mE (m : List (Int × Nat)) : List (Key × T) := m.map fun e => (.i .i64 e.1, .v (.int .i64 (e.2 : Int)))
theorem getK_mE (k : Int) : ∀ m, getK (.i .i64 k) (mE m) = (getA k m).map fun v : Nat => T.v (.int .i64 (v : Int))
  | [] => rfl
  | e :: r => by
    have ih := getK_mE k r
    simp only [mE, List.map_cons, getK, getA, Key.i.injEq, true_and] at ih ⊢
    split
    · rfl
    · exact ih
theorem putK_mE (k : Int) (v : Nat) : ∀ m, putK (.i .i64 k) (.v (.int .i64 (v : Int))) (mE m) = mE (putA k v m)
  | [] => rfl
  | e :: r => by
    have ih := putK_mE k v r
    simp only [mE, List.map_cons, putK, putA, Key.i.injEq, true_and] at ih ⊢
    split
    · rfl
    · rw [List.map_cons, ih]
theorem mE_good : ∀ m, ∀ e ∈ mE m, goodK (.int .i64) e.1 = true := by
  intro m e he
  simp only [mE, List.mem_map] at he
  obtain ⟨x, _, rfl⟩ := he
  rfl
theorem getA_putA (k k' : Int) (v : Nat) : ∀ m, getA k' (putA k v m) = if k' = k then some v else getA k' m
  | [] => by
    simp only [putA, getA]
    by_cases h : k' = k
    · rw [if_pos h, if_pos h.symm]
    · rw [if_neg h, if_neg (fun q => h q.symm)]
  | e :: r => by
    simp only [putA]
    split
    · rename_i he
      simp only [getA]
      by_cases h : k' = k
      · rw [if_pos h, if_pos h.symm]
      · rw [if_neg h, if_neg (fun q => h q.symm), if_neg (fun q => h (q.symm.trans he))]
    · rename_i he
      simp only [getA, getA_putA k k' v r]
      by_cases h : k' = k
      · subst h; rw [if_pos rfl, if_neg he, if_pos rfl]
      · rw [if_neg h, if_neg h]
def lookN (k : Int) (m : List (Int × Nat)) : Nat := (getA k m).getD 0
theorem look_mE (k : Int) (m : List (Int × Nat)) : (getK (.i .i64 k) (mE m)).getD (T.v (.int .i64 0)) = T.v (.int .i64 (lookN k m : Int)) := by
  rw [getK_mE, lookN]
  cases getA k m <;> rfl
/-- How often labels stand in lines. -/
def cntM (l : List Line) : List (Int × Nat) := l.foldl (fun m x => if x.kind = 2 then putA x.l (lookN x.l m + 1) m else m) []
theorem cntM_snoc (l : List Line) (x : Line) : cntM (l ++ [x]) = if x.kind = 2 then putA x.l (lookN x.l (cntM l) + 1) (cntM l) else cntM l := by
  simp [cntM, List.foldl_append]
def isLab (k : Int) (x : Line) : Bool := decide (x.kind = 2) && decide (x.l = k)
theorem cntM_count (k : Int) (l : List Line) : lookN k (cntM l) = l.countP (isLab k) := by
  induction l using snocInd with
  | nil => rfl
  | snoc l x ih =>
    rw [cntM_snoc, List.countP_append, ← ih]
    by_cases hx : x.kind = 2
    · rw [if_pos hx]
      by_cases hl : k = x.l
      · subst hl
        rw [lookN, getA_putA, if_pos rfl]
        simp [isLab, hx]
      · rw [lookN, getA_putA, if_neg hl]
        have : ¬ x.l = k := fun q => hl q.symm
        simp [isLab, hx, this, lookN]
    · rw [if_neg hx]
      simp [isLab, hx]
/-- Which line a label is (the last one). -/
def labG (i : Nat) (l : List Line) (m : List (Int × Nat)) : List (Int × Nat) :=
  match l with
  | [] => m
  | x :: r => labG (i + 1) r (if x.kind = 2 then putA x.l i m else m)
def labM (l : List Line) : List (Int × Nat) := labG 0 l []
theorem labG_snoc (x : Line) : ∀ (l : List Line) (i : Nat) (m : List (Int × Nat)), labG i (l ++ [x]) m = if x.kind = 2 then putA x.l (i + l.length) (labG i l m) else labG i l m
  | [], i, m => by simp [labG]
  | y :: l, i, m => by
    rw [List.cons_append, labG, labG_snoc x l, labG, List.length_cons]
    congr 2; omega
theorem labM_snoc (l : List Line) (x : Line) : labM (l ++ [x]) = if x.kind = 2 then putA x.l l.length (labM l) else labM l := by
  rw [labM, labG_snoc, Nat.zero_add]; rfl
theorem labM_lt (k : Int) (l : List Line) (v : Nat) (h : getA k (labM l) = some v) : v < l.length ∧ isLab k (l.getD v default) = true := by
  induction l using snocInd with
  | nil => cases h
  | snoc l x ih =>
    have old : getA k (labM l) = some v → v < (l ++ [x]).length ∧ isLab k ((l ++ [x]).getD v default) = true := fun h => by
      obtain ⟨h1, h2⟩ := ih h
      refine ⟨by rw [List.length_append]; omega, ?_⟩
      rw [getD_eq' (by rw [List.length_append]; omega), List.getElem_append_left h1, ← getD_eq' h1]; exact h2
    rw [labM_snoc] at h
    split at h
    · rename_i hx
      rw [getA_putA] at h
      split at h
      · rename_i hk
        cases h
        refine ⟨by simp, ?_⟩
        rw [getD_eq' (by simp)]
        simp [isLab, hx, hk]
      · exact old h
    · exact old h
theorem labM_none (k : Int) (l : List Line) (h : getA k (labM l) = none) : l.countP (isLab k) = 0 := by
  induction l using snocInd with
  | nil => rfl
  | snoc l x ih =>
    rw [labM_snoc] at h
    rw [List.countP_append]
    split at h
    · rename_i hx
      rw [getA_putA] at h
      split at h
      · cases h
      · rename_i hk
        rw [ih h]
        have : ¬ x.l = k := fun q => hk q.symm
        simp [isLab, this]
    · rename_i hx
      rw [ih h]
      simp [isLab, hx]
theorem lookN_lt (k : Int) (l : List Line) : lookN k (labM l) ≤ l.length := by
  rw [lookN]
  cases h : getA k (labM l) with
  | none => exact Nat.zero_le _
  | some v => exact Nat.le_of_lt (labM_lt k l v h).1

/-! ### which lines may be -/
def goesF (k : Int) : Bool := decide (k = 3) || decide (k = 4) || decide (k = 5) || decide (k = 6)
def badArg (x : Line) : Bool := decide (x.kind < 1) || decide (6 < x.kind) || (decide (x.kind = 4) && (decide (x.cond < 0) || decide (15 < x.cond))) || (decide (x.kind = 6) && (decide (x.d < 0) || decide (15 < x.d)))
def lineErr (x : Line) : Int := if badArg x = true then 1 else if (decide (x.kind = 1) && !validF x.ins) = true then 200 else 0
def labBad (m : List (Int × Nat)) (x : Line) : Bool := decide (x.kind = 2) && decide ((1 : Int) < (lookN x.l m : Nat)) || goesF x.kind && decide (((lookN x.l m : Nat) : Int) = 0)
def checkF (l : List Line) : Int :=
  match l.find? (fun x => !decide (lineErr x = 0)) with
  | some x => lineErr x
  | none => if l.any (labBad (cntM l)) = true then 220 else 0

theorem bad1 {x : Line} (h : (decide (x.kind < 1) || decide (6 < x.kind)) = true) : lineErr x = 1 := by
  rw [lineErr, if_pos]; unfold badArg; rw [h]; rfl
theorem bad2 {x : Line} (h : (decide (x.kind = 4) && (decide (x.cond < 0) || decide (15 < x.cond))) = true) : lineErr x = 1 := by
  rw [lineErr, if_pos]; unfold badArg; rw [h, Bool.or_true]; rfl
theorem bad3 {x : Line} (h : (decide (x.kind = 6) && (decide (x.d < 0) || decide (15 < x.d))) = true) : lineErr x = 1 := by
  rw [lineErr, if_pos]; unfold badArg; rw [h, Bool.or_true]
theorem bad0_ {x : Line} (h1 : (decide (x.kind < 1) || decide (6 < x.kind)) = false) (h2 : (decide (x.kind = 4) && (decide (x.cond < 0) || decide (15 < x.cond))) = false) (h3 : (decide (x.kind = 6) && (decide (x.d < 0) || decide (15 < x.d))) = false) : badArg x = false := by
  unfold badArg; rw [h1, h2, h3]; rfl
theorem lineErr_ok {x : Line} (h : badArg x = false) (h4 : (decide (x.kind = 1) && !validF x.ins) = false) : lineErr x = 0 := by
  rw [lineErr, if_neg (by rw [h]; decide), if_neg (by rw [h4]; decide)]
theorem lineErr_ins {x : Line} (h : badArg x = false) (h4 : (decide (x.kind = 1) && !validF x.ins) = true) : lineErr x = 200 := by
  rw [lineErr, if_neg (by rw [h]; decide), if_pos h4]
theorem find_none' {l : List Line} (h : ∀ i, i < l.length → lineErr (l.getD i default) = 0) : l.find? (fun x => !decide (lineErr x = 0)) = none := by
  rw [List.find?_eq_none]
  intro x hx
  obtain ⟨i, hi, rfl⟩ := List.mem_iff_getElem.1 hx
  have := h i hi
  rw [getD_eq' hi] at this
  simp [this]
theorem checkF_line {l : List Line} {j : Nat} (hj : j < l.length) (hp : ∀ i, i < j → lineErr (l.getD i default) = 0) (he : lineErr (l.getD j default) ≠ 0) : checkF l = lineErr (l.getD j default) := by
  have e : l.find? (fun x => !decide (lineErr x = 0)) = some (l.getD j default) := by
    rw [getD_eq' hj, List.find?_eq_some_iff_getElem]
    rw [getD_eq' hj] at he
    refine ⟨by simp [he], j, hj, rfl, fun i hi => ?_⟩
    have := hp i hi
    rw [getD_eq' (by omega)] at this
    simp [this]
  rw [checkF, e]
theorem checkF_lab {l : List Line} {j : Nat} (hp : ∀ i, i < l.length → lineErr (l.getD i default) = 0) (hj : j < l.length) (hb : labBad (cntM l) (l.getD j default) = true) : checkF l = 220 := by
  rw [checkF, find_none' hp]
  show (if l.any (labBad (cntM l)) = true then (220 : Int) else 0) = 220
  rw [if_pos]
  exact List.any_eq_true.2 ⟨_, getD_mem' hj, hb⟩
theorem checkF_ok {l : List Line} (hp : ∀ i, i < l.length → lineErr (l.getD i default) = 0) (hb : ∀ i, i < l.length → labBad (cntM l) (l.getD i default) = false) : checkF l = 0 := by
  rw [checkF, find_none' hp]
  show (if l.any (labBad (cntM l)) = true then (220 : Int) else 0) = 0
  rw [if_neg]
  intro h
  obtain ⟨x, hx, hq⟩ := List.any_eq_true.1 h
  obtain ⟨i, hi, rfl⟩ := List.mem_iff_getElem.1 hx
  have := hb i hi
  rw [getD_eq' hi] at this
  rw [this] at hq; cases hq
theorem checkF_zero {l : List Line} (h : checkF l = 0) : (∀ x ∈ l, lineErr x = 0) ∧ ∀ x ∈ l, labBad (cntM l) x = false := by
  unfold checkF at h
  split at h
  · rename_i x hx
    have := List.find?_some hx
    rw [h] at this; exact absurd this (by decide)
  · rename_i hx
    rw [List.find?_eq_none] at hx
    split at h
    · exact absurd h (by decide)
    · rename_i hb
      refine ⟨fun x hx1 => by simpa using hx x hx1, fun x hx1 => ?_⟩
      cases hq : labBad (cntM l) x
      · rfl
      · exact absurd (List.any_eq_true.2 ⟨x, hx1, hq⟩) hb

/-! ### sizes -/
def NL : Nat := 1099511627
def size0 (x : Line) : Nat :=
  if x.kind = 1 then (if validF x.ins = true then (encF x.ins).length else 0)
  else if x.kind = 3 ∨ x.kind = 4 then 2
  else if x.kind = 5 then 5
  else if x.kind = 6 then 7 else 0
def tgt0 (m : List (Int × Nat)) (x : Line) : Nat := if goesF x.kind = true then lookN x.l m else 0
def pre (sz : List Nat) (k : Nat) : Nat := (sz.take k).sum
def plF (sz : List Nat) : List Nat := (List.range (sz.length + 1)).map (pre sz)
def wayF (tg p : List Nat) (i : Nat) : Int := ((p.getD (tg.getD i 0) 0 : Nat) : Int) - ((p.getD (i + 1) 0 : Nat) : Int)
def outF (n : Int) : Bool := decide (n < -128) || decide (127 < n)
def jmpF (k : Int) : Bool := decide (k = 3) || decide (k = 4)
def newS (l : List Line) (tg p sz : List Nat) (i : Nat) : Nat :=
  if (jmpF (l.getD i default).kind && decide (sz.getD i 0 = 2) && outF (wayF tg p i)) = true then (if (l.getD i default).kind = 4 then 6 else 5) else sz.getD i 0
def roundF (l : List Line) (tg p sz : List Nat) : List Nat := (List.range sz.length).map (newS l tg p sz)
def growN (l : List Line) (tg : List Nat) : Nat → List Nat → List Nat
  | 0, sz => sz
  | f + 1, sz => if roundF l tg (plF sz) sz = sz then sz else growN l tg f (roundF l tg (plF sz) sz)
def sizesF (l : List Line) : List Nat := growN l (l.map (tgt0 (labM l))) (l.length + 1) (l.map size0)
theorem roundF_len (l : List Line) (tg p sz : List Nat) : (roundF l tg p sz).length = sz.length := by simp [roundF]
theorem plF_len (sz : List Nat) : (plF sz).length = sz.length + 1 := by simp [plF]
theorem plF_get (sz : List Nat) {k : Nat} (h : k ≤ sz.length) : (plF sz).getD k 0 = pre sz k := by
  simp [plF, show k < sz.length + 1 by omega]
theorem pre_succ (sz : List Nat) {k : Nat} (h : k < sz.length) : pre sz (k + 1) = pre sz k + sz.getD k 0 := by
  rw [pre, List.take_succ_eq_append_getElem h, List.sum_append, pre]
  simp [h]
theorem pre_le (sz : List Nat) (h : ∀ s ∈ sz, s ≤ 11) : ∀ k, pre sz k ≤ 11 * sz.length := by
  intro k
  have h1 : ∀ (q : List Nat), (∀ s ∈ q, s ≤ 11) → q.sum ≤ 11 * q.length := by
    intro q
    induction q with
    | nil => intro _; simp
    | cons a r ih =>
      intro hq
      have := ih (fun s hs => hq s (List.mem_cons_of_mem _ hs))
      have := hq a (List.mem_cons_self ..)
      simp only [List.sum_cons, List.length_cons]; omega
  have h2 := h1 (sz.take k) (fun s hs => h s (List.mem_of_mem_take hs))
  have h3 : (sz.take k).length ≤ sz.length := by rw [List.length_take]; omega
  unfold pre
  omega
theorem pre_mono (sz : List Nat) {a b : Nat} (h : a ≤ b) : pre sz a ≤ pre sz b := by
  obtain ⟨c, rfl⟩ := Nat.exists_eq_add_of_le h
  unfold pre
  rw [List.take_add, List.sum_append]
  omega
theorem range_getD (sz : List Nat) : (List.range sz.length).map (fun i => sz.getD i 0) = sz := by
  apply List.ext_getElem
  · simp
  · intro i h1 h2
    simp only [List.length_map, List.length_range] at h1
    simp [h1]
theorem count_round (g h : Nat → Nat) (hg : ∀ i, g i = h i ∨ (h i = 2 ∧ g i ≠ 2)) : ∀ L : List Nat, (L.map g).count 2 ≤ (L.map h).count 2 ∧ (L.map g ≠ L.map h → (L.map g).count 2 < (L.map h).count 2)
  | [] => ⟨Nat.le_refl _, fun q => absurd rfl q⟩
  | a :: L => by
    obtain ⟨h1, h2⟩ := count_round g h hg L
    rcases hg a with e | ⟨e1, e2⟩
    · rw [List.map_cons, List.map_cons, e]
      refine ⟨by simp only [List.count_cons]; omega, fun q => ?_⟩
      have := h2 (fun q2 => q (by rw [q2]))
      simp only [List.count_cons]; omega
    · rw [List.map_cons, List.map_cons, e1]
      have : (g a :: L.map g).count 2 = (L.map g).count 2 := by rw [List.count_cons]; simp [e2]
      have h3 : (2 :: L.map h).count 2 = (L.map h).count 2 + 1 := by simp
      exact ⟨by omega, fun _ => by omega⟩
theorem newS_or (l : List Line) (tg p sz : List Nat) (i : Nat) : newS l tg p sz i = sz.getD i 0 ∨ (sz.getD i 0 = 2 ∧ newS l tg p sz i ≠ 2) := by
  unfold newS
  split
  · rename_i h
    simp only [Bool.and_eq_true, decide_eq_true_eq] at h
    refine .inr ⟨h.1.2, ?_⟩
    split <;> decide
  · exact .inl rfl
theorem round_count (l : List Line) (tg p sz : List Nat) (h : roundF l tg p sz ≠ sz) : (roundF l tg p sz).count 2 < sz.count 2 := by
  have := (count_round (newS l tg p sz) (fun i => sz.getD i 0) (newS_or l tg p sz) (List.range sz.length)).2
  rw [range_getD] at this
  exact this h
theorem round_le (l : List Line) (tg p sz : List Nat) (h : ∀ s ∈ sz, s ≤ 11) : ∀ s ∈ roundF l tg p sz, s ≤ 11 := by
  intro s hs
  simp only [roundF, List.mem_map, List.mem_range] at hs
  obtain ⟨i, hi, rfl⟩ := hs
  unfold newS
  split
  · split <;> decide
  · have : sz.getD i 0 ∈ sz := by simp [hi]
    exact h _ this
theorem growN_fix (l : List Line) (tg : List Nat) : ∀ f sz, sz.count 2 < f → roundF l tg (plF (growN l tg f sz)) (growN l tg f sz) = growN l tg f sz
  | 0, _, h => absurd h (by omega)
  | f + 1, sz, h => by
    rw [growN]
    split
    · assumption
    · rename_i hne
      exact growN_fix l tg f _ (by have := round_count l tg (plF sz) sz hne; omega)
theorem growN_len (l : List Line) (tg : List Nat) : ∀ f sz, (growN l tg f sz).length = sz.length
  | 0, _ => rfl
  | f + 1, sz => by
    rw [growN]
    split
    · rfl
    · rw [growN_len l tg f, roundF_len]
theorem growN_le (l : List Line) (tg : List Nat) : ∀ f sz, (∀ s ∈ sz, s ≤ 11) → ∀ s ∈ growN l tg f sz, s ≤ 11
  | 0, _, h => h
  | f + 1, sz, h => by
    rw [growN]
    split
    · exact h
    · exact growN_le l tg f _ (round_le l tg _ sz h)

/-! ### what lines become -/
def insF (x : Line) (s : Nat) (way to : Int) : Option Ins :=
  if x.kind = 1 then some x.ins
  else if x.kind = 3 then some ⟨35, 0, 0, 0, if s = 2 then 1 else 4, way⟩
  else if x.kind = 4 then some ⟨36, 0, 0, x.cond, if s = 2 then 1 else 4, way⟩
  else if x.kind = 5 then some ⟨37, 0, 0, 0, 0, way⟩
  else if x.kind = 6 then some ⟨2, x.d, 0, 0, 0, to⟩
  else none
def insAt (l : List Line) (tg sz : List Nat) (at_ : Int) (i : Nat) : Option Ins :=
  insF (l.getD i default) (sz.getD i 0) (wayF tg (plF sz) i) (at_ + ((plF sz).getD (tg.getD i 0) 0 : Nat))
def tgF (l : List Line) : List Nat := l.map (tgt0 (labM l))
def farE (at_ : Int) (e : Nat) : Bool := decide (2147483647 < at_) || decide (2147483647 - at_ < (e : Int))
def resolveF (l : List Line) (at_ : Int) : Option (List Ins) × Int :=
  if checkF l ≠ 0 then (none, checkF l)
  else if farE at_ (pre (sizesF l) l.length) = true then (none, 221)
  else (some ((List.range l.length).filterMap (insAt l (tgF l) (sizesF l) at_)), 0)

/-! ### the layout in memory -/
def zu (n : Nat) : T := .v (.int .u64 (n : Int))
def zi (n : Nat) : T := .v (.int .i64 (n : Int))
def LB (b : Nat) (l : List Line) (A1 A2 : Option Addr) (sz tg : List Nat) : St :=
  [.box b 53 [linesT l, .v (.slice A1 l.length l.length), .v (.slice A2 l.length l.length)], .row A1 l.length l.length 78 1 (sz.map zu), .row A2 l.length l.length 3 1 (tg.map zi)]
def fillN (f : Line → Nat) (l : List Line) (j : Nat) : List Nat := (l.take j).map f ++ List.replicate (l.length - j) 0
theorem fill_len {f : Line → Nat} {l : List Line} {j : Nat} (h : j ≤ l.length) : (fillN f l j).length = l.length := by
  simp [fillN]; omega
theorem fill_zero (f : Line → Nat) (l : List Line) : fillN f l 0 = List.replicate l.length 0 := by simp [fillN]
theorem fill_all (f : Line → Nat) (l : List Line) : fillN f l l.length = l.map f := by simp [fillN]
theorem fill_set {f : Line → Nat} {l : List Line} {j v : Nat} (h : j < l.length) (hv : f (l.getD j default) = v) : (fillN f l j).set j v = fillN f l (j + 1) := by
  subst hv
  unfold fillN
  rw [List.set_append_right _ _ (by simp; omega), take_getD h, List.map_append, List.append_assoc]
  congr 1
  have e : j - ((l.take j).map f).length = 0 := by simp; omega
  rw [e, show l.length - j = (l.length - (j + 1)) + 1 by omega, List.replicate_succ]
  rfl
theorem fill_same {f : Line → Nat} {l : List Line} {j : Nat} (h : j < l.length) (hv : f (l.getD j default) = 0) : fillN f l j = fillN f l (j + 1) := by
  unfold fillN
  rw [take_getD h, List.map_append, List.append_assoc]
  congr 1
  rw [show l.length - j = (l.length - (j + 1)) + 1 by omega, List.replicate_succ, List.map_cons, hv]
  rfl
theorem fill_setU {f : Line → Nat} {l : List Line} {j v : Nat} (h : j < l.length) (hv : f (l.getD j default) = v) : ((fillN f l j).map zu).set (j * 1) (.v (.int .u64 (v : Int))) = (fillN f l (j + 1)).map zu := by
  rw [← fill_set h hv, List.map_set, Nat.mul_one]; rfl
theorem fill_setI {f : Line → Nat} {l : List Line} {j v : Nat} (h : j < l.length) (hv : f (l.getD j default) = v) : ((fillN f l j).map zi).set (j * 1) (.v (.int .i64 (v : Int))) = (fillN f l (j + 1)).map zi := by
  rw [← fill_set h hv, List.map_set, Nat.mul_one]; rfl
theorem flat_rep {n : Nat} {x : Value} : (List.replicate n (List.map T.v [x])).flatten = List.replicate n (T.v x) := by
  induction n with
  | zero => rfl
  | succ n ih => rw [List.replicate_succ, List.flatten_cons, ih]; rfl
theorem labM_take {l : List Line} {j : Nat} (h : j < l.length) : labM (l.take (j + 1)) = if (l.getD j default).kind = 2 then putA (l.getD j default).l j (labM (l.take j)) else labM (l.take j) := by
  rw [take_getD h, labM_snoc, List.length_take, Nat.min_eq_left (by omega)]
theorem memF_len (p q n : Int) : (memF p q n).length ≤ 6 := by
  unfold memF
  split <;> simp [immF, leBytes_length]
theorem iteLe {c : Prop} [Decidable c] {a b : List UInt8} (h1 : a.length ≤ 11) (h2 : b.length ≤ 11) : (if c then a else b).length ≤ 11 := by split <;> assumption
theorem encF_len (i : Ins) : (encF i).length ≤ 11 := by
  have h1 := memF_len i.d i.s i.imm
  have h2 := memF_len i.s i.d i.imm
  have h3 : (memoryF i).length ≤ 11 := by
    unfold memoryF
    repeat' split
    all_goals (simp only [List.length_cons] <;> omega)
  have h4 : (jumpF i).length ≤ 11 := by
    unfold jumpF
    repeat' split
    all_goals simp [immF, leBytes_length]
  have h5 : (farF i).length ≤ 11 := by
    unfold farF
    repeat' (first | apply iteLe | exact Nat.le_of_ble_eq_true rfl)
  unfold encF
  split
  · simp
  · simp [immF, leBytes_length]
  · simp
  · simp [immF, leBytes_length]
  · simp
  · split <;> simp [immF, leBytes_length]
  · exact h3
  · exact h4
  · exact h5
  all_goals simp
theorem valid_of {l : List Line} (h : checkF l = 0) {j : Nat} (hj : j < l.length) (hk : (l.getD j default).kind = 1) : validF (l.getD j default).ins = true := by
  have h1 := (checkF_zero h).1 _ (getD_mem' hj)
  unfold lineErr at h1
  split at h1
  · exact absurd h1 (by decide)
  split at h1
  · exact absurd h1 (by decide)
  · rename_i h2
    rw [decide_eq_true hk, Bool.true_and] at h2
    simpa using h2
theorem size0_le (x : Line) : size0 x ≤ 11 := by
  unfold size0
  have := encF_len x.ins
  repeat' split
  all_goals omega
theorem sizes0_le (l : List Line) : ∀ s ∈ l.map size0, s ≤ 11 := by
  intro s hs
  obtain ⟨x, _, rfl⟩ := List.mem_map.1 hs
  exact size0_le x
theorem len_zu {l : List Nat} : (l.map zu).length = l.length * 1 := by simp
theorem zu_get {l : List Nat} {j : Nat} (h : j < l.length) : (l.map zu)[j * 1]? = some (.v (.int .u64 ((l.getD j 0 : Nat) : Int))) := by simp [h, zu]
theorem zi_get {l : List Nat} {j : Nat} (h : j < l.length) : (l.map zi)[j * 1]? = some (.v (.int .i64 ((l.getD j 0 : Nat) : Int))) := by simp [h, zi]
end Go.Proofs.YtjndpakhmgapjaaDoor
