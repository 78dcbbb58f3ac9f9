/-
  THE DOCUMENT's lines: sizes, which may be.
-/
import Derived.Test.YtabkedlmpaoloaaKinds
import Derived.Test.YtabkedlmpaoloaaAw22
namespace Go.Proofs.Ytabkedlmpaoloaa
open Go Go.RowKit
set_option linter.unusedSimpArgs false
set_option linter.unusedVariables false
set_option linter.unnecessarySimpa false
/-- A line's instruction, of a size. -/
def lineO (x : Line) (z way to : Int) : Option Ins :=
  if x.kind = 1 then some x.ins
  else if x.kind = 3 then some ⟨35, 0, 0, 0, z, way⟩
  else if x.kind = 4 then some ⟨36, 0, 0, x.cond, z, way⟩
  else if x.kind = 5 then some ⟨37, 0, 0, 0, 0, way⟩
  else if x.kind = 6 then some ⟨2, x.d, 0, 0, 0, to⟩
  else none
def noIns : Ins := ⟨0, 0, 0, 0, 0, 0⟩
theorem insF_eq (x : Line) (s : Nat) (way to : Int) : insF x s way to = lineO x (if s = 2 then 1 else 4) way to := rfl
def lenR (x : Line) (z : Int) : Nat := match lineO x z 0 0 with
  | some i => (if validF i = true then encF i else []).length
  | none => 0
theorem lenR_le (x : Line) (z : Int) : lenR x z ≤ 11 := by
  unfold lenR
  split
  · split
    · exact encF_len _
    · exact Nat.zero_le _
  · exact Nat.zero_le _
/-- The document's size of a line: 1 or 4. -/
def zS (l : List Line) (sz : List Nat) (i : Nat) : Nat := if jmpF (l.getD i default).kind = true ∧ ¬ sz.getD i 0 = 2 then 4 else 1
def zL (l : List Line) (sz : List Nat) : List Nat := (List.range l.length).map (zS l sz)
theorem zL_len (l : List Line) (sz : List Nat) : (zL l sz).length = l.length := by simp [zL]
theorem zL_get {l : List Line} {sz : List Nat} {i : Nat} (h : i < l.length) : (zL l sz).getD i 0 = zS l sz i := by
  rw [List.getD_eq_getElem?_getD, List.getElem?_eq_getElem (by rw [zL_len]; exact h)]
  simp [zL]
theorem jmpF_iff (k : Int) : jmpF k = true ↔ k = 3 ∨ k = 4 := by simp [jmpF]
theorem len_line {l : List Line} (hc : checkF l = 0) {tg sz : List Nat} (hg : GI l tg sz) {i : Nat} (hi : i < l.length) : lenR (l.getD i default) (zS l sz i) = sz.getD i 0 := by
  have hk := kind_ok hc hi
  obtain ⟨hx4, hx6⟩ := line_args hc hi
  unfold lenR lineO
  by_cases h1 : (l.getD i default).kind = 1
  · rw [if_pos h1]
    have hv := valid_of hc hi h1
    show (if validF (l.getD i default).ins = true then encF (l.getD i default).ins else []).length = _
    rw [if_pos hv, hg.stay i hi (fun q => by rcases q with q | q <;> omega), size0, if_pos h1, if_pos hv]
  rw [if_neg h1]
  by_cases h3 : (l.getD i default).kind = 3
  · rw [if_pos h3]
    have hj : isJmp (l.getD i default) := .inl h3
    by_cases h2 : sz.getD i 0 = 2
    · rw [zS, if_neg (fun q => q.2 h2), h2]
      obtain ⟨hv, hl⟩ := is35s (w := 0) (by decide) (by decide)
      show (if validF ⟨35, 0, 0, 0, 1, 0⟩ = true then encF ⟨35, 0, 0, 0, 1, 0⟩ else []).length = _
      rw [if_pos hv, hl]
    · rw [zS, if_pos ⟨(jmpF_iff _).2 hj, h2⟩]
      obtain ⟨hv, hl⟩ := is35l (w := 0) (by decide) (by decide)
      show (if validF ⟨35, 0, 0, 0, 4, 0⟩ = true then encF ⟨35, 0, 0, 0, 4, 0⟩ else []).length = _
      rcases hg.jump i hi hj with q | ⟨q, _⟩
      · exact absurd q h2
      · rw [if_neg (by omega)] at q
        rw [if_pos hv, hl, q]
  rw [if_neg h3]
  by_cases h4 : (l.getD i default).kind = 4
  · rw [if_pos h4]
    have hj : isJmp (l.getD i default) := .inr h4
    obtain ⟨c0, c1⟩ := hx4 h4
    by_cases h2 : sz.getD i 0 = 2
    · rw [zS, if_neg (fun q => q.2 h2), h2]
      obtain ⟨hv, hl⟩ := is36s (w := 0) c0 c1 (by decide) (by decide)
      show (if validF ⟨36, 0, 0, (l.getD i default).cond, 1, 0⟩ = true then encF ⟨36, 0, 0, (l.getD i default).cond, 1, 0⟩ else []).length = _
      rw [if_pos hv, hl]
    · rw [zS, if_pos ⟨(jmpF_iff _).2 hj, h2⟩]
      obtain ⟨hv, hl⟩ := is36l (w := 0) c0 c1 (by decide) (by decide)
      show (if validF ⟨36, 0, 0, (l.getD i default).cond, 4, 0⟩ = true then encF ⟨36, 0, 0, (l.getD i default).cond, 4, 0⟩ else []).length = _
      rcases hg.jump i hi hj with q | ⟨q, _⟩
      · exact absurd q h2
      · rw [if_pos h4] at q
        rw [if_pos hv, hl, q]
  rw [if_neg h4]
  have hz := hg.stay i hi (fun q => by rcases q with q | q <;> omega)
  rw [size0, if_neg h1, if_neg (by omega)] at hz
  rw [hz]
  by_cases h5 : (l.getD i default).kind = 5
  · rw [if_pos h5, if_pos h5]
    obtain ⟨hv, hl⟩ := is37 (w := 0) (by decide) (by decide)
    show (if validF ⟨37, 0, 0, 0, 0, 0⟩ = true then encF ⟨37, 0, 0, 0, 0, 0⟩ else []).length = _
    rw [if_pos hv, hl]
  rw [if_neg h5, if_neg h5]
  by_cases h6 : (l.getD i default).kind = 6
  · rw [if_pos h6, if_pos h6]
    obtain ⟨d0, d1⟩ := hx6 h6
    obtain ⟨hv, hl⟩ := is2 (d := (l.getD i default).d) (w := 0) d0 d1 (by decide) (by decide)
    show (if validF ⟨2, (l.getD i default).d, 0, 0, 0, 0⟩ = true then encF ⟨2, (l.getD i default).d, 0, 0, 0, 0⟩ else []).length = _
    rw [if_pos hv, hl]
  · rw [if_neg h6, if_neg h6]
theorem zS_one {l : List Line} {tg sz : List Nat} (hg : GI l tg sz) {i : Nat} : (zS l sz i = 4 ↔ jmpF (l.getD i default).kind = true ∧ ¬ sz.getD i 0 = 2) := by
  unfold zS
  split
  · rename_i h; exact ⟨fun _ => h, fun _ => rfl⟩
  · rename_i h; exact ⟨fun q => absurd q (by decide), fun q => absurd q h⟩
theorem zL_first {l : List Line} : zL l (l.map size0) = List.replicate l.length 1 := by
  apply List.ext_getElem
  · simp [zL_len]
  · intro i h1 h2
    rw [zL_len] at h1
    simp only [zL, List.getElem_map, List.getElem_range, List.getElem_replicate, zS]
    rw [if_neg]
    rintro ⟨h3, h4⟩
    apply h4
    have : (l.map size0).getD i 0 = size0 (l.getD i default) := by simp [h1]
    rw [this, size0, if_neg (by rw [jmpF_iff] at h3; omega), if_pos ((jmpF_iff _).1 h3)]
/-- Sizes of a round that stands at line j. -/
theorem zL_same {l : List Line} {sz sz' : List Nat} (h : ∀ i, sz.getD i 0 = sz'.getD i 0) : zL l sz = zL l sz' := by
  unfold zL zS
  simp only [h]
theorem mix_getD (l : List Line) (tg p sz : List Nat) {j i : Nat} (hj : j ≤ sz.length) : (mixN l tg p sz j).getD i 0 = if i < j then newS l tg p sz i else sz.getD i 0 := by
  have e : ((roundF l tg p sz).take j).length = j := by rw [List.length_take, roundF_len]; omega
  rw [mixN, List.getD_eq_getElem?_getD]
  split
  · rename_i h
    rw [List.getElem?_append_left (by omega), List.getElem?_take, if_pos h, ← List.getD_eq_getElem?_getD, round_get (by omega)]
  · rename_i h
    rw [List.getElem?_append_right (by omega), e, List.getElem?_drop, show j + (i - j) = i by omega, ← List.getD_eq_getElem?_getD]
theorem zL_set {l : List Line} {tg p sz : List Nat} {j : Nat} (hsl : sz.length = l.length) (hj : j < l.length) (hk : jmpF (l.getD j default).kind = true) (hn : ¬ newS l tg p sz j = 2) : ((zL l (mixN l tg p sz j)).map zi).set (j * 1) (.v (.int .i64 4)) = (zL l (mixN l tg p sz (j + 1))).map zi := by
  rw [Nat.mul_one]
  apply List.ext_getElem?
  intro i
  rw [List.getElem?_set]
  simp only [zL, List.getElem?_map, List.getElem?_range, List.length_map, List.length_range]
  by_cases hi : i < l.length
  · by_cases e : j = i
    · subst e
      rw [if_pos rfl, if_pos hi, List.getElem?_eq_getElem (by simpa using hi)]
      simp only [List.getElem_range, Option.map_some]
      have hz : zS l (mixN l tg p sz (j + 1)) j = 4 := by
        rw [zS, if_pos ⟨hk, by rw [mix_getD _ _ _ _ (by omega), if_pos (by omega)]; exact hn⟩]
      rw [hz]
      rfl
    · rw [if_neg e, List.getElem?_eq_getElem (by simpa using hi)]
      simp only [List.getElem_range, Option.map_some]
      have hz : zS l (mixN l tg p sz j) i = zS l (mixN l tg p sz (j + 1)) i := by
        unfold zS
        rw [mix_getD _ _ _ _ (by omega), mix_getD _ _ _ _ (by omega)]
        by_cases h3 : i < j
        · rw [if_pos h3, if_pos (show i < j + 1 by omega)]
        · rw [if_neg h3, if_neg (show ¬ i < j + 1 by omega)]
      rw [hz]
  · rw [if_neg (by omega), List.getElem?_eq_none (by simpa using hi)]
    rfl
set_option linter.unusedSimpArgs false
set_option linter.unusedVariables false
set_option linter.unnecessarySimpa false
def labR (l : List Line) (i : Nat) : Bool := (decide ((l.getD i default).kind = 2) && !decide (whereF l (l.getD i default).l = (i : Int))) || (goesF (l.getD i default).kind && decide (whereF l (l.getD i default).l < 0))
theorem where_cases (l : List Line) (k : Int) : (whereF l k = -1 ∧ l.countP (isLab k) = 0) ∨ ∃ v : Nat, whereF l k = v ∧ v < l.length ∧ isLab k (l.getD v default) = true ∧ ∀ i, i < v → isLab k (l.getD i default) = false := by
  cases h : l.findIdx? (isLab k) with
  | none =>
    refine .inl ⟨by rw [whereF, h], ?_⟩
    rw [List.findIdx?_eq_none_iff] at h
    rw [List.countP_eq_zero]
    intro x hx
    rw [h x hx]; decide
  | some v =>
    rw [List.findIdx?_eq_some_iff_getElem] at h
    obtain ⟨h1, h2, h3⟩ := h
    have hp : ∀ i, i < v → isLab k (l.getD i default) = false := fun i hi => by
      have := h3 i hi
      rw [getD_eq' (by omega)]
      simpa using this
    have ht : isLab k (l.getD v default) = true := by rw [getD_eq' h1]; exact h2
    exact .inr ⟨v, where_at h1 hp ht, h1, ht, hp⟩
theorem two_lab {k : Int} : ∀ {l : List Line}, 1 < l.countP (isLab k) → ∃ i j, i < j ∧ j < l.length ∧ isLab k (l.getD i default) = true ∧ isLab k (l.getD j default) = true
  | [], h => absurd h (by simp)
  | x :: r, h => by
    rw [List.countP_cons] at h
    by_cases hx : isLab k x = true
    · rw [if_pos hx] at h
      obtain ⟨y, hy, hq⟩ := List.countP_pos_iff.1 (show 0 < r.countP (isLab k) by omega)
      obtain ⟨j, hj, rfl⟩ := List.mem_iff_getElem.1 hy
      refine ⟨0, j + 1, by omega, by simpa using hj, hx, ?_⟩
      show isLab k (r.getD j default) = true
      rw [getD_eq' hj]; exact hq
    · rw [if_neg hx] at h
      obtain ⟨i, j, h1, h2, h3, h4⟩ := two_lab (k := k) (l := r) (by omega)
      exact ⟨i + 1, j + 1, by omega, by simpa using h2, h3, h4⟩
theorem lab_of {k : Int} {x : Line} (h : isLab k x = true) : x.kind = 2 ∧ x.l = k := by
  unfold isLab at h
  rwa [Bool.and_eq_true, decide_eq_true_eq, decide_eq_true_eq] at h
theorem lab_mk {x : Line} (h : x.kind = 2) : isLab x.l x = true := by
  unfold isLab
  rw [decide_eq_true h, decide_eq_true rfl]
  rfl
theorem labR_bad {l : List Line} {i : Nat} (hi : i < l.length) (h : labR l i = true) : labBad (cntM l) (l.getD i default) = true := by
  unfold labR at h
  rw [Bool.or_eq_true, Bool.and_eq_true, Bool.and_eq_true] at h
  unfold labBad
  rw [cntM_count]
  rcases h with ⟨h1, h2⟩ | ⟨h1, h2⟩
  · have hk := of_decide_eq_true h1
    have h2 : ¬ whereF l (l.getD i default).l = (i : Int) := by simpa using h2
    have : 1 < l.countP (isLab (l.getD i default).l) := by
      rcases where_cases l (l.getD i default).l with ⟨_, h0⟩ | ⟨v, hv, hvl, hvt, _⟩
      · have := List.countP_eq_zero.1 h0 _ (getD_mem' hi)
        exact absurd (lab_mk hk) this
      · have hne : v ≠ i := fun q => h2 (by rw [hv, q])
        by_cases hle : l.countP (isLab (l.getD i default).l) ≤ 1
        · exact absurd (one_lab hle hvl hi hvt (lab_mk hk)) hne
        · omega
    rw [decide_eq_true hk, decide_eq_true (show (1 : Int) < (l.countP (isLab (l.getD i default).l) : Nat) by omega)]
    rfl
  · have h2 := of_decide_eq_true h2
    rcases where_cases l (l.getD i default).l with ⟨_, h0⟩ | ⟨v, hv, _⟩
    · rw [h0, h1]; simp
    · omega
theorem bad_labR {l : List Line} (h : ∀ i, i < l.length → labR l i = false) (i : Nat) (hi : i < l.length) : labBad (cntM l) (l.getD i default) = false := by
  cases hb : labBad (cntM l) (l.getD i default) with
  | false => rfl
  | true =>
    exfalso
    unfold labBad at hb
    rw [cntM_count, Bool.or_eq_true, Bool.and_eq_true, Bool.and_eq_true] at hb
    rcases hb with ⟨h1, h2⟩ | ⟨h1, h2⟩
    · have h2 := of_decide_eq_true h2
      obtain ⟨a, b, hab, hbl, ha, hb2⟩ := two_lab (k := (l.getD i default).l) (l := l) (by omega)
      obtain ⟨b1, b2⟩ := lab_of hb2
      have hlb := h b hbl
      unfold labR at hlb
      rw [b2, decide_eq_true b1] at hlb
      rcases where_cases l (l.getD i default).l with ⟨_, h0⟩ | ⟨v, hv, hvl, hvt, hvp⟩
      · omega
      · have : ¬ a < v := fun q => by rw [hvp a q] at ha; cases ha
        have hne : ¬ whereF l (l.getD i default).l = (b : Int) := by rw [hv]; omega
        rw [decide_eq_false hne] at hlb
        simp at hlb
    · have h2 := of_decide_eq_true h2
      have := h i hi
      unfold labR at this
      rw [h1] at this
      rcases where_cases l (l.getD i default).l with ⟨h0, _⟩ | ⟨v, _, hvl, hvt, _⟩
      · rw [h0] at this
        simp at this
      · have : 0 < l.countP (isLab (l.getD i default).l) := List.countP_pos_iff.2 ⟨_, getD_mem' hvl, hvt⟩
        omega

/-! ### rows -/
def toR (l : List Line) : List Int := l.map fun x => whereF l x.l
theorem toR_get {l : List Line} {i : Nat} (h : i < l.length) : (toR l).getD i 0 = whereF l (l.getD i default).l := by simp [toR, h]
def fillW (l : List Line) (j : Nat) : List Int := (toR l).take j ++ List.replicate (l.length - j) 0
theorem fillW_zero (l : List Line) : fillW l 0 = List.replicate l.length 0 := by simp [fillW]
theorem fillW_all (l : List Line) : fillW l l.length = toR l := by
  rw [fillW, Nat.sub_self, List.replicate_zero, List.append_nil, List.take_of_length_le (by simp [toR])]
theorem fillW_len {l : List Line} {j : Nat} (h : j ≤ l.length) : (fillW l j).length = l.length := by simp [fillW, toR]; omega
theorem fillW_set {l : List Line} {j : Nat} (h : j < l.length) {v : Int} (hv : whereF l (l.getD j default).l = v) : (ints (fillW l j)).set (j * 1) (.v (.int .i64 v)) = ints (fillW l (j + 1)) := by
  subst hv
  have hl : j < (toR l).length := by simp [toR, h]
  have hs : (fillW l j).set j (whereF l (l.getD j default).l) = fillW l (j + 1) := by
    unfold fillW
    have e : ((toR l).take j).length = j := by rw [List.length_take]; omega
    rw [List.set_append_right _ _ (by omega), e, Nat.sub_self, show l.length - j = (l.length - (j + 1)) + 1 by omega, List.replicate_succ, List.set_cons_zero, List.take_succ_eq_append_getElem hl, List.append_assoc]
    congr 2
    rw [← toR_get h, List.getD_eq_getElem?_getD, List.getElem?_eq_getElem hl]
    rfl
  rw [← hs, ints, ints, List.map_set, Nat.mul_one]
def one (x : Line) : Nat := 1
theorem fill_one (l : List Line) : fillN one l l.length = zL l (l.map size0) := by
  rw [fill_all, zL_first]
  unfold one
  rw [List.map_const']
theorem fill_setI' {f : Line → Nat} {l : List Line} {j v : Nat} (h : j < l.length) (hv : f (l.getD j default) = v) : ((fillN f l j).map zi).set (j * 1) (.v (.int .i64 (v : Int))) = (fillN f l (j + 1)).map zi := fill_setI h hv
theorem plN_setI {sz : List Nat} {j : Nat} {v : Int} (h : j < sz.length) (hv : v = (pre sz j : Int) + (sz.getD j 0 : Nat)) : ((plN sz j).map zi).set ((j + 1) * 1) (.v (.int .i64 v)) = (plN sz (j + 1)).map zi := by
  rw [← plN_set h (pre_succ sz h), List.map_set, Nat.mul_one, hv]
  rfl
theorem jmp_where {l : List Line} (hc : checkF l = 0) {i : Nat} (hi : i < l.length) (hg : goesF (l.getD i default).kind = true) : whereF l (l.getD i default).l = ((tgF l).getD i 0 : Nat) := (goes_where hc hi hg).2.2
theorem GI_le {l : List Line} {tg sz : List Nat} (h : GI l tg sz) : ∀ s ∈ sz, s ≤ 11 := by
  intro s hs
  obtain ⟨i, hi, rfl⟩ := List.mem_iff_getElem.1 hs
  have hil : i < l.length := by rw [← h.len]; exact hi
  have e : sz.getD i 0 = sz[i] := by simp [hi]
  by_cases hj : isJmp (l.getD i default)
  · rcases h.jump i hil hj with q | ⟨q, _⟩
    · rw [← e, q]; decide
    · rw [← e, q]; split <;> decide
  · rw [← e, h.stay i hil hj]; exact size0_le _
theorem goes_of {k : Int} (h : k = 3 ∨ k = 4) : goesF k = true := by rcases h with h | h <;> rw [h] <;> rfl
theorem lay_exit {l : List Line} {sz : List Nat} {f : Nat} (hf : sz.count 2 < f) (e : growN l (tgF l) f sz = sizesF l) (h : roundF l (tgF l) (plF sz) sz = sz) : sizesF l = sz := grow_exit hf e h
set_option linter.unusedSimpArgs false
set_option linter.unusedVariables false
set_option linter.unnecessarySimpa false
section
variable {cx : Cx} {env : Env} {S : St} {o : Oper} {g : Bool} {x y z : Operand} {ops : Array Oper} {l : List Oper} {K : Env → St → Prop} {Q : Exit → Env → St → Prop} {d : Nat}
/-- copy into a row from its head, elements of any size. -/
theorem AWL.copyRowK {t tx e : TypeId} {b n c m i k : Nat} {zs : List Value} {A : Option Addr} {cs news : List T} (hg : o.guard = none) (hd : o.dst = some d) (hN : d < cx.N)
    (ho : o.op = .call { callee := .builtin .copy, args := #[x, y], argTypes := #[t, tx] }) (he : elemOf cx.P t = some (e, k, b, zs)) (hk : 0 < k) (hi : S[i]? = some (.row A n c e k cs)) (hx : Ev env true x (.v (.slice A n c))) (hy : SrcT cx env S y tx k m news)
    (hmn : m ≤ n) (h0 : 0 < n)
    (hr : AWL cx ops l K ((d, true, .v (.int .i64 (m : Int))) :: env) (S.set i (.row A n c e k (news ++ cs.drop (m * k))))) : AWL cx ops (o :: l) K env S := by
  refine AWL.eff hg hd hN fun a w hs => ?_
  obtain ⟨us, hrow, hV⟩ := hs.row hi
  obtain ⟨ns, hVn, hsrc⟩ := hy a w hs
  obtain ⟨h1, i', z', h2, _, h3, _⟩ := elemOf_spec he
  have hul : us.length = n * k := hrow.1
  have hnl : ns.length = m * k := hsrc.newsLen
  have hcl : news.length = m * k := by rw [hVn.len, hnl]
  have hmk := Nat.mul_le_mul_right k hmn
  obtain ⟨gb, rfl⟩ := hrow.some (by rw [hul]; exact Nat.mul_pos h0 hk)
  obtain ⟨hst, hrow'⟩ := hrow.write (P := cx.P) hVn.one (p := 0) (by omega)
  have hsim := hs.wrote hi hV hVn hrow'
  refine ⟨.int .i64 (m : Int), w.setCells gb 0 ns, _, _, ?_, hsim, .v _, ?_⟩
  · have hcells := hsrc.cells
    have hlen := hsrc.len w
    have hmin' : m.min n = m := Nat.min_eq_left hmn
    have hsz : (sizeOf e).run cx.P w = .ok k w := by simp [sizeOf, typeInfo, h2, h3, Sem.run_bind, Sem.run_pure]
    simp [execOp, ho, resolve, invoke, builtin, Sem.run_bind, Sem.run_pure, hx.val hs rfl, Builtin.copy_, run_underlying h1, hlen, hsz, hmin', hcells, hst, goInt]
  · rw [hcl, List.take_zero, List.nil_append, Nat.zero_add]
    exact hr
end
theorem rep_drop (n : Nat) (z : List T) (k : Nat) (hz : z.length = k) : ∀ m, m ≤ n → ((List.replicate n z).flatten).drop (m * k) = (List.replicate (n - m) z).flatten := by
  induction n with
  | zero => intro m h; obtain rfl : m = 0 := by omega
            simp
  | succ n ih =>
    intro m h
    cases m with
    | zero => simp
    | succ m =>
      rw [List.replicate_succ, List.flatten_cons, Nat.add_mul, Nat.one_mul, Nat.add_comm, List.drop_append, List.drop_of_length_le (by omega), hz, List.nil_append, Nat.add_sub_cancel_left, ih m (by omega), Nat.add_sub_add_right]
def markC : List T := [.v (.int .i64 77), .v (.int .i64 0), .v (.int .i64 0), .v (.int .i64 0), .v (.int .i64 0), .v (.int .i64 0), .v (.int .i64 0), .v (.int .i64 0), .v (.int .i64 0), .v (.int .i64 0)]
def zeroV : List Value := [.int .i64 0, .int .i64 0, .int .i64 0, .int .i64 0, .int .i64 0, .int .i64 0, .int .i64 0, .int .i64 0, .int .i64 0, .int .i64 0]
def linesM (l : List Line) : T := .sp 10 l.length (l.flatMap lineCells ++ markC)
theorem linesM_le (l : List Line) : Le (linesM l) (linesT l) := fun w L u h => by
  have := sp_sl (by decide) w L u h
  rw [List.take_left' len_lines] at this
  exact this
theorem mark_len (l : List Line) : (l.flatMap lineCells ++ markC).length = (l.length + 1) * 10 := by
  rw [List.length_append, len_lines]; show _ + 10 = _; omega
theorem mark_cells (l : List Line) : (l.flatMap lineCells ++ ((List.replicate (l.length + 1) (List.map T.v zeroV)).flatten).drop (l.length * 10)).set (l.length * 10) (.v (.int .i64 77)) = l.flatMap lineCells ++ markC := by
  rw [rep_drop _ _ 10 rfl _ (by omega), Nat.add_sub_cancel_left, List.set_append_right _ _ (by rw [len_lines]; omega), len_lines, Nat.sub_self]
  rfl
theorem mark_at (l : List Line) : ((l.flatMap lineCells ++ markC).take ((l.length + 1) * 10))[l.length * 10]? = some (.v (.int .i64 77)) := by
  rw [List.getElem?_take, if_pos (by omega), List.getElem?_append_right (by rw [len_lines]; omega), len_lines, Nat.sub_self]
  rfl
theorem line_eq (x y : Line) : eqCells2 (lineVals x) (lineVals y) [(0, .c .i), (1, .st 6 [(0, .i), (1, .i), (2, .i), (3, .i), (4, .i), (5, .i)]), (7, .c .i), (8, .c .i), (9, .c .i)] = some (decide (x = y)) := by
  obtain ⟨k, i, l, c, d⟩ := x
  obtain ⟨k', i', l', c', d'⟩ := y
  have h := ins_eq i i'
  have e : eqCells2 (lineVals ⟨k, i, l, c, d⟩) (lineVals ⟨k', i', l', c', d'⟩) [(0, .c .i), (1, .st 6 [(0, .i), (1, .i), (2, .i), (3, .i), (4, .i), (5, .i)]), (7, .c .i), (8, .c .i), (9, .c .i)] = (match eqCells (insVals i) (insVals i') [(0, .i), (1, .i), (2, .i), (3, .i), (4, .i), (5, .i)], some (decide (l = l') && (decide (c = c') && (decide (d = d') && true))) with
    | some b, some c => some (decide (k = k') && (b && c))
    | _, _ => none) := rfl
  rw [e, h]
  simp [Line.mk.injEq, Bool.decide_and]
theorem rowEq {A : Option Addr} {c e k n n' : Nat} {cs cs' : List T} (h : n = n') (h2 : cs = cs') : Ent.row A n c e k cs = Ent.row A n' c e k cs' := by rw [h, h2]
theorem line_ins {l : List Line} (hc : checkF l = 0) {i : Nat} (hi : i < l.length) {at_ way to : Int} (hw : goesF (l.getD i default).kind = true → way = wayF (tgF l) (plF (sizesF l)) i ∧ to = at_ + ((plF (sizesF l)).getD ((tgF l).getD i 0) 0 : Nat)) : lineO (l.getD i default) (((zL l (sizesF l)).getD i 0 : Nat) : Int) way to = insAt l (tgF l) (sizesF l) at_ i := by
  rw [zL_get hi]
  unfold insAt
  rw [insF_eq]
  unfold lineO
  by_cases h1 : (l.getD i default).kind = 1
  · rw [if_pos h1, if_pos h1]
  rw [if_neg h1, if_neg h1]
  by_cases h3 : (l.getD i default).kind = 3
  · obtain ⟨hw1, _⟩ := hw (by rw [h3]; rfl)
    rw [if_pos h3, if_pos h3, hw1, zS]
    by_cases h2 : (sizesF l).getD i 0 = 2
    · rw [if_neg (fun q => q.2 h2), if_pos h2]; rfl
    · rw [if_pos ⟨by rw [h3]; rfl, h2⟩, if_neg h2]; rfl
  rw [if_neg h3, if_neg h3]
  by_cases h4 : (l.getD i default).kind = 4
  · obtain ⟨hw1, _⟩ := hw (by rw [h4]; rfl)
    rw [if_pos h4, if_pos h4, hw1, zS]
    by_cases h2 : (sizesF l).getD i 0 = 2
    · rw [if_neg (fun q => q.2 h2), if_pos h2]; rfl
    · rw [if_pos ⟨by rw [h4]; rfl, h2⟩, if_neg h2]; rfl
  rw [if_neg h4, if_neg h4]
  by_cases h5 : (l.getD i default).kind = 5
  · obtain ⟨hw1, _⟩ := hw (by rw [h5]; rfl)
    rw [if_pos h5, if_pos h5, hw1]
  rw [if_neg h5, if_neg h5]
  by_cases h6 : (l.getD i default).kind = 6
  · obtain ⟨_, hw2⟩ := hw (by rw [h6]; rfl)
    rw [if_pos h6, if_pos h6, hw2]
  · rw [if_neg h6, if_neg h6]
def mixP (p : List Nat) (at_ : Int) (j : Nat) : List Int := (p.take j).map (fun p : Nat => (p : Int) + at_)
theorem mixP_len {p : List Nat} {at_ : Int} {j : Nat} (h : j ≤ p.length) : (mixP p at_ j).length = j := by simp [mixP]; omega
theorem mixP_next {p : List Nat} {at_ : Int} {j : Nat} (h : j < p.length) : (mixP p at_ (j + 1)).map zq = (mixP p at_ j).map zq ++ [T.v (.int .u64 (at_ + (p.getD j 0 : Nat)))] := by
  unfold mixP
  rw [List.take_succ_eq_append_getElem h, List.map_append, List.map_append, Int.add_comm at_]
  simp [zq, h]
theorem mixP_all (p : List Nat) (at_ : Int) : mixP p at_ p.length = p.map (fun p : Nat => (p : Int) + at_) := by simp [mixP]
end Go.Proofs.Ytabkedlmpaoloaa
