/-
  WHICH instructions lines become, and how long they are.
-/
import Derived.Test.YtjndpakhmgapjaaDoorReach
namespace Go.Proofs.YtjndpakhmgapjaaDoor
open Go Go.RowKit
set_option linter.unusedSimpArgs false
set_option linter.unusedVariables false
set_option linter.unnecessarySimpa false

theorem valid_mk {i : Ins} (hb : bad0 i = false) (h : (noneF (fieldsF i.kind).1 1 i.d && noneF (fieldsF i.kind).1 2 i.s && noneF (fieldsF i.kind).1 4 i.imm && noneF (fieldsF i.kind).1 8 i.cond && noneF (fieldsF i.kind).1 16 i.size && sizedF i) = true) : validF i = true := by
  rw [validF, if_neg (by rw [hb]; decide)]; exact h
theorem none_any (f h n : Int) (hf : ¬ bitsOf .and .i64 f h = 0) : noneF f h n = true := by rw [noneF, decide_eq_false hf]; rfl
theorem none_zero (f h : Int) : noneF f h 0 = true := by rw [noneF, decide_eq_true rfl, Bool.or_true]
theorem inF_of {n a b : Int} (h1 : a ≤ n) (h2 : n ≤ b) : inF n a b = true := by rw [inF, decide_eq_true h1, decide_eq_true h2]; rfl
theorem imm_len (n : Int) (k : Nat) : (immF n k).length = k := by simp [immF, leBytes_length]
theorem is35s {w : Int} (h1 : -128 ≤ w) (h2 : w ≤ 127) : validF ⟨35, 0, 0, 0, 1, w⟩ = true ∧ (encF ⟨35, 0, 0, 0, 1, w⟩).length = 2 := by
  refine ⟨valid_mk rfl ?_, ?_⟩
  · have e : sizedF ⟨35, 0, 0, 0, 1, w⟩ = true := by
      rw [sizedF, if_neg (by dsimp only; decide), if_pos (by dsimp only; decide), show inF w (-128) 127 = true from inF_of h1 h2]
      simp
    rw [e, none_zero, none_zero, none_zero, none_any _ 4 _ (by dsimp only; decide), none_any _ 16 _ (by dsimp only; decide)]
    rfl
  · show (235 :: immF w 1).length = 2
    rw [List.length_cons, imm_len]
theorem is35l {w : Int} (h1 : -2147483648 ≤ w) (h2 : w ≤ 2147483647) : validF ⟨35, 0, 0, 0, 4, w⟩ = true ∧ (encF ⟨35, 0, 0, 0, 4, w⟩).length = 5 := by
  refine ⟨valid_mk rfl ?_, ?_⟩
  · have e : sizedF ⟨35, 0, 0, 0, 4, w⟩ = true := by
      rw [sizedF, if_neg (by dsimp only; decide), if_pos (by dsimp only; decide), show smallF w = true from inF_of h1 h2]
      simp
    rw [e, none_zero, none_zero, none_zero, none_any _ 4 _ (by dsimp only; decide), none_any _ 16 _ (by dsimp only; decide)]
    rfl
  · show (233 :: immF w 4).length = 5
    rw [List.length_cons, imm_len]
theorem is36s {c w : Int} (hc0 : 0 ≤ c) (hc1 : c ≤ 15) (h1 : -128 ≤ w) (h2 : w ≤ 127) : validF ⟨36, 0, 0, c, 1, w⟩ = true ∧ (encF ⟨36, 0, 0, c, 1, w⟩).length = 2 := by
  refine ⟨valid_mk ?_ ?_, ?_⟩
  · show (!true || !true || !true || !inF c 0 15) = false
    rw [inF_of hc0 hc1]; rfl
  · have e : sizedF ⟨36, 0, 0, c, 1, w⟩ = true := by
      rw [sizedF, if_neg (by dsimp only; decide), if_pos (by dsimp only; decide), show inF w (-128) 127 = true from inF_of h1 h2]
      simp
    rw [e, none_zero, none_zero, none_any _ 4 _ (by dsimp only; decide), none_any _ 8 _ (by dsimp only; decide), none_any _ 16 _ (by dsimp only; decide)]
    rfl
  · show (byteOf (112 + c) :: immF w 1).length = 2
    rw [List.length_cons, imm_len]
theorem is36l {c w : Int} (hc0 : 0 ≤ c) (hc1 : c ≤ 15) (h1 : -2147483648 ≤ w) (h2 : w ≤ 2147483647) : validF ⟨36, 0, 0, c, 4, w⟩ = true ∧ (encF ⟨36, 0, 0, c, 4, w⟩).length = 6 := by
  refine ⟨valid_mk ?_ ?_, ?_⟩
  · show (!true || !true || !true || !inF c 0 15) = false
    rw [inF_of hc0 hc1]; rfl
  · have e : sizedF ⟨36, 0, 0, c, 4, w⟩ = true := by
      rw [sizedF, if_neg (by dsimp only; decide), if_pos (by dsimp only; decide), show smallF w = true from inF_of h1 h2]
      simp
    rw [e, none_zero, none_zero, none_any _ 4 _ (by dsimp only; decide), none_any _ 8 _ (by dsimp only; decide), none_any _ 16 _ (by dsimp only; decide)]
    rfl
  · show (15 :: byteOf (128 + c) :: immF w 4).length = 6
    rw [List.length_cons, List.length_cons, imm_len]
theorem is37 {w : Int} (h1 : -2147483648 ≤ w) (h2 : w ≤ 2147483647) : validF ⟨37, 0, 0, 0, 0, w⟩ = true ∧ (encF ⟨37, 0, 0, 0, 0, w⟩).length = 5 := by
  refine ⟨valid_mk rfl ?_, ?_⟩
  · have e : sizedF ⟨37, 0, 0, 0, 0, w⟩ = true := by
      rw [sizedF, if_neg (by dsimp only; decide), if_neg (by dsimp only; decide), if_neg (by dsimp only; decide), show smallF w = true from inF_of h1 h2, Bool.or_true]
    rw [e, none_zero, none_zero, none_zero, none_zero, none_any _ 4 _ (by dsimp only; decide)]
    rfl
  · show (232 :: immF w 4).length = 5
    rw [List.length_cons, imm_len]
theorem is2 {d w : Int} (hd0 : 0 ≤ d) (hd1 : d ≤ 15) (h1 : -2147483648 ≤ w) (h2 : w ≤ 2147483647) : validF ⟨2, d, 0, 0, 0, w⟩ = true ∧ (encF ⟨2, d, 0, 0, 0, w⟩).length = 7 := by
  refine ⟨valid_mk ?_ ?_, ?_⟩
  · show (!true || !inF d 0 15 || !true || !true) = false
    rw [inF_of hd0 hd1]; rfl
  · have e : sizedF ⟨2, d, 0, 0, 0, w⟩ = true := by
      rw [sizedF, if_neg (by dsimp only; decide), if_neg (by dsimp only; decide), if_neg (by dsimp only; decide)]
      rfl
    rw [e, none_zero, none_zero, none_zero, none_any _ 1 _ (by dsimp only; decide), none_any _ 4 _ (by dsimp only; decide)]
    rfl
  · show (if smallF w = true then byteOf (rexN true 0 d) :: 199 :: byteOf (twoN 0 d) :: immF w 4 else byteOf (rexN true 0 d) :: byteOf (184 + d % 8) :: immF w 8).length = 7
    rw [if_pos (show smallF w = true from inF_of h1 h2), List.length_cons, List.length_cons, List.length_cons, imm_len]

theorem ins_at5 {l : List Ins} {j : Nat} (h : j < l.length) : (l.flatMap insCells)[j * 6 + 5]? = some (.v (.int .i64 (l.getD j default).imm)) := flat_at ik h 5 (by decide)
theorem ins_at4 {l : List Ins} {j : Nat} (h : j < l.length) : (l.flatMap insCells)[j * 6 + 4]? = some (.v (.int .i64 (l.getD j default).size)) := flat_at ik h 4 (by decide)
theorem laid_kinds {l : List Line} {at_ : Int} (h : ¬ laidE l at_ = 0) : laidE l at_ = checkF l ∨ laidE l at_ = 221 ∧ checkF l = 0 := by
  unfold laidE at h ⊢
  by_cases hc : checkF l = 0
  · rw [if_neg (fun q => q hc)] at h ⊢
    split at h
    · rename_i hf
      rw [if_pos hf]
      exact .inr ⟨rfl, hc⟩
    · exact absurd rfl h
  · rw [if_pos hc]
    exact .inl rfl
/-- What each instruction of lines is. -/
structure At (l : List Line) (at_ : Int) (j : Nat) (x : Ins) : Prop where
  valid : validF x = true
  len : ((encF x).length : Int) = (pre (sizesF l) (j + 1) : Int) - pre (sizesF l) j
  goes : ¬ (l.getD j default).kind = 1 → (tgF l).getD j 0 < l.length ∧ whereF l (l.getD j default).l = ((tgF l).getD j 0 : Nat)
  imm6 : (l.getD j default).kind = 6 → x.imm = (pre (sizesF l) ((tgF l).getD j 0) : Int) + at_
  immW : ¬ (l.getD j default).kind = 1 → ¬ (l.getD j default).kind = 6 → x.imm = (pre (sizesF l) ((tgF l).getD j 0) : Int) - pre (sizesF l) (j + 1)
  size : isJmp (l.getD j default) → x.size = 4 → outF (if x.imm < 0 then x.imm + (encF x).length - 2 else x.imm) = true
theorem line_args {l : List Line} (hc : checkF l = 0) {j : Nat} (hj : j < l.length) : ((l.getD j default).kind = 4 → 0 ≤ (l.getD j default).cond ∧ (l.getD j default).cond ≤ 15) ∧ ((l.getD j default).kind = 6 → 0 ≤ (l.getD j default).d ∧ (l.getD j default).d ≤ 15) := by
  have h1 := (checkF_zero hc).1 _ (getD_mem' hj)
  unfold lineErr at h1
  split at h1
  · exact absurd h1 (by decide)
  · rename_i hb
    unfold badArg at hb
    simp only [Bool.or_eq_true, Bool.and_eq_true, decide_eq_true_eq] at hb
    omega
theorem size_other {l : List Line} {j : Nat} (hj : j < l.length) (hn : ¬ isJmp (l.getD j default)) : (sizesF l).getD j 0 = size0 (l.getD j default) := (sizesF_GI l).stay j hj hn
theorem label_size {l : List Line} {j : Nat} (hj : j < l.length) (h2 : (l.getD j default).kind = 2) : pre (sizesF l) (j + 1) = pre (sizesF l) j := by
  have h := size_other hj (fun q => by rcases q with q | q <;> omega)
  rw [size0, if_neg (by omega), if_neg (by omega), if_neg (by omega), if_neg (by omega)] at h
  rw [pre_succ', h]; rfl
theorem ins_kept {l : List Line} {at_ : Int} (ha : 0 ≤ at_) (hle : laidE l at_ = 0) {j : Nat} (hj : j < l.length) {i : Ins} (h : insAt l (tgF l) (sizesF l) at_ j = some i) : At l at_ j i := by
  obtain ⟨hc, hat, htot⟩ := laidE_at hle
  have hk := kind_ok hc hj
  obtain ⟨hx4, hx6⟩ := line_args hc hj
  have hsl := sizesF_len l
  have hgi := sizesF_GI l
  have hps := pre_succ' (sizesF l) j
  have hP : ∀ k, k ≤ l.length → pre (sizesF l) k ≤ pre (sizesF l) l.length := fun k hk => pre_mono _ hk
  have hp1 := hP (j + 1) (by omega)
  have htle := tgF_le l j
  have hpt := hP _ htle
  have hwe : wayF (tgF l) (plF (sizesF l)) j = (pre (sizesF l) ((tgF l).getD j 0) : Int) - pre (sizesF l) (j + 1) := by
    unfold wayF
    rw [plF_get _ (by rw [hsl]; exact htle), plF_get _ (by omega)]
  unfold insAt at h
  rw [hwe, plF_get _ (by rw [hsl]; exact htle)] at h
  unfold insF at h
  by_cases h1 : (l.getD j default).kind = 1
  · rw [if_pos h1] at h
    cases h
    have hz := size_other hj (fun q => by rcases q with q | q <;> omega)
    have hv := valid_of hc hj h1
    rw [size0, if_pos h1, if_pos hv] at hz
    exact ⟨hv, by rw [hps, hz]; omega, fun q => absurd h1 q, fun q => by omega, fun q => absurd h1 q, fun q => by rcases q with q | q <;> omega⟩
  rw [if_neg h1] at h
  have hg : goesF (l.getD j default).kind = true ∨ (l.getD j default).kind = 2 := by
    unfold goesF
    simp only [Bool.or_eq_true, decide_eq_true_eq]
    omega
  have hgw : ¬ (l.getD j default).kind = 2 → (tgF l).getD j 0 < l.length ∧ whereF l (l.getD j default).l = ((tgF l).getD j 0 : Nat) := fun q => by
    obtain ⟨a, _, b⟩ := goes_where hc hj (hg.resolve_right q)
    exact ⟨a, b⟩
  have hshort : ∀ s : Int, isJmp (l.getD j default) → ¬ (sizesF l).getD j 0 = 2 → ((sizesF l).getD j 0 : Int) = s → outF (if (pre (sizesF l) ((tgF l).getD j 0) : Int) - pre (sizesF l) (j + 1) < 0 then (pre (sizesF l) ((tgF l).getD j 0) : Int) - pre (sizesF l) (j + 1) + s - 2 else (pre (sizesF l) ((tgF l).getD j 0) : Int) - pre (sizesF l) (j + 1)) = true := fun s hjm h2 hs => by
    rcases hgi.jump j hj hjm with q | ⟨q, ho⟩
    · exact absurd q h2
    · have h0 : 0 < (sizesF l).getD j 0 := by rw [q]; split <;> decide
      have e : (if (pre (sizesF l) ((tgF l).getD j 0) : Int) - pre (sizesF l) (j + 1) < 0 then (pre (sizesF l) ((tgF l).getD j 0) : Int) - pre (sizesF l) (j + 1) + s - 2 else (pre (sizesF l) ((tgF l).getD j 0) : Int) - pre (sizesF l) (j + 1)) = shortW (tgF l) (sizesF l) j := by
        unfold shortW
        by_cases hd : j < (tgF l).getD j 0
        · have := pre_mono (sizesF l) (show j + 1 ≤ (tgF l).getD j 0 by omega)
          rw [if_pos hd, if_neg (by omega)]
        · have := pre_mono (sizesF l) (show (tgF l).getD j 0 ≤ j by omega)
          rw [if_neg hd, if_pos (by omega)]
          omega
      rw [e]; exact ho
  by_cases h3 : (l.getD j default).kind = 3
  · rw [if_pos h3] at h
    have hjm : isJmp (l.getD j default) := .inl h3
    by_cases h2 : (sizesF l).getD j 0 = 2
    · rw [if_pos h2] at h
      cases h
      have hn := sizesF_near hj hjm h2
      rw [hwe] at hn
      simp only [outF, Bool.or_eq_false_iff, decide_eq_false_iff_not] at hn
      obtain ⟨hv, hl⟩ := is35s (w := (pre (sizesF l) ((tgF l).getD j 0) : Int) - pre (sizesF l) (j + 1)) (by omega) (by omega)
      exact ⟨hv, by rw [hl, hps, h2]; omega, fun _ => hgw (by omega), fun q => by omega, fun _ _ => rfl, fun _ q => absurd (show (1 : Int) = 4 from q) (by decide)⟩
    · rw [if_neg h2] at h
      cases h
      have h5 : (sizesF l).getD j 0 = 5 := by
        rcases hgi.jump j hj hjm with q | ⟨q, _⟩
        · exact absurd q h2
        · rw [if_neg (by omega)] at q; exact q
      obtain ⟨hv, hl⟩ := is35l (w := (pre (sizesF l) ((tgF l).getD j 0) : Int) - pre (sizesF l) (j + 1)) (by omega) (by omega)
      exact ⟨hv, by rw [hl, hps, h5]; omega, fun _ => hgw (by omega), fun q => by omega, fun _ _ => rfl, fun _ _ => by rw [hl]; exact hshort 5 hjm h2 (by rw [h5]; rfl)⟩
  rw [if_neg h3] at h
  by_cases h4 : (l.getD j default).kind = 4
  · rw [if_pos h4] at h
    have hjm : isJmp (l.getD j default) := .inr h4
    obtain ⟨c0, c1⟩ := hx4 h4
    by_cases h2 : (sizesF l).getD j 0 = 2
    · rw [if_pos h2] at h
      cases h
      have hn := sizesF_near hj hjm h2
      rw [hwe] at hn
      simp only [outF, Bool.or_eq_false_iff, decide_eq_false_iff_not] at hn
      obtain ⟨hv, hl⟩ := is36s (w := (pre (sizesF l) ((tgF l).getD j 0) : Int) - pre (sizesF l) (j + 1)) c0 c1 (by omega) (by omega)
      exact ⟨hv, by rw [hl, hps, h2]; omega, fun _ => hgw (by omega), fun q => by omega, fun _ _ => rfl, fun _ q => absurd (show (1 : Int) = 4 from q) (by decide)⟩
    · rw [if_neg h2] at h
      cases h
      have h5 : (sizesF l).getD j 0 = 6 := by
        rcases hgi.jump j hj hjm with q | ⟨q, _⟩
        · exact absurd q h2
        · rw [if_pos h4] at q; exact q
      obtain ⟨hv, hl⟩ := is36l (w := (pre (sizesF l) ((tgF l).getD j 0) : Int) - pre (sizesF l) (j + 1)) c0 c1 (by omega) (by omega)
      exact ⟨hv, by rw [hl, hps, h5]; omega, fun _ => hgw (by omega), fun q => by omega, fun _ _ => rfl, fun _ _ => by rw [hl]; exact hshort 6 hjm h2 (by rw [h5]; rfl)⟩
  rw [if_neg h4] at h
  have hz := size_other hj (fun q => by rcases q with q | q <;> omega)
  rw [size0, if_neg h1, if_neg (by omega)] at hz
  by_cases h5 : (l.getD j default).kind = 5
  · rw [if_pos h5] at h
    cases h
    rw [if_pos h5] at hz
    obtain ⟨hv, hl⟩ := is37 (w := (pre (sizesF l) ((tgF l).getD j 0) : Int) - pre (sizesF l) (j + 1)) (by omega) (by omega)
    exact ⟨hv, by rw [hl, hps, hz]; omega, fun _ => hgw (by omega), fun q => by omega, fun _ _ => rfl, fun q => by rcases q with q | q <;> omega⟩
  rw [if_neg h5] at h
  by_cases h6 : (l.getD j default).kind = 6
  · rw [if_pos h6] at h
    cases h
    obtain ⟨d0, d1⟩ := hx6 h6
    rw [if_neg h5, if_pos h6] at hz
    obtain ⟨hv, hl⟩ := is2 (d := (l.getD j default).d) (w := at_ + pre (sizesF l) ((tgF l).getD j 0)) d0 d1 (by omega) (by omega)
    exact ⟨hv, by rw [hl, hps, hz]; omega, fun _ => hgw (by omega), fun _ => Int.add_comm _ _, fun _ q => absurd h6 q, fun q => by rcases q with q | q <;> omega⟩
  rw [if_neg h6] at h
  cases h
theorem ins_reach {l : List Line} {at_ : Int} (ha : 0 ≤ at_) (hle : laidE l at_ = 0) {j : Nat} (hj : j < l.length) (hk : ¬ (l.getD j default).kind = 2) : cntK l j < (insL l at_).length ∧ At l at_ j ((insL l at_).getD (cntK l j) default) := by
  obtain ⟨hc, _, _⟩ := laidE_at hle
  have h1 := kind_ok hc hj
  obtain ⟨i, hi⟩ := insAt_ex (tg := tgF l) (sz := sizesF l) (at_ := at_) h1.1 h1.2 hk
  obtain ⟨a1, a2⟩ := ins_at hc at_ hj hi
  rw [a2]
  exact ⟨a1, ins_kept ha hle hj hi⟩
end Go.Proofs.YtjndpakhmgapjaaDoor
