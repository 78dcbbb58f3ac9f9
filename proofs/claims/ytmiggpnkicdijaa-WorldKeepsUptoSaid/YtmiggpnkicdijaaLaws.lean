/-
  PLAIN LAWS behind the statements: lines; descriptors.
-/
import Derived.Test.YtmiggpnkicdijaaKnown
namespace Go.Proofs.Ytmiggpnkicdijaa
open Go Go.RowKit
theorem index_at : ∀ (l : List UInt8) (c : UInt8), 0 ≤ Lib.indexByte l c → l.getD (Lib.indexByte l c).toNat 0 = c
  | [], c, h => by simp [Lib.indexByte] at h
  | b :: r, c, h => by
    have ih := index_at r c
    unfold Lib.indexByte at h ⊢
    by_cases hb : (b == c) = true
    · rw [if_pos hb]; simpa using hb
    · rw [if_neg hb] at h ⊢
      by_cases hr : (Lib.indexByte r c == -1) = true
      · rw [if_pos hr] at h; exact absurd h (by decide)
      · rw [if_neg hr] at h ⊢
        have hr' : Lib.indexByte r c ≠ -1 := by simpa using hr
        have h0 := Lib.indexByte_ge r c
        have e : (Lib.indexByte r c + 1).toNat = (Lib.indexByte r c).toNat + 1 := by omega
        rw [e, List.getD_cons_succ]
        exact ih (by omega)
theorem index_before : ∀ (l : List UInt8) (c : UInt8) (j : Nat), j < l.length → (Lib.indexByte l c < 0 ∨ (j : Int) < Lib.indexByte l c) → l.getD j 0 ≠ c
  | [], c, j, h, _ => by simp at h
  | b :: r, c, j, h, hi => by
    have ih := index_before r c
    have h0 := Lib.indexByte_ge r c
    unfold Lib.indexByte at hi
    by_cases hb : (b == c) = true
    · rw [if_pos hb] at hi; omega
    · rw [if_neg hb] at hi
      cases j with
      | zero => simpa using hb
      | succ j =>
        rw [List.getD_cons_succ]
        refine ih j (by simpa using h) ?_
        by_cases hr : (Lib.indexByte r c == -1) = true
        · exact .inl (by have : Lib.indexByte r c = -1 := by simpa using hr
                         omega)
        · rw [if_neg hr] at hi
          have hr' : Lib.indexByte r c ≠ -1 := by simpa using hr
          omega
theorem line_nil {s : List UInt8} (h : s.take (lineN s) = []) : s = [] := by
  rcases List.take_eq_nil_iff.1 h with h | h
  · have h0 := Lib.indexByte_ge s 10
    unfold lineN at h
    split at h
    · exact List.eq_nil_of_length_eq_zero h
    · omega
  · exact h
theorem line_len (s : List UInt8) : (s.take (lineN s)).length = lineN s := by
  rw [List.length_take]; have := lineN_le s; omega
theorem line_before {s : List UInt8} {j : Nat} (h : j + 1 < lineN s) : (s.take (lineN s)).getD j 0 ≠ 10 := by
  have hl := lineN_le s
  have e : (s.take (lineN s)).getD j 0 = s.getD j 0 := by simp only [List.getD, List.getElem?_take]; rw [if_pos (by omega)]
  rw [e]
  refine index_before s 10 j (by omega) ?_
  unfold lineN at h
  split at h
  · exact .inl (by assumption)
  · exact .inr (by omega)
theorem line_last {s : List UInt8} (h0 : 0 < lineN s) : (s.take (lineN s)).getD (lineN s - 1) 0 = 10 ∨ lineN s = s.length := by
  have hl := lineN_le s
  by_cases hi : Lib.indexByte s 10 < 0
  · exact .inr (by unfold lineN; rw [if_pos hi])
  · refine .inl ?_
    have e : (s.take (lineN s)).getD (lineN s - 1) 0 = s.getD (lineN s - 1) 0 := by simp only [List.getD, List.getElem?_take]; rw [if_pos (by omega)]
    have hn : lineN s - 1 = (Lib.indexByte s 10).toNat := by unfold lineN; rw [if_neg hi]; omega
    rw [e, hn]
    exact index_at s 10 (by omega)
theorem u8_ten {b : UInt8} (h : b ≠ 10) : decide (((b.toNat : Nat) : Int) = 10) = false := by
  rw [decide_eq_false_iff_not]
  intro e
  exact h (UInt8.toNat_inj.1 (by show b.toNat = 10; omega))
/-- Which descriptors are held. -/
structure Held (name : List UInt8) (i n : Nat) (ws : WS) : Prop where
  wb : WB n ws
  busy : ∀ k, k < i → (ws.opn.getD k default).kind ≠ 0
  free : ∀ k, i ≤ k → k < 19 → (ws.opn.getD k default).kind = 0
  has : hasK name ws.files = true
structure NameOk (name : List UInt8) : Prop where
  len : name.length ≤ 255
  idx : Lib.indexByte name 0 < 0
  ne : name ≠ []
theorem hasK_putF (f : FileR) : ∀ (l : List FileR), hasK f.name (putF f l) = true := fun l => by
  obtain ⟨q, h1, h2⟩ := put_q f l
  exact has_of h1 (by rw [h2])
theorem getD_set_ne {α : Type} {l : List α} {j k : Nat} (h : k ≠ j) (a d : α) : (l.set j a).getD k d = l.getD k d := by
  simp [List.getD, List.getElem?_set, Ne.symm h]
theorem held_ix {name : List UInt8} {i n : Nat} {ws : WS} (h : Held name i n ws) (hi : i < 19) : freeIx ws.opn = i := freeIx_is (by rw [h.wb.opn]; exact hi) (h.free i (Nat.le_refl _) hi) h.busy
theorem held_open {name : List UInt8} {i n : Nat} {ws : WS} (hn : NameOk name) (h : Held name i n ws) (hi : i < 19) : openR name 0 ws = (i : Int) := by
  have e := held_ix h hi
  rw [openR_read hn.len hn.idx hn.ne h.has (by rw [e]; exact hi), e]
theorem held_full {name : List UInt8} {n : Nat} {ws : WS} (hn : NameOk name) (h : Held name 19 n ws) : openR name 0 ws = -24 := by
  have hnf : ¬ freeIx ws.opn < 19 := by
    have := freeIx_none (o := ws.opn) (fun i hi => h.busy i (by rw [h.wb.opn] at hi; exact hi))
    rwa [h.wb.opn] at this
  have h1 := hn.len
  have h2 := hn.idx
  unfold openR
  rw [if_neg (by omega), if_neg (by omega), if_neg hn.ne, if_neg (fun q => by rw [h.has] at q; cases q.2), if_neg hnf]
theorem openR_neg {name : List UInt8} {ws : WS} (h : openR name 577 ws < 0) (hx : freeIx ws.opn < 19) : openR name 577 ws = -2 ∨ openR name 577 ws = -22 ∨ openR name 577 ws = -36 := by
  unfold openR at h ⊢
  rw [if_pos hx] at h ⊢
  split
  · exact .inr (.inr rfl)
  · split
    · exact .inr (.inl rfl)
    · split
      · exact .inl rfl
      · split
        · exact .inl rfl
        · rename_i h1 h2 h3 h4
          rw [if_neg h1, if_neg h2, if_neg h3, if_neg h4] at h
          omega
theorem held_next {name : List UInt8} {i n : Nat} {ws : WS} (h : Held name i n ws) (hi : i < 19) : Held name (i + 1) n { ws with opn := ws.opn.set i ⟨4, name, 0⟩ } := by
  have ho := h.wb.opn
  refine ⟨wb_opn h.wb i _ (Nat.zero_le _), fun k hk => ?_, fun k h1 h2 => ?_, h.has⟩
  · rcases Nat.lt_or_ge k i with hl | hg
    · show ((ws.opn.set i _).getD k default).kind ≠ 0
      rw [getD_set_ne (by omega)]; exact h.busy k hl
    · obtain rfl : k = i := by omega
      show ((ws.opn.set k _).getD k default).kind ≠ 0
      rw [getD_set (by omega)]; show (4 : Int) ≠ 0; decide
  · show ((ws.opn.set i _).getD k default).kind = 0
    rw [getD_set_ne (by omega)]; exact h.free k (by omega) h2
end Go.Proofs.Ytmiggpnkicdijaa
