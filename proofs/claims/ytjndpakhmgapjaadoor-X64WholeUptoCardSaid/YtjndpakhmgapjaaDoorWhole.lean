/-
  ANY BYTES AS A LIST of instructions, or not.
-/
import Derived.Test.YtjndpakhmgapjaaDoorInv
namespace Go.Proofs.YtjndpakhmgapjaaDoor
open Go Go.RowKit
set_option linter.unusedSimpArgs false
set_option linter.unusedVariables false
set_option linter.unnecessarySimpa false
def lstN : Nat → List UInt8 → List Ins × Int
  | 0, _ => ([], 0)
  | n + 1, bs => if bs = [] then ([], 0) else if decE bs = 0 then (if (lstN n (bs.drop (decN bs))).2 = 0 then (decI bs :: (lstN n (bs.drop (decN bs))).1, 0) else ([], (lstN n (bs.drop (decN bs))).2)) else ([], decE bs)
theorem decN_pos {bs : List UInt8} (h : decE bs = 0) : 0 < decN bs := by
  obtain ⟨hv, hi, he, hz, hle⟩ := reads h
  have := enc_pos hv hi
  omega
theorem lstN_more : ∀ (n m : Nat) (bs : List UInt8), bs.length ≤ n → n ≤ m → lstN n bs = lstN m bs
  | 0, 0, _, _, _ => rfl
  | 0, m + 1, bs, h, _ => by
    have : bs = [] := List.length_eq_zero_iff.1 (by omega)
    rw [lstN, lstN, if_pos this]
  | n + 1, 0, _, _, h => absurd h (by omega)
  | n + 1, m + 1, bs, h, hm => by
    unfold lstN
    by_cases h0 : bs = []
    · rw [if_pos h0, if_pos h0]
    · rw [if_neg h0, if_neg h0]
      by_cases h1 : decE bs = 0
      · have hp := decN_pos h1
        have hb : 0 < bs.length := List.length_pos_iff.2 h0
        rw [if_pos h1, if_pos h1, lstN_more n m (bs.drop (decN bs)) (by rw [List.length_drop]; omega) (by omega)]
      · rw [if_neg h1, if_neg h1]
/-- The instructions of bytes, and the fault. -/
def lst (bs : List UInt8) : List Ins × Int := lstN bs.length bs
theorem lst_nil : lst [] = ([], 0) := rfl
theorem lst_bad {bs : List UInt8} (h0 : 0 < bs.length) (h : ¬ decE bs = 0) : lst bs = ([], decE bs) := by
  unfold lst
  obtain ⟨n, hn⟩ : ∃ n, bs.length = n + 1 := ⟨bs.length - 1, by omega⟩
  rw [hn, lstN, if_neg (List.length_pos_iff.1 h0), if_neg h]
theorem lst_good {bs : List UInt8} (h0 : 0 < bs.length) (h : decE bs = 0) : lst bs = if (lst (bs.drop (decN bs))).2 = 0 then (decI bs :: (lst (bs.drop (decN bs))).1, 0) else ([], (lst (bs.drop (decN bs))).2) := by
  have hp := decN_pos h
  have e : lst (bs.drop (decN bs)) = lstN (bs.length - 1) (bs.drop (decN bs)) := by
    unfold lst
    exact lstN_more _ _ _ (Nat.le_refl _) (by rw [List.length_drop]; omega)
  rw [e]
  unfold lst
  obtain ⟨n, hn⟩ : ∃ n, bs.length = n + 1 := ⟨bs.length - 1, by omega⟩
  rw [hn, lstN, if_neg (List.length_pos_iff.1 h0), if_pos h]
  rfl
/-- So far, and what is left. -/
def LI (bs : List UInt8) (out : List Ins) (rest : List UInt8) : Prop := lst bs = (if (lst rest).2 = 0 then (out ++ (lst rest).1, 0) else ([], (lst rest).2)) ∧ out.length + rest.length ≤ bs.length
theorem LI.start (bs : List UInt8) (h : (lst bs).2 = 0 ∨ (lst bs).1 = []) : LI bs [] bs := by
  refine ⟨?_, by simp⟩
  by_cases h0 : (lst bs).2 = 0
  · rw [if_pos h0, List.nil_append, ← h0]
  · rw [if_neg h0, ← h.resolve_left h0]
theorem lstN_or : ∀ n bs, (lstN n bs).2 = 0 ∨ (lstN n bs).1 = []
  | 0, _ => .inl rfl
  | n + 1, bs => by
    unfold lstN
    split
    · exact .inl rfl
    split
    · split
      · exact .inl rfl
      · exact .inr rfl
    · exact .inr rfl
theorem lst_or (bs : List UInt8) : (lst bs).2 = 0 ∨ (lst bs).1 = [] := lstN_or _ _
theorem LI.done {bs : List UInt8} {out : List Ins} {rest : List UInt8} (h : LI bs out rest) (hr : rest.length = 0) : lst bs = (out, 0) := by
  rw [List.length_eq_zero_iff] at hr
  subst hr
  rw [h.1, lst_nil, if_pos rfl, List.append_nil]
theorem LI.bad {bs : List UInt8} {out : List Ins} {rest : List UInt8} (h : LI bs out rest) (hr : 0 < rest.length) (he : ¬ decE rest = 0) : lst bs = ([], decE rest) := by
  rw [h.1, lst_bad hr he, if_neg he]
theorem LI.step {bs : List UInt8} {out : List Ins} {rest : List UInt8} (h : LI bs out rest) (hr : 0 < rest.length) (he : decE rest = 0) : LI bs (out ++ [decI rest]) (rest.drop (decN rest)) := by
  have hp := decN_pos he
  refine ⟨?_, by
    have h2 := h.2
    rw [List.length_append, List.length_drop]
    show out.length + 1 + _ ≤ _
    omega⟩
  rw [h.1, lst_good hr he]
  by_cases h0 : (lst (rest.drop (decN rest))).2 = 0
  · rw [if_pos h0, if_pos rfl, if_pos h0, List.append_assoc]
    rfl
  · rw [if_neg h0, if_neg h0, if_neg h0]
/-- What is a list of good ones: from them, and back. -/
theorem lst_enc : ∀ (l : List Ins), Good l → lst (l.flatMap encF) = (l, 0)
  | [], _ => rfl
  | a :: r, hg => by
    have hv := hg.valid a (List.mem_cons_self ..)
    have hi := hg.imm a (List.mem_cons_self ..)
    have hp := enc_pos hv hi
    obtain ⟨h1, h2, h3⟩ := dec_enc hv hi (r.flatMap encF)
    have ih := lst_enc r ⟨fun x hx => hg.valid x (List.mem_cons_of_mem _ hx), fun x hx => hg.imm x (List.mem_cons_of_mem _ hx)⟩
    rw [List.flatMap_cons, lst_good (by rw [List.length_append]; omega) h3, h2, List.drop_left, ih, if_pos rfl, h1]
theorem lstN_back : ∀ (n : Nat) (bs : List UInt8), bs.length ≤ n → (lstN n bs).2 = 0 → Good (lstN n bs).1 ∧ (lstN n bs).1.flatMap encF = bs ∧ (lstN n bs).1.length ≤ bs.length
  | 0, bs, h, _ => by
    obtain rfl : bs = [] := List.length_eq_zero_iff.1 (by omega)
    exact ⟨⟨fun x hx => absurd hx (by simp [lstN]), fun x hx => absurd hx (by simp [lstN])⟩, rfl, Nat.le_refl _⟩
  | n + 1, bs, h, h2 => by
    unfold lstN at h2 ⊢
    by_cases h0 : bs = []
    · subst h0
      rw [if_pos rfl]
      exact ⟨⟨fun x hx => absurd hx (by simp), fun x hx => absurd hx (by simp)⟩, rfl, Nat.le_refl _⟩
    · rw [if_neg h0] at h2 ⊢
      by_cases h1 : decE bs = 0
      · rw [if_pos h1] at h2 ⊢
        obtain ⟨hv, hi, he, hz, hle⟩ := reads h1
        have hp := decN_pos h1
        by_cases h3 : (lstN n (bs.drop (decN bs))).2 = 0
        · rw [if_pos h3]
          obtain ⟨g1, g2, g3⟩ := lstN_back n (bs.drop (decN bs)) (by rw [List.length_drop]; omega) h3
          rw [List.length_drop] at g3
          refine ⟨⟨fun x hx => ?_, fun x hx => ?_⟩, ?_, ?_⟩
          · rcases List.mem_cons.1 hx with rfl | hx
            · exact hv
            · exact g1.valid x hx
          · rcases List.mem_cons.1 hx with rfl | hx
            · exact hi
            · exact g1.imm x hx
          · show encF (decI bs) ++ (lstN n (bs.drop (decN bs))).1.flatMap encF = bs
            rw [he, g2, List.take_append_drop]
          · show (lstN n (bs.drop (decN bs))).1.length + 1 ≤ bs.length
            omega
        · rw [if_neg h3] at h2
          exact absurd h2 h3
      · rw [if_neg h1] at h2
        exact absurd h2 h1
theorem lst_back {bs : List UInt8} (h : (lst bs).2 = 0) : Good (lst bs).1 ∧ (lst bs).1.flatMap encF = bs ∧ (lst bs).1.length ≤ bs.length := lstN_back _ _ (Nat.le_refl _) h
theorem good_all {l : List Ins} (h : Good l) : allB l = l.flatMap encF ∧ allE l = 0 := by
  have ha : l.all validF = true := List.all_eq_true.2 h.valid
  unfold allB allE
  rw [if_pos ha, if_pos ha]
  exact ⟨rfl, rfl⟩
theorem all_bound (l : List Ins) : (allB l).length ≤ 11 * l.length := by
  have := enc_le l
  unfold allB
  split
  · exact this
  · exact Nat.zero_le _
theorem all_valid {l : List Ins} (h : allE l = 0) : ∀ x ∈ l, validF x = true := by
  unfold allE at h
  split at h
  · rename_i ha
    exact List.all_eq_true.1 ha
  · exact absurd h (by decide)
end Go.Proofs.YtjndpakhmgapjaaDoor
