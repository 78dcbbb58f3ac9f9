/-
  NUMERALS of any number; the text of any instruction; unlike instructions have unlike texts, and bytes of which none begin with the other's.
-/
import Derived.Test.YtjndpakhmgapjaaDoorText
import Derived.Lib.ItoaLen
import Derived.Lib.ItoaNum
namespace Go.Proofs.YtjndpakhmgapjaaDoor
open Go Go.RowKit Go.Lib
set_option linter.unusedSimpArgs false
set_option linter.unusedVariables false
set_option linter.unnecessarySimpa false
def valD (l : List UInt8) : Nat := l.foldl (fun a c => 10 * a + (c.toNat - 48)) 0
theorem digit_val {d : Nat} (h : d < 10) : (UInt8.ofNat (48 + d)).toNat = 48 + d := by
  rw [UInt8.toNat_ofNat']
  omega
theorem dec_val (u : Nat) : valD (decDigits u) = u := by
  induction u using Nat.strongRecOn with
  | _ u ih =>
    rw [decDigits]
    split
    · rename_i h
      unfold valD
      rw [List.foldl_cons, List.foldl_nil, digit_val h]
      omega
    · rename_i h
      have hi := ih (u / 10) (by omega)
      unfold valD at hi ⊢
      rw [List.foldl_append, hi, List.foldl_cons, List.foldl_nil, digit_val (Nat.mod_lt _ (by decide))]
      omega
theorem dec_range (u : Nat) : ∀ c ∈ decDigits u, 48 ≤ c.toNat ∧ c.toNat ≤ 57 := by
  induction u using Nat.strongRecOn with
  | _ u ih =>
    rw [decDigits]
    split
    · rename_i h
      intro c hc
      rw [List.mem_singleton] at hc
      subst hc
      rw [digit_val h]
      omega
    · rename_i h
      intro c hc
      rcases List.mem_append.1 hc with hc | hc
      · exact ih (u / 10) (by omega) c hc
      · rw [List.mem_singleton] at hc
        subst hc
        have := Nat.mod_lt u (show 0 < 10 by decide)
        rw [digit_val this]
        omega
theorem dec_inj {u v : Nat} (h : decDigits u = decDigits v) : u = v := by
  rw [← dec_val u, ← dec_val v, h]
theorem dec_ne45 (u : Nat) (l : List UInt8) : decDigits u ≠ 45 :: l := fun h => by
  have := dec_range u 45 (by rw [h]; exact List.mem_cons_self ..)
  exact absurd this.1 (by decide)
theorem itoa_inj {m n : Int} (h : itoa m = itoa n) : m = n := by
  unfold itoa at h
  split at h <;> split at h
  · have := dec_inj (List.cons.inj h).2
    omega
  · exact absurd h.symm (dec_ne45 _ _)
  · exact absurd h (dec_ne45 _ _)
  · have := dec_inj h
    omega
theorem itoa_32 (n : Int) : (32 : UInt8) ∉ itoa n := by
  have hd : ∀ u, (32 : UInt8) ∉ decDigits u := fun u h => absurd (dec_range u 32 h).1 (by decide)
  unfold itoa
  split
  · intro h
    rcases List.mem_cons.1 h with h | h
    · exact absurd h (by decide)
    · exact hd _ h
  · exact hd _
/-- Words with a blank ahead of each but the first. -/
def joinT (w : List UInt8) : List (List UInt8) → List UInt8
  | [] => w
  | x :: r => w ++ 32 :: joinT x r
theorem word_split : ∀ {w w' r r' : List UInt8}, (32 : UInt8) ∉ w → (32 : UInt8) ∉ w' → w ++ 32 :: r = w' ++ 32 :: r' → w = w' ∧ r = r'
  | [], [], r, r', _, _, h => ⟨rfl, (List.cons.inj h).2⟩
  | [], c :: w', r, r', _, h', h => absurd ((List.cons.inj h).1 ▸ List.mem_cons_self ..) h'
  | c :: w, [], r, r', h1, _, h => absurd ((List.cons.inj h).1 ▸ List.mem_cons_self ..) h1
  | c :: w, c' :: w', r, r', h1, h', h => by
    obtain ⟨e1, e2⟩ := List.cons.inj h
    obtain ⟨e3, e4⟩ := word_split (fun q => h1 (List.mem_cons_of_mem _ q)) (fun q => h' (List.mem_cons_of_mem _ q)) e2
    exact ⟨by rw [e1, e3], e4⟩
theorem join_inj : ∀ {l l' : List (List UInt8)} {w w' : List UInt8}, (∀ x ∈ w :: l, (32 : UInt8) ∉ x) → (∀ x ∈ w' :: l', (32 : UInt8) ∉ x) → joinT w l = joinT w' l' → w = w' ∧ l = l'
  | [], [], w, w', _, _, h => ⟨h, rfl⟩
  | [], x :: r, w, w', h1, h2, h => absurd (show (32 : UInt8) ∈ w by rw [show w = w' ++ 32 :: joinT x r from h]; simp) (h1 w (List.mem_cons_self ..))
  | x :: r, [], w, w', h1, h2, h => absurd (show (32 : UInt8) ∈ w' by rw [← show w ++ 32 :: joinT x r = w' from h]; simp) (h2 w' (List.mem_cons_self ..))
  | x :: r, x' :: r', w, w', h1, h2, h => by
    obtain ⟨e1, e2⟩ := word_split (h1 w (List.mem_cons_self ..)) (h2 w' (List.mem_cons_self ..)) h
    obtain ⟨e3, e4⟩ := join_inj (fun y hy => h1 y (List.mem_cons_of_mem _ hy)) (fun y hy => h2 y (List.mem_cons_of_mem _ hy)) e2
    exact ⟨e1, by rw [e3, e4]⟩
theorem joinT_snoc : ∀ (w : List UInt8) (l : List (List UInt8)) (x : List UInt8), joinT w (l ++ [x]) = joinT w l ++ 32 :: x
  | w, [], x => rfl
  | w, y :: r, x => by
    show w ++ 32 :: joinT y (r ++ [x]) = (w ++ 32 :: joinT y r) ++ 32 :: x
    rw [joinT_snoc y r x, List.append_assoc]
    rfl
def putG (f has n : Int) (s : List UInt8) : List UInt8 := if putOn f has = true then s ++ (32 :: itoa n) else s
def textB (i : Ins) : List UInt8 := putG (fieldsF i.kind).1 16 i.size (putG (fieldsF i.kind).1 8 i.cond (putG (fieldsF i.kind).1 4 i.imm (putG (fieldsF i.kind).1 2 i.s (putG (fieldsF i.kind).1 1 i.d (wordT i.kind)))))
def textF (i : Ins) : List UInt8 := if validF i = true then textB i else []
def numG (f has n : Int) : List (List UInt8) := if putOn f has = true then [itoa n] else []
theorem putG_join (f has n : Int) (w : List UInt8) (l : List (List UInt8)) : putG f has n (joinT w l) = joinT w (l ++ numG f has n) := by
  unfold putG numG
  split
  · rw [joinT_snoc]
  · rw [List.append_nil]
theorem textB_join (i : Ins) : textB i = joinT (wordT i.kind) (((((([] ++ numG (fieldsF i.kind).1 1 i.d) ++ numG (fieldsF i.kind).1 2 i.s)) ++ numG (fieldsF i.kind).1 4 i.imm) ++ numG (fieldsF i.kind).1 8 i.cond) ++ numG (fieldsF i.kind).1 16 i.size) := by
  unfold textB
  have h := putG_join (fieldsF i.kind).1 1 i.d (wordT i.kind) []
  rw [show joinT (wordT i.kind) [] = wordT i.kind from rfl] at h
  rw [h, putG_join, putG_join, putG_join, putG_join]
theorem numG_32 (f has n : Int) : ∀ x ∈ numG f has n, (32 : UInt8) ∉ x := by
  unfold numG
  split
  · intro x hx
    rw [List.mem_singleton] at hx
    subst hx
    exact itoa_32 n
  · intro x hx
    cases hx
theorem words_32 : ∀ x ∈ wordsL, (32 : UInt8) ∉ x := by decide +kernel
theorem wordT_32 (k : Int) : (32 : UInt8) ∉ wordT k := by
  unfold wordT
  rcases Nat.lt_or_ge (k.toNat - 1) wordsL.length with h | h
  · refine words_32 _ ?_
    rw [List.getD_eq_getElem?_getD, List.getElem?_eq_getElem h]
    exact List.getElem_mem h
  · rw [List.getD_eq_getElem?_getD, List.getElem?_eq_none h]
    exact fun q => by cases q
theorem words_inj : ∀ a b : Fin 52, wordsL.getD a.val [] = wordsL.getD b.val [] → a = b := by decide +kernel
theorem wordT_inj {j k : Int} (hj : 1 ≤ j ∧ j ≤ 52) (hk : 1 ≤ k ∧ k ≤ 52) (h : wordT j = wordT k) : j = k := by
  have := words_inj ⟨j.toNat - 1, by omega⟩ ⟨k.toNat - 1, by omega⟩ h
  have := congrArg Fin.val this
  dsimp only at this
  omega
theorem numG_len (f has n m : Int) : (numG f has n).length = (numG f has m).length := by
  unfold numG
  split <;> rfl
theorem numG_inj {f has n m : Int} (hn : noneF f has n = true) (hm : noneF f has m = true) (h : numG f has n = numG f has m) : n = m := by
  unfold numG at h
  split at h
  · rw [List.cons.injEq] at h
    exact itoa_inj h.1
  · rename_i hp
    unfold putOn at hp
    unfold noneF at hn hm
    rw [Bool.or_eq_true, decide_eq_true_eq] at hn hm
    rw [hn.resolve_left hp, hm.resolve_left hp]
theorem valid_none {i : Ins} (h : validF i = true) : noneF (fieldsF i.kind).1 1 i.d = true ∧ noneF (fieldsF i.kind).1 2 i.s = true ∧ noneF (fieldsF i.kind).1 4 i.imm = true ∧ noneF (fieldsF i.kind).1 8 i.cond = true ∧ noneF (fieldsF i.kind).1 16 i.size = true := by
  unfold validF at h
  split at h
  · cases h
  · simp only [Bool.and_eq_true] at h
    exact ⟨h.1.1.1.1.1, h.1.1.1.1.2, h.1.1.1.2, h.1.1.2, h.1.2⟩
theorem text_inj {i j : Ins} (hi : validF i = true) (hj : validF j = true) (h : textF i = textF j) : i = j := by
  rw [textF, textF, if_pos hi, if_pos hj, textB_join, textB_join] at h
  have h32 : ∀ i : Ins, ∀ x ∈ wordT i.kind :: (((((([] ++ numG (fieldsF i.kind).1 1 i.d) ++ numG (fieldsF i.kind).1 2 i.s)) ++ numG (fieldsF i.kind).1 4 i.imm) ++ numG (fieldsF i.kind).1 8 i.cond) ++ numG (fieldsF i.kind).1 16 i.size), (32 : UInt8) ∉ x := fun i x hx => by
    simp only [List.mem_cons, List.mem_append, List.nil_append] at hx
    rcases hx with rfl | (((hx | hx) | hx) | hx) | hx
    · exact wordT_32 _
    all_goals exact numG_32 _ _ _ x hx
  obtain ⟨e1, e2⟩ := join_inj (h32 i) (h32 j) h
  have ek := wordT_inj (validF_regs hi).1 (validF_regs hj).1 e1
  obtain ⟨a1, a2, a3, a4, a5⟩ := valid_none hi
  obtain ⟨b1, b2, b3, b4, b5⟩ := valid_none hj
  rw [ek] at e2 a1 a2 a3 a4 a5
  simp only [List.nil_append] at e2
  obtain ⟨e3, e5⟩ := List.append_inj' e2 (numG_len _ _ _ _)
  obtain ⟨e3, e4⟩ := List.append_inj' e3 (numG_len _ _ _ _)
  obtain ⟨e3, e6⟩ := List.append_inj' e3 (numG_len _ _ _ _)
  obtain ⟨e3, e7⟩ := List.append_inj' e3 (numG_len _ _ _ _)
  have f1 := numG_inj a1 b1 e3
  have f2 := numG_inj a2 b2 e7
  have f3 := numG_inj a3 b3 e6
  have f4 := numG_inj a4 b4 e4
  have f5 := numG_inj a5 b5 e5
  cases i; cases j
  simp only at ek f1 f2 f3 f4 f5
  subst ek; subst f1; subst f2; subst f3; subst f4; subst f5
  rfl
/-- None begins with the other's. -/
theorem enc_apart {i j : Ins} (hi : validF i = true) (hj : validF j = true) (h1 : I64 i.imm) (h2 : I64 j.imm) (hl : (encF i).length ≤ (encF j).length) (h : encF i = (encF j).take (encF i).length) : i = j := by
  have e : encF j = encF i ++ (encF j).drop (encF i).length := by
    conv => lhs; rw [← List.take_append_drop (encF i).length (encF j)]
    rw [← h]
  obtain ⟨a1, a2, a3⟩ := dec_enc hi h1 ((encF j).drop (encF i).length)
  obtain ⟨b1, b2, b3⟩ := dec_enc hj h2 []
  rw [List.append_nil] at b1
  rw [← e, b1] at a1
  exact a1.symm
theorem apart1 {i j : Ins} (hi : validF i = true) (hj : validF j = true) (h1 : I64 i.imm) (h2 : I64 j.imm) (hne : ¬ i = j) (hl : ¬ ((encF j).length : Int) < ((encF i).length : Int)) : ¬ ((encF i).drop 0).take ((encF i).length - 0) = ((encF j).drop 0).take ((encF i).length - 0) := by
  rw [List.drop_zero, List.drop_zero, Nat.sub_zero, List.take_length]
  exact fun h => hne (enc_apart hi hj h1 h2 (by omega) h)
theorem apart2 {i j : Ins} (hi : validF i = true) (hj : validF j = true) (h1 : I64 i.imm) (h2 : I64 j.imm) (hne : ¬ i = j) (hl : ((encF j).length : Int) < ((encF i).length : Int)) : ¬ ((encF i).drop 0).take ((encF j).length - 0) = ((encF j).drop 0).take ((encF j).length - 0) := by
  rw [List.drop_zero, List.drop_zero, Nat.sub_zero, List.take_length]
  exact fun h => hne (enc_apart hj hi h2 h1 (by omega) h.symm).symm
theorem wordT_len (k : Int) : (wordT k).length ≤ 10 := by
  have h : ∀ x ∈ wordsL, x.length ≤ 10 := by decide +kernel
  unfold wordT
  rcases Nat.lt_or_ge (k.toNat - 1) wordsL.length with hk | hk
  · refine h _ ?_
    rw [List.getD_eq_getElem?_getD, List.getElem?_eq_getElem hk]
    exact List.getElem_mem hk
  · rw [List.getD_eq_getElem?_getD, List.getElem?_eq_none hk]
    exact Nat.zero_le _
theorem encE_valid {i : Ins} (h : encE i = 0) : validF i = true := by
  rw [encE] at h
  by_cases q : validF i = true
  · exact q
  · rw [if_neg q] at h
    exact absurd h (by decide)
theorem putG_le (f has n : Int) (s : List UInt8) (h : I64 n) : (putG f has n s).length ≤ s.length + 22 := by
  have := itoa_length_le n h.1 h.2
  unfold putG
  split
  · rw [List.length_append, List.length_cons]; omega
  · omega
end Go.Proofs.YtjndpakhmgapjaaDoor
