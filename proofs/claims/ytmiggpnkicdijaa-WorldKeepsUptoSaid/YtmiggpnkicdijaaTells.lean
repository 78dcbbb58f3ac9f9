/-
  WHAT THE TRACE TELLS of the outputs.
-/
import Derived.Test.YtmiggpnkicdijaaLaws
namespace Go.Proofs.Ytmiggpnkicdijaa
open Go Go.RowKit
theorem last_split {l : List Evt} (h : 0 < l.length) : l = l.take (l.length - 1) ++ [lastE l] := by
  have e := take_succ' (l := l) (j := l.length - 1) (by omega)
  rw [show l.length - 1 + 1 = l.length by omega, List.take_of_length_le (Nat.le_refl _)] at e
  exact e
theorem set_last {l : List Evt} (h : 0 < l.length) (x : Evt) : l.set (l.length - 1) x = l.take (l.length - 1) ++ [x] := by
  rw [List.set_eq_take_append_cons_drop, if_pos (by omega), List.drop_of_length_le (by omega)]
theorem toldF_one (k : Int) (e : Evt) : toldF k [e] = if e.kind = k then e.text else [] := by simp [toldF]
theorem told_say (k k' : Int) (name s : List UInt8) (l : List Evt) : toldF k' (sayF k name s l) = toldF k' l ++ (if k = k' then s else []) := by
  unfold sayF
  split
  · rename_i h; subst h; simp
  · split
    · rename_i hc
      obtain ⟨h0, h1, _⟩ := hc
      rw [set_last h0, toldF_append, toldF_one]
      conv => rhs; rw [last_split h0, toldF_append, toldF_one]
      simp only [h1]
      split <;> simp
    · rw [toldF_append, toldF_one]
structure Tells (n : Nat) (ws : WS) : Prop where
  wb : WB n ws
  k1 : (ws.opn.getD 1 default).kind = 2
  k2 : (ws.opn.getD 2 default).kind = 3
  good : ∀ e ∈ ws.trace, e.text ≠ [] ∧ e.name = []
  alt : ∀ j, 0 < j → j < ws.trace.length → (ws.trace.getD j default).kind ≠ (ws.trace.getD (j - 1) default).kind
  t1 : (toldF 1 ws.trace).length ≤ n
  t2 : (toldF 2 ws.trace).length ≤ n
theorem getD_app_left {α : Type} [Inhabited α] {l r : List α} {j : Nat} (h : j < l.length) : (l ++ r).getD j default = l.getD j default := by
  simp [List.getD, List.getElem?_append_left h]
theorem getD_app_last {α : Type} [Inhabited α] {l : List α} {x : α} : (l ++ [x]).getD l.length default = x := by
  simp [List.getD]
theorem tells_say {n : Nat} {ws : WS} (h : Tells n ws) (k : Int) (s : List UInt8) (A : Option Addr) (c : Nat) : Tells (n + s.length + 1) { ws with trace := sayF k [] s ws.trace, tA := A, tc := c } := by
  obtain ⟨hw, h1, h2, h3, h4, h5, h6⟩ := h
  have hb := sayF_bounds (k := k) (name := []) (text := s) hw.tr hw.txt
  have hlen : ∀ k', (if k = k' then s else []).length ≤ s.length := fun k' => by split <;> simp
  refine ⟨⟨hw.opn, hb.1, fun e he => by have := hb.2 e he; omega, fun f hf => by have := hw.fl f hf; omega, fun d hd => by have := hw.pl d hd; omega, by have := hw.sin; simp only; omega⟩, h1, h2, ?_, ?_, ?_, ?_⟩
  · intro e he
    have he : e ∈ sayF k [] s ws.trace := he
    unfold sayF at he
    split at he
    · exact h3 e he
    · rename_i hs
      split at he
      · rename_i hc
        rcases List.mem_or_eq_of_mem_set he with he | rfl
        · exact h3 e he
        · have := h3 _ (last_mem hc.1)
          exact ⟨by simp [this.1], this.2⟩
      · rcases List.mem_append.1 he with he | he
        · exact h3 e he
        · rw [List.mem_singleton] at he; subst he; exact ⟨hs, rfl⟩
  · intro j hj0 hj
    have hj : j < (sayF k [] s ws.trace).length := hj
    show ((sayF k [] s ws.trace).getD j default).kind ≠ ((sayF k [] s ws.trace).getD (j - 1) default).kind
    unfold sayF at hj ⊢
    split at hj
    · rename_i hs
      rw [if_pos hs]; exact h4 j hj0 hj
    · rename_i hs
      rw [if_neg hs]
      split at hj
      · rename_i hc
        rw [if_pos hc]
        rw [List.length_set] at hj
        have e : ∀ i, ((ws.trace.set (ws.trace.length - 1) { lastE ws.trace with text := (lastE ws.trace).text ++ s }).getD i default).kind = (ws.trace.getD i default).kind := fun i => by
          by_cases hi : i = ws.trace.length - 1
          · subst hi
            rw [getD_set (by omega)]; rfl
          · rw [getD_set_ne hi]
        rw [e, e]
        exact h4 j hj0 hj
      · rename_i hc
        rw [if_neg hc]
        rw [List.length_append] at hj
        simp only [List.length_cons, List.length_nil] at hj
        rcases Nat.lt_or_ge j ws.trace.length with hl | hg
        · rw [getD_app_left hl, getD_app_left (by omega)]; exact h4 j hj0 hl
        · obtain rfl : j = ws.trace.length := by omega
          rw [getD_app_last, getD_app_left (by omega)]
          intro e
          exact hc ⟨hj0, e.symm, (h3 _ (last_mem hj0)).2⟩
  · show (toldF 1 (sayF k [] s ws.trace)).length ≤ _
    rw [told_say, List.length_append]
    have := hlen 1; omega
  · show (toldF 2 (sayF k [] s ws.trace)).length ≤ _
    rw [told_say, List.length_append]
    have := hlen 2; omega
def sizeB (l : List (List UInt8)) : Nat := (l.map fun s => s.length + 1).sum
theorem sizeB_succ {l : List (List UInt8)} {i : Nat} (h : i < l.length) : sizeB (l.take (i + 1)) = sizeB (l.take i) + (l.getD i []).length + 1 := by
  have e : l.getD i [] = l[i] := by simp [h]
  rw [List.take_succ_eq_append_getElem h, e]
  simp only [sizeB, List.map_append, List.map_cons, List.map_nil, List.sum_append, List.sum_cons, List.sum_nil]; omega
theorem sizeB_take (l : List (List UInt8)) (i : Nat) : sizeB (l.take i) ≤ sizeB l := by
  conv => rhs; rw [← List.take_append_drop i l]
  simp only [sizeB, List.map_append, List.sum_append]; omega
theorem sizeB_len (l : List (List UInt8)) : l.length ≤ sizeB l := by
  induction l with
  | nil => simp
  | cons a r ih => simp only [sizeB, List.map_cons, List.sum_cons, List.length_cons] at ih ⊢; omega
theorem len_svs {l : List (List UInt8)} : (l.map sv).length = l.length * 1 := by simp
theorem len_i64s {l : List Int} : (l.map fun z => T.v (.int .i64 z)).length = l.length * 1 := by simp
theorem len_u64s {l : List Int} : (l.map fun z => T.v (.int .u64 z)).length = l.length * 1 := by simp
theorem sv_get {l : List (List UInt8)} {j : Nat} (h : j < l.length) : (l.map sv)[j * 1]? = some (sv (l.getD j [])) := by simp [h]
theorem i64_get {l : List Int} {j : Nat} (h : j < l.length) : (l.map fun z => T.v (.int .i64 z))[j * 1]? = some (.v (.int .i64 (l.getD j 0))) := by simp [h]
theorem u64_get' {l : List Int} {j : Nat} (h : j < l.length) : (l.map fun z => T.v (.int .u64 z))[j * 1]? = some (.v (.int .u64 (l.getD j 0))) := by simp [h]
theorem getD_memZ {l : List Int} {j : Nat} (h : j < l.length) : l.getD j 0 ∈ l := by
  have e : l.getD j 0 = l[j] := by simp [h]
  rw [e]; exact List.getElem_mem h
end Go.Proofs.Ytmiggpnkicdijaa
