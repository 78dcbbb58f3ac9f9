/-
  READING: the loop over what is met: how long it can run.
-/
import Derived.Test.YtbndnmmceccbkaaReadB
namespace Go.Proofs.Ytbndnmmceccbkaa
open Go Go.RowKit
theorem AW.mid1 {cx : Cx} {Q : Exit → Env → St → Prop} {env : Env} {S : St} {α : Type} {c : Code} (E' : α → Env) (H : α → St) (inv : α → Prop) (h : AW cx c (thenQ (fun env' S' => ∃ y, inv y ∧ Sub (E' y) env' ∧ S' = H y) Q) env S) (hr : ∀ y env', inv y → Sub (E' y) env' → Q .normal env' (H y)) : AW cx c Q env S := by
  refine h.mono fun e env' S' hq => ?_
  cases e with
  | normal =>
    obtain ⟨y, h1, h2, rfl⟩ := hq
    exact hr y env' h1 h2
  | _ => exact hq
theorem getD_mem0 {l : List Int} {j : Nat} (h : j < l.length) : l.getD j 0 ∈ l := by
  have e : l.getD j 0 = l[j] := by simp [h]
  rw [e]; exact List.getElem_mem h
theorem valR_pre (row : List Int) (x : Int) : ∃ e, (valR row x).1 = row ++ e := by
  unfold valR
  split
  · exact ⟨[], by simp⟩
  · split
    · exact ⟨[], by simp⟩
    · exact ⟨_, rfl⟩
theorem valsF_pre : ∀ (l row : List Int), ∃ e, (valsF row l).1 = row ++ e
  | [], row => ⟨[], by simp [valsF]⟩
  | x :: l, row => by
    obtain ⟨e, he⟩ := valR_pre row x
    obtain ⟨f, hf⟩ := valsF_pre l (valR row x).1
    exact ⟨e ++ f, by show (valsF (valR row x).1 l).1 = _; rw [hf, he, List.append_assoc]⟩
theorem body_pre {b : List UInt8} {o : Nat} {h : Int} {row : List Int} {p : List Int × Thing} (hp : body b o h row = some p) : ∃ e, p.1 = row ++ e := by
  unfold body at hp
  simp only at hp
  split at hp
  · split at hp
    · cases hp
    · cases hp; exact ⟨[], by simp⟩
  · split at hp
    · split at hp
      · cases hp
      · split at hp
        · cases hp
        · cases hp; exact valsF_pre _ _
    · cases hp; exact valsF_pre _ _
theorem thingR_pre {b : List UInt8} {a x : Int} {row : List Int} {p : List Int × Thing} (hp : thingR b a row x = some p) : ∃ e, p.1 = row ++ e := by
  unfold thingR at hp
  split at hp
  · cases hp
  split at hp
  · cases hp
  split at hp
  · cases hp
  · rename_i q hq
    split at hp
    · cases hp; exact body_pre hq
    · cases hp
/-- As many as stand within can be gone through. -/
theorem proc_len {b : List UInt8} {a : Int} {ws row : List Int} {n : Nat} (ha : a % 8 = 0) (hr : RowR b ws row) (hn : n ≤ row.length) (h : ∀ i, i < n → bad0 b a (row.getD i 0) = false) : n ≤ b.length / 8 := by
  have h1 := nodup_sub (row.take n) ((List.range (b.length / 8)).map fun (i : Nat) => a + 8 * (i : Int)) (hr.nd.sublist (List.take_sublist n row)) (fun z hz => by
    obtain ⟨i, hi, rfl⟩ := List.getElem_of_mem hz
    have hi' : i < n := by rw [List.length_take] at hi; omega
    have hf := bad0_fine (h i hi') ha
    have e : row.getD i 0 = row[i] := by simp [show i < row.length by omega]
    rw [e] at hf
    rw [List.getElem_take]
    exact List.mem_map.2 ⟨(row[i] - a).toNat / 8, List.mem_range.2 (by omega), by omega⟩)
  rw [List.length_take, List.length_map, List.length_range] at h1
  omega
structure RI (b : List UInt8) (a : Int) (ws : List Int) (m : List Int × List Thing) : Prop where
  eq : readS b a (fuelR b) (valsF [] ws).1 [] = readS b a (fuelR b - m.2.length) m.1 m.2
  row : RowR b ws m.1
  le : m.2.length ≤ m.1.length
  proc : ∀ i, i < m.2.length → bad0 b a (m.1.getD i 0) = false
theorem RI.len {b : List UInt8} {a : Int} {ws : List Int} {m : List Int × List Thing} (h : RI b a ws m) (ha : a % 8 = 0) : m.2.length ≤ b.length / 8 := proc_len ha h.row h.le h.proc
theorem RI.init {b : List UInt8} {a : Int} {ws : List Int} : RI b a ws ((valsF [] ws).1, []) := ⟨rfl, valsF_ok (RowR.nil b ws) (fun x hx => List.mem_append.2 (.inl hx)), Nat.zero_le _, fun i hi => absurd hi (Nat.not_lt_zero _)⟩
theorem RI.step {b : List UInt8} {a : Int} {ws : List Int} {m : List Int × List Thing} {q : List Int × Thing} (hb : b.length ≤ 1099511627) (hws : ws.length ≤ 1099511627) (ha : a % 8 = 0) (h : RI b a ws m) (hl : m.2.length < m.1.length) (hq : thingR b a m.1 (m.1.getD m.2.length 0) = some q) :
    RI b a ws (q.1, m.2 ++ [q.2]) := by
  obtain ⟨e, he⟩ := thingR_pre hq
  have ho := thingR_ok hb hws ha h.row hq
  have hn := h.len ha
  refine ⟨?_, ho.1, ?_, fun i hi => ?_⟩
  · rw [h.eq, show fuelR b - m.2.length = (fuelR b - (m.2 ++ [q.2]).length) + 1 by unfold fuelR; rw [List.length_append, List.length_singleton]; omega, readS_step hl hq]
  · rw [List.length_append, List.length_singleton, he, List.length_append]; omega
  · have e2 : q.1.getD i 0 = m.1.getD i 0 := by
      rw [List.length_append, List.length_singleton] at hi
      rw [he, List.getD_eq_getElem?_getD, List.getElem?_append_left (by omega), ← List.getD_eq_getElem?_getD]
    rw [e2]
    rw [List.length_append, List.length_singleton] at hi
    rcases Nat.lt_or_ge i m.2.length with w | w
    · exact h.proc i w
    · rw [show i = m.2.length by omega]; exact ho.2.2.1
theorem readR_bad {b : List UInt8} {a : Int} {ws : List Int} (h : badR b a = true) : readR b a ws = (⟨[], []⟩, 1) := by unfold readR; rw [if_pos h]
theorem readR_fail {b : List UInt8} {a : Int} {ws : List Int} {m : List Int × List Thing} (h : badR b a = false) (hi : RI b a ws m) (hl : m.2.length < m.1.length) (hq : thingR b a m.1 (m.1.getD m.2.length 0) = none) : readR b a ws = (⟨[], []⟩, 140) := by
  unfold readR; rw [h, if_neg (by decide), hi.eq, readS_fail hl hq]
theorem readR_ok {b : List UInt8} {a : Int} {ws : List Int} {m : List Int × List Thing} (h : badR b a = false) (hi : RI b a ws m) (hl : m.1.length ≤ m.2.length) : readR b a ws = (⟨m.2, (valsF [] ws).2⟩, 0) := by
  unfold readR; rw [h, if_neg (by decide), hi.eq, readS_end hl]
end Go.Proofs.Ytbndnmmceccbkaa
