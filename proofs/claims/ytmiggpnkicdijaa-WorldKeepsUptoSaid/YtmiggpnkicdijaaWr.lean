/-
  WHAT A WRITE TO A FILE LEAVES; which texts a trace tells.
-/
import Derived.Test.YtmiggpnkicdijaaRead
namespace Go.Proofs.Ytmiggpnkicdijaa
open Go Go.RowKit
theorem set_same {α : Type} [Inhabited α] {l : List α} {j : Nat} (h : j < l.length) : l.set j (l.getD j default) = l := by
  rw [getD_eq' h, List.set_getElem_self]
structure Wrote (j q : Nat) (s : List UInt8) (ws ws' : WS) : Prop where
  stdin : ws'.stdin = ws.stdin
  opn : ws'.opn = ws.opn.set j { ws.opn.getD j default with place := (ws.opn.getD j default).place + s.length }
  trace : ws'.trace = sayF 3 (ws.opn.getD j default).name s ws.trace
  names : ws'.files.map (·.name) = ws.files.map (·.name)
  bytes : (ws.opn.getD j default).place = (ws.files.getD q default).bytes.length → (ws'.files.getD q default).bytes = (ws.files.getD q default).bytes ++ s
  others : ∀ i, i ≠ q → (ws'.files.getD i default).bytes = (ws.files.getD i default).bytes
theorem wrF_is {j q : Nat} {s : List UInt8} {A tA : Option Addr} {c tc : Nat} {ws : WS} (hj : j < ws.opn.length) (hq : q < ws.files.length) : Wrote j q s ws (wrF j q s A c tA tc ws) := by
  unfold wrF
  split
  · rename_i h
    subst h
    refine ⟨rfl, ?_, sayF_nil.symm, rfl, fun _ => (List.append_nil _).symm, fun _ _ => rfl⟩
    exact (set_same hj).symm
  · refine ⟨rfl, rfl, rfl, ?_, fun hp => ?_, fun i hi => ?_⟩
    · simp only [List.map_set]
      apply List.ext_getElem?
      intro i
      rw [List.getElem?_set]
      by_cases e : q = i
      · subst e
        simp [hq, getD_eq' hq]
      · simp [e]
    · simp only
      rw [getD_set hq]
      simp only
      rw [hp, writeAt_end]
    · simp only [List.getD_eq_getElem?_getD, List.getElem?_set, if_neg (Ne.symm hi)]
theorem wrF_wb {j q n : Nat} {s : List UInt8} {A tA : Option Addr} {c tc : Nat} {ws : WS} (hj : j < 19) (hq : q < ws.files.length) (hw : WB n ws) : WB (n + s.length + 1) (wrF j q s A c tA tc ws) := by
  have h2 := wb_wrote (s := s) hj hq hw A c
  unfold wrF
  split
  · exact ⟨hw.opn, by have := hw.tr; omega, fun e he => by have := hw.txt e he; omega, fun f hf => by have := hw.fl f hf; omega, fun d hd => by have := hw.pl d hd; omega, by have := hw.sin; omega⟩
  · have hb := sayF_bounds (k := 3) (name := (ws.opn.getD j default).name) (text := s) hw.tr hw.txt
    exact ⟨h2.opn, hb.1, fun e he => by have := hb.2 e he; omega, fun f hf => by have := h2.fl f hf; omega, fun d hd => by have := h2.pl d hd; omega, by have := h2.sin; simp only at this ⊢; omega⟩
theorem uniq_of {l l' : List FileR} (h : l'.map (·.name) = l.map (·.name)) (hu : Uniq l) : Uniq l' := by unfold Uniq; rw [h]; exact hu
theorem len_of {l l' : List FileR} (h : l'.map (·.name) = l.map (·.name)) : l'.length = l.length := by
  have := congrArg List.length h
  simpa using this
theorem name_of {l l' : List FileR} (h : l'.map (·.name) = l.map (·.name)) {q : Nat} (hq : q < l.length) : (l'.getD q default).name = (l.getD q default).name := by
  have e := congrArg (fun x : List (List UInt8) => x[q]?) h
  have hl := len_of h
  simp only [List.getElem?_map] at e
  rw [getD_eq' hq, getD_eq' (show q < l'.length by omega)]
  rw [List.getElem?_eq_getElem hq, List.getElem?_eq_getElem (show q < l'.length by omega)] at e
  simpa using e
/-- The texts of all events of a kind. -/
def toldF (k : Int) (l : List Evt) : List UInt8 := l.flatMap fun e => if e.kind = k then e.text else []
theorem toldF_append (k : Int) (l r : List Evt) : toldF k (l ++ r) = toldF k l ++ toldF k r := by simp [toldF]
theorem take_succ' {l : List Evt} {j : Nat} (h : j < l.length) : l.take (j + 1) = l.take j ++ [l.getD j default] := by
  rw [List.take_succ_eq_append_getElem h, getD_eq' h]
theorem toldF_succ {k : Int} {l : List Evt} {j : Nat} (h : j < l.length) : toldF k (l.take (j + 1)) = toldF k (l.take j) ++ (if (l.getD j default).kind = k then (l.getD j default).text else []) := by
  rw [take_succ' h, toldF_append]; simp [toldF]
theorem toldF_take_le (k : Int) (l : List Evt) (j : Nat) : (toldF k (l.take j)).length ≤ (toldF k l).length := by
  conv => rhs; rw [← List.take_append_drop j l, toldF_append]
  rw [List.length_append]; omega
def pickF (c : Int) (n : Int) : Int := (if c < 0 then -(c + 1) else c) % n
end Go.Proofs.Ytmiggpnkicdijaa
