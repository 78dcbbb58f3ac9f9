/-
  A FILE THAT IS WRITTEN BY PARTS AND READ BY PARTS.
-/
import Derived.Test.YtmiggpnkicdijaaTells
namespace Go.Proofs.Ytmiggpnkicdijaa
open Go Go.RowKit
theorem only_name {fl : List FileR} {other data name : List UInt8} {q : Nat} (h : fl.map nb = nF [(other, data)]) (hq : q < fl.length) (hn : (fl.getD q default).name = name) : name = other := by
  have h1 : nb (fl.getD q default) ∈ nF [(other, data)] := h ▸ List.mem_map.2 ⟨_, getD_mem' hq, rfl⟩
  rcases nF_sub _ [] _ h1 with h2 | h2
  · cases h2
  · rw [List.mem_singleton] at h2
    rw [← hn]
    exact congrArg Prod.fst h2
/-- While it is written. -/
structure KW (q : Nat) (name all : List UInt8) (n : Nat) (ws : WS) : Prop where
  wb : WB n ws
  uq : Uniq ws.files
  hq : q < ws.files.length
  nm : (ws.files.getD q default).name = name
  bytes : (ws.files.getD q default).bytes = all
  opn : ws.opn = opn0.set 3 ⟨5, name, all.length⟩
  tr : ws.trace = [⟨3, name, all⟩]
theorem KW.desc {q n : Nat} {name all : List UInt8} {ws : WS} (h : KW q name all n ws) : ws.opn.getD 3 default = ⟨5, name, all.length⟩ := by rw [h.opn]; rfl
theorem KW.write {q n : Nat} {name all : List UInt8} {ws : WS} (h : KW q name all n ws) (s : List UInt8) (A tA : Option Addr) (c tc : Nat) : KW q name (all ++ s) (n + s.length + 1) (wrF 3 q s A c tA tc ws) := by
  have hW := wrF_is (s := s) (A := A) (tA := tA) (c := c) (tc := tc) (ws := ws) (j := 3) (q := q) (by rw [h.wb.opn]; decide) h.hq
  refine ⟨wrF_wb (by decide) h.hq h.wb, uniq_of hW.names h.uq, by rw [len_of hW.names]; exact h.hq, by rw [name_of hW.names h.hq, h.nm], ?_, ?_, ?_⟩
  · rw [hW.bytes (by rw [h.desc, h.bytes]), h.bytes]
  · rw [hW.opn, h.desc, h.opn, List.set_set, List.length_append]
  · rw [hW.trace, h.desc, h.tr]
    simp only
    by_cases hs : s = []
    · subst hs; rw [sayF_nil, List.append_nil]
    · exact (sayF_more (k := 3) (name := name) (l := [⟨3, name, all⟩]) hs ⟨Nat.succ_pos 0, rfl, rfl⟩).trans rfl
/-- While it is read. -/
structure KR (q : Nat) (name all : List UInt8) (g n : Nat) (ws : WS) : Prop where
  wb : WB n ws
  uq : Uniq ws.files
  hq : q < ws.files.length
  nm : (ws.files.getD q default).name = name
  bytes : (ws.files.getD q default).bytes = all
  opn : ws.opn = opn0.set 3 ⟨4, name, g⟩
  tr : ws.trace = [⟨3, name, all⟩]
  le : g ≤ all.length
theorem KR.desc {q g n : Nat} {name all : List UInt8} {ws : WS} (h : KR q name all g n ws) : ws.opn.getD 3 default = ⟨4, name, g⟩ := by rw [h.opn]; rfl
def rdF (all : List UInt8) (g : Nat) (n : Int) : List UInt8 := (all.drop g).take n.toNat
theorem rdF_len (all : List UInt8) (g : Nat) (n : Int) : (rdF all g n).length = min n.toNat (all.length - g) := by simp [rdF]
theorem KR.read {q g n : Nat} {name all : List UInt8} {ws : WS} (h : KR q name all g n ws) (k : Int) (hn : all.length ≤ n) : KR q name all (g + (rdF all g k).length) n { ws with opn := ws.opn.set 3 { ws.opn.getD 3 default with place := (ws.opn.getD 3 default).place + (rdF all g k).length } } := by
  have hl := rdF_len all g k
  have hle := h.le
  refine ⟨wb_opn h.wb 3 _ (by rw [h.desc]; simp only; omega), h.uq, h.hq, h.nm, h.bytes, ?_, h.tr, by omega⟩
  show ws.opn.set 3 _ = _
  rw [h.desc, h.opn, List.set_set]
theorem take_read {all : List UInt8} {g : Nat} {k : Int} : all.take g ++ rdF all g k = all.take (g + (rdF all g k).length) := by
  rw [rdF_len, List.take_add]
  congr 1
  unfold rdF
  rcases Nat.le_total k.toNat (all.length - g) with h | h
  · rw [Nat.min_eq_left h]
  · rw [Nat.min_eq_right h, List.take_of_length_le (by rw [List.length_drop]; exact h), List.take_of_length_le (by rw [List.length_drop]; exact Nat.le_refl _)]
def joinF (l : List (List UInt8)) : List UInt8 := l.flatten
theorem joinF_succ {l : List (List UInt8)} {i : Nat} (h : i < l.length) : joinF (l.take (i + 1)) = joinF (l.take i) ++ l.getD i [] := by
  have e : l.getD i [] = l[i] := by simp [h]
  rw [joinF, joinF, List.take_succ_eq_append_getElem h, e, List.flatten_append, List.flatten_singleton]
theorem joinF_len : ∀ (l : List (List UInt8)), (joinF l).length ≤ sizeB l
  | [] => Nat.le_refl _
  | a :: r => by
    have := joinF_len r
    simp only [joinF, sizeB, List.flatten_cons, List.length_append, List.map_cons, List.sum_cons] at this ⊢
    omega
end Go.Proofs.Ytmiggpnkicdijaa
