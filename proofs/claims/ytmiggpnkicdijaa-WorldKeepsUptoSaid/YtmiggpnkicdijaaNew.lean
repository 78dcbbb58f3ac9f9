/-
  A WORLD AS IT BEGINS.
-/
import Derived.Test.YtmiggpnkicdijaaWr
namespace Go.Proofs.Ytmiggpnkicdijaa
open Go Go.RowKit
def fCells (x : List UInt8 × List UInt8) : List T := [sv x.1, sv x.2]
def worldT (s : List UInt8) (l : List (List UInt8 × List UInt8)) : T := .agg [sv s, .sl 2 (l.flatMap fCells)]
theorem fk (x : List UInt8 × List UInt8) : (fCells x).length = 2 := rfl
theorem len_fc {l : List (List UInt8 × List UInt8)} : (l.flatMap fCells).length = l.length * 2 := len_flat fk l
theorem fc_get {l : List (List UInt8 × List UInt8)} {j : Nat} (h : j < l.length) : ((l.flatMap fCells).drop (j * 2)).take 2 = fCells (l.getD j default) ∧ (fCells (l.getD j default)).length = 2 := by
  refine ⟨?_, rfl⟩
  rw [drop_flat fk, List.drop_eq_getElem_cons h, List.flatMap_cons, getD_eq' h]
  rfl
def fitsB (n : List UInt8) : Bool := !decide (n = []) && decide ((n.length : Int) ≤ 255) && decide (Lib.indexByte n 0 < 0)
def stepN (acc : List (List UInt8 × List UInt8)) (x : List UInt8 × List UInt8) : List (List UInt8 × List UInt8) := if !(acc.any fun y => decide (y.1 = x.1)) && fitsB x.1 then acc ++ [x] else acc
def nF (l : List (List UInt8 × List UInt8)) : List (List UInt8 × List UInt8) := l.foldl stepN []
theorem nF_succ {l : List (List UInt8 × List UInt8)} {j : Nat} (h : j < l.length) : nF (l.take (j + 1)) = stepN (nF (l.take j)) (l.getD j default) := by
  rw [List.take_succ_eq_append_getElem h, nF, List.foldl_append, getD_eq' h]; rfl
def nb (f : FileR) : List UInt8 × List UInt8 := (f.name, f.bytes)
theorem hasK_any (name : List UInt8) : ∀ (l : List FileR), hasK name l = (l.map nb).any fun y => decide (y.1 = name)
  | [] => rfl
  | f :: r => by
    have ih := hasK_any name r
    unfold hasK at ih ⊢
    rw [List.map_cons, getK, List.map_cons, List.any_cons]
    by_cases h : f.name = name
    · rw [if_pos (by simp [fileKey, h])]; simp [nb, h]
    · rw [if_neg (by simpa [fileKey] using h), ih]; simp [nb, h]
def zd : Desc := ⟨0, [], 0⟩
def opnZ : List Desc := [zd, zd, zd, zd, zd, zd, zd, zd, zd, zd, zd, zd, zd, zd, zd, zd, zd, zd, zd]
def opn0 : List Desc := [⟨1, [], 0⟩, ⟨2, [], 0⟩, ⟨3, [], 0⟩, zd, zd, zd, zd, zd, zd, zd, zd, zd, zd, zd, zd, zd, zd, zd, zd]
theorem perm_new {a b r : Ent} {l : St} : (b :: a :: r :: l).Perm (a :: b :: (l ++ [r])) :=
  (List.Perm.swap a b (r :: l)).trans (((List.perm_append_singleton r l).symm.cons b).cons a)
theorem nF_uniq : ∀ (l : List (List UInt8 × List UInt8)) (acc : List (List UInt8 × List UInt8)), (acc.map (·.1)).Nodup → ((l.foldl stepN acc).map (·.1)).Nodup
  | [], acc, h => h
  | x :: r, acc, h => by
    rw [List.foldl_cons]
    refine nF_uniq r _ ?_
    unfold stepN
    split
    · rename_i hc
      rw [List.map_append, List.nodup_append]
      refine ⟨h, by simp, fun a ha b hb => ?_⟩
      simp only [List.map_cons, List.map_nil, List.mem_singleton] at hb
      subst hb
      rintro rfl
      simp only [Bool.and_eq_true, Bool.not_eq_true', List.any_eq_false, decide_eq_true_eq] at hc
      obtain ⟨y, hy, he⟩ := List.mem_map.1 ha
      exact hc.1 y hy he
    · exact h
theorem nF_sub : ∀ (l : List (List UInt8 × List UInt8)) (acc : List (List UInt8 × List UInt8)), ∀ x ∈ l.foldl stepN acc, x ∈ acc ∨ x ∈ l
  | [], acc, x, h => .inl h
  | y :: r, acc, x, h => by
    rw [List.foldl_cons] at h
    rcases nF_sub r _ x h with h | h
    · unfold stepN at h
      split at h
      · rcases List.mem_append.1 h with h | h
        · exact .inl h
        · rw [List.mem_singleton] at h; subst h; exact .inr (List.mem_cons_self ..)
      · exact .inl h
    · exact .inr (List.mem_cons_of_mem _ h)
theorem new_uniq {fl : List FileR} {l : List (List UInt8 × List UInt8)} (h : fl.map nb = nF l) : Uniq fl := by
  have h1 := nF_uniq l [] (by simp)
  have h2 : (fl.map nb).map (·.1) = fl.map (·.name) := by rw [List.map_map]; rfl
  rw [show l.foldl stepN [] = nF l from rfl, ← h, h2] at h1
  exact h1
theorem new_wb {fl : List FileR} {l : List (List UInt8 × List UInt8)} {s : List UInt8} {n : Nat} (h : fl.map nb = nF l) (hs : s.length ≤ n) (hl : ∀ x ∈ l, x.2.length ≤ n) : WB n ⟨fl, s, opn0, [], none, 0⟩ := by
  refine ⟨rfl, Nat.zero_le _, fun e he => (by cases he), fun f hf => ?_, fun d hd => ?_, hs⟩
  · have : nb f ∈ nF l := h ▸ List.mem_map.2 ⟨f, hf, rfl⟩
    rcases nF_sub l [] _ this with h | h
    · cases h
    · exact hl _ h
  · have : ∀ d ∈ opn0, d.place = 0 := by decide
    rw [this d hd]; exact Nat.zero_le _
end Go.Proofs.Ytmiggpnkicdijaa
