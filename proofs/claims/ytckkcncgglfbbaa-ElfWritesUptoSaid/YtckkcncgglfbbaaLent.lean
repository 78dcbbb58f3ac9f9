/-
  AN IMAGE IN MEMORY OF ITS OWN, with marks behind each segment's bytes.
-/
import Derived.Test.YtckkcncgglfbbaaAw15
import Derived.Test.YtckkcncgglfbbaaRef
namespace Go.Proofs.Ytckkcncgglfbbaa
open Go Go.RowKit
def marked (bs : List UInt8) : List T := bs.map u8 ++ [.v (.int .u8 77), .v (.int .u8 0)]
def lentCells (s : Seg) : List T := [.v (.int .u64 s.at_), .v (.int .u64 s.size), .v (.int .i64 s.may), .sp 1 s.data.length (marked s.data)]
def lentT (i : Img) : T := .agg [.v (.int .u64 i.entry), .sl 4 (i.segs.flatMap lentCells)]
theorem lent_sp (bs : List UInt8) : Le (.sp 1 bs.length (marked bs)) (u8s bs) := fun w L u h => by
  have := sp_sl (by decide) w L u h
  rw [Nat.mul_one, marked, List.take_left' (by simp)] at this
  exact this
theorem lent_img (i : Img) : Le (.agg [.v (.int .u64 i.entry), .sl 4 (i.segs.flatMap lentCells)]) (imgT i) :=
  .agg (.cons .refl (.cons (.sl (.flatMap fun s _ => .cons .refl (.cons .refl (.cons .refl (.cons (lent_sp s.data) .refl))))) .refl))
theorem len_lent {l : List Seg} : (l.flatMap lentCells).length = l.length * 4 := by
  induction l with
  | nil => rfl
  | cons s r ih => rw [List.flatMap_cons, List.length_append, ih]; simp [lentCells]; omega
theorem drop_lent : ∀ (l : List Seg) (j : Nat), (l.flatMap lentCells).drop (j * 4) = (l.drop j).flatMap lentCells
  | [], j => by simp
  | s :: r, 0 => by simp
  | s :: r, j + 1 => by
    rw [List.flatMap_cons, Nat.add_mul, Nat.one_mul, Nat.add_comm, List.drop_append]
    have h : (lentCells s).length = 4 := rfl
    rw [List.drop_of_length_le (by omega), h, List.nil_append, Nat.add_sub_cancel_left, drop_lent r j]
    rfl
theorem lent_at {l : List Seg} {j : Nat} (h : j < l.length) : (l.flatMap lentCells)[j * 4 + 3]? = some (.sp 1 (l.getD j default).data.length (marked (l.getD j default).data)) := by
  rw [← List.getElem?_drop, drop_lent, List.drop_eq_getElem_cons h, List.flatMap_cons]
  have e : l.getD j default = l[j] := by simp [h]
  rw [e]
  rfl
theorem take_lent {l : List Seg} {j : Nat} (h : j < l.length) : (l.take (j + 1)).flatMap lentCells = (l.take j).flatMap lentCells ++ lentCells (l.getD j default) := by
  rw [List.take_succ_eq_append_getElem h, List.flatMap_append]
  simp [h]
theorem marked_len (bs : List UInt8) : (marked bs).length = bs.length + 2 := by simp [marked]
theorem flat_one_rep (n : Nat) (z : T) : (List.replicate n [z]).flatten = List.replicate n z := by
  induction n with
  | zero => rfl
  | succ n ih => rw [List.replicate_succ, List.flatten_cons, ih, List.replicate_succ]; rfl
theorem mark_cells (bs : List UInt8) : (bs.map u8 ++ ((List.replicate (bs.length + 2) [T.v (.int .u8 0)]).flatten).drop bs.length).set (bs.length * 1) (.v (.int .u8 77)) = marked bs := by
  rw [flat_one_rep, List.drop_replicate, Nat.add_sub_cancel_left, Nat.mul_one, List.set_append_right _ _ (by simp)]
  simp [marked, List.replicate_succ]
theorem mark_at (bs : List UInt8) : ((marked bs).take ((bs.length + 1) * 1))[bs.length * 1]? = some (.v (.int .u8 77)) := by
  rw [Nat.mul_one, Nat.mul_one, List.getElem?_take, if_pos (by omega), marked, List.getElem?_append_right (by simp)]
  simp
theorem u8_not (b : UInt8) : ∃ c : UInt8, T.v (.int .u8 (bitsOf .xor .u8 (if IntKind.u8.signed then -1 else IntKind.u8.max) b.toNat)) = u8 c := ⟨_, u8_wrap _⟩
end Go.Proofs.Ytckkcncgglfbbaa
