/-
  THE BYTES THAT GROW: what a pointer to them holds.
-/
import Derived.Test.YtjndpakhmgapjaaDoorIns
import Derived.Test.YtjndpakhmgapjaaDoorAw25
namespace Go.Proofs.YtjndpakhmgapjaaDoor
open Go Go.RowKit
set_option linter.unusedSimpArgs false
set_option linter.unusedVariables false
def CB (b : Nat) (A : Option Addr) (c : List UInt8) (bs : List UInt8) : St := [.row A (bs.length + c.length) (bs.length + c.length) 5 1 ((bs ++ c).map u8), .box b 49 [.v (.slice A bs.length (bs.length + c.length))]]
def cp (b : Nat) : Value := .pointer (some ⟨b, 0, none⟩)
theorem putF_take {l : List Int} {j : Nat} (h : j < l.length) : putF (l.take (j + 1)) = putF (l.take j) ++ [byteOf (l.getD j 0)] := by
  unfold putF
  rw [List.take_succ_eq_append_getElem h, List.map_append]
  simp [h]
theorem cbx_end {b : Nat} {c : List UInt8} {A : Option Addr} {bs bs' : List UInt8} {E : Ent} (h : bs = bs') : ∃ A' c' e, (CB b A c bs ++ [E] : St) = CB b A' c' bs' ++ [e] := by subst h; exact ⟨_, _, _, rfl⟩
theorem put_nb (x : Int) : [T.v (.int .u8 (IntKind.u8.wrap x))] = [byteOf x].map u8 := by rw [byteOf_wrap]; rfl
theorem enc_end {A : Option Addr} {c bs : List UInt8} {z : T} {i : Ins} (h : bs = encF i) : ∃ (A' : Option Addr) (r : List UInt8), T.tup [.v (.slice A bs.length (bs.length + c.length)), z] = .tup [.v (.slice A' (encF i).length ((encF i).length + r.length)), z] ∧ ([Ent.row A (bs.length + c.length) (bs.length + c.length) 5 1 ((bs ++ c).map u8)] : St) = [Ent.row A' ((encF i).length + r.length) ((encF i).length + r.length) 5 1 ((encF i ++ r).map u8)] := by subst h; exact ⟨A, c, rfl, rfl⟩
theorem opF_range (k : Int) : 0 ≤ (opF k).2 ∧ (opF k).2 ≤ 15 := by
  unfold opF
  split
  · rename_i h
    have h2 : ∀ n : Fin 39, 0 ≤ (opTab.getD n.val (255, 4)).2 ∧ (opTab.getD n.val (255, 4)).2 ≤ 15 := by decide
    exact h2 ⟨k.toNat, by omega⟩
  · exact ⟨by decide, by decide⟩
section
variable {i : Ins}
theorem enc0 (h : clsF i.kind = 0) : encF i = [byteOf (rexN true i.s i.d), byteOf (opF i.kind).1, byteOf (twoN i.s i.d)] := by unfold encF; rw [h]; rfl
theorem enc1 (h : clsF i.kind = 1) : encF i = byteOf (rexN true 0 i.d) :: byteOf (opF i.kind).1 :: byteOf (twoN (opF i.kind).2 i.d) :: immF i.imm 4 := by unfold encF; rw [h]; rfl
theorem enc2 (h : clsF i.kind = 2) : encF i = [byteOf (rexN true 0 i.d), byteOf (opF i.kind).1, byteOf (twoN (opF i.kind).2 i.d)] := by unfold encF; rw [h]; rfl
theorem enc3 (h : clsF i.kind = 3) : encF i = byteOf (rexN true 0 i.d) :: byteOf (opF i.kind).1 :: byteOf (twoN (opF i.kind).2 i.d) :: immF i.imm 1 := by unfold encF; rw [h]; rfl
theorem enc4 (h : clsF i.kind = 4) : encF i = [byteOf (rexN false 0 i.d), byteOf (opF i.kind).1, byteOf (twoN (opF i.kind).2 i.d)] := by unfold encF; rw [h]; rfl
theorem enc5 (h : clsF i.kind = 5) : encF i = if smallF i.imm = true then byteOf (rexN true 0 i.d) :: 199 :: byteOf (twoN 0 i.d) :: immF i.imm 4 else byteOf (rexN true 0 i.d) :: byteOf (184 + i.d % 8) :: immF i.imm 8 := by unfold encF; rw [h]; rfl
theorem enc6 (h : clsF i.kind = 6) : encF i = memoryF i := by unfold encF; rw [h]; rfl
theorem enc7 (h : clsF i.kind = 7) : encF i = jumpF i := by unfold encF; rw [h]; rfl
theorem enc9 (h : clsF i.kind = 9) : encF i = [byteOf (rexN false 0 i.d), byteOf (80 + i.d % 8)] := by unfold encF; rw [h]; rfl
theorem enc10 (h : clsF i.kind = 10) : encF i = [byteOf (rexN false 0 i.d), byteOf (88 + i.d % 8)] := by unfold encF; rw [h]; rfl
theorem enc11 (h : clsF i.kind = 11) : encF i = [195] := by unfold encF; rw [h]; rfl
theorem enc12 (h : clsF i.kind = 12) : encF i = [15, 5] := by unfold encF; rw [h]; rfl
theorem enc13 (h : clsF i.kind = 13) : encF i = [15, 11] := by unfold encF; rw [h]; rfl
end
end Go.Proofs.YtjndpakhmgapjaaDoor
