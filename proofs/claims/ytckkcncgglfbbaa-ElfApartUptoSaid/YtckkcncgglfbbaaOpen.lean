/-
  ARGUMENTS OPENED: what a reading of bytes gives.
-/
import Derived.Test.YtckkcncgglfbbaaRows
import Derived.Test.YtckkcncgglfbbaaLaw
import Derived.ProofKit
import Derived.OpenShut
import Derived.JoinedCond
import Derived.Carry
namespace Go.Proofs.Ytckkcncgglfbbaa
open Go.ChangeShapes Go.WideShapes Go.ChangeAt Go Go.RowKit
theorem laidOut : laidOutB Try.prog = true := by kernel_rfl
theorem cells5 : Try.prog.cellsOf 5 = 1 := by kernel_rfl
theorem bulk_one {H : Type} (d : DataW H) : 1 ≤ Rows.uptoBulk d := by
  cases d with
  | lit l => cases l <;> simp [Rows.uptoBulk]
  | _ => simp [Rows.uptoBulk]
theorem bulk_len {H : Type} (l : List (DataW H)) : l.length ≤ Rows.uptoBulkAll l := by
  induction l with
  | nil => simp [Rows.uptoBulkAll]
  | cons x r ih => have := bulk_one x; simp only [Rows.uptoBulkAll, List.length_cons]; omega
theorem bound {H : Type} {l : List (DataW H)} (hk : Rows.uptoSmall H l = true) : Rows.uptoBulkAll l ≤ 1048576 := by
  simpa [Rows.uptoSmall] using hk
def byteOfInt (z : Int) : UInt8 := UInt8.ofNat z.toNat
theorem byteOfInt_back {z : Int} (h : (Lit.int .u8 z).wf = true) : ((byteOfInt z).toNat : Int) = z := by
  have hx : 0 ≤ z ∧ z ≤ 255 := by simpa [Lit.wf, IntKind.min, IntKind.max, IntKind.signed, IntKind.bits] using h
  unfold byteOfInt
  rw [UInt8.toNat_ofNat']
  omega
theorem cell_lt {w : World} {a : Addr} {v : Value} (h : w.cell? a = some v) : a.block < w.heap.size := by
  rcases Nat.lt_or_ge a.block w.heap.size with hn | hn
  · exact hn
  · simp [World.cell?, Array.getElem?_eq_none hn] at h
theorem open_bytes {H : Type} {enc : TypeId × Value → H} {W : World} {base : Nat} {spare : Nat → Bool} {held : Bool} {fuel : Nat} {cs : List Value} {x : DataW H × List MemPlace} (h : DataW.trod enc Try.prog W base spare held fuel 27 cs = some x) :
    ∃ (A : Option Addr) (n c : Nat) (bs : List UInt8), cs = [.slice A n c] ∧ VRep W [] (u8s bs) (.slice A n c) ∧ bs.length ≤ Rows.uptoBulk x.1 := by
  rcases open_ints Try.underlying27 Try.underlying5 cells5 h with ⟨rfl, rfl⟩ | ⟨a, len, cap, zs, rfl, _, hl, hm, hz, rfl, hcell, hwz⟩
  · exact ⟨_, _, _, [], rfl, .sl0 (Nat.zero_le _), Nat.zero_le _⟩
  · have hlz : len ≤ zs.length := by split at hz <;> omega
    refine ⟨_, _, _, (zs.take len).map byteOfInt, rfl, ?_, ?_⟩
    · rcases Nat.eq_zero_or_pos len with rfl | hpos
      · exact .sl0 hm
      · have hl' : ((zs.take len).map byteOfInt).length = len := by simp; omega
        have hcells : ∀ (j : Nat) (u : Value), (((zs.take len).map byteOfInt).map fun b => Value.int .u8 b.toNat)[j]? = some u → W.cell? (a.add j) = some u := by
          intro j u hj
          have hjl : j < len := by
            have := (List.getElem?_eq_some_iff.1 hj).1
            simp at this
            omega
          rw [hcell j (by omega)]
          have hb : zs.getD j 0 = zs[j]'(by omega) := by simp [show j < zs.length by omega]
          have hw := hwz (zs[j]'(by omega)) (List.getElem_mem _)
          simp only [List.getElem?_map, List.getElem?_take, hjl, if_true, List.getElem?_eq_getElem (show j < zs.length by omega), Option.map_some, Option.some.injEq] at hj
          rw [← hj, hb, byteOfInt_back hw]
        have hc0 := hcells 0 _ (List.getElem?_eq_getElem (by simp; omega))
        refine .sl (us := (((zs.take len).map byteOfInt).map fun b => Value.int .u8 b.toNat)) hpos (by rw [List.length_map, hl']; omega) (by simp) hl hm (by have := cell_lt hc0; rwa [block_add] at this) (by simp) hcells ?_ ?_
        · intro j t u h1 h2
          rw [List.getElem?_map] at h1 h2
          obtain ⟨b, h3, rfl⟩ := Option.map_eq_some_iff.1 h1
          rw [h3] at h2
          simp only [Option.map_some, Option.some.injEq] at h2
          subst h2
          exact .v _
        · intro u hu
          obtain ⟨b, _, rfl⟩ := List.mem_map.1 hu
          rfl
    · have h1 := bulk_len (lits (H := H) .u8 (zs.take len))
      simp only [Rows.uptoBulk, List.length_map]
      have h2 : (lits (H := H) .u8 (zs.take len)).length = (zs.take len).length := by simp [lits]
      omega
end Go.Proofs.Ytckkcncgglfbbaa
