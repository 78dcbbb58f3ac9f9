/-
  SMALL LAWS on worlds that the statements want.
-/
import Derived.Test.YtmiggpnkicdijaaNew
namespace Go.Proofs.Ytmiggpnkicdijaa
open Go Go.RowKit
theorem world_nil (s : List UInt8) : Le (.agg [sv s, .v (.slice none 0 0)]) (worldT s []) :=
  .agg (.cons .refl (.cons (nil_sl (k := 2) (by unfold maxLen; omega)) ⟨rfl, fun j t t' h => by simp at h⟩))
theorem openR_read {name : List UInt8} {ws : WS} (h1 : name.length ≤ 255) (h2 : Lib.indexByte name 0 < 0) (h3 : name ≠ []) (h4 : hasK name ws.files = true) (h5 : freeIx ws.opn < 19) : openR name 0 ws = (freeIx ws.opn : Int) := by
  unfold openR
  rw [if_neg (by omega), if_neg (by omega), if_neg h3, if_neg (fun q => by rw [h4] at q; cases q.2), if_pos h5]
theorem openR_write {name : List UInt8} {ws : WS} (h1 : name.length ≤ 255) (h2 : Lib.indexByte name 0 < 0) (h3 : name ≠ []) (h5 : freeIx ws.opn < 19) : openR name 577 ws = (freeIx ws.opn : Int) := by
  unfold openR
  rw [if_neg (by omega), if_neg (by omega), if_neg h3, if_neg (fun q => by have := q.1; omega), if_pos h5]
theorem has_of {l : List FileR} {name : List UInt8} {q : Nat} (hq : q < l.length) (h : (l.getD q default).name = name) : hasK name l = true := by
  rw [hasK_any, List.any_eq_true]
  exact ⟨nb (l.getD q default), List.mem_map.2 ⟨_, getD_mem' hq, rfl⟩, by simpa [nb] using h⟩
theorem uniq_ix : ∀ {l : List FileR} {q q' : Nat}, Uniq l → q < l.length → q' < l.length → (l.getD q default).name = (l.getD q' default).name → q = q'
  | [], _, _, _, h, _, _ => by simp at h
  | f :: r, 0, 0, _, _, _, _ => rfl
  | f :: r, 0, q' + 1, hu, _, h', e => by
    rw [Uniq, List.map_cons, List.nodup_cons] at hu
    rw [List.getD_cons_zero, List.getD_cons_succ] at e
    exact absurd (List.mem_map.2 ⟨_, getD_mem' (by simpa using h'), e.symm⟩) hu.1
  | f :: r, q + 1, 0, hu, h, _, e => by
    rw [Uniq, List.map_cons, List.nodup_cons] at hu
    rw [List.getD_cons_zero, List.getD_cons_succ] at e
    exact absurd (List.mem_map.2 ⟨_, getD_mem' (by simpa using h), e⟩) hu.1
  | f :: r, q + 1, q' + 1, hu, h, h', e => by
    rw [Uniq, List.map_cons, List.nodup_cons] at hu
    rw [List.getD_cons_succ, List.getD_cons_succ] at e
    rw [uniq_ix hu.2 (by simpa using h) (by simpa using h') e]
theorem line_ab : List.take (lineN [97, 98, 10, 99]) ([97, 98, 10, 99] : List UInt8) = [97, 98, 10] := by decide
theorem rest_ab : List.drop (lineN [97, 98, 10, 99]) ([97, 98, 10, 99] : List UInt8) = [99] := by decide
theorem fl_nil {fl : List FileR} (h : fl.map nb = nF []) : fl = [] := by
  cases fl with
  | nil => rfl
  | cons a r => simp [nF] at h
end Go.Proofs.Ytmiggpnkicdijaa
