/-
  THE KNOWN GRAPH: its bytes and what they read as, by the kernel.
-/
import Derived.Test.YtbndnmmceccbkaaReadC
namespace Go.Proofs.Ytbndnmmceccbkaa
open Go Go.RowKit
def loopG : Graph := ⟨[⟨2, 0, [97, 98, 99], []⟩, ⟨1, 2, [], [⟨2, 1⟩, ⟨2, 0⟩, ⟨1, -1⟩]⟩], [⟨2, 1⟩]⟩
def loopC : Graph := ⟨[⟨1, 2, [], [⟨2, 0⟩, ⟨2, 1⟩, ⟨1, -1⟩]⟩, ⟨2, 0, [97, 98, 99], []⟩], [⟨2, 0⟩]⟩
def kb : List UInt8 := layBs loopG 4096
instance (r : RefV) : Decidable (RefOk r) := inferInstanceAs (Decidable (_ ∧ _ ∧ _ ∧ _))
theorem refs_ok {l : List RefV} (h : l.all (fun r => decide (RefOk r)) = true) : ∀ r ∈ l, RefOk r := fun r hr => of_decide_eq_true (List.all_eq_true.1 h r hr)
theorem thing_ok {t : Thing} (h : (decide (-9223372036854775808 ≤ t.kind) && decide (t.kind ≤ 9223372036854775807) && decide (-9223372036854775808 ≤ t.tag) && decide (t.tag ≤ 9223372036854775807) && decide (t.bytes.length ≤ 1099511627) && decide (t.refs.length ≤ 1099511627) && t.refs.all (fun r => decide (RefOk r))) = true) : ThingOk 1099511627 t := by
  simp only [Bool.and_eq_true, decide_eq_true_eq] at h
  obtain ⟨⟨⟨⟨⟨⟨a, b⟩, c⟩, d⟩, e⟩, f⟩, g⟩ := h
  exact ⟨a, b, c, d, e, f, refs_ok g⟩
theorem loopG_ok : GraphOk 1099511627 loopG := ⟨by decide, by decide, fun t ht => by
  simp only [loopG, List.mem_cons, List.not_mem_nil, or_false] at ht
  rcases ht with rfl | rfl
  · exact thing_ok (by decide +kernel)
  · exact thing_ok (by decide +kernel), refs_ok (by decide +kernel)⟩
theorem loopC_ok : GraphOk 1099511627 loopC := ⟨by decide, by decide, fun t ht => by
  simp only [loopC, List.mem_cons, List.not_mem_nil, or_false] at ht
  rcases ht with rfl | rfl
  · exact thing_ok (by decide +kernel)
  · exact thing_ok (by decide +kernel), refs_ok (by decide +kernel)⟩
theorem kb_len : kb.length = 48 := by decide +kernel
theorem kb_lay : layT loopG 4096 = .tup [u8s kb, .sl 1 ([4112].map zu), .v (.int .i64 0)] := by
  have h1 : layE loopG 4096 = 0 := by decide +kernel
  have h2 : layWs loopG 4096 = [4112] := by decide +kernel
  rw [layT, h1, h2]; rfl
theorem kb_read : readR kb 4096 [4112] = (loopC, 0) := by decide +kernel
theorem kb_same : sameF loopC loopG = true := by decide +kernel
theorem kb_check : checkF loopG = 0 := by decide +kernel
theorem kb_total : totalF loopG.things ≤ 100000000000000 := by decide +kernel
theorem kb_ws : PlOk [4112] := fun z hz => by simp only [List.mem_singleton] at hz; subst hz; decide
end Go.Proofs.Ytbndnmmceccbkaa
