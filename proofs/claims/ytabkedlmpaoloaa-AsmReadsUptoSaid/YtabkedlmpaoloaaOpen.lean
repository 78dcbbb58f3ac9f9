/-
  ARGUMENTS OPENED: lines, words, integers.
-/
import Derived.Test.YtabkedlmpaoloaaAw14
import Derived.Test.YtabkedlmpaoloaaAsm
namespace Go.Proofs.Ytabkedlmpaoloaa
open Go.ChangeShapes Go.WideShapes Go.ChangeAt Go Go.RowKit
set_option linter.unusedSimpArgs false
set_option linter.unnecessarySimpa false
theorem laidOut : laidOutB Try.prog = true := by kernel_rfl
theorem opens3 : Opens Try.prog 3 1 (fun z : Int => [.v (.int .i64 z)]) (fun _ => 1) (fun z => (Lit.int .i64 z).wf = true) := opens_int Try.underlying3 (by kernel_rfl)
theorem opens2 : Opens Try.prog 2 1 (fun z : Int => [.v (.int .i64 z)]) (fun _ => 1) (fun z => (Lit.int .i64 z).wf = true) := opens_int Try.underlying2 (by kernel_rfl)
theorem int_i64 {z : Int} (h : (Lit.int .i64 z).wf = true) : I64 z := by simpa [Lit.wf, IntKind.min, IntKind.max, IntKind.signed, IntKind.bits, I64] using h
theorem int_u64 {z : Int} (h : (Lit.int .u64 z).wf = true) : 0 ≤ z ∧ z ≤ 18446744073709551615 := by simpa [Lit.wf, IntKind.min, IntKind.max, IntKind.signed, IntKind.bits] using h
theorem opens30 : Opens Try.prog 30 6 insCells (fun _ => 1) InsOk :=
  (opens_struct Try.underlying30 (by kernel_rfl) (opensF_cons opens3 rfl (opensF_cons opens3 rfl (opensF_cons opens3 rfl (opensF_cons opens3 rfl (opensF_cons opens3 rfl (opensF_cons opens2 rfl opensF_nil))))))).turn (fun a => (⟨a.1, a.2.1, a.2.2.1, a.2.2.2.1, a.2.2.2.2.1, a.2.2.2.2.2.1⟩ : Ins))
    (fun a h => ⟨rfl, by omega, by
      obtain ⟨h1, h2, h3, h4, h5, h6, _⟩ := h
      exact ⟨int_i64 h1, int_i64 h2, int_i64 h3, int_i64 h4, int_i64 h5, int_i64 h6⟩⟩)
theorem opens32 : Opens Try.prog 32 10 lineCells (fun _ => 1) LineOk :=
  (opens_struct Try.underlying32 (by kernel_rfl) (opensF_cons opens3 rfl (opensF_cons opens30 rfl (opensF_cons opens3 rfl (opensF_cons opens3 rfl (opensF_cons opens3 rfl opensF_nil)))))).turn (fun a => (⟨a.1, a.2.1, a.2.2.1, a.2.2.2.1, a.2.2.2.2.1⟩ : Line))
    (fun a h => ⟨rfl, by omega, by
      obtain ⟨h1, h2, h3, h4, h5, _⟩ := h
      exact ⟨int_i64 h1, h2, int_i64 h3, int_i64 h4, int_i64 h5⟩⟩)
theorem opens22 : Opens Try.prog 22 1 (fun l : List Line => [linesT l]) (fun l => sumBulk (fun _ => 1) l + 1) (fun l => (∀ a ∈ l, LineOk a) ∧ l.length ≤ maxLen) := opens_slice Try.underlying22 (by kernel_rfl) (by decide) opens32
section
variable {H : Type} {enc : TypeId × Value → H} {w : World} {base b0 : Nat} {spare : Nat → Bool} {held : Bool} {v : Value} {d : DataW H} {p : List MemPlace}
set_option maxRecDepth 100000 in
theorem open_lines (hv : Value.okWide Try.prog w .any b0 22 v) (e : DataW.Trod enc Try.prog w base spare held 22 v d p) : ∃ l : List Line, VRep w [] (linesT l) v ∧ l.length ≤ Rows.uptoBulk d ∧ ∀ a ∈ l, LineOk a := by
  obtain ⟨l, h1, h2, h3⟩ := opens22.row Try.underlying22 hv e
  rw [sumBulk_one] at h3
  exact ⟨l, h2, by omega, h1.1⟩
set_option maxRecDepth 100000 in
theorem open_int (hv : Value.okWide Try.prog w .any b0 3 v) (e : DataW.Trod enc Try.prog w base spare held 3 v d p) : ∃ z, v = .int .i64 z ∧ I64 z := by
  obtain ⟨z, rfl⟩ := okWide_int Try.underlying3 hv
  obtain ⟨fuel, hf⟩ := e
  obtain ⟨z', h1, _, h2⟩ := DataW.trod_int Try.underlying3 hf
  simp only [Value.cells, List.cons.injEq, Value.int.injEq, true_and, and_true] at h1
  subst h1
  exact ⟨z, rfl, int_i64 h2⟩
set_option maxRecDepth 100000 in
theorem open_u64 (hv : Value.okWide Try.prog w .any b0 23 v) (e : DataW.Trod enc Try.prog w base spare held 23 v d p) : ∃ z, v = .int .u64 z ∧ 0 ≤ z ∧ z ≤ 18446744073709551615 := by
  obtain ⟨z, rfl⟩ := okWide_int Try.underlying23 hv
  obtain ⟨fuel, hf⟩ := e
  obtain ⟨z', h1, _, h2⟩ := DataW.trod_int Try.underlying23 hf
  simp only [Value.cells, List.cons.injEq, Value.int.injEq, true_and, and_true] at h1
  subst h1
  exact ⟨z, rfl, int_u64 h2⟩
end
end Go.Proofs.Ytabkedlmpaoloaa
