/-
  ARGUMENTS OPENED: an instruction, lists of them, bytes.
-/
import Derived.Test.YtjndpakhmgapjaaDoorAw14
import Derived.Test.YtjndpakhmgapjaaDoorAsm
namespace Go.Proofs.YtjndpakhmgapjaaDoor
open Go.ChangeShapes Go.WideShapes Go.ChangeAt Go Go.RowKit
set_option linter.unusedSimpArgs false
set_option linter.unnecessarySimpa false
theorem laidOut : laidOutB Tryd.prog = true := by kernel_rfl
theorem opens3 : Opens Tryd.prog 3 1 (fun z : Int => [.v (.int .i64 z)]) (fun _ => 1) (fun z => (Lit.int .i64 z).wf = true) := opens_int Tryd.underlying3 (by kernel_rfl)
theorem opens2 : Opens Tryd.prog 2 1 (fun z : Int => [.v (.int .i64 z)]) (fun _ => 1) (fun z => (Lit.int .i64 z).wf = true) := opens_int Tryd.underlying2 (by kernel_rfl)
theorem int_i64 {z : Int} (h : (Lit.int .i64 z).wf = true) : I64 z := by simpa [Lit.wf, IntKind.min, IntKind.max, IntKind.signed, IntKind.bits, I64] using h
theorem opens23 : Opens Tryd.prog 23 6 insCells (fun _ => 1) InsOk :=
  (opens_struct Tryd.underlying23 (by kernel_rfl) (opensF_cons opens3 rfl (opensF_cons opens3 rfl (opensF_cons opens3 rfl (opensF_cons opens3 rfl (opensF_cons opens3 rfl (opensF_cons opens2 rfl opensF_nil))))))).turn (fun a => (⟨a.1, a.2.1, a.2.2.1, a.2.2.2.1, a.2.2.2.2.1, a.2.2.2.2.2.1⟩ : Ins))
    (fun a h => ⟨rfl, by omega, by
      obtain ⟨h1, h2, h3, h4, h5, h6, _⟩ := h
      exact ⟨int_i64 h1, int_i64 h2, int_i64 h3, int_i64 h4, int_i64 h5, int_i64 h6⟩⟩)
theorem opens36 : Opens Tryd.prog 36 1 (fun l : List Ins => [inssT l]) (fun l => sumBulk (fun _ => 1) l + 1) (fun l => (∀ a ∈ l, InsOk a) ∧ l.length ≤ maxLen) := opens_slice Tryd.underlying36 (by kernel_rfl) (by decide) opens23
theorem opens24 : Opens Tryd.prog 24 1 (fun l : List UInt8 => [u8s l]) (fun l => l.length + 1) (fun l => l.length ≤ maxLen) :=
  (opens_bytes Tryd.underlying24 (by kernel_rfl) Tryd.underlying5 (by kernel_rfl)).turn id (fun l hl => ⟨rfl, Nat.le_refl _, hl⟩)
section
variable {H : Type} {enc : TypeId × Value → H} {w : World} {base b0 : Nat} {spare : Nat → Bool} {held : Bool} {v : Value} {d : DataW H} {p : List MemPlace}
set_option maxRecDepth 100000 in
theorem open_inss (hv : Value.okWide Tryd.prog w .any b0 36 v) (e : DataW.Trod enc Tryd.prog w base spare held 36 v d p) : ∃ l : List Ins, VRep w [] (inssT l) v ∧ l.length ≤ Rows.uptoBulk d ∧ ∀ a ∈ l, InsOk a := by
  obtain ⟨l, h1, h2, h3⟩ := opens36.row Tryd.underlying36 hv e
  rw [sumBulk_one] at h3
  exact ⟨l, h2, by omega, h1.1⟩
set_option maxRecDepth 100000 in
theorem open_ins (hv : Value.okWide Tryd.prog w .any b0 23 v) (e : DataW.Trod enc Tryd.prog w base spare held 23 v d p) : ∃ i : Ins, VRep w [] (insT i) v ∧ InsOk i := by
  obtain ⟨i, h1, h2, _⟩ := opens23.agg Tryd.underlying23 hv e
  exact ⟨i, h2, h1⟩
set_option maxRecDepth 100000 in
theorem open_bytes (hv : Value.okWide Tryd.prog w .any b0 24 v) (e : DataW.Trod enc Tryd.prog w base spare held 24 v d p) : ∃ l : List UInt8, VRep w [] (u8s l) v ∧ l.length ≤ Rows.uptoBulk d := by
  obtain ⟨l, _, h2, h3⟩ := opens24.row Tryd.underlying24 hv e
  exact ⟨l, h2, by omega⟩
end
end Go.Proofs.YtjndpakhmgapjaaDoor
