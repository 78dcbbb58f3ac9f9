/-
  ARGUMENTS OPENED: strings, integers, slices of these.
-/
import Derived.Test.YtmiggpnkicdijaaAw14
import Derived.Test.YtmiggpnkicdijaaLaws
namespace Go.Proofs.Ytmiggpnkicdijaa
open Go.ChangeShapes Go.WideShapes Go.ChangeAt Go Go.RowKit
theorem laidOut : laidOutB Try.prog = true := by kernel_rfl
theorem opens9 : Opens Try.prog 9 1 (fun l : List UInt8 => [sv l]) (fun l => l.length + 1) (fun l => l.length ≤ maxLen) := opens_string Try.underlying9 (by kernel_rfl)
theorem opens3 : Opens Try.prog 3 1 (fun z : Int => [.v (.int .i64 z)]) (fun _ => 1) (fun z => (Lit.int .i64 z).wf = true) := opens_int Try.underlying3 (by kernel_rfl)
theorem opens51 : Opens Try.prog 51 1 (fun z : Int => [.v (.int .u64 z)]) (fun _ => 1) (fun z => (Lit.int .u64 z).wf = true) := opens_int Try.underlying51 (by kernel_rfl)
theorem opens22 : Opens Try.prog 22 1 (fun l : List (List UInt8) => [.sl 1 (l.flatMap fun s => [sv s])]) (fun l => sumBulk (fun s => s.length + 1) l + 1) (fun l => (∀ s ∈ l, s.length ≤ maxLen) ∧ l.length ≤ maxLen) := opens_slice Try.underlying22 (by kernel_rfl) (by decide) opens9
theorem opens23 : Opens Try.prog 23 1 (fun l : List Int => [.sl 1 (l.flatMap fun z => [.v (.int .i64 z)])]) (fun l => sumBulk (fun _ => 1) l + 1) (fun l => (∀ z ∈ l, (Lit.int .i64 z).wf = true) ∧ l.length ≤ maxLen) := opens_slice Try.underlying23 (by kernel_rfl) (by decide) opens3
theorem opens44 : Opens Try.prog 44 1 (fun l : List Int => [.sl 1 (l.flatMap fun z => [.v (.int .u64 z)])]) (fun l => sumBulk (fun _ => 1) l + 1) (fun l => (∀ z ∈ l, (Lit.int .u64 z).wf = true) ∧ l.length ≤ maxLen) := opens_slice Try.underlying44 (by kernel_rfl) (by decide) opens51
theorem int_i64 {z : Int} (h : (Lit.int .i64 z).wf = true) : -9223372036854775808 ≤ z ∧ z ≤ 9223372036854775807 := by simpa [Lit.wf, IntKind.min, IntKind.max, IntKind.signed, IntKind.bits] using h
theorem int_u64 {z : Int} (h : (Lit.int .u64 z).wf = true) : 0 ≤ z ∧ z ≤ 18446744073709551615 := by simpa [Lit.wf, IntKind.min, IntKind.max, IntKind.signed, IntKind.bits] using h
set_option maxRecDepth 100000 in
theorem open_str {H : Type} {enc : TypeId × Value → H} {w : World} {base b0 : Nat} {spare : Nat → Bool} {held : Bool} {v : Value} {d : DataW H} {p : List MemPlace} (hv : Value.okWide Try.prog w .any b0 9 v) (e : DataW.Trod enc Try.prog w base spare held 9 v d p) : ∃ l, l.length ≤ maxLen ∧ VRep w [] (sv l) v ∧ l.length + 1 ≤ Rows.uptoBulk d := by
  obtain ⟨s, rfl⟩ := okWide_string Try.underlying9 hv
  obtain ⟨fuel, hf⟩ := e
  obtain ⟨a, h1, h2, h3, h4⟩ := opens9.one hf
  simp only [Value.cells] at h2 h3
  exact ⟨a, h1, h2.at_ 0 _ _ rfl rfl, h4⟩
set_option maxRecDepth 100000 in
theorem open_i64 {H : Type} {enc : TypeId × Value → H} {w : World} {base b0 : Nat} {spare : Nat → Bool} {held : Bool} {v : Value} {d : DataW H} {p : List MemPlace} (hv : Value.okWide Try.prog w .any b0 3 v) (e : DataW.Trod enc Try.prog w base spare held 3 v d p) : ∃ z, v = .int .i64 z ∧ -9223372036854775808 ≤ z ∧ z ≤ 9223372036854775807 := by
  obtain ⟨z, rfl⟩ := okWide_int Try.underlying3 hv
  obtain ⟨fuel, hf⟩ := e
  obtain ⟨z', h1, _, h2⟩ := DataW.trod_int Try.underlying3 hf
  simp only [Value.cells, List.cons.injEq, Value.int.injEq, true_and, and_true] at h1
  subst h1
  exact ⟨z, rfl, int_i64 h2⟩
set_option maxRecDepth 100000 in
theorem open_strs {H : Type} {enc : TypeId × Value → H} {w : World} {base b0 : Nat} {spare : Nat → Bool} {held : Bool} {v : Value} {d : DataW H} {p : List MemPlace} (hv : Value.okWide Try.prog w .any b0 22 v) (e : DataW.Trod enc Try.prog w base spare held 22 v d p) : ∃ l : List (List UInt8), VRep w [] (.sl 1 (l.map sv)) v ∧ sumBulk (fun s => s.length + 1) l + 1 ≤ Rows.uptoBulk d := by
  obtain ⟨l, _, h2, h3⟩ := opens22.row Try.underlying22 hv e
  rw [flat_one] at h2
  exact ⟨l, h2, h3⟩
set_option maxRecDepth 100000 in
theorem open_i64s {H : Type} {enc : TypeId × Value → H} {w : World} {base b0 : Nat} {spare : Nat → Bool} {held : Bool} {v : Value} {d : DataW H} {p : List MemPlace} (hv : Value.okWide Try.prog w .any b0 23 v) (e : DataW.Trod enc Try.prog w base spare held 23 v d p) : ∃ l : List Int, VRep w [] (.sl 1 (l.map fun z => .v (.int .i64 z))) v ∧ l.length ≤ Rows.uptoBulk d ∧ ∀ z ∈ l, -9223372036854775808 ≤ z ∧ z ≤ 9223372036854775807 := by
  obtain ⟨l, h1, h2, h3⟩ := opens23.row Try.underlying23 hv e
  rw [flat_one] at h2
  rw [sumBulk_one] at h3
  exact ⟨l, h2, by omega, fun z hz => int_i64 (h1.1 z hz)⟩
set_option maxRecDepth 100000 in
theorem open_u64s {H : Type} {enc : TypeId × Value → H} {w : World} {base b0 : Nat} {spare : Nat → Bool} {held : Bool} {v : Value} {d : DataW H} {p : List MemPlace} (hv : Value.okWide Try.prog w .any b0 44 v) (e : DataW.Trod enc Try.prog w base spare held 44 v d p) : ∃ l : List Int, VRep w [] (.sl 1 (l.map fun z => .v (.int .u64 z))) v ∧ l.length ≤ Rows.uptoBulk d ∧ ∀ z ∈ l, 0 ≤ z ∧ z ≤ 18446744073709551615 := by
  obtain ⟨l, h1, h2, h3⟩ := opens44.row Try.underlying44 hv e
  rw [flat_one] at h2
  rw [sumBulk_one] at h3
  exact ⟨l, h2, by omega, fun z hz => int_u64 (h1.1 z hz)⟩
end Go.Proofs.Ytmiggpnkicdijaa
