/-
  ARGUMENTS OPENED: graphs, things, bytes, words, integers; what their bulk bounds.
-/
import Derived.Test.YtbndnmmceccbkaaAw14
import Derived.Test.YtbndnmmceccbkaaTurn
import Derived.Test.YtbndnmmceccbkaaLay
namespace Go.Proofs.Ytbndnmmceccbkaa
open Go.ChangeShapes Go.WideShapes Go.ChangeAt Go Go.RowKit
theorem laidOut : laidOutB Try.prog = true := by kernel_rfl
theorem opens9 : Opens Try.prog 9 1 (fun l : List UInt8 => [sv l]) (fun l => l.length + 1) (fun l => l.length ≤ maxLen) := opens_string Try.underlying9 (by kernel_rfl)
theorem opens3 : Opens Try.prog 3 1 (fun z : Int => [.v (.int .i64 z)]) (fun _ => 1) (fun z => (Lit.int .i64 z).wf = true) := opens_int Try.underlying3 (by kernel_rfl)
theorem opens2 : Opens Try.prog 2 1 (fun z : Int => [.v (.int .i64 z)]) (fun _ => 1) (fun z => (Lit.int .i64 z).wf = true) := opens_int Try.underlying2 (by kernel_rfl)
theorem opens29 : Opens Try.prog 29 1 (fun z : Int => [.v (.int .u64 z)]) (fun _ => 1) (fun z => (Lit.int .u64 z).wf = true) := opens_int Try.underlying29 (by kernel_rfl)
theorem int_i64 {z : Int} (h : (Lit.int .i64 z).wf = true) : -9223372036854775808 ≤ z ∧ z ≤ 9223372036854775807 := by simpa [Lit.wf, IntKind.min, IntKind.max, IntKind.signed, IntKind.bits] using h
theorem int_u64 {z : Int} (h : (Lit.int .u64 z).wf = true) : 0 ≤ z ∧ z ≤ 18446744073709551615 := by simpa [Lit.wf, IntKind.min, IntKind.max, IntKind.signed, IntKind.bits] using h
theorem opens54 : Opens Try.prog 54 2 refCells (fun _ => 1) RefOk :=
  (opens_struct Try.underlying54 (by kernel_rfl) (opensF_cons opens3 rfl (opensF_cons opens2 rfl opensF_nil))).turn (fun a => (⟨a.1, a.2.1⟩ : RefV))
    (fun a h => ⟨rfl, by omega, by
      obtain ⟨h1, h2, _⟩ := h
      have p := int_i64 h1
      have q := int_i64 h2
      exact ⟨p.1, p.2, q.1, q.2⟩⟩)
theorem opens22 : Opens Try.prog 22 1 (fun l : List RefV => [refsT l]) (fun l => sumBulk (fun _ => 1) l + 1) (fun l => (∀ a ∈ l, RefOk a) ∧ l.length ≤ maxLen) := opens_slice Try.underlying22 (by kernel_rfl) (by decide) opens54
def thingBulk (t : Thing) : Nat := t.bytes.length + t.refs.length + 1
def ThingWf (t : Thing) : Prop := (-9223372036854775808 ≤ t.kind ∧ t.kind ≤ 9223372036854775807) ∧ (-9223372036854775808 ≤ t.tag ∧ t.tag ≤ 9223372036854775807) ∧ ∀ r ∈ t.refs, RefOk r
theorem opens24 : Opens Try.prog 24 4 thingCells thingBulk ThingWf :=
  (opens_struct Try.underlying24 (by kernel_rfl) (opensF_cons opens3 rfl (opensF_cons opens3 rfl (opensF_cons opens9 rfl (opensF_cons opens22 rfl opensF_nil))))).turn (fun a => (⟨a.1, a.2.1, a.2.2.1, a.2.2.2.1⟩ : Thing))
    (fun a h => ⟨rfl, by simp only [thingBulk, sumBulk_one]; omega, by
      obtain ⟨h1, h2, h3, h4, _⟩ := h
      exact ⟨int_i64 h1, int_i64 h2, h4.1⟩⟩)
theorem opens25 : Opens Try.prog 25 1 (fun l : List Thing => [.sl 4 (l.flatMap thingCells)]) (fun l => sumBulk thingBulk l + 1) (fun l => (∀ a ∈ l, ThingWf a) ∧ l.length ≤ maxLen) := opens_slice Try.underlying25 (by kernel_rfl) (by decide) opens24
def graphBulk (g : Graph) : Nat := sumBulk thingBulk g.things + g.roots.length
def GraphWf (g : Graph) : Prop := (∀ t ∈ g.things, ThingWf t) ∧ ∀ r ∈ g.roots, RefOk r
theorem opens27 : Opens Try.prog 27 2 gCells graphBulk GraphWf :=
  (opens_struct Try.underlying27 (by kernel_rfl) (opensF_cons opens25 rfl (opensF_cons opens22 rfl opensF_nil))).turn (fun a => (⟨a.1, a.2.1⟩ : Graph))
    (fun a h => ⟨rfl, by simp only [graphBulk, sumBulk_one]; omega, by
      obtain ⟨h1, h2, _⟩ := h
      exact ⟨h1.1, h2.1⟩⟩)
theorem opens40 : Opens Try.prog 40 1 (fun l : List UInt8 => [u8s l]) (fun l => l.length + 1) (fun l => l.length ≤ maxLen) :=
  (opens_bytes Try.underlying40 (by kernel_rfl) Try.underlying5 (by kernel_rfl)).turn id (fun l hl => ⟨rfl, Nat.le_refl _, hl⟩)
theorem opens41 : Opens Try.prog 41 1 (fun l : List Int => [.sl 1 (l.flatMap fun z => [.v (.int .u64 z)])]) (fun l => sumBulk (fun _ => 1) l + 1) (fun l => (∀ z ∈ l, (Lit.int .u64 z).wf = true) ∧ l.length ≤ maxLen) := opens_slice Try.underlying41 (by kernel_rfl) (by decide) opens29
theorem sum_mem {l : List Thing} {s : Thing} (h : s ∈ l) : thingBulk s ≤ sumBulk thingBulk l := by
  induction l with
  | nil => cases h
  | cons x r ih =>
    simp only [sumBulk, List.map_cons, List.sum_cons] at ih ⊢
    rcases List.mem_cons.1 h with rfl | h
    · omega
    · have := ih h; omega
theorem sum_len (l : List Thing) : l.length ≤ sumBulk thingBulk l := by
  induction l with
  | nil => simp
  | cons x r ih => simp only [sumBulk, List.map_cons, List.sum_cons, thingBulk, List.length_cons] at ih ⊢; omega
theorem thing_ok_of {t : Thing} (h : ThingWf t) (hb : thingBulk t ≤ 1048576) : ThingOk 1048576 t := by
  unfold thingBulk at hb
  exact ⟨h.1.1, h.1.2, h.2.1.1, h.2.1.2, by omega, by omega, h.2.2⟩
theorem graph_ok_of {g : Graph} (h : GraphWf g) (hb : graphBulk g ≤ 1048576) : GraphOk 1048576 g := by
  unfold graphBulk at hb
  have h1 := sum_len g.things
  refine ⟨by omega, by omega, fun t ht => thing_ok_of (h.1 t ht) ?_, h.2⟩
  have := sum_mem ht; omega
theorem size_bulk (t : Thing) : sizeF t ≤ 16 * thingBulk t := by
  unfold thingBulk
  by_cases hm : madeF t = true
  · rw [size_eq hm]
    split
    · omega
    · split <;> omega
  · rw [sizeF, if_neg hm]; omega
theorem total_bulk : ∀ (l : List Thing), totalF l ≤ 16 * sumBulk thingBulk l
  | [] => Int.le_refl _
  | t :: r => by
    have h1 := total_bulk r
    have h2 := size_bulk t
    simp only [sumBulk, List.map_cons, List.sum_cons] at h1 ⊢
    rw [totalF]; omega
theorem total_of {g : Graph} (hb : graphBulk g ≤ 1048576) : totalF g.things ≤ 16777216 := by
  have := total_bulk g.things
  unfold graphBulk at hb; omega
section
variable {H : Type} {enc : TypeId × Value → H} {w : World} {base b0 : Nat} {spare : Nat → Bool} {held : Bool} {v : Value} {d : DataW H} {p : List MemPlace}
set_option maxRecDepth 100000 in
theorem open_graph (hv : Value.okWide Try.prog w .any b0 27 v) (e : DataW.Trod enc Try.prog w base spare held 27 v d p) : ∃ g, GraphWf g ∧ VRep w [] (graphT g) v ∧ graphBulk g ≤ Rows.uptoBulk d := opens27.agg Try.underlying27 hv e
set_option maxRecDepth 100000 in
theorem open_thing (hv : Value.okWide Try.prog w .any b0 24 v) (e : DataW.Trod enc Try.prog w base spare held 24 v d p) : ∃ t, ThingWf t ∧ VRep w [] (thingT t) v ∧ thingBulk t ≤ Rows.uptoBulk d := opens24.agg Try.underlying24 hv e
set_option maxRecDepth 100000 in
theorem open_bytes (hv : Value.okWide Try.prog w .any b0 40 v) (e : DataW.Trod enc Try.prog w base spare held 40 v d p) : ∃ bs, bs.length ≤ maxLen ∧ VRep w [] (u8s bs) v ∧ bs.length + 1 ≤ Rows.uptoBulk d := opens40.row Try.underlying40 hv e
set_option maxRecDepth 100000 in
theorem open_words (hv : Value.okWide Try.prog w .any b0 41 v) (e : DataW.Trod enc Try.prog w base spare held 41 v d p) : ∃ l : List Int, VRep w [] (.sl 1 (l.map zu)) v ∧ l.length ≤ Rows.uptoBulk d ∧ PlOk l := by
  obtain ⟨l, h1, h2, h3⟩ := opens41.row Try.underlying41 hv e
  rw [flat_one] at h2
  rw [sumBulk_one] at h3
  exact ⟨l, h2, by omega, fun z hz => int_u64 (h1.1 z hz)⟩
set_option maxRecDepth 100000 in
theorem open_int (hv : Value.okWide Try.prog w .any b0 3 v) (e : DataW.Trod enc Try.prog w base spare held 3 v d p) : ∃ z, v = .int .i64 z ∧ -9223372036854775808 ≤ z ∧ z ≤ 9223372036854775807 := by
  obtain ⟨z, rfl⟩ := okWide_int Try.underlying3 hv
  obtain ⟨fuel, hf⟩ := e
  obtain ⟨z', h1, _, h2⟩ := DataW.trod_int Try.underlying3 hf
  simp only [Value.cells, List.cons.injEq, Value.int.injEq, true_and, and_true] at h1
  subst h1
  exact ⟨z, rfl, int_i64 h2⟩
set_option maxRecDepth 100000 in
theorem open_u64 (hv : Value.okWide Try.prog w .any b0 29 v) (e : DataW.Trod enc Try.prog w base spare held 29 v d p) : ∃ z, v = .int .u64 z ∧ 0 ≤ z ∧ z ≤ 18446744073709551615 := by
  obtain ⟨z, rfl⟩ := okWide_int Try.underlying29 hv
  obtain ⟨fuel, hf⟩ := e
  obtain ⟨z', h1, _, h2⟩ := DataW.trod_int Try.underlying29 hf
  simp only [Value.cells, List.cons.injEq, Value.int.injEq, true_and, and_true] at h1
  subst h1
  exact ⟨z, rfl, int_u64 h2⟩
end
end Go.Proofs.Ytbndnmmceccbkaa
