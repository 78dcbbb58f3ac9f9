/-
  ARGUMENTS OPENED: bytes; an image.
-/
import Derived.Test.YtckkcncgglfbbaaAw14
import Derived.Test.YtckkcncgglfbbaaBack
namespace Go.Proofs.Ytckkcncgglfbbaa
open Go.ChangeShapes Go.WideShapes Go.ChangeAt Go Go.RowKit
theorem laidOut : laidOutB Try.prog = true := by kernel_rfl
theorem opens27 : Opens Try.prog 27 1 (fun l : List UInt8 => [u8s l]) (fun l => l.length + 1) (fun l => l.length ≤ maxLen) :=
  (opens_bytes Try.underlying27 (by kernel_rfl) Try.underlying5 (by kernel_rfl)).turn id (fun l hl => ⟨rfl, Nat.le_refl _, hl⟩)
theorem int_u64 {z : Int} (h : (Lit.int .u64 z).wf = true) : 0 ≤ z ∧ z ≤ 18446744073709551615 := by simpa [Lit.wf, IntKind.min, IntKind.max, IntKind.signed, IntKind.bits] using h
theorem int_i64 {z : Int} (h : (Lit.int .i64 z).wf = true) : -9223372036854775808 ≤ z ∧ z ≤ 9223372036854775807 := by simpa [Lit.wf, IntKind.min, IntKind.max, IntKind.signed, IntKind.bits] using h
def SegWf (s : Seg) : Prop := 0 ≤ s.at_ ∧ s.at_ ≤ 18446744073709551615 ∧ 0 ≤ s.size ∧ s.size ≤ 18446744073709551615 ∧ -9223372036854775808 ≤ s.may ∧ s.may ≤ 9223372036854775807
def segBulk (s : Seg) : Nat := s.data.length + 1
def imgBulk (i : Img) : Nat := sumBulk segBulk i.segs
def ImgWf (i : Img) : Prop := 0 ≤ i.entry ∧ i.entry ≤ 18446744073709551615 ∧ ∀ s ∈ i.segs, SegWf s
theorem opens22 : Opens Try.prog 22 1 (fun z : Int => [.v (.int .u64 z)]) (fun _ => 1) (fun z => (Lit.int .u64 z).wf = true) := opens_int Try.underlying22 (by kernel_rfl)
theorem opens3 : Opens Try.prog 3 1 (fun z : Int => [.v (.int .i64 z)]) (fun _ => 1) (fun z => (Lit.int .i64 z).wf = true) := opens_int Try.underlying3 (by kernel_rfl)
theorem opens42 : Opens Try.prog 42 4 segCells segBulk SegWf :=
  (opens_struct Try.underlying42 (by kernel_rfl) (opensF_cons opens22 rfl (opensF_cons opens22 rfl (opensF_cons opens3 rfl (opensF_cons opens27 rfl opensF_nil))))).turn (fun a => ⟨a.1, a.2.1, a.2.2.1, a.2.2.2.1⟩)
    (fun a h => ⟨rfl, by simp only [segBulk]; omega, by
      obtain ⟨h1, h2, h3, h4, h5⟩ := h
      have this₁ := int_u64 h1
      have this₂ := int_u64 h2
      have this₃ := int_i64 h3
      exact ⟨this₁.1, this₁.2, this₂.1, this₂.2, this₃.1, this₃.2⟩⟩)
theorem opens23 : Opens Try.prog 23 1 (fun l : List Seg => [segsT l]) (fun l => sumBulk segBulk l + 1) (fun l => (∀ a ∈ l, SegWf a) ∧ l.length ≤ maxLen) := opens_slice Try.underlying23 (by kernel_rfl) (by decide) opens42
theorem opens25 : Opens Try.prog 25 2 (fun i : Img => [.v (.int .u64 i.entry), segsT i.segs]) imgBulk ImgWf :=
  (opens_struct Try.underlying25 (by kernel_rfl) (opensF_cons opens22 rfl (opensF_cons opens23 rfl opensF_nil))).turn (fun a => ⟨a.1, a.2.1⟩)
    (fun a h => ⟨rfl, by simp only [imgBulk]; omega, by
      obtain ⟨h1, h2, h3⟩ := h
      have := int_u64 h1
      exact ⟨this.1, this.2, h2.1⟩⟩)
theorem sum_mem {l : List Seg} {s : Seg} (h : s ∈ l) : s.data.length < sumBulk segBulk l := by
  induction l with
  | nil => cases h
  | cons x r ih =>
    simp only [sumBulk, List.map_cons, List.sum_cons, segBulk] at ih ⊢
    rcases List.mem_cons.1 h with rfl | h
    · omega
    · have := ih h; omega
theorem sum_len (l : List Seg) : l.length ≤ sumBulk segBulk l := by
  induction l with
  | nil => simp
  | cons x r ih => simp only [sumBulk, List.map_cons, List.sum_cons, segBulk, List.length_cons] at ih ⊢; omega
theorem img_ok {i : Img} (h : ImgWf i) (hb : imgBulk i ≤ 1048576) : ImgOk i := by
  refine ⟨h.1, h.2.1, by have := sum_len i.segs; unfold imgBulk at hb; omega, fun s hs => ?_⟩
  have := sum_mem hs
  obtain ⟨h1, h2, h3, h4, h5, h6⟩ := h.2.2 s hs
  exact ⟨h1, h2, h3, h4, h5, h6, by unfold imgBulk at hb; omega⟩
theorem dataF_len : ∀ (l : List Seg) (out : List UInt8), (dataF l out).length ≤ out.length + l.length * 4096 + sumBulk segBulk l
  | [], out => by simp [dataF]
  | s :: r, out => by
    rw [dataF]
    have h1 := dataF_len r (if 0 < s.data.length then out ++ List.replicate (pad out.length) 0 ++ s.data else out)
    have h2 := stepOut_len s out
    have h3 : nextAt s out.length ≤ out.length + 4096 + s.data.length := by unfold nextAt; split <;> omega
    unfold stepOut at h2
    simp only [sumBulk, List.map_cons, List.sum_cons, segBulk, List.length_cons] at h1 ⊢
    omega
theorem WriteF_len {i : Img} (hb : imgBulk i ≤ 1048576) : (WriteF i).length ≤ 2097152 := by
  unfold WriteF
  split
  · rename_i hc
    have h1 := (checked_facts hc).2.1
    have h2 := dataF_len i.segs (headF i)
    have h3 := headF_len i
    unfold imgBulk at hb
    show (dataF i.segs (headF i)).length ≤ _
    omega
  · exact Nat.zero_le _
/-- The two kinds of arguments. -/
theorem open_image {H : Type} {enc : TypeId × Value → H} {w : World} {base b0 : Nat} {spare : Nat → Bool} {held : Bool} {v : Value} {d : DataW H} {p : List MemPlace} (hv : Value.okWide Try.prog w .any b0 25 v) (e : DataW.Trod enc Try.prog w base spare held 25 v d p) :
    ∃ i, ImgWf i ∧ VRep w [] (imgT i) v ∧ imgBulk i ≤ Rows.uptoBulk d := opens25.agg Try.underlying25 hv e
theorem open_bytes {H : Type} {enc : TypeId × Value → H} {w : World} {base b0 : Nat} {spare : Nat → Bool} {held : Bool} {v : Value} {d : DataW H} {p : List MemPlace} (hv : Value.okWide Try.prog w .any b0 27 v) (e : DataW.Trod enc Try.prog w base spare held 27 v d p) :
    ∃ bs, bs.length ≤ maxLen ∧ VRep w [] (u8s bs) v ∧ bs.length + 1 ≤ Rows.uptoBulk d := opens27.row Try.underlying27 hv e
theorem open_a_int {H : Type} {enc : TypeId × Value → H} {w : World} {base b0 : Nat} {spare : Nat → Bool} {held : Bool} {v : Value} {d : DataW H} {p : List MemPlace} (hv : Value.okWide Try.prog w .any b0 3 v) (e : DataW.Trod enc Try.prog w base spare held 3 v d p) :
    ∃ z, v = .int .i64 z ∧ -9223372036854775808 ≤ z ∧ z ≤ 9223372036854775807 := by
  obtain ⟨z, rfl⟩ := okWide_int Try.underlying3 hv
  obtain ⟨fuel, hf⟩ := e
  obtain ⟨z', h1, _, h2⟩ := DataW.trod_int Try.underlying3 hf
  simp only [Value.cells, List.cons.injEq, Value.int.injEq, true_and, and_true] at h1
  subst h1
  exact ⟨z, rfl, int_i64 h2⟩
end Go.Proofs.Ytckkcncgglfbbaa
