/-
  TEXTS JOINED: Aw14, GGo, GGv.
-/
import Derived.Test.YtpgbpdnmjeoeoaaGreatRows
import Derived.ProofKit
import Derived.OpenShut
import Derived.JoinedCond
import Derived.Carry
import Derived.Deep.Slices
import Derived.Test.YtpgbpdnmjeoeoaaGreatYp
set_option linter.unusedSimpArgs false
set_option linter.unusedVariables false
set_option linter.unusedSectionVars false
set_option linter.unnecessarySimpa false
namespace Go.Proofs.YtpgbpdnmjeoeoaaGreat
open Go.ChangeShapes Go.WideShapes Go.ChangeAt Go Go.RowKit
theorem bulk_one {H : Type} (d : DataW H) : 1 ≤ Rows.uptoBulk d := by
 cases d with
 | lit l => cases l <;> simp [Rows.uptoBulk]
 | _ => simp [Rows.uptoBulk]
theorem bulk_append {H : Type} (l r : List (DataW H)) : Rows.uptoBulkAll (l ++ r) = Rows.uptoBulkAll l + Rows.uptoBulkAll r := by
 induction l with
 | nil => simp [Rows.uptoBulkAll]
 | cons x s ih => simp only [Rows.uptoBulkAll, List.cons_append, ih]; omega
theorem cell_lt {w : World} {a : Addr} {v : Value} (h : w.cell? a = some v) : a.block < w.heap.size := by
 rcases Nat.lt_or_ge a.block w.heap.size with hn | hn
 ·exact hn
 simp [World.cell?, Array.getElem?_eq_none hn] at h
structure Opens (P : Program) (t : TypeId) {X : Type} (k : Nat) (cells : X → List T) (bulk : X → Nat) (ok : X → Prop) : Prop where
 size : P.cellsOf t = k
 one : ∀ {H : Type} {enc : TypeId × Value → H} {w : World} {base : Nat} {spare : Nat → Bool} {held : Bool} {fuel : Nat} {cs : List Value} {x : DataW H × List MemPlace},
  DataW.trod enc P w base spare held fuel t cs = some x → ∃ a, ok a ∧ VReps w [] (cells a) cs ∧ cs.length = k ∧ bulk a ≤ Rows.uptoBulk x.1
theorem Opens.turn {P : Program} {t : TypeId} {X Y : Type} {k : Nat} {cells : X → List T} {cells' : Y → List T} {bulk : X → Nat} {bulk' : Y → Nat} {ok : X → Prop} {ok' : Y → Prop} (h : Opens P t k cells bulk ok) (g : X → Y)
    (h1 : ∀ a, ok a → cells' (g a) = cells a ∧ bulk' (g a) ≤ bulk a ∧ ok' (g a)) : Opens P t k cells' bulk' ok' :=
 ⟨h.size, fun e => by
  obtain ⟨a, h2, h3, h4, h5⟩ := h.one e
  obtain ⟨h6, h7, h8⟩ := h1 a h2
  exact ⟨g a, h8, h6 ▸ h3, h4, Nat.le_trans h7 h5⟩⟩
theorem VReps.single {w : World} {L : List Nat} {t : T} {u : Value} (h : VRep w L t u) (h1 : u.oneCell' = true) : VReps w L [t] [u] := .cons h h1 .nil
theorem opens_int {P : Program} {t : TypeId} {k : IntKind} (ht : P.underlying t = some (.int k)) (hs : P.cellsOf t = 1) : Opens P t 1 (fun z : Int => [.v (.int k z)]) (fun _ => 1) (fun z => (Lit.int k z).wf = true) :=
 ⟨hs, fun e => by
  obtain ⟨n, rfl, rfl, h⟩ := DataW.trod_int ht e
  exact ⟨n, h, .single (.v _) rfl, rfl, bulk_one _⟩⟩
def sumBulk {X : Type} (bulk : X → Nat) (l : List X) : Nat := (l.map bulk).sum
theorem opens_slice {P : Program} {t e : TypeId} {X : Type} {k : Nat} {cells : X → List T} {bulk : X → Nat} {ok : X → Prop} (ht : P.underlying t = some (.slice e)) (hs : P.cellsOf t = 1) (hk : 0 < k) (h : Opens P e k cells bulk ok) :
    Opens P t 1 (fun l : List X => [.sl k (l.flatMap cells)]) (fun l => sumBulk bulk l + 1) (fun l => (∀ a ∈ l, ok a) ∧ l.length ≤ maxLen) :=
 ⟨hs, fun {H enc w base spare held fuel cs x} ex => by
  rcases Go.Deep.open_slice ht ex with ⟨rfl, rfl⟩ | ⟨a, len, cap, m, n, D, Pl, rfl, hb, hl, hm, hmm, rfl, hx⟩
  ·exact ⟨[], ⟨fun a ha => (by cases ha), Nat.zero_le _⟩, .single (.sl0 (Nat.zero_le _)) rfl, rfl, by simp [sumBulk, Rows.uptoBulk]⟩
  ·have hlm : len ≤ m := by rw [hmm]; split <;> omega
   rw [h.size] at hx
   have key : ∀ q, q ≤ len → ∃ (l : List X) (us : List Value), l.length = q ∧ us.length = q * k ∧ VReps w [] (l.flatMap cells) us ∧ (∀ j u, us[j]? = some u → w.cell? (a.add j) = some u) ∧ (∀ a ∈ l, ok a) ∧
       sumBulk bulk l ≤ Rows.uptoBulkAll ((List.range q).map D) := by
    intro q
    induction q with
    | zero => exact fun _ => ⟨[], [], rfl, by simp, .nil, fun j u hu => by simp at hu, fun a ha => (by cases ha), by simp [sumBulk]⟩
    | succ q ih =>
     intro hq
     obtain ⟨l, us, h1, h2, h3, h4, h5, h6⟩ := ih (by omega)
     obtain ⟨cs', h7, h8⟩ := hx q (by omega)
     obtain ⟨a', h9, h10, h11, h12⟩ := h.one h8
     obtain ⟨_, _, h13⟩ := World.cells?_some h7
     refine ⟨l ++ [a'], us ++ cs', by simp [h1], ?_, ?_, ?_, ?_, ?_⟩
     ·rw [List.length_append, h2, h11, Nat.succ_mul]
     ·rw [List.flatMap_append]
      simpa using h3.append h10
     ·intro j u hu
      by_cases hj : j < us.length
      ·rw [List.getElem?_append_left hj] at hu
       exact h4 j u hu
      ·rw [List.getElem?_append_right (by omega)] at hu
       have hjl := (List.getElem?_eq_some_iff.1 hu).1
       have := h13 (j - us.length) (by omega)
       rw [add_add', hu] at this
       rw [← this]
       congr 2
       omega
     ·intro y hy
      rcases List.mem_append.1 hy with hy | hy
      ·exact h5 y hy
      ·rcases List.mem_singleton.1 hy with rfl
       exact h9
     ·rw [List.range_succ, List.map_append, bulk_append]
      simp only [sumBulk, List.map_append, List.sum_append, List.map_cons, List.map_nil, List.sum_cons, List.sum_nil, Rows.uptoBulkAll] at h6 h12 ⊢
      omega
   obtain ⟨l, us, h1, h2, h3, h4, h5, h6⟩ := key len (Nat.le_refl _)
   refine ⟨l, ⟨h5, by omega⟩, .single ?_ rfl, rfl, by simp only [Rows.uptoBulk]; omega⟩
   rcases Nat.eq_zero_or_pos len with rfl | hpos
   ·rw [List.eq_nil_of_length_eq_zero h1]
    exact .sl0 hm
   ·have hlu := h3.len
    have hup : 0 < us.length := by rw [h2]; exact Nat.mul_pos hpos hk
    have hc0 := h4 0 _ (List.getElem?_eq_getElem hup)
    exact .sl hpos (by rw [hlu, h2]) hlu hl hm (by have := cell_lt hc0; rwa [block_add] at this) (by simp) h4 h3.at_ h3.one⟩
theorem Opens.row {P : Program} {t e : TypeId} {X : Type} {cell : X → T} {bulk : X → Nat} {ok : X → Prop} (h : Opens P t 1 (fun a => [cell a]) bulk ok) (ht : P.underlying t = some (.slice e))
    {H : Type} {enc : TypeId × Value → H} {w : World} {base b0 : Nat} {r : Reach} {spare : Nat → Bool} {held : Bool} {v : Value} {d : DataW H} {p : List MemPlace} (hv : Value.okWide P w r b0 t v) (e : DataW.Trod enc P w base spare held t v d p) :
    ∃ a, ok a ∧ VRep w [] (cell a) v ∧ bulk a ≤ Rows.uptoBulk d := by
 obtain ⟨A, l, c, rfl⟩ := okWide_slice ht hv
 obtain ⟨fuel, hf⟩ := e
 obtain ⟨a, h1, h2, h3, h4⟩ := h.one hf
 simp only [Value.cells] at h2 h3
 exact ⟨a, h1, h2.at_ 0 _ _ rfl rfl, h4⟩
end Go.Proofs.YtpgbpdnmjeoeoaaGreat

namespace Go.Proofs.YtpgbpdnmjeoeoaaGreat
open Go Go.RowKit Go.ChangeShapes Go.WideShapes Go.ChangeAt
theorem laidOut : laidOutB Tryz.prog = true := by kernel_rfl
end Go.Proofs.YtpgbpdnmjeoeoaaGreat
namespace Go.Proofs.YtpgbpdnmjeoeoaaGreat.G
open Go.ChangeShapes Go.WideShapes Go.ChangeAt Go Go.RowKit
section
variable {H : Type} {enc : TypeId × Value → H} {w : World} {base b0 : Nat} {spare : Nat → Bool} {held : Bool} {v : Value} {d : DataW H} {p : List MemPlace}
theorem int_i64 {z : Int} (h : (Lit.int .i64 z).wf = true) : -9223372036854775808 ≤ z ∧ z ≤ 9223372036854775807 := by simpa [Lit.wf, IntKind.min, IntKind.max, IntKind.signed, IntKind.bits] using h
set_option maxRecDepth 100000 in
theorem open_i64 (hv : Value.okWide Tryz.prog w .any b0 3 v) (e : DataW.Trod enc Tryz.prog w base spare held 3 v d p) : ∃ z : Int, -9223372036854775808 ≤ z ∧ z ≤ 9223372036854775807 ∧ VRep w [] (.v (.int .i64 z)) v := by
 obtain ⟨z, rfl⟩ := okWide_int Tryz.underlying3 hv
 obtain ⟨fuel, hf⟩ := e
 obtain ⟨z', h1, _, h2⟩ := DataW.trod_int Tryz.underlying3 hf
 simp only [Value.cells, List.cons.injEq, Value.int.injEq, true_and, and_true] at h1
 subst h1
 exact ⟨z, (int_i64 h2).1, (int_i64 h2).2, .v _⟩
end
end Go.Proofs.YtpgbpdnmjeoeoaaGreat.G

namespace Go.Proofs.YtpgbpdnmjeoeoaaGreat.G
open Go.ChangeShapes Go.WideShapes Go.ChangeAt Go Go.RowKit
section
variable {H : Type} {enc : TypeId × Value → H} {w : World} {base b0 : Nat} {spare : Nat → Bool} {held : Bool} {v : Value} {d : DataW H} {p : List MemPlace}
set_option maxRecDepth 100000 in
theorem opens3 : Opens Tryz.prog 3 1 (fun z : Int => [zi z]) (fun _ => 1) (fun z => -9223372036854775808 ≤ z ∧ z ≤ 9223372036854775807) :=
 (opens_int Tryz.underlying3 (by kernel_rfl)).turn (fun z => z) (fun z h => ⟨rfl, Nat.le_refl _, int_i64 h⟩)
theorem flat_i : ∀ l : List Int, l.flatMap (fun a => [zi a]) = l.map zi
 | [] => rfl
 | a :: l => by rw [List.flatMap_cons, flat_i l]; rfl
theorem sum_one {X : Type} (l : List X) : sumBulk (fun _ => 1) l = l.length := by
 unfold sumBulk
 induction l with
 | nil => rfl
 | cons a l ih => rw [List.map_cons, List.sum_cons, ih, List.length_cons]; omega
theorem opens35 : Opens Tryz.prog 35 1 (fun l : List Int => [.sl 1 (l.map zi)]) (fun l => l.length + 1) (fun l => ∀ z ∈ l, -9223372036854775808 ≤ z ∧ z ≤ 9223372036854775807) :=
 (opens_slice Tryz.underlying35 (by kernel_rfl) (by decide) opens3).turn (fun l => l) (fun l h => ⟨by rw [flat_i], by rw [sum_one]; exact Nat.le_refl _, h.1⟩)
set_option maxRecDepth 100000 in
theorem open_ints (hv : Value.okWide Tryz.prog w .any b0 35 v) (e : DataW.Trod enc Tryz.prog w base spare held 35 v d p) : ∃ l : List Int, (∀ z ∈ l, -9223372036854775808 ≤ z ∧ z ≤ 9223372036854775807) ∧ VRep w [] (.sl 1 (l.map zi)) v ∧ l.length + 1 ≤ Rows.uptoBulk d :=
 Opens.row (cell := fun l : List Int => T.sl 1 (l.map zi)) opens35 Tryz.underlying35 hv e
end
end Go.Proofs.YtpgbpdnmjeoeoaaGreat.G
