/-
  ARGUMENTS OPENED: what the reading of an argument gives, as a tree; by the type's form.
-/
import Derived.Test.YtjndpakhmgapjaaDoorRows
import Derived.Test.YtjndpakhmgapjaaDoorAw13
import Derived.ProofKit
import Derived.OpenShut
import Derived.JoinedCond
import Derived.Carry
import Derived.Deep.Slices
namespace Go.Proofs.YtjndpakhmgapjaaDoor
open Go.ChangeShapes Go.WideShapes Go.ChangeAt Go Go.RowKit
theorem bulk_one {H : Type} (d : DataW H) : 1 ≤ Rows.uptoBulk d := by
  cases d with
  | lit l => cases l <;> simp [Rows.uptoBulk]
  | _ => simp [Rows.uptoBulk]
theorem bulk_len {H : Type} (l : List (DataW H)) : l.length ≤ Rows.uptoBulkAll l := by
  induction l with
  | nil => simp [Rows.uptoBulkAll]
  | cons x r ih => have := bulk_one x; simp only [Rows.uptoBulkAll, List.length_cons]; omega
theorem bulk_append {H : Type} (l r : List (DataW H)) : Rows.uptoBulkAll (l ++ r) = Rows.uptoBulkAll l + Rows.uptoBulkAll r := by
  induction l with
  | nil => simp [Rows.uptoBulkAll]
  | cons x s ih => simp only [Rows.uptoBulkAll, List.cons_append, ih]; omega
theorem bound {H : Type} {l : List (DataW H)} (hk : Rows.uptoSmall H l = true) : Rows.uptoBulkAll l ≤ 1048576 := by
  simpa [Rows.uptoSmall] using hk
theorem cell_lt {w : World} {a : Addr} {v : Value} (h : w.cell? a = some v) : a.block < w.heap.size := by
  rcases Nat.lt_or_ge a.block w.heap.size with hn | hn
  · exact hn
  · simp [World.cell?, Array.getElem?_eq_none hn] at h
/-- A type opened: its cells read as the tree of some plain datum. -/
structure Opens (P : Program) (t : TypeId) {X : Type} (k : Nat) (cells : X → List T) (bulk : X → Nat) (ok : X → Prop) : Prop where
  size : P.cellsOf t = k
  one : ∀ {H : Type} {enc : TypeId × Value → H} {w : World} {base : Nat} {spare : Nat → Bool} {held : Bool} {fuel : Nat} {cs : List Value} {x : DataW H × List MemPlace},
    DataW.trod enc P w base spare held fuel t cs = some x → ∃ a, ok a ∧ VReps w [] (cells a) cs ∧ cs.length = k ∧ bulk a ≤ Rows.uptoBulk x.1
theorem Opens.turn {P : Program} {t : TypeId} {X Y : Type} {k : Nat} {cells : X → List T} {cells' : Y → List T} {bulk : X → Nat} {bulk' : Y → Nat} {ok : X → Prop} {ok' : Y → Prop} (h : Opens P t k cells bulk ok) (g : X → Y)
    (h1 : ∀ a, ok a → cells' (g a) = cells a ∧ bulk' (g a) ≤ bulk a ∧ ok' (g a)) : Opens P t k cells' bulk' ok' :=
  ⟨h.size, fun e => by
    obtain ⟨a, h2, h3, h4, h5⟩ := h.one e
    obtain ⟨h6, h7, h8⟩ := h1 a h2
    exact ⟨g a, h8, h6 ▸ h3, h4, Nat.le_trans h7 h5⟩⟩
theorem VReps.single {w : World} {L : List Nat} {t : T} {u : Value} (h : VRep w L t u) (h1 : u.oneCell' = true) : VReps w L [t] [u] := .cons h h1 .nil
theorem opens_int {P : Program} {t : TypeId} {k : IntKind} (ht : P.underlying t = some (.int k)) (hs : P.cellsOf t = 1) : Opens P t 1 (fun z : Int => [.v (.int k z)]) (fun _ => 1) (fun z => (Lit.int k z).wf = true) :=
  ⟨hs, fun e => by
    obtain ⟨n, rfl, rfl, h⟩ := DataW.trod_int ht e
    exact ⟨n, h, .single (.v _) rfl, rfl, bulk_one _⟩⟩
theorem opens_bool {P : Program} {t : TypeId} (ht : P.underlying t = some .bool) (hs : P.cellsOf t = 1) : Opens P t 1 (fun b : Bool => [.v (.bool b)]) (fun _ => 1) (fun _ => True) :=
  ⟨hs, fun e => by
    obtain ⟨b, rfl, rfl⟩ := DataW.trod_bool ht e
    exact ⟨b, trivial, .single (.v _) rfl, rfl, bulk_one _⟩⟩
theorem opens_string {P : Program} {t : TypeId} (ht : P.underlying t = some .string) (hs : P.cellsOf t = 1) : Opens P t 1 (fun l : List UInt8 => [.v (.string ⟨l.toArray⟩)]) (fun l => l.length + 1) (fun l => l.length ≤ maxLen) :=
  ⟨hs, fun e => by
    obtain ⟨s, rfl, rfl, h⟩ := DataW.trod_string ht e
    exact ⟨s.data.toList, by simpa using h, .single (.v _) rfl, rfl, by simp [Rows.uptoBulk]⟩⟩
/-- The fields from a place on. -/
structure OpensF (P : Program) (fs : List Field) (o : Nat) {X : Type} (k : Nat) (cells : X → List T) (bulk : X → Nat) (ok : X → Prop) : Prop where
  all : ∀ {H : Type} {enc : TypeId × Value → H} {w : World} {base : Nat} {spare : Nat → Bool} {held : Bool} {n : Nat} {cs : List Value} {ys : List (DataW H × List MemPlace)},
    ys.length = fs.length → cs.length = o + k → (∀ (i : Nat) (f : Field), fs[i]? = some f → DataW.trod enc P w base spare held n f.type ((cs.drop f.offset).take (P.cellsOf f.type)) = ys[i]?) →
      ∃ a, ok a ∧ VReps w [] (cells a) (cs.drop o) ∧ bulk a ≤ Rows.uptoBulkAll (ys.map (·.1))
theorem opensF_nil {P : Program} {o : Nat} : OpensF P [] o 0 (fun _ : Unit => []) (fun _ => 0) (fun _ => True) :=
  ⟨fun {H enc w base spare held n cs ys} h1 h2 _ => ⟨(), trivial, by rw [List.drop_of_length_le (by omega)]; exact .nil, Nat.zero_le _⟩⟩
theorem opensF_cons {P : Program} {f : Field} {fs : List Field} {o k m : Nat} {X Y : Type} {cells : X → List T} {cells' : Y → List T} {bulk : X → Nat} {bulk' : Y → Nat} {ok : X → Prop} {ok' : Y → Prop} (h0 : Opens P f.type k cells bulk ok) (ho : f.offset = o)
    (h : OpensF P fs (o + k) m cells' bulk' ok') : OpensF P (f :: fs) o (k + m) (fun a : X × Y => cells a.1 ++ cells' a.2) (fun a => bulk a.1 + bulk' a.2) (fun a => ok a.1 ∧ ok' a.2) :=
  ⟨fun {H enc w base spare held n cs ys} h1 h2 h3 => by
    match ys, h1 with
    | y :: ys, h1 =>
      have e := h3 0 f rfl
      rw [ho, h0.size] at e
      simp only [List.getElem?_cons_zero] at e
      obtain ⟨a, q1, q2, q3, q4⟩ := h0.one e
      obtain ⟨b, r1, r2, r3⟩ := h.all (ys := ys) (cs := cs) (by simpa using h1) (by omega) (fun i g hg => by simpa using h3 (i + 1) g (by simpa using hg))
      refine ⟨(a, b), ⟨q1, r1⟩, ?_, by simp only [List.map_cons, Rows.uptoBulkAll]; omega⟩
      rw [← List.drop_drop] at r2
      have := q2.append r2
      rwa [List.take_append_drop] at this⟩
theorem opens_struct {P : Program} {t : TypeId} {fs : Array Field} {X : Type} {k : Nat} {cells : X → List T} {bulk : X → Nat} {ok : X → Prop} (ht : P.underlying t = some (.struct fs)) (hs : P.cellsOf t = k) (h : OpensF P fs.toList 0 k cells bulk ok) :
    Opens P t k cells (fun a => bulk a + 1) ok :=
  ⟨hs, fun e => by
    obtain ⟨xs, n, _, rfl, hl, hlen, hf⟩ := DataW.trod_struct ht e
    obtain ⟨a, h1, h2, h3⟩ := h.all (by simpa using hlen) (by omega) (fun i f hi => hf i f (by simpa using hi))
    exact ⟨a, h1, by simpa using h2, by omega, by simp only [Rows.uptoBulk]; omega⟩⟩
def sumBulk {X : Type} (bulk : X → Nat) (l : List X) : Nat := (l.map bulk).sum
theorem opens_slice {P : Program} {t e : TypeId} {X : Type} {k : Nat} {cells : X → List T} {bulk : X → Nat} {ok : X → Prop} (ht : P.underlying t = some (.slice e)) (hs : P.cellsOf t = 1) (hk : 0 < k) (h : Opens P e k cells bulk ok) :
    Opens P t 1 (fun l : List X => [.sl k (l.flatMap cells)]) (fun l => sumBulk bulk l + 1) (fun l => (∀ a ∈ l, ok a) ∧ l.length ≤ maxLen) :=
  ⟨hs, fun {H enc w base spare held fuel cs x} ex => by
    rcases Go.Deep.open_slice ht ex with ⟨rfl, rfl⟩ | ⟨a, len, cap, m, n, D, Pl, rfl, hb, hl, hm, hmm, rfl, hx⟩
    · exact ⟨[], ⟨fun a ha => (by cases ha), Nat.zero_le _⟩, .single (.sl0 (Nat.zero_le _)) rfl, rfl, by simp [sumBulk, Rows.uptoBulk]⟩
    · have hlm : len ≤ m := by rw [hmm]; split <;> omega
      rw [h.size] at hx
      have key : ∀ q, q ≤ len → ∃ (l : List X) (us : List Value), l.length = q ∧ us.length = q * k ∧ VReps w [] (l.flatMap cells) us ∧ (∀ j u, us[j]? = some u → w.cell? (a.add j) = some u) ∧ (∀ a ∈ l, ok a) ∧
          sumBulk bulk l ≤ Rows.uptoBulkAll ((List.range q).map D) := by
        intro q
        induction q with
        | zero => exact fun _ => ⟨[], [], rfl, by simp, .nil, fun j u hu => by simp at hu, fun a ha => (by cases ha), by simp [sumBulk]⟩
        | succ q ih =>
          intro hq
          obtain ⟨l, us, h1, h2, h3, h4, h5, h6⟩ := ih (by omega)
          obtain ⟨cs', h7, h8⟩ := hx q (by omega)
          obtain ⟨a', h9, h10, h11, h12⟩ := h.one h8
          obtain ⟨_, _, h13⟩ := World.cells?_some h7
          refine ⟨l ++ [a'], us ++ cs', by simp [h1], ?_, ?_, ?_, ?_, ?_⟩
          · rw [List.length_append, h2, h11, Nat.succ_mul]
          · rw [List.flatMap_append]
            simpa using h3.append h10
          · intro j u hu
            by_cases hj : j < us.length
            · rw [List.getElem?_append_left hj] at hu
              exact h4 j u hu
            · rw [List.getElem?_append_right (by omega)] at hu
              have hjl := (List.getElem?_eq_some_iff.1 hu).1
              have := h13 (j - us.length) (by omega)
              rw [add_add', hu] at this
              rw [← this]
              congr 2
              omega
          · intro y hy
            rcases List.mem_append.1 hy with hy | hy
            · exact h5 y hy
            · rcases List.mem_singleton.1 hy with rfl
              exact h9
          · rw [List.range_succ, List.map_append, bulk_append]
            simp only [sumBulk, List.map_append, List.sum_append, List.map_cons, List.map_nil, List.sum_cons, List.sum_nil, Rows.uptoBulkAll] at h6 h12 ⊢
            omega
      obtain ⟨l, us, h1, h2, h3, h4, h5, h6⟩ := key len (Nat.le_refl _)
      refine ⟨l, ⟨h5, by omega⟩, .single ?_ rfl, rfl, by simp only [Rows.uptoBulk]; omega⟩
      rcases Nat.eq_zero_or_pos len with rfl | hpos
      · rw [List.eq_nil_of_length_eq_zero h1]
        exact .sl0 hm
      · have hlu := h3.len
        have hup : 0 < us.length := by rw [h2]; exact Nat.mul_pos hpos hk
        have hc0 := h4 0 _ (List.getElem?_eq_getElem hup)
        exact .sl hpos (by rw [hlu, h2]) hlu hl hm (by have := cell_lt hc0; rwa [block_add] at this) (by simp) h4 h3.at_ h3.one⟩
/-- A byte as a number. -/
def byteOfInt (z : Int) : UInt8 := UInt8.ofNat z.toNat
theorem byteOfInt_back {z : Int} (h : (Lit.int .u8 z).wf = true) : ((byteOfInt z).toNat : Int) = z := by
  have hx : 0 ≤ z ∧ z ≤ 255 := by simpa [Lit.wf, IntKind.min, IntKind.max, IntKind.signed, IntKind.bits] using h
  unfold byteOfInt
  rw [UInt8.toNat_ofNat']
  omega
theorem sumBulk_one {X : Type} : ∀ (l : List X), sumBulk (fun _ => 1) l = l.length
  | [] => rfl
  | _ :: r => by have := sumBulk_one r; simp only [sumBulk, List.map_cons, List.sum_cons, List.length_cons] at this ⊢; omega
theorem flat_one {X : Type} (f : X → T) : ∀ (l : List X), l.flatMap (fun a => [f a]) = l.map f
  | [] => rfl
  | _ :: r => by simp [flat_one f r]
theorem opens_bytes {P : Program} {t e : TypeId} (ht : P.underlying t = some (.slice e)) (hs : P.cellsOf t = 1) (he : P.underlying e = some (.int .u8)) (hs' : P.cellsOf e = 1) :
    Opens P t 1 (fun l : List UInt8 => [.sl 1 (l.map fun b => .v (.int .u8 b.toNat))]) (fun l => l.length + 1) (fun l => l.length ≤ maxLen) :=
  (opens_slice ht hs (by decide) (opens_int he hs')).turn (fun l => l.map byteOfInt) (fun l hl => ⟨by
      rw [flat_one, List.map_map]
      congr 2
      refine List.map_congr_left fun z hz => ?_
      simp only [Function.comp]
      rw [byteOfInt_back (hl.1 z hz)], by simp [sumBulk_one], by simpa using hl.2⟩)
/-- An argument of a struct's type. -/
theorem Opens.agg {P : Program} {t : TypeId} {fs : Array Field} {X : Type} {k : Nat} {cells : X → List T} {bulk : X → Nat} {ok : X → Prop} (h : Opens P t k cells bulk ok) (ht : P.underlying t = some (.struct fs))
    {H : Type} {enc : TypeId × Value → H} {w : World} {base b0 : Nat} {r : Reach} {spare : Nat → Bool} {held : Bool} {v : Value} {d : DataW H} {p : List MemPlace} (hv : Value.okWide P w r b0 t v) (e : DataW.Trod enc P w base spare held t v d p) :
    ∃ a, ok a ∧ VRep w [] (.agg (cells a)) v ∧ bulk a ≤ Rows.uptoBulk d := by
  obtain ⟨cs, rfl, hsz⟩ := okWide_struct ht hv
  obtain ⟨fuel, hf⟩ := e
  obtain ⟨a, h1, h2, h3, h4⟩ := h.one hf
  simp only [Value.cells] at h2 h3
  exact ⟨a, h1, by
    have := VRep.agg h2.len h2.at_ h2.one
    simpa using this, h4⟩
/-- An argument of a slice's type. -/
theorem Opens.row {P : Program} {t e : TypeId} {X : Type} {cell : X → T} {bulk : X → Nat} {ok : X → Prop} (h : Opens P t 1 (fun a => [cell a]) bulk ok) (ht : P.underlying t = some (.slice e))
    {H : Type} {enc : TypeId × Value → H} {w : World} {base b0 : Nat} {r : Reach} {spare : Nat → Bool} {held : Bool} {v : Value} {d : DataW H} {p : List MemPlace} (hv : Value.okWide P w r b0 t v) (e : DataW.Trod enc P w base spare held t v d p) :
    ∃ a, ok a ∧ VRep w [] (cell a) v ∧ bulk a ≤ Rows.uptoBulk d := by
  obtain ⟨A, l, c, rfl⟩ := okWide_slice ht hv
  obtain ⟨fuel, hf⟩ := e
  obtain ⟨a, h1, h2, h3, h4⟩ := h.one hf
  simp only [Value.cells] at h2 h3
  exact ⟨a, h1, h2.at_ 0 _ _ rfl rfl, h4⟩
end Go.Proofs.YtjndpakhmgapjaaDoor
