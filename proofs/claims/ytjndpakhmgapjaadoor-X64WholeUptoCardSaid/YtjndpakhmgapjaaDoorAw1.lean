/-
  A SYMBOLIC HEAP OVER THE MODEL'S WORLD: data that nobody writes is carried by value, as trees ('T'); what the call may write lies in entries ('Ent'). Generic: no program is named here.
-/
import Derived.WalkKit
import Derived.WalkSpells
import Derived.WalkLawsBesides
import Derived.Deep.AppendSrc
import Derived.Deep.AppendLies
import Derived.Deep.Draws
import Derived.Deep.Quiet
import Derived.Maps.AppendAt
namespace Go.Proofs.YtjndpakhmgapjaaDoor
open Go Go.RowKit

/-- A value as a tree: what lies behind a slice that nobody writes is in the tree itself. -/
inductive T where
  | v (x : Value)
  | agg (l : List T)
  | tup (l : List T)
  | sl (k : Nat) (l : List T)
  | rp (l : List T) (off : Nat)
  | ep (x : Value) (off : Nat)
  | sp (k m : Nat) (l : List T)
  deriving Inhabited

theorem block_add (a : Addr) (n : Nat) : (a.add n).block = a.block := by unfold Addr.add; split <;> rfl
theorem add_add' (a : Addr) (i j : Nat) : (a.add i).add j = a.add (i + j) := by
  unfold Addr.add
  by_cases hi : i = 0 <;> by_cases hj : j = 0 <;> simp [hi, hj, Nat.add_assoc]

/-- The tree reads so in this world, all its cells lying in blocks outside L. -/
inductive VRep (w : World) (L : List Nat) : T → Value → Prop
  | v (x : Value) : VRep w L (.v x) x
  | agg {l : List T} {ys : List Value} (hl : l.length = ys.length) (h : ∀ (j : Nat) (t : T) (u : Value), l[j]? = some t → ys[j]? = some u → VRep w L t u) (h1 : ∀ u ∈ ys, u.oneCell' = true) : VRep w L (.agg l) (.agg ys.toArray)
  | tup {l : List T} {ys : List Value} (hl : l.length = ys.length) (h : ∀ (j : Nat) (t : T) (u : Value), l[j]? = some t → ys[j]? = some u → VRep w L t u) : VRep w L (.tup l) (.tuple ys.toArray)
  | sl0 {k c : Nat} {a : Option Addr} (hc : c ≤ maxLen) : VRep w L (.sl k []) (.slice a 0 c)
  | sl {k n c : Nat} {l : List T} {us : List Value} {ad : Addr} (hn : 0 < n) (hk : l.length = n * k) (hl : l.length = us.length) (hnc : n ≤ c) (hc : c ≤ maxLen) (hb : ad.block < w.heap.size) (hL : ad.block ∉ L)
      (hcell : ∀ (j : Nat) (u : Value), us[j]? = some u → w.cell? (ad.add j) = some u)
      (h : ∀ (j : Nat) (t : T) (u : Value), l[j]? = some t → us[j]? = some u → VRep w L t u) (h1 : ∀ u ∈ us, u.oneCell' = true) : VRep w L (.sl k l) (.slice (some ad) n c)
  | rp {l : List T} {off : Nat} {us : List Value} {ad : Addr} (hl : l.length = us.length) (hb : ad.block < w.heap.size) (hL : ad.block ∉ L)
      (hcell : ∀ (j : Nat) (u : Value), us[j]? = some u → w.cell? (ad.add j) = some u)
      (h : ∀ (j : Nat) (t : T) (u : Value), l[j]? = some t → us[j]? = some u → VRep w L t u) (h1 : ∀ u ∈ us, u.oneCell' = true) : VRep w L (.rp l off) (.pointer (some (ad.add off)))
  | ep {g n c off : Nat} : VRep w L (.ep (.slice (some ⟨g, 0, none⟩) n c) off) (.pointer (some ⟨g, off, none⟩))
  | sp {k m c : Nat} {l : List T} {us : List Value} {ad : Addr} (hm : m * k ≤ l.length) (hk : l.length ≤ c * k) (hl : l.length = us.length) (hmc : m ≤ c) (hc : c ≤ maxLen) (hb : ad.block < w.heap.size) (hL : ad.block ∉ L)
      (hcell : ∀ (j : Nat) (u : Value), us[j]? = some u → w.cell? (ad.add j) = some u)
      (h : ∀ (j : Nat) (t : T) (u : Value), l[j]? = some t → us[j]? = some u → VRep w L t u) (h1 : ∀ u ∈ us, u.oneCell' = true) : VRep w L (.sp k m l) (.slice (some ad) m c)

/-- Cells that read so. -/
structure VReps (w : World) (L : List Nat) (l : List T) (us : List Value) : Prop where
  len : l.length = us.length
  at_ : ∀ (j : Nat) (t : T) (u : Value), l[j]? = some t → us[j]? = some u → VRep w L t u
  one : ∀ u ∈ us, u.oneCell' = true

/-- Blocks outside M are as they were. -/
structure Keeps (M : List Nat) (w w' : World) : Prop where
  os : w'.os = w.os
  tape : w'.tape = w.tape
  output : w'.output = w.output
  size : w.heap.size ≤ w'.heap.size
  block : ∀ k, k < w.heap.size → k ∉ M → w'.heap[k]? = w.heap[k]?

theorem Keeps.refl (M : List Nat) (w : World) : Keeps M w w := ⟨rfl, rfl, rfl, Nat.le_refl _, fun _ _ _ => rfl⟩
theorem Keeps.trans {M M' : List Nat} {a b c : World} (h : Keeps M a b) (k : Keeps M' b c) (hM : ∀ x ∈ M', x ∈ M ∨ a.heap.size ≤ x) : Keeps M a c :=
  ⟨k.os.trans h.os, k.tape.trans h.tape, k.output.trans h.output, Nat.le_trans h.size k.size, fun i hi hm =>
    (k.block i (Nat.lt_of_lt_of_le hi h.size) (fun hx => (hM i hx).elim hm (fun hx => by omega))).trans (h.block i hi hm)⟩
theorem Keeps.below {w w' : World} (h : Keeps [] w w') : Below w.heap.size w w' := ⟨h.os, h.tape, h.output, h.size, fun k hk => h.block k hk (by simp)⟩
theorem Keeps.of_grown {M : List Nat} {w w' : World} {row : Option Nat} (h : w.grownBy w' row) (hr : ∀ g, row = some g → g ∈ M) : Keeps M w w' :=
  ⟨h.os, h.tape, h.output, h.size, fun k hk hm => h.block k hk (fun e => hm (hr k e.symm))⟩
theorem Keeps.alloc (M : List Nat) (w : World) (o : Obj) : Keeps M w (w.alloc o) := ⟨rfl, rfl, rfl, by simp, fun k hk _ => Below.heap_alloc w o k hk⟩
theorem Keeps.drew (M : List Nat) (w : World) : Keeps M w w.drew := ⟨rfl, rfl, rfl, Nat.le_refl _, fun _ _ _ => rfl⟩
theorem Keeps.setCell {M : List Nat} {w : World} {p : Addr} (hp : p.block ∈ M) (u : Value) : Keeps M w (w.setCell p u) :=
  ⟨rfl, rfl, rfl, by simp, fun k _ hm => Below.heap_setCell w p u k (fun e => hm (e ▸ hp))⟩
theorem Keeps.mono {M M' : List Nat} {w w' : World} (h : Keeps M w w') (hM : ∀ x ∈ M, x < w.heap.size → x ∈ M') : Keeps M' w w' :=
  ⟨h.os, h.tape, h.output, h.size, fun k hk hm => h.block k hk (fun hx => hm (hM k hx hk))⟩

theorem VRep.mono {w w' : World} {L L' : List Nat} (hs : w.heap.size ≤ w'.heap.size) (hk : ∀ b, b < w.heap.size → b ∉ L → w'.heap[b]? = w.heap[b]?) (hL : ∀ b, b < w.heap.size → b ∈ L' → b ∈ L)
    {t : T} {u : Value} (h : VRep w L t u) : VRep w' L' t u := by
  induction h with
  | v x => exact .v x
  | agg hl _ h1 ih => exact .agg hl ih h1
  | tup hl _ ih => exact .tup hl ih
  | sl0 hc => exact .sl0 hc
  | sl hn hk' hl hnc hc hb hn' hcell _ h1 ih =>
    exact .sl hn hk' hl hnc hc (Nat.lt_of_lt_of_le hb hs) (fun hm => hn' (hL _ hb hm)) (fun j u hu => (World.cell?_of_block (w := w) (by rw [block_add]; exact hk _ hb hn')).trans (hcell j u hu)) ih h1
  | rp hl hb hn' hcell _ h1 ih =>
    exact .rp hl (Nat.lt_of_lt_of_le hb hs) (fun hm => hn' (hL _ hb hm)) (fun j u hu => (World.cell?_of_block (w := w) (by rw [block_add]; exact hk _ hb hn')).trans (hcell j u hu)) ih h1
  | ep => exact .ep
  | sp hm hk' hl hmc hc hb hn' hcell _ h1 ih =>
    exact .sp hm hk' hl hmc hc (Nat.lt_of_lt_of_le hb hs) (fun hm => hn' (hL _ hb hm)) (fun j u hu => (World.cell?_of_block (w := w) (by rw [block_add]; exact hk _ hb hn')).trans (hcell j u hu)) ih h1

theorem VReps.mono {w w' : World} {L L' : List Nat} (hs : w.heap.size ≤ w'.heap.size) (hk : ∀ b, b < w.heap.size → b ∉ L → w'.heap[b]? = w.heap[b]?) (hL : ∀ b, b < w.heap.size → b ∈ L' → b ∈ L)
    {l : List T} {us : List Value} (h : VReps w L l us) : VReps w' L' l us := ⟨h.len, fun j t u h1 h2 => (h.at_ j t u h1 h2).mono hs hk hL, h.one⟩

theorem VReps.nil {w : World} {L : List Nat} : VReps w L [] [] := ⟨rfl, fun j t u h => by simp at h, fun u h => by cases h⟩
theorem VReps.cons {w : World} {L : List Nat} {t : T} {u : Value} {l : List T} {us : List Value} (h : VRep w L t u) (h1 : u.oneCell' = true) (hr : VReps w L l us) : VReps w L (t :: l) (u :: us) := by
  refine ⟨by simp [hr.len], fun j t' u' e1 e2 => ?_, fun x hx => ?_⟩
  · cases j with
    | zero => simp at e1 e2; subst e1; subst e2; exact h
    | succ j => simp at e1 e2; exact hr.at_ j t' u' e1 e2
  · cases hx with
    | head => exact h1
    | tail _ hx => exact hr.one x hx
theorem VReps.append {w : World} {L : List Nat} {l l' : List T} {us us' : List Value} (h : VReps w L l us) (h' : VReps w L l' us') : VReps w L (l ++ l') (us ++ us') := by
  refine ⟨by simp [h.len, h'.len], fun j t u e1 e2 => ?_, fun x hx => (List.mem_append.1 hx).elim (h.one x) (h'.one x)⟩
  by_cases hj : j < l.length
  · rw [List.getElem?_append_left hj] at e1
    rw [List.getElem?_append_left (h.len ▸ hj)] at e2
    exact h.at_ j t u e1 e2
  · rw [List.getElem?_append_right (by omega)] at e1
    rw [List.getElem?_append_right (by rw [← h.len]; omega), ← h.len] at e2
    exact h'.at_ _ t u e1 e2
theorem VReps.set {w : World} {L : List Nat} {l : List T} {us : List Value} (h : VReps w L l us) (i : Nat) {t : T} {u : Value} (ht : VRep w L t u) (h1 : u.oneCell' = true) : VReps w L (l.set i t) (us.set i u) := by
  refine ⟨by simp [h.len], fun j t' u' e1 e2 => ?_, fun x hx => ?_⟩
  · rw [List.getElem?_set] at e1 e2
    by_cases hij : i = j
    · subst hij
      rw [if_pos rfl] at e1 e2
      split at e1 <;> simp at e1
      split at e2 <;> simp at e2
      subst e1; subst e2; exact ht
    · rw [if_neg hij] at e1 e2
      exact h.at_ j t' u' e1 e2
  · rcases List.mem_or_eq_of_mem_set hx with hx | hx
    · exact h.one x hx
    · subst hx; exact h1
theorem VReps.get {w : World} {L : List Nat} {l : List T} {us : List Value} (h : VReps w L l us) {i : Nat} {t : T} (ht : l[i]? = some t) : ∃ u, us[i]? = some u ∧ VRep w L t u ∧ u.oneCell' = true := by
  have hi : i < us.length := by
    rw [← h.len]
    exact (List.getElem?_eq_some_iff.1 ht).1
  exact ⟨us[i], List.getElem?_eq_getElem hi, h.at_ i t _ ht (List.getElem?_eq_getElem hi), h.one _ (List.getElem_mem hi)⟩
theorem VReps.take {w : World} {L : List Nat} {l : List T} {us : List Value} (h : VReps w L l us) (n : Nat) : VReps w L (l.take n) (us.take n) := by
  refine ⟨by simp [h.len], fun j t u e1 e2 => ?_, fun x hx => h.one x (List.mem_of_mem_take hx)⟩
  rw [List.getElem?_take] at e1 e2
  split at e1
  · rename_i hj; rw [if_pos hj] at e2; exact h.at_ j t u e1 e2
  · simp at e1
theorem VReps.drop {w : World} {L : List Nat} {l : List T} {us : List Value} (h : VReps w L l us) (n : Nat) : VReps w L (l.drop n) (us.drop n) := by
  refine ⟨by simp [h.len], fun j t u e1 e2 => ?_, fun x hx => h.one x (List.mem_of_mem_drop hx)⟩
  rw [List.getElem?_drop] at e1 e2
  exact h.at_ _ t u e1 e2

/-- A slice of the call's own that it may append to: nil, or from the head of a block none of whose cells is frozen. -/
def RowIs (w : World) (e : TypeId) (size : Nat) (A : Option Addr) (n c : Nat) (us : List Value) : Prop :=
  us.length = n * size ∧ c ≤ maxLen ∧ n ≤ c ∧
  ((A = none ∧ n = 0 ∧ c = 0) ∨ ∃ (g : Nat) (cur : Array Value) (fr : Nat × Nat), A = some ⟨g, 0, none⟩ ∧ w.heap[g]? = some (.cells cur e fr) ∧ (fr.1 = fr.2 ∨ cur.size ≤ fr.1) ∧ cur.size = c * size ∧ cur.toList.take (n * size) = us)

/-- A map's key. -/
inductive Key where
  | s (l : List UInt8)
  | i (k : IntKind) (z : Int)
  deriving DecidableEq, Inhabited
def Key.val : Key → Value
  | .s l => .string ⟨l.toArray⟩
  | .i k z => .int k z
/-- What the call may write: a block of cells; a slice of its own that it appends to; a map. -/
inductive Ent where
  | box (b : Nat) (ty : TypeId) (cs : List T)
  | row (A : Option Addr) (n c : Nat) (e : TypeId) (size : Nat) (cs : List T)
  | map (b : Nat) (es : List (Key × T))

def Ent.blk : Ent → Option Nat
  | .box b _ _ => some b
  | .row A _ _ _ _ _ => A.map (·.block)
  | .map b _ => some b
def Ent.holds (w : World) (L : List Nat) : Ent → Prop
  | .box b ty cs => ∃ us : List Value, w.heap[b]? = some (.cells us.toArray ty (0, 0)) ∧ VReps w L cs us
  | .row A n c e size cs => ∃ us : List Value, RowIs w e size A n c us ∧ VReps w L cs us
  | .map b es => ∃ (ms : Array MapEntry) (clock : Nat), w.heap[b]? = some (.map ms clock) ∧ ms.toList.map (·.key) = es.map (·.1.val) ∧ VReps w L (es.map (·.2)) (ms.toList.map (·.val))

abbrev St := List Ent
def M (S : St) : List Nat := S.filterMap Ent.blk

theorem mem_M {S : St} {b : Nat} : b ∈ M S ↔ ∃ e ∈ S, e.blk = some b := by simp [M, List.mem_filterMap]

theorem lt_of_heap {w : World} {b : Nat} {o : Obj} (h : w.heap[b]? = some o) : b < w.heap.size := by
  rcases Nat.lt_or_ge b w.heap.size with hlt | hge
  · exact hlt
  · rw [Array.getElem?_eq_none hge] at h; cases h
theorem RowIs.lt {w : World} {e : TypeId} {size n c : Nat} {A : Option Addr} {us : List Value} (h : RowIs w e size A n c us) {b : Nat} (hb : A.map (·.block) = some b) : b < w.heap.size := by
  rcases h.2.2.2 with ⟨rfl, _⟩ | ⟨g, cur, fr, rfl, hh, _⟩
  · cases hb
  · simp only [Option.map_some, Option.some.injEq] at hb
    subst hb
    exact lt_of_heap hh
theorem Ent.lt {w : World} {L : List Nat} {e : Ent} (h : e.holds w L) {b : Nat} (hb : e.blk = some b) : b < w.heap.size := by
  cases e with
  | box b' ty cs =>
    obtain ⟨us, hh, _⟩ := h
    simp only [Ent.blk, Option.some.injEq] at hb
    subst hb
    exact lt_of_heap hh
  | row A n c e size cs =>
    obtain ⟨us, ho, _⟩ := h
    exact ho.lt hb
  | map b' es =>
    obtain ⟨ms, clock, hh, _⟩ := h
    simp only [Ent.blk, Option.some.injEq] at hb
    subst hb
    exact lt_of_heap hh

theorem RowIs.of_block {w w' : World} {e : TypeId} {size n c : Nat} {A : Option Addr} {us : List Value} (h : RowIs w e size A n c us) (hb : ∀ g, A.map (·.block) = some g → w'.heap[g]? = w.heap[g]?) : RowIs w' e size A n c us := by
  obtain ⟨h1, h2, h3, h4⟩ := h
  refine ⟨h1, h2, h3, ?_⟩
  rcases h4 with h4 | ⟨g, cur, fr, hv, hh, r⟩
  · exact Or.inl h4
  · exact Or.inr ⟨g, cur, fr, hv, by rw [hb g (by rw [hv]; rfl)]; exact hh, r⟩

/-- An entry stays while its own block and all blocks outside L stay. -/
theorem Ent.holds.mono {w w' : World} {L L' : List Nat} {e : Ent} (h : e.holds w L) (hs : w.heap.size ≤ w'.heap.size) (hb : ∀ b, e.blk = some b → w'.heap[b]? = w.heap[b]?)
    (hk : ∀ b, b < w.heap.size → b ∉ L → w'.heap[b]? = w.heap[b]?) (hL : ∀ b, b < w.heap.size → b ∈ L' → b ∈ L) : e.holds w' L' := by
  cases e with
  | box b ty cs =>
    obtain ⟨us, hh, hr⟩ := h
    exact ⟨us, (hb b rfl).trans hh, hr.mono hs hk hL⟩
  | row A n c e size cs =>
    obtain ⟨us, ho, hr⟩ := h
    exact ⟨us, ho.of_block hb, hr.mono hs hk hL⟩
  | map b es =>
    obtain ⟨ms, clock, hh, h1, hr⟩ := h
    exact ⟨ms, clock, (hb b rfl).trans hh, h1, hr.mono hs hk hL⟩

/-- The frame's temporaries that are known: under a condition, a tree. -/
abbrev Env := List (Nat × Bool × T)
def get (k : Nat) : Env → Option (Bool × T)
  | [] => none
  | (j, c, t) :: r => bif Nat.beq k j then some (c, t) else get k r

theorem get_cons (k j : Nat) (c : Bool) (t : T) (r : Env) : get k ((j, c, t) :: r) = if k = j then some (c, t) else get k r := by
  simp only [get]
  by_cases h : k = j
  · subst h; simp
  · have hb : Nat.beq k j = false := by
      cases hb : Nat.beq k j
      · rfl
      · exact absurd (Nat.eq_of_beq_eq_true hb) h
    rw [if_neg h, hb]; rfl

structure Cx where
  P : Program
  X : List Nat
  M0 : List Nat
  w0 : World
  N : Nat
  D : List Deferred := []

structure Sim (cx : Cx) (env : Env) (S : St) (a : Act) (w : World) : Prop where
  keeps : Keeps cx.M0 cx.w0 w
  nd : (M S).Nodup
  fresh : ∀ b ∈ M S, b ∈ cx.M0 ∨ cx.w0.heap.size ≤ b
  far : ∀ b ∈ cx.X, b < cx.w0.heap.size ∧ b ∉ cx.M0
  ents : ∀ e ∈ S, e.holds w (cx.X ++ M S)
  size : a.tmps.size = cx.N
  defers : a.defers = cx.D
  slots : ∀ k c t, get k env = some (c, t) → (c = true → VRep w (cx.X ++ M S) t (a.tmps.getD k undef)) ∧ (c = false → a.tmps.getD k undef = undef)

theorem Sim.lt {cx : Cx} {env : Env} {S : St} {a : Act} {w : World} (h : Sim cx env S a w) {b : Nat} (hb : b ∈ M S) : b < w.heap.size := by
  obtain ⟨e, he, hb⟩ := mem_M.1 hb
  exact Ent.lt (h.ents e he) hb
theorem Sim.ltX {cx : Cx} {env : Env} {S : St} {a : Act} {w : World} (h : Sim cx env S a w) {b : Nat} (hb : b ∈ cx.X ++ M S) : b < w.heap.size := by
  rcases List.mem_append.1 hb with hb | hb
  · exact Nat.lt_of_lt_of_le (h.far b hb).1 h.keeps.size
  · exact h.lt hb
theorem Sim.notX {cx : Cx} {env : Env} {S : St} {a : Act} {w : World} (h : Sim cx env S a w) {b : Nat} (hb : b ∈ M S) : b ∉ cx.X := fun hx => by
  have h1 := h.far b hx
  rcases h.fresh b hb with h2 | h2
  · exact h1.2 h2
  · omega

theorem getD_put_same {a : Act} {d : Nat} {u : Value} (h : d < a.tmps.size) : (a.put (some d) u).tmps.getD d undef = u := by
  simp [Act.put, Array.getD_eq_getD_getElem?, h]
theorem getD_put_ne {a : Act} {d k : Nat} {u : Value} (h : k ≠ d) : (a.put (some d) u).tmps.getD k undef = a.tmps.getD k undef := by
  simp [Act.put, Array.getD_eq_getD_getElem?, Ne.symm h]

/-- The world stays; a temporary is written. -/
theorem Sim.put {cx : Cx} {env : Env} {S : St} {a : Act} {w : World} (h : Sim cx env S a w) {d : Nat} (hd : d < cx.N) {c : Bool} {t : T} {u : Value} (ht : c = true → VRep w (cx.X ++ M S) t u) (hf : c = false → u = undef) :
    Sim cx ((d, c, t) :: env) S (a.put (some d) u) w := by
  refine ⟨h.keeps, h.nd, h.fresh, h.far, h.ents, by simp [Act.put, h.size], h.defers, fun k c' t' hk => ?_⟩
  rw [get_cons] at hk
  by_cases e : k = d
  · subst e
    rw [if_pos rfl] at hk
    simp only [Option.some.injEq, Prod.mk.injEq] at hk
    obtain ⟨rfl, rfl⟩ := hk
    rw [getD_put_same (by rw [h.size]; exact hd)]
    exact ⟨ht, hf⟩
  · rw [if_neg e] at hk
    rw [getD_put_ne e]
    exact h.slots k c' t' hk
theorem Sim.putNone {cx : Cx} {env : Env} {S : St} {a : Act} {w : World} (h : Sim cx env S a w) (u : Value) : Sim cx env S (a.put none u) w := h

/-- The world turns: blocks outside M S are kept, the new entries hold. -/
theorem Sim.step {cx : Cx} {env : Env} {S S' : St} {a : Act} {w w' : World} (h : Sim cx env S a w) (hk : Keeps (M S) w w') (hnd : (M S').Nodup) (hfr : ∀ b ∈ M S', b ∈ M S ∨ w.heap.size ≤ b)
    (hent : ∀ e ∈ S', e.holds w' (cx.X ++ M S')) : Sim cx env S' a w' := by
  refine ⟨h.keeps.trans hk (fun b hb => h.fresh b hb), hnd, fun b hb => ?_, h.far, hent, h.size, h.defers, fun k c t e1 => ⟨fun e2 => ?_, (h.slots k c t e1).2⟩⟩
  · rcases hfr b hb with hb | hb
    · exact h.fresh b hb
    · exact .inr (Nat.le_trans h.keeps.size hb)
  · refine ((h.slots k c t e1).1 e2).mono hk.size (fun b hb hm => hk.block b hb (fun hx => hm (List.mem_append.2 (.inr hx)))) (fun b hb hm => ?_)
    rcases List.mem_append.1 hm with hm | hm
    · exact List.mem_append.2 (.inl hm)
    · rcases hfr b hm with hm | hm
      · exact List.mem_append.2 (.inr hm)
      · omega

/-- An entry that is not touched, in the new world. -/
theorem Sim.ent {cx : Cx} {env : Env} {S S' : St} {a : Act} {w w' : World} (h : Sim cx env S a w) (hk : Keeps (M S) w w') (hfr : ∀ b ∈ M S', b ∈ M S ∨ w.heap.size ≤ b) {e : Ent} (he : e ∈ S)
    (hb : ∀ b, e.blk = some b → w'.heap[b]? = w.heap[b]?) : e.holds w' (cx.X ++ M S') :=
  (h.ents e he).mono hk.size hb (fun b hb hm => hk.block b hb (fun hx => hm (List.mem_append.2 (.inr hx)))) (fun b hb hm => by
    rcases List.mem_append.1 hm with hm | hm
    · exact List.mem_append.2 (.inl hm)
    · rcases hfr b hm with hm | hm
      · exact List.mem_append.2 (.inr hm)
      · omega)

/-- Less is known. -/
theorem Sim.weaken {cx : Cx} {env env' : Env} {S : St} {a : Act} {w : World} (h : Sim cx env S a w) (he : ∀ k c t, get k env' = some (c, t) → get k env = some (c, t)) : Sim cx env' S a w :=
  ⟨h.keeps, h.nd, h.fresh, h.far, h.ents, h.size, h.defers, fun k c t e1 => h.slots k c t (he k c t e1)⟩

theorem Sim.drop {cx : Cx} {env : Env} {S S' : St} {a : Act} {w : World} (h : Sim cx env S a w) (hs : S'.Sublist S) : Sim cx env S' a w := by
  have hM : (M S').Sublist (M S) := hs.filterMap _
  refine h.step (Keeps.refl _ _) (hM.nodup h.nd) (fun b hb => .inl (hM.subset hb)) (fun e he => ?_)
  exact h.ent (Keeps.refl _ _) (fun b hb => .inl (hM.subset hb)) (hs.subset he) (fun _ _ => rfl)

theorem Sim.perm {cx : Cx} {env : Env} {S S' : St} {a : Act} {w : World} (h : Sim cx env S a w) (hs : S'.Perm S) : Sim cx env S' a w := by
  have hM : (M S').Perm (M S) := hs.filterMap _
  refine h.step (Keeps.refl _ _) (hM.nodup_iff.2 h.nd) (fun b hb => .inl (hM.subset hb)) (fun e he => ?_)
  exact h.ent (Keeps.refl _ _) (fun b hb => .inl (hM.subset hb)) (hs.subset he) (fun _ _ => rfl)

end Go.Proofs.YtjndpakhmgapjaaDoor
