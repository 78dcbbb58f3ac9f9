/-
  TEXTS JOINED: Aw1, Aw2, Aw3, Aw4, Aw5, Aw6, Aw7, Aw8.
-/
import Derived.WalkKit
import Derived.WalkSpells
import Derived.WalkLawsBesides
import Derived.Deep.AppendSrc
import Derived.Deep.AppendLies
import Derived.Deep.Draws
import Derived.Deep.Quiet
import Derived.Maps.AppendAt
import Derived.Deep.LoopGhost
import Derived.Deep.Upon
set_option linter.unusedSimpArgs false
set_option linter.unusedVariables false
set_option linter.unusedSectionVars false
set_option linter.unnecessarySimpa false
set_option maxHeartbeats 64000000
namespace Go.Proofs.YtlfklgganokgdaaGreat
open Go Go.RowKit

inductive T where
 | v (x : Value)
 | agg (l : List T)
 | tup (l : List T)
 | sl (k : Nat) (l : List T)
 | rp (l : List T) (off : Nat)
 | ep (x : Value) (off : Nat)
 | sp (k m : Nat) (l : List T)
 deriving Inhabited

theorem block_add (a : Addr) (n : Nat) : (a.add n).block = a.block := by unfold Addr.add; split <;> rfl
theorem add_add' (a : Addr) (i j : Nat) : (a.add i).add j = a.add (i + j) := by
 unfold Addr.add
 by_cases hi : i = 0 <;> by_cases hj : j = 0 <;> simp [hi, hj, Nat.add_assoc]

inductive VRep (w : World) (L : List Nat) : T → Value → Prop
 | v (x : Value) : VRep w L (.v x) x
 | agg {l : List T} {ys : List Value} (hl : l.length = ys.length) (h : ∀ (j : Nat) (t : T) (u : Value), l[j]? = some t → ys[j]? = some u → VRep w L t u) (h1 : ∀ u ∈ ys, u.oneCell' = true) : VRep w L (.agg l) (.agg ys.toArray)
 | tup {l : List T} {ys : List Value} (hl : l.length = ys.length) (h : ∀ (j : Nat) (t : T) (u : Value), l[j]? = some t → ys[j]? = some u → VRep w L t u) : VRep w L (.tup l) (.tuple ys.toArray)
 | sl0 {k c : Nat} {a : Option Addr} (hc : c ≤ maxLen) : VRep w L (.sl k []) (.slice a 0 c)
 | sl {k n c : Nat} {l : List T} {us : List Value} {ad : Addr} (hn : 0 < n) (hk : l.length = n * k) (hl : l.length = us.length) (hnc : n ≤ c) (hc : c ≤ maxLen) (hb : ad.block < w.heap.size) (hL : ad.block ∉ L)
     (hcell : ∀ (j : Nat) (u : Value), us[j]? = some u → w.cell? (ad.add j) = some u)
     (h : ∀ (j : Nat) (t : T) (u : Value), l[j]? = some t → us[j]? = some u → VRep w L t u) (h1 : ∀ u ∈ us, u.oneCell' = true) : VRep w L (.sl k l) (.slice (some ad) n c)
 | rp {l : List T} {off : Nat} {us : List Value} {ad : Addr} (hl : l.length = us.length) (hb : ad.block < w.heap.size) (hL : ad.block ∉ L)
     (hcell : ∀ (j : Nat) (u : Value), us[j]? = some u → w.cell? (ad.add j) = some u)
     (h : ∀ (j : Nat) (t : T) (u : Value), l[j]? = some t → us[j]? = some u → VRep w L t u) (h1 : ∀ u ∈ us, u.oneCell' = true) : VRep w L (.rp l off) (.pointer (some (ad.add off)))
 | ep {g n c off : Nat} : VRep w L (.ep (.slice (some ⟨g, 0, none⟩) n c) off) (.pointer (some ⟨g, off, none⟩))
 | sp {k m c : Nat} {l : List T} {us : List Value} {ad : Addr} (hm : m * k ≤ l.length) (hk : l.length ≤ c * k) (hl : l.length = us.length) (hmc : m ≤ c) (hc : c ≤ maxLen) (hb : ad.block < w.heap.size) (hL : ad.block ∉ L)
     (hcell : ∀ (j : Nat) (u : Value), us[j]? = some u → w.cell? (ad.add j) = some u)
     (h : ∀ (j : Nat) (t : T) (u : Value), l[j]? = some t → us[j]? = some u → VRep w L t u) (h1 : ∀ u ∈ us, u.oneCell' = true) : VRep w L (.sp k m l) (.slice (some ad) m c)

structure VReps (w : World) (L : List Nat) (l : List T) (us : List Value) : Prop where
 len : l.length = us.length
 at_ : ∀ (j : Nat) (t : T) (u : Value), l[j]? = some t → us[j]? = some u → VRep w L t u
 one : ∀ u ∈ us, u.oneCell' = true

structure Keeps (M : List Nat) (w w' : World) : Prop where
 os : w'.os = w.os
 tape : w'.tape = w.tape
 output : w'.output = w.output
 size : w.heap.size ≤ w'.heap.size
 block : ∀ k, k < w.heap.size → k ∉ M → w'.heap[k]? = w.heap[k]?

theorem Keeps.refl (M : List Nat) (w : World) : Keeps M w w := ⟨rfl, rfl, rfl, Nat.le_refl _, fun _ _ _ => rfl⟩
theorem Keeps.trans {M M' : List Nat} {a b c : World} (h : Keeps M a b) (k : Keeps M' b c) (hM : ∀ x ∈ M', x ∈ M ∨ a.heap.size ≤ x) : Keeps M a c :=
 ⟨k.os.trans h.os, k.tape.trans h.tape, k.output.trans h.output, Nat.le_trans h.size k.size, fun i hi hm =>
  (k.block i (Nat.lt_of_lt_of_le hi h.size) (fun hx => (hM i hx).elim hm (fun hx => by omega))).trans (h.block i hi hm)⟩
theorem Keeps.below {w w' : World} (h : Keeps [] w w') : Below w.heap.size w w' := ⟨h.os, h.tape, h.output, h.size, fun k hk => h.block k hk (by simp)⟩
theorem Keeps.alloc (M : List Nat) (w : World) (o : Obj) : Keeps M w (w.alloc o) := ⟨rfl, rfl, rfl, by simp, fun k hk _ => Below.heap_alloc w o k hk⟩
theorem Keeps.drew (M : List Nat) (w : World) : Keeps M w w.drew := ⟨rfl, rfl, rfl, Nat.le_refl _, fun _ _ _ => rfl⟩
theorem Keeps.setCell {M : List Nat} {w : World} {p : Addr} (hp : p.block ∈ M) (u : Value) : Keeps M w (w.setCell p u) :=
 ⟨rfl, rfl, rfl, by simp, fun k _ hm => Below.heap_setCell w p u k (fun e => hm (e ▸ hp))⟩
theorem Keeps.mono {M M' : List Nat} {w w' : World} (h : Keeps M w w') (hM : ∀ x ∈ M, x < w.heap.size → x ∈ M') : Keeps M' w w' :=
 ⟨h.os, h.tape, h.output, h.size, fun k hk hm => h.block k hk (fun hx => hm (hM k hx hk))⟩

theorem VRep.mono {w w' : World} {L L' : List Nat} (hs : w.heap.size ≤ w'.heap.size) (hk : ∀ b, b < w.heap.size → b ∉ L → w'.heap[b]? = w.heap[b]?) (hL : ∀ b, b < w.heap.size → b ∈ L' → b ∈ L)
    {t : T} {u : Value} (h : VRep w L t u) : VRep w' L' t u := by
 induction h with
 | v x => exact .v x
 | agg hl _ h1 ih => exact .agg hl ih h1
 | tup hl _ ih => exact .tup hl ih
 | sl0 hc => exact .sl0 hc
 | sl hn hk' hl hnc hc hb hn' hcell _ h1 ih =>
  exact .sl hn hk' hl hnc hc (Nat.lt_of_lt_of_le hb hs) (fun hm => hn' (hL _ hb hm)) (fun j u hu => (World.cell?_of_block (w := w) (by rw [block_add]; exact hk _ hb hn')).trans (hcell j u hu)) ih h1
 | rp hl hb hn' hcell _ h1 ih =>
  exact .rp hl (Nat.lt_of_lt_of_le hb hs) (fun hm => hn' (hL _ hb hm)) (fun j u hu => (World.cell?_of_block (w := w) (by rw [block_add]; exact hk _ hb hn')).trans (hcell j u hu)) ih h1
 | ep => exact .ep
 | sp hm hk' hl hmc hc hb hn' hcell _ h1 ih =>
  exact .sp hm hk' hl hmc hc (Nat.lt_of_lt_of_le hb hs) (fun hm => hn' (hL _ hb hm)) (fun j u hu => (World.cell?_of_block (w := w) (by rw [block_add]; exact hk _ hb hn')).trans (hcell j u hu)) ih h1

theorem VReps.mono {w w' : World} {L L' : List Nat} (hs : w.heap.size ≤ w'.heap.size) (hk : ∀ b, b < w.heap.size → b ∉ L → w'.heap[b]? = w.heap[b]?) (hL : ∀ b, b < w.heap.size → b ∈ L' → b ∈ L)
    {l : List T} {us : List Value} (h : VReps w L l us) : VReps w' L' l us := ⟨h.len, fun j t u h1 h2 => (h.at_ j t u h1 h2).mono hs hk hL, h.one⟩

theorem VReps.nil {w : World} {L : List Nat} : VReps w L [] [] := ⟨rfl, fun j t u h => by simp at h, fun u h => by cases h⟩
theorem VReps.cons {w : World} {L : List Nat} {t : T} {u : Value} {l : List T} {us : List Value} (h : VRep w L t u) (h1 : u.oneCell' = true) (hr : VReps w L l us) : VReps w L (t :: l) (u :: us) := by
 refine ⟨by simp [hr.len], fun j t' u' e1 e2 => ?_, fun x hx => ?_⟩
 ·cases j with
  | zero => simp at e1 e2; subst e1; subst e2; exact h
  | succ j => simp at e1 e2; exact hr.at_ j t' u' e1 e2
 cases hx with
 | head => exact h1
 | tail _ hx => exact hr.one x hx
theorem VReps.append {w : World} {L : List Nat} {l l' : List T} {us us' : List Value} (h : VReps w L l us) (h' : VReps w L l' us') : VReps w L (l ++ l') (us ++ us') := by
 refine ⟨by simp [h.len, h'.len], fun j t u e1 e2 => ?_, fun x hx => (List.mem_append.1 hx).elim (h.one x) (h'.one x)⟩
 by_cases hj : j < l.length
 ·rw [List.getElem?_append_left hj] at e1
  rw [List.getElem?_append_left (h.len ▸ hj)] at e2
  exact h.at_ j t u e1 e2
 rw [List.getElem?_append_right (by omega)] at e1
 rw [List.getElem?_append_right (by rw [← h.len]; omega), ← h.len] at e2
 exact h'.at_ _ t u e1 e2
theorem VReps.set {w : World} {L : List Nat} {l : List T} {us : List Value} (h : VReps w L l us) (i : Nat) {t : T} {u : Value} (ht : VRep w L t u) (h1 : u.oneCell' = true) : VReps w L (l.set i t) (us.set i u) := by
 refine ⟨by simp [h.len], fun j t' u' e1 e2 => ?_, fun x hx => ?_⟩
 ·rw [List.getElem?_set] at e1 e2
  by_cases hij : i = j
  ·subst hij
   rw [if_pos rfl] at e1 e2
   split at e1 <;> simp at e1
   split at e2 <;> simp at e2
   subst e1; subst e2; exact ht
  rw [if_neg hij] at e1 e2
  exact h.at_ j t' u' e1 e2
 rcases List.mem_or_eq_of_mem_set hx with hx | hx
 ·exact h.one x hx
 subst hx; exact h1
theorem VReps.get {w : World} {L : List Nat} {l : List T} {us : List Value} (h : VReps w L l us) {i : Nat} {t : T} (ht : l[i]? = some t) : ∃ u, us[i]? = some u ∧ VRep w L t u ∧ u.oneCell' = true := by
 have hi : i < us.length := by
  rw [← h.len]
  exact (List.getElem?_eq_some_iff.1 ht).1
 exact ⟨us[i], List.getElem?_eq_getElem hi, h.at_ i t _ ht (List.getElem?_eq_getElem hi), h.one _ (List.getElem_mem hi)⟩
theorem VReps.take {w : World} {L : List Nat} {l : List T} {us : List Value} (h : VReps w L l us) (n : Nat) : VReps w L (l.take n) (us.take n) := by
 refine ⟨by simp [h.len], fun j t u e1 e2 => ?_, fun x hx => h.one x (List.mem_of_mem_take hx)⟩
 rw [List.getElem?_take] at e1 e2
 split at e1
 ·rename_i hj; rw [if_pos hj] at e2; exact h.at_ j t u e1 e2
 simp at e1
theorem VReps.drop {w : World} {L : List Nat} {l : List T} {us : List Value} (h : VReps w L l us) (n : Nat) : VReps w L (l.drop n) (us.drop n) := by
 refine ⟨by simp [h.len], fun j t u e1 e2 => ?_, fun x hx => h.one x (List.mem_of_mem_drop hx)⟩
 rw [List.getElem?_drop] at e1 e2
 exact h.at_ _ t u e1 e2

def RowIs (w : World) (e : TypeId) (size : Nat) (A : Option Addr) (n c : Nat) (us : List Value) : Prop :=
 us.length = n * size ∧ c ≤ maxLen ∧ n ≤ c ∧
 ((A = none ∧ n = 0 ∧ c = 0) ∨ ∃ (g : Nat) (cur : Array Value) (fr : Nat × Nat), A = some ⟨g, 0, none⟩ ∧ w.heap[g]? = some (.cells cur e fr) ∧ (fr.1 = fr.2 ∨ cur.size ≤ fr.1) ∧ cur.size = c * size ∧ cur.toList.take (n * size) = us)

inductive Key where
 | s (l : List UInt8)
 | i (k : IntKind) (z : Int)
 deriving DecidableEq, Inhabited
def Key.val : Key → Value
 | .s l => .string ⟨l.toArray⟩
 | .i k z => .int k z
inductive Ent where
 | box (b : Nat) (ty : TypeId) (cs : List T)
 | row (A : Option Addr) (n c : Nat) (e : TypeId) (size : Nat) (cs : List T)
 | map (b : Nat) (es : List (Key × T))
 | raw (b : Nat) (o : Obj)

def Stamps (ms : Array MapEntry) (clock : Nat) : Prop := (∀ n ∈ ms.toList.map (·.born), n < clock) ∧ (ms.toList.map (·.born)).Nodup
def Ent.blk : Ent → Option Nat
 | .box b _ _ => some b
 | .row A _ _ _ _ _ => A.map (·.block)
 | .map b _ => some b
 | .raw b _ => some b
def Ent.holds (w : World) (L : List Nat) : Ent → Prop
 | .box b ty cs => ∃ us : List Value, w.heap[b]? = some (.cells us.toArray ty (0, 0)) ∧ VReps w L cs us
 | .row A n c e size cs => ∃ us : List Value, RowIs w e size A n c us ∧ VReps w L cs us
 | .map b es => ∃ (ms : Array MapEntry) (clock : Nat), w.heap[b]? = some (.map ms clock) ∧ ms.toList.map (·.key) = es.map (·.1.val) ∧ VReps w L (es.map (·.2)) (ms.toList.map (·.val)) ∧ Stamps ms clock
 | .raw b o => w.heap[b]? = some o

abbrev St := List Ent
def M (S : St) : List Nat := S.filterMap Ent.blk

theorem mem_M {S : St} {b : Nat} : b ∈ M S ↔ ∃ e ∈ S, e.blk = some b := by simp [M, List.mem_filterMap]

theorem lt_of_heap {w : World} {b : Nat} {o : Obj} (h : w.heap[b]? = some o) : b < w.heap.size := by
 rcases Nat.lt_or_ge b w.heap.size with hlt | hge
 ·exact hlt
 rw [Array.getElem?_eq_none hge] at h; cases h
theorem RowIs.lt {w : World} {e : TypeId} {size n c : Nat} {A : Option Addr} {us : List Value} (h : RowIs w e size A n c us) {b : Nat} (hb : A.map (·.block) = some b) : b < w.heap.size := by
 rcases h.2.2.2 with ⟨rfl, _⟩ | ⟨g, cur, fr, rfl, hh, _⟩
 ·cases hb
 simp only [Option.map_some, Option.some.injEq] at hb
 subst hb
 exact lt_of_heap hh
theorem Ent.lt {w : World} {L : List Nat} {e : Ent} (h : e.holds w L) {b : Nat} (hb : e.blk = some b) : b < w.heap.size := by
 cases e with
 | box b' ty cs =>
  obtain ⟨us, hh, _⟩ := h
  simp only [Ent.blk, Option.some.injEq] at hb
  subst hb
  exact lt_of_heap hh
 | row A n c e size cs =>
  obtain ⟨us, ho, _⟩ := h
  exact ho.lt hb
 | map b' es =>
  obtain ⟨ms, clock, hh, _⟩ := h
  simp only [Ent.blk, Option.some.injEq] at hb
  subst hb
  exact lt_of_heap hh
 | raw b' o =>
  simp only [Ent.blk, Option.some.injEq] at hb
  subst hb
  exact lt_of_heap h

theorem RowIs.of_block {w w' : World} {e : TypeId} {size n c : Nat} {A : Option Addr} {us : List Value} (h : RowIs w e size A n c us) (hb : ∀ g, A.map (·.block) = some g → w'.heap[g]? = w.heap[g]?) : RowIs w' e size A n c us := by
 obtain ⟨h1, h2, h3, h4⟩ := h
 refine ⟨h1, h2, h3, ?_⟩
 rcases h4 with h4 | ⟨g, cur, fr, hv, hh, r⟩
 ·exact Or.inl h4
 exact Or.inr ⟨g, cur, fr, hv, by rw [hb g (by rw [hv]; rfl)]; exact hh, r⟩

theorem Ent.holds.mono {w w' : World} {L L' : List Nat} {e : Ent} (h : e.holds w L) (hs : w.heap.size ≤ w'.heap.size) (hb : ∀ b, e.blk = some b → w'.heap[b]? = w.heap[b]?)
    (hk : ∀ b, b < w.heap.size → b ∉ L → w'.heap[b]? = w.heap[b]?) (hL : ∀ b, b < w.heap.size → b ∈ L' → b ∈ L) : e.holds w' L' := by
 cases e with
 | box b ty cs =>
  obtain ⟨us, hh, hr⟩ := h
  exact ⟨us, (hb b rfl).trans hh, hr.mono hs hk hL⟩
 | row A n c e size cs =>
  obtain ⟨us, ho, hr⟩ := h
  exact ⟨us, ho.of_block hb, hr.mono hs hk hL⟩
 | map b es =>
  obtain ⟨ms, clock, hh, h1, hr, hst⟩ := h
  exact ⟨ms, clock, (hb b rfl).trans hh, h1, hr.mono hs hk hL, hst⟩
 | raw b o => exact (hb b rfl).trans h

abbrev Env := List (Nat × Bool × T)
def get (k : Nat) : Env → Option (Bool × T)
 | [] => none
 | (j, c, t) :: r => bif Nat.beq k j then some (c, t) else get k r

theorem get_cons (k j : Nat) (c : Bool) (t : T) (r : Env) : get k ((j, c, t) :: r) = if k = j then some (c, t) else get k r := by
 simp only [get]
 by_cases h : k = j
 ·subst h; simp
 have hb : Nat.beq k j = false := by
  cases hb : Nat.beq k j
  ·rfl
  ·exact absurd (Nat.eq_of_beq_eq_true hb) h
 rw [if_neg h, hb]; rfl

structure Cx where
 P : Program
 X : List Nat
 M0 : List Nat
 w0 : World
 N : Nat
 D : List Deferred := []

structure Sim (cx : Cx) (env : Env) (S : St) (a : Act) (w : World) : Prop where
 keeps : Keeps cx.M0 cx.w0 w
 nd : (M S).Nodup
 fresh : ∀ b ∈ M S, b ∈ cx.M0 ∨ cx.w0.heap.size ≤ b
 far : ∀ b ∈ cx.X, b < cx.w0.heap.size ∧ b ∉ cx.M0
 ents : ∀ e ∈ S, e.holds w (cx.X ++ M S)
 size : a.tmps.size = cx.N
 defers : a.defers = cx.D
 slots : ∀ k c t, get k env = some (c, t) → (c = true → VRep w (cx.X ++ M S) t (a.tmps.getD k undef)) ∧ (c = false → a.tmps.getD k undef = undef)

theorem Sim.lt {cx : Cx} {env : Env} {S : St} {a : Act} {w : World} (h : Sim cx env S a w) {b : Nat} (hb : b ∈ M S) : b < w.heap.size := by
 obtain ⟨e, he, hb⟩ := mem_M.1 hb
 exact Ent.lt (h.ents e he) hb
theorem Sim.ltX {cx : Cx} {env : Env} {S : St} {a : Act} {w : World} (h : Sim cx env S a w) {b : Nat} (hb : b ∈ cx.X ++ M S) : b < w.heap.size := by
 rcases List.mem_append.1 hb with hb | hb
 ·exact Nat.lt_of_lt_of_le (h.far b hb).1 h.keeps.size
 exact h.lt hb
theorem Sim.notX {cx : Cx} {env : Env} {S : St} {a : Act} {w : World} (h : Sim cx env S a w) {b : Nat} (hb : b ∈ M S) : b ∉ cx.X := fun hx => by
 have h1 := h.far b hx
 rcases h.fresh b hb with h2 | h2
 ·exact h1.2 h2
 ·omega

theorem getD_put_same {a : Act} {d : Nat} {u : Value} (h : d < a.tmps.size) : (a.put (some d) u).tmps.getD d undef = u := by
 simp [Act.put, Array.getD_eq_getD_getElem?, h]
theorem getD_put_ne {a : Act} {d k : Nat} {u : Value} (h : k ≠ d) : (a.put (some d) u).tmps.getD k undef = a.tmps.getD k undef := by
 simp [Act.put, Array.getD_eq_getD_getElem?, Ne.symm h]

theorem Sim.put {cx : Cx} {env : Env} {S : St} {a : Act} {w : World} (h : Sim cx env S a w) {d : Nat} (hd : d < cx.N) {c : Bool} {t : T} {u : Value} (ht : c = true → VRep w (cx.X ++ M S) t u) (hf : c = false → u = undef) :
    Sim cx ((d, c, t) :: env) S (a.put (some d) u) w := by
 refine ⟨h.keeps, h.nd, h.fresh, h.far, h.ents, by simp [Act.put, h.size], h.defers, fun k c' t' hk => ?_⟩
 rw [get_cons] at hk
 by_cases e : k = d
 ·subst e
  rw [if_pos rfl] at hk
  simp only [Option.some.injEq, Prod.mk.injEq] at hk
  obtain ⟨rfl, rfl⟩ := hk
  rw [getD_put_same (by rw [h.size]; exact hd)]
  exact ⟨ht, hf⟩
 rw [if_neg e] at hk
 rw [getD_put_ne e]
 exact h.slots k c' t' hk
theorem Sim.putNone {cx : Cx} {env : Env} {S : St} {a : Act} {w : World} (h : Sim cx env S a w) (u : Value) : Sim cx env S (a.put none u) w := h

theorem Sim.step {cx : Cx} {env : Env} {S S' : St} {a : Act} {w w' : World} (h : Sim cx env S a w) (hk : Keeps (M S) w w') (hnd : (M S').Nodup) (hfr : ∀ b ∈ M S', b ∈ M S ∨ w.heap.size ≤ b)
    (hent : ∀ e ∈ S', e.holds w' (cx.X ++ M S')) : Sim cx env S' a w' := by
 refine ⟨h.keeps.trans hk (fun b hb => h.fresh b hb), hnd, fun b hb => ?_, h.far, hent, h.size, h.defers, fun k c t e1 => ⟨fun e2 => ?_, (h.slots k c t e1).2⟩⟩
 ·rcases hfr b hb with hb | hb
  ·exact h.fresh b hb
  exact .inr (Nat.le_trans h.keeps.size hb)
 refine ((h.slots k c t e1).1 e2).mono hk.size (fun b hb hm => hk.block b hb (fun hx => hm (List.mem_append.2 (.inr hx)))) (fun b hb hm => ?_)
 rcases List.mem_append.1 hm with hm | hm
 ·exact List.mem_append.2 (.inl hm)
 rcases hfr b hm with hm | hm
 ·exact List.mem_append.2 (.inr hm)
 omega

theorem Sim.ent {cx : Cx} {env : Env} {S S' : St} {a : Act} {w w' : World} (h : Sim cx env S a w) (hk : Keeps (M S) w w') (hfr : ∀ b ∈ M S', b ∈ M S ∨ w.heap.size ≤ b) {e : Ent} (he : e ∈ S)
    (hb : ∀ b, e.blk = some b → w'.heap[b]? = w.heap[b]?) : e.holds w' (cx.X ++ M S') :=
 (h.ents e he).mono hk.size hb (fun b hb hm => hk.block b hb (fun hx => hm (List.mem_append.2 (.inr hx)))) (fun b hb hm => by
  rcases List.mem_append.1 hm with hm | hm
  ·exact List.mem_append.2 (.inl hm)
  ·rcases hfr b hm with hm | hm
   ·exact List.mem_append.2 (.inr hm)
   ·omega)

theorem Sim.weaken {cx : Cx} {env env' : Env} {S : St} {a : Act} {w : World} (h : Sim cx env S a w) (he : ∀ k c t, get k env' = some (c, t) → get k env = some (c, t)) : Sim cx env' S a w :=
 ⟨h.keeps, h.nd, h.fresh, h.far, h.ents, h.size, h.defers, fun k c t e1 => h.slots k c t (he k c t e1)⟩

theorem Sim.drop {cx : Cx} {env : Env} {S S' : St} {a : Act} {w : World} (h : Sim cx env S a w) (hs : S'.Sublist S) : Sim cx env S' a w := by
 have hM : (M S').Sublist (M S) := hs.filterMap _
 refine h.step (Keeps.refl _ _) (hM.nodup h.nd) (fun b hb => .inl (hM.subset hb)) (fun e he => ?_)
 exact h.ent (Keeps.refl _ _) (fun b hb => .inl (hM.subset hb)) (hs.subset he) (fun _ _ => rfl)

theorem Sim.perm {cx : Cx} {env : Env} {S S' : St} {a : Act} {w : World} (h : Sim cx env S a w) (hs : S'.Perm S) : Sim cx env S' a w := by
 have hM : (M S').Perm (M S) := hs.filterMap _
 refine h.step (Keeps.refl _ _) (hM.nodup_iff.2 h.nd) (fun b hb => .inl (hM.subset hb)) (fun e he => ?_)
 exact h.ent (Keeps.refl _ _) (fun b hb => .inl (hM.subset hb)) (hs.subset he) (fun _ _ => rfl)


def lift (cx : Cx) (Q : Exit → Env → St → Prop) : Exit → Act → World → Prop :=
 fun e a w => ∃ env S, Sim cx env S a w ∧ Q e env S
def AW (cx : Cx) (c : Code) (Q : Exit → Env → St → Prop) (env : Env) (S : St) : Prop := ∀ a w, Sim cx env S a w → c.wp cx.P (lift cx Q) a w
def liftN (cx : Cx) (K : Env → St → Prop) : Exit → Act → World → Prop := fun e a w => e = .normal ∧ ∃ env S, Sim cx env S a w ∧ K env S
def AWL (cx : Cx) (ops : Array Oper) (l : List Oper) (K : Env → St → Prop) (env : Env) (S : St) : Prop :=
 ∀ a w, Sim cx env S a w → wpList cx.P ops (liftN cx K) l a w
def AWQ (cx : Cx) (ops : Array Oper) (l : List Oper) (K : Env → St → Prop) (env : Env) (S : St) : Prop :=
 ∀ a w, Sim cx env S a w → wpQuiet cx.P ops (fun w' => Keeps [] w w') (fun a' => ∀ w', Keeps [] w w' → ∃ env' S', Sim cx env' S' a' w' ∧ K env' S') l a
def thenQ (K : Env → St → Prop) (Q : Exit → Env → St → Prop) : Exit → Env → St → Prop
 | .normal => K
 | e => Q e
def blockQ (id : Nat) (Q : Exit → Env → St → Prop) : Exit → Env → St → Prop
 | .exit i => if i = id then Q .normal else Q (.exit i)
 | e => Q e

section
variable {cx : Cx} {Q Q' : Exit → Env → St → Prop} {K : Env → St → Prop} {env : Env} {S : St}

theorem AW.mono {c : Code} (h : AW cx c Q env S) (hq : ∀ e env S, Q e env S → Q' e env S) : AW cx c Q' env S :=
 fun a w hs => Code.wp_mono (fun e _ _ ⟨env, S, h1, h2⟩ => ⟨env, S, h1, hq e env S h2⟩) (h a w hs)
theorem AW.skip (h : Q .normal env S) : AW cx .skip Q env S := fun _ _ hs => wp_skip ⟨env, S, hs, h⟩
theorem AW.ret (h : Q .ret env S) : AW cx .ret Q env S := fun _ _ hs => wp_ret ⟨env, S, hs, h⟩
theorem AW.exit {id : Nat} (h : Q (.exit id) env S) : AW cx (.exit id) Q env S := fun _ _ hs => wp_exit ⟨env, S, hs, h⟩
theorem AW.seq {x y : Code} (h : AW cx x (thenQ (AW cx y Q) Q) env S) : AW cx (.seq x y) Q env S := by
 intro a w hs
 refine wp_seq (Code.wp_mono (fun e a w hq => ?_) (h a w hs))
 obtain ⟨env', S', h1, h2⟩ := hq
 cases e <;> first | exact h2 a w h1 | exact ⟨env', S', h1, h2⟩
theorem AW.block {id : Nat} {c : Code} (h : AW cx c (blockQ id Q) env S) : AW cx (.block id c) Q env S := by
 intro a w hs
 refine wp_block (Code.wp_mono (fun e a w hq => ?_) (h a w hs))
 obtain ⟨env', S', h1, h2⟩ := hq
 cases e with
 | exit i =>
  simp only [Exit.inBlock]
  simp only [blockQ] at h2
  split
  ·rename_i hi; rw [if_pos hi] at h2; exact ⟨env', S', h1, h2⟩
  ·rename_i hi; rw [if_neg hi] at h2; exact ⟨env', S', h1, h2⟩
 | _ => exact ⟨env', S', h1, h2⟩
theorem AW.cond {k : Nat} {b : Bool} {x y : Code} (hk : get k env = some (true, .v (.bool b))) (ht : b = true → AW cx x Q env S) (hf : b = false → AW cx y Q env S) : AW cx (.cond (.tmp k) x y) Q env S := by
 intro a w hs
 have h1 := (hs.slots k _ _ hk).1 rfl
 have h2 : a.eval (.tmp k) = .bool b := by
  show a.tmps.getD k undef = _
  generalize a.tmps.getD k undef = u at h1
  cases h1; rfl
 cases b
 ·exact wp_cond_false h2 (hf rfl a w hs)
 exact wp_cond_true h2 (ht rfl a w hs)
theorem AW.weaken {c : Code} {env' : Env} (he : ∀ k c t, get k env' = some (c, t) → get k env = some (c, t)) (h : AW cx c Q env' S) : AW cx c Q env S := fun a w hs => h a w (hs.weaken he)
theorem AW.drop {c : Code} {S' : St} (hs' : S'.Sublist S) (h : AW cx c Q env S') : AW cx c Q env S := fun a w hs => h a w (hs.drop hs')
theorem AW.perm {c : Code} {S' : St} (hs' : S'.Perm S) (h : AW cx c Q env S') : AW cx c Q env S := fun a w hs => h a w (hs.perm hs')

def Sub (env' env : Env) : Prop := ∀ k c t, get k env' = some (c, t) → get k env = some (c, t)
theorem Sub.nil : Sub [] env := fun k c t h => by simp [get] at h
theorem Sub.cons {env' : Env} {k : Nat} {c : Bool} {t t' : T} (hk : get k env = some (c, t')) (ht : t = t') (h : Sub env' env) : Sub ((k, c, t) :: env') env := by
 intro k' c' t'' e
 rw [get_cons] at e
 split at e
 ·rename_i hkk; subst hkk
  simp only [Option.some.injEq, Prod.mk.injEq] at e
  obtain ⟨rfl, rfl⟩ := e
  rw [hk, ht]
 exact h k' c' t'' e
theorem Sub.refl : Sub env env := fun _ _ _ h => h

theorem AW.loop {α : Type} {c : Code} (E : α → Env) (H : α → St) (inv : α → Prop) (μ : α → Nat) (x₀ : α) (h₀ : inv x₀) (he : Sub (E x₀) env) (hS : S = H x₀)
    (round : ∀ x, inv x → AW cx c (thenQ (fun env' S' => ∃ y, inv y ∧ μ y < μ x ∧ Sub (E y) env' ∧ S' = H y) Q) (E x) (H x)) : AW cx (.loop c) Q env S := by
 intro a w hs
 refine wp_loop_ghost (fun n a w => ∃ x, inv x ∧ μ x = n ∧ Sim cx (E x) (H x) a w) (μ x₀) ⟨x₀, h₀, rfl, hS ▸ hs.weaken he⟩ ?_
 rintro n a w ⟨x, hx, rfl, hsx⟩
 refine Code.wp_mono (fun e a w hq => ?_) (round x hx a w hsx)
 obtain ⟨env', S', h1, h2⟩ := hq
 cases e with
 | normal =>
  obtain ⟨y, hy, hlt, hsub, rfl⟩ := h2
  exact ⟨μ y, hlt, y, hy, rfl, h1.weaken hsub⟩
 | _ => exact ⟨env', S', h1, h2⟩

theorem AW.region {id : Nat} {l : List Oper} (h : AWL cx l.toArray l (Q .normal) env S) : AW cx (.region id l.toArray false) Q env S := by
 intro a w hs
 refine Code.wp_mono (fun e a w hq => ?_) (wp_region_lit (h a w hs))
 obtain ⟨rfl, env', S', h1, h2⟩ := hq
 exact ⟨env', S', h1, h2⟩
theorem AW.rseq {id : Nat} {l : List Oper} {y : Code} (h : AWL cx l.toArray l (AW cx y Q) env S) : AW cx (.seq (.region id l.toArray false) y) Q env S := AW.seq (AW.region h)
theorem AW.regionQ {id : Nat} {l : List Oper} (hm : cx.P.follows .mixedOrders = true) (hB : Region.lexB .any l.toArray = true) (h : AWQ cx l.toArray l (Q .normal) env S) : AW cx (.region id l.toArray true) Q env S := by
 intro a w hs
 refine wp_region_quiet (C := fun w' => Keeps [] w w') hm hB (Keeps.drew _ _) ?_
 have := h a w hs
 simpa [lift] using this
theorem AW.rseqQ {id : Nat} {l : List Oper} {y : Code} (hm : cx.P.follows .mixedOrders = true) (hB : Region.lexB .any l.toArray = true) (h : AWQ cx l.toArray l (AW cx y Q) env S) : AW cx (.seq (.region id l.toArray true) y) Q env S := AW.seq (AW.regionQ hm hB h)

theorem AWL.nil {ops : Array Oper} (h : K env S) : AWL cx ops [] K env S := fun _ _ hs => wpList_nil ⟨rfl, env, S, hs, h⟩
theorem AWL.drop {ops : Array Oper} {l : List Oper} {S' : St} (hs' : S'.Sublist S) (h : AWL cx ops l K env S') : AWL cx ops l K env S := fun a w hs => h a w (hs.drop hs')
theorem AWL.perm {ops : Array Oper} {l : List Oper} {S' : St} (hs' : S'.Perm S) (h : AWL cx ops l K env S') : AWL cx ops l K env S := fun a w hs => h a w (hs.perm hs')
theorem AWQ.nil {ops : Array Oper} (h : K env S) : AWQ cx ops [] K env S := by
 intro a w hs
 refine wpQuiet_nil fun w' hk => ⟨env, S, hs.step (hk.mono (by simp)) hs.nd (fun b hb => .inl hb) (fun e he => ?_), h⟩
 exact hs.ent (hk.mono (by simp)) (fun b hb => .inl hb) he (fun b hb => hk.block b (hs.lt (mem_M.2 ⟨e, he, hb⟩)) (by simp))

def Yv (cx : Cx) (o : Oper) (env : Env) (S : St) (g : Bool) (t : T) : Prop :=
 ∀ a w, Sim cx env S a w → g = true → ∃ u, VRep w (cx.X ++ M S) t u ∧ ∀ w', Keeps [] w w' → (execOp a.eval o).run cx.P w' = .ok (.value u) w'

theorem wanted_none {ops : Array Oper} {o : Oper} {a : Act} (hg : o.guard = none) : Region.wanted o (yielded ops a.tmps) = true := by simp [Region.wanted, hg]
def boolOf : Value → Option Bool
 | .bool b => some b
 | _ => none
theorem yielded_slot {ops : Array Oper} {a : Act} {j dj : Nat} (hj : (ops[j]?).bind (·.dst) = some dj) {u : Value} (hu : a.tmps.getD dj undef = u) :
    yielded ops a.tmps j = boolOf u := by
 unfold yielded
 rw [hj]
 simp only [Option.bind_some]
 rw [Array.getD_eq_getD_getElem?] at hu
 cases h : a.tmps[dj]? with
 | none => rw [h] at hu; simp only [Option.getD_none] at hu; subst hu; rfl
 | some v => rw [h] at hu; simp only [Option.getD_some] at hu; subst hu; cases v <;> rfl

theorem Sim.guard {a : Act} {w : World} (hs : Sim cx env S a w) {ops : Array Oper} {o : Oper} {j dj : Nat} {want c b : Bool} (hg : o.guard = some (j, want)) (hj : (ops[j]?).bind (·.dst) = some dj)
    (hk : get dj env = some (c, .v (.bool b))) : Region.wanted o (yielded ops a.tmps) = (c && (b == want)) := by
 have h0 := hs.slots dj _ _ hk
 unfold Region.wanted
 simp only [hg]
 cases c with
 | false => rw [yielded_slot hj (h0.2 rfl)]; rfl
 | true =>
  have h1 := h0.1 rfl
  generalize hu : a.tmps.getD dj undef = u at h1
  rw [yielded_slot hj hu]
  cases h1
  cases b <;> cases want <;> rfl

theorem AWL.y {ops : Array Oper} {o : Oper} {l : List Oper} {d : Nat} {t : T} (hg : o.guard = none) (hd : o.dst = some d) (hN : d < cx.N) (h : Yv cx o env S true t) (hr : AWL cx ops l K ((d, true, t) :: env) S) :
    AWL cx ops (o :: l) K env S := by
 intro a w hs
 unfold wpList
 rw [if_pos (wanted_none hg)]
 obtain ⟨u, h1, h2⟩ := h a w hs rfl
 refine .inl ?_
 unfold Oper.wp
 rw [h2 w (Keeps.refl _ _), Oper.upon_value, hd]
 exact hr _ _ (hs.put hN (fun _ => h1) (by simp))
theorem AWL.yg {ops : Array Oper} {o : Oper} {l : List Oper} {d j dj : Nat} {t : T} {c b want : Bool} (hg : o.guard = some (j, want)) (hj : (ops[j]?).bind (·.dst) = some dj) (hk : get dj env = some (c, .v (.bool b)))
    (hd : o.dst = some d) (hN : d < cx.N) (h : Yv cx o env S (c && (b == want)) t) (hr : AWL cx ops l K ((d, (c && (b == want)), t) :: env) S) : AWL cx ops (o :: l) K env S := by
 intro a w hs
 unfold wpList
 rw [hs.guard hg hj hk]
 cases hc : (c && (b == want)) with
 | true =>
  rw [if_pos rfl]
  obtain ⟨u, h1, h2⟩ := h a w hs hc
  refine .inl ?_
  unfold Oper.wp
  rw [h2 w (Keeps.refl _ _), Oper.upon_value, hd]
  exact hr _ _ (hs.put hN (fun _ => h1) (fun e => by rw [hc] at e; cases e))
 | false =>
  rw [if_neg (by simp), hd]
  exact hr _ _ (hs.put hN (fun e => by rw [hc] at e; cases e) (fun _ => rfl))
theorem AWQ.y {ops : Array Oper} {o : Oper} {l : List Oper} {d : Nat} {t : T} (hg : o.guard = none) (hd : o.dst = some d) (hN : d < cx.N) (h : Yv cx o env S true t) (hr : AWQ cx ops l K ((d, true, t) :: env) S) :
    AWQ cx ops (o :: l) K env S := by
 intro a w hs
 unfold wpQuiet
 rw [if_pos (wanted_none hg)]
 obtain ⟨u, h1, h2⟩ := h a w hs rfl
 refine ⟨u, fun w' hw' => ?_, ?_⟩
 ·unfold Oper.quietAt
  rw [h2 w' hw']
  exact ⟨rfl, rfl⟩
 rw [hd]
 exact hr _ _ (hs.put hN (fun _ => h1) (by simp))
theorem AWQ.yg {ops : Array Oper} {o : Oper} {l : List Oper} {d j dj : Nat} {t : T} {c b want : Bool} (hg : o.guard = some (j, want)) (hj : (ops[j]?).bind (·.dst) = some dj) (hk : get dj env = some (c, .v (.bool b)))
    (hd : o.dst = some d) (hN : d < cx.N) (h : Yv cx o env S (c && (b == want)) t) (hr : AWQ cx ops l K ((d, (c && (b == want)), t) :: env) S) : AWQ cx ops (o :: l) K env S := by
 intro a w hs
 unfold wpQuiet
 rw [hs.guard hg hj hk]
 cases hc : (c && (b == want)) with
 | true =>
  rw [if_pos rfl]
  obtain ⟨u, h1, h2⟩ := h a w hs hc
  refine ⟨u, fun w' hw' => ?_, ?_⟩
  ·unfold Oper.quietAt
   rw [h2 w' hw']
   exact ⟨rfl, rfl⟩
  ·rw [hd]
   exact hr _ _ (hs.put hN (fun _ => h1) (fun e => by rw [hc] at e; cases e))
 | false =>
  rw [if_neg (by simp), hd]
  exact hr _ _ (hs.put hN (fun e => by rw [hc] at e; cases e) (fun _ => rfl))

def ofConst : Value → T
 | .agg cs => .agg (cs.toList.map .v)
 | x => .v x
def ev (env : Env) : Operand → Option (Bool × T)
 | .tmp k => get k env
 | .const x => some (true, ofConst x)
 | .global g => some (true, .v (.pointer (some ⟨g, 0, none⟩)))
 | .func f => some (true, .v (.func (.func f) #[] #[]))
def plainConst : Operand → Bool
 | .const (.agg cs) => cs.all Value.oneCell'
 | _ => true
theorem vrep_ofConst {w : World} {L : List Nat} (x : Value) (h : plainConst (.const x) = true) : VRep w L (ofConst x) x := by
 cases x with
 | agg cs =>
  obtain ⟨cs⟩ := cs
  refine .agg (by simp) (fun j t u h1 h2 => ?_) (by simpa [plainConst] using h)
  simp only [List.getElem?_map] at h1
  rw [h2] at h1
  simp only [Option.map_some, Option.some.injEq] at h1
  subst h1
  exact .v u
 | _ => exact .v _
theorem Sim.ev {a : Act} {w : World} (hs : Sim cx env S a w) {x : Operand} {c : Bool} {t : T} (hx : ev env x = some (c, t)) (hp : plainConst x = true) (hc : c = true) : VRep w (cx.X ++ M S) t (a.eval x) := by
 cases x with
 | tmp k => exact (hs.slots k c t hx).1 hc
 | const x =>
  simp only [YtlfklgganokgdaaGreat.ev, Option.some.injEq, Prod.mk.injEq] at hx
  obtain ⟨-, rfl⟩ := hx
  exact vrep_ofConst x hp
 | global g =>
  simp only [YtlfklgganokgdaaGreat.ev, Option.some.injEq, Prod.mk.injEq] at hx
  obtain ⟨-, rfl⟩ := hx
  exact .v _
 | func f =>
  simp only [YtlfklgganokgdaaGreat.ev, Option.some.injEq, Prod.mk.injEq] at hx
  obtain ⟨-, rfl⟩ := hx
  exact .v _
theorem VRep.v_inv {w : World} {L : List Nat} {x u : Value} (h : VRep w L (.v x) u) : u = x := by cases h; rfl
end
noncomputable def cnE {α : Type} (e : α) (l : List α) : Nat := @List.count α (@instBEqOfDecidableEq α (fun a b => Classical.propDecidable (a = b))) e l
noncomputable def c1E {α : Type} (e x : α) : Nat := cnE e [x]
theorem cn_app {α : Type} {e : α} {a b : List α} : cnE e (a ++ b) = cnE e a + cnE e b := by
 letI : DecidableEq α := fun a b => Classical.propDecidable (a = b)
 exact List.count_append
theorem cn_cons {α : Type} {e x : α} {l : List α} : cnE e (x :: l) = c1E e x + cnE e l := cn_app (a := [x])
theorem cn_nil {α : Type} {e : α} : cnE e [] = 0 := rfl
theorem pk {α : Type} {a b : List α} (h : ∀ e, cnE e a = cnE e b := by intro e; simp only [cn_app, cn_cons, cn_nil]; omega) : a.Perm b := by
 letI : DecidableEq α := fun a b => Classical.propDecidable (a = b)
 exact List.perm_iff_count.2 h

def Ev (env : Env) (g : Bool) (x : Operand) (t : T) : Prop := ∃ c, ev env x = some (c, t) ∧ plainConst x = true ∧ (g = true → c = true)

section
variable {cx : Cx} {env : Env} {S : St} {o : Oper} {g : Bool} {x y z : Operand}

theorem Ev.rep {t : T} (h : Ev env g x t) {a : Act} {w : World} (hs : Sim cx env S a w) (hg : g = true) : VRep w (cx.X ++ M S) t (a.eval x) := by
 obtain ⟨c, h1, h2, h3⟩ := h
 exact hs.ev h1 h2 (h3 hg)
theorem Ev.val {u : Value} (h : Ev env g x (.v u)) {a : Act} {w : World} (hs : Sim cx env S a w) (hg : g = true) : a.eval x = u := (h.rep hs hg).v_inv
theorem Yv.plain {u : Value} (h : ∀ a w, Sim cx env S a w → g = true → ∀ w', (execOp a.eval o).run cx.P w' = .ok (.value u) w') : Yv cx o env S g (.v u) :=
 fun a w hs hg => ⟨u, .v u, fun w' _ => h a w hs hg w'⟩

theorem Yv.move {t : T} (ho : o.op = .move x) (hx : Ev env g x t) : Yv cx o env S g t :=
 fun a w hs hg => ⟨a.eval x, hx.rep hs hg, fun w' _ => by simp [execOp, ho, Sem.run_pure]⟩
theorem Yv.assign {t : T} (ho : o.op = .assign x) (hx : Ev env g x t) : Yv cx o env S g t :=
 fun a w hs hg => ⟨a.eval x, hx.rep hs hg, fun w' _ => by simp [execOp, ho, Sem.run_pure]⟩

theorem run_pick {ρ : Operand → Value} {P : Program} {b : Bool} (ho : o.op = .pick x y z) (hx : ρ x = .bool b) (w : World) : (execOp ρ o).run P w = .ok (.value (if b then ρ y else ρ z)) w := by
 simp [execOp, ho, hx, asBool, Sem.run_bind, Sem.run_pure]
theorem Yv.pickOr {b q : Bool} {t : Operand} (ho : o.op = .pick x (.const (.bool true)) z) (hx : Ev env g x (.v (.bool b))) (hz : Ev env (g && !b) z (.v (.bool q))) : Yv cx o env S g (.v (.bool (b || q))) :=
 Yv.plain fun a w hs hg w' => by
  rw [run_pick ho (hx.val hs hg)]
  cases b
  ·rw [hz.val hs (by simp [hg])]; rfl
  ·rfl
theorem Yv.pickAnd {b q : Bool} (ho : o.op = .pick x z (.const (.bool false))) (hx : Ev env g x (.v (.bool b))) (hz : Ev env (g && b) z (.v (.bool q))) : Yv cx o env S g (.v (.bool (b && q))) :=
 Yv.plain fun a w hs hg w' => by
  rw [run_pick ho (hx.val hs hg)]
  cases b
  ·rfl
  ·rw [hz.val hs (by simp [hg])]; rfl

/-! ### Integers -/
theorem exec_binOp_int {ρ : Operand → Value} {P : Program} {op : BinOp} {ty yt : TypeId} {k k' : IntKind} {p q : Int} (ho : o.op = .binOp op ty x y yt) (hx : ρ x = .int k p) (hy : ρ y = .int k' q) (w : World) :
    (execOp ρ o).run P w = ((binOp op ty (.int k p) (.int k' q)).run P w).andThen fun v w => .ok (.value v) w := by
 have h : eqGuard op ty x y (.int k p) (.int k' q) = pure () := by
  unfold eqGuard
  split <;> rfl
 simp only [execOp, ho, hx, hy, h, Sem.run_bind, Sem.run_pure, pure_bind]

theorem Yv.add {ty yt : TypeId} {k : IntKind} {p q : Int} (ho : o.op = .binOp .add ty x y yt) (hx : Ev env g x (.v (.int k p))) (hy : Ev env g y (.v (.int k q))) : Yv cx o env S g (.v (.int k (k.wrap (p + q)))) :=
 Yv.plain fun a w hs hg w' => by rw [exec_binOp_int ho (hx.val hs hg) (hy.val hs hg)]; simp [binOp, Op.intArith, Sem.run_pure]
theorem Yv.sub {ty yt : TypeId} {k : IntKind} {p q : Int} (ho : o.op = .binOp .sub ty x y yt) (hx : Ev env g x (.v (.int k p))) (hy : Ev env g y (.v (.int k q))) : Yv cx o env S g (.v (.int k (k.wrap (p - q)))) :=
 Yv.plain fun a w hs hg w' => by rw [exec_binOp_int ho (hx.val hs hg) (hy.val hs hg)]; simp [binOp, Op.intArith, Sem.run_pure]
theorem Yv.mul {ty yt : TypeId} {k : IntKind} {p q : Int} (ho : o.op = .binOp .mul ty x y yt) (hx : Ev env g x (.v (.int k p))) (hy : Ev env g y (.v (.int k q))) : Yv cx o env S g (.v (.int k (k.wrap (p * q)))) :=
 Yv.plain fun a w hs hg w' => by rw [exec_binOp_int ho (hx.val hs hg) (hy.val hs hg)]; simp [binOp, Op.intArith, Sem.run_pure]
theorem Yv.quo {ty yt : TypeId} {k : IntKind} {p q : Int} (ho : o.op = .binOp .quo ty x y yt) (hx : Ev env g x (.v (.int k p))) (hy : Ev env g y (.v (.int k q))) (hq : g = true → q ≠ 0) : Yv cx o env S g (.v (.int k (k.wrap (p.tdiv q)))) :=
 Yv.plain fun a w hs hg w' => by rw [exec_binOp_int ho (hx.val hs hg) (hy.val hs hg)]; simp [binOp, Op.intDiv, Sem.run_pure, hq hg]
theorem Yv.rem {ty yt : TypeId} {k : IntKind} {p q : Int} (ho : o.op = .binOp .rem ty x y yt) (hx : Ev env g x (.v (.int k p))) (hy : Ev env g y (.v (.int k q))) (hq : g = true → q ≠ 0) : Yv cx o env S g (.v (.int k (p.tmod q))) :=
 Yv.plain fun a w hs hg w' => by rw [exec_binOp_int ho (hx.val hs hg) (hy.val hs hg)]; simp [binOp, Op.intDiv, Sem.run_pure, hq hg]
def bitsOf (op : BinOp) (k : IntKind) (p q : Int) : Int :=
 match op with
 | .and => k.wrap (BitVec.ofInt k.bits p &&& BitVec.ofInt k.bits q).toNat
 | .or => k.wrap (BitVec.ofInt k.bits p ||| BitVec.ofInt k.bits q).toNat
 | .xor => k.wrap (BitVec.ofInt k.bits p ^^^ BitVec.ofInt k.bits q).toNat
 | _ => k.wrap (BitVec.ofInt k.bits p &&& ~~~BitVec.ofInt k.bits q).toNat
def isBits : BinOp → Bool
 | .and | .or | .xor | .andNot => true
 | _ => false
theorem Yv.bits {op : BinOp} {ty yt : TypeId} {k : IntKind} {p q : Int} (ho : o.op = .binOp op ty x y yt) (hop : isBits op = true) (hx : Ev env g x (.v (.int k p))) (hy : Ev env g y (.v (.int k q))) : Yv cx o env S g (.v (.int k (bitsOf op k p q))) :=
 Yv.plain fun a w hs hg w' => by
  rw [exec_binOp_int ho (hx.val hs hg) (hy.val hs hg)]
  cases op <;> first | (cases hop; done) | simp [binOp, Op.intBits, Sem.run_pure, bitsOf]
def shlOf (k : IntKind) (p q : Int) : Int := k.wrap (p * 2 ^ (min q.toNat k.bits))
def shrOf (k : IntKind) (p q : Int) : Int := p.fdiv (2 ^ (min q.toNat k.bits))
theorem Yv.shl {ty yt : TypeId} {k k' : IntKind} {p q : Int} (ho : o.op = .binOp .shl ty x y yt) (hx : Ev env g x (.v (.int k p))) (hy : Ev env g y (.v (.int k' q))) (hq : g = true → 0 ≤ q) : Yv cx o env S g (.v (.int k (shlOf k p q))) :=
 Yv.plain fun a w hs hg w' => by
  rw [exec_binOp_int ho (hx.val hs hg) (hy.val hs hg)]
  have := hq hg
  simp [binOp, Op.shift, Sem.run_pure, show ¬ q < 0 by omega, shlOf]
theorem Yv.shr {ty yt : TypeId} {k k' : IntKind} {p q : Int} (ho : o.op = .binOp .shr ty x y yt) (hx : Ev env g x (.v (.int k p))) (hy : Ev env g y (.v (.int k' q))) (hq : g = true → 0 ≤ q) : Yv cx o env S g (.v (.int k (shrOf k p q))) :=
 Yv.plain fun a w hs hg w' => by
  rw [exec_binOp_int ho (hx.val hs hg) (hy.val hs hg)]
  have := hq hg
  simp [binOp, Op.shift, Sem.run_pure, show ¬ q < 0 by omega, shrOf]
theorem Yv.eql {ty yt : TypeId} {k : IntKind} {p q : Int} (ho : o.op = .binOp .eql ty x y yt) (hx : Ev env g x (.v (.int k p))) (hy : Ev env g y (.v (.int k q))) : Yv cx o env S g (.v (.bool (decide (p = q)))) :=
 Yv.plain fun a w hs hg w' => by rw [exec_binOp_int ho (hx.val hs hg) (hy.val hs hg)]; simp [binOp, Op.intCmp, Sem.run_pure, BEq.beq]
theorem Yv.neq {ty yt : TypeId} {k : IntKind} {p q : Int} (ho : o.op = .binOp .neq ty x y yt) (hx : Ev env g x (.v (.int k p))) (hy : Ev env g y (.v (.int k q))) : Yv cx o env S g (.v (.bool (!decide (p = q)))) :=
 Yv.plain fun a w hs hg w' => by rw [exec_binOp_int ho (hx.val hs hg) (hy.val hs hg)]; simp [binOp, Op.intCmp, Sem.run_pure, bne, BEq.beq]
theorem Yv.lss {ty yt : TypeId} {k : IntKind} {p q : Int} (ho : o.op = .binOp .lss ty x y yt) (hx : Ev env g x (.v (.int k p))) (hy : Ev env g y (.v (.int k q))) : Yv cx o env S g (.v (.bool (decide (p < q)))) :=
 Yv.plain fun a w hs hg w' => by rw [exec_binOp_int ho (hx.val hs hg) (hy.val hs hg)]; simp [binOp, Op.intCmp, Sem.run_pure]
theorem Yv.leq {ty yt : TypeId} {k : IntKind} {p q : Int} (ho : o.op = .binOp .leq ty x y yt) (hx : Ev env g x (.v (.int k p))) (hy : Ev env g y (.v (.int k q))) : Yv cx o env S g (.v (.bool (decide (p ≤ q)))) :=
 Yv.plain fun a w hs hg w' => by rw [exec_binOp_int ho (hx.val hs hg) (hy.val hs hg)]; simp [binOp, Op.intCmp, Sem.run_pure]
theorem Yv.gtr {ty yt : TypeId} {k : IntKind} {p q : Int} (ho : o.op = .binOp .gtr ty x y yt) (hx : Ev env g x (.v (.int k p))) (hy : Ev env g y (.v (.int k q))) : Yv cx o env S g (.v (.bool (decide (q < p)))) :=
 Yv.plain fun a w hs hg w' => by rw [exec_binOp_int ho (hx.val hs hg) (hy.val hs hg)]; simp [binOp, Op.intCmp, Sem.run_pure]
theorem Yv.geq {ty yt : TypeId} {k : IntKind} {p q : Int} (ho : o.op = .binOp .geq ty x y yt) (hx : Ev env g x (.v (.int k p))) (hy : Ev env g y (.v (.int k q))) : Yv cx o env S g (.v (.bool (decide (q ≤ p)))) :=
 Yv.plain fun a w hs hg w' => by rw [exec_binOp_int ho (hx.val hs hg) (hy.val hs hg)]; simp [binOp, Op.intCmp, Sem.run_pure]
theorem Yv.not {ty : TypeId} {b : Bool} (ho : o.op = .unOp .not ty x) (hx : Ev env g x (.v (.bool b))) : Yv cx o env S g (.v (.bool !b)) :=
 Yv.plain fun a w hs hg w' => by simp [execOp, ho, hx.val hs hg, Op.unary, Sem.run_bind, Sem.run_pure]
theorem Yv.neg {ty : TypeId} {k : IntKind} {p : Int} (ho : o.op = .unOp .neg ty x) (hx : Ev env g x (.v (.int k p))) : Yv cx o env S g (.v (.int k (k.wrap (0 - p)))) :=
 Yv.plain fun a w hs hg w' => by simp [execOp, ho, hx.val hs hg, Op.unary, Op.intArith, Sem.run_bind, Sem.run_pure]
def kindOf (P : Program) (t : TypeId) : Option IntKind :=
 match P.underlying t with
 | some (.int k) => some k
 | _ => none
theorem kindOf_spec {P : Program} {t : TypeId} {k : IntKind} (h : kindOf P t = some k) : P.underlying t = some (.int k) := by
 unfold kindOf at h
 split at h
 ·simp only [Option.some.injEq] at h; subst h; assumption
 cases h
theorem Yv.conv {src dst : TypeId} {k k' : IntKind} {p : Int} {d : TypeDesc} (ho : o.op = .convert src dst x) (hs : cx.P.underlying src = some d) (hd : kindOf cx.P dst = some k') (hx : Ev env g x (.v (.int k p))) : Yv cx o env S g (.v (.int k' (k'.wrap p))) :=
 Yv.plain fun a w hsim hg w' => by
  simp only [execOp, ho, hx.val hsim hg, convert, Sem.run_bind, run_underlying hs, run_underlying (kindOf_spec hd), Result.andThen_ok, Conv.intToInt, Sem.run_pure]

/-! ### Bools and strings -/
def isBoolB (P : Program) (t : TypeId) : Bool := match P.underlying t with | some .bool => true | _ => false
theorem isBoolB_spec {P : Program} {t : TypeId} (h : isBoolB P t = true) : P.underlying t = some .bool := by
 unfold isBoolB at h
 split at h
 ·assumption
 cases h
theorem Yv.neqB {ty yt : TypeId} {p q : Bool} (ho : o.op = .binOp .neq ty x y yt) (ht : isBoolB cx.P ty = true) (hx : Ev env g x (.v (.bool p))) (hy : Ev env g y (.v (.bool q))) : Yv cx o env S g (.v (.bool (!(p == q)))) :=
 Yv.plain fun a w hs hg w' => by
  have h : eqGuard .neq ty x y (.bool p) (.bool q) = pure () := by unfold eqGuard; split <;> rfl
  simp only [execOp, ho, hx.val hs hg, hy.val hs hg, h, Sem.run_bind, Sem.run_pure, Result.andThen_ok, run_neq_bool _ ty p q (isBoolB_spec ht)]
theorem exec_binOp_str {ρ : Operand → Value} {P : Program} {op : BinOp} {ty yt : TypeId} {p q : ByteArray} (ho : o.op = .binOp op ty x y yt) (hx : ρ x = .string p) (hy : ρ y = .string q) (w : World) :
    (execOp ρ o).run P w = ((Op.stringOp op p q).run P w).andThen fun v w => .ok (.value v) w := by
 have h : eqGuard op ty x y (.string p) (.string q) = pure () := by
  unfold eqGuard
  split <;> rfl
 have h2 : binOp op ty (.string p) (.string q) = Op.stringOp op p q := by cases op <;> rfl
 simp only [execOp, ho, hx, hy, h, h2, Sem.run_bind, Sem.run_pure, pure_bind]
theorem Yv.eqlS {ty yt : TypeId} {p q : ByteArray} (ho : o.op = .binOp .eql ty x y yt) (hx : Ev env g x (.v (.string p))) (hy : Ev env g y (.v (.string q))) : Yv cx o env S g (.v (.bool (decide (p.data.toList = q.data.toList)))) :=
 Yv.plain fun a w hs hg w' => by
  rw [exec_binOp_str ho (hx.val hs hg) (hy.val hs hg)]
  have e : (p.data.toList == q.data.toList) = decide (p.data.toList = q.data.toList) := by rw [Bool.eq_iff_iff]; simp
  simp only [Op.stringOp, Sem.run_pure, Result.andThen_ok, ByteArray.toList_eq, e]
theorem Yv.neqS {ty yt : TypeId} {p q : ByteArray} (ho : o.op = .binOp .neq ty x y yt) (hx : Ev env g x (.v (.string p))) (hy : Ev env g y (.v (.string q))) : Yv cx o env S g (.v (.bool (!decide (p.data.toList = q.data.toList)))) :=
 Yv.plain fun a w hs hg w' => by
  rw [exec_binOp_str ho (hx.val hs hg) (hy.val hs hg)]
  have e : (p.data.toList == q.data.toList) = decide (p.data.toList = q.data.toList) := by rw [Bool.eq_iff_iff]; simp
  simp only [Op.stringOp, Sem.run_pure, Result.andThen_ok, ByteArray.toList_eq, e]
theorem Yv.lssS {ty yt : TypeId} {p q : ByteArray} (ho : o.op = .binOp .lss ty x y yt) (hx : Ev env g x (.v (.string p))) (hy : Ev env g y (.v (.string q))) : Yv cx o env S g (.v (.bool (Op.bytesLess p.data.toList q.data.toList))) :=
 Yv.plain fun a w hs hg w' => by
  rw [exec_binOp_str ho (hx.val hs hg) (hy.val hs hg)]
  simp [Op.stringOp, Sem.run_pure, ByteArray.toList_eq]
theorem Yv.addS {ty yt : TypeId} {p q : ByteArray} (ho : o.op = .binOp .add ty x y yt) (hx : Ev env g x (.v (.string p))) (hy : Ev env g y (.v (.string q))) (hb : g = true → p.size + q.size ≤ 9223372036854775807) : Yv cx o env S g (.v (.string (p ++ q))) :=
 Yv.plain fun a w hs hg w' => by
  rw [exec_binOp_str ho (hx.val hs hg) (hy.val hs hg), run_string_add_sum _ p q (hb hg)]
  rfl

/-! ### Lengths -/
def sliceOf (P : Program) (t : TypeId) : Option TypeId := match P.underlying t with | some (.slice e) => some e | _ => none
theorem sliceOf_spec {P : Program} {t e : TypeId} (h : sliceOf P t = some e) : P.underlying t = some (.slice e) := by
 unfold sliceOf at h
 split at h
 ·simp only [Option.some.injEq] at h; subst h; assumption
 cases h
def isStr (P : Program) (t : TypeId) : Bool := match P.underlying t with | some .string => true | _ => false
theorem isStr_spec {P : Program} {t : TypeId} (h : isStr P t = true) : P.underlying t = some .string := by
 unfold isStr at h
 split at h
 ·assumption
 cases h
theorem VRep.sl_inv {w : World} {L : List Nat} {k : Nat} {l : List T} {u : Value} (h : VRep w L (.sl k l) u) : ∃ A n c, u = .slice A n c ∧ l.length = n * k ∧ n ≤ c ∧ c ≤ maxLen := by
 cases h with
 | sl0 hc => exact ⟨_, 0, _, rfl, by simp, Nat.zero_le _, hc⟩
 | sl hn hk hl hnc hc _ _ _ _ _ => exact ⟨_, _, _, rfl, hk, hnc, hc⟩
theorem run_len_slice' {ρ : Operand → Value} {P : Program} {ty e : TypeId} {A : Option Addr} {n c : Nat} (ho : o.op = .call { callee := .builtin .len, args := #[x], argTypes := #[ty] }) (ht : P.underlying ty = some (.slice e)) (hx : ρ x = .slice A n c) (w : World) :
    (execOp ρ o).run P w = .ok (.value (.int .i64 n)) w := by
 simp [execOp, ho, resolve, invoke, builtin, hx, Builtin.len_, Sem.run_bind, Sem.run_pure, run_underlying ht, goInt]
theorem Yv.lenSl {ty e : TypeId} {k n : Nat} {l : List T} (ho : o.op = .call { callee := .builtin .len, args := #[x], argTypes := #[ty] }) (ht : sliceOf cx.P ty = some e) (hk : 0 < k) (hx : Ev env g x (.sl k l)) (hn : l.length = n * k) : Yv cx o env S g (.v (.int .i64 (n : Int))) :=
 Yv.plain fun a w hs hg w' => by
  obtain ⟨A, m, c, h1, h2, _⟩ := (hx.rep hs hg).sl_inv
  have : m = n := Nat.eq_of_mul_eq_mul_right hk (h2.symm.trans hn)
  subst this
  exact run_len_slice' ho (sliceOf_spec ht) h1 w'
theorem Yv.lenV {ty e : TypeId} {A : Option Addr} {n c : Nat} (ho : o.op = .call { callee := .builtin .len, args := #[x], argTypes := #[ty] }) (ht : sliceOf cx.P ty = some e) (hx : Ev env g x (.v (.slice A n c))) : Yv cx o env S g (.v (.int .i64 (n : Int))) :=
 Yv.plain fun a w hs hg w' => run_len_slice' ho (sliceOf_spec ht) (hx.val hs hg) w'
theorem Yv.lenS {ty : TypeId} {s : ByteArray} (ho : o.op = .call { callee := .builtin .len, args := #[x], argTypes := #[ty] }) (ht : isStr cx.P ty = true) (hx : Ev env g x (.v (.string s))) : Yv cx o env S g (.v (.int .i64 (s.size : Int))) :=
 Yv.plain fun a w hs hg w' => by
  simp [execOp, ho, resolve, invoke, builtin, hx.val hs hg, Builtin.len_, Sem.run_bind, Sem.run_pure, run_underlying (isStr_spec ht), goInt]

/-! ### Places -/
def fieldOff (P : Program) (s : TypeId) (i : Nat) : Option Nat :=
 match P.underlying s with
 | some (.struct fs) => match fs[i]? with
  | some f => match P.info? f.type with
   | some inf => if inf.size = 0 then none else some f.offset
   | none => none
  | none => none
 | _ => none
theorem run_fieldAt {P : Program} {s : TypeId} {i off : Nat} (h : fieldOff P s i = some off) (ad : Addr) (w : World) : (Instr.fieldAt s (.pointer (some ad)) i).run P w = .ok (.pointer (some (ad.add off))) w := by
 unfold fieldOff at h
 split at h
 ·rename_i fs hfs
  split at h
  ·rename_i f hf
   split at h
   ·rename_i inf hi
    split at h
    ·cases h
    rename_i hz
    simp only [Option.some.injEq] at h
    subst h
    simp [Instr.fieldAt, Sem.run_bind, run_underlying hfs, hf, Instr.sureAddr, Sem.run_pure, fieldPlace, sizeOf, typeInfo, hi, hz]
   cases h
  cases h
 cases h
theorem exec_fieldAddr {ρ : Operand → Value} {P : Program} {s : TypeId} {i off : Nat} {ad : Addr} (ho : o.op = .fieldAddr s x i) (h : fieldOff P s i = some off) (hx : ρ x = .pointer (some ad)) (w : World) :
    (execOp ρ o).run P w = .ok (.value (.pointer (some (ad.add off)))) w := by
 simp [execOp, ho, hx, Sem.run_bind, run_fieldAt h, Sem.run_pure]
theorem Yv.fieldBox {s : TypeId} {i off b p : Nat} (ho : o.op = .fieldAddr s x i) (h : fieldOff cx.P s i = some off) (hx : Ev env g x (.v (.pointer (some ⟨b, p, none⟩)))) : Yv cx o env S g (.v (.pointer (some ⟨b, p + off, none⟩))) :=
 Yv.plain fun a w hs hg w' => by
  rw [exec_fieldAddr ho h (hx.val hs hg)]
  unfold Addr.add
  split
  ·rename_i h0; subst h0; rfl
  ·rfl
theorem Yv.fieldRp {s : TypeId} {i off p : Nat} {l : List T} (ho : o.op = .fieldAddr s x i) (h : fieldOff cx.P s i = some off) (hx : Ev env g x (.rp l p)) : Yv cx o env S g (.rp l (p + off)) := by
 intro a w hs hg
 have hr := hx.rep hs hg
 generalize hv : a.eval x = u at hr
 cases hr with
 | rp hl hb hL hcell hh h1 =>
  refine ⟨_, .rp hl hb hL hcell hh h1, fun w' _ => ?_⟩
  rw [exec_fieldAddr ho h hv, add_add']
theorem Yv.fieldEp {s : TypeId} {i off p : Nat} {v : Value} (ho : o.op = .fieldAddr s x i) (h : fieldOff cx.P s i = some off) (hx : Ev env g x (.ep v p)) : Yv cx o env S g (.ep v (p + off)) := by
 intro a w hs hg
 have hr := hx.rep hs hg
 generalize hv : a.eval x = u at hr
 cases hr with
 | ep =>
  refine ⟨_, .ep, fun w' _ => ?_⟩
  rw [exec_fieldAddr ho h hv]
  unfold Addr.add
  split
  ·rename_i h0; subst h0; rfl
  ·rfl

def aggSize (P : Program) (t : TypeId) : Option (Bool × Nat) :=
 match P.underlying t, P.info? t with
 | some d, some i => some ((match d with | .struct _ | .array _ _ => true | _ => false), i.size)
 | _, _ => none
theorem run_loadAt_agg {P : Program} {t : TypeId} {n : Nat} (h : aggSize P t = some (true, n)) {ad : Addr} {us : List Value} (hn : us.length = n) (w : World) (hc : ∀ j u, us[j]? = some u → w.cell? (ad.add j) = some u) :
    (Instr.loadAt t (.pointer (some ad))).run P w = .ok (.agg us.toArray) w := by
 unfold aggSize at h
 split at h
 ·rename_i d i hd hi
  simp only [Option.some.injEq, Prod.mk.injEq] at h
  obtain ⟨h1, rfl⟩ := h
  have h2 : (isAgg t).run P w = .ok true w := by
   unfold isAgg
   simp only [Sem.run_bind, run_underlying hd, Result.andThen_ok]
   cases d <;> first | rfl | cases h1
  simp [Instr.loadAt, Instr.sureAddr, Sem.run_bind, Sem.run_pure, loadVar, h2, sizeOf, typeInfo, hi, ← hn, run_loadCells_list (P := P) w ad us hc]
 cases h
theorem run_loadAt_one {P : Program} {t : TypeId} {n : Nat} (h : aggSize P t = some (false, n)) {ad : Addr} {u : Value} (w : World) (hc : w.cell? ad = some u) :
    (Instr.loadAt t (.pointer (some ad))).run P w = .ok u w := by
 unfold aggSize at h
 split at h
 ·rename_i d i hd hi
  simp only [Option.some.injEq, Prod.mk.injEq] at h
  obtain ⟨h1, rfl⟩ := h
  have h2 : (isAgg t).run P w = .ok false w := by
   unfold isAgg
   simp only [Sem.run_bind, run_underlying hd, Result.andThen_ok]
   cases d <;> first | rfl | cases h1
  simp [Instr.loadAt, Instr.sureAddr, Sem.run_bind, Sem.run_pure, loadVar, h2, run_load, hc]
 cases h
theorem exec_load {ρ : Operand → Value} {P : Program} {t : TypeId} {v : Value} (ho : o.op = .load t x) (w : World) (h : (Instr.loadAt t (ρ x)).run P w = .ok v w) : (execOp ρ o).run P w = .ok (.value v) w := by
 simp [execOp, ho, Sem.run_bind, h, Sem.run_pure]

theorem Yv.loadRp {t : TypeId} {n p : Nat} {l : List T} {r : T} (ho : o.op = .load t x) (h : aggSize cx.P t = some (false, n)) (hx : Ev env g x (.rp l p)) (hr : g = true → l[p]? = some r) : Yv cx o env S g r := by
 intro a w hs hg
 have hv := hx.rep hs hg
 generalize hu : a.eval x = u at hv
 cases hv with
 | rp hl hb hL hcell hh h1 =>
  rename_i us ad
  have hp : p < us.length := hl ▸ (List.getElem?_eq_some_iff.1 (hr hg)).1
  refine ⟨us[p], hh p r _ (hr hg) (List.getElem?_eq_getElem hp), fun w' hk => ?_⟩
  refine exec_load ho w' ?_
  rw [hu]
  exact run_loadAt_one h w' ((World.cell?_of_block (w := w) (by rw [block_add]; exact hk.block _ hb (by simp))).trans (hcell p _ (List.getElem?_eq_getElem hp)))
theorem Yv.loadRpA {t : TypeId} {n p : Nat} {l l' : List T} (ho : o.op = .load t x) (h : aggSize cx.P t = some (true, n)) (hx : Ev env g x (.rp l p)) (hr : g = true → (l.drop p).take n = l' ∧ l'.length = n) : Yv cx o env S g (.agg l') := by
 intro a w hs hg
 have hv := hx.rep hs hg
 generalize hu : a.eval x = u at hv
 cases hv with
 | rp hl hb hL hcell hh h1 =>
  rename_i us ad
  obtain ⟨e1, e2⟩ := hr hg
  have hV : VReps w (cx.X ++ M S) l' ((us.drop p).take n) := by rw [← e1]; exact ((VReps.mk hl hh h1).drop p).take n
  refine ⟨.agg ((us.drop p).take n).toArray, .agg hV.len hV.at_ hV.one, fun w' hk => ?_⟩
  refine exec_load ho w' ?_
  rw [hu]
  refine run_loadAt_agg h (by rw [← hV.len, e2]) w' (fun j v hj => ?_)
  rw [List.getElem?_take] at hj
  split at hj
  ·rw [List.getElem?_drop] at hj
   rw [add_add']
   exact (World.cell?_of_block (w := w) (by rw [block_add]; exact hk.block _ hb (by simp))).trans (hcell _ _ hj)
  ·cases hj
theorem Sim.box {a : Act} {w : World} (hs : Sim cx env S a w) {i b : Nat} {ty : TypeId} {cs : List T} (hi : S[i]? = some (.box b ty cs)) : ∃ us : List Value, w.heap[b]? = some (.cells us.toArray ty (0, 0)) ∧ VReps w (cx.X ++ M S) cs us :=
 hs.ents _ (List.mem_of_getElem? hi)
theorem cell_of_heap {w : World} {b : Nat} {us : List Value} {ty : TypeId} {fr : Nat × Nat} (h : w.heap[b]? = some (.cells us.toArray ty fr)) (j : Nat) : w.cell? ⟨b, j, none⟩ = us[j]? := by
 rw [cell_of_row w b j us.toArray ty fr h]; simp
theorem add_lit' (b p j : Nat) : (⟨b, p, none⟩ : Addr).add j = ⟨b, p + j, none⟩ := by
 unfold Addr.add
 split
 ·rename_i h; subst h; rfl
 rfl
theorem Yv.loadBox {t ty : TypeId} {n p i b : Nat} {cs : List T} {r : T} (ho : o.op = .load t x) (h : aggSize cx.P t = some (false, n)) (hi : S[i]? = some (.box b ty cs)) (hx : Ev env g x (.v (.pointer (some ⟨b, p, none⟩)))) (hr : cs[p]? = some r) : Yv cx o env S g r := by
 intro a w hs hg
 have hv := hx.val hs hg
 obtain ⟨us, hh, hV⟩ := hs.box hi
 obtain ⟨u, h1, h2, _⟩ := hV.get hr
 refine ⟨u, h2, fun w' hk => exec_load ho w' ?_⟩
 rw [hv]
 refine run_loadAt_one h w' ?_
 rw [World.cell?_of_block (w := w) (hk.block _ (lt_of_heap hh) (by simp)), cell_of_heap hh, h1]
theorem Yv.loadBoxA {t ty : TypeId} {n p i b : Nat} {cs l' : List T} (ho : o.op = .load t x) (h : aggSize cx.P t = some (true, n)) (hi : S[i]? = some (.box b ty cs)) (hx : Ev env g x (.v (.pointer (some ⟨b, p, none⟩)))) (hr : (cs.drop p).take n = l') (hl : l'.length = n) : Yv cx o env S g (.agg l') := by
 intro a w hs hg
 have hv := hx.val hs hg
 obtain ⟨us, hh, hV⟩ := hs.box hi
 have hV' : VReps w (cx.X ++ M S) l' ((us.drop p).take n) := by rw [← hr]; exact (hV.drop p).take n
 refine ⟨.agg ((us.drop p).take n).toArray, .agg hV'.len hV'.at_ hV'.one, fun w' hk => exec_load ho w' ?_⟩
 rw [hv]
 refine run_loadAt_agg h (by rw [← hV'.len, hl]) w' (fun j v hj => ?_)
 rw [List.getElem?_take] at hj
 split at hj
 ·rw [List.getElem?_drop] at hj
  rw [add_lit', World.cell?_of_block (w := w) (hk.block _ (lt_of_heap hh) (by simp)), cell_of_heap hh, hj]
 cases hj
end

def sliceSz (P : Program) (t : TypeId) : Option (TypeId × Nat) :=
 match P.underlying t with
 | some (.slice e) => match P.info? e with
  | some i => some (e, i.size)
  | none => none
 | _ => none
theorem sliceSz_spec {P : Program} {t e : TypeId} {k : Nat} (h : sliceSz P t = some (e, k)) : P.underlying t = some (.slice e) ∧ ∃ i, P.info? e = some i ∧ i.size = k := by
 unfold sliceSz at h
 split at h
 ·rename_i e' he
  split at h
  ·rename_i i hi
   simp only [Option.some.injEq, Prod.mk.injEq] at h
   obtain ⟨rfl, rfl⟩ := h
   exact ⟨he, i, hi, rfl⟩
  cases h
 cases h

section
variable {cx : Cx} {env : Env} {S : St} {o : Oper} {g : Bool} {x y z : Operand}

theorem exec_indexAddr {ρ : Operand → Value} {P : Program} {t e : TypeId} {k : Nat} {kd : IntKind} {j n c : Nat} {ad : Addr} (ho : o.op = .indexAddr t x y) (h : sliceSz P t = some (e, k)) (hx : ρ x = .slice (some ad) n c) (hy : ρ y = .int kd (j : Int)) (hj : j < n) (w : World) :
    (execOp ρ o).run P w = .ok (.value (.pointer (some (ad.add (j * k))))) w := by
 obtain ⟨h1, i, h2, h3⟩ := sliceSz_spec h
 have e1 : ((j : Int) < (n : Int)) := by omega
 simp [execOp, ho, hx, hy, Instr.indexAt, asIntOf, Sem.run_bind, Sem.run_pure, run_underlying h1, sizeOf, typeInfo, h2, h3, e1]
 intro h'
 omega
theorem Yv.indexSl {t e : TypeId} {k j : Nat} {kd : IntKind} {p : Int} {l : List T} (ho : o.op = .indexAddr t x y) (h : sliceSz cx.P t = some (e, k)) (hk : 0 < k) (hy : Ev env g y (.v (.int kd p))) (hx : Ev env g x (.sl k l)) (hj : g = true → p = (j : Int) ∧ j * k < l.length) : Yv cx o env S g (.rp l (j * k)) := by
 intro a w hs hg
 have hv := hx.rep hs hg
 obtain ⟨rfl, hjl⟩ := hj hg
 generalize hu : a.eval x = u at hv
 cases hv with
 | sl0 hc => simp at hjl
 | sl hn hkl hl hnc hc hb hL hcell hh h1 =>
  refine ⟨_, .rp hl hb hL hcell hh h1, fun w' _ => ?_⟩
  refine exec_indexAddr ho h hu (hy.val hs hg) ?_ w'
  rw [hkl] at hjl
  exact Nat.lt_of_mul_lt_mul_right hjl
theorem Sim.row {a : Act} {w : World} (hs : Sim cx env S a w) {i n c size : Nat} {A : Option Addr} {e : TypeId} {cs : List T} (hi : S[i]? = some (.row A n c e size cs)) : ∃ us : List Value, RowIs w e size A n c us ∧ VReps w (cx.X ++ M S) cs us :=
 hs.ents _ (List.mem_of_getElem? hi)
theorem Yv.indexRow {t e e' : TypeId} {k j i n c : Nat} {kd : IntKind} {p : Int} {A : Option Addr} {cs : List T} (ho : o.op = .indexAddr t x y) (h : sliceSz cx.P t = some (e, k)) (hi : S[i]? = some (.row A n c e' k cs)) (hy : Ev env g y (.v (.int kd p))) (hx : Ev env g x (.v (.slice A n c))) (hj : g = true → p = (j : Int) ∧ j < n) : Yv cx o env S g (.ep (.slice A n c) (j * k)) := by
 intro a w hs hg
 have hv := hx.val hs hg
 obtain ⟨rfl, hjl⟩ := hj hg
 obtain ⟨us, hr, _⟩ := hs.row hi
 rcases hr.2.2.2 with ⟨_, h0, _⟩ | ⟨gb, cur, fr, rfl, _⟩
 ·omega
 refine ⟨_, .ep, fun w' _ => ?_⟩
 have := exec_indexAddr ho h hv (hy.val hs hg) hjl w'
 rw [add_lit', Nat.zero_add] at this
 exact this
theorem RowIs.cell {w : World} {e : TypeId} {size n c gb : Nat} {us : List Value} (h : RowIs w e size (some ⟨gb, 0, none⟩) n c us) {j : Nat} {u : Value} (hu : us[j]? = some u) : w.cell? ⟨gb, j, none⟩ = some u := by
 rcases h.2.2.2 with ⟨h0, _⟩ | ⟨g', cur, fr, hA, hh, _, hsz, ht⟩
 ·cases h0
 simp only [Option.some.injEq, Addr.mk.injEq, and_true] at hA
 subst hA
 rw [cell_of_row w gb j cur e fr hh]
 rw [← ht] at hu
 rw [List.getElem?_take] at hu
 split at hu
 ·simpa using hu
 cases hu
theorem Yv.loadEp {t e : TypeId} {n m p i c size : Nat} {A : Option Addr} {cs : List T} {r : T} (ho : o.op = .load t x) (h : aggSize cx.P t = some (false, m)) (hi : S[i]? = some (.row A n c e size cs)) (hx : Ev env g x (.ep (.slice A n c) p)) (hr : g = true → cs[p]? = some r) : Yv cx o env S g r := by
 intro a w hs hg
 have hv := hx.rep hs hg
 generalize hu : a.eval x = u at hv
 cases hv with
 | ep =>
  obtain ⟨us, hrow, hV⟩ := hs.row hi
  obtain ⟨u, h1, h2, _⟩ := hV.get (hr hg)
  refine ⟨u, h2, fun w' hk => exec_load ho w' ?_⟩
  rw [hu]
  refine run_loadAt_one h w' ?_
  exact (World.cell?_of_block (w := w) (a := ⟨_, p, none⟩) (hk.block _ (hrow.lt rfl) (by simp))).trans (hrow.cell h1)
theorem Yv.loadEpA {t e : TypeId} {n m p i c size : Nat} {A : Option Addr} {cs l' : List T} (ho : o.op = .load t x) (h : aggSize cx.P t = some (true, m)) (hi : S[i]? = some (.row A n c e size cs)) (hx : Ev env g x (.ep (.slice A n c) p)) (hr : g = true → (cs.drop p).take m = l' ∧ l'.length = m) : Yv cx o env S g (.agg l') := by
 intro a w hs hg
 have hv := hx.rep hs hg
 generalize hu : a.eval x = u at hv
 cases hv with
 | ep =>
  obtain ⟨us, hrow, hV⟩ := hs.row hi
  obtain ⟨e1, e2⟩ := hr hg
  have hV' : VReps w (cx.X ++ M S) l' ((us.drop p).take m) := by rw [← e1]; exact (hV.drop p).take m
  refine ⟨.agg ((us.drop p).take m).toArray, .agg hV'.len hV'.at_ hV'.one, fun w' hk => exec_load ho w' ?_⟩
  rw [hu]
  refine run_loadAt_agg h (by rw [← hV'.len, e2]) w' (fun j v hj => ?_)
  rw [List.getElem?_take] at hj
  split at hj
  ·rw [List.getElem?_drop] at hj
   rw [add_lit']
   exact (World.cell?_of_block (w := w) (a := ⟨_, p + j, none⟩) (hk.block _ (hrow.lt rfl) (by simp))).trans (hrow.cell hj)
  ·cases hj

theorem Yv.indexS {t : TypeId} {j : Nat} {kd : IntKind} {p : Int} {s : ByteArray} {b : UInt8} (ho : o.op = .index t x y) (h : isStr cx.P t = true) (hx : Ev env g x (.v (.string s))) (hy : Ev env g y (.v (.int kd p))) (hj : g = true → p = (j : Int) ∧ s.data.toList[j]? = some b) : Yv cx o env S g (.v (.int .u8 b.toNat)) :=
 Yv.plain fun a w hs hg w' => by
  obtain ⟨rfl, h1⟩ := hj hg
  have h2 : s[j]? = some b := by
   have hlt : j < s.size := by
    have := (List.getElem?_eq_some_iff.1 h1).1
    simpa using this
   rw [ByteArray.getElem?_lt' s j hlt]
   simp only [Array.getElem?_toList] at h1
   rw [Array.getElem?_eq_getElem hlt] at h1
   exact h1
  simp [execOp, ho, hx.val hs hg, hy.val hs hg, Instr.index, asIntOf, Sem.run_bind, Sem.run_pure, run_underlying (isStr_spec h), h2]

theorem aggSize_spec {P : Program} {t : TypeId} {b : Bool} {n : Nat} (h : aggSize P t = some (b, n)) (w : World) : (isAgg t).run P w = .ok b w ∧ (sizeOf t).run P w = .ok n w := by
 unfold aggSize at h
 split at h
 ·rename_i d i hd hi
  simp only [Option.some.injEq, Prod.mk.injEq] at h
  obtain ⟨h1, rfl⟩ := h
  refine ⟨?_, by simp [sizeOf, typeInfo, hi]⟩
  unfold isAgg
  simp only [Sem.run_bind, run_underlying hd, Result.andThen_ok]
  cases d <;> first | (subst h1; rfl) | (cases h1; rfl)
 cases h
theorem Yv.extract {i : Nat} {l : List T} {r : T} (ho : o.op = .extract x i) (hx : Ev env g x (.tup l)) (hr : l[i]? = some r) : Yv cx o env S g r := by
 intro a w hs hg
 have hv := hx.rep hs hg
 generalize hu : a.eval x = u at hv
 cases hv with
 | tup hl hh =>
  rename_i ys
  have hi : i < ys.length := hl ▸ (List.getElem?_eq_some_iff.1 hr).1
  refine ⟨ys[i], hh i r _ hr (List.getElem?_eq_getElem hi), fun w' _ => ?_⟩
  simp [execOp, ho, hu, Instr.extract, Sem.run_bind, Sem.run_pure, List.getElem?_eq_getElem hi]

/-! ### Slicing -/
def Bound (env : Env) (g : Bool) (x : Option Operand) (d j : Nat) : Prop :=
 match x with
 | none => j = d
 | some y => ∃ (k : IntKind) (p : Int), Ev env g y (.v (.int k p)) ∧ (g = true → p = (j : Int))
theorem Bound.some_ {y : Operand} {d j : Nat} {k : IntKind} {p : Int} (h : Ev env g y (.v (.int k p))) (hp : g = true → p = (j : Int)) : Bound env g (some y) d j := ⟨k, p, h, hp⟩
theorem Bound.none_ {d : Nat} : Bound env g none d d := rfl
theorem run_bounds {P : Program} {a : Act} {w : World} (hs : Sim cx env S a w) (hg : g = true) {isS : Bool} {len cap lo hi : Nat} {xl xh : Option Operand} (hl : Bound env g xl 0 lo) (hh : Bound env g xh len hi) (h1 : lo ≤ hi) (h2 : hi ≤ cap) (w' : World) :
    (Instr.sliceBounds isS len cap (xl.map a.eval) (xh.map a.eval) none).run P w' = .ok (lo, hi, cap) w' := by
 have hh' : (match xh.map a.eval with | some v => Instr.sliceBound v cap (if isS then .sliceAcap else .sliceAlen) | none => pure len).run P w' = .ok hi w' := by
  cases xh with
  | none => simp only [Bound] at hh; subst hh; rfl
  | some y =>
   obtain ⟨k, p, e1, e2⟩ := hh
   have e2 := e2 hg
   subst e2
   simp only [Option.map_some, e1.val hs hg]
   rw [run_sliceBound _ k (hi : Int) cap _ (by omega) (by omega)]
   simp
 have hl' : (match xl.map a.eval with | some v => Instr.sliceBound v hi .sliceB | none => pure 0).run P w' = .ok lo w' := by
  cases xl with
  | none => simp only [Bound] at hl; subst hl; rfl
  | some y =>
   obtain ⟨k, p, e1, e2⟩ := hl
   have e2 := e2 hg
   subst e2
   simp only [Option.map_some, e1.val hs hg]
   rw [run_sliceBound _ k (lo : Int) hi _ (by omega) (by omega)]
   simp
 cases xl <;> cases xh <;> simp_all [Instr.sliceBounds, Sem.run_bind, Sem.run_pure]
theorem Yv.sliceS {t : TypeId} {lo hi : Nat} {s : ByteArray} {xl xh : Option Operand} (ho : o.op = .slice t x xl xh none) (h : isStr cx.P t = true) (hx : Ev env g x (.v (.string s))) (hl : Bound env g xl 0 lo) (hh : Bound env g xh s.size hi) (hb : g = true → lo ≤ hi ∧ hi ≤ s.size) :
    Yv cx o env S g (.v (.string (s.extract lo hi))) :=
 Yv.plain fun a w hs hg w' => by
  obtain ⟨hlo, hhi⟩ := hb hg
  have hbnd := run_bounds (P := cx.P) hs hg (isS := false) (cap := s.size) hl hh hlo hhi w'
  have hh2 : (if (none : Option Value).isSome = true then stuck "Slice: full slice of a string" else pure ⟨⟩ : Sem PUnit).run cx.P w' = .ok ⟨⟩ w' := rfl
  simp [execOp, ho, hx.val hs hg, Instr.sliceAt, Sem.run_bind, run_underlying (isStr_spec h), Instr.slice, hbnd, Sem.run_pure]

/-! ### Bytes as a string -/
def isBytes (P : Program) (t : TypeId) : Bool :=
 match P.underlying t with
 | some (.slice e) => match P.underlying e with | some (.int .u8) => true | _ => false
 | _ => false
theorem isBytes_spec {P : Program} {t : TypeId} (h : isBytes P t = true) : ∃ e, P.underlying t = some (.slice e) ∧ P.underlying e = some (.int .u8) := by
 unfold isBytes at h
 split at h
 ·rename_i e he
  split at h
  ·exact ⟨e, he, by assumption⟩
  cases h
 cases h
def u8 (b : UInt8) : T := .v (.int .u8 b.toNat)
theorem vreps_u8s {w : World} {L : List Nat} {l : List UInt8} {us : List Value} (h : VReps w L (l.map u8) us) : us = l.map fun b => Value.int .u8 b.toNat := by
 apply List.ext_getElem?
 intro j
 by_cases hj : j < l.length
 ·have e1 : (l.map u8)[j]? = some (u8 l[j]) := by simp [List.getElem?_map, List.getElem?_eq_getElem hj]
  obtain ⟨u, e2, e3, _⟩ := h.get e1
  rw [e2, e3.v_inv, List.getElem?_map, List.getElem?_eq_getElem hj]
  rfl
 have : us.length = l.length := by rw [← h.len]; simp
 rw [List.getElem?_eq_none (by omega), List.getElem?_map, List.getElem?_eq_none (by omega)]
 rfl
theorem bytes_fold (l : List UInt8) : ((l.map fun b => ((b.toNat : Nat) : Int)).foldl (fun r n => r.push (UInt8.ofNat n.toNat)) ByteArray.empty) = ⟨l.toArray⟩ := by
 rw [foldl_push_bytes]
 have h0 : ByteArray.empty.data = #[] := rfl
 rw [h0]
 congr 1
 apply Array.ext'
 simp [List.map_map, Function.comp_def]
theorem run_bytes_string {P : Program} {ρ : Operand → Value} {src dst : TypeId} {A : Option Addr} {n c : Nat} {l : List UInt8} (ho : o.op = .convert src dst x) (hs : isBytes P src = true) (hd : isStr P dst = true) (hx : ρ x = .slice A n c) (w : World)
    (h : (n = 0 ∧ l = []) ∨ ∃ ad, A = some ad ∧ l.length = n ∧ ∀ j u, (l.map fun b => Value.int .u8 b.toNat)[j]? = some u → w.cell? (ad.add j) = some u) :
    (execOp ρ o).run P w = .ok (.value (.string ⟨l.toArray⟩)) w := by
 obtain ⟨e, h1, h2⟩ := isBytes_spec hs
 simp only [execOp, ho, hx, Sem.run_bind, run_convert_bytes_string w src dst e A n c h1 h2 (isStr_spec hd)]
 rcases h with ⟨rfl, rfl⟩ | ⟨ad, rfl, hl, hc⟩
 ·cases A with
  | none => rfl
  | some ad =>
   rw [run_bytesToString w ad 0 c [] (run_loadCells_list (P := P) w ad [] (by simp))]
   rfl
 have := run_loadCells_list (P := P) w ad (l.map fun b => Value.int .u8 b.toNat) hc
 rw [List.length_map, hl] at this
 rw [run_bytesToString w ad n c (l.map fun b => ((b.toNat : Nat) : Int)) (by rw [this]; simp [List.map_map, Function.comp_def])]
 rw [bytes_fold]
 rfl
end

theorem M_append (S S' : St) : M (S ++ S') = M S ++ M S' := by simp [M, List.filterMap_append]
theorem M_one {e : Ent} {b : Nat} (h : e.blk = some b) : M [e] = [b] := by simp [M, h]

def cellsT : T → List T
 | .agg l => l
 | t => [t]
def T.one : T → Bool
 | .v x => x.oneCell'
 | .agg _ => false
 | .tup _ => false
 | _ => true
def T.cellish : T → Bool
 | .agg _ => true
 | t => t.one
theorem VRep.one {w : World} {L : List Nat} {t : T} {u : Value} (h : VRep w L t u) (h1 : t.one = true) : u.oneCell' = true := by
 cases h <;> first | exact h1 | rfl | cases h1
theorem cells_of_one {u : Value} (h : u.oneCell' = true) : u.cells = #[u] := by
 cases u <;> first | rfl | (simp [Value.oneCell'] at h)
theorem VRep.cells {w : World} {L : List Nat} {t : T} {u : Value} (h : VRep w L t u) (hc : t.cellish = true) : VReps w L (cellsT t) u.cells.toList := by
 have key : t.one = true → cellsT t = [t] → VReps w L (cellsT t) u.cells.toList := fun h1 h2 => by
  rw [h2, cells_of_one (h.one h1)]
  exact .cons h (h.one h1) .nil
 cases h with
 | agg hl hh h1 => exact ⟨by simpa [cellsT, Value.cells] using hl, by simpa [cellsT, Value.cells] using hh, by simpa [Value.cells] using h1⟩
 | v x => exact key hc rfl
 | tup _ _ => cases hc
 | sl0 _ => exact key hc rfl
 | sl _ _ _ _ _ _ _ _ _ _ => exact key hc rfl
 | rp _ _ _ _ _ _ => exact key hc rfl
 | ep => exact key hc rfl
 | sp _ _ _ _ _ _ _ _ _ _ => exact key hc rfl

section
variable {cx : Cx} {env : Env} {S : St} {o : Oper} {g : Bool} {x y z : Operand} {ops : Array Oper} {l : List Oper} {K : Env → St → Prop} {Q : Exit → Env → St → Prop} {d : Nat}

theorem Sim.add {a : Act} {w : World} (hs : Sim cx env S a w) {w' : World} {e : Ent} (hb : e.blk = some w.heap.size) (hk : Keeps [] w w') (he : e.holds w' (cx.X ++ M (S ++ [e]))) : Sim cx env (S ++ [e]) a w' := by
 have hM : M (S ++ [e]) = M S ++ [w.heap.size] := by rw [M_append, M_one hb]
 have hfr : ∀ b ∈ M (S ++ [e]), b ∈ M S ∨ w.heap.size ≤ b := fun b hb => by
  rw [hM] at hb
  rcases List.mem_append.1 hb with hb | hb
  ·exact .inl hb
  ·rw [List.mem_singleton] at hb; exact .inr (Nat.le_of_eq hb.symm)
 have hnd : (M (S ++ [e])).Nodup := by
  rw [hM, List.nodup_append]
  refine ⟨hs.nd, by simp, fun p hp q hq => ?_⟩
  rw [List.mem_singleton] at hq
  have := hs.lt hp
  omega
 refine hs.step (hk.mono (by simp)) hnd hfr (fun e' he' => ?_)
 rcases List.mem_append.1 he' with h1 | h1
 ·exact hs.ent (hk.mono (by simp)) hfr h1 (fun b hb' => hk.block b (hs.lt (mem_M.2 ⟨e', h1, hb'⟩)) (by simp))
 rw [List.mem_singleton] at h1; subst h1; exact he
theorem Sim.repsAdd {a : Act} {w : World} (hs : Sim cx env S a w) {w' : World} {e : Ent} (hb : e.blk = some w.heap.size) (hk : Keeps [] w w') {cs : List T} {us : List Value} (h : VReps w (cx.X ++ M S) cs us) : VReps w' (cx.X ++ M (S ++ [e])) cs us :=
 h.mono hk.size (fun b hb _ => hk.block b hb (by simp)) (fun b hb' hm => by
  rw [M_append, M_one hb, ← List.append_assoc] at hm
  rcases List.mem_append.1 hm with hm | hm
  ·exact hm
  ·rw [List.mem_singleton] at hm; omega)
theorem Sim.more {a : Act} {w : World} (hs : Sim cx env S a w) {w' : World} (hk : Keeps [] w w') : Sim cx env S a w' :=
 hs.step (hk.mono (by simp)) hs.nd (fun b hb => .inl hb) (fun e he => hs.ent (hk.mono (by simp)) (fun b hb => .inl hb) he (fun b hb => hk.block b (hs.lt (mem_M.2 ⟨e, he, hb⟩)) (by simp)))
theorem Sim.repMore {a : Act} {w : World} (hs : Sim cx env S a w) {w' : World} (hk : Keeps [] w w') {t : T} {u : Value} (h : VRep w (cx.X ++ M S) t u) : VRep w' (cx.X ++ M S) t u :=
 h.mono hk.size (fun b hb _ => hk.block b hb (by simp)) (fun b _ hm => hm)

theorem AWL.eff (hg : o.guard = none) (hd : o.dst = some d) (hN : d < cx.N)
    (h : ∀ a w, Sim cx env S a w → ∃ u w' t S', (execOp a.eval o).run cx.P w = .ok (.value u) w' ∧ Sim cx env S' a w' ∧ VRep w' (cx.X ++ M S') t u ∧ AWL cx ops l K ((d, true, t) :: env) S') : AWL cx ops (o :: l) K env S := by
 intro a w hs
 unfold wpList
 rw [if_pos (wanted_none hg)]
 obtain ⟨u, w', t, S', h1, h2, h3, h4⟩ := h a w hs
 refine .inl ?_
 unfold Oper.wp
 rw [h1, Oper.upon_value, hd]
 exact h4 _ _ (h2.put hN (fun _ => h3) (by simp))
theorem AWL.eff0 (hg : o.guard = none) (hd : o.dst = none)
    (h : ∀ a w, Sim cx env S a w → ∃ w' S', (execOp a.eval o).run cx.P w = .ok .skip w' ∧ Sim cx env S' a w' ∧ AWL cx ops l K env S') : AWL cx ops (o :: l) K env S := by
 intro a w hs
 unfold wpList
 rw [if_pos (wanted_none hg)]
 obtain ⟨w', S', h1, h2, h4⟩ := h a w hs
 refine .inl ?_
 unfold Oper.wp
 rw [h1, Oper.upon_skip, hd]
 exact h4 _ _ (h2.putNone _)

theorem keeps_alloc (w : World) (o : Obj) : Keeps [] w (w.alloc o) := Keeps.alloc [] w o

theorem AWL.boxOp {elem : TypeId} {t : T} (hg : o.guard = none) (hd : o.dst = some d) (hN : d < cx.N) (ho : o.op = .box elem x) (hx : Ev env true x t) (hc : t.cellish = true)
    (hr : ∀ b, AWL cx ops l K ((d, true, .v (.pointer (some ⟨b, 0, none⟩))) :: env) (S ++ [.box b elem (cellsT t)])) : AWL cx ops (o :: l) K env S := by
 refine AWL.eff hg hd hN fun a w hs => ?_
 have hv := (hx.rep hs rfl).cells hc
 have hk := keeps_alloc w (.cells (a.eval x).cells elem)
 refine ⟨_, w.alloc (.cells (a.eval x).cells elem), _, _, ?_, ?_, .v _, hr w.heap.size⟩
 ·simp [execOp, ho, Instr.box, newVar, newRow, Sem.run_bind, Sem.run_pure, run_newObj]
 refine hs.add rfl hk ⟨(a.eval x).cells.toList, ?_, hs.repsAdd rfl hk hv⟩
 simpa using heap_alloc_new w _

def zeroCellsOf (P : Program) (t : TypeId) : Option (List Value) :=
 match P.info? t with
 | some i => match i.zero with
  | some z => if z.cells.toList.all Value.oneCell' then some z.cells.toList else none
  | none => none
 | none => none
theorem zeroCellsOf_spec {P : Program} {t : TypeId} {zs : List Value} (h : zeroCellsOf P t = some zs) : ∃ i z, P.info? t = some i ∧ i.zero = some z ∧ z.cells = zs.toArray ∧ (∀ u ∈ zs, u.oneCell' = true) := by
 unfold zeroCellsOf at h
 split at h
 ·rename_i i hi
  split at h
  ·rename_i z hz
   split at h
   ·rename_i hall
    simp only [Option.some.injEq] at h
    subst h
    exact ⟨i, z, hi, hz, by simp, fun u hu => List.all_eq_true.1 hall u hu⟩
   cases h
  cases h
 cases h
theorem vreps_vals {w : World} {L : List Nat} (zs : List Value) (h : ∀ u ∈ zs, u.oneCell' = true) : VReps w L (zs.map .v) zs := by
 refine ⟨by simp, fun j t u h1 h2 => ?_, h⟩
 rw [List.getElem?_map, h2] at h1
 simp only [Option.map_some, Option.some.injEq] at h1
 subst h1
 exact .v u
theorem AWL.allocOp {elem : TypeId} {zs : List Value} (hg : o.guard = none) (hd : o.dst = some d) (hN : d < cx.N) (ho : o.op = .alloc elem) (hz : zeroCellsOf cx.P elem = some zs)
    (hr : ∀ b, AWL cx ops l K ((d, true, .v (.pointer (some ⟨b, 0, none⟩))) :: env) (S ++ [.box b elem (zs.map .v)])) : AWL cx ops (o :: l) K env S := by
 refine AWL.eff hg hd hN fun a w hs => ?_
 obtain ⟨i, z, h1, h2, h3, h4⟩ := zeroCellsOf_spec hz
 have hk := keeps_alloc w (.cells zs.toArray elem)
 refine ⟨_, w.alloc (.cells zs.toArray elem), _, _, ?_, ?_, .v _, hr w.heap.size⟩
 ·simp [execOp, ho, Instr.alloc, zeroValue, typeInfo, h1, h2, newVar, h3, newRow, Sem.run_bind, Sem.run_pure, run_newObj]
 exact hs.add rfl hk ⟨zs, heap_alloc_new w _, hs.repsAdd rfl hk (vreps_vals zs h4)⟩

theorem nodup_absurd {S : St} {i j b : Nat} (hij : i ≠ j) (hi : i < S.length) (hj : j < S.length) (h1 : S[i].blk = some b) (h2 : S[j].blk = some b) : ¬ (M S).Nodup := by
 intro hnd
 have key : ∀ {p q : Nat} (hq : q < S.length) (hpq : p < q), S[p].blk = some b → S[q].blk = some b → False := by
  intro p q hq hpq e1 e2
  have hS : S = S.take q ++ S.drop q := (List.take_append_drop q S).symm
  have hn : (M (S.take q) ++ M (S.drop q)).Nodup := by rw [← M_append, ← hS]; exact hnd
  rw [List.nodup_append] at hn
  refine hn.2.2 b (mem_M.2 ⟨S[p], ?_, e1⟩) b (mem_M.2 ⟨S[q], ?_, e2⟩) rfl
  ·rw [List.mem_take_iff_getElem]
   exact ⟨p, by omega, rfl⟩
  ·rw [List.drop_eq_getElem_cons hq]
   exact List.mem_cons_self
 rcases Nat.lt_or_gt_of_ne hij with h | h
 ·exact key hj h h1 h2
 exact key hi h h2 h1
theorem Sim.setEnt {a : Act} {w : World} (hs : Sim cx env S a w) {w' : World} {i : Nat} {e e' : Ent} (hi : S[i]? = some e) (hb : e'.blk = e.blk) (hk : ∀ b, b < w.heap.size → e.blk ≠ some b → w'.heap[b]? = w.heap[b]?) (hsz : w'.heap.size = w.heap.size) (hos : w'.os = w.os) (htp : w'.tape = w.tape) (hou : w'.output = w.output)
    (he : e'.holds w' (cx.X ++ M S)) : Sim cx env (S.set i e') a w' := by
 have hil : i < S.length := (List.getElem?_eq_some_iff.1 hi).1
 have hM : M (S.set i e') = M S := by
  unfold M
  have : S.set i e' = S.take i ++ e' :: S.drop (i + 1) := List.set_eq_take_append_cons_drop.trans (by rw [if_pos hil])
  rw [this]
  conv => rhs; rw [← List.take_append_drop i S, List.drop_eq_getElem_cons hil]
  have hS : S[i] = e := by
   rw [List.getElem?_eq_getElem hil] at hi
   exact Option.some.inj hi
  simp [List.filterMap_append, List.filterMap_cons, hb, hS]
 have hkeep : Keeps (M S) w w' := ⟨hos, htp, hou, Nat.le_of_eq hsz.symm, fun b hb' hm => hk b hb' (fun h => hm (mem_M.2 ⟨e, List.mem_of_getElem? hi, h⟩))⟩
 refine hs.step hkeep (by rw [hM]; exact hs.nd) (fun b hb' => .inl (hM ▸ hb')) (fun f hf => ?_)
 rw [hM]
 obtain ⟨j, hj, hfj⟩ := List.getElem_of_mem hf
 rw [List.length_set] at hj
 rw [List.getElem_set] at hfj
 by_cases hij : i = j
 ·rw [if_pos hij] at hfj; subst hfj; exact he
 rw [if_neg hij] at hfj
 subst hfj
 have hfM := hs.ent (S' := S) hkeep (fun b hb' => .inl hb') (List.getElem_mem hj) (fun b hb' => hk b (hs.lt (mem_M.2 ⟨_, List.getElem_mem hj, hb'⟩)) (fun heb => ?_))
 ·exact hfM
 -- two entries with one block
 have hS : S[i] = e := by
  rw [List.getElem?_eq_getElem hil] at hi
  exact Option.some.inj hi
 have h2 : S[i].blk = some b := by rw [hS]; exact heb
 exact absurd hs.nd (nodup_absurd hij hil hj h2 hb')
theorem setRow_heap_same {w : World} {g : Nat} {cs : Array Value} {cur : Array Value} {ty : TypeId} {fr : Nat × Nat} (h : w.heap[g]? = some (.cells cur ty fr)) : (w.setRow g cs).heap[g]? = some (.cells cs ty fr) := by
 simp [World.setRow, Array.getElem?_modify, h]
theorem setRow_heap_other {w : World} {g k : Nat} {cs : Array Value} (h : k ≠ g) : (w.setRow g cs).heap[k]? = w.heap[k]? := by
 simp [World.setRow, Array.getElem?_modify, Ne.symm h]
theorem AWL.storeBox {t ty : TypeId} {n p i b : Nat} {f : Bool} {cs : List T} {r : T} (hg : o.guard = none) (hd : o.dst = none) (ho : o.op = .store t x y) (h : aggSize cx.P t = some (f, n)) (hi : S[i]? = some (.box b ty cs))
    (hx : Ev env true x (.v (.pointer (some ⟨b, p, none⟩)))) (hy : Ev env true y r) (hc : r.cellish = true) (hn : (cellsT r).length = n) (hp : p + n ≤ cs.length)
    (hr : AWL cx ops l K env (S.set i (.box b ty (cs.take p ++ cellsT r ++ cs.drop (p + n))))) : AWL cx ops (o :: l) K env S := by
 refine AWL.eff0 hg hd fun a w hs => ?_
 have hv := (hy.rep hs rfl).cells hc
 obtain ⟨us, hh, hV⟩ := hs.box hi
 have hlen : (a.eval y).cells.toList.length = n := by rw [← hv.len, hn]
 have hus : us.length = cs.length := hV.len.symm
 have hst := run_storeCells_at (P := cx.P) b p ty (a.eval y).cells.toList 0 us.toArray w hh (by rw [hlen]; simpa [hus] using hp) hv.one
 simp only [Nat.add_zero, hlen] at hst
 have hst' : (storeCells ⟨b, p, none⟩ (a.eval y).cells.toList 0).run cx.P w = .ok () (w.setRow b (us.take p ++ (a.eval y).cells.toList ++ us.drop (p + n)).toArray) := by simpa using hst
 refine ⟨w.setRow b (us.take p ++ (a.eval y).cells.toList ++ us.drop (p + n)).toArray, _, ?_, ?_, hr⟩
 ·have hsz : (a.eval y).cells.size = n := by simpa using hlen
  simp [execOp, ho, hx.val hs rfl, Instr.storeAt, Instr.sureAddr, storeVar, (aggSize_spec h w).2, hsz, Sem.run_bind, Sem.run_pure, hst']
 have hk : ∀ k, k < w.heap.size → (Ent.box b ty cs).blk ≠ some k → (w.setRow b (us.take p ++ (a.eval y).cells.toList ++ us.drop (p + n)).toArray).heap[k]? = w.heap[k]? := fun k _ hne => setRow_heap_other (fun e => hne (by rw [e]; rfl))
 refine hs.setEnt hi rfl hk (by simp [World.setRow]) rfl rfl rfl ⟨_, setRow_heap_same hh, ?_⟩
 have hV' := (((hV.take p).append hv).append (hV.drop (p + n)))
 have hbM : b ∈ cx.X ++ M S := List.mem_append.2 (.inr (mem_M.2 ⟨_, List.mem_of_getElem? hi, rfl⟩))
 exact hV'.mono (by simp [World.setRow]) (fun k hk' hm => setRow_heap_other (fun e => hm (e ▸ hbM))) (fun _ _ hm => hm)
end

/-! ### Filling -/
def fillT (place : Nat → Option (Nat × Nat)) : List T → List (Nat × T) → Option (List T)
 | cs, [] => some cs
 | cs, (i, t) :: r =>
  match place i with
  | none => none
  | some (off, size) => if t.cellish && ((cellsT t).length == size && decide (off + size ≤ cs.length)) then fillT place (cs.take off ++ cellsT t ++ cs.drop (off + size)) r else none

theorem foldl_set (off : Nat) : ∀ (vs : List Value) (j : Nat) (cells : Array Value), off + j + vs.length ≤ cells.size →
    ((vs.zipIdx j).foldl (fun cs (x : Value × Nat) => cs.setIfInBounds (off + x.2) x.1) cells).toList = cells.toList.take (off + j) ++ vs ++ cells.toList.drop (off + j + vs.length)
 | [], j, cells, _ => by simp
 | v :: r, j, cells, h => by
  simp only [List.length_cons] at h
  rw [List.zipIdx_cons, List.foldl_cons, foldl_set off r (j + 1) _ (by simp; omega)]
  simp only [Array.toList_setIfInBounds, List.length_cons]
  have hlen : off + j < cells.toList.length := by simp; omega
  have e1 : (cells.toList.set (off + j) v).take (off + (j + 1)) = cells.toList.take (off + j) ++ [v] := by
   rw [← Nat.add_assoc, List.take_succ_eq_append_getElem (by simpa using hlen)]
   congr 1
   ·rw [List.take_set_of_le (Nat.le_refl _)]
   ·simp
  have e2 : (cells.toList.set (off + j) v).drop (off + (j + 1) + r.length) = cells.toList.drop (off + j + (r.length + 1)) := by
   rw [List.drop_set_of_lt (by omega)]
   congr 1; omega
  rw [e1, e2]
  simp
theorem fill_spec {w : World} {L : List Nat} {place : Nat → Option (Nat × Nat)} : ∀ (pt : List (Nat × T)) (pv : List (Nat × Value)) (cs cs' : List T) (cells : Array Value), VReps w L cs cells.toList →
    pt.length = pv.length → (∀ (j i : Nat) (t : T) (i' : Nat) (v : Value), pt[j]? = some (i, t) → pv[j]? = some (i', v) → i = i' ∧ VRep w L t v) → fillT place cs pt = some cs' → ∃ cells', Instr.fill place cells pv = some cells' ∧ VReps w L cs' cells'.toList
 | [], [], cs, cs', cells, h, _, _, hf => by
  simp only [fillT, Option.some.injEq] at hf
  subst hf
  exact ⟨cells, rfl, h⟩
 | [], _ :: _, _, _, _, _, hl, _, _ => by simp at hl
 | _ :: _, [], _, _, _, _, hl, _, _ => by simp at hl
 | (i, t) :: pt, (i', v) :: pv, cs, cs', cells, h, hl, hh, hf => by
  obtain ⟨rfl, hv⟩ := hh 0 i t i' v rfl rfl
  simp only [fillT] at hf
  cases hp : place i with
  | none => rw [hp] at hf; cases hf
  | some q =>
   obtain ⟨off, size⟩ := q
   rw [hp] at hf
   simp only at hf
   split at hf
   ·rename_i hc
    simp only [Bool.and_eq_true, beq_iff_eq, decide_eq_true_eq] at hc
    obtain ⟨hc1, hc2, hc3⟩ := hc
    have hvc := hv.cells hc1
    have hsz : v.cells.size = size := by
     have := hvc.len
     rw [hc2] at this
     simpa using this.symm
    have hcl : cells.size = cs.length := by
     have := h.len
     simpa using this.symm
    have hfold : (v.cells.zipIdx.foldl (fun cs (x : Value × Nat) => cs.setIfInBounds (off + x.2) x.1) cells).toList = cells.toList.take off ++ v.cells.toList ++ cells.toList.drop (off + size) := by
     have := foldl_set off v.cells.toList 0 cells (by simp [hsz]; omega)
     simp only [Nat.add_zero, Array.length_toList, hsz] at this
     rw [← this, ← Array.foldl_toList]
     simp
    have hV : VReps w L (cs.take off ++ cellsT t ++ cs.drop (off + size)) (v.cells.zipIdx.foldl (fun cs (x : Value × Nat) => cs.setIfInBounds (off + x.2) x.1) cells).toList := by
     rw [hfold]
     exact ((h.take off).append hvc).append (h.drop _)
    obtain ⟨cells', e1, e2⟩ := fill_spec pt pv _ cs' _ hV (by simpa using hl) (fun j a b c d h1 h2 => hh (j + 1) a b c d h1 h2) hf
    refine ⟨cells', ?_, e2⟩
    simp only [Instr.fill, hp]
    rw [if_neg (by rw [hsz, hcl]; simp; omega)]
    exact e1
   ·cases hf

section
variable {cx : Cx} {env : Env} {S : St} {o : Oper} {g : Bool} {x y z : Operand} {ops : Array Oper} {l : List Oper} {K : Env → St → Prop} {Q : Exit → Env → St → Prop} {d : Nat}

def EvParts (env : Env) (g : Bool) : List (Nat × Operand) → List (Nat × T) → Prop
 | [], [] => True
 | (i, x) :: r, (j, t) :: r' => i = j ∧ Ev env g x t ∧ EvParts env g r r'
 | _, _ => False
theorem EvParts.spec {a : Act} {w : World} (hs : Sim cx env S a w) (hg : g = true) : ∀ {ps : List (Nat × Operand)} {pt : List (Nat × T)}, EvParts env g ps pt → pt.length = (ps.map fun p => (p.1, a.eval p.2)).length ∧
    ∀ (j i : Nat) (t : T) (i' : Nat) (v : Value), pt[j]? = some (i, t) → (ps.map fun p => (p.1, a.eval p.2))[j]? = some (i', v) → i = i' ∧ VRep w (cx.X ++ M S) t v
 | [], [], _ => ⟨rfl, fun j i t i' v h => by simp at h⟩
 | [], _ :: _, h => h.elim
 | _ :: _, [], h => h.elim
 | (i, x) :: r, (j, t) :: r', h => by
  obtain ⟨rfl, h2, h3⟩ := h
  obtain ⟨e1, e2⟩ := EvParts.spec hs hg h3
  refine ⟨by simpa using e1, fun k a' b c d h4 h5 => ?_⟩
  cases k with
  | zero =>
   simp at h4 h5
   obtain ⟨rfl, rfl⟩ := h4
   obtain ⟨rfl, rfl⟩ := h5
   exact ⟨rfl, h2.rep hs hg⟩
  | succ k => exact e2 k a' b c d (by simpa using h4) (by simpa using h5)

def builtOf (P : Program) (t : TypeId) (parts : List (Nat × T)) : Option (List T) :=
 match P.info? t, P.underlying t with
 | some it, some (.array _ e) =>
  match it.zero, P.info? e with
  | some z, some ie => if z.cells.toList.all Value.oneCell' then fillT (fun i => some (i * ie.size, ie.size)) (z.cells.toList.map .v) parts else none
  | _, _ => none
 | some it, some (.struct fields) =>
  match it.zero, fields.toList.mapM (fun f => (P.info? f.type).map fun i => (f.offset, i.size)) with
  | some z, some places => if z.cells.toList.all Value.oneCell' then fillT (places.toArray[·]?) (z.cells.toList.map .v) parts else none
  | _, _ => none
 | _, _ => none
theorem built_spec {w : World} {L : List Nat} {P : Program} {t : TypeId} {pt : List (Nat × T)} {pv : List (Nat × Value)} {cs : List T} (hl : pt.length = pv.length)
    (hh : ∀ (j i : Nat) (t : T) (i' : Nat) (v : Value), pt[j]? = some (i, t) → pv[j]? = some (i', v) → i = i' ∧ VRep w L t v) (h : builtOf P t pt = some cs) : ∃ cells, P.built t pv = some cells ∧ VReps w L cs cells.toList := by
 unfold builtOf at h
 unfold Program.built
 split at h
 ·rename_i it n e h1 h2
  rw [h1, h2]
  split at h
  ·rename_i z ie h3 h4
   simp only [h3, h4]
   split at h
   ·rename_i hall
    exact fill_spec pt pv _ cs z.cells (vreps_vals _ fun u hu => List.all_eq_true.1 hall u hu) hl hh h
   cases h
  cases h
 ·rename_i it fs h1 h2
  rw [h1, h2]
  split at h
  ·rename_i z places h3 h4
   simp only [h3, h4]
   split at h
   ·rename_i hall
    exact fill_spec pt pv _ cs z.cells (vreps_vals _ fun u hu => List.all_eq_true.1 hall u hu) hl hh h
   cases h
  cases h
 cases h
theorem Yv.build {t : TypeId} {parts : Array (Nat × Operand)} {pt : List (Nat × T)} {cs : List T} (ho : o.op = .build t parts) (hp : EvParts env g parts.toList pt) (h : g = true → builtOf cx.P t pt = some cs) : Yv cx o env S g (.agg cs) := by
 intro a w hs hg
 obtain ⟨e1, e2⟩ := hp.spec hs hg
 obtain ⟨cells, h1, h2⟩ := built_spec e1 e2 (h hg)
 have : cells = cells.toList.toArray := by simp
 refine ⟨.agg cells, by rw [this]; exact .agg h2.len h2.at_ h2.one, fun w' _ => ?_⟩
 have h3 := run_build (P := cx.P) w' t (parts.map fun (i, x) => (i, a.eval x)) cells (by simpa using h1)
 simp only [execOp, ho, Sem.run_bind, h3, Result.andThen_ok, Sem.run_pure]

theorem sl_new {w' : World} {L : List Nat} {k n c g' : Nat} {cs : List T} {us : List Value} {cur : Array Value} {e : TypeId} {fr : Nat × Nat} (hk : 0 < k) (hn : cs.length = n * k) (hnc : n ≤ c) (hc : c ≤ maxLen) (hV : VReps w' L cs us) (hh : w'.heap[g']? = some (.cells cur e fr)) (hL : g' ∉ L)
    (hcur : cur.toList.take us.length = us) : VRep w' L (.sl k cs) (.slice (some ⟨g', 0, none⟩) n c) := by
 rcases Nat.eq_zero_or_pos n with h0 | h0
 ·subst h0
  have : cs = [] := List.eq_nil_of_length_eq_zero (by simpa using hn)
  subst this
  exact .sl0 hc
 refine .sl h0 hn hV.len hnc hc (lt_of_heap hh) hL (fun j u hu => ?_) hV.at_ hV.one
 rw [add_lit', Nat.zero_add, cell_of_row w' g' j cur e fr hh]
 rw [← hcur, List.getElem?_take] at hu
 split at hu
 ·simpa using hu
 cases hu
theorem Sim.notNew {a : Act} {w : World} (hs : Sim cx env S a w) : w.heap.size ∉ cx.X ++ M S := fun hm => by
 have := hs.ltX hm
 omega

def elemOf (P : Program) (t : TypeId) : Option (TypeId × Nat × Nat × List Value) :=
 match P.underlying t with
 | some (.slice e) => match P.info? e with
  | some i => match i.zero with
   | some z => if z.cells.toList.all Value.oneCell' && z.cells.size == i.size then some (e, i.size, i.bytes, z.cells.toList) else none
   | none => none
  | none => none
 | _ => none
theorem elemOf_spec {P : Program} {t e : TypeId} {k b : Nat} {zs : List Value} (h : elemOf P t = some (e, k, b, zs)) : P.underlying t = some (.slice e) ∧ ∃ i z, P.info? e = some i ∧ i.zero = some z ∧ i.size = k ∧ i.bytes = b ∧ z.cells = zs.toArray ∧ zs.length = k ∧ ∀ u ∈ zs, u.oneCell' = true := by
 unfold elemOf at h
 split at h
 ·rename_i e' he
  split at h
  ·rename_i i hi
   split at h
   ·rename_i z hz
    split at h
    ·rename_i hc
     simp only [Bool.and_eq_true, beq_iff_eq] at hc
     simp only [Option.some.injEq, Prod.mk.injEq] at h
     obtain ⟨rfl, rfl, rfl, rfl⟩ := h
     exact ⟨he, i, z, hi, hz, rfl, rfl, by simp, by simpa using hc.2, fun u hu => List.all_eq_true.1 hc.1 u hu⟩
    cases h
   cases h
  cases h
 cases h

theorem rep_range {zs : List Value} {k n : Nat} (hz : zs.length = k) : ((Array.range (n * k)).map (zs.toArray[· % zs.toArray.size]!)).toList = (List.replicate n zs).flatten := by
 subst hz
 induction n with
 | zero => simp
 | succ n ih =>
  rw [List.replicate_succ', List.flatten_append, ← ih]
  apply List.ext_getElem?
  intro j
  simp only [List.flatten_cons, List.flatten_nil, List.append_nil, Array.toList_map, Array.toList_range, List.getElem?_map, List.getElem?_append, List.length_map, List.length_range, List.size_toArray]
  by_cases h1 : j < n * zs.length
  ·rw [if_pos h1, List.getElem?_range h1, List.getElem?_range (by rw [Nat.succ_mul]; omega)]
  ·rw [if_neg h1]
   by_cases h2 : j < (n + 1) * zs.length
   ·rw [List.getElem?_range h2]
    rw [Nat.succ_mul] at h2
    have e : j % zs.length = j - n * zs.length := by
     have hj : j = (j - n * zs.length) + zs.length * n := by rw [Nat.mul_comm zs.length n]; omega
     rw [hj, Nat.add_mul_mod_self_left, Nat.mod_eq_of_lt (by omega)]
     omega
    have hlt : j - n * zs.length < zs.length := by omega
    simp only [Option.map_some]
    rw [e, List.getElem?_eq_getElem hlt]
    simp [hlt]
   ·rw [List.getElem?_eq_none (by simpa using h2), List.getElem?_eq_none (by rw [Nat.succ_mul] at h2; omega)]
    rfl
end

section
variable {cx : Cx} {env : Env} {S : St} {o : Oper} {g : Bool} {x y z : Operand} {ops : Array Oper} {l : List Oper} {K : Env → St → Prop} {Q : Exit → Env → St → Prop} {d : Nat}

theorem flat_len {α : Type} (n k : Nat) (zs : List α) (h : zs.length = k) : (List.replicate n zs).flatten.length = n * k := by
 induction n with
 | zero => simp
 | succ n ih => rw [List.replicate_succ, List.flatten_cons, List.length_append, ih, h, Nat.succ_mul]; omega
theorem flat_take {α : Type} (n m k : Nat) (zs : List α) (h : zs.length = k) (hnm : n ≤ m) : ((List.replicate m zs).flatten).take (n * k) = (List.replicate n zs).flatten := by
 have e : m = n + (m - n) := by omega
 rw [e, ← List.replicate_append_replicate, List.flatten_append]
 have := flat_len n k zs h
 rw [← this, List.take_left]
theorem vreps_flat {w : World} {L : List Nat} (n : Nat) (zs : List Value) (h : ∀ u ∈ zs, u.oneCell' = true) : VReps w L ((List.replicate n (zs.map T.v)).flatten) ((List.replicate n zs).flatten) := by
 induction n with
 | zero => exact .nil
 | succ n ih =>
  rw [List.replicate_succ, List.replicate_succ, List.flatten_cons, List.flatten_cons]
  exact (vreps_vals zs h).append ih

theorem AWL.buildSliceOp {t e : TypeId} {n k b : Nat} {zs : List Value} {parts : Array (Nat × Operand)} {pt : List (Nat × T)} {cs : List T} (hg : o.guard = none) (hd : o.dst = some d) (hN : d < cx.N) (ho : o.op = .buildSlice t n parts)
    (he : elemOf cx.P t = some (e, k, b, zs)) (hk : 0 < k) (hp : EvParts env true parts.toList pt) (hn : n * k ≤ 16777216) (hf : fillT (fun i => some (i * k, k)) ((List.replicate n (zs.map T.v)).flatten) pt = some cs) (hl : cs.length = n * k)
    (hr : AWL cx ops l K ((d, true, .sl k cs) :: env) S) : AWL cx ops (o :: l) K env S := by
 refine AWL.eff hg hd hN fun a w hs => ?_
 obtain ⟨h1, i, z, h2, h3, h4, h5, h6, h7, h8⟩ := elemOf_spec he
 obtain ⟨e1, e2⟩ := hp.spec hs rfl
 have hz : VReps w (cx.X ++ M S) ((List.replicate n (zs.map T.v)).flatten) ((Array.range (n * k)).map (zs.toArray[· % zs.toArray.size]!)).toList := by rw [rep_range h7]; exact vreps_flat n zs h8
 obtain ⟨cells, c1, c2⟩ := fill_spec pt _ _ cs _ hz e1 e2 hf
 have hka := keeps_alloc w (.cells cells e)
 refine ⟨.slice (some ⟨w.heap.size, 0, none⟩) n n, w.alloc (.cells cells e), .sl k cs, S, ?_, hs.more hka, ?_, hr⟩
 ·have hlim : ¬ (n * k > 2 ^ 24) := by omega
  simp only [execOp, ho, Instr.buildSlice, Sem.run_bind, run_underlying h1, Result.andThen_ok, sizeOf, typeInfo, run_program, h2, h4, Sem.run_pure]
  rw [if_neg hlim]
  have hl' : (Array.map (fun p : Nat × Operand => (p.1, a.eval p.2)) parts).toList = parts.toList.map fun p => (p.1, a.eval p.2) := by simp
  by_cases h0 : n * k = 0
  ·rw [if_pos h0]
   rw [h0, show Array.range 0 = #[] from rfl, Array.map_empty] at c1
   have hfill : Instr.fill (fun i => some (i * k, k)) ((Array.range (n * k)).map fun x => (#[] : Array Value)[x % (#[] : Array Value).size]!) (Array.map (fun p : Nat × Operand => (p.1, a.eval p.2)) parts).toList = some cells := by
    rw [h0, show Array.range 0 = #[] from rfl, Array.map_empty, hl']
    exact c1
   simp only [Sem.run_bind, Sem.run_pure, Result.andThen_ok, hfill, newRow, run_newObj]
   rfl
  rw [if_neg h0]
  have hfill : Instr.fill (fun i => some (i * k, k)) ((Array.range (n * k)).map fun x => zs.toArray[x % zs.toArray.size]!) (Array.map (fun p : Nat × Operand => (p.1, a.eval p.2)) parts).toList = some cells := by
   rw [hl']
   exact c1
  simp only [Sem.run_bind, Sem.run_pure, Result.andThen_ok, zeroValue, typeInfo, run_program, h2, h3, h6, hfill, newRow, run_newObj]
  rfl
 refine sl_new hk hl (Nat.le_refl _) ?_ (c2.mono hka.size (fun b hb _ => hka.block b hb (by simp)) (fun _ _ hm => hm)) (heap_alloc_new w _) hs.notNew (by rw [← c2.len]; apply List.take_of_length_le; rw [c2.len]; exact Nat.le_refl _)
 unfold maxLen
 have : n ≤ n * k := Nat.le_mul_of_pos_right n hk
 omega

theorem run_mk {a : Act} {t e : TypeId} {n c k b : Nat} {zs : List Value} {P : Program} {kl kc : IntKind} (ho : o.op = .makeSlice t x y) (he : elemOf P t = some (e, k, b, zs)) (hx : a.eval x = .int kl (n : Int)) (hy : a.eval y = .int kc (c : Int)) (hnc : n ≤ c) (hb : b * c ≤ 281474976710656) (hc : c ≤ maxLen) (w : World) :
    (execOp a.eval o).run P w = .ok (.value (.slice (some ⟨w.heap.size, 0, none⟩) n c)) (w.alloc (.cells ((List.replicate c zs).flatten).toArray e)) := by
 obtain ⟨h1, i, z, h2, h3, h4, h5, h6, h7, h8⟩ := elemOf_spec he
 unfold maxLen at hc
 have hb2 : (i.bytes : Int) * (c : Int) ≤ 281474976710656 := by
  rw [h5]
  have hb' : ((b * c : Nat) : Int) ≤ 281474976710656 := by omega
  rw [Int.natCast_mul] at hb'
  exact hb'
 have := run_make (P := P) (w := w) t e i z h1 h2 h3 kl kc (n : Int) (c : Int) (by omega) (by omega) hb2 (by omega)
 have hcells : madeCells z.cells ((c : Int).toNat * i.size) = ((List.replicate c zs).flatten).toArray := by
  apply Array.ext'
  simp only [madeCells, Int.toNat_natCast, h4, h6]
  exact rep_range h7
 rw [hcells] at this
 simp only [execOp, ho, hx, hy, Sem.run_bind, this, Result.andThen_ok, Sem.run_pure, Int.toNat_natCast]
theorem AWL.makeRow {t e : TypeId} {n c k b : Nat} {zs : List Value} {kl kc : IntKind} (hg : o.guard = none) (hd : o.dst = some d) (hN : d < cx.N) (ho : o.op = .makeSlice t x y) (he : elemOf cx.P t = some (e, k, b, zs))
    (hx : Ev env true x (.v (.int kl (n : Int)))) (hy : Ev env true y (.v (.int kc (c : Int)))) (hnc : n ≤ c) (hb : b * c ≤ 281474976710656) (hc : c ≤ maxLen)
    (hr : ∀ A, AWL cx ops l K ((d, true, .v (.slice A n c)) :: env) (S ++ [.row A n c e k (List.replicate n (zs.map T.v)).flatten])) : AWL cx ops (o :: l) K env S := by
 refine AWL.eff hg hd hN fun a w hs => ?_
 obtain ⟨h1, i, z, h2, h3, h4, h5, h6, h7, h8⟩ := elemOf_spec he
 have hka := keeps_alloc w (.cells ((List.replicate c zs).flatten).toArray e)
 refine ⟨_, _, _, _, run_mk ho he (hx.val hs rfl) (hy.val hs rfl) hnc hb hc w, ?_, .v _, hr _⟩
 refine hs.add rfl hka ⟨(List.replicate n zs).flatten, ⟨flat_len n k zs h7, hc, hnc, .inr ⟨w.heap.size, _, (0, 0), rfl, heap_alloc_new w _, .inl rfl, by simpa using flat_len c k zs h7, flat_take n c k zs h7 hnc⟩⟩, hs.repsAdd rfl hka (vreps_flat n zs h8)⟩

/-! ### append -/
theorem setCells_heap {e : TypeId} {fr : Nat × Nat} (gb : Nat) : ∀ (vs : List Value) (off : Nat) (w : World) (cur : Array Value), w.heap[gb]? = some (.cells cur e fr) → off + vs.length ≤ cur.size →
    ∃ cur' : Array Value, (w.setCells gb off vs).heap[gb]? = some (.cells cur' e fr) ∧ cur'.toList = cur.toList.take off ++ vs ++ cur.toList.drop (off + vs.length)
 | [], off, w, cur, h, _ => ⟨cur, h, by simp⟩
 | v :: r, off, w, cur, h, hl => by
  simp only [List.length_cons] at hl
  have h1 : (w.setCell ⟨gb, off, none⟩ v).heap[gb]? = some (.cells (cur.setIfInBounds off v) e fr) := by simp [World.setCell, Array.getElem?_modify, h]
  obtain ⟨cur', e1, e2⟩ := setCells_heap gb r (off + 1) _ _ h1 (by simp; omega)
  refine ⟨cur', e1, e2.trans ?_⟩
  have hlen : off < cur.toList.length := by simp; omega
  simp only [Array.toList_setIfInBounds, List.length_cons]
  rw [List.take_succ_eq_append_getElem (by simpa using hlen), List.take_set_of_le (Nat.le_refl _), List.drop_set_of_lt (by omega)]
  have e3 : off + 1 + r.length = off + (r.length + 1) := by omega
  rw [e3]
  simp
theorem setCells_rest (gb : Nat) : ∀ (vs : List Value) (off : Nat) (w : World), (w.setCells gb off vs).heap.size = w.heap.size ∧ (w.setCells gb off vs).os = w.os ∧ (w.setCells gb off vs).tape = w.tape ∧ (w.setCells gb off vs).output = w.output ∧ ∀ k, k ≠ gb → (w.setCells gb off vs).heap[k]? = w.heap[k]?
 | [], off, w => ⟨rfl, rfl, rfl, rfl, fun _ _ => rfl⟩
 | v :: r, off, w => by
  obtain ⟨h1, h2, h3, h4, h5⟩ := setCells_rest gb r (off + 1) (w.setCell ⟨gb, off, none⟩ v)
  exact ⟨h1.trans (by simp), h2, h3, h4, fun k hk => (h5 k hk).trans (Below.heap_setCell w ⟨gb, off, none⟩ v k hk)⟩

def SrcT (cx : Cx) (env : Env) (S : St) (x : Operand) (tx : TypeId) (k m : Nat) (news : List T) : Prop :=
 ∀ a w, Sim cx env S a w → ∃ us : List Value, VReps w (cx.X ++ M S) news us ∧ Src cx.P k tx (a.eval x) m us w
theorem SrcT.sl {tx e : TypeId} {k m : Nat} {news : List T} (ht : sliceOf cx.P tx = some e) (hk : 0 < k) (hx : Ev env true x (.sl k news)) (hm : news.length = m * k) : SrcT cx env S x tx k m news := by
 intro a w hs
 have hv := hx.rep hs rfl
 generalize a.eval x = u at hv
 cases hv with
 | sl0 hc =>
  obtain rfl : m = 0 := by
   rcases Nat.mul_eq_zero.1 hm.symm with h | h <;> omega
  rename_i c A
  cases A with
  | none => exact ⟨[], .nil, Src.ofNil w (sliceOf_spec ht) c⟩
  | some ad => exact ⟨[], .nil, Src.ofSlice w (sliceOf_spec ht) ad 0 c [] (by simp) (fun j u h => by simp at h) (fun _ h => by cases h)⟩
 | sl hn hkl hl hnc hc hb hL hcell hh h1 =>
  rename_i n c us ad
  obtain rfl : n = m := Nat.eq_of_mul_eq_mul_right hk (hkl.symm.trans hm)
  exact ⟨us, ⟨hl, hh, h1⟩, Src.ofSlice w (sliceOf_spec ht) ad n c us (by rw [← hl, hkl]) hcell h1⟩
theorem SrcT.nil {tx e : TypeId} {k c : Nat} (ht : sliceOf cx.P tx = some e) (hx : Ev env true x (.v (.slice none 0 c))) : SrcT cx env S x tx k 0 [] := by
 intro a w hs
 rw [hx.val hs rfl]
 exact ⟨[], .nil, Src.ofNil w (sliceOf_spec ht) c⟩
theorem SrcT.str {tx : TypeId} {s : ByteArray} (ht : isStr cx.P tx = true) (hx : Ev env true x (.v (.string s))) : SrcT cx env S x tx 1 s.size (s.data.toList.map u8) := by
 intro a w hs
 rw [hx.val hs rfl]
 refine ⟨byteCells s, ?_, Src.ofString w (isStr_spec ht) s⟩
 have h : ∀ u ∈ byteCells s, u.oneCell' = true := fun u hu => by
  unfold byteCells at hu
  obtain ⟨b, _, rfl⟩ := List.mem_map.1 hu
  rfl
 have := vreps_vals (w := w) (L := cx.X ++ M S) (byteCells s) h
 unfold byteCells at this ⊢
 rw [List.map_map] at this
 exact this
theorem SrcT.row {tx e e' : TypeId} {k i n c : Nat} {A : Option Addr} {cs : List T} (ht : sliceOf cx.P tx = some e) (hi : S[i]? = some (.row A n c e' k cs)) (hx : Ev env true x (.v (.slice A n c))) : SrcT cx env S x tx k n cs := by
 intro a w hs
 rw [hx.val hs rfl]
 obtain ⟨us, hr, hV⟩ := hs.row hi
 refine ⟨us, hV, ?_⟩
 cases A with
 | none =>
  rcases hr.2.2.2 with ⟨_, rfl, _⟩ | ⟨_, _, _, h, _⟩
  ·obtain rfl : us = [] := List.eq_nil_of_length_eq_zero (by simpa using hr.1)
   exact Src.ofNil w (sliceOf_spec ht) c
  ·cases h
 | some ad =>
  rcases hr.2.2.2 with ⟨h, _⟩ | ⟨gb, cur, fr, h, _⟩
  ·cases h
  ·simp only [Option.some.injEq] at h
   subst h
   refine Src.ofSlice w (sliceOf_spec ht) _ n c us hr.1 (fun j u hu => ?_) hV.one
   rw [add_lit', Nat.zero_add]
   exact hr.cell hu

theorem Sim.swap {a : Act} {w : World} (hs : Sim cx env S a w) {w' : World} {i : Nat} {e e' : Ent} (hi : S[i]? = some e) (hb : ∀ b, e'.blk = some b → e.blk = some b ∨ b = w.heap.size) (hk : ∀ b, b < w.heap.size → e.blk ≠ some b → w'.heap[b]? = w.heap[b]?) (hsz : w.heap.size ≤ w'.heap.size) (hos : w'.os = w.os) (htp : w'.tape = w.tape) (hou : w'.output = w.output)
    (he : ∀ L, (∀ b, b < w.heap.size → b ∈ L → b ∈ cx.X ++ M S) → e'.holds w' L) : Sim cx env (S.set i e') a w' := by
 have hil : i < S.length := (List.getElem?_eq_some_iff.1 hi).1
 have hS : S[i] = e := by
  rw [List.getElem?_eq_getElem hil] at hi
  exact Option.some.inj hi
 have hset : S.set i e' = S.take i ++ e' :: S.drop (i + 1) := List.set_eq_take_append_cons_drop.trans (by rw [if_pos hil])
 have hold : S = S.take i ++ e :: S.drop (i + 1) := by
  conv => lhs; rw [← List.take_append_drop i S, List.drop_eq_getElem_cons hil, hS]
 have hM' : M (S.set i e') = M (S.take i) ++ (M [e'] ++ M (S.drop (i + 1))) := by rw [hset, ← M_append, ← M_append]; rfl
 have hM : M S = M (S.take i) ++ (M [e] ++ M (S.drop (i + 1))) := by conv => lhs; rw [hold]
                                                                     rw [← M_append, ← M_append]; rfl
 have hfr : ∀ b ∈ M (S.set i e'), b ∈ M S ∨ w.heap.size ≤ b := fun b hb' => by
  rw [hM'] at hb'
  rw [hM]
  simp only [List.mem_append] at hb' ⊢
  rcases hb' with h | h | h
  ·exact .inl (.inl h)
  ·have h' : e'.blk = some b := by
    obtain ⟨f, hf, hfb⟩ := mem_M.1 h
    rw [List.mem_singleton] at hf
    subst hf
    exact hfb
   rcases hb b h' with h2 | h2
   ·exact .inl (.inr (.inl (by simp [M, h2])))
   ·exact .inr (Nat.le_of_eq h2.symm)
  ·exact .inl (.inr (.inr h))
 have hkeep : Keeps (M S) w w' := ⟨hos, htp, hou, hsz, fun b hb' hm => hk b hb' (fun h => hm (mem_M.2 ⟨e, List.mem_of_getElem? hi, h⟩))⟩
 have hnd : (M (S.set i e')).Nodup := by
  have h0 := hs.nd
  have hlt : ∀ b ∈ M S, b < w.heap.size := fun b hb => hs.lt hb
  rw [hM] at h0 hlt
  rw [hM']
  cases hbe : e'.blk with
  | none =>
   have : M [e'] = [] := by simp [M, hbe]
   rw [this, List.nil_append]
   rw [List.nodup_append] at h0 ⊢
   refine ⟨h0.1, (List.nodup_append.1 h0.2.1).2.1, fun p hp q hq => h0.2.2 p hp q (List.mem_append.2 (.inr hq))⟩
  | some b =>
   have hone : M [e'] = [b] := M_one hbe
   rw [hone]
   rcases hb b hbe with h2 | h2
   ·rw [M_one h2] at h0; exact h0
   ·subst h2
    rw [List.nodup_append] at h0 ⊢
    have h3 := (List.nodup_append.1 h0.2.1).2.1
    refine ⟨h0.1, ?_, fun p hp q hq => ?_⟩
    ·rw [List.singleton_append, List.nodup_cons]
     refine ⟨fun hm => ?_, h3⟩
     have := hlt _ (List.mem_append.2 (.inr (List.mem_append.2 (.inr hm))))
     omega
    ·rcases List.mem_append.1 hq with hq | hq
     ·rw [List.mem_singleton] at hq
      have := hlt p (List.mem_append.2 (.inl hp))
      omega
     ·exact h0.2.2 p hp q (List.mem_append.2 (.inr hq))
 refine hs.step hkeep hnd hfr (fun f hf => ?_)
 obtain ⟨j, hj, hfj⟩ := List.getElem_of_mem hf
 rw [List.length_set] at hj
 rw [List.getElem_set] at hfj
 by_cases hij : i = j
 ·rw [if_pos hij] at hfj
  subst hfj
  refine he _ (fun b hlt hb' => ?_)
  rcases List.mem_append.1 hb' with h | h
  ·exact List.mem_append.2 (.inl h)
  rcases hfr b h with h | h
  ·exact List.mem_append.2 (.inr h)
  omega
 rw [if_neg hij] at hfj
 subst hfj
 refine hs.ent hkeep hfr (List.getElem_mem hj) (fun b hb' => hk b (hs.lt (mem_M.2 ⟨_, List.getElem_mem hj, hb'⟩)) (fun heb => ?_))
 have h2 : S[i].blk = some b := by rw [hS]; exact heb
 exact absurd hs.nd (nodup_absurd hij hil hj h2 hb')
end

section
variable {cx : Cx} {env : Env} {S : St} {o : Oper} {g : Bool} {x y z : Operand} {ops : Array Oper} {l : List Oper} {K : Env → St → Prop} {Q : Exit → Env → St → Prop} {d : Nat}

theorem run_append_nil0 {P : Program} (w : World) (t tx ty e : TypeId) (i : TypeInfo) (ht : P.underlying t = some (.slice e)) (hi : P.info? e = some i) (v : Value) (us : List Value) (hs : Src P i.size tx v 0 us w) :
    (Builtin.append_ #[t, tx] ty #[.slice none 0 0, v]).run P w = .ok (.slice none 0 0) w := by
 rcases hs.kind with ⟨e', hk⟩ | hk <;> simp [Builtin.append_, run_underlying ht, run_underlying hk, sizeOf, typeInfo, hi, hs.len, hs.cells]

theorem run_append_row {P : Program} {w : World} {t tx ty e : TypeId} {k b n c m : Nat} {zs us news : List Value} {A : Option Addr} {v : Value} (he : elemOf P t = some (e, k, b, zs)) (hk : 0 < k) (hrow : RowIs w e k A n c us) (hs : Src P k tx v m news w) (h63 : n + m ≤ maxLen) (hb : (n + m) * b ≤ 140737488355328) :
    ∃ A' c' w', (Builtin.append_ #[t, tx] ty #[.slice A n c, v]).run P w = .ok (.slice A' (n + m) c') w' ∧ RowIs w' e k A' (n + m) c' (us ++ news) ∧ (∀ g, A'.map (·.block) = some g → A.map (·.block) = some g ∨ g = w.heap.size) ∧
     (∀ g, g < w.heap.size → A.map (·.block) ≠ some g → w'.heap[g]? = w.heap[g]?) ∧ w.heap.size ≤ w'.heap.size ∧ w'.os = w.os ∧ w'.tape = w.tape ∧ w'.output = w.output := by
 obtain ⟨h1, i, z, h2, h3, rfl, rfl, h6, h7, h8⟩ := elemOf_spec he
 obtain ⟨r1, r2, r3, r4⟩ := hrow
 by_cases hroom : n + m ≤ c
 ·rcases r4 with ⟨rfl, rfl, rfl⟩ | ⟨gb, cur, fr, rfl, hh, hfr, hsz, htk⟩
  ·obtain rfl : m = 0 := by omega
   obtain rfl : us = [] := List.eq_nil_of_length_eq_zero (by simpa using r1)
   obtain rfl : news = [] := List.eq_nil_of_length_eq_zero (by simpa using hs.newsLen)
   exact ⟨none, 0, w, run_append_nil0 w t tx ty e i h1 h2 v [] hs, ⟨by simp, by unfold maxLen; omega, Nat.le_refl _, .inl ⟨rfl, rfl, rfl⟩⟩, (fun g hg => by cases hg), fun _ _ _ => rfl, Nat.le_refl _, rfl, rfl, rfl⟩
  have hfit : n * i.size + news.length ≤ cur.size := by
   rw [hs.newsLen, hsz, ← Nat.add_mul]
   exact Nat.mul_le_mul_right _ hroom
  have hcell : ∀ j, j < news.length → (w.cell? ⟨gb, 0 + n * i.size + j, none⟩).isSome = true := fun j hj => by
   rw [cell_of_row w gb _ cur e fr hh, Array.getElem?_eq_getElem (by omega)]
   rfl
  have hfro : ∀ j, j < news.length → w.frozen? ⟨gb, 0 + n * i.size + j, none⟩ = false := fun j hj => by
   obtain ⟨lo, hi'⟩ := fr
   simp only [World.frozen?, hh]
   simp only at hfr
   rcases hfr with h | h <;> (simp; intro h'; omega)
  have hrun := run_append_room_src (P := P) w t tx ty e i h1 h2 gb 0 n c v m news hs hroom hcell hfro
  obtain ⟨cur', c1, c2⟩ := setCells_heap gb news (0 + n * i.size) w cur hh (by omega)
  obtain ⟨s1, s2, s3, s4, s5⟩ := setCells_rest gb news (0 + n * i.size) w
  refine ⟨_, _, _, hrun, ⟨by simp [r1, hs.newsLen, Nat.add_mul], r2, hroom, .inr ⟨gb, cur', fr, rfl, c1, ?_, ?_, ?_⟩⟩, fun g hg => .inl hg, fun g _ hne => s5 g (fun e => hne (by subst e; rfl)), Nat.le_of_eq s1.symm, s2, s3, s4⟩
  ·have : cur'.size = cur.size := by
    have := congrArg List.length c2
    simp at this
    omega
   rw [this]; exact hfr
  ·have := congrArg List.length c2
   simp at this
   omega
  rw [c2, Nat.zero_add, htk]
  have : us.length + news.length = (n + m) * i.size := by rw [r1, hs.newsLen, Nat.add_mul]
  rw [← this]
  rw [← List.length_append, List.take_left]
 have hn' : c < n + m := by omega
 have hold : (Builtin.firstCells i.size n (.slice A n c)).run P w.drew = .ok us.toArray w.drew := by
  rcases r4 with ⟨rfl, rfl, rfl⟩ | ⟨gb, cur, fr, rfl, hh, hfr, hsz, htk⟩
  ·obtain rfl : us = [] := List.eq_nil_of_length_eq_zero (by simpa using r1)
   exact run_firstCells_none w.drew _ _ _ _
  ·refine run_firstCells_some w.drew _ _ _ _ _ us r1 (fun j u hu => ?_)
   rw [add_lit', Nat.zero_add]
   exact RowIs.cell (w := w) (e := e) (size := i.size) (n := n) (c := c) ⟨r1, r2, r3, .inr ⟨gb, cur, fr, rfl, hh, hfr, hsz, htk⟩⟩ hu
 have hfit := growslice_fits hn' hb
 unfold maxLen at h63
 have hrun := run_append_grow_src (P := P) w t tx ty e i z h1 h2 h3 A n c us hold v m news hs hn' (by omega) hfit
 have hcap1 := grownCap_ge w (n + m) c e
 have hcap2 := grownCap_le_maxLen w (n + m) c e (by unfold maxLen; omega)
 have hlen : us.length + news.length = (n + m) * i.size := by rw [r1, hs.newsLen, Nat.add_mul]
 refine ⟨_, _, _, hrun, ⟨by simp [hlen], hcap2, hcap1, .inr ⟨w.heap.size, _, (0, 0), rfl, heap_alloc_new w.drew _, .inl rfl, ?_, ?_⟩⟩, fun g hg => .inr (by simpa using hg.symm), fun g hg _ => Below.heap_alloc w.drew _ g hg, by simp, rfl, rfl, rfl⟩
 ·have hz : z.cells.size = i.size := by rw [h6]; simpa using h7
  simp only [Array.size_append, List.size_toArray, List.length_append, hlen, size_zeroCells, hz]
  rw [← Nat.add_mul]
  congr 1
  omega
 simp only [Array.toList_append]
 have e1 : (us ++ news).length = (n + m) * i.size := by simp [hlen]
 rw [← e1, List.take_left]

theorem AWL.appendRow {t tx e : TypeId} {k b n c m i : Nat} {zs : List Value} {A : Option Addr} {cs news : List T} (hg : o.guard = none) (hd : o.dst = some d) (hN : d < cx.N)
    (ho : o.op = .call { callee := .builtin .append, args := #[x, y], argTypes := #[t, tx] }) (he : elemOf cx.P t = some (e, k, b, zs)) (hk : 0 < k) (hi : S[i]? = some (.row A n c e k cs)) (hx : Ev env true x (.v (.slice A n c))) (hy : SrcT cx env S y tx k m news)
    (h63 : n + m ≤ maxLen) (hb : (n + m) * b ≤ 140737488355328)
    (hr : ∀ A' c', AWL cx ops l K ((d, true, .v (.slice A' (n + m) c')) :: env) (S.set i (.row A' (n + m) c' e k (cs ++ news)))) : AWL cx ops (o :: l) K env S := by
 refine AWL.eff hg hd hN fun a w hs => ?_
 obtain ⟨us, hrow, hV⟩ := hs.row hi
 obtain ⟨ns, hVn, hsrc⟩ := hy a w hs
 obtain ⟨A', c', w', hrun, hrow', hblk, hkeep, hsz, hos, htp, hou⟩ := run_append_row (ty := o.type) he hk hrow hsrc h63 hb
 refine ⟨_, w', _, _, ?_, ?_, .v _, hr A' c'⟩
 ·simp only [execOp, ho, resolve, invoke, builtin, Sem.run_bind, Sem.run_pure, Result.andThen_ok, List.map_toArray, List.map_cons, List.map_nil, hx.val hs rfl, hrun]
 refine hs.swap hi hblk hkeep hsz hos htp hou (fun L hL => ⟨us ++ ns, hrow', ?_⟩)
 have hb' : ∀ b, b < w.heap.size → b ∉ cx.X ++ M S → w'.heap[b]? = w.heap[b]? := fun b hlt hm => hkeep b hlt (fun h => hm (List.mem_append.2 (.inr (mem_M.2 ⟨_, List.mem_of_getElem? hi, h⟩))))
 exact (hV.append hVn).mono hsz hb' hL

/-! ### []byte of a string -/
theorem run_strBytes {P : Program} {ρ : Operand → Value} {src dst : TypeId} {e : TypeId} {s : ByteArray} {w : World} (ho : o.op = .convert src dst x) (hs : isStr P src = true) (he : P.underlying dst = some (.slice e)) (hu : P.underlying e = some (.int .u8)) (hx : ρ x = .string s) (hlen : s.size ≤ maxLen) :
    ∃ c cur fr w', (execOp ρ o).run P w = .ok (.value (.slice (some ⟨w.heap.size, 0, none⟩) s.size c)) w' ∧ w'.heap[w.heap.size]? = some (.cells cur e fr) ∧ (fr.1 = fr.2 ∨ cur.size ≤ fr.1) ∧ cur.size = c ∧ s.size ≤ c ∧ c ≤ maxLen ∧ cur.toList.take s.size = byteCells s ∧ Keeps [] w w' := by
 let c := (Question.appendCap s.size 0 e).cut (w.tape w.drawn (.appendCap s.size 0 e))
 have hc1 : s.size ≤ c := by simp [c, Question.cut]
 have hc2 : c ≤ maxLen := by
  simp only [c, Question.cut]
  unfold maxLen at hlen ⊢
  have : w.tape w.drawn (.appendCap s.size 0 e) % (2 ^ 63 - s.size) < 2 ^ 63 - s.size := Nat.mod_lt _ (by omega)
  omega
 let cur : Array Value := (s.data.map fun b => Value.int .u8 b.toNat) ++ Array.replicate (c - s.size) (.int .u8 0)
 have hcs : cur.size = c := by
  have : s.data.size = s.size := rfl
  simp only [cur, Array.size_append, Array.size_map, Array.size_replicate]
  omega
 let w1 := w.drew.alloc (.cells cur e)
 have hsh : w1.shape? w.heap.size = some (e, c) := by
  have : w1.heap[w.heap.size]? = some (.cells cur e) := heap_alloc_new w.drew _
  simp [World.shape?, this, hcs]
 let w2 := w1.freeze ⟨w.heap.size, c, none⟩ 1
 have hh : w2.heap[w.heap.size]? = some (.cells cur e (c, c + 1)) := by
  have : w1.heap[w.heap.size]? = some (.cells cur e) := heap_alloc_new w.drew _
  simp [w2, World.freeze, Array.getElem?_modify, this]
 have hother : ∀ k, k < w.heap.size → w2.heap[k]? = w.heap[k]? := fun k hk => by
  have h1 : w1.heap[k]? = w.heap[k]? := Below.heap_alloc w.drew _ k hk
  have hne : w.heap.size ≠ k := by omega
  simp only [w2, World.freeze]
  rw [if_neg (by decide)]
  simp only [Array.getElem?_modify]
  rw [if_neg hne]
  exact h1
 refine ⟨c, cur, (c, c + 1), w2, ?_, hh, .inr (Nat.le_of_eq hcs), hcs, hc1, hc2, ?_, ⟨rfl, rfl, rfl, ?_, fun k hk _ => hother k hk⟩⟩
 ·have hst : (Conv.stringToBytes e s).run P w = .ok (.slice (some ⟨w.heap.size, 0, none⟩) s.size c) w2 := by
   simp only [Conv.stringToBytes, Sem.run_bind, run_choose, Question.forced, Bool.false_eq_true, if_false, Result.andThen_ok, newRow, run_newObj, Sem.run_pure, markStringish, run_shape, run_freeze]
   have hcur : ((s.data.map fun b => Value.int .u8 b.toNat) ++ Array.replicate ((Question.appendCap s.size 0 e).cut (w.tape w.drawn (.appendCap s.size 0 e)) - s.size) (.int .u8 0)) = cur := rfl
   rw [hcur]
   have hsh' : ({ heap := w.heap.push (.cells cur e), tape := w.tape, drawn := w.drawn + 1, os := w.os, output := w.output } : World).shape? w.heap.size = some (e, c) := hsh
   rw [hsh']
   rfl
  simp only [execOp, ho, hx, convert, Sem.run_bind, run_underlying (isStr_spec hs), run_underlying he, run_underlying hu, Result.andThen_ok, hst, Sem.run_pure]
 ·have h1 : (s.data.map fun b => Value.int .u8 b.toNat).toList = byteCells s := by simp [byteCells]
  have h2 : (byteCells s).length = s.size := byteCells_length s
  simp only [cur, Array.toList_append, h1]
  rw [← h2, List.take_left]
 simp [w2, w1, World.freeze]
theorem AWL.strBytesRow {src dst e : TypeId} {s : ByteArray} (hg : o.guard = none) (hd : o.dst = some d) (hN : d < cx.N) (ho : o.op = .convert src dst x) (hs : isStr cx.P src = true) (he : sliceOf cx.P dst = some e) (hu : kindOf cx.P e = some .u8) (hx : Ev env true x (.v (.string s))) (hlen : s.size ≤ maxLen)
    (hr : ∀ A c, AWL cx ops l K ((d, true, .v (.slice A s.size c)) :: env) (S ++ [.row A s.size c e 1 (s.data.toList.map u8)])) : AWL cx ops (o :: l) K env S := by
 refine AWL.eff hg hd hN fun a w hsim => ?_
 obtain ⟨c, cur, fr, w', hrun, hh, hfr, hsz, hc1, hc2, htk, hk⟩ := run_strBytes (w := w) ho hs (sliceOf_spec he) (kindOf_spec hu) (hx.val hsim rfl) hlen
 refine ⟨_, w', _, _, hrun, ?_, .v _, hr _ c⟩
 have hV : VReps w (cx.X ++ M S) (s.data.toList.map u8) (byteCells s) := by
  have := vreps_vals (w := w) (L := cx.X ++ M S) (byteCells s) (fun u hu => by
   unfold byteCells at hu
   obtain ⟨b, _, rfl⟩ := List.mem_map.1 hu
   rfl)
  unfold byteCells at this ⊢
  rw [List.map_map] at this
  exact this
 exact hsim.add rfl hk ⟨byteCells s, ⟨by rw [byteCells_length, Nat.mul_one], hc2, hc1, .inr ⟨w.heap.size, cur, fr, rfl, hh, hfr, by rw [hsz, Nat.mul_one], by rw [Nat.mul_one]; exact htk⟩⟩, hsim.repsAdd rfl hk hV⟩
end
end Go.Proofs.YtlfklgganokgdaaGreat
