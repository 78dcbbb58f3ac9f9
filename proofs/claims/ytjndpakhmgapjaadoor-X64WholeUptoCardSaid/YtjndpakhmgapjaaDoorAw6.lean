/-
  STRUCTS AND SLICES THAT THE CALL BUILDS; append. Generic: no program is named here.
-/
import Derived.Test.YtjndpakhmgapjaaDoorAw5
import Derived.Deep.Upon
namespace Go.Proofs.YtjndpakhmgapjaaDoor
open Go Go.RowKit
set_option linter.unusedVariables false

/-! ### Filling -/
def fillT (place : Nat → Option (Nat × Nat)) : List T → List (Nat × T) → Option (List T)
  | cs, [] => some cs
  | cs, (i, t) :: r =>
    match place i with
    | none => none
    | some (off, size) => if t.cellish && ((cellsT t).length == size && decide (off + size ≤ cs.length)) then fillT place (cs.take off ++ cellsT t ++ cs.drop (off + size)) r else none

theorem foldl_set (off : Nat) : ∀ (vs : List Value) (j : Nat) (cells : Array Value), off + j + vs.length ≤ cells.size →
    ((vs.zipIdx j).foldl (fun cs (x : Value × Nat) => cs.setIfInBounds (off + x.2) x.1) cells).toList = cells.toList.take (off + j) ++ vs ++ cells.toList.drop (off + j + vs.length)
  | [], j, cells, _ => by simp
  | v :: r, j, cells, h => by
    simp only [List.length_cons] at h
    rw [List.zipIdx_cons, List.foldl_cons, foldl_set off r (j + 1) _ (by simp; omega)]
    simp only [Array.toList_setIfInBounds, List.length_cons]
    have hlen : off + j < cells.toList.length := by simp; omega
    have e1 : (cells.toList.set (off + j) v).take (off + (j + 1)) = cells.toList.take (off + j) ++ [v] := by
      rw [← Nat.add_assoc, List.take_succ_eq_append_getElem (by simpa using hlen)]
      congr 1
      · rw [List.take_set_of_le (Nat.le_refl _)]
      · simp
    have e2 : (cells.toList.set (off + j) v).drop (off + (j + 1) + r.length) = cells.toList.drop (off + j + (r.length + 1)) := by
      rw [List.drop_set_of_lt (by omega)]
      congr 1; omega
    rw [e1, e2]
    simp
theorem fill_spec {w : World} {L : List Nat} {place : Nat → Option (Nat × Nat)} : ∀ (pt : List (Nat × T)) (pv : List (Nat × Value)) (cs cs' : List T) (cells : Array Value), VReps w L cs cells.toList →
    pt.length = pv.length → (∀ (j i : Nat) (t : T) (i' : Nat) (v : Value), pt[j]? = some (i, t) → pv[j]? = some (i', v) → i = i' ∧ VRep w L t v) → fillT place cs pt = some cs' → ∃ cells', Instr.fill place cells pv = some cells' ∧ VReps w L cs' cells'.toList
  | [], [], cs, cs', cells, h, _, _, hf => by
    simp only [fillT, Option.some.injEq] at hf
    subst hf
    exact ⟨cells, rfl, h⟩
  | [], _ :: _, _, _, _, _, hl, _, _ => by simp at hl
  | _ :: _, [], _, _, _, _, hl, _, _ => by simp at hl
  | (i, t) :: pt, (i', v) :: pv, cs, cs', cells, h, hl, hh, hf => by
    obtain ⟨rfl, hv⟩ := hh 0 i t i' v rfl rfl
    simp only [fillT] at hf
    cases hp : place i with
    | none => rw [hp] at hf; cases hf
    | some q =>
      obtain ⟨off, size⟩ := q
      rw [hp] at hf
      simp only at hf
      split at hf
      · rename_i hc
        simp only [Bool.and_eq_true, beq_iff_eq, decide_eq_true_eq] at hc
        obtain ⟨hc1, hc2, hc3⟩ := hc
        have hvc := hv.cells hc1
        have hsz : v.cells.size = size := by
          have := hvc.len
          rw [hc2] at this
          simpa using this.symm
        have hcl : cells.size = cs.length := by
          have := h.len
          simpa using this.symm
        have hfold : (v.cells.zipIdx.foldl (fun cs (x : Value × Nat) => cs.setIfInBounds (off + x.2) x.1) cells).toList = cells.toList.take off ++ v.cells.toList ++ cells.toList.drop (off + size) := by
          have := foldl_set off v.cells.toList 0 cells (by simp [hsz]; omega)
          simp only [Nat.add_zero, Array.length_toList, hsz] at this
          rw [← this, ← Array.foldl_toList]
          simp
        have hV : VReps w L (cs.take off ++ cellsT t ++ cs.drop (off + size)) (v.cells.zipIdx.foldl (fun cs (x : Value × Nat) => cs.setIfInBounds (off + x.2) x.1) cells).toList := by
          rw [hfold]
          exact ((h.take off).append hvc).append (h.drop _)
        obtain ⟨cells', e1, e2⟩ := fill_spec pt pv _ cs' _ hV (by simpa using hl) (fun j a b c d h1 h2 => hh (j + 1) a b c d h1 h2) hf
        refine ⟨cells', ?_, e2⟩
        simp only [Instr.fill, hp]
        rw [if_neg (by rw [hsz, hcl]; simp; omega)]
        exact e1
      · cases hf

section
variable {cx : Cx} {env : Env} {S : St} {o : Oper} {g : Bool} {x y z : Operand} {ops : Array Oper} {l : List Oper} {K : Env → St → Prop} {Q : Exit → Env → St → Prop} {d : Nat}

def EvParts (env : Env) (g : Bool) : List (Nat × Operand) → List (Nat × T) → Prop
  | [], [] => True
  | (i, x) :: r, (j, t) :: r' => i = j ∧ Ev env g x t ∧ EvParts env g r r'
  | _, _ => False
theorem EvParts.spec {a : Act} {w : World} (hs : Sim cx env S a w) (hg : g = true) : ∀ {ps : List (Nat × Operand)} {pt : List (Nat × T)}, EvParts env g ps pt → pt.length = (ps.map fun p => (p.1, a.eval p.2)).length ∧
    ∀ (j i : Nat) (t : T) (i' : Nat) (v : Value), pt[j]? = some (i, t) → (ps.map fun p => (p.1, a.eval p.2))[j]? = some (i', v) → i = i' ∧ VRep w (cx.X ++ M S) t v
  | [], [], _ => ⟨rfl, fun j i t i' v h => by simp at h⟩
  | [], _ :: _, h => h.elim
  | _ :: _, [], h => h.elim
  | (i, x) :: r, (j, t) :: r', h => by
    obtain ⟨rfl, h2, h3⟩ := h
    obtain ⟨e1, e2⟩ := EvParts.spec hs hg h3
    refine ⟨by simpa using e1, fun k a' b c d h4 h5 => ?_⟩
    cases k with
    | zero =>
      simp at h4 h5
      obtain ⟨rfl, rfl⟩ := h4
      obtain ⟨rfl, rfl⟩ := h5
      exact ⟨rfl, h2.rep hs hg⟩
    | succ k => exact e2 k a' b c d (by simpa using h4) (by simpa using h5)

/-- What a struct's or an array's literal is made of: the zero's cells and the places. -/
def builtOf (P : Program) (t : TypeId) (parts : List (Nat × T)) : Option (List T) :=
  match P.info? t, P.underlying t with
  | some it, some (.array _ e) =>
    match it.zero, P.info? e with
    | some z, some ie => if z.cells.toList.all Value.oneCell' then fillT (fun i => some (i * ie.size, ie.size)) (z.cells.toList.map .v) parts else none
    | _, _ => none
  | some it, some (.struct fields) =>
    match it.zero, fields.toList.mapM (fun f => (P.info? f.type).map fun i => (f.offset, i.size)) with
    | some z, some places => if z.cells.toList.all Value.oneCell' then fillT (places.toArray[·]?) (z.cells.toList.map .v) parts else none
    | _, _ => none
  | _, _ => none
theorem built_spec {w : World} {L : List Nat} {P : Program} {t : TypeId} {pt : List (Nat × T)} {pv : List (Nat × Value)} {cs : List T} (hl : pt.length = pv.length)
    (hh : ∀ (j i : Nat) (t : T) (i' : Nat) (v : Value), pt[j]? = some (i, t) → pv[j]? = some (i', v) → i = i' ∧ VRep w L t v) (h : builtOf P t pt = some cs) : ∃ cells, P.built t pv = some cells ∧ VReps w L cs cells.toList := by
  unfold builtOf at h
  unfold Program.built
  split at h
  · rename_i it n e h1 h2
    rw [h1, h2]
    split at h
    · rename_i z ie h3 h4
      simp only [h3, h4]
      split at h
      · rename_i hall
        exact fill_spec pt pv _ cs z.cells (vreps_vals _ fun u hu => List.all_eq_true.1 hall u hu) hl hh h
      · cases h
    · cases h
  · rename_i it fs h1 h2
    rw [h1, h2]
    split at h
    · rename_i z places h3 h4
      simp only [h3, h4]
      split at h
      · rename_i hall
        exact fill_spec pt pv _ cs z.cells (vreps_vals _ fun u hu => List.all_eq_true.1 hall u hu) hl hh h
      · cases h
    · cases h
  · cases h
theorem Yv.build {t : TypeId} {parts : Array (Nat × Operand)} {pt : List (Nat × T)} {cs : List T} (ho : o.op = .build t parts) (hp : EvParts env g parts.toList pt) (h : g = true → builtOf cx.P t pt = some cs) : Yv cx o env S g (.agg cs) := by
  intro a w hs hg
  obtain ⟨e1, e2⟩ := hp.spec hs hg
  obtain ⟨cells, h1, h2⟩ := built_spec e1 e2 (h hg)
  have : cells = cells.toList.toArray := by simp
  refine ⟨.agg cells, by rw [this]; exact .agg h2.len h2.at_ h2.one, fun w' _ => ?_⟩
  have h3 := run_build (P := cx.P) w' t (parts.map fun (i, x) => (i, a.eval x)) cells (by simpa using h1)
  simp only [execOp, ho, Sem.run_bind, h3, Result.andThen_ok, Sem.run_pure]

/-- A slice that nobody writes any more, over a new block. -/
theorem sl_new {w' : World} {L : List Nat} {k n c g' : Nat} {cs : List T} {us : List Value} {cur : Array Value} {e : TypeId} {fr : Nat × Nat} (hk : 0 < k) (hn : cs.length = n * k) (hnc : n ≤ c) (hc : c ≤ maxLen) (hV : VReps w' L cs us) (hh : w'.heap[g']? = some (.cells cur e fr)) (hL : g' ∉ L)
    (hcur : cur.toList.take us.length = us) : VRep w' L (.sl k cs) (.slice (some ⟨g', 0, none⟩) n c) := by
  rcases Nat.eq_zero_or_pos n with h0 | h0
  · subst h0
    have : cs = [] := List.eq_nil_of_length_eq_zero (by simpa using hn)
    subst this
    exact .sl0 hc
  · refine .sl h0 hn hV.len hnc hc (lt_of_heap hh) hL (fun j u hu => ?_) hV.at_ hV.one
    rw [add_lit', Nat.zero_add, cell_of_row w' g' j cur e fr hh]
    rw [← hcur, List.getElem?_take] at hu
    split at hu
    · simpa using hu
    · cases hu
theorem Sim.notNew {a : Act} {w : World} (hs : Sim cx env S a w) : w.heap.size ∉ cx.X ++ M S := fun hm => by
  have := hs.ltX hm
  omega

/-- The element type of a slice type, its cells, its bytes, its zero's cells. -/
def elemOf (P : Program) (t : TypeId) : Option (TypeId × Nat × Nat × List Value) :=
  match P.underlying t with
  | some (.slice e) => match P.info? e with
    | some i => match i.zero with
      | some z => if z.cells.toList.all Value.oneCell' && z.cells.size == i.size then some (e, i.size, i.bytes, z.cells.toList) else none
      | none => none
    | none => none
  | _ => none
theorem elemOf_spec {P : Program} {t e : TypeId} {k b : Nat} {zs : List Value} (h : elemOf P t = some (e, k, b, zs)) : P.underlying t = some (.slice e) ∧ ∃ i z, P.info? e = some i ∧ i.zero = some z ∧ i.size = k ∧ i.bytes = b ∧ z.cells = zs.toArray ∧ zs.length = k ∧ ∀ u ∈ zs, u.oneCell' = true := by
  unfold elemOf at h
  split at h
  · rename_i e' he
    split at h
    · rename_i i hi
      split at h
      · rename_i z hz
        split at h
        · rename_i hc
          simp only [Bool.and_eq_true, beq_iff_eq] at hc
          simp only [Option.some.injEq, Prod.mk.injEq] at h
          obtain ⟨rfl, rfl, rfl, rfl⟩ := h
          exact ⟨he, i, z, hi, hz, rfl, rfl, by simp, by simpa using hc.2, fun u hu => List.all_eq_true.1 hc.1 u hu⟩
        · cases h
      · cases h
    · cases h
  · cases h

theorem rep_range {zs : List Value} {k n : Nat} (hz : zs.length = k) : ((Array.range (n * k)).map (zs.toArray[· % zs.toArray.size]!)).toList = (List.replicate n zs).flatten := by
  subst hz
  induction n with
  | zero => simp
  | succ n ih =>
    rw [List.replicate_succ', List.flatten_append, ← ih]
    apply List.ext_getElem?
    intro j
    simp only [List.flatten_cons, List.flatten_nil, List.append_nil, Array.toList_map, Array.toList_range, List.getElem?_map, List.getElem?_append, List.length_map, List.length_range, List.size_toArray]
    by_cases h1 : j < n * zs.length
    · rw [if_pos h1, List.getElem?_range h1, List.getElem?_range (by rw [Nat.succ_mul]; omega)]
    · rw [if_neg h1]
      by_cases h2 : j < (n + 1) * zs.length
      · rw [List.getElem?_range h2]
        rw [Nat.succ_mul] at h2
        have e : j % zs.length = j - n * zs.length := by
          have hj : j = (j - n * zs.length) + zs.length * n := by rw [Nat.mul_comm zs.length n]; omega
          rw [hj, Nat.add_mul_mod_self_left, Nat.mod_eq_of_lt (by omega)]
          omega
        have hlt : j - n * zs.length < zs.length := by omega
        simp only [Option.map_some]
        rw [e, List.getElem?_eq_getElem hlt]
        simp [hlt]
      · rw [List.getElem?_eq_none (by simpa using h2), List.getElem?_eq_none (by rw [Nat.succ_mul] at h2; omega)]
        rfl
end
end Go.Proofs.YtjndpakhmgapjaaDoor
