/-
  OPERATIONS THAT MAKE OR WRITE MEMORY, AND CALLS, said of symbolic states; the contract of a function. Generic: no program is named here.
-/
import Derived.Test.YtjndpakhmgapjaaDoorAw4
namespace Go.Proofs.YtjndpakhmgapjaaDoor
open Go Go.RowKit
set_option linter.unusedVariables false

theorem M_append (S S' : St) : M (S ++ S') = M S ++ M S' := by simp [M, List.filterMap_append]
theorem M_one {e : Ent} {b : Nat} (h : e.blk = some b) : M [e] = [b] := by simp [M, h]

/-- The cells of a value, as trees. -/
def cellsT : T → List T
  | .agg l => l
  | t => [t]
/-- A tree of one cell. -/
def T.one : T → Bool
  | .v x => x.oneCell'
  | .agg _ => false
  | .tup _ => false
  | _ => true
def T.cellish : T → Bool
  | .agg _ => true
  | t => t.one
theorem VRep.one {w : World} {L : List Nat} {t : T} {u : Value} (h : VRep w L t u) (h1 : t.one = true) : u.oneCell' = true := by
  cases h <;> first | exact h1 | rfl | cases h1
theorem cells_of_one {u : Value} (h : u.oneCell' = true) : u.cells = #[u] := by
  cases u <;> first | rfl | (simp [Value.oneCell'] at h)
theorem VRep.cells {w : World} {L : List Nat} {t : T} {u : Value} (h : VRep w L t u) (hc : t.cellish = true) : VReps w L (cellsT t) u.cells.toList := by
  have key : t.one = true → cellsT t = [t] → VReps w L (cellsT t) u.cells.toList := fun h1 h2 => by
    rw [h2, cells_of_one (h.one h1)]
    exact .cons h (h.one h1) .nil
  cases h with
  | agg hl hh h1 => exact ⟨by simpa [cellsT, Value.cells] using hl, by simpa [cellsT, Value.cells] using hh, by simpa [Value.cells] using h1⟩
  | v x => exact key hc rfl
  | tup _ _ => cases hc
  | sl0 _ => exact key hc rfl
  | sl _ _ _ _ _ _ _ _ _ _ => exact key hc rfl
  | rp _ _ _ _ _ _ => exact key hc rfl
  | ep => exact key hc rfl
  | sp _ _ _ _ _ _ _ _ _ _ => exact key hc rfl

section
variable {cx : Cx} {env : Env} {S : St} {o : Oper} {g : Bool} {x y z : Operand} {ops : Array Oper} {l : List Oper} {K : Env → St → Prop} {Q : Exit → Env → St → Prop} {d : Nat}

/-- A new block with an entry of its own. -/
theorem Sim.add {a : Act} {w : World} (hs : Sim cx env S a w) {w' : World} {e : Ent} (hb : e.blk = some w.heap.size) (hk : Keeps [] w w') (he : e.holds w' (cx.X ++ M (S ++ [e]))) : Sim cx env (S ++ [e]) a w' := by
  have hM : M (S ++ [e]) = M S ++ [w.heap.size] := by rw [M_append, M_one hb]
  have hfr : ∀ b ∈ M (S ++ [e]), b ∈ M S ∨ w.heap.size ≤ b := fun b hb => by
    rw [hM] at hb
    rcases List.mem_append.1 hb with hb | hb
    · exact .inl hb
    · rw [List.mem_singleton] at hb; exact .inr (Nat.le_of_eq hb.symm)
  have hnd : (M (S ++ [e])).Nodup := by
    rw [hM, List.nodup_append]
    refine ⟨hs.nd, by simp, fun p hp q hq => ?_⟩
    rw [List.mem_singleton] at hq
    have := hs.lt hp
    omega
  refine hs.step (hk.mono (by simp)) hnd hfr (fun e' he' => ?_)
  rcases List.mem_append.1 he' with h1 | h1
  · exact hs.ent (hk.mono (by simp)) hfr h1 (fun b hb' => hk.block b (hs.lt (mem_M.2 ⟨e', h1, hb'⟩)) (by simp))
  · rw [List.mem_singleton] at h1; subst h1; exact he
/-- Trees stay when a new block becomes one of the call's own. -/
theorem Sim.repsAdd {a : Act} {w : World} (hs : Sim cx env S a w) {w' : World} {e : Ent} (hb : e.blk = some w.heap.size) (hk : Keeps [] w w') {cs : List T} {us : List Value} (h : VReps w (cx.X ++ M S) cs us) : VReps w' (cx.X ++ M (S ++ [e])) cs us :=
  h.mono hk.size (fun b hb _ => hk.block b hb (by simp)) (fun b hb' hm => by
    rw [M_append, M_one hb, ← List.append_assoc] at hm
    rcases List.mem_append.1 hm with hm | hm
    · exact hm
    · rw [List.mem_singleton] at hm; omega)
/-- The world gains blocks that are nobody's. -/
theorem Sim.more {a : Act} {w : World} (hs : Sim cx env S a w) {w' : World} (hk : Keeps [] w w') : Sim cx env S a w' :=
  hs.step (hk.mono (by simp)) hs.nd (fun b hb => .inl hb) (fun e he => hs.ent (hk.mono (by simp)) (fun b hb => .inl hb) he (fun b hb => hk.block b (hs.lt (mem_M.2 ⟨e, he, hb⟩)) (by simp)))
theorem Sim.repMore {a : Act} {w : World} (hs : Sim cx env S a w) {w' : World} (hk : Keeps [] w w') {t : T} {u : Value} (h : VRep w (cx.X ++ M S) t u) : VRep w' (cx.X ++ M S) t u :=
  h.mono hk.size (fun b hb _ => hk.block b hb (by simp)) (fun b _ hm => hm)

/-- An operation that turns the world. -/
theorem AWL.eff (hg : o.guard = none) (hd : o.dst = some d) (hN : d < cx.N)
    (h : ∀ a w, Sim cx env S a w → ∃ u w' t S', (execOp a.eval o).run cx.P w = .ok (.value u) w' ∧ Sim cx env S' a w' ∧ VRep w' (cx.X ++ M S') t u ∧ AWL cx ops l K ((d, true, t) :: env) S') : AWL cx ops (o :: l) K env S := by
  intro a w hs
  unfold wpList
  rw [if_pos (wanted_none hg)]
  obtain ⟨u, w', t, S', h1, h2, h3, h4⟩ := h a w hs
  refine .inl ?_
  unfold Oper.wp
  rw [h1, Oper.upon_value, hd]
  exact h4 _ _ (h2.put hN (fun _ => h3) (by simp))
/-- An operation that yields nothing. -/
theorem AWL.eff0 (hg : o.guard = none) (hd : o.dst = none)
    (h : ∀ a w, Sim cx env S a w → ∃ w' S', (execOp a.eval o).run cx.P w = .ok .skip w' ∧ Sim cx env S' a w' ∧ AWL cx ops l K env S') : AWL cx ops (o :: l) K env S := by
  intro a w hs
  unfold wpList
  rw [if_pos (wanted_none hg)]
  obtain ⟨w', S', h1, h2, h4⟩ := h a w hs
  refine .inl ?_
  unfold Oper.wp
  rw [h1, Oper.upon_skip, hd]
  exact h4 _ _ (h2.putNone _)

theorem box_holds {w : World} {ty : TypeId} {us : List Value} : (w.alloc (.cells us.toArray ty)).heap[w.heap.size]? = some (.cells us.toArray ty (0, 0)) := heap_alloc_new w _
theorem keeps_alloc (w : World) (o : Obj) : Keeps [] w (w.alloc o) := Keeps.alloc [] w o

/-- A new box. -/
theorem AWL.boxOp {elem : TypeId} {t : T} (hg : o.guard = none) (hd : o.dst = some d) (hN : d < cx.N) (ho : o.op = .box elem x) (hx : Ev env true x t) (hc : t.cellish = true)
    (hr : ∀ b, AWL cx ops l K ((d, true, .v (.pointer (some ⟨b, 0, none⟩))) :: env) (S ++ [.box b elem (cellsT t)])) : AWL cx ops (o :: l) K env S := by
  refine AWL.eff hg hd hN fun a w hs => ?_
  have hv := (hx.rep hs rfl).cells hc
  have hk := keeps_alloc w (.cells (a.eval x).cells elem)
  refine ⟨_, w.alloc (.cells (a.eval x).cells elem), _, _, ?_, ?_, .v _, hr w.heap.size⟩
  · simp [execOp, ho, Instr.box, newVar, newRow, Sem.run_bind, Sem.run_pure, run_newObj]
  · refine hs.add rfl hk ⟨(a.eval x).cells.toList, ?_, hs.repsAdd rfl hk hv⟩
    simpa using heap_alloc_new w _

/-- The cells of a type's zero value. -/
def zeroCellsOf (P : Program) (t : TypeId) : Option (List Value) :=
  match P.info? t with
  | some i => match i.zero with
    | some z => if z.cells.toList.all Value.oneCell' then some z.cells.toList else none
    | none => none
  | none => none
theorem zeroCellsOf_spec {P : Program} {t : TypeId} {zs : List Value} (h : zeroCellsOf P t = some zs) : ∃ i z, P.info? t = some i ∧ i.zero = some z ∧ z.cells = zs.toArray ∧ (∀ u ∈ zs, u.oneCell' = true) := by
  unfold zeroCellsOf at h
  split at h
  · rename_i i hi
    split at h
    · rename_i z hz
      split at h
      · rename_i hall
        simp only [Option.some.injEq] at h
        subst h
        exact ⟨i, z, hi, hz, by simp, fun u hu => List.all_eq_true.1 hall u hu⟩
      · cases h
    · cases h
  · cases h
theorem vreps_vals {w : World} {L : List Nat} (zs : List Value) (h : ∀ u ∈ zs, u.oneCell' = true) : VReps w L (zs.map .v) zs := by
  refine ⟨by simp, fun j t u h1 h2 => ?_, h⟩
  rw [List.getElem?_map, h2] at h1
  simp only [Option.map_some, Option.some.injEq] at h1
  subst h1
  exact .v u
theorem AWL.allocOp {elem : TypeId} {zs : List Value} (hg : o.guard = none) (hd : o.dst = some d) (hN : d < cx.N) (ho : o.op = .alloc elem) (hz : zeroCellsOf cx.P elem = some zs)
    (hr : ∀ b, AWL cx ops l K ((d, true, .v (.pointer (some ⟨b, 0, none⟩))) :: env) (S ++ [.box b elem (zs.map .v)])) : AWL cx ops (o :: l) K env S := by
  refine AWL.eff hg hd hN fun a w hs => ?_
  obtain ⟨i, z, h1, h2, h3, h4⟩ := zeroCellsOf_spec hz
  have hk := keeps_alloc w (.cells zs.toArray elem)
  refine ⟨_, w.alloc (.cells zs.toArray elem), _, _, ?_, ?_, .v _, hr w.heap.size⟩
  · simp [execOp, ho, Instr.alloc, zeroValue, typeInfo, h1, h2, newVar, h3, newRow, Sem.run_bind, Sem.run_pure, run_newObj]
  · exact hs.add rfl hk ⟨zs, heap_alloc_new w _, hs.repsAdd rfl hk (vreps_vals zs h4)⟩

theorem nodup_absurd {S : St} {i j b : Nat} (hij : i ≠ j) (hi : i < S.length) (hj : j < S.length) (h1 : S[i].blk = some b) (h2 : S[j].blk = some b) : ¬ (M S).Nodup := by
  intro hnd
  have key : ∀ {p q : Nat} (hq : q < S.length) (hpq : p < q), S[p].blk = some b → S[q].blk = some b → False := by
    intro p q hq hpq e1 e2
    have hS : S = S.take q ++ S.drop q := (List.take_append_drop q S).symm
    have hn : (M (S.take q) ++ M (S.drop q)).Nodup := by rw [← M_append, ← hS]; exact hnd
    rw [List.nodup_append] at hn
    refine hn.2.2 b (mem_M.2 ⟨S[p], ?_, e1⟩) b (mem_M.2 ⟨S[q], ?_, e2⟩) rfl
    · rw [List.mem_take_iff_getElem]
      exact ⟨p, by omega, rfl⟩
    · rw [List.drop_eq_getElem_cons hq]
      exact List.mem_cons_self
  rcases Nat.lt_or_gt_of_ne hij with h | h
  · exact key hj h h1 h2
  · exact key hi h h2 h1
/-- One entry turns, its block stays its own. -/
theorem Sim.setEnt {a : Act} {w : World} (hs : Sim cx env S a w) {w' : World} {i : Nat} {e e' : Ent} (hi : S[i]? = some e) (hb : e'.blk = e.blk) (hk : ∀ b, b < w.heap.size → e.blk ≠ some b → w'.heap[b]? = w.heap[b]?) (hsz : w'.heap.size = w.heap.size) (hos : w'.os = w.os) (htp : w'.tape = w.tape) (hou : w'.output = w.output)
    (he : e'.holds w' (cx.X ++ M S)) : Sim cx env (S.set i e') a w' := by
  have hil : i < S.length := (List.getElem?_eq_some_iff.1 hi).1
  have hM : M (S.set i e') = M S := by
    unfold M
    have : S.set i e' = S.take i ++ e' :: S.drop (i + 1) := List.set_eq_take_append_cons_drop.trans (by rw [if_pos hil])
    rw [this]
    conv => rhs; rw [← List.take_append_drop i S, List.drop_eq_getElem_cons hil]
    have hS : S[i] = e := by
      rw [List.getElem?_eq_getElem hil] at hi
      exact Option.some.inj hi
    simp [List.filterMap_append, List.filterMap_cons, hb, hS]
  have hkeep : Keeps (M S) w w' := ⟨hos, htp, hou, Nat.le_of_eq hsz.symm, fun b hb' hm => hk b hb' (fun h => hm (mem_M.2 ⟨e, List.mem_of_getElem? hi, h⟩))⟩
  refine hs.step hkeep (by rw [hM]; exact hs.nd) (fun b hb' => .inl (hM ▸ hb')) (fun f hf => ?_)
  rw [hM]
  obtain ⟨j, hj, hfj⟩ := List.getElem_of_mem hf
  rw [List.length_set] at hj
  rw [List.getElem_set] at hfj
  by_cases hij : i = j
  · rw [if_pos hij] at hfj; subst hfj; exact he
  · rw [if_neg hij] at hfj
    subst hfj
    have hfM := hs.ent (S' := S) hkeep (fun b hb' => .inl hb') (List.getElem_mem hj) (fun b hb' => hk b (hs.lt (mem_M.2 ⟨_, List.getElem_mem hj, hb'⟩)) (fun heb => ?_))
    · exact hfM
    · -- two entries with one block
      have hS : S[i] = e := by
        rw [List.getElem?_eq_getElem hil] at hi
        exact Option.some.inj hi
      have h2 : S[i].blk = some b := by rw [hS]; exact heb
      exact absurd hs.nd (nodup_absurd hij hil hj h2 hb')
theorem setRow_heap_same {w : World} {g : Nat} {cs : Array Value} {cur : Array Value} {ty : TypeId} {fr : Nat × Nat} (h : w.heap[g]? = some (.cells cur ty fr)) : (w.setRow g cs).heap[g]? = some (.cells cs ty fr) := by
  simp [World.setRow, Array.getElem?_modify, h]
theorem setRow_heap_other {w : World} {g k : Nat} {cs : Array Value} (h : k ≠ g) : (w.setRow g cs).heap[k]? = w.heap[k]? := by
  simp [World.setRow, Array.getElem?_modify, Ne.symm h]
/-- A store into a box. -/
theorem AWL.storeBox {t ty : TypeId} {n p i b : Nat} {f : Bool} {cs : List T} {r : T} (hg : o.guard = none) (hd : o.dst = none) (ho : o.op = .store t x y) (h : aggSize cx.P t = some (f, n)) (hi : S[i]? = some (.box b ty cs))
    (hx : Ev env true x (.v (.pointer (some ⟨b, p, none⟩)))) (hy : Ev env true y r) (hc : r.cellish = true) (hn : (cellsT r).length = n) (hp : p + n ≤ cs.length)
    (hr : AWL cx ops l K env (S.set i (.box b ty (cs.take p ++ cellsT r ++ cs.drop (p + n))))) : AWL cx ops (o :: l) K env S := by
  refine AWL.eff0 hg hd fun a w hs => ?_
  have hv := (hy.rep hs rfl).cells hc
  obtain ⟨us, hh, hV⟩ := hs.box hi
  have hlen : (a.eval y).cells.toList.length = n := by rw [← hv.len, hn]
  have hus : us.length = cs.length := hV.len.symm
  have hst := run_storeCells_at (P := cx.P) b p ty (a.eval y).cells.toList 0 us.toArray w hh (by rw [hlen]; simpa [hus] using hp) hv.one
  simp only [Nat.add_zero, hlen] at hst
  have hst' : (storeCells ⟨b, p, none⟩ (a.eval y).cells.toList 0).run cx.P w = .ok () (w.setRow b (us.take p ++ (a.eval y).cells.toList ++ us.drop (p + n)).toArray) := by simpa using hst
  refine ⟨w.setRow b (us.take p ++ (a.eval y).cells.toList ++ us.drop (p + n)).toArray, _, ?_, ?_, hr⟩
  · have hsz : (a.eval y).cells.size = n := by simpa using hlen
    simp [execOp, ho, hx.val hs rfl, Instr.storeAt, Instr.sureAddr, storeVar, (aggSize_spec h w).2, hsz, Sem.run_bind, Sem.run_pure, hst']
  · have hk : ∀ k, k < w.heap.size → (Ent.box b ty cs).blk ≠ some k → (w.setRow b (us.take p ++ (a.eval y).cells.toList ++ us.drop (p + n)).toArray).heap[k]? = w.heap[k]? := fun k _ hne => setRow_heap_other (fun e => hne (by rw [e]; rfl))
    refine hs.setEnt hi rfl hk (by simp [World.setRow]) rfl rfl rfl ⟨_, setRow_heap_same hh, ?_⟩
    have hV' := (((hV.take p).append hv).append (hV.drop (p + n)))
    have hbM : b ∈ cx.X ++ M S := List.mem_append.2 (.inr (mem_M.2 ⟨_, List.mem_of_getElem? hi, rfl⟩))
    exact hV'.mono (by simp [World.setRow]) (fun k hk' hm => setRow_heap_other (fun e => hm (e ▸ hbM))) (fun _ _ hm => hm)
end
end Go.Proofs.YtjndpakhmgapjaaDoor
