/-
  WHAT A CALL HANDS BACK TO ITS OWNER: rows that may be written to; looked at as trees; images in rows of their owner's.
-/
import Derived.Test.YtckkcncgglfbbaaFull
namespace Go.Proofs.Ytckkcncgglfbbaa
open Go Go.RowKit
set_option linter.unusedSectionVars false
section
variable {cx : Cx} {env : Env} {S : St} {o : Oper} {g : Bool} {x y z : Operand} {ops : Array Oper} {l : List Oper} {K : Env → St → Prop} {Q : Exit → Env → St → Prop} {d : Nat}
/-! ### arguments seen as trees for one call that writes nothing -/
def Sees (cx : Cx) (env : Env) (S : St) (g : Bool) (x : Operand) (t : T) : Prop := ∀ a w, Sim cx env S a w → g = true → VRep w [] t (a.eval x)
def Seens (cx : Cx) (env : Env) (S : St) (g : Bool) : List Operand → List T → Prop
  | [], [] => True
  | x :: r, t :: r' => Sees cx env S g x t ∧ Seens cx env S g r r'
  | _, _ => False
theorem Sees.ev {t : T} (h : Ev env g x t) : Sees cx env S g x t := fun a w hs hg => (h.rep hs hg).mono (Nat.le_refl _) (fun _ _ _ => rfl) (fun _ _ hm => by cases hm)
theorem Seens.two {t u : T} (h1 : Sees cx env S g x t) (h2 : Sees cx env S g y u) : Seens cx env S g [x, y] [t, u] := ⟨h1, h2, trivial⟩
theorem Seens.spec {a : Act} {w : World} (hs : Sim cx env S a w) (hg : g = true) : ∀ {xs : List Operand} {ts : List T}, Seens cx env S g xs ts → (xs.map a.eval).length = ts.length ∧ ∀ (j : Nat) (t : T) (u : Value), ts[j]? = some t → (xs.map a.eval)[j]? = some u → VRep w [] t u
  | [], [], _ => ⟨rfl, fun j t u h => by simp at h⟩
  | [], _ :: _, h => h.elim
  | _ :: _, [], h => h.elim
  | x :: r, t :: r', h => by
    obtain ⟨h1, h2⟩ := Seens.spec hs hg h.2
    refine ⟨by simp at h1 ⊢; exact h1, fun j t' u e1 e2 => ?_⟩
    cases j with
    | zero =>
      simp only [List.map_cons, List.getElem?_cons_zero, Option.some.injEq] at e1 e2
      subst e1; subst e2
      exact h.1 a w hs hg
    | succ j => exact h2 j t' u (by simpa using e1) (by simpa using e2)
theorem call_sees {f : FuncId} {xf : Operand} {xs : Array Operand} {ats : Array TypeId} {fst cap : Array Value} {ts : List T} {R : T → St → Prop} {r : Value} (ho : o.op = .call { callee := .value xf, args := xs, argTypes := ats }) (hf : calleeB cx.P f = true)
    (hxf : Ev env g xf (.v (.func (.func f) fst cap))) (hx : Seens cx env S g xs.toList ts) (hc : g = true → ACalls cx.P f (fst.toList.map T.v ++ (ts ++ cap.toList.map T.v)) [] R) (hq : ∀ t S', R t S' → t = .v r) {a : Act} {w : World} (hs : Sim cx env S a w) (hgt : g = true) (w1 : World) (hk1 : Keeps [] w w1) :
    ∃ args, (execOp a.eval o).run cx.P w1 = .ok (.enter f args) w1 ∧ Calls cx.P f args w1 fun e w'' => e = .returned r ∧ Keeps [] w w'' := by
  refine ⟨_, exec_call ho hf (hxf.val hs hgt) w1, ?_⟩
  have hs1 := hs.more hk1
  obtain ⟨e1, e2⟩ := Seens.spec hs1 hgt hx
  obtain ⟨v1, v2⟩ := vals_spec (w := w1) (L := []) (fst := fst.toList) (cap := cap.toList) e1 e2
  refine (hc hgt [] w1 _ (fun b hb => by cases hb) (by simp [M]) (fun e he => by cases he) v1 (fun j t u h1 h2 => by simpa [M] using v2 j t u h1 h2)).mono ?_
  rintro e w' ⟨v, t, S', rfl, hk, hnd, hfr, hent, hv, hR⟩
  obtain rfl := hq t S' hR
  exact ⟨by rw [hv.v_inv], hk1.trans hk (by simp [M])⟩
theorem AWQ.callSees {f : FuncId} {xf : Operand} {xs : Array Operand} {ats : Array TypeId} {fst cap : Array Value} {ts : List T} {R : T → St → Prop} {r : Value} {j dj : Nat} {c b want : Bool} (hg : o.guard = some (j, want)) (hj : (ops[j]?).bind (·.dst) = some dj) (hk : get dj env = some (c, .v (.bool b)))
    (hd : o.dst = some d) (hN : d < cx.N) (ho : o.op = .call { callee := .value xf, args := xs, argTypes := ats }) (hf : calleeB cx.P f = true) (hxf : Ev env (c && (b == want)) xf (.v (.func (.func f) fst cap))) (hx : Seens cx env S (c && (b == want)) xs.toList ts)
    (hc : (c && (b == want)) = true → ACalls cx.P f (fst.toList.map T.v ++ (ts ++ cap.toList.map T.v)) [] R) (hq : ∀ t S', R t S' → t = .v r) (hr : AWQ cx ops l K ((d, (c && (b == want)), .v r) :: env) S) : AWQ cx ops (o :: l) K env S := by
  intro a w hs
  unfold wpQuiet
  rw [hs.guard hg hj hk]
  cases hcc : (c && (b == want)) with
  | true =>
    rw [if_pos rfl]
    refine ⟨r, fun w' hw' => ?_, by rw [hd]; exact hr _ _ (hs.put hN (fun _ => .v r) (fun e => by rw [hcc] at e; cases e))⟩
    obtain ⟨args, h1, h2⟩ := call_sees (g := c && (b == want)) ho hf hxf hx hc hq hs hcc w' hw'
    unfold Oper.quietAt
    rw [h1]
    exact ⟨rfl, h2⟩
  | false =>
    rw [if_neg (by simp), hd]
    exact hr _ _ (hs.put hN (fun e => by rw [hcc] at e; cases e) (fun _ => rfl))
theorem AWQ.callSeesF {f : FuncId} {xf : Operand} {xs : Array Operand} {ats : Array TypeId} {fst cap : Array Value} {ts : List T} {R : T → St → Prop} {r : Value} {j dj : Nat} {c b : Bool} (hg : o.guard = some (j, false)) (hj : (ops[j]?).bind (·.dst) = some dj) (hk : get dj env = some (c, .v (.bool b)))
    (hd : o.dst = some d) (hN : d < cx.N) (ho : o.op = .call { callee := .value xf, args := xs, argTypes := ats }) (hf : calleeB cx.P f = true) (hxf : Ev env (c && !b) xf (.v (.func (.func f) fst cap))) (hx : Seens cx env S (c && !b) xs.toList ts)
    (hc : (c && !b) = true → ACalls cx.P f (fst.toList.map T.v ++ (ts ++ cap.toList.map T.v)) [] R) (hq : ∀ t S', R t S' → t = .v r) (hr : AWQ cx ops l K ((d, (c && !b), .v r) :: env) S) : AWQ cx ops (o :: l) K env S := by
  have e : (c && (b == false)) = (c && !b) := by cases b <;> rfl
  exact AWQ.callSees hg hj hk hd hN ho hf (e ▸ hxf) (e ▸ hx) (fun h => hc (e ▸ h)) hq (e ▸ hr)
/-! ### a row up to what it can hold -/
theorem Yv.capV {ty e : TypeId} {A : Option Addr} {n c : Nat} (ho : o.op = .call { callee := .builtin .cap, args := #[x], argTypes := #[ty] }) (ht : sliceOf cx.P ty = some e) (hx : Ev env g x (.v (.slice A n c))) : Yv cx o env S g (.v (.int .i64 (c : Int))) :=
  Yv.plain fun a w hs hg w' => by
    simp [execOp, ho, resolve, invoke, builtin, hx.val hs hg, Builtin.cap_, Sem.run_bind, Sem.run_pure, run_underlying (sliceOf_spec ht), goInt]
/-- A place of a row, by a slice of all that it can hold. -/
theorem Yv.indexCap {t e e' : TypeId} {k j i n c : Nat} {kd : IntKind} {p : Int} {A : Option Addr} {cs : List T} (ho : o.op = .indexAddr t x y) (h : sliceSz cx.P t = some (e, k)) (hi : S[i]? = some (.row A n c e' k cs)) (hy : Ev env g y (.v (.int kd p))) (hx : Ev env g x (.v (.slice A c c))) (hj : g = true → p = (j : Int) ∧ j < c) : Yv cx o env S g (.ep (.slice A c c) (j * k)) := by
  intro a w hs hg
  have hv := hx.val hs hg
  obtain ⟨rfl, hjl⟩ := hj hg
  obtain ⟨us, hr, _⟩ := hs.row hi
  rcases hr.2.2.2 with ⟨_, _, h0⟩ | ⟨gb, cur, fr, rfl, _⟩
  · omega
  · refine ⟨_, .ep, fun w' _ => ?_⟩
    have := exec_indexAddr ho h hv (hy.val hs hg) hjl w'
    rw [add_lit', Nat.zero_add] at this
    exact this
theorem RowIs.over {w : World} {e : TypeId} {size n c gb : Nat} {us vs : List Value} {P : Program} (h : RowIs w e size (Option.some ⟨gb, 0, none⟩) n c us) (h1 : ∀ u ∈ vs, u.oneCell' = true) {p : Nat} (hp : p + vs.length ≤ c * size) (hlo : us.length ≤ p) :
    (storeCells ⟨gb, p, none⟩ vs 0).run P w = .ok () (w.setCells gb p vs) ∧ RowIs (w.setCells gb p vs) e size (Option.some ⟨gb, 0, none⟩) n c us := by
  obtain ⟨r1, r2, r3, r4⟩ := h
  rcases r4 with ⟨h0, _⟩ | ⟨g', cur, fr, hA, hh, hfr, hsz, htk⟩
  · cases h0
  · simp only [Option.some.injEq, Addr.mk.injEq, and_true] at hA
    subst hA
    have hcell : ∀ j, j < vs.length → (w.cell? ⟨gb, p + 0 + j, none⟩).isSome = true := fun j hj => by
      rw [cell_of_row w gb _ cur e fr hh, Array.getElem?_eq_getElem (by omega)]
      rfl
    have hfro : ∀ j, j < vs.length → w.frozen? ⟨gb, p + 0 + j, none⟩ = false := fun j hj => by
      obtain ⟨lo, hi'⟩ := fr
      simp only [World.frozen?, hh]
      simp only at hfr
      rcases hfr with h | h <;> (simp; intro h'; omega)
    have hst := run_storeCells_cells (P := P) gb p vs 0 w hcell hfro h1
    obtain ⟨cur', c1, c2⟩ := setCells_heap gb vs p w cur hh (by omega)
    have hsz' : cur'.size = cur.size := by
      have := congrArg List.length c2
      simp at this
      omega
    refine ⟨by simpa using hst, r1, r2, r3, .inr ⟨gb, cur', fr, rfl, c1, by rw [hsz']; exact hfr, by rw [hsz', hsz], ?_⟩⟩
    rw [c2, List.append_assoc, List.take_append_of_le_length (by rw [List.length_take, Array.length_toList]; omega), List.take_take, Nat.min_eq_left (by omega), htk]
/-- A store into a row, or behind what it shows; what it then shows is not told. -/
theorem AWL.storeCap {t e : TypeId} {m p i n c size : Nat} {f : Bool} {A : Option Addr} {cs : List T} {r : T} (hg : o.guard = none) (hd : o.dst = none) (ho : o.op = .store t x y) (h : aggSize cx.P t = some (f, m)) (hi : S[i]? = some (.row A n c e size cs))
    (hx : Ev env true x (.ep (.slice A c c) p)) (hy : Ev env true y r) (hc : r.cellish = true) (hn : (cellsT r).length = m) (hm : 0 < m) (hp : p + m ≤ c * size) (hq : p + m ≤ n * size ∨ n * size ≤ p)
    (hr : ∀ cs', cs'.length = cs.length → AWL cx ops l K env (S.set i (.row A n c e size cs'))) : AWL cx ops (o :: l) K env S := by
  refine AWL.eff0 hg hd fun a w hs => ?_
  have hv := (hy.rep hs rfl).cells hc
  obtain ⟨us, hrow, hV⟩ := hs.row hi
  have hus : us.length = cs.length := hV.len.symm
  have hul : us.length = n * size := hrow.1
  have hlen : (a.eval y).cells.toList.length = m := by rw [← hv.len, hn]
  have hsz : (a.eval y).cells.size = m := by simpa using hlen
  obtain ⟨gb, rfl⟩ : ∃ gb, A = some ⟨gb, 0, none⟩ := by
    rcases hrow.2.2.2 with ⟨_, _, h0⟩ | ⟨gb, _, _, h, _⟩
    · subst h0; simp at hp; omega
    · exact ⟨gb, h⟩
  have hxv := hx.rep hs rfl
  generalize hux : a.eval x = ux at hxv
  cases hxv with
  | ep =>
    rcases hq with hq | hq
    · obtain ⟨hst, hrow'⟩ := hrow.write (P := cx.P) hv.one (p := p) (by rw [hlen]; omega)
      have hsim := hs.wrote hi hV hv hrow'
      rw [hn] at hsim
      refine ⟨_, _, ?_, hsim, hr _ ?_⟩
      · simp [execOp, ho, hux, Instr.storeAt, Instr.sureAddr, storeVar, (aggSize_spec h w).2, hsz, Sem.run_bind, Sem.run_pure, hst]
      · simp only [List.length_append, List.length_take, List.length_drop, hn]; omega
    · obtain ⟨hst, hrow'⟩ := hrow.over (P := cx.P) hv.one (p := p) (by rw [hlen]; exact hp) (hul ▸ hq)
      obtain ⟨s1, s2, s3, s4, s5⟩ := setCells_rest gb (a.eval y).cells.toList p w
      have hkk : ∀ b, b < w.heap.size → (Ent.row (some ⟨gb, 0, none⟩) n c e size cs).blk ≠ some b → (w.setCells gb p (a.eval y).cells.toList).heap[b]? = w.heap[b]? := fun b _ hne => s5 b (fun e => hne (by subst e; rfl))
      have hsim := hs.swap hi (e' := .row (some ⟨gb, 0, none⟩) n c e size cs) (fun b hb => .inl hb) hkk (Nat.le_of_eq s1.symm) s2 s3 s4 (fun L hL => ⟨us, hrow', hV.mono (Nat.le_of_eq s1.symm) (fun b hlt hm => s5 b (fun h => hm (List.mem_append.2 (.inr (mem_M.2 ⟨_, List.mem_of_getElem? hi, by subst h; rfl⟩))))) hL⟩)
      refine ⟨_, _, ?_, hsim, hr cs rfl⟩
      simp [execOp, ho, hux, Instr.storeAt, Instr.sureAddr, storeVar, (aggSize_spec h w).2, hsz, Sem.run_bind, Sem.run_pure, hst]
end
section
variable {cx : Cx} {env : Env} {S : St} {o : Oper} {g : Bool} {x y z : Operand} {ops : Array Oper} {l : List Oper} {K : Env → St → Prop} {d : Nat}
theorem Seens.one {t : T} (h1 : Sees cx env S g x t) : Seens cx env S g [x] [t] := ⟨h1, trivial⟩
theorem AWL.callSees {f : FuncId} {xf : Operand} {xs : Array Operand} {ats : Array TypeId} {fst cap : Array Value} {ts : List T} {R : T → St → Prop} {r : Value} (hg : o.guard = none) (hd : o.dst = some d) (hN : d < cx.N)
    (ho : o.op = .call { callee := .value xf, args := xs, argTypes := ats }) (hf : calleeB cx.P f = true) (hxf : Ev env true xf (.v (.func (.func f) fst cap))) (hx : Seens cx env S true xs.toList ts)
    (hc : ACalls cx.P f (fst.toList.map T.v ++ (ts ++ cap.toList.map T.v)) [] R) (hq : ∀ t S', R t S' → t = .v r) (hr : AWL cx ops l K ((d, true, .v r) :: env) S) : AWL cx ops (o :: l) K env S := by
  intro a w hs
  unfold wpList
  rw [if_pos (wanted_none hg)]
  refine .inl ?_
  unfold Oper.wp
  obtain ⟨args, h1, h2⟩ := call_sees (g := true) ho hf hxf hx (fun _ => hc) hq hs rfl w (Keeps.refl _ _)
  rw [h1, Oper.upon_enter, hd]
  refine h2.mono ?_
  rintro e w' ⟨rfl, hk⟩
  exact hr _ _ ((hs.more hk).put hN (fun _ => .v r) (by simp))
theorem AWL.callSeesg {f : FuncId} {xf : Operand} {xs : Array Operand} {ats : Array TypeId} {fst cap : Array Value} {ts : List T} {R : T → St → Prop} {r : Value} {j dj : Nat} {c b want : Bool} (hg : o.guard = some (j, want)) (hj : (ops[j]?).bind (·.dst) = some dj) (hk : get dj env = some (c, .v (.bool b)))
    (hd : o.dst = some d) (hN : d < cx.N) (ho : o.op = .call { callee := .value xf, args := xs, argTypes := ats }) (hf : calleeB cx.P f = true) (hxf : Ev env (c && (b == want)) xf (.v (.func (.func f) fst cap))) (hx : Seens cx env S (c && (b == want)) xs.toList ts)
    (hc : (c && (b == want)) = true → ACalls cx.P f (fst.toList.map T.v ++ (ts ++ cap.toList.map T.v)) [] R) (hq : ∀ t S', R t S' → t = .v r) (hr : AWL cx ops l K ((d, (c && (b == want)), .v r) :: env) S) : AWL cx ops (o :: l) K env S := by
  intro a w hs
  unfold wpList
  rw [hs.guard hg hj hk]
  cases hcc : (c && (b == want)) with
  | true =>
    rw [if_pos rfl]
    refine .inl ?_
    unfold Oper.wp
    obtain ⟨args, h1, h2⟩ := call_sees (g := c && (b == want)) ho hf hxf hx hc hq hs hcc w (Keeps.refl _ _)
    rw [h1, Oper.upon_enter, hd]
    refine h2.mono ?_
    rintro e w' ⟨rfl, hk⟩
    exact hr _ _ ((hs.more hk).put hN (fun _ => .v r) (fun e => by rw [hcc] at e; cases e))
  | false =>
    rw [if_neg (by simp), hd]
    exact hr _ _ (hs.put hN (fun e => by rw [hcc] at e; cases e) (fun _ => rfl))
theorem AWL.callSeesF {f : FuncId} {xf : Operand} {xs : Array Operand} {ats : Array TypeId} {fst cap : Array Value} {ts : List T} {R : T → St → Prop} {r : Value} {j dj : Nat} {c b : Bool} (hg : o.guard = some (j, false)) (hj : (ops[j]?).bind (·.dst) = some dj) (hk : get dj env = some (c, .v (.bool b)))
    (hd : o.dst = some d) (hN : d < cx.N) (ho : o.op = .call { callee := .value xf, args := xs, argTypes := ats }) (hf : calleeB cx.P f = true) (hxf : Ev env (c && !b) xf (.v (.func (.func f) fst cap))) (hx : Seens cx env S (c && !b) xs.toList ts)
    (hc : (c && !b) = true → ACalls cx.P f (fst.toList.map T.v ++ (ts ++ cap.toList.map T.v)) [] R) (hq : ∀ t S', R t S' → t = .v r) (hr : AWL cx ops l K ((d, (c && !b), .v r) :: env) S) : AWL cx ops (o :: l) K env S := by
  have e : (c && (b == false)) = (c && !b) := by cases b <;> rfl
  exact AWL.callSeesg hg hj hk hd hN ho hf (e ▸ hxf) (e ▸ hx) (fun h => hc (e ▸ h)) hq (e ▸ hr)
end
theorem row_tree {w : World} {L : List Nat} {A : Option Addr} {n c k : Nat} {e : TypeId} {cs : List T} (hk : 0 < k) (h : (Ent.row A n c e k cs).holds w L) : VRep w [] (.sl k cs) (.slice A n c) := by
  obtain ⟨us, hr, hV⟩ := h
  have hV' : VReps w [] cs us := hV.mono (Nat.le_refl _) (fun _ _ _ => rfl) (fun b _ hm => by cases hm)
  rcases hr.2.2.2 with ⟨rfl, rfl, rfl⟩ | ⟨gb, cur, fr, rfl, hh, _, _, htk⟩
  · obtain rfl : us = [] := List.eq_nil_of_length_eq_zero (by simpa using hr.1)
    obtain rfl : cs = [] := List.eq_nil_of_length_eq_zero (by simpa using hV.len)
    exact .sl0 hr.2.1
  · exact sl_new hk (by rw [hV.len, hr.1]) hr.2.2.1 hr.2.1 hV' hh (fun hm => by cases hm) (by rw [hr.1]; exact htk)
theorem perm_ins (a b : St) (x : Ent) : (a ++ x :: b).Perm ((a ++ b) ++ [x]) := by
  rw [List.append_assoc]
  exact List.Perm.append_left a (List.perm_append_singleton x b).symm
theorem perm_end (a b : St) (x : Ent) : ((a ++ b) ++ [x]).Perm ((a ++ [x]) ++ b) := by
  rw [List.append_assoc, List.append_assoc]
  exact List.Perm.append_left a (List.perm_append_comm)
theorem AW.rowMax {cx : Cx} {env : Env} {S : St} {Q : Exit → Env → St → Prop} {code : Code} {n c k : Nat} {A : Option Addr} {e : TypeId} {cs : List T} (i : Nat) (hi : S[i]? = some (.row A n c e k cs)) (h : n ≤ c → c ≤ maxLen → cs.length = n * k → AW cx code Q env S) : AW cx code Q env S := fun a w hs => by
  obtain ⟨us, hr, hV⟩ := hs.row hi
  exact h hr.2.2.1 hr.2.1 (by rw [hV.len, hr.1]) a w hs

theorem Yv.sliceFull {cx : Cx} {env : Env} {S : St} {o : Oper} {g : Bool} {x : Operand} {t e : TypeId} {k n c : Nat} {A : Option Addr} {xh : Option Operand} (ho : o.op = .slice t x none xh none) (h : sliceSz cx.P t = some (e, k)) (hx : Ev env g x (.v (.slice A n c)))
    (hh : Bound env g xh n c) : Yv cx o env S g (.v (.slice A c c)) := by
  intro a w hs hg
  have hv := hx.val hs hg
  obtain ⟨h1, i', h2, h3⟩ := sliceSz_spec h
  have hbnd := fun w' => run_bounds (P := cx.P) hs hg (isS := true) (cap := c) (lo := 0) (xl := none) Bound.none_ hh (Nat.zero_le _) (Nat.le_refl _) w'
  have hrun : ∀ w' : World, (execOp a.eval o).run cx.P w' = .ok (.value (.slice (if c = 0 then A else A.map (·.add (0 * k))) (c - 0) (c - 0))) w' := by
    intro w'
    have hb' := hbnd w'
    simp only [Option.map_none] at hb'
    simp only [execOp, ho, hv, Instr.sliceAt, Sem.run_bind, run_underlying h1, Result.andThen_ok, Instr.slice, Option.map_none, hb', sizeOf, typeInfo, run_program, h2, Sem.run_pure, h3]
  have e0 : (if c = 0 then A else A.map (·.add (0 * k))) = A := by
    cases A with
    | none => simp
    | some ad =>
      have : ad.add 0 = ad := by unfold Addr.add; rfl
      simp [this]
  rw [e0, Nat.sub_zero] at hrun
  exact ⟨_, .v _, fun w' _ => hrun w'⟩
/-! ### images in rows -/
structure Fs where
  A : Option Addr
  n : Nat
  c : Nat
  s : Seg
  deriving Inhabited
def sCells (f : Fs) : List T := [.v (.int .u64 f.s.at_), .v (.int .u64 f.s.size), .v (.int .i64 f.s.may), .v (.slice f.A f.n f.c)]
def fullB (f : Fs) : List UInt8 := f.s.data ++ List.replicate (f.c - f.n) 0
def sRow (f : Fs) : Ent := .row f.A f.c f.c 5 1 ((fullB f).map u8)
def FsOk (f : Fs) : Prop := f.n ≤ f.c ∧ f.n = f.s.data.length
theorem row_part {w : World} {L : List Nat} {A : Option Addr} {c : Nat} {e : TypeId} {cs zs : List T} (h : (Ent.row A c c e 1 (cs ++ zs)).holds w L) (hc : cs.length ≤ c) : (Ent.row A cs.length c e 1 cs).holds w L := by
  obtain ⟨us, ⟨r1, r2, r3, r4⟩, hV⟩ := h
  have hV' := hV.take cs.length
  rw [List.take_left] at hV'
  refine ⟨us.take cs.length, ⟨?_, r2, hc, ?_⟩, hV'⟩
  · rw [List.length_take]; omega
  · rcases r4 with ⟨h1, h2, h3⟩ | ⟨g, cur, fr, h1, h2, h3, h4, h5⟩
    · exact .inl ⟨h1, by omega, h3⟩
    · refine .inr ⟨g, cur, fr, h1, h2, h3, h4, ?_⟩
      rw [← h5, List.take_take, Nat.mul_one, Nat.mul_one, Nat.min_eq_left hc]
theorem seg_tree {w : World} {L : List Nat} {f : Fs} (hf : FsOk f) (h : (sRow f).holds w L) : VRep w [] (.sl 1 (f.s.data.map u8)) (.slice f.A f.n f.c) := by
  unfold sRow fullB at h
  rw [List.map_append] at h
  have h2 := row_part h (by rw [List.length_map, ← hf.2]; exact hf.1)
  rw [List.length_map, ← hf.2] at h2
  exact row_tree (by decide) h2
theorem reps_up {w : World} : ∀ {fs : List Fs} {us : List Value}, VReps w [] (fs.flatMap sCells) us → (∀ f ∈ fs, VRep w [] (.sl 1 (f.s.data.map u8)) (.slice f.A f.n f.c)) → VReps w [] ((fs.map (·.s)).flatMap segCells) us
  | [], us, h, _ => h
  | f :: fs, us, h, hf => by
    rw [List.flatMap_cons] at h
    rw [List.map_cons, List.flatMap_cons]
    have h1 : VReps w [] (sCells f) (us.take 4) := by
      have := h.take 4
      rwa [List.take_left' (show (sCells f).length = 4 from rfl)] at this
    have h2 : VReps w [] (fs.flatMap sCells) (us.drop 4) := by
      have := h.drop 4
      rwa [List.drop_left' (show (sCells f).length = 4 from rfl)] at this
    obtain ⟨u, e1, e2, e3⟩ := h1.get (i := 3) (t := .v (.slice f.A f.n f.c)) rfl
    obtain rfl := e2.v_inv
    have h3 := h1.set 3 (hf f (by simp)) e3
    have e4 : (us.take 4).set 3 (.slice f.A f.n f.c) = us.take 4 := by
      apply List.ext_getElem?
      intro q
      rw [List.getElem?_set]
      split
      · rename_i hq
        subst hq
        rw [e1]
        split
        · rfl
        · rename_i hn
          rw [List.getElem?_eq_none (by omega)] at e1
          cases e1
      · rfl
    rw [e4] at h3
    have h4 := h3.append (reps_up h2 (fun q hq => hf q (by simp [hq])))
    rwa [List.take_append_drop] at h4
theorem img_tree {w : World} {L : List Nat} {S : St} (hS : ∀ e ∈ S, e.holds w L) {A : Option Addr} {n c : Nat} {e : Int} {fs : List Fs} {l : List Seg} (h1 : Ent.row A n c 42 4 (fs.flatMap sCells) ∈ S) (h3 : ∀ f ∈ fs, sRow f ∈ S) (hk : ∀ f ∈ fs, FsOk f) (hg : fs.map (·.s) = l) :
    VRep w [] (.agg [.v (.int .u64 e), .sl 4 (l.flatMap segCells)]) (.agg #[.int .u64 e, .slice A n c]) := by
  have r3 : ∀ f ∈ fs, VRep w [] (.sl 1 (f.s.data.map u8)) (.slice f.A f.n f.c) := fun f hf => seg_tree (hk f hf) (hS _ (h3 f hf))
  have r1 : VRep w [] (.sl 4 (l.flatMap segCells)) (.slice A n c) := by
    obtain ⟨us, hr, hV⟩ := hS _ h1
    have hV' := reps_up (hV.mono (L' := []) (Nat.le_refl _) (fun _ _ _ => rfl) (fun b _ hm => by cases hm)) r3
    rw [hg] at hV'
    exact row_tree (L := []) (by decide) (e := 42) ⟨us, hr, hV'⟩
  refine .agg (ys := [.int .u64 e, .slice A n c]) rfl (fun j t u e1 e2 => ?_) (fun u hu => ?_)
  · rcases j with _ | _ | j
    · simp only [List.getElem?_cons_zero, Option.some.injEq] at e1 e2
      subst e1; subst e2; exact .v _
    · simp only [List.getElem?_cons_succ, List.getElem?_cons_zero, Option.some.injEq] at e1 e2
      subst e1; subst e2; exact r1
    · simp at e1
  · simp only [List.mem_cons, List.not_mem_nil, or_false] at hu
    rcases hu with rfl | rfl <;> rfl
theorem sees_img {cx : Cx} {env : Env} {S : St} {b : Bool} {x : Operand} {A : Option Addr} {n c : Nat} {e : Int} {fs : List Fs} {l : List Seg} (hx : Ev env b x (.agg [.v (.int .u64 e), .v (.slice A n c)])) (h1 : Ent.row A n c 42 4 (fs.flatMap sCells) ∈ S) (h3 : ∀ f ∈ fs, sRow f ∈ S) (hk : ∀ f ∈ fs, FsOk f) (hg : fs.map (·.s) = l) :
    Sees cx env S b x (.agg [.v (.int .u64 e), .sl 4 (l.flatMap segCells)]) := fun a w hs hb => by
  have e1 := hx.rep hs hb
  rw [valsOf_spec (l := [.v (.int .u64 e), .v (.slice A n c)]) (us := [.int .u64 e, .slice A n c]) rfl] at e1
  have e3 : a.eval x = .agg #[.int .u64 e, .slice A n c] := e1.vals
  rw [e3]; exact img_tree hs.ents h1 h3 hk hg
theorem fs_len (f : Fs) : (sCells f).length = 4 := rfl
theorem fs_at {pre rest : List T} {f : Fs} {j : Nat} (h : pre.length = j * 4) : (pre ++ (sCells f ++ rest))[j * 4 + 3]? = some (.v (.slice f.A f.n f.c)) := by
  rw [List.getElem?_append_right (by omega), h, Nat.add_sub_cancel_left]; rfl
theorem drop_fs {fs : List Fs} {j : Nat} (h : j < fs.length) : fs.drop j = fs.getD j default :: fs.drop (j + 1) := by
  rw [List.drop_eq_getElem_cons h]; simp [h]
theorem fs_flat (fs : List Fs) (f : Fs) : (fs ++ [f]).flatMap sCells = fs.flatMap sCells ++ sCells f := by simp
theorem fs_map (fs : List Fs) (f : Fs) : (fs ++ [f]).map sRow = fs.map sRow ++ [sRow f] := by simp
theorem store_fs {pre rest new : List T} {f : Fs} {j : Nat} (h : pre.length = j * 4) (hn : new.length = 4) : (pre ++ (sCells f ++ rest)).take (j * 4) ++ new ++ (pre ++ (sCells f ++ rest)).drop (j * 4 + 4) = (pre ++ new) ++ rest := by
  rw [List.take_left' h, ← List.drop_drop, List.drop_left' h, List.drop_left' (fs_len f)]
theorem full_len {f : Fs} (h : FsOk f) : (fullB f).length = f.c := by
  rw [fullB, List.length_append, List.length_replicate, ← h.2]; have := h.1; omega
theorem u8_not' (b : UInt8) : ∃ c : UInt8, T.v (.int .u8 (bitsOf .xor .u8 (if IntKind.u8.signed then -1 else IntKind.u8.max) b.toNat)) = u8 c := ⟨_, u8_wrap _⟩
end Go.Proofs.Ytckkcncgglfbbaa
