/-
  TEXTS JOINED: Aw21, Aw22, Aw24, Aw26, IterK, Facts, Plain, Wk1, Say, Wk2, File, Wk3, Wk4, OpenF, Wk5, Read, Wk6, Wr, Wk7, New, Wk8, Known, Wk9, Pw, Ds, Dw.
-/
import Derived.OrdersHeld
import Derived.Scope
import Derived.Test.YtmiggpnkicdijaaRows
import Derived.Test.YtmiggpnkicdijaaQa
set_option linter.unusedSimpArgs false
set_option linter.unusedVariables false
set_option linter.unusedSectionVars false
set_option linter.unnecessarySimpa false
namespace Go.Proofs.Ytmiggpnkicdijaa
open Go Go.RowKit
set_option linter.unusedVariables false
set_option linter.unusedSectionVars false

section
variable {cx : Cx} {env : Env} {S : St} {o : Oper} {g : Bool} {x y z : Operand} {ops : Array Oper} {l : List Oper} {K : Env → St → Prop} {Q : Exit → Env → St → Prop} {d : Nat} {Hd : World → Prop}

/-- The box holds these values. -/
def HeldBox (b : Nat) (us : List Value) (w : World) : Prop := ∃ ty, w.heap[b]? = some (.cells us.toArray ty (0, 0))
def Tells (cx : Cx) (Hd : World → Prop) (env : Env) (S : St) : Prop := ∀ a w, Sim cx env S a w → Hd w
/-- What is left of a region that draws its order, where Hd holds behind each operation. -/
def AWH (cx : Cx) (ops : Array Oper) (Hd : World → Prop) (fuel : Nat) (listed : Array Bool) (K : Env → St → Prop) (env : Env) (S : St) : Prop :=
  ∀ a w, Sim cx env S a w → Hd w → wpAnyH cx.P .any ops (liftN cx K) Hd fuel listed a w

theorem tells_box {b : Nat} {ty : TypeId} {us : List Value} {k : Nat} (hi : S[k]? = some (.box b ty (us.map T.v))) : Tells cx (HeldBox b us) env S := by
  intro a w hs
  obtain ⟨vs, hh, hV⟩ := hs.box hi
  have e : vs = us := by
    have e1 := hV.len
    apply List.ext_getElem?
    intro j
    cases hj : us[j]? with
    | none =>
      rw [List.getElem?_eq_none_iff] at hj
      rw [List.getElem?_eq_none]
      rw [List.length_map] at e1; omega
    | some u =>
      obtain ⟨u', h1, h2, _⟩ := hV.get (i := j) (t := .v u) (by rw [List.getElem?_map, hj]; rfl)
      rw [h1, h2.v_inv]
  exact ⟨ty, by rw [hh, e]⟩

theorem AW.rseqH (Hd : World → Prop) {id : Nat} {l : List Oper} {y : Code} (hm : cx.P.follows .mixedOrders = true) (ht : Tells cx Hd env S) (h : AWH cx l.toArray Hd l.length (Array.replicate l.length false) (AW cx y Q) env S) : AW cx (.seq (.region id l.toArray true) y) Q env S := by
  refine AW.seq fun a w hs => ?_
  have h1 := wp_region_held (id := id) hm (h a _ hs.drew (ht _ _ hs.drew))
  refine Code.wp_mono (fun e a w hq => ?_) h1
  obtain ⟨rfl, env', S', h1, h2⟩ := hq
  exact ⟨env', S', h1, h2⟩
theorem AWH.done {fuel : Nat} {listed : Array Bool} (hr : Region.ready .any ops listed = []) (h : K env S) : AWH cx ops Hd fuel listed K env S :=
  fun a w hs _ => wpAnyH_done hr ⟨rfl, env, S, hs, h⟩ fuel
theorem AWH.one {fuel i : Nat} {listed : Array Bool} (hr : Region.ready .any ops listed = [i]) (hi : ops[i]? = some o) (h : AWL cx ops [o] (fun env S => Tells cx Hd env S ∧ AWH cx ops Hd fuel (listed.setIfInBounds i true) K env S) env S) : AWH cx ops Hd (fuel + 1) listed K env S := by
  intro a w hs hd
  refine wpAnyH_all hr (by simp) fun j hj => ?_
  rw [List.mem_singleton] at hj
  subst hj
  exact wpOp_of_AWL hi h (fun _ _ a w h1 h2 => ⟨h1.1 a w h2, h1.2 a w h2 (h1.1 a w h2)⟩) hs
theorem AWH.two {fuel i j : Nat} {o' : Oper} {listed : Array Bool} (hr : Region.ready .any ops listed = [i, j]) (hi : ops[i]? = some o) (hj : ops[j]? = some o') (h : AWL cx ops [o] (fun env S => Tells cx Hd env S ∧ AWH cx ops Hd fuel (listed.setIfInBounds i true) K env S) env S) (h' : AWL cx ops [o'] (fun env S => Tells cx Hd env S ∧ AWH cx ops Hd fuel (listed.setIfInBounds j true) K env S) env S) : AWH cx ops Hd (fuel + 1) listed K env S := by
  intro a w hs hd
  refine wpAnyH_all hr (by simp) fun q hq => ?_
  simp only [List.mem_cons, List.not_mem_nil, or_false] at hq
  rcases hq with rfl | rfl
  · exact wpOp_of_AWL hi h (fun _ _ a w h1 h2 => ⟨h1.1 a w h2, h1.2 a w h2 (h1.1 a w h2)⟩) hs
  · exact wpOp_of_AWL hj h' (fun _ _ a w h1 h2 => ⟨h1.1 a w h2, h1.2 a w h2 (h1.1 a w h2)⟩) hs
theorem AWH.three {fuel i j k : Nat} {o' o'' : Oper} {listed : Array Bool} (hr : Region.ready .any ops listed = [i, j, k]) (hi : ops[i]? = some o) (hj : ops[j]? = some o') (hk : ops[k]? = some o'') (h : AWL cx ops [o] (fun env S => Tells cx Hd env S ∧ AWH cx ops Hd fuel (listed.setIfInBounds i true) K env S) env S) (h' : AWL cx ops [o'] (fun env S => Tells cx Hd env S ∧ AWH cx ops Hd fuel (listed.setIfInBounds j true) K env S) env S) (h'' : AWL cx ops [o''] (fun env S => Tells cx Hd env S ∧ AWH cx ops Hd fuel (listed.setIfInBounds k true) K env S) env S) : AWH cx ops Hd (fuel + 1) listed K env S := by
  intro a w hs hd
  refine wpAnyH_all hr (by simp) fun q hq => ?_
  simp only [List.mem_cons, List.not_mem_nil, or_false] at hq
  rcases hq with rfl | rfl | rfl
  · exact wpOp_of_AWL hi h (fun _ _ a w h1 h2 => ⟨h1.1 a w h2, h1.2 a w h2 (h1.1 a w h2)⟩) hs
  · exact wpOp_of_AWL hj h' (fun _ _ a w h1 h2 => ⟨h1.1 a w h2, h1.2 a w h2 (h1.1 a w h2)⟩) hs
  · exact wpOp_of_AWL hk h'' (fun _ _ a w h1 h2 => ⟨h1.1 a w h2, h1.2 a w h2 (h1.1 a w h2)⟩) hs
/-- An operation that yields its value in whatever world meets Hd may be taken first. -/
theorem AWH.take {fuel i : Nat} {listed : Array Bool} {t : T} (hi : ops[i]? = some o) (hs : Region.noSelect ops = true) (hf : Region.free .any ops listed i = true) (hr : (Region.ready .any ops listed).contains i = true) (hg : o.guard = none) (hd : o.dst = some d) (hN : d < cx.N)
    (hy : ∀ a w, Sim cx env S a w → ∃ u, VRep w (cx.X ++ M S) t u ∧ ∀ w', Hd w' → (execOp a.eval o).run cx.P w' = .ok (.value u) w') (h : AWH cx ops Hd fuel (listed.setIfInBounds i true) K ((d, true, t) :: env) S) : AWH cx ops Hd (fuel + 1) listed K env S := by
  intro a w hsim hdw
  obtain ⟨u, h1, h2⟩ := hy a w hsim
  refine wpAnyH_take (v := u) hi hs hf hr (fun c a w hq => absurd hq.1 (by simp)) (.inl ⟨wanted_none hg, h2⟩) hdw ?_
  rw [hd]
  exact h _ _ (hsim.put hN (fun _ => h1) (by simp)) hdw
theorem heldAll {t : T} (h : ∀ a w, Sim cx env S a w → ∃ u, VRep w (cx.X ++ M S) t u ∧ ∀ w', (execOp a.eval o).run cx.P w' = .ok (.value u) w') : ∀ a w, Sim cx env S a w → ∃ u, VRep w (cx.X ++ M S) t u ∧ ∀ w', Hd w' → (execOp a.eval o).run cx.P w' = .ok (.value u) w' :=
  fun a w hs => (h a w hs).imp fun u q => ⟨q.1, fun w' _ => q.2 w'⟩
theorem heldLoad {b p n : Nat} {t : TypeId} {us : List Value} {u : Value} (ho : o.op = .load t x) (h : aggSize cx.P t = some (false, n)) (hx : Ev env true x (.v (.pointer (some ⟨b, p, none⟩)))) (hu : us[p]? = some u) : ∀ a w, Sim cx env S a w → ∃ u', VRep w (cx.X ++ M S) (.v u) u' ∧ ∀ w', HeldBox b us w' → (execOp a.eval o).run cx.P w' = .ok (.value u') w' := by
  intro a w hs
  have hv := hx.val hs rfl
  refine ⟨u, (.v _), fun w' hd => exec_load ho w' ?_⟩
  obtain ⟨ty, hh⟩ := hd
  rw [hv]
  exact run_loadAt_one h w' (by rw [cell_of_heap hh, hu])
end
end Go.Proofs.Ytmiggpnkicdijaa

namespace Go.Proofs.Ytmiggpnkicdijaa
open Go Go.RowKit
set_option linter.unusedVariables false
set_option linter.unusedSectionVars false
section
variable {cx : Cx} {env : Env} {S : St} {o : Oper} {x : Operand}
/-- A struct that lies whole in a box. -/
theorem heldLoadA {b p n : Nat} {t : TypeId} {us vs : List Value} {l' : List T} (ho : o.op = .load t x) (h : aggSize cx.P t = some (true, n)) (hx : Ev env true x (.v (.pointer (some ⟨b, p, none⟩)))) (hv : (us.drop p).take n = vs) (hn : vs.length = n) (h1 : vs.all (fun u => u.oneCell') = true) (hl : vs.map T.v = l') :
    ∀ a w, Sim cx env S a w → ∃ u', VRep w (cx.X ++ M S) (.agg l') u' ∧ ∀ w', HeldBox b us w' → (execOp a.eval o).run cx.P w' = .ok (.value u') w' := by
  intro a w hs
  have hvx := hx.val hs rfl
  have hV := vreps_vals (w := w) (L := cx.X ++ M S) vs (fun u hu => List.all_eq_true.1 h1 u hu)
  rw [hl] at hV
  refine ⟨.agg vs.toArray, .agg hV.len hV.at_ hV.one, fun w' hd => exec_load ho w' ?_⟩
  obtain ⟨ty, hh⟩ := hd
  rw [hvx]
  refine run_loadAt_agg h hn w' (fun j v hj => ?_)
  rw [← hv, List.getElem?_take] at hj
  split at hj
  · rw [List.getElem?_drop] at hj
    rw [add_lit', cell_of_heap hh, hj]
  · cases hj
end

set_option linter.unusedVariables false
set_option linter.unusedSectionVars false
section
variable {cx : Cx} {env : Env} {S : St} {o : Oper} {x y : Operand}
theorem freeIdxSl {t e : TypeId} {k j : Nat} {kd : IntKind} {p : Int} {l : List T} (ho : o.op = .indexAddr t x y) (h : sliceSz cx.P t = some (e, k)) (hk : 0 < k) (hy : Ev env true y (.v (.int kd p))) (hx : Ev env true x (.sl k l)) (hj : p = (j : Int) ∧ j * k < l.length) : ∀ a w, Sim cx env S a w → ∃ u, VRep w (cx.X ++ M S) (.rp l (j * k)) u ∧ ∀ w', (execOp a.eval o).run cx.P w' = .ok (.value u) w' := by
  intro a w hs
  have hv := hx.rep hs rfl
  obtain ⟨rfl, hjl⟩ := hj
  generalize hu : a.eval x = u at hv
  cases hv with
  | sl0 hc => simp at hjl
  | sl hn hkl hl hnc hc hb hL hcell hh h1 =>
    refine ⟨_, .rp hl hb hL hcell hh h1, fun w' => ?_⟩
    refine exec_indexAddr ho h hu (hy.val hs rfl) ?_ w'
    rw [hkl] at hjl
    exact Nat.lt_of_mul_lt_mul_right hjl
theorem freeIdxRow {t e e' : TypeId} {k j i n c : Nat} {kd : IntKind} {p : Int} {A : Option Addr} {cs : List T} (ho : o.op = .indexAddr t x y) (h : sliceSz cx.P t = some (e, k)) (hi : S[i]? = some (.row A n c e' k cs)) (hy : Ev env true y (.v (.int kd p))) (hx : Ev env true x (.v (.slice A n c))) (hj : p = (j : Int) ∧ j < n) : ∀ a w, Sim cx env S a w → ∃ u, VRep w (cx.X ++ M S) (.ep (.slice A n c) (j * k)) u ∧ ∀ w', (execOp a.eval o).run cx.P w' = .ok (.value u) w' := by
  intro a w hs
  have hv := hx.val hs rfl
  obtain ⟨rfl, hjl⟩ := hj
  obtain ⟨us, hr, _⟩ := hs.row hi
  rcases hr.2.2.2 with ⟨_, h0, _⟩ | ⟨gb, cur, fr, rfl, _⟩
  · omega
  · refine ⟨_, .ep, fun w' => ?_⟩
    have := exec_indexAddr ho h hv (hy.val hs rfl) hjl w'
    rw [add_lit', Nat.zero_add] at this
    exact this
end

set_option linter.unusedVariables false
set_option linter.unusedSectionVars false
set_option linter.unusedSimpArgs false
section
variable {cx : Cx} {env : Env} {S : St} {o : Oper} {g : Bool} {x y : Operand}
inductive FK2 where
  | c (k : FK)
  | st (n : Nat) (l : List (Nat × FK))
end
end Go.Proofs.Ytmiggpnkicdijaa

namespace Go.Proofs.Ytmiggpnkicdijaa
open Go Go.RowKit
set_option linter.unusedVariables false
set_option linter.unusedSectionVars false
set_option linter.unusedSimpArgs false
/-- A block and its cells. -/
structure Gv where
  b : Nat
  cs : Array Value
def Gv.is (G : Gv) (w : World) : Prop := ∃ (ty : TypeId) (fr : Nat × Nat), w.heap[G.b]? = some (.cells G.cs ty fr)
theorem Gv.is.lt {G : Gv} {w : World} (h : G.is w) : G.b < w.heap.size := by
  obtain ⟨ty, fr, e⟩ := h
  exact lt_of_heap e
theorem Gv.is.keeps {G : Gv} {L : List Nat} {w w' : World} (h : G.is w) (hk : Keeps L w w') (hm : G.b ∉ L) : G.is w' := by
  have hl := h.lt
  obtain ⟨ty, fr, e⟩ := h
  exact ⟨ty, fr, (hk.block _ hl hm).trans e⟩
/-- WHAT A CALL DOES where the variable stands so. -/
def ACallsG (P : Program) (G : Gv) (f : FuncId) (ts : List T) (S0 : St) (R : T → St → Prop) : Prop :=
  ∀ (X : List Nat) (w : World) (args : List Value), G.is w → G.b ∉ M S0 → (∀ b ∈ X, b < w.heap.size ∧ b ∉ M S0) → (M S0).Nodup → (∀ e ∈ S0, e.holds w (X ++ M S0)) → args.length = ts.length → (∀ (j : Nat) (t : T) (u : Value), ts[j]? = some t → args[j]? = some u → VRep w (X ++ M S0) t u) →
    Calls P f args.toArray w fun e w' => ∃ v t S', e = .returned v ∧ Keeps (M S0) w w' ∧ (M S').Nodup ∧ (∀ b ∈ M S', b ∈ M S0 ∨ w.heap.size ≤ b) ∧ (∀ e ∈ S', e.holds w' (X ++ M S')) ∧ VRep w' (X ++ M S') t v ∧ R t S'
theorem ACallsG.mono {P : Program} {G : Gv} {f : FuncId} {ts : List T} {S0 : St} {R R' : T → St → Prop} (h : ACallsG P G f ts S0 R) (hR : ∀ t S, R t S → R' t S) : ACallsG P G f ts S0 R' :=
  fun X w args g1 g2 h1 h2 h3 h4 h5 => (h X w args g1 g2 h1 h2 h3 h4 h5).mono fun e w' ⟨v, t, S', a, b, c, d, e, f, r⟩ => ⟨v, t, S', a, b, c, d, e, f, hR _ _ r⟩
theorem ACallsG.calls {P : Program} {G : Gv} {f : FuncId} {ts : List T} {R : T → St → Prop} (h : ACallsG P G f ts [] R) {w : World} {args : List Value} (hG : G.is w) (hl : args.length = ts.length) (ha : ∀ (j : Nat) (t : T) (u : Value), ts[j]? = some t → args[j]? = some u → VRep w [] t u) :
    Calls P f args.toArray w fun e w' => ∃ v t S', e = .returned v ∧ Below w.heap.size w w' ∧ VRep w' (M S') t v ∧ R t S' :=
  (h [] w args hG (by simp [M]) (fun _ hb => by cases hb) (by simp [M]) (fun _ he => by cases he) hl (by simpa [M] using ha)).mono fun e w' ⟨v, t, S', a, b, c, d, e', f, r⟩ => ⟨v, t, S', a, b.below, by simpa using f, r⟩
theorem ACallsG.intro {P : Program} {G : Gv} {f : FuncId} {fn : Func} {c : Code} {ts : List T} {S0 : St} {R : T → St → Prop} {N : Nat} {rs : List ResultVar} (hf : P.funcs[f]? = some fn) (hb : fn.body = some c) (hN : fn.ntmps = N) (hlen : ts.length ≤ N) (hrs : fn.results.toList = rs)
    (h : ∀ (X : List Nat) (w0 : World), G.is w0 ∧ G.b ∉ M S0 → AW ⟨P, X, M S0, w0, N, []⟩ c (retQ P rs R) (initEnv 0 ts) S0) : ACallsG P G f ts S0 R := by
  intro X w args g1 g2 h1 h2 h3 h4 h5
  refine calls_of_wp hf hb ?_
  have hs : Sim ⟨P, X, M S0, w, N, []⟩ (initEnv 0 ts) S0 { tmps := args.toArray ++ Array.replicate (fn.ntmps - args.toArray.size) undef, defers := [] } w := by
    refine ⟨Keeps.refl _ _, h2, fun b hb => .inl hb, h1, h3, ?_, rfl, fun k c t hk => ?_⟩
    · simp [hN]; omega
    · obtain ⟨rfl, -, e⟩ := get_initEnv ts 0 k c t hk
      refine ⟨fun _ => ?_, fun h => by cases h⟩
      rw [Nat.sub_zero] at e
      have hkl : k < args.length := h4 ▸ (List.getElem?_eq_some_iff.1 e).1
      have : (args.toArray ++ Array.replicate (fn.ntmps - args.toArray.size) undef).getD k undef = args[k] := by
        rw [Array.getD_eq_getD_getElem?, Array.getElem?_append_left (by simpa using hkl)]
        simp [hkl]
      rw [this]
      exact h5 k t _ e (List.getElem?_eq_getElem hkl)
  refine Code.wp_mono (fun e a w' hq => ?_) (h X w ⟨g1, g2⟩ _ _ hs)
  obtain ⟨env', S', hs', he, l, hl, hR⟩ := hq
  subst hrs
  obtain ⟨us, e1, e2, e3⟩ := Res.vals (cx := ⟨P, X, M S0, w, N, []⟩) hs' hl
  have hrun := results_list e3
  have hv : VRep w' (X ++ M S') (tupOf l) (tupV us) := by
    match l, us, e1, e2 with
    | [], [], _, e2 => exact .tup rfl e2
    | [t], [u], _, e2 => exact e2 0 t u rfl rfl
    | t :: t' :: r, u :: u' :: r', e1, e2 => exact .tup (by simpa using e1) e2
  have hR' : ∃ v t S'', (Ending.returned (tupV us)) = .returned v ∧ Keeps (M S0) w w' ∧ (M S'').Nodup ∧ (∀ b ∈ M S'', b ∈ M S0 ∨ w.heap.size ≤ b) ∧ (∀ e ∈ S'', e.holds w' (X ++ M S'')) ∧ VRep w' (X ++ M S'') t v ∧ R t S'' :=
    ⟨_, _, S', rfl, hs'.keeps, hs'.nd, hs'.fresh, hs'.ents, hv, hR⟩
  rcases he with rfl | rfl
  · exact ⟨hs'.defers, _, hrun, hR'⟩
  · exact ⟨hs'.defers, _, hrun, hR'⟩
section
variable {cx : Cx} {env : Env} {S : St} {o : Oper} {ops : Array Oper} {l : List Oper} {K : Env → St → Prop} {d : Nat}
end
end Go.Proofs.Ytmiggpnkicdijaa

namespace Go.Proofs.Ytmiggpnkicdijaa
open Go Go.RowKit
set_option linter.unusedVariables false
section
variable {P : Program} {ops : Array Oper} {md : Region.Mode} {C : World → Prop}

/-- Whatever order is picked among those of D. -/
def wpT (P : Program) (md : Region.Mode) (ops : Array Oper) (C : World → Prop) (D : Nat → Bool) (Q : Array Bool → Act → Prop) : Nat → Array Bool → Act → Prop
  | 0, listed, a => (∀ j, D j = true → listed.getD j true = true) ∧ Q listed a
  | fuel + 1, listed, a => (∃ j, D j = true ∧ j ∈ Region.ready md ops listed) ∧
    ∀ i ∈ Region.ready md ops listed, D i = true → qOp P ops C i (wpT P md ops C D Q fuel (listed.setIfInBounds i true)) a
theorem wpT_first {D : Nat → Bool} {Q : Array Bool → Act → Prop} {i : Nat} {oi : Oper} {v : Value} (hi : ops[i]? = some oi) (hD : D i = true) (hsel : ∀ (j : Nat) (o : Oper) cs b, ops[j]? = some o → o.op ≠ .select cs b) :
    ∀ (fuel : Nat) (listed : Array Bool) (a : Act),
      (∀ j oj, ops[j]? = some oj → j ≠ i → listed.getD j true = false → (∀ e ∈ oj.after, Region.binds md e = true → e.on ≠ i) → oi.apart ops oj = true) →
      i ∈ Region.ready md ops listed → YieldsIn P ops C oi v a →
      wpT P md ops C D Q fuel (listed.setIfInBounds i true) (a.put oi.dst v) → wpT P md ops C D Q (fuel + 1) listed a := by
  intro fuel
  induction fuel with
  | zero =>
    intro listed a _ hr hy H
    refine ⟨⟨i, hD, hr⟩, fun j hj hDj => ?_⟩
    by_cases hji : j = i
    · subst hji; exact hy.qOp hi H
    · have h1 := H.1 j hDj
      have h0 := (mem_ready.1 hj).1
      rw [getD_set_ne true (Ne.symm hji), h0] at h1
      cases h1
  | succ fuel ih =>
    intro listed a hfree hr hy H
    refine ⟨⟨i, hD, hr⟩, fun j hj hDj => ?_⟩
    by_cases hji : j = i
    · subst hji; exact hy.qOp hi H
    · have h1 := H.2 j (ready_mono hj hji) hDj
      obtain ⟨hjun, oj, hoj, hall⟩ := mem_ready.1 hj
      have hnot : ∀ e ∈ oj.after, Region.binds md e = true → e.on ≠ i := fun e he hb heq => by
        have h1 := hall e he hb
        have h0 := (mem_ready.1 hr).1
        rw [heq] at h1
        rcases Nat.lt_or_ge i listed.size with h' | h'
        · simp [h'] at h0 h1; rw [h0] at h1; cases h1
        · simp [Array.getElem?_eq_none h'] at h1
      have h2 := qOp_put hoj (hfree j oj hoj hji hjun hnot) (fun cs b => hsel i oi cs b hi) (fun cs b => hsel j oj cs b hoj) hy h1
      have hfree' : ∀ k ok, ops[k]? = some ok → k ≠ i → (listed.setIfInBounds j true).getD k true = false →
          (∀ e ∈ ok.after, Region.binds md e = true → e.on ≠ i) → oi.apart ops ok = true := fun k ok hk hki hun hno => by
        refine hfree k ok hk hki ?_ hno
        by_cases hjk : j = k
        · subst hjk; exact hjun
        · rw [getD_set_ne true hjk] at hun; exact hun
      refine qOp_mono (fun a' h3 => ih (listed.setIfInBounds j true) a' hfree' (ready_mono hr (Ne.symm hji)) h3.1 ?_) h2
      rw [Array.setIfInBounds_comm _ _ hji]
      exact h3.2
def maskL {α : Type} : List Bool → List α → List α
  | true :: m, a :: l => a :: maskL m l
  | false :: m, _ :: l => maskL m l
  | _, _ => []
def afterM : List Bool → Nat → Array Bool → Array Bool
  | [], _, listed => listed
  | true :: m, k, listed => afterM m (k + 1) (listed.setIfInBounds k true)
  | false :: m, k, listed => afterM m (k + 1) listed
def phaseFrom (md : Region.Mode) (ops : Array Oper) : List Bool → Nat → Array Bool → Bool
  | [], _, _ => true
  | true :: m, k, listed => (Region.ready md ops listed).contains k && Region.free md ops listed k && phaseFrom md ops m (k + 1) (listed.setIfInBounds k true)
  | false :: m, k, listed => phaseFrom md ops m (k + 1) listed
def depsIn (md : Region.Mode) (ops : Array Oper) (k : Nat) (g : Array Bool) : Bool := ((ops[k]?).map fun o => o.after.all fun e => !Region.binds md e || g.getD e.on false).getD false
/-- Without one, those that wait for it are not listed. -/
def shut (md : Region.Mode) (ops : Array Oper) (m : List Bool) (L : List Nat) (g : Array Bool) : Array Bool :=
  L.foldl (fun g k => if m.getD k false && !depsIn md ops k g then g.setIfInBounds k false else g) g
def strayB (md : Region.Mode) (ops : Array Oper) (m : List Bool) (listed f : Array Bool) : Bool :=
  (List.range listed.size).all fun j => (!m.getD j false || (f.getD j false && !listed.getD j true)) && (!f.getD j true || listed.getD j true || m.getD j false) && (!m.getD j false || (Region.ready md ops (shut md ops m (List.range listed.size) (f.setIfInBounds j false))).all fun k => m.getD k false)
def phaseB (md : Region.Mode) (ops : Array Oper) (m : List Bool) (listed : Array Bool) : Bool :=
  Region.noSelect ops && (phaseFrom md ops m 0 listed && (decide (m.length ≤ listed.size) && (decide ((afterM m 0 listed).size = listed.size) && strayB md ops m listed (afterM m 0 listed))))
theorem wpT_lex {D : Nat → Bool} {Q : Act → Prop} (hs : Region.noSelect ops = true) : ∀ (m : List Bool) (l : List Oper) (k : Nat) (listed : Array Bool) (a : Act), (∀ j, l[j]? = ops[k + j]?) →
    phaseFrom md ops m k listed = true → (∀ j, m[j]? = some true → D (k + j) = true) → (∀ j, D j = true → (∃ q, j = k + q ∧ m[q]? = some true) ∨ listed.getD j true = true) →
    wpQuiet P ops C Q (maskL m l) a → wpT P md ops C D (fun f a => f = afterM m k listed ∧ Q a) (m.count true) listed a
  | [], l, k, listed, a, _, _, _, hc, h => by
    refine ⟨fun j hj => (hc j hj).resolve_left (fun ⟨q, _, hq⟩ => by simp at hq), rfl, ?_⟩
    have e : maskL ([] : List Bool) l = [] := by cases l <;> rfl
    rw [e] at h
    exact h
  | false :: m, l, k, listed, a, hl, hB, hD, hc, h => by
    have e : (false :: m).count true = m.count true := by simp
    rw [e]
    refine wpT_lex hs m l.tail (k + 1) listed a (fun j => ?_) hB (fun j hj => ?_) (fun j hj => ?_) ?_
    · have := hl (j + 1)
      rw [List.getElem?_tail]
      rw [this]
      congr 1
      omega
    · have := hD (j + 1) (by simpa using hj)
      rwa [show k + 1 + j = k + (j + 1) by omega]
    · rcases hc j hj with ⟨q, h1, h2⟩ | h1
      · cases q with
        | zero => simp at h2
        | succ q => exact .inl ⟨q, by omega, by simpa using h2⟩
      · exact .inr h1
    · cases l with
      | nil => simpa [maskL] using h
      | cons o l => simpa [maskL] using h
  | true :: m, [], k, listed, a, hl, hB, hD, hc, h => by
    exfalso
    simp only [phaseFrom, Bool.and_eq_true] at hB
    have hr : k ∈ Region.ready md ops listed := by simpa using hB.1.1
    obtain ⟨_, o, ho, _⟩ := mem_ready.1 hr
    have := hl 0
    rw [Nat.add_zero, ho] at this
    simp at this
  | true :: m, o :: l, k, listed, a, hl, hB, hD, hc, h => by
    have h0 : ops[k]? = some o := by simpa using (hl 0).symm
    simp only [phaseFrom, Bool.and_eq_true] at hB
    obtain ⟨⟨hr, hf⟩, hB'⟩ := hB
    have hr : k ∈ Region.ready md ops listed := by simpa using hr
    have hst : qOp P ops C k (wpQuiet P ops C Q (maskL m l)) a := by unfold qOp; simp only [h0]; exact h
    obtain ⟨v, hy, hK⟩ := yieldsIn_of_qOp h0 hst
    have hlt : k < listed.size := by
      rcases Nat.lt_or_ge k listed.size with h' | h'
      · exact h'
      · have := (mem_ready.1 hr).1
        simp [Array.getElem?_eq_none h'] at this
    have e : (true :: m).count true = m.count true + 1 := by simp
    rw [e]
    refine wpT_first h0 (hD 0 rfl) (Region.noSelect_spec hs) _ listed a (Region.free_spec h0 hf) hr hy ?_
    refine wpT_lex hs m l (k + 1) _ _ (fun j => by have := hl (j + 1); simpa [Nat.add_assoc, Nat.add_comm 1 j] using this) hB' (fun j hj => ?_) (fun j hj => ?_) hK
    · have := hD (j + 1) (by simpa using hj)
      rwa [show k + 1 + j = k + (j + 1) by omega]
    · rcases hc j hj with ⟨q, h1, h2⟩ | h1
      · cases q with
        | zero =>
          right
          subst h1
          simp [hlt]
        | succ q => exact .inl ⟨q, by omega, by simpa using h2⟩
      · right
        by_cases hkj : k = j
        · subst hkj
          simp [hlt]
        · rw [getD_set_ne true hkj]
          exact h1
theorem getD_unset {f : Array Bool} {i j : Nat} (d : Bool) (h : i ≠ j) : (f.setIfInBounds i false).getD j d = f.getD j d := by
  simp [Array.getElem?_setIfInBounds_ne h]
theorem shut_keep {m : List Bool} {i : Nat} : ∀ (L : List Nat) (g : Array Bool), g.getD i true = false → (shut md ops m L g).getD i true = false
  | [], _, h => h
  | k :: L, g, h => by
    refine shut_keep (m := m) L _ ?_
    show (if (m.getD k false && !depsIn md ops k g) = true then g.setIfInBounds k false else g).getD i true = false
    split
    · by_cases hk : k = i
      · subst hk
        rcases Nat.lt_or_ge k g.size with h' | h'
        · simp [h']
        · rw [Array.getD_eq_getD_getElem?, Array.getElem?_eq_none h'] at h
          cases h
      · rw [getD_unset true hk]
        exact h
    · exact h
theorem shut_sup {m : List Bool} {listed : Array Bool} (hc : ∀ k, m.getD k false = true → listed.getD k false = true → depsIn md ops k listed = true) : ∀ (L : List Nat) (g : Array Bool), (∀ x, listed.getD x false = true → g.getD x false = true) →
    ∀ x, listed.getD x false = true → (shut md ops m L g).getD x false = true
  | [], _, h => h
  | k :: L, g, h => by
    refine shut_sup hc L _ fun x hx => ?_
    show (if (m.getD k false && !depsIn md ops k g) = true then g.setIfInBounds k false else g).getD x false = true
    split
    · rename_i hk
      rw [Bool.and_eq_true, Bool.not_eq_true'] at hk
      by_cases hkx : k = x
      · exfalso
        subst hkx
        have h1 := hc k hk.1 hx
        have h2 := hk.2
        unfold depsIn at h1 h2
        cases ho : ops[k]? with
        | none => rw [ho] at h1; cases h1
        | some o =>
          rw [ho] at h1 h2
          simp only [Option.map_some, Option.getD_some] at h1 h2
          rw [Array.all_eq_true'] at h1
          have h3 : (o.after.all fun e => !Region.binds md e || g.getD e.on false) = true := by
            rw [Array.all_eq_true']
            intro e he
            have := h1 e he
            rw [Bool.or_eq_true] at this ⊢
            rcases this with q | q
            · exact .inl q
            · exact .inr (h _ q)
          rw [h3] at h2
          cases h2
      · rw [getD_unset false hkx]
        exact h x hx
    · exact h x hx
theorem wpAny_of_T {m : List Bool} {listed0 f : Array Bool} (hm : m.length ≤ listed0.size) (hf : f.size = listed0.size) (hB : strayB md ops m listed0 f = true) {Q : Array Bool → Act → Prop} {Q' : Exit → Act → World → Prop} {rest : Nat}
    (hQ : ∀ listed a w, C w → Q listed a → wpAny P md ops Q' rest listed a w) : ∀ (fuel : Nat) (listed : Array Bool) (a : Act) (w : World), C w →
      (listed.size = listed0.size ∧ (∀ j, listed.getD j false = true → f.getD j false = true) ∧ (∀ j, listed0.getD j true = true → listed.getD j true = true) ∧ ∀ k, m.getD k false = true → listed.getD k false = true → depsIn md ops k listed = true) →
      wpT P md ops C (fun j => m.getD j false) Q fuel listed a → wpAny P md ops Q' (fuel + rest) listed a w
  | 0, listed, a, w, hw, _, h => by
    rw [Nat.zero_add]
    exact hQ listed a w hw h.2
  | fuel + 1, listed, a, w, hw, ⟨i1, i2, i3, i4⟩, h => by
    have hall : ∀ j, j < listed0.size → _ := fun j hj => by
      have := hB
      unfold strayB at this
      rw [List.all_eq_true] at this
      exact this j (List.mem_range.2 hj)
    have hDlt : ∀ j, m.getD j false = true → j < listed0.size := fun j hj => by
      rcases Nat.lt_or_ge j m.length with h' | h'
      · omega
      · rw [List.getD_eq_getElem?_getD, List.getElem?_eq_none h'] at hj
        cases hj
    obtain ⟨⟨j0, hD0, hr0⟩, h2⟩ := h
    have hD0 : m.getD j0 false = true := hD0
    have hin : ∀ i ∈ Region.ready md ops listed, m.getD i false = true := by
      intro i hi
      obtain ⟨hu, o, ho, hdep⟩ := mem_ready.1 hi
      obtain ⟨hu0, _⟩ := mem_ready.1 hr0
      have hilt : i < listed0.size := by
        rcases Nat.lt_or_ge i listed.size with h' | h'
        · omega
        · rw [Array.getD_eq_getD_getElem?, Array.getElem?_eq_none h'] at hu
          cases hu
      have a1 := hall i hilt
      have a0 := hall j0 (hDlt j0 hD0)
      simp only [Bool.and_eq_true, Bool.or_eq_true, Bool.not_eq_true', List.all_eq_true] at a1 a0
      rcases a1.1.2 with (h1 | h1) | h1
      · -- not in the end: then it is ready where only j0 lacks
        have hne : j0 ≠ i := by
          rintro rfl
          have := a0.1.1
          rcases this with q | q
          · rw [hD0] at q; cases q
          · have q := q.1
            rw [Array.getD_eq_getD_getElem?] at q h1
            rcases hx : f[j0]? with _ | b
            · rw [hx] at h1; cases h1
            · rw [hx] at h1 q
              simp only [Option.getD_some] at h1 q
              rw [h1] at q; cases q
        have hsup : ∀ x, listed.getD x false = true → (f.setIfInBounds j0 false).getD x false = true := fun x hx => by
          have hne' : j0 ≠ x := by
            rintro rfl
            rw [Array.getD_eq_getD_getElem?] at hx hu0
            rcases hy : listed[j0]? with _ | b
            · rw [hy] at hx; cases hx
            · rw [hy] at hx hu0
              simp only [Option.getD_some] at hx hu0
              rw [hu0] at hx; cases hx
          rw [getD_unset false hne']
          exact i2 _ hx
        have hrd : i ∈ Region.ready md ops (shut md ops m (List.range listed0.size) (f.setIfInBounds j0 false)) :=
          mem_ready.2 ⟨shut_keep _ _ (by rw [getD_unset true hne]; exact h1), o, ho, fun e he hb => shut_sup i4 _ _ hsup _ (hdep e he hb)⟩
        rcases a0.2 with q | q
        · rw [hD0] at q; cases q
        · exact q i hrd
      · have := i3 i h1
        rw [hu] at this
        cases this
      · exact h1
    rw [show fuel + 1 + rest = fuel + rest + 1 by omega]
    refine ⟨fun hn => absurd (hn ▸ hr0) (by simp), fun i hi => ?_⟩
    have hDi := hin i hi
    refine wpOp_of_qOp hw (fun a' w' hw' hk => wpAny_of_T hm hf hB hQ fuel _ a' w' hw' ⟨by rw [Array.size_setIfInBounds]; exact i1, fun j hj => ?_, fun j hj => ?_, fun k hk hkl => ?_⟩ hk) (h2 i hi hDi)
    · by_cases hij : i = j
      · subst hij
        have a1 := hall i (hDlt i hDi)
        simp only [Bool.and_eq_true, Bool.or_eq_true, Bool.not_eq_true'] at a1
        rcases a1.1.1 with q | q
        · rw [hDi] at q; cases q
        · exact q.1
      · rw [getD_set_ne false hij] at hj
        exact i2 j hj
    · by_cases hij : i = j
      · subst hij
        have hlt : i < listed.size := by have := hDlt i hDi; omega
        simp [hlt]
      · rw [getD_set_ne true hij]
        exact i3 j hj
    · have hsub : ∀ x, listed.getD x false = true → (listed.setIfInBounds i true).getD x false = true := fun x hx => getD_set_true hx
      have hdk : depsIn md ops k listed = true := by
        by_cases hik : i = k
        · subst hik
          obtain ⟨_, o, ho, hdep⟩ := mem_ready.1 hi
          unfold depsIn
          rw [ho]
          simp only [Option.map_some, Option.getD_some]
          rw [Array.all_eq_true']
          intro e he
          rw [Bool.or_eq_true, Bool.not_eq_true']
          cases hb : Region.binds md e
          · exact .inl rfl
          · exact .inr (hdep e he hb)
        · rw [getD_set_ne false hik] at hkl
          exact i4 k hk hkl
      unfold depsIn at hdk ⊢
      cases ho : ops[k]? with
      | none => rw [ho] at hdk; cases hdk
      | some o =>
        rw [ho] at hdk
        simp only [Option.map_some, Option.getD_some] at hdk ⊢
        rw [Array.all_eq_true'] at hdk ⊢
        intro e he
        have := hdk e he
        rw [Bool.or_eq_true] at this ⊢
        rcases this with q | q
        · exact .inl q
        · exact .inr (hsub _ q)
end
section
variable {cx : Cx} {env : Env} {S : St} {o : Oper} {x y : Operand} {ops : Array Oper} {l : List Oper} {K : Env → St → Prop}
theorem freeSub_i64 {ty yt : TypeId} {p q : Int} (ho : o.op = .binOp .sub ty x y yt) (hx : Ev env true x (.v (.int .i64 p))) (hy : Ev env true y (.v (.int .i64 q))) (hb : -9223372036854775808 ≤ p - q ∧ p - q ≤ 9223372036854775807) : ∀ a w, Sim cx env S a w → ∃ u, VRep w (cx.X ++ M S) (.v (.int .i64 (p - q))) u ∧ ∀ w', (execOp a.eval o).run cx.P w' = .ok (.value u) w' :=
  fun a w hs => ⟨_, .v _, fun w' => by rw [exec_binOp_int ho (hx.val hs rfl) (hy.val hs rfl)]; simp [binOp, Op.intArith, Sem.run_pure, IntWalk.i64_in _ hb]⟩
theorem freeFieldEp {s : TypeId} {i off p : Nat} {v : Value} (ho : o.op = .fieldAddr s x i) (h : fieldOff cx.P s i = some off) (hx : Ev env true x (.ep v p)) : ∀ a w, Sim cx env S a w → ∃ u, VRep w (cx.X ++ M S) (.ep v (p + off)) u ∧ ∀ w', (execOp a.eval o).run cx.P w' = .ok (.value u) w' := by
  intro a w hs
  have hr := hx.rep hs rfl
  generalize hv : a.eval x = u at hr
  cases hr with
  | ep =>
    refine ⟨_, .ep, fun w' => ?_⟩
    rw [exec_fieldAddr ho h hv]
    unfold Addr.add
    split
    · rename_i h0; subst h0; rfl
    · rfl
theorem freeFieldRp {s : TypeId} {i off p : Nat} {l : List T} (ho : o.op = .fieldAddr s x i) (h : fieldOff cx.P s i = some off) (hx : Ev env true x (.rp l p)) : ∀ a w, Sim cx env S a w → ∃ u, VRep w (cx.X ++ M S) (.rp l (p + off)) u ∧ ∀ w', (execOp a.eval o).run cx.P w' = .ok (.value u) w' := by
  intro a w hs
  have hr := hx.rep hs rfl
  generalize hv : a.eval x = u at hr
  cases hr with
  | rp hl hb hL hcell hh h1 =>
    refine ⟨_, .rp hl hb hL hcell hh h1, fun w' => ?_⟩
    rw [exec_fieldAddr ho h hv, add_add']
/-- A call of what needs a part of the state. -/
theorem AWL.callF {d : Nat} {lo : List Oper} {f : FuncId} {xf : Operand} {xs : Array Operand} {ats : Array TypeId} {fst cap : Array Value} {ts : List T} {F1 S1 F2 : St} {R : T → St → Prop} (hg : o.guard = none) (hd : o.dst = some d) (hN : d < cx.N)
    (ho : o.op = .call { callee := .value xf, args := xs, argTypes := ats }) (hf : calleeB cx.P f = true) (hxf : Ev env true xf (.v (.func (.func f) fst cap))) (hx : Evs env true xs.toList ts) (hS : S = F1 ++ (S1 ++ F2))
    (hc : ACalls cx.P f (fst.toList.map T.v ++ (ts ++ cap.toList.map T.v)) S1 R) (hr : ∀ t S', R t S' → AWL cx ops lo K ((d, true, t) :: env) (F1 ++ (S' ++ F2))) : AWL cx ops (o :: lo) K env S := by
  subst hS
  refine AWL.perm (S' := S1 ++ (F1 ++ F2)) (List.perm_append_comm_assoc S1 F1 F2) ?_
  exact AWL.call hg hd hN ho hf hxf hx (S1 := S1) (S2 := F1 ++ F2) rfl hc (fun t S' h => AWL.perm (S' := F1 ++ (S' ++ F2)) (List.perm_append_comm_assoc F1 S' F2) (hr t S' h))
theorem AWL.callE {d : Nat} {lo : List Oper} {f : FuncId} {xf : Operand} {xs : Array Operand} {ats : Array TypeId} {fst cap : Array Value} {ts : List T} {F1 S1 : St} {R : T → St → Prop} (hg : o.guard = none) (hd : o.dst = some d) (hN : d < cx.N)
    (ho : o.op = .call { callee := .value xf, args := xs, argTypes := ats }) (hf : calleeB cx.P f = true) (hxf : Ev env true xf (.v (.func (.func f) fst cap))) (hx : Evs env true xs.toList ts) (hS : S = F1 ++ S1)
    (hc : ACalls cx.P f (fst.toList.map T.v ++ (ts ++ cap.toList.map T.v)) S1 R) (hr : ∀ t S', R t S' → AWL cx ops lo K ((d, true, t) :: env) (F1 ++ S')) : AWL cx ops (o :: lo) K env S :=
  AWL.callF hg hd hN ho hf hxf hx (F1 := F1) (S1 := S1) (F2 := []) (by rw [List.append_nil]; exact hS) hc (fun t S' h => by rw [List.append_nil]; exact hr t S' h)
/-- A call that leaves its part of the state as it was; the part stands anywhere. -/
theorem AWL.callKP {d : Nat} {lo : List Oper} {f : FuncId} {xf : Operand} {xs : Array Operand} {ats : Array TypeId} {fst cap : Array Value} {ts : List T} {S1 S2 : St} {R : T → St → Prop} {r : Value} (hg : o.guard = none) (hd : o.dst = some d) (hN : d < cx.N)
    (ho : o.op = .call { callee := .value xf, args := xs, argTypes := ats }) (hf : calleeB cx.P f = true) (hxf : Ev env true xf (.v (.func (.func f) fst cap))) (hx : Evs env true xs.toList ts) (hS : S.Perm (S1 ++ S2))
    (hc : ACalls cx.P f (fst.toList.map T.v ++ (ts ++ cap.toList.map T.v)) S1 R) (hq : ∀ t S', R t S' → t = .v r ∧ S' = S1) (hr : AWL cx ops lo K ((d, true, .v r) :: env) S) : AWL cx ops (o :: lo) K env S :=
  AWL.perm hS.symm (AWL.callK hg hd hN ho hf hxf hx rfl hc hq (AWL.perm hS hr))
/-- The readers among what is left (m says which), in the text's order; then the rest. -/
theorem AWP.phase {fuel : Nat} {listed : Array Bool} (m : List Bool) (rest : Nat) (hf : m.count true + rest = fuel) (hB : phaseB .any l.toArray m listed = true) (hle : (List.range listed.size).all (fun j => !listed.getD j false || (afterM m 0 listed).getD j false) = true)
    (h : AWQ cx l.toArray (maskL m l) (fun env S => AWP cx l.toArray rest (afterM m 0 listed) K env S) env S) : AWP cx l.toArray fuel listed K env S := by
  intro a w hs
  subst hf
  unfold phaseB at hB
  simp only [Bool.and_eq_true, decide_eq_true_eq] at hB
  obtain ⟨b1, b2, b3, b4, b5⟩ := hB
  have h1 := h a w hs
  refine wpAny_of_T (C := fun w' => Keeps [] w w') b3 b4 b5 (Q := fun f a' => f = afterM m 0 listed ∧ ∀ w', Keeps [] w w' → ∃ env' S', Sim cx env' S' a' w' ∧ AWP cx l.toArray rest (afterM m 0 listed) K env' S') (fun f a' w' hw' hq => ?_) (m.count true) listed a w (Keeps.refl _ _) ⟨rfl, fun j hj => ?_, fun j hj => hj, fun k hk hkl => ?_⟩ ?_
  · obtain ⟨rfl, hq⟩ := hq
    obtain ⟨env', S', s1, s2⟩ := hq w' hw'
    exact s2 a' w' s1
  · rw [List.all_eq_true] at hle
    rcases Nat.lt_or_ge j listed.size with h' | h'
    · have := hle j (List.mem_range.2 h')
      rw [hj] at this
      simpa using this
    · rw [Array.getD_eq_getD_getElem?, Array.getElem?_eq_none h'] at hj
      cases hj
  · exfalso
    have hlt : k < listed.size := by
      rcases Nat.lt_or_ge k listed.size with h' | h'
      · exact h'
      · rw [Array.getD_eq_getD_getElem?, Array.getElem?_eq_none h'] at hkl
        cases hkl
    unfold strayB at b5
    rw [List.all_eq_true] at b5
    have := b5 k (List.mem_range.2 hlt)
    simp only [Bool.and_eq_true, Bool.or_eq_true, Bool.not_eq_true'] at this
    rcases this.1.1 with q | q
    · rw [hk] at q; cases q
    · have q := q.2
      rw [Array.getD_eq_getD_getElem?] at q hkl
      rcases hx : listed[k]? with _ | b
      · rw [hx] at hkl; cases hkl
      · rw [hx] at hkl q
        simp only [Option.getD_some] at hkl q
        rw [hkl] at q; cases q
  · refine wpT_lex b1 m l 0 listed a (fun j => by simp) b2 (fun j hj => ?_) (fun j hj => ?_) h1
    · rw [Nat.zero_add, List.getD_eq_getElem?_getD, hj]
      rfl
    · left
      refine ⟨j, by omega, ?_⟩
      rw [List.getD_eq_getElem?_getD] at hj
      rcases hx : m[j]? with _ | b
      · rw [hx] at hj; cases hj
      · rw [hx] at hj
        simp only [Option.getD_some] at hj
        rw [hj]
end
end Go.Proofs.Ytmiggpnkicdijaa

namespace Go.Proofs
open Go.RowKit Go.Maps Go.Sort Go.Shelf
/-- slices.Sort's two contracts at this dump, at the fence that asks nothing. -/
theorem Try.sorts58 (m : Nat) : AnyZ.SortsIn Try.prog Try.sorted58_ren Fence.wide m :=
  ⟨fun blk off cap ss W hH hblk hsz => callsIn_wide.2 (AnyM.slices_Sort_string Try.sort62 blk off cap ss W hH hblk hsz),
   fun p cap W => callsIn_wide.2 (AnyM.slices_Sort_string_none Try.sort62 p cap W)⟩

/-- **maps.Keys[map[string][]byte,string,[]byte], at whatever map, the nil one too:** a function value over ONE NEW BLOCK, which holds the map. -/
theorem Try.maps_Keys_59 (mb : Option Nat) (W : World) : CallsIn Fence.wide 5 Try.prog 59 #[.map mb] W fun e w' => e = .returned (.func (.func 63) #[] #[.pointer (some ⟨W.heap.size, 0, none⟩)]) ∧ w' = W.alloc (.cells #[.map mb] 64) :=
  AnyZ.keys_in Try.keys59 Fence.wide 5 trivial rfl mb W

end Go.Proofs
namespace Go.Proofs.Ytmiggpnkicdijaa
open Go Go.RowKit
set_option linter.unusedVariables false
theorem mapsKeys59 (m : Nat) : ACalls Try.prog 59 [.v (.map (some m))] [] (fun t S => ∃ h, t = .v (.func (.func 63) #[] #[.pointer (some ⟨h, 0, none⟩)]) ∧ S = [.box h 64 [.v (.map (some m))]]) := by
  intro X w args hX hnd hent hlen hargs
  have ha : args = [.map (some m)] := by
    match args, hlen, hargs with
    | [u], _, hargs =>
      have := hargs 0 _ u rfl rfl
      rw [this.v_inv]
  subst ha
  refine (callsIn_wide.1 (Try.maps_Keys_59 (some m) w)).mono fun e w' hq => ?_
  obtain ⟨rfl, rfl⟩ := hq
  refine ⟨_, _, [.box w.heap.size 64 [.v (.map (some m))]], rfl, Keeps.alloc _ _ _, by simp [M, Ent.blk], fun b hb => ?_, fun e he => ?_, .v _, ⟨_, rfl, rfl⟩⟩
  · right
    simp only [M, Ent.blk, List.filterMap_cons, List.filterMap_nil, List.mem_singleton] at hb
    omega
  · rw [List.mem_singleton] at he
    subst he
    exact ⟨[.map (some m)], heap_alloc_new w _, .cons (.v _) rfl .nil⟩
def keyS : Key → List UInt8
  | .s l => l
  | _ => []
def RK : Value → Option (DataW Unit × List MemPlace) := fun _ => some (.nil, [])
theorem rg_str {x : MapEntry} {l : List UInt8} (hx : x.key = .string ⟨l.toArray⟩) (hl : l.length ≤ maxLen) : WideElems.rd (H := Unit) Try.prog 9 RK x = some (.string l, .nil) := by
  unfold WideElems.rd
  have h : keyOf Try.prog 9 x.key = some (.string l) := by
    rw [hx]
    have hs : (⟨l.toArray⟩ : ByteArray).size ≤ maxLen := by
      show l.toArray.size ≤ maxLen
      simpa using hl
    unfold keyOf mapKey
    rw [Try.underlying9]
    simp only [hs, if_true]
  rw [h]
  rfl
set_option maxHeartbeats 1000000 in
/-- slices.Sorted at what maps.Keys handed back: the map's keys, sorted, in a new row. -/
theorem sorted58 (h m : Nat) (es : List (Key × T)) (hk : ∀ e ∈ es, ∃ l, e.1 = .s l) (hkl : ∀ e ∈ es, (keyS e.1).length ≤ maxLen) (hn : es.length ≤ 549755813888) (hnd : (es.map (fun e => keyS e.1)).Nodup) :
    ACalls Try.prog 58 [.v (.func (.func 63) #[] #[.pointer (some ⟨h, 0, none⟩)])] [.box h 64 [.v (.map (some m))], .map m es]
      (fun t S => ∃ (A : Option Addr) (c : Nat) (ss : List (List UInt8)), ss.Perm (es.map fun e => keyS e.1) ∧ t = .v (.slice A ss.length c) ∧ S = [.box h 64 [.v (.map (some m))], .map m es, .row A ss.length c 9 1 ((ss.mergeSort (fun x y => decide (x ≤ y))).map sv)]) := by
  intro X w args hX hndM hent hlen hargs
  have ha : args = [.func (.func 63) #[] #[.pointer (some ⟨h, 0, none⟩)]] := by
    match args, hlen, hargs with
    | [u], _, hargs =>
      have := hargs 0 _ u rfl rfl
      rw [this.v_inv]
  subst ha
  obtain ⟨us, hb1, hb2⟩ := hent (.box h 64 [.v (.map (some m))]) (by simp)
  obtain ⟨ms, clock, hm1, hm2, hm3, hst⟩ := hent (.map m es) (by simp)
  have hus : us = [.map (some m)] := by
    have hl := hb2.len
    match us, hl, hb2 with
    | [u], _, hb2 =>
      obtain ⟨u', e1, e2, _⟩ := hb2.get (i := 0) (t := .v (.map (some m))) rfl
      simp only [List.getElem?_cons_zero, Option.some.injEq] at e1
      rw [e1, e2.v_inv]
  subst hus
  have hmk : ∀ x ∈ ms.toList, ∃ l : List UInt8, x.key = .string ⟨l.toArray⟩ ∧ l.length ≤ maxLen := fun x hx => by
    have h1 : x.key ∈ es.map (·.1.val) := by rw [← hm2]; exact List.mem_map_of_mem hx
    obtain ⟨e, he, h2⟩ := List.mem_map.1 h1
    obtain ⟨l, hl⟩ := hk e he
    have h3 := hkl e he
    rw [hl] at h2 h3
    exact ⟨l, h2.symm, h3⟩
  have hsz : ms.size = es.length := by
    have := congrArg List.length hm2
    simpa using this
  have hstr : (ms.toList.map (WideElems.rg (H := Unit) Try.prog 9 RK)).map (fun p => strOf p.1) = es.map fun e => keyS e.1 := by
    have e1 : (ms.toList.map (WideElems.rg (H := Unit) Try.prog 9 RK)).map (fun p => strOf p.1) = (ms.toList.map (·.key)).map fun v => match v with | .string s => s.data.toList | _ => [] := by
      rw [List.map_map, List.map_map]
      apply List.map_congr_left
      intro x hx
      obtain ⟨l, h1, h2⟩ := hmk x hx
      have e3 : WideElems.rg (H := Unit) Try.prog 9 RK x = (.string l, .nil) := by
        unfold WideElems.rg
        rw [rg_str h1 h2]
        rfl
      simp only [Function.comp_apply, e3, h1]
      rfl
    rw [e1, hm2, List.map_map]
    apply List.map_congr_left
    intro e he
    obtain ⟨l, hl⟩ := hk e he
    show (match e.1.val with | .string s => s.data.toList | _ => []) = keyS e.1
    rw [hl]
    rfl
  have hown : w.ownsMap Try.prog 9 RK m es.length (.map ((ms.toList.map (WideElems.rg Try.prog 9 RK)).foldr DataW.insert [])) := by
    refine ⟨ms, clock, hm1, ⟨by rw [hsz]; unfold maxLen; omega, ⟨fun x hx => hst.1 _ (List.mem_map_of_mem hx), hst.2, ?_⟩, fun x hx => ?_⟩, by omega, rfl⟩
    · have h1 : (ms.toList.map (·.key)) = (es.map fun e => keyS e.1).map fun l => Value.string ⟨l.toArray⟩ := by
        rw [hm2, List.map_map]
        apply List.map_congr_left
        intro e he
        obtain ⟨l, hl⟩ := hk e he
        show e.1.val = Value.string ⟨(keyS e.1).toArray⟩
        rw [hl]
        rfl
      rw [h1, List.Nodup, List.pairwise_map]
      refine hnd.imp fun {a b} hab q => hab ?_
      have := congrArg (fun v => match v with | Value.string s => s.data.toList | _ => []) q
      simpa using this
    · obtain ⟨l, h1, h2⟩ := hmk x hx
      exact ⟨_, rg_str h1 h2⟩
  have hsize : Maps.size (.map ((ms.toList.map (WideElems.rg (H := Unit) Try.prog 9 RK)).foldr DataW.insert [])) = es.length := by
    show ((ms.toList.map (WideElems.rg (H := Unit) Try.prog 9 RK)).foldr DataW.insert []).length = _
    rw [(WideShapes.sorted_perm _).length_eq, List.length_map, Array.length_toList, hsz]
  have hhlt : h < w.heap.size := lt_of_heap hb1
  have hseq : SeqGives Fence.wide 2 Try.prog 63 #[.pointer (some ⟨h, 0, none⟩)] encStr (fun ss : List (List UInt8) => ss.Perm (strKeys (.map ((ms.toList.map (WideElems.rg (H := Unit) Try.prog 9 RK)).foldr DataW.insert [])))) (Maps.size (.map ((ms.toList.map (WideElems.rg (H := Unit) Try.prog 9 RK)).foldr DataW.insert []))) w :=
    AnyZ.keys_gives (ρ := Try.keys59_ren) { Try.keys59 with } Fence.wide _ trivial rfl (by omega) h m es.length _ _ hhlt (cell_of_heap hb1 0) hown
  have hc := AnyZ.sorted_in Try.sorted58 Fence.wide 5 trivial trivial trivial trivial rfl (by omega) (Try.sorts58 _) (enters_of Try.func62 (by kernel_rfl) rfl) 63 #[.pointer (some ⟨h, 0, none⟩)] trivial (enters_of Try.func63 (by kernel_rfl) rfl) _ _ (by rw [hsize]; unfold maxLen; omega) (by rw [hsize]; omega) _ hseq
  refine (callsIn_wide.1 hc).mono fun e w' hq => ?_
  obtain ⟨v, ss, rfl, hS, hrow, hnil, hbe⟩ := hq
  have hmlt : m < w.heap.size := lt_of_heap hm1
  have hkp : Keeps (M [.box h 64 [.v (.map (some m))], .map m es]) w w' := ⟨hbe.os, hbe.tape, hbe.output, hbe.size, fun k hk _ => hbe.block k hk⟩
  have hM0 : M [.box h 64 [.v (.map (some m))], .map m es] = [h, m] := rfl
  have hperm : ss.Perm (es.map fun e => keyS e.1) := by
    rw [← hstr]
    exact hS.trans ((WideShapes.sorted_perm _).map _)
  have hvals : ∀ L, VReps w' L ((ss.mergeSort (fun x y => decide (x ≤ y))).map sv) ((ss.mergeSort (fun x y => decide (x ≤ y))).map encStr) := fun L => by
    have e1 : (ss.mergeSort (fun x y => decide (x ≤ y))).map sv = ((ss.mergeSort (fun x y => decide (x ≤ y))).map encStr).map T.v := by
      rw [List.map_map]
      rfl
    rw [e1]
    exact vreps_vals _ (fun u hu => by
      obtain ⟨l, _, rfl⟩ := List.mem_map.1 hu
      rfl)
  have hold : ∀ (L : List Nat), (∀ b, b < w.heap.size → b ∈ L → b ∈ X ++ [h, m]) → ∀ e ∈ ([.box h 64 [.v (.map (some m))], .map m es] : St), e.holds w' L := fun L hL e he =>
    Ent.holds.mono (hent e he) hbe.size (fun b hb => hbe.block b (Ent.lt (hent e he) hb)) (fun b hb _ => hbe.block b hb) hL
  obtain ⟨hlen2, hcase⟩ := hrow
  rcases hcase with ⟨rfl, hn0⟩ | ⟨g, cap, cur, rfl, hg, hgh, hc1, hc2, hc3, hc4⟩
  · refine ⟨_, .v (.slice none ss.length 0), [.box h 64 [.v (.map (some m))], .map m es, .row none ss.length 0 9 1 ((ss.mergeSort (fun x y => decide (x ≤ y))).map sv)], rfl, hkp, hndM, fun b hb => .inl hb, fun e he => ?_, ?_, none, 0, ss, hperm, rfl, rfl⟩
    · rcases List.mem_cons.1 he with rfl | he
      · exact hold _ (fun b _ hb => hb) _ (by simp)
      · rcases List.mem_cons.1 he with rfl | he
        · exact hold _ (fun b _ hb => hb) _ (by simp)
        · rw [List.mem_singleton] at he
          subst he
          exact ⟨_, ⟨hlen2, Nat.zero_le _, by omega, .inl ⟨rfl, hn0, rfl⟩⟩, hvals _⟩
    · rw [hn0]
      exact .v _
  · refine ⟨_, .v (.slice (some ⟨g, 0, none⟩) ss.length cap), [.box h 64 [.v (.map (some m))], .map m es, .row (some ⟨g, 0, none⟩) ss.length cap 9 1 ((ss.mergeSort (fun x y => decide (x ≤ y))).map sv)], rfl, hkp, ?_, fun b hb => ?_, fun e he => ?_, .v _, _, _, ss, hperm, rfl, rfl⟩
    · have h2 : (M [.box h 64 [.v (.map (some m))], .map m es]).Nodup := hndM
      rw [hM0] at h2
      show ([h, m, g] : List Nat).Nodup
      simp only [List.nodup_cons, List.mem_cons, List.not_mem_nil, or_false, not_or, not_false_eq_true, and_true, List.nodup_nil] at h2 ⊢
      omega
    · have hb : b ∈ [h, m, g] := hb
      simp only [List.mem_cons, List.not_mem_nil, or_false] at hb
      rcases hb with rfl | rfl | rfl
      · exact .inl (by rw [hM0]; simp)
      · exact .inl (by rw [hM0]; simp)
      · exact .inr hg
    · have hLs : ∀ b, b < w.heap.size → b ∈ X ++ M [.box h 64 [.v (.map (some m))], .map m es, .row (some ⟨g, 0, none⟩) ss.length cap 9 1 ((ss.mergeSort (fun x y => decide (x ≤ y))).map sv)] → b ∈ X ++ [h, m] := fun b hb1 hb2 => by
        rcases List.mem_append.1 hb2 with q | q
        · exact List.mem_append.2 (.inl q)
        · have q : b ∈ [h, m, g] := q
          simp only [List.mem_cons, List.not_mem_nil, or_false] at q
          rcases q with rfl | rfl | rfl
          · simp
          · simp
          · omega
      rcases List.mem_cons.1 he with rfl | he
      · exact hold _ hLs _ (by simp)
      · rcases List.mem_cons.1 he with rfl | he
        · exact hold _ hLs _ (by simp)
        · rw [List.mem_singleton] at he
          subst he
          exact ⟨_, ⟨hlen2, hc2, hc1, .inr ⟨g, cur, (0, 0), rfl, hgh, .inl rfl, hc3, hc4⟩⟩, hvals _⟩
end Go.Proofs.Ytmiggpnkicdijaa

namespace Go.Proofs.Ytmiggpnkicdijaa
open Go
theorem ag_2 : aggSize Try.prog 2 = some (false, 1) := by kernel_rfl
theorem ag_26 : aggSize Try.prog 26 = some (false, 1) := by kernel_rfl
theorem ag_28 : aggSize Try.prog 28 = some (true, 2) := by kernel_rfl
theorem ag_3 : aggSize Try.prog 3 = some (false, 1) := by kernel_rfl
theorem ag_33 : aggSize Try.prog 33 = some (false, 1) := by kernel_rfl
theorem ag_36 : aggSize Try.prog 36 = some (true, 3) := by kernel_rfl
theorem ag_46 : aggSize Try.prog 46 = some (true, 2) := by kernel_rfl
theorem ag_5 : aggSize Try.prog 5 = some (false, 1) := by kernel_rfl
theorem ag_51 : aggSize Try.prog 51 = some (false, 1) := by kernel_rfl
theorem ag_58 : aggSize Try.prog 58 = some (true, 5) := by kernel_rfl
theorem ag_64 : aggSize Try.prog 64 = some (false, 1) := by kernel_rfl
theorem ag_67 : aggSize Try.prog 67 = some (true, 3) := by kernel_rfl
theorem ag_70 : aggSize Try.prog 70 = some (true, 60) := by kernel_rfl
theorem ag_71 : aggSize Try.prog 71 = some (false, 1) := by kernel_rfl
theorem ag_79 : aggSize Try.prog 79 = some (false, 1) := by kernel_rfl
theorem ag_80 : aggSize Try.prog 80 = some (false, 1) := by kernel_rfl
theorem ag_86 : aggSize Try.prog 86 = some (true, 3) := by kernel_rfl
theorem ag_9 : aggSize Try.prog 9 = some (false, 1) := by kernel_rfl
theorem ag_93 : aggSize Try.prog 93 = some (true, 2) := by kernel_rfl
theorem ar_68 : arrOf Try.prog 68 = some (19, 3) := by kernel_rfl
theorem bo_4 : isBoolB Try.prog 4 = true := by kernel_rfl
theorem by_71 : isBytes Try.prog 71 = true := by kernel_rfl
theorem ce_10 : calleeB Try.prog 10 = true := by kernel_rfl
theorem ce_11 : calleeB Try.prog 11 = true := by kernel_rfl
theorem ce_12 : calleeB Try.prog 12 = true := by kernel_rfl
theorem ce_13 : calleeB Try.prog 13 = true := by kernel_rfl
theorem ce_14 : calleeB Try.prog 14 = true := by kernel_rfl
theorem ce_16 : calleeB Try.prog 16 = true := by kernel_rfl
theorem ce_17 : calleeB Try.prog 17 = true := by kernel_rfl
theorem ce_18 : calleeB Try.prog 18 = true := by kernel_rfl
theorem ce_19 : calleeB Try.prog 19 = true := by kernel_rfl
theorem ce_20 : calleeB Try.prog 20 = true := by kernel_rfl
theorem ce_21 : calleeB Try.prog 21 = true := by kernel_rfl
theorem ce_22 : calleeB Try.prog 22 = true := by kernel_rfl
theorem ce_23 : calleeB Try.prog 23 = true := by kernel_rfl
theorem ce_24 : calleeB Try.prog 24 = true := by kernel_rfl
theorem ce_25 : calleeB Try.prog 25 = true := by kernel_rfl
theorem ce_26 : calleeB Try.prog 26 = true := by kernel_rfl
theorem ce_27 : calleeB Try.prog 27 = true := by kernel_rfl
theorem ce_28 : calleeB Try.prog 28 = true := by kernel_rfl
theorem ce_29 : calleeB Try.prog 29 = true := by kernel_rfl
theorem ce_30 : calleeB Try.prog 30 = true := by kernel_rfl
theorem ce_31 : calleeB Try.prog 31 = true := by kernel_rfl
theorem ce_32 : calleeB Try.prog 32 = true := by kernel_rfl
theorem ce_33 : calleeB Try.prog 33 = true := by kernel_rfl
theorem ce_34 : calleeB Try.prog 34 = true := by kernel_rfl
theorem ce_35 : calleeB Try.prog 35 = true := by kernel_rfl
theorem ce_36 : calleeB Try.prog 36 = true := by kernel_rfl
theorem ce_37 : calleeB Try.prog 37 = true := by kernel_rfl
theorem ce_38 : calleeB Try.prog 38 = true := by kernel_rfl
theorem ce_39 : calleeB Try.prog 39 = true := by kernel_rfl
theorem ce_40 : calleeB Try.prog 40 = true := by kernel_rfl
theorem ce_41 : calleeB Try.prog 41 = true := by kernel_rfl
theorem ce_42 : calleeB Try.prog 42 = true := by kernel_rfl
theorem ce_43 : calleeB Try.prog 43 = true := by kernel_rfl
theorem ce_44 : calleeB Try.prog 44 = true := by kernel_rfl
theorem ce_45 : calleeB Try.prog 45 = true := by kernel_rfl
theorem ce_46 : calleeB Try.prog 46 = true := by kernel_rfl
theorem ce_47 : calleeB Try.prog 47 = true := by kernel_rfl
theorem ce_48 : calleeB Try.prog 48 = true := by kernel_rfl
theorem ce_49 : calleeB Try.prog 49 = true := by kernel_rfl
theorem ce_50 : calleeB Try.prog 50 = true := by kernel_rfl
theorem ce_51 : calleeB Try.prog 51 = true := by kernel_rfl
theorem ce_52 : calleeB Try.prog 52 = true := by kernel_rfl
theorem ce_53 : calleeB Try.prog 53 = true := by kernel_rfl
theorem ce_54 : calleeB Try.prog 54 = true := by kernel_rfl
theorem ce_55 : calleeB Try.prog 55 = true := by kernel_rfl
theorem ce_56 : calleeB Try.prog 56 = true := by kernel_rfl
theorem ce_57 : calleeB Try.prog 57 = true := by kernel_rfl
theorem ce_58 : calleeB Try.prog 58 = true := by kernel_rfl
theorem ce_59 : calleeB Try.prog 59 = true := by kernel_rfl
theorem ce_9 : calleeB Try.prog 9 = true := by kernel_rfl
theorem el_26 : elemOf Try.prog 26 = some (46, 2, 32, [.string ⟨#[]⟩, .string ⟨#[]⟩]) := by kernel_rfl
theorem el_33 : elemOf Try.prog 33 = some (36, 3, 40, [.int .i64 0, .string ⟨#[]⟩, .string ⟨#[]⟩]) := by kernel_rfl
theorem el_71 : elemOf Try.prog 71 = some (5, 1, 1, [.int .u8 0]) := by kernel_rfl
theorem el_79 : elemOf Try.prog 79 = some (93, 2, 40, [.string ⟨#[]⟩, .slice none 0 0]) := by kernel_rfl
theorem el_80 : elemOf Try.prog 80 = some (86, 3, 32, [.int .i64 0, .string ⟨#[]⟩, .int .i64 0]) := by kernel_rfl
theorem fl_36 : flatOf Try.prog 36 = some [(0, .i), (1, .s), (2, .s)] := by kernel_rfl
theorem fl_46 : flatOf Try.prog 46 = some [(0, .s), (1, .s)] := by kernel_rfl
theorem fo_28_0 : fieldOff Try.prog 28 0 = some 0 := by kernel_rfl
theorem fo_28_1 : fieldOff Try.prog 28 1 = some 1 := by kernel_rfl
theorem fo_36_0 : fieldOff Try.prog 36 0 = some 0 := by kernel_rfl
theorem fo_36_1 : fieldOff Try.prog 36 1 = some 1 := by kernel_rfl
theorem fo_36_2 : fieldOff Try.prog 36 2 = some 2 := by kernel_rfl
theorem fo_46_0 : fieldOff Try.prog 46 0 = some 0 := by kernel_rfl
theorem fo_46_1 : fieldOff Try.prog 46 1 = some 1 := by kernel_rfl
theorem fo_58_0 : fieldOff Try.prog 58 0 = some 0 := by kernel_rfl
theorem fo_58_1 : fieldOff Try.prog 58 1 = some 1 := by kernel_rfl
theorem fo_58_2 : fieldOff Try.prog 58 2 = some 2 := by kernel_rfl
theorem fo_58_3 : fieldOff Try.prog 58 3 = some 3 := by kernel_rfl
theorem fo_58_4 : fieldOff Try.prog 58 4 = some 4 := by kernel_rfl
theorem fo_67_0 : fieldOff Try.prog 67 0 = some 0 := by kernel_rfl
theorem fo_67_1 : fieldOff Try.prog 67 1 = some 1 := by kernel_rfl
theorem fo_67_2 : fieldOff Try.prog 67 2 = some 2 := by kernel_rfl
theorem fo_70_0 : fieldOff Try.prog 70 0 = some 0 := by kernel_rfl
theorem fo_70_1 : fieldOff Try.prog 70 1 = some 1 := by kernel_rfl
theorem fo_70_2 : fieldOff Try.prog 70 2 = some 2 := by kernel_rfl
theorem fo_70_3 : fieldOff Try.prog 70 3 = some 59 := by kernel_rfl
theorem fo_82_0 : fieldOff Try.prog 82 0 = some 0 := by kernel_rfl
theorem fo_82_1 : fieldOff Try.prog 82 1 = some 1 := by kernel_rfl
theorem fo_82_2 : fieldOff Try.prog 82 2 = some 2 := by kernel_rfl
theorem fo_82_3 : fieldOff Try.prog 82 3 = some 3 := by kernel_rfl
theorem fo_86_0 : fieldOff Try.prog 86 0 = some 0 := by kernel_rfl
theorem fo_86_1 : fieldOff Try.prog 86 1 = some 1 := by kernel_rfl
theorem fo_86_2 : fieldOff Try.prog 86 2 = some 2 := by kernel_rfl
theorem fo_93_0 : fieldOff Try.prog 93 0 = some 0 := by kernel_rfl
theorem fo_93_1 : fieldOff Try.prog 93 1 = some 1 := by kernel_rfl
theorem kd_3 : kindOf Try.prog 3 = some .i64 := by kernel_rfl
theorem kd_5 : kindOf Try.prog 5 = some .u8 := by kernel_rfl
theorem kd_51 : kindOf Try.prog 51 = some .u64 := by kernel_rfl
theorem mp_64 : mapOf Try.prog 64 = some (.string, 9, 71, .slice none 0 0) := by kernel_rfl
theorem pn_24 : ptrOf Try.prog 24 = true := by kernel_rfl
theorem pt_99 : ptrTo Try.prog 99 = some 5 := by kernel_rfl
theorem sh_28 : structShape Try.prog 28 = some ([.string ⟨#[]⟩, .slice none 0 0], [(0, 1), (1, 1)]) := by kernel_rfl
theorem sh_36 : structShape Try.prog 36 = some ([.int .i64 0, .string ⟨#[]⟩, .string ⟨#[]⟩], [(0, 1), (1, 1), (2, 1)]) := by kernel_rfl
theorem sh_46 : structShape Try.prog 46 = some ([.string ⟨#[]⟩, .string ⟨#[]⟩], [(0, 1), (1, 1)]) := by kernel_rfl
theorem sh_67 : structShape Try.prog 67 = some ([.int .i64 0, .string ⟨#[]⟩, .int .i64 0], [(0, 1), (1, 1), (2, 1)]) := by kernel_rfl
theorem sh_70 : structShape Try.prog 70 = some ([.map none, .string ⟨#[]⟩, .int .i64 0, .string ⟨#[]⟩, .int .i64 0, .int .i64 0, .string ⟨#[]⟩, .int .i64 0, .int .i64 0, .string ⟨#[]⟩, .int .i64 0, .int .i64 0, .string ⟨#[]⟩, .int .i64 0, .int .i64 0, .string ⟨#[]⟩, .int .i64 0, .int .i64 0, .string ⟨#[]⟩, .int .i64 0, .int .i64 0, .string ⟨#[]⟩, .int .i64 0, .int .i64 0, .string ⟨#[]⟩, .int .i64 0, .int .i64 0, .string ⟨#[]⟩, .int .i64 0, .int .i64 0, .string ⟨#[]⟩, .int .i64 0, .int .i64 0, .string ⟨#[]⟩, .int .i64 0, .int .i64 0, .string ⟨#[]⟩, .int .i64 0, .int .i64 0, .string ⟨#[]⟩, .int .i64 0, .int .i64 0, .string ⟨#[]⟩, .int .i64 0, .int .i64 0, .string ⟨#[]⟩, .int .i64 0, .int .i64 0, .string ⟨#[]⟩, .int .i64 0, .int .i64 0, .string ⟨#[]⟩, .int .i64 0, .int .i64 0, .string ⟨#[]⟩, .int .i64 0, .int .i64 0, .string ⟨#[]⟩, .int .i64 0, .slice none 0 0], [(0, 1), (1, 1), (2, 57), (59, 1)]) := by kernel_rfl
theorem sh_82 : structShape Try.prog 82 = some ([.slice none 0 0, .string ⟨#[]⟩, .slice none 0 0, .slice none 0 0], [(0, 1), (1, 1), (2, 1), (3, 1)]) := by kernel_rfl
theorem sh_86 : structShape Try.prog 86 = some ([.int .i64 0, .string ⟨#[]⟩, .int .i64 0], [(0, 1), (1, 1), (2, 1)]) := by kernel_rfl
theorem sh_93 : structShape Try.prog 93 = some ([.string ⟨#[]⟩, .slice none 0 0], [(0, 1), (1, 1)]) := by kernel_rfl
theorem so_22 : sliceOf Try.prog 22 = some 9 := by kernel_rfl
theorem so_26 : sliceOf Try.prog 26 = some 46 := by kernel_rfl
theorem so_33 : sliceOf Try.prog 33 = some 36 := by kernel_rfl
theorem so_53 : sliceOf Try.prog 53 = some 58 := by kernel_rfl
theorem so_71 : sliceOf Try.prog 71 = some 5 := by kernel_rfl
theorem so_79 : sliceOf Try.prog 79 = some 93 := by kernel_rfl
theorem so_80 : sliceOf Try.prog 80 = some 86 := by kernel_rfl
theorem ss_22 : sliceSz Try.prog 22 = some (9, 1) := by kernel_rfl
theorem ss_26 : sliceSz Try.prog 26 = some (46, 2) := by kernel_rfl
theorem ss_33 : sliceSz Try.prog 33 = some (36, 3) := by kernel_rfl
theorem ss_53 : sliceSz Try.prog 53 = some (58, 5) := by kernel_rfl
theorem ss_71 : sliceSz Try.prog 71 = some (5, 1) := by kernel_rfl
theorem ss_79 : sliceSz Try.prog 79 = some (93, 2) := by kernel_rfl
theorem ss_80 : sliceSz Try.prog 80 = some (86, 3) := by kernel_rfl
theorem st_9 : isStr Try.prog 9 = true := by kernel_rfl
theorem zc_46 : zeroCellsOf Try.prog 46 = some [.string ⟨#[]⟩, .string ⟨#[]⟩] := by kernel_rfl
theorem zc_70 : zeroCellsOf Try.prog 70 = some [.map none, .string ⟨#[]⟩, .int .i64 0, .string ⟨#[]⟩, .int .i64 0, .int .i64 0, .string ⟨#[]⟩, .int .i64 0, .int .i64 0, .string ⟨#[]⟩, .int .i64 0, .int .i64 0, .string ⟨#[]⟩, .int .i64 0, .int .i64 0, .string ⟨#[]⟩, .int .i64 0, .int .i64 0, .string ⟨#[]⟩, .int .i64 0, .int .i64 0, .string ⟨#[]⟩, .int .i64 0, .int .i64 0, .string ⟨#[]⟩, .int .i64 0, .int .i64 0, .string ⟨#[]⟩, .int .i64 0, .int .i64 0, .string ⟨#[]⟩, .int .i64 0, .int .i64 0, .string ⟨#[]⟩, .int .i64 0, .int .i64 0, .string ⟨#[]⟩, .int .i64 0, .int .i64 0, .string ⟨#[]⟩, .int .i64 0, .int .i64 0, .string ⟨#[]⟩, .int .i64 0, .int .i64 0, .string ⟨#[]⟩, .int .i64 0, .int .i64 0, .string ⟨#[]⟩, .int .i64 0, .int .i64 0, .string ⟨#[]⟩, .int .i64 0, .int .i64 0, .string ⟨#[]⟩, .int .i64 0, .int .i64 0, .string ⟨#[]⟩, .int .i64 0, .slice none 0 0] := by kernel_rfl
end Go.Proofs.Ytmiggpnkicdijaa

namespace Go.Proofs.Ytmiggpnkicdijaa
open Go Go.RowKit
structure Desc where
  kind : Int
  name : List UInt8
  place : Nat
  deriving Inhabited, DecidableEq
structure Evt where
  kind : Int
  name : List UInt8
  text : List UInt8
  deriving Inhabited, DecidableEq
/-- A file; where its bytes lie. -/
structure FileR where
  name : List UInt8
  bytes : List UInt8
  A : Option Addr
  c : Nat
  deriving Inhabited
structure WS where
  files : List FileR
  stdin : List UInt8
  opn : List Desc
  trace : List Evt
  tA : Option Addr
  tc : Nat
  deriving Inhabited
def descCells (d : Desc) : List T := [.v (.int .i64 d.kind), sv d.name, .v (.int .i64 (d.place : Int))]
def evCells (e : Evt) : List T := [.v (.int .i64 e.kind), sv e.name, sv e.text]
def wCells (m : Nat) (s : List UInt8) (o : List Desc) (A : Option Addr) (n c : Nat) : List T := [.v (.map (some m)), sv s] ++ o.flatMap descCells ++ [.v (.slice A n c)]
def fileKey (f : FileR) : Key × T := (.s f.name, .v (.slice f.A f.bytes.length f.c))
def fileRow (f : FileR) : Ent := .row f.A f.bytes.length f.c 5 1 (f.bytes.map u8)
/-- The world's entries. -/
def WSt (b m : Nat) (ws : WS) : St := .box b 70 (wCells m ws.stdin ws.opn ws.tA ws.trace.length ws.tc) :: .map m (ws.files.map fileKey) :: .row ws.tA ws.trace.length ws.tc 36 3 (ws.trace.flatMap evCells) :: ws.files.map fileRow
def wp (b : Nat) : T := .v (.pointer (some ⟨b, 0, none⟩))

theorem len_flat {α : Type} {f : α → List T} {k : Nat} (hk : ∀ a, (f a).length = k) : ∀ (l : List α), (l.flatMap f).length = l.length * k
  | [] => by simp
  | a :: r => by rw [List.flatMap_cons, List.length_append, hk, len_flat hk r, List.length_cons, Nat.add_mul]; omega
theorem drop_flat {α : Type} {f : α → List T} {k : Nat} (hk : ∀ a, (f a).length = k) : ∀ (l : List α) (j : Nat), (l.flatMap f).drop (j * k) = (l.drop j).flatMap f
  | [], j => by simp
  | a :: r, 0 => by simp
  | a :: r, j + 1 => by
    rw [List.flatMap_cons, Nat.add_mul, Nat.one_mul, Nat.add_comm, List.drop_append, List.drop_of_length_le (by rw [hk]; omega), hk, List.nil_append, Nat.add_sub_cancel_left, drop_flat hk r j]
    rfl
theorem getD_eq' {α : Type} [Inhabited α] {l : List α} {j : Nat} (h : j < l.length) : l.getD j default = l[j] := by simp [h]
theorem flat_at {α : Type} [Inhabited α] {f : α → List T} {k : Nat} (hk : ∀ a, (f a).length = k) {l : List α} {j : Nat} (h : j < l.length) (i : Nat) (hi : i < k) : (l.flatMap f)[j * k + i]? = (f (l.getD j default))[i]? := by
  rw [← List.getElem?_drop, drop_flat hk, List.drop_eq_getElem_cons h, List.flatMap_cons, getD_eq' h, List.getElem?_append_left (by rw [hk]; exact hi)]
theorem mid_set {X F Y new : List T} {p i n : Nat} (hX : X.length = p) (hF : i + n ≤ F.length) : (X ++ (F ++ Y)).take (p + i) ++ new ++ (X ++ (F ++ Y)).drop (p + i + n) = X ++ ((F.take i ++ new ++ F.drop (i + n)) ++ Y) := by
  subst hX
  rw [List.take_append, List.drop_append, List.take_of_length_le (l := X) (by omega), List.drop_of_length_le (l := X) (by omega), Nat.add_sub_cancel_left, show X.length + i + n - X.length = i + n by omega, List.nil_append]
  rw [List.take_append_of_le_length (by omega), List.drop_append_of_le_length hF]
  simp only [List.append_assoc]
theorem flat_set {α : Type} [Inhabited α] {f : α → List T} {k : Nat} (hk : ∀ a, (f a).length = k) {l : List α} {j : Nat} (h : j < l.length) (i n : Nat) (new : List T) (a' : α) (hin : i + n ≤ k) (he : f a' = (f (l.getD j default)).take i ++ new ++ (f (l.getD j default)).drop (i + n)) :
    (l.flatMap f).take (j * k + i) ++ new ++ (l.flatMap f).drop (j * k + i + n) = (l.set j a').flatMap f := by
  have e0 : l = l.take j ++ l[j] :: l.drop (j + 1) := by rw [← List.drop_eq_getElem_cons h, List.take_append_drop]
  have e1 : l.set j a' = l.take j ++ a' :: l.drop (j + 1) := by rw [List.set_eq_take_append_cons_drop, if_pos h]
  have hL : ((l.take j).flatMap f).length = j * k := by rw [len_flat hk, List.length_take, Nat.min_eq_left (by omega)]
  have e2 : l.flatMap f = (l.take j).flatMap f ++ (f l[j] ++ (l.drop (j + 1)).flatMap f) := by
    conv => lhs; rw [e0]
    rw [List.flatMap_append, List.flatMap_cons]
  rw [e1, List.flatMap_append, List.flatMap_cons, he, e2, getD_eq' h]
  exact mid_set hL (by rw [hk]; exact hin)
theorem dk (d : Desc) : (descCells d).length = 3 := rfl
theorem ek (e : Evt) : (evCells e).length = 3 := rfl
theorem len_desc {o : List Desc} : (o.flatMap descCells).length = o.length * 3 := len_flat dk o
theorem len_ev {l : List Evt} : (l.flatMap evCells).length = l.length * 3 := len_flat ek l
theorem wCells_len {m : Nat} {s : List UInt8} {o : List Desc} {A : Option Addr} {n c : Nat} : (wCells m s o A n c).length = o.length * 3 + 3 := by
  simp only [wCells, List.length_append, len_desc, List.length_cons, List.length_nil]; omega
/-- The cells of a descriptor. -/
theorem desc_at {m : Nat} {s : List UInt8} {o : List Desc} {A : Option Addr} {n c j : Nat} (h : j < o.length) (i : Nat) (hi : i < 3) : (wCells m s o A n c)[2 + j * 3 + i]? = (descCells (o.getD j default))[i]? := by
  unfold wCells
  rw [List.append_assoc, List.getElem?_append_right (by simp; omega)]
  have e : 2 + j * 3 + i - [T.v (.map (some m)), sv s].length = j * 3 + i := by simp; omega
  rw [e, List.getElem?_append_left (by rw [len_desc]; omega)]
  exact flat_at dk h i hi
theorem kind_at {m : Nat} {s : List UInt8} {o : List Desc} {A : Option Addr} {n c j : Nat} (h : j < o.length) : (wCells m s o A n c)[2 + j * 3 + 0]? = some (.v (.int .i64 (o.getD j default).kind)) := desc_at h 0 (by decide)
theorem name_at {m : Nat} {s : List UInt8} {o : List Desc} {A : Option Addr} {n c j : Nat} (h : j < o.length) : (wCells m s o A n c)[2 + j * 3 + 1]? = some (sv (o.getD j default).name) := desc_at h 1 (by decide)
theorem place_at {m : Nat} {s : List UInt8} {o : List Desc} {A : Option Addr} {n c j : Nat} (h : j < o.length) : (wCells m s o A n c)[2 + j * 3 + 2]? = some (.v (.int .i64 ((o.getD j default).place : Int))) := desc_at h 2 (by decide)
theorem trace_at {m : Nat} {s : List UInt8} {o : List Desc} {A : Option Addr} {n c : Nat} (h : o.length = 19) : (wCells m s o A n c)[59]? = some (.v (.slice A n c)) := by
  have hl : ([T.v (.map (some m)), sv s] ++ o.flatMap descCells).length = 59 := by rw [List.length_append, len_desc, h]; rfl
  unfold wCells
  rw [List.getElem?_append_right (by omega), hl]
  rfl
/-- Stores into the world's cells. -/
theorem set_desc {m : Nat} {s : List UInt8} {o : List Desc} {A : Option Addr} {n c j : Nat} (h : j < o.length) (i q : Nat) (new : List T) (d' : Desc) (hin : i + q ≤ 3) (he : descCells d' = (descCells (o.getD j default)).take i ++ new ++ (descCells (o.getD j default)).drop (i + q)) :
    (wCells m s o A n c).take (2 + j * 3 + i) ++ new ++ (wCells m s o A n c).drop (2 + j * 3 + i + q) = wCells m s (o.set j d') A n c := by
  have hf := flat_set dk h i q new d' hin he
  have hl : j * 3 + i + q ≤ (o.flatMap descCells).length := by rw [len_desc]; omega
  unfold wCells
  rw [← hf]
  rw [show 2 + j * 3 + i = 2 + (j * 3 + i) by omega, show 2 + (j * 3 + i) + q = 2 + (j * 3 + i + q) by omega]
  have e1 : ∀ (B C : List T) (p : Nat), p ≤ B.length → (([T.v (.map (some m)), sv s] ++ B ++ C).take (2 + p)) = [T.v (.map (some m)), sv s] ++ B.take p := fun B C p hp => by
    rw [List.append_assoc, Nat.add_comm 2 p]
    simp only [List.cons_append, List.nil_append, List.take_succ_cons]
    rw [List.take_append_of_le_length hp]
  have e2 : ∀ (B C : List T) (p : Nat), p ≤ B.length → (([T.v (.map (some m)), sv s] ++ B ++ C).drop (2 + p)) = B.drop p ++ C := fun B C p hp => by
    rw [List.append_assoc, Nat.add_comm 2 p]
    simp only [List.cons_append, List.nil_append, List.drop_succ_cons]
    rw [List.drop_append_of_le_length hp]
  rw [e1 _ _ _ (by omega), e2 _ _ _ hl]
  simp only [List.append_assoc]
theorem set_trace {m : Nat} {s : List UInt8} {o : List Desc} {A A' : Option Addr} {n c n' c' : Nat} (h : o.length = 19) : (wCells m s o A n c).take 59 ++ [.v (.slice A' n' c')] ++ (wCells m s o A n c).drop 60 = wCells m s o A' n' c' := by
  have hl : ([T.v (.map (some m)), sv s] ++ o.flatMap descCells).length = 59 := by rw [List.length_append, len_desc, h]; rfl
  unfold wCells
  rw [List.take_left' hl, List.drop_of_length_le (by rw [List.length_append, hl]; simp), List.append_nil]
theorem ev_at {l : List Evt} {j : Nat} (h : j < l.length) (i : Nat) (hi : i < 3) : (l.flatMap evCells)[j * 3 + i]? = (evCells (l.getD j default))[i]? := flat_at ek h i hi
theorem evk_at {l : List Evt} {j : Nat} (h : j < l.length) : (l.flatMap evCells)[j * 3 + 0]? = some (.v (.int .i64 (l.getD j default).kind)) := ev_at h 0 (by decide)
theorem evn_at {l : List Evt} {j : Nat} (h : j < l.length) : (l.flatMap evCells)[j * 3 + 1]? = some (sv (l.getD j default).name) := ev_at h 1 (by decide)
theorem evt_at {l : List Evt} {j : Nat} (h : j < l.length) : (l.flatMap evCells)[j * 3 + 2]? = some (sv (l.getD j default).text) := ev_at h 2 (by decide)
theorem set_ev {l : List Evt} {j : Nat} (h : j < l.length) (t : List UInt8) : (l.flatMap evCells).set (j * 3 + 2) (sv t) = (l.set j { l.getD j default with text := t }).flatMap evCells := by
  have e := flat_set ek h 2 1 [sv t] { l.getD j default with text := t } (by decide) rfl
  rw [← e, List.set_eq_take_append_cons_drop, if_pos (by rw [len_ev]; omega), List.append_assoc]
  rfl
theorem clone_cells (s : List UInt8) : List.map u8 s ++ List.drop s.length (List.replicate s.length (List.map T.v [Value.int .u8 0])).flatten = List.map u8 s := by
  rw [List.drop_of_length_le (by simp), List.append_nil]
theorem files_good (l : List FileR) : ∀ e ∈ l.map fileKey, goodK .string e.1 = true := fun e he => by
  obtain ⟨f, _, rfl⟩ := List.mem_map.1 he
  rfl
end Go.Proofs.Ytmiggpnkicdijaa

namespace Go.Proofs.Ytmiggpnkicdijaa
open Go Go.RowKit
set_option linter.unusedVariables false
set_option linter.unnecessarySimpa false
set_option linter.unusedSimpArgs false

set_option maxHeartbeats 400000 in
theorem indexByte54 (s : List UInt8) (c : UInt8) :
    ACalls Try.prog 54 [sv s, .v (.int .u8 c.toNat)] [] fun t S => t = (.v (.int .i64 (Lib.indexByte s c))) := by
  refine ACalls.intro Try.func54 rfl Try.ntmps54 (Nat.le_of_ble_eq_true rfl) rfl fun X w0 => ?_
  refine AW.rseq ?_
  refine Y1 (Yv.assign rfl eV) ?_
  refine nl ?_
  refine AW.rseq ?_
  refine Y1 (Yv.move rfl eV) ?_
  refine Y1 (Yv.move rfl eV) ?_
  refine Y1 (Yv.indexByte Try.func60 (by kernel_rfl) (by kernel_rfl) (by kernel_rfl) (by kernel_rfl) rfl (E rfl rfl) (E rfl rfl) (E rfl rfl)) ?_
  refine Y1 (Yv.assign rfl eV) ?_
  refine nl ?_
  refine AW.ret (retI (.tmp rfl .nil) ?_)
  rfl

set_option maxHeartbeats 400000 in
theorem indexByte32 (s : List UInt8) (c : UInt8) :
    ACalls Try.prog 32 [sv s, .v (.int .u8 c.toNat)] [] fun t S => t = (.v (.int .i64 (Lib.indexByte s c))) := by
  refine ACalls.intro Try.func32 rfl Try.ntmps32 (Nat.le_of_ble_eq_true rfl) rfl fun X w0 => ?_
  refine AW.rseq ?_
  refine Y1 (Yv.assign rfl eV) ?_
  refine nl ?_
  refine AW.rseq ?_
  refine Y1 (Yv.move rfl eV) ?_
  refine Y1 (Yv.move rfl eV) ?_
  refine AWL.callP rfl rfl (B rfl) rfl ce_54 (E rfl rfl) (evsC (E rfl rfl) (evsC (E rfl rfl) evs0)) (indexByte54 s c) (fun t S h => h) ?_
  refine Y1 (Yv.assign rfl eV) ?_
  refine nl ?_
  refine AW.ret (retI (.tmp rfl .nil) ?_)
  rfl

set_option maxHeartbeats 400000 in
theorem clone53 (s : List UInt8) (h : s.length ≤ 140737488355000) :
    ACalls Try.prog 53 [sv s] [] fun t S => t = sv s := by
  refine ACalls.intro Try.func53 rfl Try.ntmps53 (Nat.le_of_ble_eq_true rfl) rfl fun X w0 => ?_
  refine AW.rseq ?_
  refine Y1 (Yv.assign rfl eV) ?_
  refine nl ?_
  refine AW.seq ?_
  refine AW.rseq ?_
  refine Y1 (Yv.move rfl eV) ?_
  refine Y1 (Yv.lenL rfl st_9 (E rfl rfl)) ?_
  refine Y1 (Yv.eql rfl eV eV) ?_
  refine nl ?_
  refine AW.cond rfl (fun h0t => ?_) (fun h0f => ?_)
  ·
    try replace h0t := of_decide_eq_true h0t
    have hne : s = [] := List.eq_nil_of_length_eq_zero (by omega)
    refine AW.rseq ?_
    refine Y1 (Yv.assign rfl eV) ?_
    refine nl ?_
    refine AW.ret (retI (.tmp rfl .nil) ?_)
    rw [hne]; rfl
  ·
    try replace h0f := of_decide_eq_false h0f
    have hne : s ≠ [] := fun e => h0f (by rw [e]; rfl)
    have hlen : 0 < s.length := List.length_pos_iff.2 hne
    refine AW.skip ?_
    refine AW.rseq ?_
    refine Y1 (Yv.move rfl eV) ?_
    refine Y1 (Yv.lenL rfl st_9 (E rfl rfl)) ?_
    refine AWL.makeRow (n := s.length) (c := s.length) rfl rfl (B rfl) rfl el_71 (E rfl rfl) (E rfl rfl) (by omega) (by omega) (by unfold maxLen; omega) (fun A9 => ?_)
    refine Y1 (Yv.assign rfl eV) ?_
    refine nl ?_
    refine AW.rseq ?_
    refine Y1 (Yv.move rfl eV) ?_
    refine Y1 (Yv.move rfl eV) ?_
    refine AWL.copyRow (i := 0) rfl rfl (B rfl) rfl el_71 rfl (E rfl rfl) (SrcT.strL st_9 (E rfl rfl)) (by omega) (by omega) ?_
    refine nl ?_
    rw [clone_cells s]
    refine AW.rseq ?_
    refine Y1 (Yv.move rfl eV) ?_
    refine Y1 (Yv.indexRow rfl ss_71 (i := 0) rfl (E rfl rfl) (E rfl rfl) (fun hg => ⟨rfl, by omega⟩)) ?_
    refine Y1 (Yv.move rfl eV) ?_
    refine Y1 (Yv.lenV rfl so_71 (E rfl rfl)) ?_
    refine AWL.unsafeStr (i := 0) rfl rfl (B rfl) rfl pt_99 rfl (E rfl rfl) (E rfl rfl) hne (by omega) ?_
    refine Y1 (Yv.assign rfl eV) ?_
    refine nl ?_
    refine AW.ret (retI (.tmp rfl .nil) ?_)
    rfl

set_option maxHeartbeats 400000 in
theorem clone26 (s : List UInt8) (h : s.length ≤ 140737488355000) :
    ACalls Try.prog 26 [sv s] [] fun t S => t = sv s := by
  refine ACalls.intro Try.func26 rfl Try.ntmps26 (Nat.le_of_ble_eq_true rfl) rfl fun X w0 => ?_
  refine AW.rseq ?_
  refine Y1 (Yv.assign rfl eV) ?_
  refine nl ?_
  refine AW.rseq ?_
  refine Y1 (Yv.move rfl eV) ?_
  refine AWL.callP rfl rfl (B rfl) rfl ce_53 (E rfl rfl) (evsC (E rfl rfl) evs0) (clone53 s h) (fun t S h => h) ?_
  refine Y1 (Yv.assign rfl eV) ?_
  refine nl ?_
  refine AW.ret (retI (.tmp rfl .nil) ?_)
  rfl

set_option maxHeartbeats 400000 in
theorem fits27 (s : List UInt8) :
    ACalls Try.prog 27 [sv s] [] fun t S => t = .v (.bool (!decide (s = []) && decide ((s.length : Int) ≤ 255) && decide (Lib.indexByte s 0 < 0))) := by
  refine ACalls.intro Try.func27 rfl Try.ntmps27 (Nat.le_of_ble_eq_true rfl) rfl fun X w0 => ?_
  refine AW.rseq ?_
  refine Y1 (Yv.assign rfl eV) ?_
  refine nl ?_
  refine AW.rseq ?_
  refine Y1 (Yv.move rfl eV) ?_
  refine Y1 (Yv.neqL rfl (E rfl rfl) (E rfl rfl)) ?_
  refine Y1 (Yv.move rfl eV) ?_
  refine AWL.ygT rfl rfl rfl rfl (B rfl) (Yv.move rfl (E rfl rfl)) ?_
  refine AWL.ygT rfl rfl rfl rfl (B rfl) (Yv.lenL rfl st_9 (Eg rfl rfl id)) ?_
  refine AWL.ygT rfl rfl rfl rfl (B rfl) (Yv.leq rfl (Eg rfl rfl id) (E rfl rfl)) ?_
  refine Y1 (Yv.pickAnd rfl (E rfl rfl) (Eg rfl rfl id)) ?_
  refine Y1 (Yv.move rfl eV) ?_
  refine AWL.ygT rfl rfl rfl rfl (B rfl) (Yv.move rfl (E rfl rfl)) ?_
  refine AWL.callPgT rfl rfl rfl rfl (B rfl) rfl ce_32 (E rfl rfl) (evsC (Eg rfl rfl id) (evsC (E rfl rfl) evs0)) (fun hg => indexByte32 s 0) (fun t S h => h) ?_
  refine AWL.ygT rfl rfl rfl rfl (B rfl) (Yv.lss rfl (Eg rfl rfl id) (E rfl rfl)) ?_
  refine Y1 (Yv.pickAnd rfl (E rfl rfl) (Eg rfl rfl id)) ?_
  refine Y1 (Yv.assign rfl eV) ?_
  refine nl ?_
  refine AW.ret (retI (.tmp rfl .nil) ?_)
  rfl

end Go.Proofs.Ytmiggpnkicdijaa

namespace Go.Proofs.Ytmiggpnkicdijaa
open Go Go.RowKit
def lastE (l : List Evt) : Evt := l.getD (l.length - 1) default
def sayF (k : Int) (name text : List UInt8) (l : List Evt) : List Evt :=
  if text = [] then l else if 0 < l.length ∧ (lastE l).kind = k ∧ (lastE l).name = name then l.set (l.length - 1) { lastE l with text := (lastE l).text ++ text } else l ++ [⟨k, name, text⟩]
/-- Bounds, so that nothing runs over. -/
structure WB (n : Nat) (ws : WS) : Prop where
  opn : ws.opn.length = 19
  tr : ws.trace.length ≤ n
  txt : ∀ e ∈ ws.trace, e.text.length ≤ n
  fl : ∀ f ∈ ws.files, f.bytes.length ≤ n
  pl : ∀ d ∈ ws.opn, d.place ≤ n
  sin : ws.stdin.length ≤ n
theorem last_mem {l : List Evt} (h : 0 < l.length) : lastE l ∈ l := by
  unfold lastE
  rw [getD_eq' (by omega)]
  exact List.getElem_mem _
theorem sayF_nil {k : Int} {name : List UInt8} {l : List Evt} : sayF k name [] l = l := by simp [sayF]
theorem sayF_more {k : Int} {name text : List UInt8} {l : List Evt} (h0 : text ≠ []) (h : 0 < l.length ∧ (lastE l).kind = k ∧ (lastE l).name = name) : sayF k name text l = l.set (l.length - 1) { lastE l with text := (lastE l).text ++ text } := by
  unfold sayF; rw [if_neg h0, if_pos h]
theorem sayF_new {k : Int} {name text : List UInt8} {l : List Evt} (h0 : text ≠ []) (h : ¬ (0 < l.length ∧ (lastE l).kind = k ∧ (lastE l).name = name)) : sayF k name text l = l ++ [⟨k, name, text⟩] := by
  unfold sayF; rw [if_neg h0, if_neg h]
theorem sayF_bounds {k : Int} {name text : List UInt8} {l : List Evt} {n : Nat} (h1 : l.length ≤ n) (h2 : ∀ e ∈ l, e.text.length ≤ n) : (sayF k name text l).length ≤ n + text.length + 1 ∧ ∀ e ∈ sayF k name text l, e.text.length ≤ n + text.length := by
  unfold sayF
  split
  · exact ⟨by omega, fun e he => by have := h2 e he; omega⟩
  · split
    · rename_i hc
      refine ⟨by rw [List.length_set]; omega, fun e he => ?_⟩
      rcases List.mem_or_eq_of_mem_set he with he | rfl
      · have := h2 e he; omega
      · have := h2 _ (last_mem hc.1)
        simp only [List.length_append]; omega
    · refine ⟨by simp; omega, fun e he => ?_⟩
      rcases List.mem_append.1 he with he | he
      · have := h2 e he; omega
      · rcases List.mem_singleton.1 he with rfl
        simp only; omega
/-- The trace's entries, said anew. -/
theorem wst_more {b m : Nat} {ws : WS} {k : Int} {name text : List UInt8} (h0 : text ≠ []) (h : 0 < ws.trace.length ∧ (lastE ws.trace).kind = k ∧ (lastE ws.trace).name = name) :
    WSt b m { ws with trace := sayF k name text ws.trace } = .box b 70 (wCells m ws.stdin ws.opn ws.tA ws.trace.length ws.tc) :: .map m (ws.files.map fileKey) :: .row ws.tA ws.trace.length ws.tc 36 3 ((ws.trace.flatMap evCells).set ((ws.trace.length - 1) * 3 + 2) (sv ((lastE ws.trace).text ++ text))) :: ws.files.map fileRow := by
  rw [sayF_more h0 h]
  simp only [WSt, List.length_set]
  rw [set_ev (by omega)]
  rfl
theorem wst_new {b m : Nat} {ws : WS} {k : Int} {name text : List UInt8} {A : Option Addr} {c : Nat} (ho : ws.opn.length = 19) (h0 : text ≠ []) (h : ¬ (0 < ws.trace.length ∧ (lastE ws.trace).kind = k ∧ (lastE ws.trace).name = name)) :
    WSt b m { ws with trace := sayF k name text ws.trace, tA := A, tc := c } = .box b 70 ((wCells m ws.stdin ws.opn ws.tA ws.trace.length ws.tc).take 59 ++ [.v (.slice A (ws.trace.length + 1) c)] ++ (wCells m ws.stdin ws.opn ws.tA ws.trace.length ws.tc).drop 60) :: .map m (ws.files.map fileKey) ::
      .row A (ws.trace.length + 1) c 36 3 (ws.trace.flatMap evCells ++ [.v (.int .i64 k), sv name, sv text]) :: ws.files.map fileRow := by
  rw [sayF_new h0 h]
  simp only [WSt, List.length_append, List.length_cons, List.length_nil, List.flatMap_append, List.flatMap_cons, List.flatMap_nil, List.append_nil, Nat.zero_add]
  rw [set_trace ho]
  rfl
end Go.Proofs.Ytmiggpnkicdijaa

namespace Go.Proofs.Ytmiggpnkicdijaa
open Go Go.RowKit
set_option linter.unusedVariables false
set_option linter.unnecessarySimpa false
set_option linter.unusedSimpArgs false

set_option maxHeartbeats 400000 in
theorem at29 (b j : Nat) (hj : j < 19) :
    ACalls Try.prog 29 [wp b, .v (.int .i64 (j : Int))] [] fun t S => t = .v (.pointer (some ⟨b, 2 + j * 3, none⟩)) := by
  refine ACalls.intro Try.func29 rfl Try.ntmps29 (Nat.le_of_ble_eq_true rfl) rfl fun X w0 => ?_
  refine AW.rseq ?_
  refine Y1 (Yv.assign rfl eV) ?_
  refine nl ?_
  refine AW.seq ?_
  refine AW.rseq ?_
  refine Y1 (Yv.move rfl eV) ?_
  refine Y1 (Yv.eqlNilP rfl pn_24 (E rfl rfl)) ?_
  refine Y1 (Yv.move rfl eV) ?_
  refine AWL.ygF rfl rfl rfl rfl (B rfl) (Yv.move rfl (E rfl rfl)) ?_
  refine AWL.ygF rfl rfl rfl rfl (B rfl) (Yv.lss rfl (Eg rfl rfl id) (E rfl rfl)) ?_
  refine Y1 (Yv.pickOr (t := .const (.bool true)) rfl (E rfl rfl) (Eg rfl rfl id)) ?_
  refine Y1 (Yv.move rfl eV) ?_
  refine AWL.ygF rfl rfl rfl rfl (B rfl) (Yv.move rfl (E rfl rfl)) ?_
  refine AWL.ygF rfl rfl rfl rfl (B rfl) (Yv.geq rfl (Eg rfl rfl id) (E rfl rfl)) ?_
  refine Y1 (Yv.pickOr (t := .const (.bool true)) rfl (E rfl rfl) (Eg rfl rfl id)) ?_
  refine nl ?_
  refine AW.cond rfl (fun h0t => ?_) (fun h0f => ?_)
  ·
    try replace h0t := of_decide_eq_true h0t
    omega
  ·
    try replace h0f := of_decide_eq_false h0f
    refine AW.skip ?_
    refine AW.rseq ?_
    refine Y1 (Yv.move rfl eV) ?_
    refine Y1 (Yv.move rfl eV) ?_
    refine Y1 (Yv.nilChk rfl eV) ?_
    refine Y1 (Yv.fieldBox rfl fo_70_2 eV) ?_
    refine Y1 (Yv.indexArr rfl ar_68 (E rfl rfl) (E rfl rfl) (fun hg => ⟨rfl, by omega⟩)) ?_
    refine Y1 (Yv.assign rfl eV) ?_
    refine nl ?_
    refine AW.ret (retI (.tmp rfl .nil) ?_)
    rfl

set_option maxHeartbeats 1000000 in
theorem say30 (b m : Nat) (ws : WS) (k : Int) (name text : List UInt8) (n : Nat) (hw : WB n ws) (hn : n ≤ 1099511627776) (ht : text.length ≤ 1099511627776) :
    ACalls Try.prog 30 [wp b, .v (.int .i64 k), sv name, sv text] (WSt b m ws) (fun t S => t = .tup [] ∧ ∃ A c, S = WSt b m { ws with trace := sayF k name text ws.trace, tA := A, tc := c }) := by
  obtain ⟨ho, htr, htx, hfl, hpl, hsi⟩ := hw
  refine ACalls.intro Try.func30 rfl Try.ntmps30 (Nat.le_of_ble_eq_true rfl) rfl fun X w0 => ?_
  refine AW.seq ?_
  refine AW.rseq ?_
  refine Y1 (Yv.move rfl eV) ?_
  refine Y1 (Yv.eqlL rfl (E rfl rfl) (E rfl rfl)) ?_
  refine nl ?_
  refine AW.cond rfl (fun h0t => ?_) (fun h0f => ?_)
  ·
    try replace h0t := of_decide_eq_true h0t
    refine AW.ret (retI .nil ?_)
    exact ⟨rfl, ws.tA, ws.tc, by rw [h0t, sayF_nil]⟩
  ·
    try replace h0f := of_decide_eq_false h0f
    refine AW.skip ?_
    refine AW.seq ?_
    refine AW.rseq ?_
    refine Y1 (Yv.move rfl eV) ?_
    refine Y1 (Yv.nilChk rfl eV) ?_
    refine Y1 (Yv.fieldBox rfl fo_70_3 eV) ?_
    refine Y1 (Yv.loadBox rfl ag_33 (i := 0) rfl (E rfl rfl) (trace_at ho)) ?_
    refine Y1 (Yv.lenV rfl so_33 (E rfl rfl)) ?_
    refine Y1 (Yv.assign rfl eV) ?_
    refine nl ?_
    refine AW.rseq ?_
    refine Y1 (Yv.move rfl eV) ?_
    refine Y1 (Yv.gtr rfl eV eV) ?_
    refine Y1 (Yv.move rfl eV) ?_
    refine AWL.ygT rfl rfl rfl rfl (B rfl) (Yv.move rfl (E rfl rfl)) ?_
    refine AWL.ygT rfl rfl rfl rfl (B rfl) (Yv.nilChk rfl (Eg rfl rfl id)) ?_
    refine AWL.ygT rfl rfl rfl rfl (B rfl) (Yv.fieldBox rfl fo_70_3 (Eg rfl rfl id)) ?_
    refine AWL.ygT rfl rfl rfl rfl (B rfl) (Yv.loadBox rfl ag_33 (i := 0) rfl (Eg rfl rfl id) (trace_at ho)) ?_
    refine AWL.ygT rfl rfl rfl rfl (B rfl) (Yv.move rfl (E rfl rfl)) ?_
    refine AWL.ygT rfl rfl rfl rfl (B rfl) (Yv.subN_i64 rfl (Eg rfl rfl id) (E rfl rfl) (fun hg => by first | omega | (simp only [Bool.and_eq_true, Bool.or_eq_false_iff, Bool.not_eq_true', Bool.not_eq_false', decide_eq_true_eq, decide_eq_false_iff_not] at hg; omega))) ?_
    refine AWL.ygT rfl rfl rfl rfl (B rfl) (Yv.indexRow (j := ws.trace.length - 1) rfl ss_33 (i := 2) rfl (Eg rfl rfl id) (Eg rfl rfl id) (fun hg => by first | exact ⟨by omega, by omega⟩ | (simp only [Bool.or_eq_true, Bool.and_eq_true, Bool.or_eq_false_iff, Bool.and_eq_false_iff, Bool.not_eq_true', Bool.not_eq_false', decide_eq_true_eq, decide_eq_false_iff_not, Decidable.not_not] at hg; exact ⟨by omega, by omega⟩))) ?_
    refine AWL.ygT rfl rfl rfl rfl (B rfl) (Yv.fieldEp rfl fo_36_0 (Eg rfl rfl id)) ?_
    refine AWL.ygT rfl rfl rfl rfl (B rfl) (Yv.loadEp rfl ag_3 (i := 2) rfl (Eg rfl rfl id) (fun hg => evk_at (by first | omega | (simp only [Bool.or_eq_true, Bool.and_eq_true, Bool.or_eq_false_iff, Bool.and_eq_false_iff, Bool.not_eq_true', Bool.not_eq_false', decide_eq_true_eq, decide_eq_false_iff_not, Decidable.not_not] at hg; omega)))) ?_
    refine AWL.ygT rfl rfl rfl rfl (B rfl) (Yv.move rfl (E rfl rfl)) ?_
    refine AWL.ygT rfl rfl rfl rfl (B rfl) (Yv.eql rfl (Eg rfl rfl id) (Eg rfl rfl id)) ?_
    refine Y1 (Yv.pickAnd rfl (E rfl rfl) (Eg rfl rfl id)) ?_
    refine Y1 (Yv.move rfl eV) ?_
    refine AWL.ygT rfl rfl rfl rfl (B rfl) (Yv.move rfl (E rfl rfl)) ?_
    refine AWL.ygT rfl rfl rfl rfl (B rfl) (Yv.nilChk rfl (Eg rfl rfl id)) ?_
    refine AWL.ygT rfl rfl rfl rfl (B rfl) (Yv.fieldBox rfl fo_70_3 (Eg rfl rfl id)) ?_
    refine AWL.ygT rfl rfl rfl rfl (B rfl) (Yv.loadBox rfl ag_33 (i := 0) rfl (Eg rfl rfl id) (trace_at ho)) ?_
    refine AWL.ygT rfl rfl rfl rfl (B rfl) (Yv.move rfl (E rfl rfl)) ?_
    refine AWL.ygT rfl rfl rfl rfl (B rfl) (Yv.subN_i64 rfl (Eg rfl rfl id) (E rfl rfl) (fun hg => by first | omega | (simp only [Bool.and_eq_true, Bool.or_eq_false_iff, Bool.not_eq_true', Bool.not_eq_false', decide_eq_true_eq, decide_eq_false_iff_not] at hg; omega))) ?_
    refine AWL.ygT rfl rfl rfl rfl (B rfl) (Yv.indexRow (j := ws.trace.length - 1) rfl ss_33 (i := 2) rfl (Eg rfl rfl id) (Eg rfl rfl id) (fun hg => by first | exact ⟨by omega, by omega⟩ | (simp only [Bool.or_eq_true, Bool.and_eq_true, Bool.or_eq_false_iff, Bool.and_eq_false_iff, Bool.not_eq_true', Bool.not_eq_false', decide_eq_true_eq, decide_eq_false_iff_not, Decidable.not_not] at hg; exact ⟨by omega, by omega⟩))) ?_
    refine AWL.ygT rfl rfl rfl rfl (B rfl) (Yv.fieldEp rfl fo_36_1 (Eg rfl rfl id)) ?_
    refine AWL.ygT rfl rfl rfl rfl (B rfl) (Yv.loadEp rfl ag_9 (i := 2) rfl (Eg rfl rfl id) (fun hg => evn_at (by first | omega | (simp only [Bool.or_eq_true, Bool.and_eq_true, Bool.or_eq_false_iff, Bool.and_eq_false_iff, Bool.not_eq_true', Bool.not_eq_false', decide_eq_true_eq, decide_eq_false_iff_not, Decidable.not_not] at hg; omega)))) ?_
    refine AWL.ygT rfl rfl rfl rfl (B rfl) (Yv.move rfl (E rfl rfl)) ?_
    refine AWL.ygT rfl rfl rfl rfl (B rfl) (Yv.eqlL rfl (Eg rfl rfl id) (Eg rfl rfl id)) ?_
    refine Y1 (Yv.pickAnd rfl (E rfl rfl) (Eg rfl rfl id)) ?_
    refine nl ?_
    refine AW.cond rfl (fun h1t => ?_) (fun h1f => ?_)
    ·
      try replace h1t := of_decide_eq_true h1t
      simp only [Bool.or_eq_true, Bool.and_eq_true, Bool.or_eq_false_iff, Bool.and_eq_false_iff, Bool.not_eq_true', Bool.not_eq_false', decide_eq_true_eq, decide_eq_false_iff_not, Decidable.not_not] at h1t
      obtain ⟨⟨g1, g2⟩, g3⟩ := h1t
      have hlast := htx _ (last_mem (l := ws.trace) (by omega))
      unfold lastE at hlast
      refine AW.rseq ?_
      refine Y1 (Yv.move rfl eV) ?_
      refine Y1 (Yv.nilChk rfl eV) ?_
      refine Y1 (Yv.fieldBox rfl fo_70_3 eV) ?_
      refine Y1 (Yv.loadBox rfl ag_33 (i := 0) rfl (E rfl rfl) (trace_at ho)) ?_
      refine Y1 (Yv.move rfl eV) ?_
      refine Y1 (Yv.subN_i64 rfl (E rfl rfl) (E rfl rfl) (fun hg => by omega)) ?_
      refine Y1 (Yv.indexRow (j := ws.trace.length - 1) rfl ss_33 (i := 2) rfl (E rfl rfl) (E rfl rfl) (fun hg => by first | exact ⟨by omega, by omega⟩ | (simp only [Bool.or_eq_true, Bool.and_eq_true, Bool.or_eq_false_iff, Bool.and_eq_false_iff, Bool.not_eq_true', Bool.not_eq_false', decide_eq_true_eq, decide_eq_false_iff_not, Decidable.not_not] at hg; exact ⟨by omega, by omega⟩))) ?_
      refine Y1 (Yv.fieldEp rfl fo_36_2 (E rfl rfl)) ?_
      refine Y1 (Yv.loadEp rfl ag_9 (i := 2) rfl (E rfl rfl) (fun hg => evt_at (by first | omega | (simp only [Bool.or_eq_true, Bool.and_eq_true, Bool.or_eq_false_iff, Bool.and_eq_false_iff, Bool.not_eq_true', Bool.not_eq_false', decide_eq_true_eq, decide_eq_false_iff_not, Decidable.not_not] at hg; omega)))) ?_
      refine Y1 (Yv.move rfl eV) ?_
      refine Y1 (Yv.addL rfl (E rfl rfl) (E rfl rfl) (fun hg => by first | omega | (simp only [List.length_append, List.length_cons, List.length_nil]; omega))) ?_
      refine Y1 (Yv.indexRow (j := ws.trace.length - 1) rfl ss_33 (i := 2) rfl (E rfl rfl) (E rfl rfl) (fun hg => by first | exact ⟨by omega, by omega⟩ | (simp only [Bool.or_eq_true, Bool.and_eq_true, Bool.or_eq_false_iff, Bool.and_eq_false_iff, Bool.not_eq_true', Bool.not_eq_false', decide_eq_true_eq, decide_eq_false_iff_not, Decidable.not_not] at hg; exact ⟨by omega, by omega⟩))) ?_
      refine Y1 (Yv.fieldEp rfl fo_36_2 (E rfl rfl)) ?_
      refine AWL.storeEp1 (i := 2) rfl rfl rfl ag_9 rfl (E rfl rfl) (E rfl rfl) rfl rfl (by rw [len_ev]; omega) ?_
      refine nl ?_
      refine AW.ret (retI .nil ?_)
      exact ⟨rfl, ws.tA, ws.tc, (wst_more h0f ⟨by omega, g2, g3⟩).symm⟩
    ·
      try replace h1f := of_decide_eq_false h1f
      have hno : ¬ (0 < ws.trace.length ∧ (lastE ws.trace).kind = k ∧ (lastE ws.trace).name = name) := fun q => by
        obtain ⟨q1, q2, q3⟩ := q
        unfold lastE at q2 q3
        rw [decide_eq_true (show (0 : Int) < ws.trace.length by omega), decide_eq_true q2, decide_eq_true q3] at h1f
        cases h1f
      refine AW.skip ?_
      refine AW.regionP rfl ?_
      refine AWP.take (i := 0) rfl (by kernel_rfl) (by kernel_rfl) (by kernel_rfl) rfl rfl (B rfl) (freeMove rfl (E rfl rfl)) ?_
      refine AWP.take (i := 1) rfl (by kernel_rfl) (by kernel_rfl) (by kernel_rfl) rfl rfl (B rfl) (freeMove rfl (E rfl rfl)) ?_
      refine AWP.take (i := 2) rfl (by kernel_rfl) (by kernel_rfl) (by kernel_rfl) rfl rfl (B rfl) (freeNil rfl (E rfl rfl)) ?_
      refine AWP.take (i := 3) rfl (by kernel_rfl) (by kernel_rfl) (by kernel_rfl) rfl rfl (B rfl) (freeField rfl fo_70_3 (E rfl rfl)) ?_
      refine AWP.take (i := 5) rfl (by kernel_rfl) (by kernel_rfl) (by kernel_rfl) rfl rfl (B rfl) (freeMove rfl (E rfl rfl)) ?_
      refine AWP.take (i := 6) rfl (by kernel_rfl) (by kernel_rfl) (by kernel_rfl) rfl rfl (B rfl) (freeMove rfl (E rfl rfl)) ?_
      refine AWP.take (i := 7) rfl (by kernel_rfl) (by kernel_rfl) (by kernel_rfl) rfl rfl (B rfl) (freeMove rfl (E rfl rfl)) ?_
      refine AWP.two (i := 4) (j := 8) (by kernel_rfl) rfl rfl ?_ ?_
      ·
        refine Y1 (Yv.loadBox rfl ag_33 (i := 0) rfl (E rfl rfl) (trace_at ho)) ?_
        refine nl ?_
        refine AWP.one (i := 8) (by kernel_rfl) rfl ?_
        refine AWL.callP rfl rfl (B rfl) rfl ce_26 (E rfl rfl) (evsC (E rfl rfl) evs0) (clone26 text (by omega)) (fun t S h => h) ?_
        refine nl ?_
        refine AWP.one (i := 9) (by kernel_rfl) rfl ?_
        refine Y1 (Yv.buildS rfl sh_36 (evpC (E rfl rfl) (evpC (E rfl rfl) (evpC (E rfl rfl) evp0))) (fun _ => rfl)) ?_
        refine nl ?_
        refine AWP.one (i := 10) (by kernel_rfl) rfl ?_
        refine AWL.buildSliceE rfl rfl (B rfl) rfl el_33 (B rfl) rfl (evsC (E rfl rfl) evs0) (Nat.le_of_ble_eq_true rfl) rfl rfl ?_
        refine nl ?_
        refine AWP.one (i := 11) (by kernel_rfl) rfl ?_
        refine AWL.appendRow (i := 2) rfl rfl (B rfl) rfl el_33 (B rfl) rfl (E rfl rfl) (SrcT.sl so_33 (B rfl) (E rfl rfl) (m := 1) rfl) (by unfold maxLen; omega) (by omega) (fun A68 c68 => ?_)
        refine nl ?_
        refine AWP.one (i := 12) (by kernel_rfl) rfl ?_
        refine Y1 (Yv.nilChk rfl eV) ?_
        refine nl ?_
        refine AWP.one (i := 13) (by kernel_rfl) rfl ?_
        refine Y1 (Yv.fieldBox rfl fo_70_3 eV) ?_
        refine nl ?_
        refine AWP.one (i := 14) (by kernel_rfl) rfl ?_
        refine AWL.storeBox (i := 0) rfl rfl rfl ag_33 rfl (E rfl rfl) (E rfl rfl) rfl rfl (by rw [wCells_len, ho]; omega) ?_
        refine nl ?_
        refine AWP.done (by kernel_rfl) ?_
        refine retN .nil ?_
        exact ⟨rfl, A68, c68, (wst_new ho h0f hno).symm⟩
      ·
        refine AWL.callP rfl rfl (B rfl) rfl ce_26 (E rfl rfl) (evsC (E rfl rfl) evs0) (clone26 text (by omega)) (fun t S h => h) ?_
        refine nl ?_
        refine AWP.two (i := 4) (j := 9) (by kernel_rfl) rfl rfl ?_ ?_
        ·
          refine Y1 (Yv.loadBox rfl ag_33 (i := 0) rfl (E rfl rfl) (trace_at ho)) ?_
          refine nl ?_
          refine AWP.one (i := 9) (by kernel_rfl) rfl ?_
          refine Y1 (Yv.buildS rfl sh_36 (evpC (E rfl rfl) (evpC (E rfl rfl) (evpC (E rfl rfl) evp0))) (fun _ => rfl)) ?_
          refine nl ?_
          refine AWP.one (i := 10) (by kernel_rfl) rfl ?_
          refine AWL.buildSliceE rfl rfl (B rfl) rfl el_33 (B rfl) rfl (evsC (E rfl rfl) evs0) (Nat.le_of_ble_eq_true rfl) rfl rfl ?_
          refine nl ?_
          refine AWP.one (i := 11) (by kernel_rfl) rfl ?_
          refine AWL.appendRow (i := 2) rfl rfl (B rfl) rfl el_33 (B rfl) rfl (E rfl rfl) (SrcT.sl so_33 (B rfl) (E rfl rfl) (m := 1) rfl) (by unfold maxLen; omega) (by omega) (fun A68 c68 => ?_)
          refine nl ?_
          refine AWP.one (i := 12) (by kernel_rfl) rfl ?_
          refine Y1 (Yv.nilChk rfl eV) ?_
          refine nl ?_
          refine AWP.one (i := 13) (by kernel_rfl) rfl ?_
          refine Y1 (Yv.fieldBox rfl fo_70_3 eV) ?_
          refine nl ?_
          refine AWP.one (i := 14) (by kernel_rfl) rfl ?_
          refine AWL.storeBox (i := 0) rfl rfl rfl ag_33 rfl (E rfl rfl) (E rfl rfl) rfl rfl (by rw [wCells_len, ho]; omega) ?_
          refine nl ?_
          refine AWP.done (by kernel_rfl) ?_
          refine retN .nil ?_
          exact ⟨rfl, A68, c68, (wst_new ho h0f hno).symm⟩
        ·
          refine Y1 (Yv.buildS rfl sh_36 (evpC (E rfl rfl) (evpC (E rfl rfl) (evpC (E rfl rfl) evp0))) (fun _ => rfl)) ?_
          refine nl ?_
          refine AWP.two (i := 4) (j := 10) (by kernel_rfl) rfl rfl ?_ ?_
          ·
            refine Y1 (Yv.loadBox rfl ag_33 (i := 0) rfl (E rfl rfl) (trace_at ho)) ?_
            refine nl ?_
            refine AWP.one (i := 10) (by kernel_rfl) rfl ?_
            refine AWL.buildSliceE rfl rfl (B rfl) rfl el_33 (B rfl) rfl (evsC (E rfl rfl) evs0) (Nat.le_of_ble_eq_true rfl) rfl rfl ?_
            refine nl ?_
            refine AWP.one (i := 11) (by kernel_rfl) rfl ?_
            refine AWL.appendRow (i := 2) rfl rfl (B rfl) rfl el_33 (B rfl) rfl (E rfl rfl) (SrcT.sl so_33 (B rfl) (E rfl rfl) (m := 1) rfl) (by unfold maxLen; omega) (by omega) (fun A68 c68 => ?_)
            refine nl ?_
            refine AWP.one (i := 12) (by kernel_rfl) rfl ?_
            refine Y1 (Yv.nilChk rfl eV) ?_
            refine nl ?_
            refine AWP.one (i := 13) (by kernel_rfl) rfl ?_
            refine Y1 (Yv.fieldBox rfl fo_70_3 eV) ?_
            refine nl ?_
            refine AWP.one (i := 14) (by kernel_rfl) rfl ?_
            refine AWL.storeBox (i := 0) rfl rfl rfl ag_33 rfl (E rfl rfl) (E rfl rfl) rfl rfl (by rw [wCells_len, ho]; omega) ?_
            refine nl ?_
            refine AWP.done (by kernel_rfl) ?_
            refine retN .nil ?_
            exact ⟨rfl, A68, c68, (wst_new ho h0f hno).symm⟩
          ·
            refine AWL.buildSliceE rfl rfl (B rfl) rfl el_33 (B rfl) rfl (evsC (E rfl rfl) evs0) (Nat.le_of_ble_eq_true rfl) rfl rfl ?_
            refine nl ?_
            refine AWP.one (i := 4) (by kernel_rfl) rfl ?_
            refine Y1 (Yv.loadBox rfl ag_33 (i := 0) rfl (E rfl rfl) (trace_at ho)) ?_
            refine nl ?_
            refine AWP.one (i := 11) (by kernel_rfl) rfl ?_
            refine AWL.appendRow (i := 2) rfl rfl (B rfl) rfl el_33 (B rfl) rfl (E rfl rfl) (SrcT.sl so_33 (B rfl) (E rfl rfl) (m := 1) rfl) (by unfold maxLen; omega) (by omega) (fun A68 c68 => ?_)
            refine nl ?_
            refine AWP.one (i := 12) (by kernel_rfl) rfl ?_
            refine Y1 (Yv.nilChk rfl eV) ?_
            refine nl ?_
            refine AWP.one (i := 13) (by kernel_rfl) rfl ?_
            refine Y1 (Yv.fieldBox rfl fo_70_3 eV) ?_
            refine nl ?_
            refine AWP.one (i := 14) (by kernel_rfl) rfl ?_
            refine AWL.storeBox (i := 0) rfl rfl rfl ag_33 rfl (E rfl rfl) (E rfl rfl) rfl rfl (by rw [wCells_len, ho]; omega) ?_
            refine nl ?_
            refine AWP.done (by kernel_rfl) ?_
            refine retN .nil ?_
            exact ⟨rfl, A68, c68, (wst_new ho h0f hno).symm⟩

end Go.Proofs.Ytmiggpnkicdijaa

namespace Go.Proofs.Ytmiggpnkicdijaa
open Go Go.RowKit
/-- At least so many bytes, zeros behind. -/
def padTo (l : List UInt8) (n : Nat) : List UInt8 := l ++ List.replicate (n - l.length) 0
def writeAt (l : List UInt8) (p : Nat) (s : List UInt8) : List UInt8 := (padTo l (p + s.length)).take p ++ s ++ (padTo l (p + s.length)).drop (p + s.length)
theorem padTo_len (l : List UInt8) (n : Nat) : (padTo l n).length = max l.length n := by simp [padTo]; omega
theorem writeAt_len (l : List UInt8) (p : Nat) (s : List UInt8) : (writeAt l p s).length = max l.length (p + s.length) := by
  have := padTo_len l (p + s.length)
  simp only [writeAt, List.length_append, List.length_take, List.length_drop]
  omega
theorem writeAt_cells (l : List UInt8) (p : Nat) (s : List UInt8) : ((padTo l (p + s.length)).map u8).take p ++ s.map u8 ++ ((padTo l (p + s.length)).map u8).drop (p + s.length) = (writeAt l p s).map u8 := by
  simp only [writeAt, List.map_append, List.map_take, List.map_drop]
theorem writeAt_end (l s : List UInt8) : writeAt l l.length s = l ++ s := by
  unfold writeAt padTo
  rw [List.take_left' rfl, List.drop_of_length_le (by simp), List.append_nil]
theorem pad_cells (l : List UInt8) (k : Nat) : l.map u8 ++ List.replicate k (T.v (.int .u8 0)) = (l ++ List.replicate k 0).map u8 := by
  simp [u8]
/-- Names are unlike. -/
def Uniq (l : List FileR) : Prop := (l.map (·.name)).Nodup
theorem get_file {l : List FileR} : ∀ {q : Nat}, Uniq l → q < l.length → getK (.s (l.getD q default).name) (l.map fileKey) = some (fileKey (l.getD q default)).2 := by
  induction l with
  | nil => intro q _ h; simp at h
  | cons f r ih =>
    intro q hu hq
    rw [Uniq, List.map_cons, List.nodup_cons] at hu
    cases q with
    | zero => simp [getK, fileKey]
    | succ q =>
      have hq' : q < r.length := by simpa using hq
      rw [List.getD_cons_succ, List.map_cons, getK, if_neg, ih hu.2 hq']
      intro e
      simp only [fileKey, Key.s.injEq] at e
      refine hu.1 (List.mem_map.2 ⟨r.getD q default, ?_, e.symm⟩)
      rw [getD_eq' hq']
      exact List.getElem_mem hq'
theorem put_file {l : List FileR} : ∀ {q : Nat} (f : FileR), Uniq l → q < l.length → f.name = (l.getD q default).name → putK (.s f.name) (.v (.slice f.A f.bytes.length f.c)) (l.map fileKey) = (l.set q f).map fileKey := by
  induction l with
  | nil => intro q f _ h; simp at h
  | cons f0 r ih =>
    intro q f hu hq he
    rw [Uniq, List.map_cons, List.nodup_cons] at hu
    cases q with
    | zero =>
      simp only [List.getD_cons_zero] at he
      simp [putK, fileKey, he]
    | succ q =>
      have hq' : q < r.length := by simpa using hq
      rw [List.getD_cons_succ] at he
      rw [List.map_cons, putK, if_neg, List.set_cons_succ, List.map_cons, ih f hu.2 hq' he]
      intro e
      simp only [fileKey, Key.s.injEq] at e
      refine hu.1 (List.mem_map.2 ⟨r.getD q default, ?_, ?_⟩)
      · rw [getD_eq' hq']; exact List.getElem_mem hq'
      · rw [e, he]
theorem put_new {l : List FileR} (f : FileR) (h : ∀ g ∈ l, g.name ≠ f.name) : putK (.s f.name) (.v (.slice f.A f.bytes.length f.c)) (l.map fileKey) = (l ++ [f]).map fileKey := by
  induction l with
  | nil => rfl
  | cons g r ih =>
    rw [List.map_cons, putK, if_neg, ih (fun x hx => h x (List.mem_cons_of_mem _ hx))]
    · rfl
    · intro e
      simp only [fileKey, Key.s.injEq] at e
      exact h g (List.mem_cons_self ..) e
theorem file_row {b m : Nat} {ws : WS} {q : Nat} (h : q < ws.files.length) : (WSt b m ws)[q + 3]? = some (fileRow (ws.files.getD q default)) := by
  have : (WSt b m ws)[q + 3]? = (ws.files.map fileRow)[q]? := rfl
  rw [this, List.getElem?_map, getD_eq' h, List.getElem?_eq_getElem h]
  rfl
theorem row_set {b m : Nat} {ws : WS} {q : Nat} (f : FileR) : (WSt b m ws).set (q + 3) (fileRow f) = .box b 70 (wCells m ws.stdin ws.opn ws.tA ws.trace.length ws.tc) :: .map m (ws.files.map fileKey) :: .row ws.tA ws.trace.length ws.tc 36 3 (ws.trace.flatMap evCells) :: (ws.files.set q f).map fileRow := by
  rw [List.map_set]; rfl
theorem file_row_set {b m : Nat} {ws : WS} {q : Nat} (h : q < ws.files.length) (e : Ent) : ((WSt b m ws).set (q + 3) e)[q + 3]? = some e := by
  rw [List.getElem?_set_self]
  show q + 3 < (ws.files.map fileRow).length + 1 + 1 + 1
  rw [List.length_map]; omega
theorem getD_set {α : Type} {l : List α} {j : Nat} (h : j < l.length) (a d : α) : (l.set j a).getD j d = a := by
  simp [List.getD, h]
theorem wst_same {b m : Nat} {ws : WS} {q : Nat} (h : q < ws.files.length) : (WSt b m ws).set (q + 3) (fileRow (ws.files.getD q default)) = WSt b m ws := by
  rw [row_set, getD_eq' h, List.set_getElem_self]; rfl
theorem wst_wrote {b m : Nat} {ws : WS} {q j : Nat} (f1 f2 : FileR) (d2 : Desc) : ((((WSt b m ws).set (q + 3) (fileRow f1)).set (q + 3) (fileRow f2)).set 1 (.map m ((ws.files.set q f2).map fileKey))).set 0 (.box b 70 (wCells m ws.stdin (ws.opn.set j d2) ws.tA ws.trace.length ws.tc)) = WSt b m { ws with files := ws.files.set q f2, opn := ws.opn.set j d2 } := by
  rw [List.set_set, row_set]; rfl
theorem padTo_id {l : List UInt8} {n : Nat} (h : n ≤ l.length) : padTo l n = l := by
  unfold padTo
  rw [show n - l.length = 0 by omega]; simp
theorem rot3 {a b c : Ent} {l : St} : (c :: a :: b :: l).Perm (a :: b :: c :: l) :=
  (List.Perm.swap a c (b :: l)).trans ((List.Perm.swap b c l).cons a)
theorem rot3' {a b c : Ent} {l : St} : (a :: b :: c :: l).Perm (c :: a :: b :: l) := rot3.symm
/-- What a write to a file leaves. -/
def wrF (j q : Nat) (s : List UInt8) (A : Option Addr) (c : Nat) (tA : Option Addr) (tc : Nat) (ws : WS) : WS :=
  if s = [] then ws else
    { ws with files := ws.files.set q { ws.files.getD q default with bytes := writeAt (ws.files.getD q default).bytes (ws.opn.getD j default).place s, A := A, c := c }, opn := ws.opn.set j { ws.opn.getD j default with place := (ws.opn.getD j default).place + s.length },
              trace := sayF 3 (ws.opn.getD j default).name s ws.trace, tA := tA, tc := tc }
theorem wb_wrote {j q n : Nat} {ws : WS} {s : List UInt8} (hj : j < 19) (hq : q < ws.files.length) (hw : WB n ws) (A : Option Addr) (c : Nat) :
    WB (n + s.length) { ws with files := ws.files.set q { ws.files.getD q default with bytes := writeAt (ws.files.getD q default).bytes (ws.opn.getD j default).place s, A := A, c := c }, opn := ws.opn.set j { ws.opn.getD j default with place := (ws.opn.getD j default).place + s.length } } := by
  obtain ⟨ho, htr, htx, hfl, hpl, hsi⟩ := hw
  have h1 : (ws.opn.getD j default).place ≤ n := hpl _ (by rw [getD_eq' (show j < ws.opn.length by omega)]; exact List.getElem_mem _)
  have h2 : (ws.files.getD q default).bytes.length ≤ n := hfl _ (by rw [getD_eq' hq]; exact List.getElem_mem _)
  refine ⟨by simpa using ho, by simp only; omega, fun e he => by have := htx e he; omega, fun f hf => ?_, fun d hd => ?_, by simp only; omega⟩
  · rcases List.mem_or_eq_of_mem_set hf with hf | rfl
    · have := hfl f hf; omega
    · simp only [writeAt_len]; omega
  · rcases List.mem_or_eq_of_mem_set hd with hd | rfl
    · have := hpl d hd; omega
    · simp only; omega
def closeF (j : Nat) (o : List Desc) : List Desc := if (o.getD j default).kind = 0 then o else o.set j ⟨0, [], 0⟩
theorem getD_mem' {α : Type} [Inhabited α] {l : List α} {j : Nat} (h : j < l.length) : l.getD j default ∈ l := by
  rw [getD_eq' h]; exact List.getElem_mem h
end Go.Proofs.Ytmiggpnkicdijaa

namespace Go.Proofs.Ytmiggpnkicdijaa
open Go Go.RowKit
set_option linter.unusedVariables false
set_option linter.unnecessarySimpa false
set_option linter.unusedSimpArgs false

set_option maxHeartbeats 400000 in
theorem cloneEv31 (A : Option Addr) (n c : Nat) (cs : List T) (hl : cs.length = n * 3) (hn : n ≤ 1099511627776) :
    ACalls Try.prog 31 [.v (.slice A n c)] [.row A n c 36 3 cs] (fun t S => t = .sl 3 cs ∧ S = [.row A n c 36 3 cs]) := by
  refine ACalls.intro Try.func31 rfl Try.ntmps31 (Nat.le_of_ble_eq_true rfl) rfl fun X w0 => ?_
  refine AW.rseq ?_
  refine Y1 (Yv.assign rfl eV) ?_
  refine nl ?_
  refine AW.seq ?_
  refine AW.rowFact 0 rfl (fun hnone => ?_)
  refine AW.rseq ?_
  refine Y1 (Yv.move rfl eV) ?_
  refine Y1 (Yv.eqNilV rfl so_33 (E rfl rfl)) ?_
  refine nl ?_
  refine AW.cond rfl (fun h0t => ?_) (fun h0f => ?_)
  ·
    try replace h0t := of_decide_eq_true h0t
    refine AW.rseq ?_
    refine Y1 (Yv.assign rfl eV) ?_
    refine nl ?_
    obtain ⟨rfl, rfl, rfl⟩ := hnone (Option.isNone_iff_eq_none.1 h0t)
    refine AW.retype (k := 2) rfl (nil_sl (k := 3) (by unfold maxLen; omega)) ?_
    refine AW.ret (retI (.tmp rfl .nil) ?_)
    obtain rfl := Option.isNone_iff_eq_none.1 h0t
    exact ⟨rfl, rfl⟩
  ·
    try replace h0f := of_decide_eq_false h0f
    refine AW.skip ?_
    refine AW.rseq ?_
    refine AWL.buildSliceRow rfl rfl (B rfl) rfl el_33 (B rfl) rfl evs0 (Nat.le_of_ble_eq_true rfl) rfl rfl (fun A5 => ?_)
    refine Y1 (Yv.move rfl eV) ?_
    refine AWL.appendRow (i := 1) rfl rfl (B rfl) rfl el_33 (B rfl) rfl (E rfl rfl) (SrcT.row so_33 (i := 0) rfl (E rfl rfl)) (by unfold maxLen; omega) (by omega) (fun A7 c7 => ?_)
    refine Y1 (Yv.assign rfl eV) ?_
    refine nl ?_
    refine AW.freeze 1 2 rfl (B rfl) rfl ?_
    refine AW.ret (retI (.tmp rfl .nil) ?_)
    exact ⟨rfl, rfl⟩

set_option maxHeartbeats 400000 in
theorem Trace14 (b m : Nat) (ws : WS) (n : Nat) (hw : WB n ws) (hn : n ≤ 1099511627776) :
    ACalls Try.prog 14 [wp b] (WSt b m ws) (fun t S => t = .sl 3 (ws.trace.flatMap evCells) ∧ S = WSt b m ws) := by
  obtain ⟨ho, htr, htx, hfl, hpl, hsi⟩ := hw
  refine ACalls.intro Try.func14 rfl Try.ntmps14 (Nat.le_of_ble_eq_true rfl) rfl fun X w0 => ?_
  refine AW.rseq ?_
  refine Y1 (Yv.assign rfl eV) ?_
  refine nl ?_
  refine AW.seq ?_
  refine AW.rseq ?_
  refine Y1 (Yv.move rfl eV) ?_
  refine Y1 (Yv.eqlNilP rfl pn_24 (E rfl rfl)) ?_
  refine nl ?_
  refine AW.cond rfl (fun h0t => ?_) (fun h0f => ?_)
  ·
    try replace h0t := of_decide_eq_true h0t
    cases h0t
  ·
    try replace h0f := of_decide_eq_false h0f
    refine AW.skip ?_
    refine AW.perm rot3 ?_
    refine AW.rseq ?_
    refine Y1 (Yv.move rfl eV) ?_
    refine Y1 (Yv.nilChk rfl eV) ?_
    refine Y1 (Yv.fieldBox rfl fo_70_3 eV) ?_
    refine Y1 (Yv.loadBox rfl ag_33 (i := 1) rfl (E rfl rfl) (trace_at ho)) ?_
    refine C1 rfl ce_31 (E rfl rfl) (evsC (E rfl rfl) evs0) (S1 := [.row ws.tA ws.trace.length ws.tc 36 3 (ws.trace.flatMap evCells)]) (S2 := _) rfl (cloneEv31 ws.tA ws.trace.length ws.tc _ len_ev (by omega)) ?_
    rintro t9 S9 ⟨rfl, rfl⟩
    refine Y1 (Yv.assign rfl eV) ?_
    refine nl ?_
    refine AW.perm rot3' ?_
    refine AW.ret (retI (.tmp rfl .nil) ?_)
    exact ⟨rfl, rfl⟩

set_option maxHeartbeats 400000 in
theorem SysClose18 (b m : Nat) (ws : WS) (j n : Nat) (hj : j < 19) (hw : WB n ws) :
    ACalls Try.prog 18 [wp b, .v (.int .i64 (j : Int))] (WSt b m ws) (fun t S => t = .v (.int .i64 (if (ws.opn.getD j default).kind = 0 then -9 else 0)) ∧ S = WSt b m { ws with opn := closeF j ws.opn }) := by
  obtain ⟨ho, htr, htx, hfl, hpl, hsi⟩ := hw
  refine ACalls.intro Try.func18 rfl Try.ntmps18 (Nat.le_of_ble_eq_true rfl) rfl fun X w0 => ?_
  refine AW.rseq ?_
  refine Y1 (Yv.assign rfl eV) ?_
  refine nl ?_
  refine AW.rseq ?_
  refine Y1 (Yv.move rfl eV) ?_
  refine Y1 (Yv.move rfl eV) ?_
  refine AWL.callP rfl rfl (B rfl) rfl ce_29 (E rfl rfl) (evsC (E rfl rfl) (evsC (E rfl rfl) evs0)) (at29 b j hj) (fun t S h => h) ?_
  refine Y1 (Yv.assign rfl eV) ?_
  refine nl ?_
  refine AW.seq ?_
  refine AW.rseq ?_
  refine Y1 (Yv.move rfl eV) ?_
  refine Y1 (Yv.nilChk rfl eV) ?_
  refine Y1 (Yv.fieldBox rfl fo_67_0 eV) ?_
  refine Y1 (Yv.loadBox rfl ag_3 (i := 0) rfl (E rfl rfl) (kind_at (by omega))) ?_
  refine Y1 (Yv.eql rfl eV eV) ?_
  refine nl ?_
  refine AW.cond rfl (fun h0t => ?_) (fun h0f => ?_)
  ·
    try replace h0t := of_decide_eq_true h0t
    refine AW.rseq ?_
    refine Y1 (Yv.assign rfl eV) ?_
    refine nl ?_
    refine AW.ret (retI (.tmp rfl .nil) ?_)
    unfold closeF
    rw [if_pos h0t, if_pos h0t]
    exact ⟨rfl, rfl⟩
  ·
    try replace h0f := of_decide_eq_false h0f
    refine AW.skip ?_
    refine AW.rseq ?_
    refine Y1 (Yv.move rfl eV) ?_
    refine Y1 (Yv.buildS rfl sh_67 evp0 (fun _ => rfl)) ?_
    refine Y1 (Yv.nilChk rfl eV) ?_
    refine AWL.storeBox (i := 0) rfl rfl rfl ag_67 rfl (E rfl rfl) (E rfl rfl) rfl rfl (by rw [wCells_len, ho]; omega) ?_
    refine nl ?_
    refine AW.rseq ?_
    refine Y1 (Yv.assign rfl eV) ?_
    refine nl ?_
    refine AW.ret (retI (.tmp rfl .nil) ?_)
    have e := set_desc (m := m) (s := ws.stdin) (A := ws.tA) (n := ws.trace.length) (c := ws.tc) (show j < ws.opn.length by omega) 0 3 (descCells ⟨0, [], 0⟩) ⟨0, [], 0⟩ (by decide) rfl
    unfold closeF
    rw [if_neg h0f, if_neg h0f]
    refine ⟨rfl, ?_⟩
    simp only [WSt]
    rw [← e]; rfl

set_option maxHeartbeats 400000 in
theorem SysWrite13_2 (b m : Nat) (ws : WS) (j : Nat) (s : List UInt8) (n : Nat) (hj : j < 19) (hk : (ws.opn.getD j default).kind = 2) (hw : WB n ws) (hn : n ≤ 1099511627776) (hs : s.length ≤ 1099511627776) :
    ACalls Try.prog 13 [wp b, .v (.int .i64 (j : Int)), sv s] (WSt b m ws) (fun t S => t = .v (.int .i64 (s.length : Int)) ∧ ∃ A c, S = WSt b m { ws with trace := sayF 1 [] s ws.trace, tA := A, tc := c }) := by
  obtain ⟨ho, htr, htx, hfl, hpl, hsi⟩ := hw
  refine ACalls.intro Try.func13 rfl Try.ntmps13 (Nat.le_of_ble_eq_true rfl) rfl fun X w0 => ?_
  refine AW.rseq ?_
  refine Y1 (Yv.assign rfl eV) ?_
  refine nl ?_
  refine AW.rseq ?_
  refine Y1 (Yv.move rfl eV) ?_
  refine Y1 (Yv.move rfl eV) ?_
  refine AWL.callP rfl rfl (B rfl) rfl ce_29 (E rfl rfl) (evsC (E rfl rfl) (evsC (E rfl rfl) evs0)) (at29 b j hj) (fun t S h => h) ?_
  refine Y1 (Yv.assign rfl eV) ?_
  refine nl ?_
  refine AW.seq ?_
  refine AW.rseq ?_
  refine Y1 (Yv.move rfl eV) ?_
  refine Y1 (Yv.nilChk rfl eV) ?_
  refine Y1 (Yv.fieldBox rfl fo_67_0 eV) ?_
  refine Y1 (Yv.loadBox rfl ag_3 (i := 0) rfl (E rfl rfl) (kind_at (by omega))) ?_
  refine nl ?_
  refine AW.block ?_
  refine AW.rseq ?_
  refine Y1 (Yv.eql rfl eV eV) ?_
  refine Y1 (Yv.assign rfl eV) ?_
  refine nl ?_
  refine AW.cond rfl (fun h0t => ?_) (fun h0f => ?_)
  ·
    try replace h0t := of_decide_eq_true h0t
    refine AW.region ?_
    refine Y1 (Yv.move rfl eV) ?_
    refine Y1 (Yv.move rfl eV) ?_
    refine AWL.callAll rfl rfl (B rfl) rfl ce_30 (E rfl rfl) (evsC (E rfl rfl) (evsC (E rfl rfl) (evsC (E rfl rfl) (evsC (E rfl rfl) evs0)))) (say30 b m ws 1 [] s n ⟨ho, htr, htx, hfl, hpl, hsi⟩ hn hs) ?_
    rintro t21 S21 ⟨rfl, A21, c21, rfl⟩
    refine nl ?_
    refine AW.rseq ?_
    refine Y1 (Yv.move rfl eV) ?_
    refine Y1 (Yv.lenL rfl st_9 (E rfl rfl)) ?_
    refine Y1 (Yv.assign rfl eV) ?_
    refine nl ?_
    refine AW.ret (retI (.tmp rfl .nil) ?_)
    exact ⟨rfl, _, _, rfl⟩
  ·
    try replace h0f := of_decide_eq_false h0f
    omega

set_option maxHeartbeats 400000 in
theorem SysWrite13_3 (b m : Nat) (ws : WS) (j : Nat) (s : List UInt8) (n : Nat) (hj : j < 19) (hk : (ws.opn.getD j default).kind = 3) (hw : WB n ws) (hn : n ≤ 1099511627776) (hs : s.length ≤ 1099511627776) :
    ACalls Try.prog 13 [wp b, .v (.int .i64 (j : Int)), sv s] (WSt b m ws) (fun t S => t = .v (.int .i64 (s.length : Int)) ∧ ∃ A c, S = WSt b m { ws with trace := sayF 2 [] s ws.trace, tA := A, tc := c }) := by
  obtain ⟨ho, htr, htx, hfl, hpl, hsi⟩ := hw
  refine ACalls.intro Try.func13 rfl Try.ntmps13 (Nat.le_of_ble_eq_true rfl) rfl fun X w0 => ?_
  refine AW.rseq ?_
  refine Y1 (Yv.assign rfl eV) ?_
  refine nl ?_
  refine AW.rseq ?_
  refine Y1 (Yv.move rfl eV) ?_
  refine Y1 (Yv.move rfl eV) ?_
  refine AWL.callP rfl rfl (B rfl) rfl ce_29 (E rfl rfl) (evsC (E rfl rfl) (evsC (E rfl rfl) evs0)) (at29 b j hj) (fun t S h => h) ?_
  refine Y1 (Yv.assign rfl eV) ?_
  refine nl ?_
  refine AW.seq ?_
  refine AW.rseq ?_
  refine Y1 (Yv.move rfl eV) ?_
  refine Y1 (Yv.nilChk rfl eV) ?_
  refine Y1 (Yv.fieldBox rfl fo_67_0 eV) ?_
  refine Y1 (Yv.loadBox rfl ag_3 (i := 0) rfl (E rfl rfl) (kind_at (by omega))) ?_
  refine nl ?_
  refine AW.block ?_
  refine AW.rseq ?_
  refine Y1 (Yv.eql rfl eV eV) ?_
  refine Y1 (Yv.assign rfl eV) ?_
  refine nl ?_
  refine AW.cond rfl (fun h0t => ?_) (fun h0f => ?_)
  ·
    try replace h0t := of_decide_eq_true h0t
    omega
  ·
    try replace h0f := of_decide_eq_false h0f
    refine AW.rseq ?_
    refine Y1 (Yv.eql rfl eV eV) ?_
    refine Y1 (Yv.assign rfl eV) ?_
    refine nl ?_
    refine AW.cond rfl (fun h1t => ?_) (fun h1f => ?_)
    ·
      try replace h1t := of_decide_eq_true h1t
      refine AW.region ?_
      refine Y1 (Yv.move rfl eV) ?_
      refine Y1 (Yv.move rfl eV) ?_
      refine AWL.callAll rfl rfl (B rfl) rfl ce_30 (E rfl rfl) (evsC (E rfl rfl) (evsC (E rfl rfl) (evsC (E rfl rfl) (evsC (E rfl rfl) evs0)))) (say30 b m ws 2 [] s n ⟨ho, htr, htx, hfl, hpl, hsi⟩ hn hs) ?_
      rintro t26 S26 ⟨rfl, A26, c26, rfl⟩
      refine nl ?_
      refine AW.rseq ?_
      refine Y1 (Yv.move rfl eV) ?_
      refine Y1 (Yv.lenL rfl st_9 (E rfl rfl)) ?_
      refine Y1 (Yv.assign rfl eV) ?_
      refine nl ?_
      refine AW.ret (retI (.tmp rfl .nil) ?_)
      exact ⟨rfl, _, _, rfl⟩
    ·
      try replace h1f := of_decide_eq_false h1f
      omega

end Go.Proofs.Ytmiggpnkicdijaa

namespace Go.Proofs.Ytmiggpnkicdijaa
open Go Go.RowKit
set_option linter.unusedVariables false
set_option linter.unnecessarySimpa false
set_option linter.unusedSimpArgs false

set_option maxHeartbeats 2000000 in
theorem SysWrite13_5 (b m : Nat) (ws : WS) (j q : Nat) (s : List UInt8) (n : Nat) (hj : j < 19) (hk : (ws.opn.getD j default).kind = 5) (hq : q < ws.files.length) (hu : Uniq ws.files) (hnm : (ws.opn.getD j default).name = (ws.files.getD q default).name) (hw : WB n ws) (hn : n ≤ 549755813888) (hs : s.length ≤ 549755813888) :
    ACalls Try.prog 13 [wp b, .v (.int .i64 (j : Int)), sv s] (WSt b m ws) (fun t S => t = .v (.int .i64 (s.length : Int)) ∧ ∃ A c tA tc, S = WSt b m (wrF j q s A c tA tc ws)) := by
  obtain ⟨ho, htr, htx, hfl, hpl, hsi⟩ := hw
  have hpj : (ws.opn.getD j default).place ≤ n := hpl _ (getD_mem' (by omega))
  have hfq : (ws.files.getD q default).bytes.length ≤ n := hfl _ (getD_mem' hq)
  refine ACalls.intro Try.func13 rfl Try.ntmps13 (Nat.le_of_ble_eq_true rfl) rfl fun X w0 => ?_
  refine AW.rseq ?_
  refine Y1 (Yv.assign rfl eV) ?_
  refine nl ?_
  refine AW.rseq ?_
  refine Y1 (Yv.move rfl eV) ?_
  refine Y1 (Yv.move rfl eV) ?_
  refine AWL.callP rfl rfl (B rfl) rfl ce_29 (E rfl rfl) (evsC (E rfl rfl) (evsC (E rfl rfl) evs0)) (at29 b j hj) (fun t S h => h) ?_
  refine Y1 (Yv.assign rfl eV) ?_
  refine nl ?_
  refine AW.seq ?_
  refine AW.rseq ?_
  refine Y1 (Yv.move rfl eV) ?_
  refine Y1 (Yv.nilChk rfl eV) ?_
  refine Y1 (Yv.fieldBox rfl fo_67_0 eV) ?_
  refine Y1 (Yv.loadBox rfl ag_3 (i := 0) rfl (E rfl rfl) (kind_at (by omega))) ?_
  refine nl ?_
  refine AW.block ?_
  refine AW.rseq ?_
  refine Y1 (Yv.eql rfl eV eV) ?_
  refine Y1 (Yv.assign rfl eV) ?_
  refine nl ?_
  refine AW.cond rfl (fun h0t => ?_) (fun h0f => ?_)
  ·
    try replace h0t := of_decide_eq_true h0t
    omega
  ·
    try replace h0f := of_decide_eq_false h0f
    refine AW.rseq ?_
    refine Y1 (Yv.eql rfl eV eV) ?_
    refine Y1 (Yv.assign rfl eV) ?_
    refine nl ?_
    refine AW.cond rfl (fun h1t => ?_) (fun h1f => ?_)
    ·
      try replace h1t := of_decide_eq_true h1t
      omega
    ·
      try replace h1f := of_decide_eq_false h1f
      refine AW.rseq ?_
      refine Y1 (Yv.eql rfl eV eV) ?_
      refine Y1 (Yv.assign rfl eV) ?_
      refine nl ?_
      refine AW.cond rfl (fun h2t => ?_) (fun h2f => ?_)
      ·
        try replace h2t := of_decide_eq_true h2t
        refine AW.rseq ?_
        refine Y1 (Yv.move rfl eV) ?_
        refine Y1 (Yv.neqL rfl (E rfl rfl) (E rfl rfl)) ?_
        refine nl ?_
        refine AW.cond rfl (fun h3t => ?_) (fun h3f => ?_)
        ·
          try replace h3t := of_decide_eq_true h3t
          simp only [Bool.or_eq_true, Bool.and_eq_true, Bool.or_eq_false_iff, Bool.and_eq_false_iff, Bool.not_eq_true', Bool.not_eq_false', decide_eq_true_eq, decide_eq_false_iff_not, Decidable.not_not] at h3t
          have hs0 : s ≠ [] := by simpa using h3t
          refine AW.rseqQ rfl (by kernel_rfl) ?_
          refine AWQ.y rfl rfl (B rfl) (Yv.move rfl (E rfl rfl)) ?_
          refine AWQ.y rfl rfl (B rfl) (Yv.nilChk rfl (E rfl rfl)) ?_
          refine AWQ.y rfl rfl (B rfl) (Yv.fieldBox rfl fo_70_0 (E rfl rfl)) ?_
          refine AWQ.y rfl rfl (B rfl) (Yv.loadBox rfl ag_64 (i := 0) rfl (E rfl rfl) rfl) ?_
          refine AWQ.y rfl rfl (B rfl) (Yv.move rfl (E rfl rfl)) ?_
          refine AWQ.y rfl rfl (B rfl) (Yv.nilChk rfl (E rfl rfl)) ?_
          refine AWQ.y rfl rfl (B rfl) (Yv.fieldBox rfl fo_67_1 (E rfl rfl)) ?_
          refine AWQ.y rfl rfl (B rfl) (Yv.loadBox rfl ag_9 (i := 0) rfl (E rfl rfl) (name_at (by omega))) ?_
          refine AWQ.y rfl rfl (B rfl) (Yv.eqT (t' := .v (.slice (ws.files.getD q default).A (ws.files.getD q default).bytes.length (ws.files.getD q default).c)) (Yv.lookup1 (k := .s _) (i := 1) rfl mp_64 rfl (E rfl rfl) (E rfl rfl) rfl (files_good _)) (by rw [hnm, get_file hu hq]; rfl)) ?_
          refine AWQ.y rfl rfl (B rfl) (Yv.assign rfl (E rfl rfl)) ?_
          refine AWQ.nil ?_
          refine AW.mid (α := Option Addr × Nat) (fun r => [(0, true, wp b), (2, true, sv s), (7, true, .v (.pointer (some ⟨b, 2 + j * 3, none⟩))), (8, true, .v (.slice r.1 (padTo (ws.files.getD q default).bytes ((ws.opn.getD j default).place + s.length)).length r.2))]) (fun r => (WSt b m ws).set (q + 3) (.row r.1 (padTo (ws.files.getD q default).bytes ((ws.opn.getD j default).place + s.length)).length r.2 5 1 (List.map u8 (padTo (ws.files.getD q default).bytes ((ws.opn.getD j default).place + s.length))))) (fun _ => True) ?_ ?_
          ·
            refine AW.rseq ?_
            refine Y1 (Yv.move rfl eV) ?_
            refine Y1 (Yv.nilChk rfl eV) ?_
            refine Y1 (Yv.fieldBox rfl fo_67_2 eV) ?_
            refine Y1 (Yv.loadBox rfl ag_3 (i := 0) rfl (E rfl rfl) (place_at (by omega))) ?_
            refine Y1 (Yv.move rfl eV) ?_
            refine Y1 (Yv.lenL rfl st_9 (E rfl rfl)) ?_
            refine Y1 (Yv.addN_i64 rfl (E rfl rfl) (E rfl rfl) (fun hg => by omega)) ?_
            refine Y1 (Yv.move rfl eV) ?_
            refine Y1 (Yv.lenV rfl so_71 (E rfl rfl)) ?_
            refine Y1 (Yv.subN_i64 rfl (E rfl rfl) (E rfl rfl) (fun hg => by omega)) ?_
            refine Y1 (Yv.assign rfl eV) ?_
            refine nl ?_
            refine AW.rseq ?_
            refine Y1 (Yv.move rfl eV) ?_
            refine Y1 (Yv.gtr rfl eV eV) ?_
            refine nl ?_
            refine AW.cond rfl (fun h4t => ?_) (fun h4f => ?_)
            ·
              try replace h4t := of_decide_eq_true h4t
              have egap : (((ws.opn.getD j default).place : Int) + (s.length : Int) - ((ws.files.getD q default).bytes.length : Int)) = (((ws.opn.getD j default).place + s.length - (ws.files.getD q default).bytes.length : Nat) : Int) := by omega
              rw [egap]
              refine AW.region ?_
              refine Y1 (Yv.move rfl eV) ?_
              refine Y1 (Yv.move rfl eV) ?_
              refine AWL.appendZerosAny (m := (ws.opn.getD j default).place + s.length - (ws.files.getD q default).bytes.length) (i := q + 3) rfl rfl (B rfl) rfl el_71 kd_3 (by omega) (file_row hq) (E rfl rfl) (E rfl rfl) (by unfold maxLen; omega) (by omega) (fun A54 c54 => ?_)
              refine Y1 (Yv.assign rfl eV) ?_
              refine nl ?_
              have el : (padTo (ws.files.getD q default).bytes ((ws.opn.getD j default).place + s.length)).length = (ws.files.getD q default).bytes.length + ((ws.opn.getD j default).place + s.length - (ws.files.getD q default).bytes.length) := by rw [padTo_len]; omega
              refine ⟨(A54, c54), trivial, ?_, ?_⟩
              · exact (Sub.cons rfl rfl (Sub.cons rfl rfl (Sub.cons rfl rfl (Sub.cons rfl (by rw [el]) Sub.nil))))
              · rw [el]
                unfold padTo
                rw [← pad_cells] <;> rfl
            ·
              try replace h4f := of_decide_eq_false h4f
              refine AW.skip ?_
              have el : (padTo (ws.files.getD q default).bytes ((ws.opn.getD j default).place + s.length)) = (ws.files.getD q default).bytes := padTo_id (by omega)
              refine ⟨((ws.files.getD q default).A, (ws.files.getD q default).c), trivial, ?_, ?_⟩
              · exact (Sub.cons rfl rfl (Sub.cons rfl rfl (Sub.cons rfl rfl (Sub.cons rfl (by rw [el] <;> rfl) Sub.nil))))
              · rw [el]; exact (wst_same hq).symm
          ·
            rintro ⟨A1, c1⟩ _
            have hgl : (padTo (ws.files.getD q default).bytes ((ws.opn.getD j default).place + s.length)).length = max (ws.files.getD q default).bytes.length ((ws.opn.getD j default).place + s.length) := padTo_len _ _
            have hlen0 : 0 < s.length := List.length_pos_iff.2 hs0
            refine AW.rseq ?_
            refine Y1 (Yv.move rfl eV) ?_
            refine Y1 (Yv.move rfl eV) ?_
            refine Y1 (Yv.nilChk rfl eV) ?_
            refine Y1 (Yv.fieldBox rfl fo_67_2 eV) ?_
            refine Y1 (Yv.loadBox rfl ag_3 (i := 0) rfl (E rfl rfl) (place_at (by omega))) ?_
            refine Y1 (Yv.sliceRowFrom (i := q + 3) (lo := (ws.opn.getD j default).place) rfl ss_71 (file_row_set hq _) (E rfl rfl) (Bound.some_ (E rfl rfl) (fun _ => rfl)) (fun hg => by omega)) ?_
            refine Y1 (Yv.move rfl eV) ?_
            refine AWL.copyRowAt (i := q + 3) (lo := (ws.opn.getD j default).place) (m := s.length) rfl rfl (B rfl) rfl el_71 (file_row_set hq _) (E rfl rfl) (SrcT.strL st_9 (E rfl rfl)) (by omega) hlen0 ?_
            refine nl ?_
            refine AW.rseqP rfl ?_
            refine AWP.take (i := 0) rfl (by kernel_rfl) (by kernel_rfl) (by kernel_rfl) rfl rfl (B rfl) (freeMove rfl (E rfl rfl)) ?_
            refine AWP.take (i := 1) rfl (by kernel_rfl) (by kernel_rfl) (by kernel_rfl) rfl rfl (B rfl) (freeNil rfl (E rfl rfl)) ?_
            refine AWP.take (i := 2) rfl (by kernel_rfl) (by kernel_rfl) (by kernel_rfl) rfl rfl (B rfl) (freeField rfl fo_70_0 (E rfl rfl)) ?_
            refine AWP.take (i := 4) rfl (by kernel_rfl) (by kernel_rfl) (by kernel_rfl) rfl rfl (B rfl) (freeMove rfl (E rfl rfl)) ?_
            refine AWP.take (i := 5) rfl (by kernel_rfl) (by kernel_rfl) (by kernel_rfl) rfl rfl (B rfl) (freeNil rfl (E rfl rfl)) ?_
            refine AWP.take (i := 6) rfl (by kernel_rfl) (by kernel_rfl) (by kernel_rfl) rfl rfl (B rfl) (freeField rfl fo_67_1 (E rfl rfl)) ?_
            refine AWP.take (i := 8) rfl (by kernel_rfl) (by kernel_rfl) (by kernel_rfl) rfl rfl (B rfl) (freeMove rfl (E rfl rfl)) ?_
            refine AWP.two (i := 3) (j := 7) (by kernel_rfl) rfl rfl ?_ ?_
            ·
              refine Y1 (Yv.loadBox rfl ag_64 (i := 0) rfl (E rfl rfl) rfl) ?_
              refine nl ?_
              refine AWP.one (i := 7) (by kernel_rfl) rfl ?_
              refine Y1 (Yv.loadBox rfl ag_9 (i := 0) rfl (E rfl rfl) (name_at (by omega))) ?_
              refine nl ?_
              refine AWP.one (i := 9) (by kernel_rfl) rfl ?_
              refine AWL.mapUpd (k := .s _) (i := 1) (r := .v (.slice A1 (padTo (ws.files.getD q default).bytes ((ws.opn.getD j default).place + s.length)).length c1)) rfl rfl (.inl rfl) mp_64 rfl (E rfl rfl) (E rfl rfl) (E rfl rfl) rfl rfl (files_good _) ?_
              refine nl ?_
              refine AWP.done (by kernel_rfl) ?_
              refine AW.rseq ?_
              refine Y1 (Yv.move rfl eV) ?_
              refine Y1 (Yv.nilChk rfl eV) ?_
              refine Y1 (Yv.fieldBox rfl fo_67_2 eV) ?_
              refine Y1 (Yv.loadBox rfl ag_3 (i := 0) rfl (E rfl rfl) (place_at (by omega))) ?_
              refine Y1 (Yv.move rfl eV) ?_
              refine Y1 (Yv.lenL rfl st_9 (E rfl rfl)) ?_
              refine Y1 (Yv.addN_i64 rfl (E rfl rfl) (E rfl rfl) (fun hg => by omega)) ?_
              refine Y1 (Yv.nilChk rfl eV) ?_
              refine Y1 (Yv.fieldBox rfl fo_67_2 eV) ?_
              refine AWL.storeBox (i := 0) rfl rfl rfl ag_3 rfl (E rfl rfl) (E rfl rfl) rfl rfl (by rw [wCells_len, ho]; omega) ?_
              refine nl ?_
              refine AW.eqS (S' := WSt b m { ws with files := ws.files.set q { (ws.files.getD q default) with bytes := writeAt (ws.files.getD q default).bytes (ws.opn.getD j default).place s, A := A1, c := c1 }, opn := ws.opn.set j { (ws.opn.getD j default) with place := (ws.opn.getD j default).place + s.length } }) ?_ ?_
              · have e0 : { (ws.files.getD q default) with bytes := writeAt (ws.files.getD q default).bytes (ws.opn.getD j default).place s, A := A1, c := c1 }.bytes.length = (padTo (ws.files.getD q default).bytes ((ws.opn.getD j default).place + s.length)).length := by rw [hgl]; exact writeAt_len _ _ _
                have e1 := put_file { (ws.files.getD q default) with bytes := writeAt (ws.files.getD q default).bytes (ws.opn.getD j default).place s, A := A1, c := c1 } hu hq rfl
                have e2 := set_desc (m := m) (s := ws.stdin) (A := ws.tA) (n := ws.trace.length) (c := ws.tc) (show j < ws.opn.length by omega) 2 1 [.v (.int .i64 (((ws.opn.getD j default).place + s.length : Nat) : Int))] { (ws.opn.getD j default) with place := (ws.opn.getD j default).place + s.length } (by decide) rfl
                have e3 := writeAt_cells (ws.files.getD q default).bytes (ws.opn.getD j default).place s
                have e4 : fileRow { (ws.files.getD q default) with bytes := writeAt (ws.files.getD q default).bytes (ws.opn.getD j default).place s, A := A1, c := c1 } = .row A1 (padTo (ws.files.getD q default).bytes ((ws.opn.getD j default).place + s.length)).length c1 5 1 ((List.map u8 (padTo (ws.files.getD q default).bytes ((ws.opn.getD j default).place + s.length))).take (ws.opn.getD j default).place ++ List.map u8 s ++ (List.map u8 (padTo (ws.files.getD q default).bytes ((ws.opn.getD j default).place + s.length))).drop ((ws.opn.getD j default).place + s.length)) := by
                  unfold fileRow; rw [e3]; simp only; rw [writeAt_len, hgl]
                simp only [e0] at e1
                rw [← wst_wrote { (ws.files.getD q default) with bytes := (padTo (ws.files.getD q default).bytes ((ws.opn.getD j default).place + s.length)), A := A1, c := c1 } { (ws.files.getD q default) with bytes := writeAt (ws.files.getD q default).bytes (ws.opn.getD j default).place s, A := A1, c := c1 } { (ws.opn.getD j default) with place := (ws.opn.getD j default).place + s.length }, ← e1, ← e2, e4, hnm]
                rfl
              have hw2 : WB (n + s.length) { ws with files := ws.files.set q { (ws.files.getD q default) with bytes := writeAt (ws.files.getD q default).bytes (ws.opn.getD j default).place s, A := A1, c := c1 }, opn := ws.opn.set j { (ws.opn.getD j default) with place := (ws.opn.getD j default).place + s.length } } := wb_wrote hj hq ⟨ho, htr, htx, hfl, hpl, hsi⟩ _ _
              have hgd : (ws.opn.set j { (ws.opn.getD j default) with place := (ws.opn.getD j default).place + s.length }).getD j default = { (ws.opn.getD j default) with place := (ws.opn.getD j default).place + s.length } := getD_set (by omega) _ _
              refine AW.region ?_
              refine Y1 (Yv.move rfl eV) ?_
              refine Y1 (Yv.move rfl eV) ?_
              refine Y1 (Yv.nilChk rfl eV) ?_
              refine Y1 (Yv.fieldBox rfl fo_67_1 eV) ?_
              refine Y1 (Yv.loadBox rfl ag_9 (i := 0) rfl (E rfl rfl) (r := sv (ws.opn.getD j default).name) ((name_at (by rw [List.length_set]; omega)).trans (by rw [hgd]))) ?_
              refine Y1 (Yv.move rfl eV) ?_
              refine AWL.callAll rfl rfl (B rfl) rfl ce_30 (E rfl rfl) (evsC (E rfl rfl) (evsC (E rfl rfl) (evsC (E rfl rfl) (evsC (E rfl rfl) evs0)))) (say30 b m { ws with files := ws.files.set q { (ws.files.getD q default) with bytes := writeAt (ws.files.getD q default).bytes (ws.opn.getD j default).place s, A := A1, c := c1 }, opn := ws.opn.set j { (ws.opn.getD j default) with place := (ws.opn.getD j default).place + s.length } } 3 (ws.opn.getD j default).name s (n + s.length) hw2 (by omega) (by omega)) ?_
              rintro t87 S87 ⟨rfl, A87, c87, rfl⟩
              refine nl ?_
              refine AW.rseq ?_
              refine Y1 (Yv.move rfl eV) ?_
              refine Y1 (Yv.lenL rfl st_9 (E rfl rfl)) ?_
              refine Y1 (Yv.assign rfl eV) ?_
              refine nl ?_
              refine AW.ret (retI (.tmp rfl .nil) ?_)
              first
                | exact ⟨rfl, none, 0, none, 0, by unfold wrF; rw [if_pos h3f]⟩
                | exact ⟨rfl, A1, c1, A87, c87, by unfold wrF; rw [if_neg hs0]⟩
            ·
              refine Y1 (Yv.loadBox rfl ag_9 (i := 0) rfl (E rfl rfl) (name_at (by omega))) ?_
              refine nl ?_
              refine AWP.one (i := 3) (by kernel_rfl) rfl ?_
              refine Y1 (Yv.loadBox rfl ag_64 (i := 0) rfl (E rfl rfl) rfl) ?_
              refine nl ?_
              refine AWP.one (i := 9) (by kernel_rfl) rfl ?_
              refine AWL.mapUpd (k := .s _) (i := 1) (r := .v (.slice A1 (padTo (ws.files.getD q default).bytes ((ws.opn.getD j default).place + s.length)).length c1)) rfl rfl (.inl rfl) mp_64 rfl (E rfl rfl) (E rfl rfl) (E rfl rfl) rfl rfl (files_good _) ?_
              refine nl ?_
              refine AWP.done (by kernel_rfl) ?_
              refine AW.rseq ?_
              refine Y1 (Yv.move rfl eV) ?_
              refine Y1 (Yv.nilChk rfl eV) ?_
              refine Y1 (Yv.fieldBox rfl fo_67_2 eV) ?_
              refine Y1 (Yv.loadBox rfl ag_3 (i := 0) rfl (E rfl rfl) (place_at (by omega))) ?_
              refine Y1 (Yv.move rfl eV) ?_
              refine Y1 (Yv.lenL rfl st_9 (E rfl rfl)) ?_
              refine Y1 (Yv.addN_i64 rfl (E rfl rfl) (E rfl rfl) (fun hg => by omega)) ?_
              refine Y1 (Yv.nilChk rfl eV) ?_
              refine Y1 (Yv.fieldBox rfl fo_67_2 eV) ?_
              refine AWL.storeBox (i := 0) rfl rfl rfl ag_3 rfl (E rfl rfl) (E rfl rfl) rfl rfl (by rw [wCells_len, ho]; omega) ?_
              refine nl ?_
              refine AW.eqS (S' := WSt b m { ws with files := ws.files.set q { (ws.files.getD q default) with bytes := writeAt (ws.files.getD q default).bytes (ws.opn.getD j default).place s, A := A1, c := c1 }, opn := ws.opn.set j { (ws.opn.getD j default) with place := (ws.opn.getD j default).place + s.length } }) ?_ ?_
              · have e0 : { (ws.files.getD q default) with bytes := writeAt (ws.files.getD q default).bytes (ws.opn.getD j default).place s, A := A1, c := c1 }.bytes.length = (padTo (ws.files.getD q default).bytes ((ws.opn.getD j default).place + s.length)).length := by rw [hgl]; exact writeAt_len _ _ _
                have e1 := put_file { (ws.files.getD q default) with bytes := writeAt (ws.files.getD q default).bytes (ws.opn.getD j default).place s, A := A1, c := c1 } hu hq rfl
                have e2 := set_desc (m := m) (s := ws.stdin) (A := ws.tA) (n := ws.trace.length) (c := ws.tc) (show j < ws.opn.length by omega) 2 1 [.v (.int .i64 (((ws.opn.getD j default).place + s.length : Nat) : Int))] { (ws.opn.getD j default) with place := (ws.opn.getD j default).place + s.length } (by decide) rfl
                have e3 := writeAt_cells (ws.files.getD q default).bytes (ws.opn.getD j default).place s
                have e4 : fileRow { (ws.files.getD q default) with bytes := writeAt (ws.files.getD q default).bytes (ws.opn.getD j default).place s, A := A1, c := c1 } = .row A1 (padTo (ws.files.getD q default).bytes ((ws.opn.getD j default).place + s.length)).length c1 5 1 ((List.map u8 (padTo (ws.files.getD q default).bytes ((ws.opn.getD j default).place + s.length))).take (ws.opn.getD j default).place ++ List.map u8 s ++ (List.map u8 (padTo (ws.files.getD q default).bytes ((ws.opn.getD j default).place + s.length))).drop ((ws.opn.getD j default).place + s.length)) := by
                  unfold fileRow; rw [e3]; simp only; rw [writeAt_len, hgl]
                simp only [e0] at e1
                rw [← wst_wrote { (ws.files.getD q default) with bytes := (padTo (ws.files.getD q default).bytes ((ws.opn.getD j default).place + s.length)), A := A1, c := c1 } { (ws.files.getD q default) with bytes := writeAt (ws.files.getD q default).bytes (ws.opn.getD j default).place s, A := A1, c := c1 } { (ws.opn.getD j default) with place := (ws.opn.getD j default).place + s.length }, ← e1, ← e2, e4, hnm]
                rfl
              have hw2 : WB (n + s.length) { ws with files := ws.files.set q { (ws.files.getD q default) with bytes := writeAt (ws.files.getD q default).bytes (ws.opn.getD j default).place s, A := A1, c := c1 }, opn := ws.opn.set j { (ws.opn.getD j default) with place := (ws.opn.getD j default).place + s.length } } := wb_wrote hj hq ⟨ho, htr, htx, hfl, hpl, hsi⟩ _ _
              have hgd : (ws.opn.set j { (ws.opn.getD j default) with place := (ws.opn.getD j default).place + s.length }).getD j default = { (ws.opn.getD j default) with place := (ws.opn.getD j default).place + s.length } := getD_set (by omega) _ _
              refine AW.region ?_
              refine Y1 (Yv.move rfl eV) ?_
              refine Y1 (Yv.move rfl eV) ?_
              refine Y1 (Yv.nilChk rfl eV) ?_
              refine Y1 (Yv.fieldBox rfl fo_67_1 eV) ?_
              refine Y1 (Yv.loadBox rfl ag_9 (i := 0) rfl (E rfl rfl) (r := sv (ws.opn.getD j default).name) ((name_at (by rw [List.length_set]; omega)).trans (by rw [hgd]))) ?_
              refine Y1 (Yv.move rfl eV) ?_
              refine AWL.callAll rfl rfl (B rfl) rfl ce_30 (E rfl rfl) (evsC (E rfl rfl) (evsC (E rfl rfl) (evsC (E rfl rfl) (evsC (E rfl rfl) evs0)))) (say30 b m { ws with files := ws.files.set q { (ws.files.getD q default) with bytes := writeAt (ws.files.getD q default).bytes (ws.opn.getD j default).place s, A := A1, c := c1 }, opn := ws.opn.set j { (ws.opn.getD j default) with place := (ws.opn.getD j default).place + s.length } } 3 (ws.opn.getD j default).name s (n + s.length) hw2 (by omega) (by omega)) ?_
              rintro t87 S87 ⟨rfl, A87, c87, rfl⟩
              refine nl ?_
              refine AW.rseq ?_
              refine Y1 (Yv.move rfl eV) ?_
              refine Y1 (Yv.lenL rfl st_9 (E rfl rfl)) ?_
              refine Y1 (Yv.assign rfl eV) ?_
              refine nl ?_
              refine AW.ret (retI (.tmp rfl .nil) ?_)
              first
                | exact ⟨rfl, none, 0, none, 0, by unfold wrF; rw [if_pos h3f]⟩
                | exact ⟨rfl, A1, c1, A87, c87, by unfold wrF; rw [if_neg hs0]⟩
        ·
          try replace h3f := of_decide_eq_false h3f
          simp only [Bool.or_eq_true, Bool.and_eq_true, Bool.or_eq_false_iff, Bool.and_eq_false_iff, Bool.not_eq_true', Bool.not_eq_false', decide_eq_true_eq, decide_eq_false_iff_not, Decidable.not_not] at h3f
          refine AW.skip ?_
          refine AW.rseq ?_
          refine Y1 (Yv.move rfl eV) ?_
          refine Y1 (Yv.lenL rfl st_9 (E rfl rfl)) ?_
          refine Y1 (Yv.assign rfl eV) ?_
          refine nl ?_
          refine AW.ret (retI (.tmp rfl .nil) ?_)
          first
            | exact ⟨rfl, none, 0, none, 0, by unfold wrF; rw [if_pos h3f]⟩
            | exact ⟨rfl, A1, c1, A87, c87, by unfold wrF; rw [if_neg hs0]⟩
      ·
        try replace h2f := of_decide_eq_false h2f
        omega

end Go.Proofs.Ytmiggpnkicdijaa

namespace Go.Proofs.Ytmiggpnkicdijaa
open Go Go.RowKit
def putF (f : FileR) : List FileR → List FileR
  | [] => [f]
  | g :: r => if g.name = f.name then f :: r else g :: putF f r
def hasK (name : List UInt8) (l : List FileR) : Bool := (getK (.s name) (l.map fileKey)).isSome
def freeIx (o : List Desc) : Nat := o.findIdx fun d => decide (d.kind = 0)
def openR (name : List UInt8) (flags : Int) (ws : WS) : Int :=
  if 255 < name.length then -36 else if (flags ≠ 0 ∧ flags ≠ 577) ∨ 0 ≤ Lib.indexByte name 0 then -22 else if name = [] then -2 else if flags = 0 ∧ hasK name ws.files = false then -2 else if freeIx ws.opn < 19 then freeIx ws.opn else -24
def openS (name : List UInt8) (flags : Int) (A : Option Addr) (c : Nat) (tA : Option Addr) (tc : Nat) (ws : WS) : WS :=
  if openR name flags ws < 0 then ws else if flags = 577 then
    { ws with opn := ws.opn.set (freeIx ws.opn) ⟨5, name, 0⟩, files := putF ⟨name, [], A, c⟩ ws.files, trace := ws.trace ++ [⟨3, name, []⟩], tA := tA, tc := tc }
  else { ws with opn := ws.opn.set (freeIx ws.opn) ⟨4, name, 0⟩ }
theorem put_key (f : FileR) : ∀ (l : List FileR), putK (.s f.name) (.v (.slice f.A f.bytes.length f.c)) (l.map fileKey) = (putF f l).map fileKey
  | [] => rfl
  | g :: r => by
    rw [List.map_cons, putK, putF]
    by_cases h : g.name = f.name
    · rw [if_pos h, if_pos (by simp [fileKey, h])]; rfl
    · rw [if_neg h, if_neg (by simpa [fileKey] using h), put_key f r]; rfl
theorem put_rows (f : FileR) : ∀ (l : List FileR), ∃ S' : St, S'.Sublist (l.map fileRow ++ [fileRow f]) ∧ ((putF f l).map fileRow).Perm S'
  | [] => ⟨_, .refl _, .refl _⟩
  | g :: r => by
    rw [putF]
    split
    · exact ⟨r.map fileRow ++ [fileRow f], by rw [List.map_cons, List.cons_append]; exact List.sublist_cons_self _ _, by
        rw [List.map_cons]
        exact (List.perm_append_singleton _ _).symm⟩
    · obtain ⟨S', h1, h2⟩ := put_rows f r
      exact ⟨fileRow g :: S', by rw [List.map_cons, List.cons_append]; exact h1.cons_cons _, by rw [List.map_cons]; exact h2.cons _⟩
theorem freeIx_is {o : List Desc} {j : Nat} (h : j < o.length) (h0 : (o.getD j default).kind = 0) (hb : ∀ i, i < j → (o.getD i default).kind ≠ 0) : freeIx o = j := by
  unfold freeIx
  rw [List.findIdx_eq h]
  refine ⟨by rw [getD_eq' h] at h0; simpa using h0, fun i hi => ?_⟩
  have := hb i hi
  rw [getD_eq' (show i < o.length by omega)] at this
  simpa using this
theorem freeIx_none {o : List Desc} (hb : ∀ i, i < o.length → (o.getD i default).kind ≠ 0) : ¬ freeIx o < o.length := by
  unfold freeIx
  intro h
  have h2 := List.findIdx_getElem (w := h)
  have h1 := hb _ h
  rw [getD_eq' h] at h1
  simp only [decide_eq_true_eq] at h2
  exact h1 h2
section
variable {cx : Cx} {env : Env} {S : St} {Q : Exit → Env → St → Prop}
theorem AW.filePut {code : Code} {a b c : Ent} {l : List FileR} (f : FileR) (hS : S = (a :: b :: c :: l.map fileRow) ++ [fileRow f]) (h : AW cx code Q env (a :: b :: c :: (putF f l).map fileRow)) : AW cx code Q env S := by
  subst hS
  obtain ⟨S', h1, h2⟩ := put_rows f l
  exact AW.drop (S' := a :: b :: c :: S') (((h1.cons_cons c).cons_cons b).cons_cons a) (AW.perm (((h2.cons c).cons b).cons a) h)
end
theorem wst_desc {b m j : Nat} {ws : WS} (hj : j < ws.opn.length) (i q : Nat) (new : List T) (d' : Desc) (hin : i + q ≤ 3) (he : descCells d' = (descCells (ws.opn.getD j default)).take i ++ new ++ (descCells (ws.opn.getD j default)).drop (i + q)) :
    (WSt b m ws).set 0 (.box b 70 ((wCells m ws.stdin ws.opn ws.tA ws.trace.length ws.tc).take (2 + j * 3 + i) ++ new ++ (wCells m ws.stdin ws.opn ws.tA ws.trace.length ws.tc).drop (2 + j * 3 + i + q))) = WSt b m { ws with opn := ws.opn.set j d' } := by
  rw [set_desc hj i q new d' hin he]; rfl
theorem wst_event {b m : Nat} {ws : WS} (ho : ws.opn.length = 19) (e : Evt) (A : Option Addr) (c : Nat) : WSt b m { ws with trace := ws.trace ++ [e], tA := A, tc := c } =
    .box b 70 ((wCells m ws.stdin ws.opn ws.tA ws.trace.length ws.tc).take 59 ++ [.v (.slice A (ws.trace.length + 1) c)] ++ (wCells m ws.stdin ws.opn ws.tA ws.trace.length ws.tc).drop 60) :: .map m (ws.files.map fileKey) :: .row A (ws.trace.length + 1) c 36 3 (ws.trace.flatMap evCells ++ evCells e) :: ws.files.map fileRow := by
  simp only [WSt, List.length_append, List.length_cons, List.length_nil, List.flatMap_append, List.flatMap_cons, List.flatMap_nil, List.append_nil, Nat.zero_add]
  rw [set_trace ho]
end Go.Proofs.Ytmiggpnkicdijaa

namespace Go.Proofs.Ytmiggpnkicdijaa
open Go Go.RowKit
set_option linter.unusedVariables false
set_option linter.unnecessarySimpa false
set_option linter.unusedSimpArgs false

set_option maxHeartbeats 400000 in
theorem Out12 (b m : Nat) (ws : WS) (s : List UInt8) (n : Nat) (hk : (ws.opn.getD 1 default).kind = 2) (hw : WB n ws) (hn : n ≤ 1099511627776) (hs : s.length ≤ 1099511627776) :
    ACalls Try.prog 12 [wp b, sv s] (WSt b m ws) (fun t S => ∃ A c, S = WSt b m { ws with trace := sayF 1 [] s ws.trace, tA := A, tc := c }) := by
  refine ACalls.intro Try.func12 rfl Try.ntmps12 (Nat.le_of_ble_eq_true rfl) rfl fun X w0 => ?_
  refine AW.region ?_
  refine Y1 (Yv.move rfl eV) ?_
  refine Y1 (Yv.move rfl eV) ?_
  refine AWL.callAll rfl rfl (B rfl) rfl ce_13 (E rfl rfl) (evsC (E rfl rfl) (evsC (E rfl rfl) (evsC (E rfl rfl) evs0))) (SysWrite13_2 b m ws 1 s n (by decide) hk hw hn hs) ?_
  rintro t6 S6 ⟨rfl, A6, c6, rfl⟩
  refine nl ?_
  refine retN .nil ?_
  exact ⟨_, _, rfl⟩

set_option maxHeartbeats 2000000 in
theorem SysOpen17 (b m : Nat) (ws : WS) (name : List UInt8) (flags : Int) (n : Nat) (hw : WB n ws) (hn : n ≤ 549755813888) :
    ACalls Try.prog 17 [wp b, sv name, .v (.int .i64 flags)] (WSt b m ws) (fun t S => t = .v (.int .i64 (openR name flags ws)) ∧ ∃ A c tA tc, S = WSt b m (openS name flags A c tA tc ws)) := by
  obtain ⟨ho, htr, htx, hfl, hpl, hsi⟩ := hw
  refine ACalls.intro Try.func17 rfl Try.ntmps17 (Nat.le_of_ble_eq_true rfl) rfl fun X w0 => ?_
  refine AW.rseq ?_
  refine Y1 (Yv.assign rfl eV) ?_
  refine nl ?_
  refine AW.seq ?_
  refine AW.block ?_
  refine AW.rseq ?_
  refine Y1 (Yv.move rfl eV) ?_
  refine Y1 (Yv.eqlNilP rfl pn_24 (E rfl rfl)) ?_
  refine Y1 (Yv.assign rfl eV) ?_
  refine nl ?_
  refine AW.cond rfl (fun h0t => ?_) (fun h0f => ?_)
  ·
    try replace h0t := of_decide_eq_true h0t
    cases h0t
  ·
    try replace h0f := of_decide_eq_false h0f
    refine AW.rseq ?_
    refine Y1 (Yv.move rfl eV) ?_
    refine Y1 (Yv.lenL rfl st_9 (E rfl rfl)) ?_
    refine Y1 (Yv.gtr rfl eV eV) ?_
    refine Y1 (Yv.assign rfl eV) ?_
    refine nl ?_
    refine AW.cond rfl (fun h1t => ?_) (fun h1f => ?_)
    ·
      try replace h1t := of_decide_eq_true h1t
      refine AW.rseq ?_
      refine Y1 (Yv.assign rfl eV) ?_
      refine nl ?_
      refine AW.ret (retI (.tmp rfl .nil) ?_)
      have e : openR name flags ws = -36 := by
        unfold openR
        rw [if_pos (by omega)]
      exact ⟨by rw [e]; rfl, none, 0, none, 0, by unfold openS; rw [if_pos (by omega)]⟩
    ·
      try replace h1f := of_decide_eq_false h1f
      refine AW.rseq ?_
      refine Y1 (Yv.move rfl eV) ?_
      refine Y1 (Yv.neq rfl eV eV) ?_
      refine Y1 (Yv.move rfl eV) ?_
      refine AWL.ygT rfl rfl rfl rfl (B rfl) (Yv.move rfl (E rfl rfl)) ?_
      refine AWL.ygT rfl rfl rfl rfl (B rfl) (Yv.neq rfl (Eg rfl rfl id) (E rfl rfl)) ?_
      refine Y1 (Yv.pickAnd rfl (E rfl rfl) (Eg rfl rfl id)) ?_
      refine Y1 (Yv.move rfl eV) ?_
      refine AWL.ygF rfl rfl rfl rfl (B rfl) (Yv.move rfl (E rfl rfl)) ?_
      refine AWL.callPgF rfl rfl rfl rfl (B rfl) rfl ce_32 (E rfl rfl) (evsC (Eg rfl rfl id) (evsC (E rfl rfl) evs0)) (fun hg => indexByte32 name 0) (fun t S h => h) ?_
      refine AWL.ygF rfl rfl rfl rfl (B rfl) (Yv.geq rfl (Eg rfl rfl id) (E rfl rfl)) ?_
      refine Y1 (Yv.pickOr (t := .const (.bool true)) rfl (E rfl rfl) (Eg rfl rfl id)) ?_
      refine Y1 (Yv.assign rfl eV) ?_
      refine nl ?_
      refine AW.cond rfl (fun h2t => ?_) (fun h2f => ?_)
      ·
        try replace h2t := of_decide_eq_true h2t
        simp only [Bool.or_eq_true, Bool.and_eq_true, Bool.or_eq_false_iff, Bool.and_eq_false_iff, Bool.not_eq_true', Bool.not_eq_false', decide_eq_true_eq, decide_eq_false_iff_not, Decidable.not_not] at h2t
        refine AW.rseq ?_
        refine Y1 (Yv.assign rfl eV) ?_
        refine nl ?_
        refine AW.ret (retI (.tmp rfl .nil) ?_)
        have e : openR name flags ws = -22 := by
          unfold openR
          rw [if_neg (by omega), if_pos (by omega)]
        exact ⟨by rw [e]; rfl, none, 0, none, 0, by unfold openS; rw [if_pos (by omega)]⟩
      ·
        try replace h2f := of_decide_eq_false h2f
        simp only [Bool.or_eq_true, Bool.and_eq_true, Bool.or_eq_false_iff, Bool.and_eq_false_iff, Bool.not_eq_true', Bool.not_eq_false', decide_eq_true_eq, decide_eq_false_iff_not, Decidable.not_not] at h2f
        refine AW.rseq ?_
        refine Y1 (Yv.move rfl eV) ?_
        refine Y1 (Yv.eqlL rfl (E rfl rfl) (E rfl rfl)) ?_
        refine Y1 (Yv.assign rfl eV) ?_
        refine nl ?_
        refine AW.cond rfl (fun h3t => ?_) (fun h3f => ?_)
        ·
          try replace h3t := of_decide_eq_true h3t
          refine AW.rseq ?_
          refine Y1 (Yv.assign rfl eV) ?_
          refine nl ?_
          refine AW.ret (retI (.tmp rfl .nil) ?_)
          have e : openR name flags ws = -2 := by
            unfold openR
            rw [if_neg (by omega), if_neg (by omega), if_pos h3t]
          exact ⟨by rw [e]; rfl, none, 0, none, 0, by unfold openS; rw [if_pos (by omega)]⟩
        ·
          try replace h3f := of_decide_eq_false h3f
          refine AW.skip ?_
          refine AW.seq ?_
          refine AW.rseq ?_
          refine Y1 (Yv.move rfl eV) ?_
          refine Y1 (Yv.nilChk rfl eV) ?_
          refine Y1 (Yv.fieldBox rfl fo_70_0 eV) ?_
          refine Y1 (Yv.loadBox rfl ag_64 (i := 0) rfl (E rfl rfl) rfl) ?_
          refine Y1 (Yv.move rfl eV) ?_
          refine Y1 (Yv.lookup2 (k := .s _) (i := 1) rfl mp_64 rfl (E rfl rfl) (E rfl rfl) rfl (files_good _)) ?_
          refine Y1 (Yv.move rfl eV) ?_
          refine Y1 (Yv.extract rfl eV rfl) ?_
          refine Y1 (Yv.extract rfl eV rfl) ?_
          refine Y1 (Yv.assign rfl eV) ?_
          refine Y1 (Yv.assign rfl eV) ?_
          refine nl ?_
          refine AW.rseq ?_
          refine Y1 (Yv.move rfl eV) ?_
          refine Y1 (Yv.eql rfl eV eV) ?_
          refine Y1 (Yv.move rfl eV) ?_
          refine AWL.ygT rfl rfl rfl rfl (B rfl) (Yv.move rfl (E rfl rfl)) ?_
          refine AWL.ygT rfl rfl rfl rfl (B rfl) (Yv.not rfl (Eg rfl rfl id)) ?_
          refine Y1 (Yv.pickAnd rfl (E rfl rfl) (Eg rfl rfl id)) ?_
          refine nl ?_
          refine AW.cond rfl (fun h4t => ?_) (fun h4f => ?_)
          ·
            try replace h4t := of_decide_eq_true h4t
            simp only [Bool.or_eq_true, Bool.and_eq_true, Bool.or_eq_false_iff, Bool.and_eq_false_iff, Bool.not_eq_true', Bool.not_eq_false', decide_eq_true_eq, decide_eq_false_iff_not, Decidable.not_not] at h4t
            refine AW.rseq ?_
            refine Y1 (Yv.assign rfl eV) ?_
            refine nl ?_
            refine AW.ret (retI (.tmp rfl .nil) ?_)
            have e : openR name flags ws = -2 := by
              unfold openR
              rw [if_neg (by omega), if_neg (by omega), if_neg h3f, if_pos ⟨h4t.1, by unfold hasK; rw [h4t.2]⟩]
            exact ⟨by rw [e]; rfl, none, 0, none, 0, by unfold openS; rw [if_pos (by omega)]⟩
          ·
            try replace h4f := of_decide_eq_false h4f
            simp only [Bool.or_eq_true, Bool.and_eq_true, Bool.or_eq_false_iff, Bool.and_eq_false_iff, Bool.not_eq_true', Bool.not_eq_false', decide_eq_true_eq, decide_eq_false_iff_not, Decidable.not_not] at h4f
            have hR : openR name flags ws = if freeIx ws.opn < 19 then (freeIx ws.opn : Int) else -24 := by
              unfold openR
              rw [if_neg (by omega), if_neg (by omega), if_neg h3f, if_neg (fun q => h4f.elim (fun h => h q.1) (fun h => by have := q.2; unfold hasK at this; rw [h] at this; cases this))]
            refine AW.skip ?_
            refine AW.seq ?_
            refine AW.rseq ?_
            refine Y1 (Yv.move rfl eV) ?_
            refine nl ?_
            refine AW.block ?_
            refine AW.loop (fun (j : Nat) => [(0, true, wp b), (1, true, sv name), (2, true, .v (.int .i64 flags)), (47, true, .v (.int .i64 (j : Int)))]) (fun (j : Nat) => (WSt b m ws)) (fun (j : Nat) => j ≤ 19 ∧ ∀ i, i < j → (ws.opn.getD i default).kind ≠ 0) (fun (j : Nat) => 19 - j) 0 ?_ ?_ ?_ ?_
            · exact ⟨Nat.zero_le _, fun i hi => absurd hi (Nat.not_lt_zero i)⟩
            · exact (Sub.cons rfl rfl (Sub.cons rfl rfl (Sub.cons rfl rfl (Sub.cons rfl rfl Sub.nil))))
            · rfl
            ·
              intro j hinv
              obtain ⟨hj, hbef⟩ := hinv
              refine AW.rseq ?_
              refine Y1 (Yv.lss rfl eV eV) ?_
              refine nl ?_
              refine AW.seq ?_
              refine AW.cond rfl (fun h5t => ?_) (fun h5f => ?_)
              ·
                try replace h5t := of_decide_eq_true h5t
                refine AW.skip ?_
                refine AW.seq ?_
                refine AW.block ?_
                refine AW.rseq ?_
                refine Y1 (Yv.move rfl eV) ?_
                refine Y1 (Yv.assign rfl eV) ?_
                refine nl ?_
                refine AW.seq ?_
                refine AW.rseq ?_
                refine Y1 (Yv.move rfl eV) ?_
                refine Y1 (Yv.move rfl eV) ?_
                refine Y1 (Yv.nilChk rfl eV) ?_
                refine Y1 (Yv.fieldBox rfl fo_70_2 eV) ?_
                refine Y1 (Yv.indexArr rfl ar_68 (E rfl rfl) (E rfl rfl) (fun hg => ⟨rfl, by omega⟩)) ?_
                refine Y1 (Yv.fieldBox rfl fo_67_0 eV) ?_
                refine Y1 (Yv.loadBox rfl ag_3 (i := 0) rfl (E rfl rfl) (kind_at (by omega))) ?_
                refine Y1 (Yv.neq rfl eV eV) ?_
                refine nl ?_
                refine AW.cond rfl (fun h6t => ?_) (fun h6f => ?_)
                ·
                  try replace h6t := of_decide_eq_true h6t
                  refine AW.exit ?_
                  refine AW.region ?_
                  refine Y1 (Yv.addN_i64 rfl (E rfl rfl) (E rfl rfl) (fun hg => by omega)) ?_
                  refine Y1 (Yv.move rfl eV) ?_
                  refine nl ?_
                  refine ⟨j + 1, ⟨by omega, fun i hi => ?_⟩, by omega, (Sub.cons rfl rfl (Sub.cons rfl rfl (Sub.cons rfl rfl (Sub.cons rfl (by simp) Sub.nil)))), rfl⟩
                  rcases Nat.lt_or_ge i j with h | h
                  · exact hbef i h
                  · obtain rfl : i = j := by omega
                    simpa using h6t
                ·
                  try replace h6f := of_decide_eq_false h6f
                  have hk0 : (ws.opn.getD j default).kind = 0 := by simpa using h6f
                  have hix : freeIx ws.opn = j := freeIx_is (by omega) hk0 hbef
                  rw [hix, if_pos (by omega)] at hR
                  refine AW.skip ?_
                  refine AW.rseq ?_
                  refine Y1 (Yv.move rfl eV) ?_
                  refine AWL.callP rfl rfl (B rfl) rfl ce_26 (E rfl rfl) (evsC (E rfl rfl) evs0) (clone26 name (by omega)) (fun t S h => h) ?_
                  refine Y1 (Yv.assign rfl eV) ?_
                  refine nl ?_
                  refine AW.rseq ?_
                  refine Y1 (Yv.move rfl eV) ?_
                  refine Y1 (Yv.move rfl eV) ?_
                  refine Y1 (Yv.move rfl eV) ?_
                  refine Y1 (Yv.buildS rfl sh_67 (evpC (E rfl rfl) (evpC (E rfl rfl) evp0)) (fun _ => rfl)) ?_
                  refine Y1 (Yv.nilChk rfl eV) ?_
                  refine Y1 (Yv.fieldBox rfl fo_70_2 eV) ?_
                  refine Y1 (Yv.indexArr rfl ar_68 (E rfl rfl) (E rfl rfl) (fun hg => ⟨rfl, by omega⟩)) ?_
                  refine AWL.storeBox (i := 0) rfl rfl rfl ag_67 rfl (E rfl rfl) (E rfl rfl) rfl rfl (by first | (rw [wCells_len, ho]; omega) | (simp only [wCells_len, List.length_set, ho]; omega)) ?_
                  refine nl ?_
                  refine AW.eqS (wst_desc (b := b) (m := m) (ws := ws) (j := j) (by omega) 0 3 (descCells ⟨4, name, 0⟩) ⟨4, name, 0⟩ (by decide) rfl) ?_
                  refine AW.seq ?_
                  refine AW.rseq ?_
                  refine Y1 (Yv.move rfl eV) ?_
                  refine Y1 (Yv.eql rfl eV eV) ?_
                  refine nl ?_
                  refine AW.cond rfl (fun h7t => ?_) (fun h7f => ?_)
                  ·
                    try replace h7t := of_decide_eq_true h7t
                    refine AW.rseq ?_
                    refine Y1 (Yv.move rfl eV) ?_
                    refine Y1 (Yv.move rfl eV) ?_
                    refine Y1 (Yv.nilChk rfl eV) ?_
                    refine Y1 (Yv.fieldBox rfl fo_70_2 eV) ?_
                    refine Y1 (Yv.indexArr rfl ar_68 (E rfl rfl) (E rfl rfl) (fun hg => ⟨rfl, by omega⟩)) ?_
                    refine Y1 (Yv.fieldBox rfl fo_67_0 eV) ?_
                    refine AWL.storeBox (i := 0) rfl rfl rfl ag_3 rfl (E rfl rfl) (E rfl rfl) rfl rfl (by first | (rw [wCells_len, ho]; omega) | (simp only [wCells_len, List.length_set, ho]; omega)) ?_
                    refine nl ?_
                    refine AW.eqS (S' := WSt b m { ws with opn := ws.opn.set j ⟨5, name, 0⟩ }) ?_ ?_
                    · have e := wst_desc (b := b) (m := m) (ws := { ws with opn := ws.opn.set j ⟨4, name, 0⟩ }) (j := j) (by rw [List.length_set]; omega) 0 1 [.v (.int .i64 5)] ⟨5, name, 0⟩ (by decide) (by rw [getD_set (by omega)]; rfl)
                      simp only [List.set_set] at e
                      rw [← e]; rfl
                    refine AW.rseq ?_
                    refine Y1 (Yv.move rfl eV) ?_
                    refine Y1 (Yv.nilChk rfl eV) ?_
                    refine Y1 (Yv.fieldBox rfl fo_70_0 eV) ?_
                    refine Y1 (Yv.loadBox rfl ag_64 (i := 0) rfl (E rfl rfl) rfl) ?_
                    refine Y1 (Yv.move rfl eV) ?_
                    refine AWL.buildSliceRow rfl rfl (B rfl) rfl el_71 (B rfl) rfl evs0 (Nat.le_of_ble_eq_true rfl) rfl rfl (fun A80 => ?_)
                    refine AWL.mapUpd (k := .s _) (i := 1) rfl rfl (.inl rfl) mp_64 rfl (E rfl rfl) (E rfl rfl) (E rfl rfl) rfl rfl (files_good _) ?_
                    refine nl ?_
                    refine AW.filePut (f := ⟨name, [], A80, 0⟩) (l := ws.files) (a := .box b 70 (wCells m ws.stdin (ws.opn.set j ⟨5, name, 0⟩) ws.tA ws.trace.length ws.tc)) (b := .map m ((putF ⟨name, [], A80, 0⟩ ws.files).map fileKey)) (c := .row ws.tA ws.trace.length ws.tc 36 3 (ws.trace.flatMap evCells)) (by
                      have e := put_key ⟨name, [], A80, 0⟩ ws.files
                      rw [← e]; rfl) ?_
                    refine AW.eqS (S' := WSt b m { ws with opn := ws.opn.set j ⟨5, name, 0⟩, files := putF ⟨name, [], A80, 0⟩ ws.files }) rfl ?_
                    refine AW.region ?_
                    refine Y1 (Yv.move rfl eV) ?_
                    refine Y1 (Yv.move rfl eV) ?_
                    refine Y1 (Yv.nilChk rfl eV) ?_
                    refine Y1 (Yv.fieldBox rfl fo_70_3 eV) ?_
                    refine Y1 (Yv.loadBox rfl ag_33 (i := 0) rfl (E rfl rfl) (trace_at (by first | exact ho | (rw [List.length_set]; exact ho)))) ?_
                    refine Y1 (Yv.move rfl eV) ?_
                    refine Y1 (Yv.buildS rfl sh_36 (evpC (E rfl rfl) (evpC (E rfl rfl) evp0)) (fun _ => rfl)) ?_
                    refine AWL.buildSliceE rfl rfl (B rfl) rfl el_33 (B rfl) rfl (evsC (E rfl rfl) evs0) (Nat.le_of_ble_eq_true rfl) rfl rfl ?_
                    refine AWL.appendRow (i := 2) rfl rfl (B rfl) rfl el_33 (B rfl) rfl (E rfl rfl) (SrcT.sl so_33 (B rfl) (E rfl rfl) (m := 1) rfl) (by show ws.trace.length + 1 ≤ maxLen; unfold maxLen; omega) (by show (ws.trace.length + 1) * _ ≤ _; omega) (fun A89 c89 => ?_)
                    refine Y1 (Yv.nilChk rfl eV) ?_
                    refine Y1 (Yv.fieldBox rfl fo_70_3 eV) ?_
                    refine AWL.storeBox (i := 0) rfl rfl rfl ag_33 rfl (E rfl rfl) (E rfl rfl) rfl rfl (by first | (rw [wCells_len, ho]; omega) | (simp only [wCells_len, List.length_set, ho]; omega)) ?_
                    refine nl ?_
                    refine AW.rseq ?_
                    refine Y1 (Yv.move rfl eV) ?_
                    refine Y1 (Yv.assign rfl eV) ?_
                    refine nl ?_
                    refine AW.ret (retI (.tmp rfl .nil) ?_)
                    refine ⟨by rw [hR]; rfl, A80, 0, A89, c89, ?_⟩
                    unfold openS
                    rw [if_neg (by omega), if_pos (by omega), hix]
                    have e := wst_event (b := b) (m := m) (ws := { ws with opn := ws.opn.set j ⟨5, name, 0⟩, files := putF ⟨name, [], A80, 0⟩ ws.files }) (by simpa using ho) ⟨3, name, []⟩ A89 c89
                    exact e.symm
                  ·
                    try replace h7f := of_decide_eq_false h7f
                    refine AW.skip ?_
                    refine AW.rseq ?_
                    refine Y1 (Yv.move rfl eV) ?_
                    refine Y1 (Yv.assign rfl eV) ?_
                    refine nl ?_
                    refine AW.ret (retI (.tmp rfl .nil) ?_)
                    refine ⟨by rw [hR]; rfl, none, 0, none, 0, ?_⟩
                    unfold openS
                    rw [if_neg (by omega), if_neg (by omega), hix]
              ·
                try replace h5f := of_decide_eq_false h5f
                refine AW.exit ?_
                refine AW.rseq ?_
                refine Y1 (Yv.assign rfl eV) ?_
                refine nl ?_
                refine AW.ret (retI (.tmp rfl .nil) ?_)
                have hnf : ¬ freeIx ws.opn < 19 := by
                  rw [← ho]
                  exact freeIx_none (fun i hi => hbef i (by omega))
                rw [if_neg hnf] at hR
                exact ⟨by rw [hR]; rfl, none, 0, none, 0, by unfold openS; rw [if_pos (by omega)]⟩

end Go.Proofs.Ytmiggpnkicdijaa

namespace Go.Proofs.Ytmiggpnkicdijaa
open Go Go.RowKit
theorem indexByte_lt : ∀ (l : List UInt8) (c : UInt8), Lib.indexByte l c < l.length
  | [], _ => by simp [Lib.indexByte]
  | b :: r, c => by
    have ih := indexByte_lt r c
    unfold Lib.indexByte
    simp only [List.length_cons]
    split
    · omega
    · split <;> omega
def lineN (s : List UInt8) : Nat := if Lib.indexByte s 10 < 0 then s.length else (Lib.indexByte s 10 + 1).toNat
theorem has_file : ∀ {l : List FileR} {name : List UInt8}, hasK name l = true → ∃ q, q < l.length ∧ (l.getD q default).name = name
  | [], _, h => by cases h
  | f :: r, name, h => by
    unfold hasK at h
    rw [List.map_cons, getK] at h
    by_cases he : (fileKey f).1 = .s name
    · exact ⟨0, by simp, by simpa [fileKey] using he⟩
    · rw [if_neg he] at h
      obtain ⟨q, h1, h2⟩ := has_file (l := r) (name := name) h
      exact ⟨q + 1, by simpa using h1, by rw [List.getD_cons_succ]; exact h2⟩
structure OpenOk (name : List UInt8) (flags : Int) (ws : WS) : Prop where
  len : name.length ≤ 255
  ix : freeIx ws.opn < 19
  is : openR name flags ws = (freeIx ws.opn : Int)
  ne : name ≠ []
  idx : Lib.indexByte name 0 < 0
  has : flags = 0 → hasK name ws.files = true
theorem open_ok {name : List UInt8} {flags : Int} {ws : WS} (h : ¬ openR name flags ws < 0) : OpenOk name flags ws := by
  have h' := h
  unfold openR at h
  split at h
  · exact absurd (by decide) h
  · split at h
    · exact absurd (by decide) h
    · split at h
      · exact absurd (by decide) h
      · split at h
        · exact absurd (by decide) h
        · split at h
          · rename_i h1 h2 h3 h4 h5
            refine ⟨by omega, h5, ?_, h3, by omega, fun hf => ?_⟩
            · unfold openR
              rw [if_neg h1, if_neg h2, if_neg h3, if_neg h4, if_pos h5]
            · cases hk : hasK name ws.files with
              | true => rfl
              | false => exact absurd ⟨hf, hk⟩ h4
          · exact absurd (by decide) h
theorem openS_neg {name : List UInt8} {flags : Int} {ws : WS} {A tA : Option Addr} {c tc : Nat} (h : openR name flags ws < 0) : openS name flags A c tA tc ws = ws := by unfold openS; rw [if_pos h]
theorem openS_read {name : List UInt8} {ws : WS} {A tA : Option Addr} {c tc : Nat} (h : ¬ openR name 0 ws < 0) : openS name 0 A c tA tc ws = { ws with opn := ws.opn.set (freeIx ws.opn) ⟨4, name, 0⟩ } := by
  unfold openS; rw [if_neg h, if_neg (by decide)]
theorem openS_write {name : List UInt8} {ws : WS} {A tA : Option Addr} {c tc : Nat} (h : ¬ openR name 577 ws < 0) : openS name 577 A c tA tc ws = { ws with opn := ws.opn.set (freeIx ws.opn) ⟨5, name, 0⟩, files := putF ⟨name, [], A, c⟩ ws.files, trace := ws.trace ++ [⟨3, name, []⟩], tA := tA, tc := tc } := by
  unfold openS; rw [if_neg h, if_pos rfl]
theorem put_q (f : FileR) : ∀ (l : List FileR), ∃ q, q < (putF f l).length ∧ (putF f l).getD q default = f
  | [] => ⟨0, by simp [putF], by simp [putF]⟩
  | g :: r => by
    rw [putF]
    split
    · exact ⟨0, by simp, by simp⟩
    · obtain ⟨q, h1, h2⟩ := put_q f r
      exact ⟨q + 1, by simpa using h1, by rw [List.getD_cons_succ]; exact h2⟩
theorem putF_mem {f x : FileR} : ∀ {l : List FileR}, x ∈ putF f l → x = f ∨ x ∈ l
  | [], h => by simp [putF] at h; exact .inl h
  | g :: r, h => by
    rw [putF] at h
    split at h
    · rcases List.mem_cons.1 h with rfl | h
      · exact .inl rfl
      · exact .inr (List.mem_cons_of_mem _ h)
    · rcases List.mem_cons.1 h with rfl | h
      · exact .inr (List.mem_cons_self ..)
      · exact (putF_mem h).imp id (List.mem_cons_of_mem _)
theorem uniq_putF {f : FileR} : ∀ {l : List FileR}, Uniq l → Uniq (putF f l)
  | [], _ => by simp [Uniq, putF]
  | g :: r, h => by
    rw [Uniq, List.map_cons, List.nodup_cons] at h
    rw [putF]
    split
    · rename_i he
      rw [Uniq, List.map_cons, List.nodup_cons, ← he]
      exact h
    · rename_i he
      rw [Uniq, List.map_cons, List.nodup_cons]
      refine ⟨fun hm => ?_, uniq_putF h.2⟩
      obtain ⟨x, hx, hn⟩ := List.mem_map.1 hm
      rcases putF_mem hx with rfl | hx
      · exact he hn.symm
      · exact h.1 (List.mem_map.2 ⟨x, hx, hn⟩)
theorem wb_opn {n : Nat} {ws : WS} (h : WB n ws) (i : Nat) (d : Desc) (hd : d.place ≤ n) : WB n { ws with opn := ws.opn.set i d } :=
  ⟨by simpa using h.opn, h.tr, h.txt, h.fl, fun x hx => by
    rcases List.mem_or_eq_of_mem_set hx with hx | rfl
    · exact h.pl x hx
    · exact hd, h.sin⟩
theorem wb_open {n : Nat} {ws : WS} (h : WB n ws) (i : Nat) (name : List UInt8) (A tA : Option Addr) (c tc : Nat) : WB (n + 1) { ws with opn := ws.opn.set i ⟨5, name, 0⟩, files := putF ⟨name, [], A, c⟩ ws.files, trace := ws.trace ++ [⟨3, name, []⟩], tA := tA, tc := tc } := by
  obtain ⟨ho, htr, htx, hfl, hpl, hsi⟩ := h
  refine ⟨by simpa using ho, by simp; omega, fun e he => ?_, fun f hf => ?_, fun x hx => ?_, by simp only; omega⟩
  · rcases List.mem_append.1 he with he | he
    · have := htx e he; omega
    · rcases List.mem_singleton.1 he with rfl
      simp
  · rcases putF_mem hf with rfl | hf
    · simp
    · have := hfl f hf; omega
  · rcases List.mem_or_eq_of_mem_set hx with hx | rfl
    · have := hpl x hx; omega
    · simp
end Go.Proofs.Ytmiggpnkicdijaa

namespace Go.Proofs.Ytmiggpnkicdijaa
open Go Go.RowKit
set_option linter.unusedVariables false
set_option linter.unnecessarySimpa false
set_option linter.unusedSimpArgs false

set_option maxHeartbeats 400000 in
theorem Line16 (b m : Nat) (ws : WS) (n : Nat) (hw : WB n ws) (hn : n ≤ 1099511627776) :
    ACalls Try.prog 16 [wp b] (WSt b m ws) (fun t S => t = sv (ws.stdin.take (lineN ws.stdin)) ∧ S = WSt b m { ws with stdin := ws.stdin.drop (lineN ws.stdin) }) := by
  obtain ⟨ho, htr, htx, hfl, hpl, hsi⟩ := hw
  have hge := Lib.indexByte_ge ws.stdin 10
  have hlt := indexByte_lt ws.stdin 10
  refine ACalls.intro Try.func16 rfl Try.ntmps16 (Nat.le_of_ble_eq_true rfl) rfl fun X w0 => ?_
  refine AW.rseq ?_
  refine Y1 (Yv.assign rfl eV) ?_
  refine nl ?_
  refine AW.seq ?_
  refine AW.rseq ?_
  refine Y1 (Yv.move rfl eV) ?_
  refine Y1 (Yv.eqlNilP rfl pn_24 (E rfl rfl)) ?_
  refine nl ?_
  refine AW.cond rfl (fun h0t => ?_) (fun h0f => ?_)
  ·
    try replace h0t := of_decide_eq_true h0t
    cases h0t
  ·
    try replace h0f := of_decide_eq_false h0f
    refine AW.skip ?_
    refine AW.rseq ?_
    refine Y1 (Yv.move rfl eV) ?_
    refine Y1 (Yv.nilChk rfl eV) ?_
    refine Y1 (Yv.fieldBox rfl fo_70_1 eV) ?_
    refine Y1 (Yv.loadBox rfl ag_9 (i := 0) rfl (E rfl rfl) rfl) ?_
    refine AWL.callP rfl rfl (B rfl) rfl ce_32 (E rfl rfl) (evsC (E rfl rfl) (evsC (E rfl rfl) evs0)) (indexByte32 ws.stdin 10) (fun t S h => h) ?_
    refine Y1 (Yv.addN_i64 rfl (E rfl rfl) (E rfl rfl) (fun hg => by omega)) ?_
    refine Y1 (Yv.assign rfl eV) ?_
    refine nl ?_
    refine AW.seq ?_
    refine AW.rseq ?_
    refine Y1 (Yv.move rfl eV) ?_
    refine Y1 (Yv.eql rfl eV eV) ?_
    refine nl ?_
    refine AW.cond rfl (fun h1t => ?_) (fun h1f => ?_)
    ·
      try replace h1t := of_decide_eq_true h1t
      have hL : lineN ws.stdin = ws.stdin.length := by unfold lineN; rw [if_pos (by omega)]
      refine AW.region ?_
      refine Y1 (Yv.move rfl eV) ?_
      refine Y1 (Yv.nilChk rfl eV) ?_
      refine Y1 (Yv.fieldBox rfl fo_70_1 eV) ?_
      refine Y1 (Yv.loadBox rfl ag_9 (i := 0) rfl (E rfl rfl) rfl) ?_
      refine Y1 (Yv.lenL rfl st_9 (E rfl rfl)) ?_
      refine Y1 (Yv.assign rfl eV) ?_
      refine nl ?_
      refine AW.rseq ?_
      refine Y1 (Yv.move rfl eV) ?_
      refine Y1 (Yv.nilChk rfl eV) ?_
      refine Y1 (Yv.fieldBox rfl fo_70_1 eV) ?_
      refine Y1 (Yv.loadBox rfl ag_9 (i := 0) rfl (E rfl rfl) rfl) ?_
      refine Y1 (Yv.move rfl eV) ?_
      refine Y1 (Yv.sliceL rfl st_9 (E rfl rfl) Bound.none_ (Bound.some_ (E rfl rfl) (fun hg => rfl)) (fun hg => ⟨by omega, by omega⟩)) ?_
      refine Y1 (Yv.assign rfl eV) ?_
      refine nl ?_
      refine AW.rseq ?_
      refine Y1 (Yv.move rfl eV) ?_
      refine Y1 (Yv.move rfl eV) ?_
      refine Y1 (Yv.nilChk rfl eV) ?_
      refine Y1 (Yv.fieldBox rfl fo_70_1 eV) ?_
      refine Y1 (Yv.loadBox rfl ag_9 (i := 0) rfl (E rfl rfl) rfl) ?_
      refine Y1 (Yv.move rfl eV) ?_
      refine Y1 (Yv.sliceL rfl st_9 (E rfl rfl) (Bound.some_ (E rfl rfl) (fun hg => rfl)) Bound.none_ (fun hg => ⟨by omega, by omega⟩)) ?_
      refine Y1 (Yv.nilChk rfl eV) ?_
      refine Y1 (Yv.fieldBox rfl fo_70_1 eV) ?_
      refine AWL.storeBox (i := 0) rfl rfl rfl ag_9 rfl (E rfl rfl) (E rfl rfl) rfl rfl (Nat.le_of_ble_eq_true rfl) ?_
      refine nl ?_
      refine AW.rseq ?_
      refine Y1 (Yv.move rfl eV) ?_
      refine Y1 (Yv.assign rfl eV) ?_
      refine nl ?_
      refine AW.ret (retI (.tmp rfl .nil) ?_)
      have e : (ws.stdin.drop ws.stdin.length).take (ws.stdin.length - ws.stdin.length) = ws.stdin.drop ws.stdin.length := by simp
      rw [hL]
      exact ⟨rfl, congrArg (fun z => WSt b m { ws with stdin := z }) e⟩
    ·
      try replace h1f := of_decide_eq_false h1f
      have hL : lineN ws.stdin = (Lib.indexByte ws.stdin 10 + 1).toNat := by unfold lineN; rw [if_neg (by omega)]
      refine AW.skip ?_
      refine AW.rseq ?_
      refine Y1 (Yv.move rfl eV) ?_
      refine Y1 (Yv.nilChk rfl eV) ?_
      refine Y1 (Yv.fieldBox rfl fo_70_1 eV) ?_
      refine Y1 (Yv.loadBox rfl ag_9 (i := 0) rfl (E rfl rfl) rfl) ?_
      refine Y1 (Yv.move rfl eV) ?_
      refine Y1 (Yv.sliceL rfl st_9 (E rfl rfl) Bound.none_ (Bound.some_ (E rfl rfl) (fun hg => (Int.toNat_of_nonneg (by omega)).symm)) (fun hg => ⟨by omega, by omega⟩)) ?_
      refine Y1 (Yv.assign rfl eV) ?_
      refine nl ?_
      refine AW.rseq ?_
      refine Y1 (Yv.move rfl eV) ?_
      refine Y1 (Yv.move rfl eV) ?_
      refine Y1 (Yv.nilChk rfl eV) ?_
      refine Y1 (Yv.fieldBox rfl fo_70_1 eV) ?_
      refine Y1 (Yv.loadBox rfl ag_9 (i := 0) rfl (E rfl rfl) rfl) ?_
      refine Y1 (Yv.move rfl eV) ?_
      refine Y1 (Yv.sliceL rfl st_9 (E rfl rfl) (Bound.some_ (E rfl rfl) (fun hg => (Int.toNat_of_nonneg (by omega)).symm)) Bound.none_ (fun hg => ⟨by omega, by omega⟩)) ?_
      refine Y1 (Yv.nilChk rfl eV) ?_
      refine Y1 (Yv.fieldBox rfl fo_70_1 eV) ?_
      refine AWL.storeBox (i := 0) rfl rfl rfl ag_9 rfl (E rfl rfl) (E rfl rfl) rfl rfl (Nat.le_of_ble_eq_true rfl) ?_
      refine nl ?_
      refine AW.rseq ?_
      refine Y1 (Yv.move rfl eV) ?_
      refine Y1 (Yv.assign rfl eV) ?_
      refine nl ?_
      refine AW.ret (retI (.tmp rfl .nil) ?_)
      have e : (ws.stdin.drop (Lib.indexByte ws.stdin 10 + 1).toNat).take (ws.stdin.length - (Lib.indexByte ws.stdin 10 + 1).toNat) = ws.stdin.drop (Lib.indexByte ws.stdin 10 + 1).toNat := List.take_of_length_le (by rw [List.length_drop]; omega)
      rw [hL]
      exact ⟨rfl, congrArg (fun z => WSt b m { ws with stdin := z }) e⟩

set_option maxHeartbeats 400000 in
theorem SysClose18D (b m : Nat) (ws : WS) (j n : Nat) (hj : j < 19) (hw : WB n ws) :
    ACallsD Try.prog 18 [wp b, .v (.int .i64 (j : Int))] (WSt b m ws) (fun t S => t = .v (.int .i64 (if (ws.opn.getD j default).kind = 0 then -9 else 0)) ∧ S = WSt b m { ws with opn := closeF j ws.opn }) := by
  obtain ⟨ho, htr, htx, hfl, hpl, hsi⟩ := hw
  refine ACallsD.intro Try.func18 rfl Try.ntmps18 (Nat.le_of_ble_eq_true rfl) rfl fun X w0 => ?_
  refine AW.rseq ?_
  refine Y1 (Yv.assign rfl eV) ?_
  refine nl ?_
  refine AW.rseq ?_
  refine Y1 (Yv.move rfl eV) ?_
  refine Y1 (Yv.move rfl eV) ?_
  refine AWL.callP rfl rfl (B rfl) rfl ce_29 (E rfl rfl) (evsC (E rfl rfl) (evsC (E rfl rfl) evs0)) (at29 b j hj) (fun t S h => h) ?_
  refine Y1 (Yv.assign rfl eV) ?_
  refine nl ?_
  refine AW.seq ?_
  refine AW.rseq ?_
  refine Y1 (Yv.move rfl eV) ?_
  refine Y1 (Yv.nilChk rfl eV) ?_
  refine Y1 (Yv.fieldBox rfl fo_67_0 eV) ?_
  refine Y1 (Yv.loadBox rfl ag_3 (i := 0) rfl (E rfl rfl) (kind_at (by omega))) ?_
  refine Y1 (Yv.eql rfl eV eV) ?_
  refine nl ?_
  refine AW.cond rfl (fun h0t => ?_) (fun h0f => ?_)
  ·
    try replace h0t := of_decide_eq_true h0t
    refine AW.rseq ?_
    refine Y1 (Yv.assign rfl eV) ?_
    refine nl ?_
    refine AW.ret (retI (.tmp rfl .nil) ?_)
    unfold closeF
    rw [if_pos h0t, if_pos h0t]
    exact ⟨rfl, rfl⟩
  ·
    try replace h0f := of_decide_eq_false h0f
    refine AW.skip ?_
    refine AW.rseq ?_
    refine Y1 (Yv.move rfl eV) ?_
    refine Y1 (Yv.buildS rfl sh_67 evp0 (fun _ => rfl)) ?_
    refine Y1 (Yv.nilChk rfl eV) ?_
    refine AWL.storeBox (i := 0) rfl rfl rfl ag_67 rfl (E rfl rfl) (E rfl rfl) rfl rfl (by first | (rw [wCells_len, ho]; omega) | (simp only [wCells_len, List.length_set, ho]; omega)) ?_
    refine nl ?_
    refine AW.rseq ?_
    refine Y1 (Yv.assign rfl eV) ?_
    refine nl ?_
    refine AW.ret (retI (.tmp rfl .nil) ?_)
    have e := set_desc (m := m) (s := ws.stdin) (A := ws.tA) (n := ws.trace.length) (c := ws.tc) (show j < ws.opn.length by omega) 0 3 (descCells ⟨0, [], 0⟩) ⟨0, [], 0⟩ (by decide) rfl
    unfold closeF
    rw [if_neg h0f, if_neg h0f]
    refine ⟨rfl, ?_⟩
    simp only [WSt]
    rw [← e]; rfl

set_option maxHeartbeats 400000 in
theorem ReadFile19 (b m : Nat) (ws : WS) (name : List UInt8) (n : Nat) (hw : WB n ws) (hn : n ≤ 549755813888) (hu : Uniq ws.files) :
    ACalls Try.prog 19 [wp b, sv name] (WSt b m ws) (fun t S => (openR name 0 ws < 0 ∧ t = .tup [sv [], .v (.bool false)] ∧ S = WSt b m ws) ∨ (¬ openR name 0 ws < 0 ∧ ∃ q, q < ws.files.length ∧ (ws.files.getD q default).name = name ∧ t = .tup [sv (ws.files.getD q default).bytes, .v (.bool true)] ∧ S = WSt b m { ws with opn := ws.opn.set (freeIx ws.opn) ⟨0, [], 0⟩ })) := by
  refine ACalls.introD Try.func19 rfl Try.ntmps19 (Nat.le_of_ble_eq_true rfl) rfl fun X w0 => ?_
  refine AWd.rseq ?_
  refine Y1 (Yv.assign rfl eV) ?_
  refine Y1 (Yv.assign rfl eV) ?_
  refine nl ?_
  refine AWd.rseq ?_
  refine Y1 (Yv.move rfl eV) ?_
  refine Y1 (Yv.move rfl eV) ?_
  refine AWL.callAll rfl rfl (B rfl) rfl ce_17 (E rfl rfl) (evsC (E rfl rfl) (evsC (E rfl rfl) (evsC (E rfl rfl) evs0))) (SysOpen17 b m ws name 0 n hw hn) ?_
  rintro t9 S9 ⟨rfl, A9, c9, tA9, tc9, rfl⟩
  refine Y1 (Yv.assign rfl eV) ?_
  refine nl ?_
  refine AWd.seq ?_
  refine AW.rseq ?_
  refine Y1 (Yv.move rfl eV) ?_
  refine Y1 (Yv.lss rfl eV eV) ?_
  refine nl ?_
  refine AW.cond rfl (fun h0t => ?_) (fun h0f => ?_)
  ·
    try replace h0t := of_decide_eq_true h0t
    rw [openS_neg h0t]
    refine AW.rseq ?_
    refine Y1 (Yv.assign rfl eV) ?_
    refine Y1 (Yv.assign rfl eV) ?_
    refine nl ?_
    refine AW.ret ?_
    exact ⟨.inl rfl, .inl ⟨rfl, _, .tmp rfl (.tmp rfl .nil), .inl ⟨h0t, rfl, rfl⟩⟩⟩
  ·
    try replace h0f := of_decide_eq_false h0f
    have hok := open_ok h0f
    obtain ⟨q, hq, hnm⟩ := has_file (hok.has rfl)
    rw [openS_read h0f]
    have hw2 := wb_opn hw (freeIx ws.opn) ⟨4, name, 0⟩ (Nat.zero_le _)
    refine AW.skip ?_
    refine AWd.deferTwo rfl rfl rfl rfl rfl rfl (B rfl) (B rfl) rfl rfl rfl (E rfl rfl) (E rfl rfl) (E rfl rfl) (E rfl rfl) (E rfl rfl) ?_
    refine AWd.rseq ?_
    refine Y1 (Yv.move rfl eV) ?_
    refine Y1 (Yv.nilChk rfl eV) ?_
    refine Y1 (Yv.fieldBox rfl fo_70_0 eV) ?_
    refine Y1 (Yv.loadBox rfl ag_64 (i := 0) rfl (E rfl rfl) rfl) ?_
    refine Y1 (Yv.move rfl eV) ?_
    refine Y1 (Yv.eqT (t' := .v (.slice (ws.files.getD q default).A (ws.files.getD q default).bytes.length (ws.files.getD q default).c)) (Yv.lookup1 (k := .s _) (i := 1) rfl mp_64 rfl (E rfl rfl) (E rfl rfl) rfl (files_good _)) (by rw [← hnm, get_file hu hq]; rfl)) ?_
    refine Y1 (Yv.bytesStrRow (i := q + 3) rfl by_71 st_9 (file_row hq) (E rfl rfl)) ?_
    refine Y1 (Yv.assign rfl eV) ?_
    refine Y1 (Yv.assign rfl eV) ?_
    refine nl ?_
    refine AWd.of (AW.ret ?_)
    have hD := SysClose18D b m { ws with opn := ws.opn.set (freeIx ws.opn) ⟨4, name, 0⟩ } (freeIx ws.opn) n hok.ix hw2
    rw [← hok.is] at hD
    refine ⟨.inl rfl, .inr ⟨18, _, _, [.string ⟨(ws.files.getD q default).bytes.toArray⟩, .bool true], _, _, rfl, by kernel_rfl, .tmp rfl (.tmp rfl .nil), ?_, rfl, hD, ?_⟩⟩
    · intro r hr
      have hr : r ∈ [ResultVar.tmp 4, ResultVar.tmp 5] := hr
      simp only [List.mem_cons, List.not_mem_nil, or_false] at hr
      rcases hr with rfl | rfl <;> exact ⟨_, rfl⟩
    · rintro t S' ⟨rfl, rfl⟩
      refine .inr ⟨h0f, q, hq, hnm, rfl, ?_⟩
      have ho := hw.opn
      have hx := hok.ix
      unfold closeF
      rw [getD_set (by omega), if_neg (show ¬ (4 : Int) = 0 by decide), List.set_set]

end Go.Proofs.Ytmiggpnkicdijaa

namespace Go.Proofs.Ytmiggpnkicdijaa
open Go Go.RowKit
theorem set_same {α : Type} [Inhabited α] {l : List α} {j : Nat} (h : j < l.length) : l.set j (l.getD j default) = l := by
  rw [getD_eq' h, List.set_getElem_self]
structure Wrote (j q : Nat) (s : List UInt8) (ws ws' : WS) : Prop where
  stdin : ws'.stdin = ws.stdin
  opn : ws'.opn = ws.opn.set j { ws.opn.getD j default with place := (ws.opn.getD j default).place + s.length }
  trace : ws'.trace = sayF 3 (ws.opn.getD j default).name s ws.trace
  names : ws'.files.map (·.name) = ws.files.map (·.name)
  bytes : (ws.opn.getD j default).place = (ws.files.getD q default).bytes.length → (ws'.files.getD q default).bytes = (ws.files.getD q default).bytes ++ s
  others : ∀ i, i ≠ q → (ws'.files.getD i default).bytes = (ws.files.getD i default).bytes
theorem wrF_is {j q : Nat} {s : List UInt8} {A tA : Option Addr} {c tc : Nat} {ws : WS} (hj : j < ws.opn.length) (hq : q < ws.files.length) : Wrote j q s ws (wrF j q s A c tA tc ws) := by
  unfold wrF
  split
  · rename_i h
    subst h
    refine ⟨rfl, ?_, sayF_nil.symm, rfl, fun _ => (List.append_nil _).symm, fun _ _ => rfl⟩
    exact (set_same hj).symm
  · refine ⟨rfl, rfl, rfl, ?_, fun hp => ?_, fun i hi => ?_⟩
    · simp only [List.map_set]
      apply List.ext_getElem?
      intro i
      rw [List.getElem?_set]
      by_cases e : q = i
      · subst e
        simp [hq, getD_eq' hq]
      · simp [e]
    · simp only
      rw [getD_set hq]
      simp only
      rw [hp, writeAt_end]
    · simp only [List.getD_eq_getElem?_getD, List.getElem?_set, if_neg (Ne.symm hi)]
theorem wrF_wb {j q n : Nat} {s : List UInt8} {A tA : Option Addr} {c tc : Nat} {ws : WS} (hj : j < 19) (hq : q < ws.files.length) (hw : WB n ws) : WB (n + s.length + 1) (wrF j q s A c tA tc ws) := by
  have h2 := wb_wrote (s := s) hj hq hw A c
  unfold wrF
  split
  · exact ⟨hw.opn, by have := hw.tr; omega, fun e he => by have := hw.txt e he; omega, fun f hf => by have := hw.fl f hf; omega, fun d hd => by have := hw.pl d hd; omega, by have := hw.sin; omega⟩
  · have hb := sayF_bounds (k := 3) (name := (ws.opn.getD j default).name) (text := s) hw.tr hw.txt
    exact ⟨h2.opn, hb.1, fun e he => by have := hb.2 e he; omega, fun f hf => by have := h2.fl f hf; omega, fun d hd => by have := h2.pl d hd; omega, by have := h2.sin; simp only at this ⊢; omega⟩
theorem uniq_of {l l' : List FileR} (h : l'.map (·.name) = l.map (·.name)) (hu : Uniq l) : Uniq l' := by unfold Uniq; rw [h]; exact hu
theorem len_of {l l' : List FileR} (h : l'.map (·.name) = l.map (·.name)) : l'.length = l.length := by
  have := congrArg List.length h
  simpa using this
theorem name_of {l l' : List FileR} (h : l'.map (·.name) = l.map (·.name)) {q : Nat} (hq : q < l.length) : (l'.getD q default).name = (l.getD q default).name := by
  have e := congrArg (fun x : List (List UInt8) => x[q]?) h
  have hl := len_of h
  simp only [List.getElem?_map] at e
  rw [getD_eq' hq, getD_eq' (show q < l'.length by omega)]
  rw [List.getElem?_eq_getElem hq, List.getElem?_eq_getElem (show q < l'.length by omega)] at e
  simpa using e
def pickF (c : Int) (n : Int) : Int := (if c < 0 then -(c + 1) else c) % n
end Go.Proofs.Ytmiggpnkicdijaa

namespace Go.Proofs.Ytmiggpnkicdijaa
open Go Go.RowKit
set_option linter.unusedVariables false
set_option linter.unnecessarySimpa false
set_option linter.unusedSimpArgs false

set_option maxHeartbeats 400000 in
theorem pick11 (c n : Int) (h0 : -9223372036854775808 ≤ c) (h1 : c ≤ 9223372036854775807) (h2 : 0 < n) :
    ACalls Try.prog 11 [.v (.int .i64 c), .v (.int .i64 n)] [] fun t S => t = .v (.int .i64 (pickF c n)) := by
  refine ACalls.intro Try.func11 rfl Try.ntmps11 (Nat.le_of_ble_eq_true rfl) rfl fun X w0 => ?_
  refine AW.rseq ?_
  refine Y1 (Yv.assign rfl eV) ?_
  refine nl ?_
  refine AW.seq ?_
  refine AW.rseq ?_
  refine Y1 (Yv.move rfl eV) ?_
  refine Y1 (Yv.lss rfl eV eV) ?_
  refine nl ?_
  refine AW.cond rfl (fun h0t => ?_) (fun h0f => ?_)
  ·
    try replace h0t := of_decide_eq_true h0t
    refine AW.region ?_
    refine Y1 (Yv.move rfl eV) ?_
    refine Y1 (Yv.addN_i64 rfl (E rfl rfl) (E rfl rfl) (fun hg => by omega)) ?_
    refine Y1 (Yv.neg rfl (E rfl rfl)) ?_
    have e9 : IntKind.i64.wrap (0 - (c + 1)) = -(c + 1) := by rw [IntWalk.i64_in _ (by omega)]; omega
    rw [e9]
    refine Y1 (Yv.assign rfl eV) ?_
    refine nl ?_
    refine AW.rseq ?_
    refine Y1 (Yv.move rfl eV) ?_
    refine Y1 (Yv.move rfl eV) ?_
    refine Y1 (Yv.remN rfl (E rfl rfl) (E rfl rfl) (fun hg => by omega)) ?_
    refine Y1 (Yv.assign rfl eV) ?_
    refine nl ?_
    refine AW.ret (retI (.tmp rfl .nil) ?_)
    unfold pickF; rw [if_pos h0t]; rfl
  ·
    try replace h0f := of_decide_eq_false h0f
    refine AW.skip ?_
    refine AW.rseq ?_
    refine Y1 (Yv.move rfl eV) ?_
    refine Y1 (Yv.move rfl eV) ?_
    refine Y1 (Yv.remN rfl (E rfl rfl) (E rfl rfl) (fun hg => by omega)) ?_
    refine Y1 (Yv.assign rfl eV) ?_
    refine nl ?_
    refine AW.ret (retI (.tmp rfl .nil) ?_)
    unfold pickF; rw [if_neg h0f]; rfl

set_option maxHeartbeats 400000 in
theorem WriteFile28 (b m : Nat) (ws : WS) (name s : List UInt8) (n : Nat) (hw : WB n ws) (hn : n ≤ 274877906944) (hs : s.length ≤ 274877906944) (hu : Uniq ws.files) :
    ACalls Try.prog 28 [wp b, sv name, sv s] (WSt b m ws) (fun t S => (openR name 577 ws < 0 ∧ t = .v (.bool false) ∧ S = WSt b m ws) ∨ (¬ openR name 577 ws < 0 ∧ t = .v (.bool true) ∧ ∃ ws', S = WSt b m ws' ∧ ws'.stdin = ws.stdin ∧ ws'.opn = ws.opn.set (freeIx ws.opn) ⟨0, [], 0⟩ ∧ ws'.trace = sayF 3 name s (ws.trace ++ [⟨3, name, []⟩]) ∧ Uniq ws'.files ∧ WB (n + s.length + 2) ws' ∧ ∃ q, q < ws'.files.length ∧ (ws'.files.getD q default).name = name ∧ (ws'.files.getD q default).bytes = s)) := by
  refine ACalls.intro Try.func28 rfl Try.ntmps28 (Nat.le_of_ble_eq_true rfl) rfl fun X w0 => ?_
  refine AW.rseq ?_
  refine Y1 (Yv.assign rfl eV) ?_
  refine nl ?_
  refine AW.rseq ?_
  refine Y1 (Yv.move rfl eV) ?_
  refine Y1 (Yv.move rfl eV) ?_
  refine AWL.callAll rfl rfl (B rfl) rfl ce_17 (E rfl rfl) (evsC (E rfl rfl) (evsC (E rfl rfl) (evsC (E rfl rfl) evs0))) (SysOpen17 b m ws name 577 n hw (by omega)) ?_
  rintro t10 S10 ⟨rfl, A10, c10, tA10, tc10, rfl⟩
  refine Y1 (Yv.assign rfl eV) ?_
  refine nl ?_
  refine AW.seq ?_
  refine AW.rseq ?_
  refine Y1 (Yv.move rfl eV) ?_
  refine Y1 (Yv.lss rfl eV eV) ?_
  refine nl ?_
  refine AW.cond rfl (fun h0t => ?_) (fun h0f => ?_)
  ·
    try replace h0t := of_decide_eq_true h0t
    rw [openS_neg h0t]
    refine AW.rseq ?_
    refine Y1 (Yv.assign rfl eV) ?_
    refine nl ?_
    refine AW.ret (retI (.tmp rfl .nil) ?_)
    exact .inl ⟨h0t, rfl, rfl⟩
  ·
    try replace h0f := of_decide_eq_false h0f
    have hok := open_ok h0f
    have hixl : (freeIx ws.opn) < ws.opn.length := by have := hw.opn; have := hok.ix; omega
    obtain ⟨q, hq, hqf⟩ := put_q ⟨name, [], A10, c10⟩ ws.files
    have hgd : (ws.opn.set (freeIx ws.opn) ⟨5, name, 0⟩).getD (freeIx ws.opn) default = ⟨5, name, 0⟩ := getD_set hixl _ _
    rw [openS_write h0f]
    have hw1 := wb_open hw (freeIx ws.opn) name A10 tA10 c10 tc10
    refine AW.skip ?_
    rw [hok.is]
    refine AW.rseq ?_
    refine Y1 (Yv.move rfl eV) ?_
    refine Y1 (Yv.move rfl eV) ?_
    refine Y1 (Yv.move rfl eV) ?_
    refine AWL.callAll rfl rfl (B rfl) rfl ce_13 (E rfl rfl) (evsC (E rfl rfl) (evsC (E rfl rfl) (evsC (E rfl rfl) evs0))) (SysWrite13_5 b m { ws with opn := ws.opn.set (freeIx ws.opn) ⟨5, name, 0⟩, files := putF ⟨name, [], A10, c10⟩ ws.files, trace := ws.trace ++ [⟨3, name, []⟩], tA := tA10, tc := tc10 } (freeIx ws.opn) q s (n + 1) hok.ix (by show ((ws.opn.set _ _).getD _ _).kind = 5; rw [hgd]) hq (uniq_putF hu) (by show ((ws.opn.set _ _).getD _ _).name = ((putF _ _).getD _ _).name; rw [hgd, hqf]) hw1 (by omega) (by omega)) ?_
    rintro t16 S16 ⟨rfl, A16, c16, tA16, tc16, rfl⟩
    refine nl ?_
    have hW := wrF_is (s := s) (A := A16) (tA := tA16) (c := c16) (tc := tc16) (ws := { ws with opn := ws.opn.set (freeIx ws.opn) ⟨5, name, 0⟩, files := putF ⟨name, [], A10, c10⟩ ws.files, trace := ws.trace ++ [⟨3, name, []⟩], tA := tA10, tc := tc10 }) (j := (freeIx ws.opn)) (q := q) (by show _ < (ws.opn.set _ _).length; rw [List.length_set]; have := hw.opn; have := hok.ix; omega) hq
    have hw2 := wrF_wb (s := s) (A := A16) (tA := tA16) (c := c16) (tc := tc16) hok.ix hq hw1
    refine AW.rseq ?_
    refine Y1 (Yv.move rfl eV) ?_
    refine Y1 (Yv.move rfl eV) ?_
    refine AWL.callAll rfl rfl (B rfl) rfl ce_18 (E rfl rfl) (evsC (E rfl rfl) (evsC (E rfl rfl) evs0)) (SysClose18 b m (wrF (freeIx ws.opn) q s A16 c16 tA16 tc16 { ws with opn := ws.opn.set (freeIx ws.opn) ⟨5, name, 0⟩, files := putF ⟨name, [], A10, c10⟩ ws.files, trace := ws.trace ++ [⟨3, name, []⟩], tA := tA10, tc := tc10 }) (freeIx ws.opn) (n + 1 + s.length + 1) hok.ix hw2) ?_
    rintro t19 S19 ⟨rfl, rfl⟩
    refine nl ?_
    refine AW.rseq ?_
    refine Y1 (Yv.assign rfl eV) ?_
    refine nl ?_
    refine AW.ret (retI (.tmp rfl .nil) ?_)
    obtain ⟨w1, w2, w3, w4, w5, w6⟩ := hW
    simp only [hgd] at w2 w3 w5
    refine .inr ⟨by rw [hok.is] at h0f; exact h0f, rfl, _, rfl, w1, ?_, w3, uniq_of w4 (uniq_putF hu), ?_, q, ?_, ?_, ?_⟩
    · show closeF (freeIx ws.opn) (wrF (freeIx ws.opn) q s A16 c16 tA16 tc16 _).opn = _
      unfold closeF
      rw [w2, getD_set (by rw [List.length_set]; exact hixl), if_neg (show ¬ (5 : Int) = 0 by decide), List.set_set, List.set_set]
    · have h3 := hw2
      refine ⟨?_, by have := h3.tr; simp only at this ⊢; omega, fun e he => by have := h3.txt e he; omega, fun f hf => by have := h3.fl f hf; omega, fun d hd => ?_, by have := h3.sin; simp only at this ⊢; omega⟩
      · show (closeF _ _).length = 19
        unfold closeF
        split
        · exact h3.opn
        · rw [List.length_set]; exact h3.opn
      · have hd : d ∈ closeF (freeIx ws.opn) (wrF (freeIx ws.opn) q s A16 c16 tA16 tc16 _).opn := hd
        unfold closeF at hd
        split at hd
        · have := h3.pl d hd; omega
        · rcases List.mem_or_eq_of_mem_set hd with hd | rfl
          · have := h3.pl d hd; omega
          · exact Nat.zero_le _
    · show q < (wrF (freeIx ws.opn) q s A16 c16 tA16 tc16 _).files.length
      rw [len_of w4]; exact hq
    · show ((wrF (freeIx ws.opn) q s A16 c16 tA16 tc16 _).files.getD q default).name = name
      rw [name_of w4 hq, hqf]
    · show ((wrF (freeIx ws.opn) q s A16 c16 tA16 tc16 _).files.getD q default).bytes = s
      rw [w5 (by rw [hqf]; rfl), hqf]; rfl

end Go.Proofs.Ytmiggpnkicdijaa

namespace Go.Proofs.Ytmiggpnkicdijaa
open Go Go.RowKit
def fCells (x : List UInt8 × List UInt8) : List T := [sv x.1, sv x.2]
def worldT (s : List UInt8) (l : List (List UInt8 × List UInt8)) : T := .agg [sv s, .sl 2 (l.flatMap fCells)]
theorem fk (x : List UInt8 × List UInt8) : (fCells x).length = 2 := rfl
theorem len_fc {l : List (List UInt8 × List UInt8)} : (l.flatMap fCells).length = l.length * 2 := len_flat fk l
theorem fc_get {l : List (List UInt8 × List UInt8)} {j : Nat} (h : j < l.length) : ((l.flatMap fCells).drop (j * 2)).take 2 = fCells (l.getD j default) ∧ (fCells (l.getD j default)).length = 2 := by
  refine ⟨?_, rfl⟩
  rw [drop_flat fk, List.drop_eq_getElem_cons h, List.flatMap_cons, getD_eq' h]
  rfl
def fitsB (n : List UInt8) : Bool := !decide (n = []) && decide ((n.length : Int) ≤ 255) && decide (Lib.indexByte n 0 < 0)
def stepN (acc : List (List UInt8 × List UInt8)) (x : List UInt8 × List UInt8) : List (List UInt8 × List UInt8) := if !(acc.any fun y => decide (y.1 = x.1)) && fitsB x.1 then acc ++ [x] else acc
def nF (l : List (List UInt8 × List UInt8)) : List (List UInt8 × List UInt8) := l.foldl stepN []
theorem nF_succ {l : List (List UInt8 × List UInt8)} {j : Nat} (h : j < l.length) : nF (l.take (j + 1)) = stepN (nF (l.take j)) (l.getD j default) := by
  rw [List.take_succ_eq_append_getElem h, nF, List.foldl_append, getD_eq' h]; rfl
def nb (f : FileR) : List UInt8 × List UInt8 := (f.name, f.bytes)
theorem hasK_any (name : List UInt8) : ∀ (l : List FileR), hasK name l = (l.map nb).any fun y => decide (y.1 = name)
  | [] => rfl
  | f :: r => by
    have ih := hasK_any name r
    unfold hasK at ih ⊢
    rw [List.map_cons, getK, List.map_cons, List.any_cons]
    by_cases h : f.name = name
    · rw [if_pos (by simp [fileKey, h])]; simp [nb, h]
    · rw [if_neg (by simpa [fileKey] using h), ih]; simp [nb, h]
def zd : Desc := ⟨0, [], 0⟩
def opnZ : List Desc := [zd, zd, zd, zd, zd, zd, zd, zd, zd, zd, zd, zd, zd, zd, zd, zd, zd, zd, zd]
def opn0 : List Desc := [⟨1, [], 0⟩, ⟨2, [], 0⟩, ⟨3, [], 0⟩, zd, zd, zd, zd, zd, zd, zd, zd, zd, zd, zd, zd, zd, zd, zd, zd]
theorem perm_new {a b r : Ent} {l : St} : (b :: a :: r :: l).Perm (a :: b :: (l ++ [r])) :=
  (List.Perm.swap a b (r :: l)).trans (((List.perm_append_singleton r l).symm.cons b).cons a)
theorem nF_sub : ∀ (l : List (List UInt8 × List UInt8)) (acc : List (List UInt8 × List UInt8)), ∀ x ∈ l.foldl stepN acc, x ∈ acc ∨ x ∈ l
  | [], acc, x, h => .inl h
  | y :: r, acc, x, h => by
    rw [List.foldl_cons] at h
    rcases nF_sub r _ x h with h | h
    · unfold stepN at h
      split at h
      · rcases List.mem_append.1 h with h | h
        · exact .inl h
        · rw [List.mem_singleton] at h; subst h; exact .inr (List.mem_cons_self ..)
      · exact .inl h
    · exact .inr (List.mem_cons_of_mem _ h)
theorem new_wb {fl : List FileR} {l : List (List UInt8 × List UInt8)} {s : List UInt8} {n : Nat} (h : fl.map nb = nF l) (hs : s.length ≤ n) (hl : ∀ x ∈ l, x.2.length ≤ n) : WB n ⟨fl, s, opn0, [], none, 0⟩ := by
  refine ⟨rfl, Nat.zero_le _, fun e he => (by cases he), fun f hf => ?_, fun d hd => ?_, hs⟩
  · have : nb f ∈ nF l := h ▸ List.mem_map.2 ⟨f, hf, rfl⟩
    rcases nF_sub l [] _ this with h | h
    · cases h
    · exact hl _ h
  · have : ∀ d ∈ opn0, d.place = 0 := by decide
    rw [this d hd]; exact Nat.zero_le _
end Go.Proofs.Ytmiggpnkicdijaa

namespace Go.Proofs.Ytmiggpnkicdijaa
open Go Go.RowKit
set_option linter.unusedVariables false
set_option linter.unnecessarySimpa false
set_option linter.unusedSimpArgs false

set_option maxHeartbeats 1000000 in
theorem New9 (stdin : List UInt8) (files : List (List UInt8 × List UInt8)) (hs : stdin.length ≤ 140737488355000) (hl : files.length ≤ 1099511627776) (hd : ∀ x ∈ files, x.2.length ≤ 1099511627776) :
    ACalls Try.prog 9 [worldT stdin files] [] (fun t S => ∃ b m fl, t = wp b ∧ S = WSt b m ⟨fl, stdin, opn0, [], none, 0⟩ ∧ fl.map nb = nF files) := by
  refine ACalls.intro Try.func9 rfl Try.ntmps9 (Nat.le_of_ble_eq_true rfl) rfl fun X w0 => ?_
  refine AW.rseq ?_
  refine AWL.boxOp rfl rfl (B rfl) rfl (E rfl rfl) rfl (fun b1 => ?_)
  refine Y1 (Yv.assign rfl eV) ?_
  refine nl ?_
  refine AW.rseq ?_
  refine AWL.makeMapOp rfl rfl (B rfl) rfl (fun b8 => ?_)
  refine Y1 (Yv.fieldBox rfl fo_28_0 eV) ?_
  refine Y1 (Yv.loadBox rfl ag_9 (i := 0) rfl (E rfl rfl) rfl) ?_
  refine AWL.callP rfl rfl (B rfl) rfl ce_26 (E rfl rfl) (evsC (E rfl rfl) evs0) (clone26 stdin hs) (fun t S h => h) ?_
  refine Y1 (Yv.buildS rfl sh_70 (evpC (E rfl rfl) (evpC (E rfl rfl) evp0)) (fun _ => rfl)) ?_
  refine AWL.boxOp rfl rfl (B rfl) rfl (E rfl rfl) rfl (fun b13 => ?_)
  refine Y1 (Yv.assign rfl eV) ?_
  refine nl ?_
  refine AW.eqS (S' := [.box b1 28 [sv stdin, .sl 2 (files.flatMap fCells)], .map b8 [], .box b13 70 (wCells b8 stdin opnZ none 0 0)]) rfl ?_
  refine AW.seq ?_
  refine AW.rseq ?_
  refine Y1 (Yv.fieldBox rfl fo_28_1 eV) ?_
  refine Y1 (Yv.loadBox rfl ag_26 (i := 0) rfl (E rfl rfl) rfl) ?_
  refine Y1 (Yv.lenSl rfl so_26 (B rfl) (E rfl rfl) len_fc) ?_
  refine Y1 (Yv.move rfl eV) ?_
  refine nl ?_
  refine AW.block ?_
  refine AW.loop2 (fun (j : Nat) (fl : List FileR) => [(1, true, .v (.pointer (some ⟨b1, 0, none⟩))), (3, true, wp b13), (15, true, .sl 2 (files.flatMap fCells)), (16, true, .v (.int .i64 (files.length : Int))), (17, true, .v (.int .i64 (j : Int)))]) (fun (j : Nat) (fl : List FileR) => (.box b1 28 [sv stdin, .sl 2 (files.flatMap fCells)] :: .map b8 (fl.map fileKey) :: .box b13 70 (wCells b8 stdin opnZ none 0 0) :: fl.map fileRow)) (fun (j : Nat) (fl : List FileR) => j ≤ files.length ∧ fl.map nb = nF (files.take j)) (fun (j : Nat) (fl : List FileR) => files.length - j) 0 ([]) ?_ ?_ ?_ ?_
  · exact ⟨Nat.zero_le _, rfl⟩
  · exact (Sub.cons rfl rfl (Sub.cons rfl rfl (Sub.cons rfl rfl (Sub.cons rfl rfl (Sub.cons rfl rfl Sub.nil)))))
  · rfl
  ·
    intro j fl hinv
    obtain ⟨hj, hfl⟩ := hinv
    refine AW.rseq ?_
    refine Y1 (Yv.lss rfl eV eV) ?_
    refine nl ?_
    refine AW.seq ?_
    refine AW.cond rfl (fun h0t => ?_) (fun h0f => ?_)
    ·
      try replace h0t := of_decide_eq_true h0t
      have hsu := nF_succ (l := files) (j := j) (by omega)
      refine AW.skip ?_
      refine AW.seq ?_
      refine AW.block ?_
      refine AW.rseq ?_
      refine Y1 (Yv.indexSl rfl ss_26 (B rfl) (E rfl rfl) (E rfl rfl) (fun hg => ⟨rfl, (by first | omega | (simp only [len_fc, len_ev]; omega))⟩)) ?_
      refine Y1 (Yv.loadRpA rfl ag_46 (E rfl rfl) (fun hg => fc_get (by omega))) ?_
      refine AWL.allocOp rfl rfl (B rfl) rfl zc_46 (fun b5 => ?_)
      refine AWL.perm (S' := .box b5 46 [sv [], sv []] :: .box b1 28 [sv stdin, .sl 2 (files.flatMap fCells)] :: .map b8 (fl.map fileKey) :: .box b13 70 (wCells b8 stdin opnZ none 0 0) :: fl.map fileRow) (List.perm_append_singleton _ _).symm ?_
      refine AWL.storeBox (i := 0) rfl rfl rfl ag_46 rfl (E rfl rfl) (E rfl rfl) rfl rfl (Nat.le_of_ble_eq_true rfl) ?_
      refine nl ?_
      refine AW.rseqQ rfl (by kernel_rfl) ?_
      refine AWQ.y rfl rfl (B rfl) (Yv.move rfl (E rfl rfl)) ?_
      refine AWQ.y rfl rfl (B rfl) (Yv.nilChk rfl (E rfl rfl)) ?_
      refine AWQ.y rfl rfl (B rfl) (Yv.fieldBox rfl fo_70_0 (E rfl rfl)) ?_
      refine AWQ.y rfl rfl (B rfl) (Yv.loadBox rfl ag_64 (i := 3) rfl (E rfl rfl) rfl) ?_
      refine AWQ.y rfl rfl (B rfl) (Yv.fieldBox rfl fo_46_0 (E rfl rfl)) ?_
      refine AWQ.y rfl rfl (B rfl) (Yv.loadBox rfl ag_9 (i := 0) rfl (E rfl rfl) rfl) ?_
      refine AWQ.y rfl rfl (B rfl) (Yv.lookup2 (k := .s _) (i := 2) rfl mp_64 rfl (E rfl rfl) (E rfl rfl) rfl (files_good _)) ?_
      refine AWQ.y rfl rfl (B rfl) (Yv.move rfl (E rfl rfl)) ?_
      refine AWQ.y rfl rfl (B rfl) (Yv.extract rfl (E rfl rfl) rfl) ?_
      refine AWQ.y rfl rfl (B rfl) (Yv.extract rfl (E rfl rfl) rfl) ?_
      refine AWQ.y rfl rfl (B rfl) (Yv.assign rfl (E rfl rfl)) ?_
      refine AWQ.y rfl rfl (B rfl) (Yv.assign rfl (E rfl rfl)) ?_
      refine AWQ.nil ?_
      refine AW.rseq ?_
      refine Y1 (Yv.move rfl eV) ?_
      refine Y1 (Yv.not rfl eV) ?_
      refine Y1 (Yv.move rfl eV) ?_
      refine AWL.ygT rfl rfl rfl rfl (B rfl) (Yv.fieldBox rfl fo_46_0 (E rfl rfl)) ?_
      refine AWL.ygT rfl rfl rfl rfl (B rfl) (Yv.loadBox rfl ag_9 (i := 0) rfl (Eg rfl rfl id) rfl) ?_
      refine AWL.callPgT rfl rfl rfl rfl (B rfl) rfl ce_27 (E rfl rfl) (evsC (Eg rfl rfl id) evs0) (fun hg => fits27 (files.getD j default).1) (fun t S h => h) ?_
      refine Y1 (Yv.pickAnd rfl (E rfl rfl) (Eg rfl rfl id)) ?_
      refine nl ?_
      refine AW.cond rfl (fun h1t => ?_) (fun h1f => ?_)
      ·
        try replace h1t := of_decide_eq_true h1t
        have hadd : (!((nF (files.take j)).any fun y => decide (y.1 = (files.getD j default).1)) && fitsB (files.getD j default).1) = true := by
          rw [← hfl, ← hasK_any]; exact h1t
        have hnone : ∀ g ∈ fl, g.name ≠ (files.getD j default).1 := fun g hg he => by
          simp only [Bool.and_eq_true, Bool.not_eq_true', ← hfl, List.any_eq_false, decide_eq_true_eq] at hadd
          exact hadd.1 (nb g) (List.mem_map.2 ⟨g, hg, rfl⟩) he
        refine AW.regionP rfl ?_
        refine AWP.take (i := 0) rfl (by kernel_rfl) (by kernel_rfl) (by kernel_rfl) rfl rfl (B rfl) (freeMove rfl (E rfl rfl)) ?_
        refine AWP.take (i := 1) rfl (by kernel_rfl) (by kernel_rfl) (by kernel_rfl) rfl rfl (B rfl) (freeNil rfl (E rfl rfl)) ?_
        refine AWP.take (i := 2) rfl (by kernel_rfl) (by kernel_rfl) (by kernel_rfl) rfl rfl (B rfl) (freeField rfl fo_70_0 (E rfl rfl)) ?_
        refine AWP.take (i := 4) rfl (by kernel_rfl) (by kernel_rfl) (by kernel_rfl) rfl rfl (B rfl) (freeField rfl fo_46_0 (E rfl rfl)) ?_
        refine AWP.take (i := 6) rfl (by kernel_rfl) (by kernel_rfl) (by kernel_rfl) rfl rfl (B rfl) (freeField rfl fo_46_1 (E rfl rfl)) ?_
        refine AWP.three (i := 3) (j := 5) (k := 7) (by kernel_rfl) rfl rfl rfl ?_ ?_ ?_
        ·
          refine Y1 (Yv.loadBox rfl ag_64 (i := 3) rfl (E rfl rfl) rfl) ?_
          refine nl ?_
          refine AWP.two (i := 5) (j := 7) (by kernel_rfl) rfl rfl ?_ ?_
          ·
            refine Y1 (Yv.loadBox rfl ag_9 (i := 0) rfl (E rfl rfl) rfl) ?_
            refine nl ?_
            refine AWP.one (i := 7) (by kernel_rfl) rfl ?_
            refine Y1 (Yv.loadBox rfl ag_9 (i := 0) rfl (E rfl rfl) rfl) ?_
            refine nl ?_
            refine AWP.one (i := 8) (by kernel_rfl) rfl ?_
            refine AWL.strBytesRow rfl rfl (B rfl) rfl st_9 so_71 kd_5 (E rfl rfl) (by show _ ≤ _; have := hd _ (getD_mem' (l := files) (j := j) (by omega)); unfold maxLen; exact Nat.le_trans this (by decide)) (fun A46 c46 => ?_)
            refine nl ?_
            refine AWP.one (i := 9) (by kernel_rfl) rfl ?_
            refine AWL.mapUpd (k := .s _) (i := 2) rfl rfl (.inl rfl) mp_64 rfl (E rfl rfl) (E rfl rfl) (E rfl rfl) rfl rfl (files_good _) ?_
            refine nl ?_
            refine AWP.done (by kernel_rfl) ?_
            refine AW.dropAt 0 ?_
            refine AW.region ?_
            refine Y1 (Yv.addN_i64 rfl (E rfl rfl) (E rfl rfl) (fun hg => by omega)) ?_
            refine Y1 (Yv.move rfl eV) ?_
            refine nl ?_
            have hkey := put_new (l := fl) ⟨(files.getD j default).1, (files.getD j default).2, A46, c46⟩ hnone
            refine ⟨j + 1, fl ++ [⟨(files.getD j default).1, (files.getD j default).2, A46, c46⟩], ⟨by omega, ?_⟩, by omega, (Sub.cons rfl rfl (Sub.cons rfl rfl (Sub.cons rfl rfl (Sub.cons rfl rfl (Sub.cons rfl (by simp) Sub.nil))))), ?_⟩
            · rw [hsu, stepN, if_pos hadd, ← hfl, List.map_append]; rfl
            · rw [← hkey, List.map_append]; rfl
          ·
            refine Y1 (Yv.loadBox rfl ag_9 (i := 0) rfl (E rfl rfl) rfl) ?_
            refine nl ?_
            refine AWP.two (i := 5) (j := 8) (by kernel_rfl) rfl rfl ?_ ?_
            ·
              refine Y1 (Yv.loadBox rfl ag_9 (i := 0) rfl (E rfl rfl) rfl) ?_
              refine nl ?_
              refine AWP.one (i := 8) (by kernel_rfl) rfl ?_
              refine AWL.strBytesRow rfl rfl (B rfl) rfl st_9 so_71 kd_5 (E rfl rfl) (by show _ ≤ _; have := hd _ (getD_mem' (l := files) (j := j) (by omega)); unfold maxLen; exact Nat.le_trans this (by decide)) (fun A46 c46 => ?_)
              refine nl ?_
              refine AWP.one (i := 9) (by kernel_rfl) rfl ?_
              refine AWL.mapUpd (k := .s _) (i := 2) rfl rfl (.inl rfl) mp_64 rfl (E rfl rfl) (E rfl rfl) (E rfl rfl) rfl rfl (files_good _) ?_
              refine nl ?_
              refine AWP.done (by kernel_rfl) ?_
              refine AW.dropAt 0 ?_
              refine AW.region ?_
              refine Y1 (Yv.addN_i64 rfl (E rfl rfl) (E rfl rfl) (fun hg => by omega)) ?_
              refine Y1 (Yv.move rfl eV) ?_
              refine nl ?_
              have hkey := put_new (l := fl) ⟨(files.getD j default).1, (files.getD j default).2, A46, c46⟩ hnone
              refine ⟨j + 1, fl ++ [⟨(files.getD j default).1, (files.getD j default).2, A46, c46⟩], ⟨by omega, ?_⟩, by omega, (Sub.cons rfl rfl (Sub.cons rfl rfl (Sub.cons rfl rfl (Sub.cons rfl rfl (Sub.cons rfl (by simp) Sub.nil))))), ?_⟩
              · rw [hsu, stepN, if_pos hadd, ← hfl, List.map_append]; rfl
              · rw [← hkey, List.map_append]; rfl
            ·
              refine AWL.strBytesRow rfl rfl (B rfl) rfl st_9 so_71 kd_5 (E rfl rfl) (by show _ ≤ _; have := hd _ (getD_mem' (l := files) (j := j) (by omega)); unfold maxLen; exact Nat.le_trans this (by decide)) (fun A46 c46 => ?_)
              refine nl ?_
              refine AWP.one (i := 5) (by kernel_rfl) rfl ?_
              refine Y1 (Yv.loadBox rfl ag_9 (i := 0) rfl (E rfl rfl) rfl) ?_
              refine nl ?_
              refine AWP.one (i := 9) (by kernel_rfl) rfl ?_
              refine AWL.mapUpd (k := .s _) (i := 2) rfl rfl (.inl rfl) mp_64 rfl (E rfl rfl) (E rfl rfl) (E rfl rfl) rfl rfl (files_good _) ?_
              refine nl ?_
              refine AWP.done (by kernel_rfl) ?_
              refine AW.dropAt 0 ?_
              refine AW.region ?_
              refine Y1 (Yv.addN_i64 rfl (E rfl rfl) (E rfl rfl) (fun hg => by omega)) ?_
              refine Y1 (Yv.move rfl eV) ?_
              refine nl ?_
              have hkey := put_new (l := fl) ⟨(files.getD j default).1, (files.getD j default).2, A46, c46⟩ hnone
              refine ⟨j + 1, fl ++ [⟨(files.getD j default).1, (files.getD j default).2, A46, c46⟩], ⟨by omega, ?_⟩, by omega, (Sub.cons rfl rfl (Sub.cons rfl rfl (Sub.cons rfl rfl (Sub.cons rfl rfl (Sub.cons rfl (by simp) Sub.nil))))), ?_⟩
              · rw [hsu, stepN, if_pos hadd, ← hfl, List.map_append]; rfl
              · rw [← hkey, List.map_append]; rfl
        ·
          refine Y1 (Yv.loadBox rfl ag_9 (i := 0) rfl (E rfl rfl) rfl) ?_
          refine nl ?_
          refine AWP.two (i := 3) (j := 7) (by kernel_rfl) rfl rfl ?_ ?_
          ·
            refine Y1 (Yv.loadBox rfl ag_64 (i := 3) rfl (E rfl rfl) rfl) ?_
            refine nl ?_
            refine AWP.one (i := 7) (by kernel_rfl) rfl ?_
            refine Y1 (Yv.loadBox rfl ag_9 (i := 0) rfl (E rfl rfl) rfl) ?_
            refine nl ?_
            refine AWP.one (i := 8) (by kernel_rfl) rfl ?_
            refine AWL.strBytesRow rfl rfl (B rfl) rfl st_9 so_71 kd_5 (E rfl rfl) (by show _ ≤ _; have := hd _ (getD_mem' (l := files) (j := j) (by omega)); unfold maxLen; exact Nat.le_trans this (by decide)) (fun A46 c46 => ?_)
            refine nl ?_
            refine AWP.one (i := 9) (by kernel_rfl) rfl ?_
            refine AWL.mapUpd (k := .s _) (i := 2) rfl rfl (.inl rfl) mp_64 rfl (E rfl rfl) (E rfl rfl) (E rfl rfl) rfl rfl (files_good _) ?_
            refine nl ?_
            refine AWP.done (by kernel_rfl) ?_
            refine AW.dropAt 0 ?_
            refine AW.region ?_
            refine Y1 (Yv.addN_i64 rfl (E rfl rfl) (E rfl rfl) (fun hg => by omega)) ?_
            refine Y1 (Yv.move rfl eV) ?_
            refine nl ?_
            have hkey := put_new (l := fl) ⟨(files.getD j default).1, (files.getD j default).2, A46, c46⟩ hnone
            refine ⟨j + 1, fl ++ [⟨(files.getD j default).1, (files.getD j default).2, A46, c46⟩], ⟨by omega, ?_⟩, by omega, (Sub.cons rfl rfl (Sub.cons rfl rfl (Sub.cons rfl rfl (Sub.cons rfl rfl (Sub.cons rfl (by simp) Sub.nil))))), ?_⟩
            · rw [hsu, stepN, if_pos hadd, ← hfl, List.map_append]; rfl
            · rw [← hkey, List.map_append]; rfl
          ·
            refine Y1 (Yv.loadBox rfl ag_9 (i := 0) rfl (E rfl rfl) rfl) ?_
            refine nl ?_
            refine AWP.two (i := 3) (j := 8) (by kernel_rfl) rfl rfl ?_ ?_
            ·
              refine Y1 (Yv.loadBox rfl ag_64 (i := 3) rfl (E rfl rfl) rfl) ?_
              refine nl ?_
              refine AWP.one (i := 8) (by kernel_rfl) rfl ?_
              refine AWL.strBytesRow rfl rfl (B rfl) rfl st_9 so_71 kd_5 (E rfl rfl) (by show _ ≤ _; have := hd _ (getD_mem' (l := files) (j := j) (by omega)); unfold maxLen; exact Nat.le_trans this (by decide)) (fun A46 c46 => ?_)
              refine nl ?_
              refine AWP.one (i := 9) (by kernel_rfl) rfl ?_
              refine AWL.mapUpd (k := .s _) (i := 2) rfl rfl (.inl rfl) mp_64 rfl (E rfl rfl) (E rfl rfl) (E rfl rfl) rfl rfl (files_good _) ?_
              refine nl ?_
              refine AWP.done (by kernel_rfl) ?_
              refine AW.dropAt 0 ?_
              refine AW.region ?_
              refine Y1 (Yv.addN_i64 rfl (E rfl rfl) (E rfl rfl) (fun hg => by omega)) ?_
              refine Y1 (Yv.move rfl eV) ?_
              refine nl ?_
              have hkey := put_new (l := fl) ⟨(files.getD j default).1, (files.getD j default).2, A46, c46⟩ hnone
              refine ⟨j + 1, fl ++ [⟨(files.getD j default).1, (files.getD j default).2, A46, c46⟩], ⟨by omega, ?_⟩, by omega, (Sub.cons rfl rfl (Sub.cons rfl rfl (Sub.cons rfl rfl (Sub.cons rfl rfl (Sub.cons rfl (by simp) Sub.nil))))), ?_⟩
              · rw [hsu, stepN, if_pos hadd, ← hfl, List.map_append]; rfl
              · rw [← hkey, List.map_append]; rfl
            ·
              refine AWL.strBytesRow rfl rfl (B rfl) rfl st_9 so_71 kd_5 (E rfl rfl) (by show _ ≤ _; have := hd _ (getD_mem' (l := files) (j := j) (by omega)); unfold maxLen; exact Nat.le_trans this (by decide)) (fun A46 c46 => ?_)
              refine nl ?_
              refine AWP.one (i := 3) (by kernel_rfl) rfl ?_
              refine Y1 (Yv.loadBox rfl ag_64 (i := 3) rfl (E rfl rfl) rfl) ?_
              refine nl ?_
              refine AWP.one (i := 9) (by kernel_rfl) rfl ?_
              refine AWL.mapUpd (k := .s _) (i := 2) rfl rfl (.inl rfl) mp_64 rfl (E rfl rfl) (E rfl rfl) (E rfl rfl) rfl rfl (files_good _) ?_
              refine nl ?_
              refine AWP.done (by kernel_rfl) ?_
              refine AW.dropAt 0 ?_
              refine AW.region ?_
              refine Y1 (Yv.addN_i64 rfl (E rfl rfl) (E rfl rfl) (fun hg => by omega)) ?_
              refine Y1 (Yv.move rfl eV) ?_
              refine nl ?_
              have hkey := put_new (l := fl) ⟨(files.getD j default).1, (files.getD j default).2, A46, c46⟩ hnone
              refine ⟨j + 1, fl ++ [⟨(files.getD j default).1, (files.getD j default).2, A46, c46⟩], ⟨by omega, ?_⟩, by omega, (Sub.cons rfl rfl (Sub.cons rfl rfl (Sub.cons rfl rfl (Sub.cons rfl rfl (Sub.cons rfl (by simp) Sub.nil))))), ?_⟩
              · rw [hsu, stepN, if_pos hadd, ← hfl, List.map_append]; rfl
              · rw [← hkey, List.map_append]; rfl
        ·
          refine Y1 (Yv.loadBox rfl ag_9 (i := 0) rfl (E rfl rfl) rfl) ?_
          refine nl ?_
          refine AWP.three (i := 3) (j := 5) (k := 8) (by kernel_rfl) rfl rfl rfl ?_ ?_ ?_
          ·
            refine Y1 (Yv.loadBox rfl ag_64 (i := 3) rfl (E rfl rfl) rfl) ?_
            refine nl ?_
            refine AWP.two (i := 5) (j := 8) (by kernel_rfl) rfl rfl ?_ ?_
            ·
              refine Y1 (Yv.loadBox rfl ag_9 (i := 0) rfl (E rfl rfl) rfl) ?_
              refine nl ?_
              refine AWP.one (i := 8) (by kernel_rfl) rfl ?_
              refine AWL.strBytesRow rfl rfl (B rfl) rfl st_9 so_71 kd_5 (E rfl rfl) (by show _ ≤ _; have := hd _ (getD_mem' (l := files) (j := j) (by omega)); unfold maxLen; exact Nat.le_trans this (by decide)) (fun A46 c46 => ?_)
              refine nl ?_
              refine AWP.one (i := 9) (by kernel_rfl) rfl ?_
              refine AWL.mapUpd (k := .s _) (i := 2) rfl rfl (.inl rfl) mp_64 rfl (E rfl rfl) (E rfl rfl) (E rfl rfl) rfl rfl (files_good _) ?_
              refine nl ?_
              refine AWP.done (by kernel_rfl) ?_
              refine AW.dropAt 0 ?_
              refine AW.region ?_
              refine Y1 (Yv.addN_i64 rfl (E rfl rfl) (E rfl rfl) (fun hg => by omega)) ?_
              refine Y1 (Yv.move rfl eV) ?_
              refine nl ?_
              have hkey := put_new (l := fl) ⟨(files.getD j default).1, (files.getD j default).2, A46, c46⟩ hnone
              refine ⟨j + 1, fl ++ [⟨(files.getD j default).1, (files.getD j default).2, A46, c46⟩], ⟨by omega, ?_⟩, by omega, (Sub.cons rfl rfl (Sub.cons rfl rfl (Sub.cons rfl rfl (Sub.cons rfl rfl (Sub.cons rfl (by simp) Sub.nil))))), ?_⟩
              · rw [hsu, stepN, if_pos hadd, ← hfl, List.map_append]; rfl
              · rw [← hkey, List.map_append]; rfl
            ·
              refine AWL.strBytesRow rfl rfl (B rfl) rfl st_9 so_71 kd_5 (E rfl rfl) (by show _ ≤ _; have := hd _ (getD_mem' (l := files) (j := j) (by omega)); unfold maxLen; exact Nat.le_trans this (by decide)) (fun A46 c46 => ?_)
              refine nl ?_
              refine AWP.one (i := 5) (by kernel_rfl) rfl ?_
              refine Y1 (Yv.loadBox rfl ag_9 (i := 0) rfl (E rfl rfl) rfl) ?_
              refine nl ?_
              refine AWP.one (i := 9) (by kernel_rfl) rfl ?_
              refine AWL.mapUpd (k := .s _) (i := 2) rfl rfl (.inl rfl) mp_64 rfl (E rfl rfl) (E rfl rfl) (E rfl rfl) rfl rfl (files_good _) ?_
              refine nl ?_
              refine AWP.done (by kernel_rfl) ?_
              refine AW.dropAt 0 ?_
              refine AW.region ?_
              refine Y1 (Yv.addN_i64 rfl (E rfl rfl) (E rfl rfl) (fun hg => by omega)) ?_
              refine Y1 (Yv.move rfl eV) ?_
              refine nl ?_
              have hkey := put_new (l := fl) ⟨(files.getD j default).1, (files.getD j default).2, A46, c46⟩ hnone
              refine ⟨j + 1, fl ++ [⟨(files.getD j default).1, (files.getD j default).2, A46, c46⟩], ⟨by omega, ?_⟩, by omega, (Sub.cons rfl rfl (Sub.cons rfl rfl (Sub.cons rfl rfl (Sub.cons rfl rfl (Sub.cons rfl (by simp) Sub.nil))))), ?_⟩
              · rw [hsu, stepN, if_pos hadd, ← hfl, List.map_append]; rfl
              · rw [← hkey, List.map_append]; rfl
          ·
            refine Y1 (Yv.loadBox rfl ag_9 (i := 0) rfl (E rfl rfl) rfl) ?_
            refine nl ?_
            refine AWP.two (i := 3) (j := 8) (by kernel_rfl) rfl rfl ?_ ?_
            ·
              refine Y1 (Yv.loadBox rfl ag_64 (i := 3) rfl (E rfl rfl) rfl) ?_
              refine nl ?_
              refine AWP.one (i := 8) (by kernel_rfl) rfl ?_
              refine AWL.strBytesRow rfl rfl (B rfl) rfl st_9 so_71 kd_5 (E rfl rfl) (by show _ ≤ _; have := hd _ (getD_mem' (l := files) (j := j) (by omega)); unfold maxLen; exact Nat.le_trans this (by decide)) (fun A46 c46 => ?_)
              refine nl ?_
              refine AWP.one (i := 9) (by kernel_rfl) rfl ?_
              refine AWL.mapUpd (k := .s _) (i := 2) rfl rfl (.inl rfl) mp_64 rfl (E rfl rfl) (E rfl rfl) (E rfl rfl) rfl rfl (files_good _) ?_
              refine nl ?_
              refine AWP.done (by kernel_rfl) ?_
              refine AW.dropAt 0 ?_
              refine AW.region ?_
              refine Y1 (Yv.addN_i64 rfl (E rfl rfl) (E rfl rfl) (fun hg => by omega)) ?_
              refine Y1 (Yv.move rfl eV) ?_
              refine nl ?_
              have hkey := put_new (l := fl) ⟨(files.getD j default).1, (files.getD j default).2, A46, c46⟩ hnone
              refine ⟨j + 1, fl ++ [⟨(files.getD j default).1, (files.getD j default).2, A46, c46⟩], ⟨by omega, ?_⟩, by omega, (Sub.cons rfl rfl (Sub.cons rfl rfl (Sub.cons rfl rfl (Sub.cons rfl rfl (Sub.cons rfl (by simp) Sub.nil))))), ?_⟩
              · rw [hsu, stepN, if_pos hadd, ← hfl, List.map_append]; rfl
              · rw [← hkey, List.map_append]; rfl
            ·
              refine AWL.strBytesRow rfl rfl (B rfl) rfl st_9 so_71 kd_5 (E rfl rfl) (by show _ ≤ _; have := hd _ (getD_mem' (l := files) (j := j) (by omega)); unfold maxLen; exact Nat.le_trans this (by decide)) (fun A46 c46 => ?_)
              refine nl ?_
              refine AWP.one (i := 3) (by kernel_rfl) rfl ?_
              refine Y1 (Yv.loadBox rfl ag_64 (i := 3) rfl (E rfl rfl) rfl) ?_
              refine nl ?_
              refine AWP.one (i := 9) (by kernel_rfl) rfl ?_
              refine AWL.mapUpd (k := .s _) (i := 2) rfl rfl (.inl rfl) mp_64 rfl (E rfl rfl) (E rfl rfl) (E rfl rfl) rfl rfl (files_good _) ?_
              refine nl ?_
              refine AWP.done (by kernel_rfl) ?_
              refine AW.dropAt 0 ?_
              refine AW.region ?_
              refine Y1 (Yv.addN_i64 rfl (E rfl rfl) (E rfl rfl) (fun hg => by omega)) ?_
              refine Y1 (Yv.move rfl eV) ?_
              refine nl ?_
              have hkey := put_new (l := fl) ⟨(files.getD j default).1, (files.getD j default).2, A46, c46⟩ hnone
              refine ⟨j + 1, fl ++ [⟨(files.getD j default).1, (files.getD j default).2, A46, c46⟩], ⟨by omega, ?_⟩, by omega, (Sub.cons rfl rfl (Sub.cons rfl rfl (Sub.cons rfl rfl (Sub.cons rfl rfl (Sub.cons rfl (by simp) Sub.nil))))), ?_⟩
              · rw [hsu, stepN, if_pos hadd, ← hfl, List.map_append]; rfl
              · rw [← hkey, List.map_append]; rfl
          ·
            refine AWL.strBytesRow rfl rfl (B rfl) rfl st_9 so_71 kd_5 (E rfl rfl) (by show _ ≤ _; have := hd _ (getD_mem' (l := files) (j := j) (by omega)); unfold maxLen; exact Nat.le_trans this (by decide)) (fun A46 c46 => ?_)
            refine nl ?_
            refine AWP.two (i := 3) (j := 5) (by kernel_rfl) rfl rfl ?_ ?_
            ·
              refine Y1 (Yv.loadBox rfl ag_64 (i := 3) rfl (E rfl rfl) rfl) ?_
              refine nl ?_
              refine AWP.one (i := 5) (by kernel_rfl) rfl ?_
              refine Y1 (Yv.loadBox rfl ag_9 (i := 0) rfl (E rfl rfl) rfl) ?_
              refine nl ?_
              refine AWP.one (i := 9) (by kernel_rfl) rfl ?_
              refine AWL.mapUpd (k := .s _) (i := 2) rfl rfl (.inl rfl) mp_64 rfl (E rfl rfl) (E rfl rfl) (E rfl rfl) rfl rfl (files_good _) ?_
              refine nl ?_
              refine AWP.done (by kernel_rfl) ?_
              refine AW.dropAt 0 ?_
              refine AW.region ?_
              refine Y1 (Yv.addN_i64 rfl (E rfl rfl) (E rfl rfl) (fun hg => by omega)) ?_
              refine Y1 (Yv.move rfl eV) ?_
              refine nl ?_
              have hkey := put_new (l := fl) ⟨(files.getD j default).1, (files.getD j default).2, A46, c46⟩ hnone
              refine ⟨j + 1, fl ++ [⟨(files.getD j default).1, (files.getD j default).2, A46, c46⟩], ⟨by omega, ?_⟩, by omega, (Sub.cons rfl rfl (Sub.cons rfl rfl (Sub.cons rfl rfl (Sub.cons rfl rfl (Sub.cons rfl (by simp) Sub.nil))))), ?_⟩
              · rw [hsu, stepN, if_pos hadd, ← hfl, List.map_append]; rfl
              · rw [← hkey, List.map_append]; rfl
            ·
              refine Y1 (Yv.loadBox rfl ag_9 (i := 0) rfl (E rfl rfl) rfl) ?_
              refine nl ?_
              refine AWP.one (i := 3) (by kernel_rfl) rfl ?_
              refine Y1 (Yv.loadBox rfl ag_64 (i := 3) rfl (E rfl rfl) rfl) ?_
              refine nl ?_
              refine AWP.one (i := 9) (by kernel_rfl) rfl ?_
              refine AWL.mapUpd (k := .s _) (i := 2) rfl rfl (.inl rfl) mp_64 rfl (E rfl rfl) (E rfl rfl) (E rfl rfl) rfl rfl (files_good _) ?_
              refine nl ?_
              refine AWP.done (by kernel_rfl) ?_
              refine AW.dropAt 0 ?_
              refine AW.region ?_
              refine Y1 (Yv.addN_i64 rfl (E rfl rfl) (E rfl rfl) (fun hg => by omega)) ?_
              refine Y1 (Yv.move rfl eV) ?_
              refine nl ?_
              have hkey := put_new (l := fl) ⟨(files.getD j default).1, (files.getD j default).2, A46, c46⟩ hnone
              refine ⟨j + 1, fl ++ [⟨(files.getD j default).1, (files.getD j default).2, A46, c46⟩], ⟨by omega, ?_⟩, by omega, (Sub.cons rfl rfl (Sub.cons rfl rfl (Sub.cons rfl rfl (Sub.cons rfl rfl (Sub.cons rfl (by simp) Sub.nil))))), ?_⟩
              · rw [hsu, stepN, if_pos hadd, ← hfl, List.map_append]; rfl
              · rw [← hkey, List.map_append]; rfl
      ·
        try replace h1f := of_decide_eq_false h1f
        have hadd : ¬ (!((nF (files.take j)).any fun y => decide (y.1 = (files.getD j default).1)) && fitsB (files.getD j default).1) = true := by
          rw [← hfl, ← hasK_any]; intro h; exact absurd (h.symm.trans h1f) (by decide)
        refine AW.skip ?_
        refine AW.dropAt 0 ?_
        refine AW.region ?_
        refine Y1 (Yv.addN_i64 rfl (E rfl rfl) (E rfl rfl) (fun hg => by omega)) ?_
        refine Y1 (Yv.move rfl eV) ?_
        refine nl ?_
        refine ⟨j + 1, fl, ⟨by omega, ?_⟩, by omega, (Sub.cons rfl rfl (Sub.cons rfl rfl (Sub.cons rfl rfl (Sub.cons rfl rfl (Sub.cons rfl (by simp) Sub.nil))))), rfl⟩
        rw [hsu, stepN, if_neg hadd]; exact hfl
    ·
      try replace h0f := of_decide_eq_false h0f
      refine AW.exit ?_
      refine AW.rowNil 36 3 ?_
      refine AW.dropAt 0 ?_
      refine AW.perm (S' := .box b13 70 (wCells b8 stdin opnZ none 0 0) :: .map b8 (fl.map fileKey) :: .row none 0 0 36 3 [] :: fl.map fileRow) perm_new ?_
      refine AW.rseqP rfl ?_
      refine AWP.take (i := 0) rfl (by kernel_rfl) (by kernel_rfl) (by kernel_rfl) rfl rfl (B rfl) (freeMove rfl (E rfl rfl)) ?_
      refine AWP.take (i := 1) rfl (by kernel_rfl) (by kernel_rfl) (by kernel_rfl) rfl rfl (B rfl) (freeMove rfl (E rfl rfl)) ?_
      refine AWP.take (i := 2) rfl (by kernel_rfl) (by kernel_rfl) (by kernel_rfl) rfl rfl (B rfl) (freeMove rfl (E rfl rfl)) ?_
      refine AWP.take (i := 3) rfl (by kernel_rfl) (by kernel_rfl) (by kernel_rfl) rfl rfl (B rfl) (freeNil rfl (E rfl rfl)) ?_
      refine AWP.take (i := 4) rfl (by kernel_rfl) (by kernel_rfl) (by kernel_rfl) rfl rfl (B rfl) (freeField rfl fo_70_2 (E rfl rfl)) ?_
      refine AWP.take (i := 5) rfl (by kernel_rfl) (by kernel_rfl) (by kernel_rfl) rfl rfl (B rfl) (freeArr (j := 0) rfl ar_68 (E rfl rfl) (E rfl rfl) ⟨rfl, by decide⟩) ?_
      refine AWP.take (i := 6) rfl (by kernel_rfl) (by kernel_rfl) (by kernel_rfl) rfl rfl (B rfl) (freeField rfl fo_67_0 (E rfl rfl)) ?_
      refine AWP.take (i := 8) rfl (by kernel_rfl) (by kernel_rfl) (by kernel_rfl) rfl rfl (B rfl) (freeNil rfl (E rfl rfl)) ?_
      refine AWP.take (i := 9) rfl (by kernel_rfl) (by kernel_rfl) (by kernel_rfl) rfl rfl (B rfl) (freeField rfl fo_70_2 (E rfl rfl)) ?_
      refine AWP.take (i := 13) rfl (by kernel_rfl) (by kernel_rfl) (by kernel_rfl) rfl rfl (B rfl) (freeNil rfl (E rfl rfl)) ?_
      refine AWP.take (i := 14) rfl (by kernel_rfl) (by kernel_rfl) (by kernel_rfl) rfl rfl (B rfl) (freeField rfl fo_70_2 (E rfl rfl)) ?_
      refine AWP.one (i := 7) (by kernel_rfl) rfl ?_
      refine AWL.storeBox (i := 0) rfl rfl rfl ag_3 rfl (E rfl rfl) (E rfl rfl) rfl rfl (Nat.le_of_ble_eq_true rfl) ?_
      refine nl ?_
      refine AWP.one (i := 10) (by kernel_rfl) rfl ?_
      refine Y1 (Yv.indexArr (j := 1) rfl ar_68 (E rfl rfl) (E rfl rfl) (fun hg => ⟨rfl, by decide⟩)) ?_
      refine nl ?_
      refine AWP.one (i := 11) (by kernel_rfl) rfl ?_
      refine Y1 (Yv.fieldBox rfl fo_67_0 eV) ?_
      refine nl ?_
      refine AWP.one (i := 12) (by kernel_rfl) rfl ?_
      refine AWL.storeBox (i := 0) rfl rfl rfl ag_3 rfl (E rfl rfl) (E rfl rfl) rfl rfl (Nat.le_of_ble_eq_true rfl) ?_
      refine nl ?_
      refine AWP.one (i := 15) (by kernel_rfl) rfl ?_
      refine Y1 (Yv.indexArr (j := 2) rfl ar_68 (E rfl rfl) (E rfl rfl) (fun hg => ⟨rfl, by decide⟩)) ?_
      refine nl ?_
      refine AWP.one (i := 16) (by kernel_rfl) rfl ?_
      refine Y1 (Yv.fieldBox rfl fo_67_0 eV) ?_
      refine nl ?_
      refine AWP.one (i := 17) (by kernel_rfl) rfl ?_
      refine AWL.storeBox (i := 0) rfl rfl rfl ag_3 rfl (E rfl rfl) (E rfl rfl) rfl rfl (Nat.le_of_ble_eq_true rfl) ?_
      refine nl ?_
      refine AWP.done (by kernel_rfl) ?_
      refine AW.rseq ?_
      refine Y1 (Yv.move rfl eV) ?_
      refine Y1 (Yv.assign rfl eV) ?_
      refine nl ?_
      refine AW.ret (retI (.tmp rfl .nil) ?_)
      refine ⟨b13, b8, fl, rfl, ?_, by rw [hfl, List.take_of_length_le (by omega)]⟩
      rfl

end Go.Proofs.Ytmiggpnkicdijaa

namespace Go.Proofs.Ytmiggpnkicdijaa
open Go Go.RowKit
theorem world_nil (s : List UInt8) : Le (.agg [sv s, .v (.slice none 0 0)]) (worldT s []) :=
  .agg (.cons .refl (.cons (nil_sl (k := 2) (by unfold maxLen; omega)) ⟨rfl, fun j t t' h => by simp at h⟩))
theorem openR_read {name : List UInt8} {ws : WS} (h1 : name.length ≤ 255) (h2 : Lib.indexByte name 0 < 0) (h3 : name ≠ []) (h4 : hasK name ws.files = true) (h5 : freeIx ws.opn < 19) : openR name 0 ws = (freeIx ws.opn : Int) := by
  unfold openR
  rw [if_neg (by omega), if_neg (by omega), if_neg h3, if_neg (fun q => by rw [h4] at q; cases q.2), if_pos h5]
theorem has_of {l : List FileR} {name : List UInt8} {q : Nat} (hq : q < l.length) (h : (l.getD q default).name = name) : hasK name l = true := by
  rw [hasK_any, List.any_eq_true]
  exact ⟨nb (l.getD q default), List.mem_map.2 ⟨_, getD_mem' hq, rfl⟩, by simpa [nb] using h⟩
theorem uniq_ix : ∀ {l : List FileR} {q q' : Nat}, Uniq l → q < l.length → q' < l.length → (l.getD q default).name = (l.getD q' default).name → q = q'
  | [], _, _, _, h, _, _ => by simp at h
  | f :: r, 0, 0, _, _, _, _ => rfl
  | f :: r, 0, q' + 1, hu, _, h', e => by
    rw [Uniq, List.map_cons, List.nodup_cons] at hu
    rw [List.getD_cons_zero, List.getD_cons_succ] at e
    exact absurd (List.mem_map.2 ⟨_, getD_mem' (by simpa using h'), e.symm⟩) hu.1
  | f :: r, q + 1, 0, hu, h, _, e => by
    rw [Uniq, List.map_cons, List.nodup_cons] at hu
    rw [List.getD_cons_zero, List.getD_cons_succ] at e
    exact absurd (List.mem_map.2 ⟨_, getD_mem' (by simpa using h), e⟩) hu.1
  | f :: r, q + 1, q' + 1, hu, h, h', e => by
    rw [Uniq, List.map_cons, List.nodup_cons] at hu
    rw [List.getD_cons_succ, List.getD_cons_succ] at e
    rw [uniq_ix hu.2 (by simpa using h) (by simpa using h') e]
theorem line_ab : List.take (lineN [97, 98, 10, 99]) ([97, 98, 10, 99] : List UInt8) = [97, 98, 10] := by decide
theorem rest_ab : List.drop (lineN [97, 98, 10, 99]) ([97, 98, 10, 99] : List UInt8) = [99] := by decide
theorem fl_nil {fl : List FileR} (h : fl.map nb = nF []) : fl = [] := by
  cases fl with
  | nil => rfl
  | cons a r => simp [nF] at h
end Go.Proofs.Ytmiggpnkicdijaa

namespace Go.Proofs.Ytmiggpnkicdijaa
open Go Go.RowKit
set_option linter.unusedVariables false
set_option linter.unnecessarySimpa false
set_option linter.unusedSimpArgs false

set_option maxHeartbeats 1000000 in
theorem known10  :
    ACalls Try.prog 10 [] [] (fun t S => t = .v (.bool true)) := by
  refine ACalls.intro Try.func10 rfl Try.ntmps10 (Nat.le_of_ble_eq_true rfl) rfl fun X w0 => ?_
  refine AW.rseq ?_
  refine Y1 (Yv.assign rfl eV) ?_
  refine nl ?_
  refine AW.rseq ?_
  refine Y1 (Yv.buildS rfl sh_28 (evpC (E rfl rfl) evp0) (fun _ => rfl)) ?_
  refine AWL.retype (k := 7) (t := .agg [sv [97, 98, 10, 99], .v (.slice none 0 0)]) (t' := worldT [97, 98, 10, 99] []) rfl (world_nil _) ?_
  refine C1 rfl ce_9 (E rfl rfl) (evsC (E rfl rfl) evs0) (S1 := []) (S2 := _) rfl (New9 [97, 98, 10, 99] [] (by decide) (by decide) (fun x hx => by cases hx)) ?_
  rintro t8 S8 ⟨b, m, fl, rfl, rfl, hfl⟩
  obtain rfl := fl_nil hfl
  have hw0 : WB 4 ⟨[], [97, 98, 10, 99], opn0, [], none, 0⟩ := new_wb (l := []) rfl (by decide) (fun x hx => by cases hx)
  refine AWL.eqS (List.append_nil _) ?_
  refine Y1 (Yv.assign rfl eV) ?_
  refine nl ?_
  refine AW.seq ?_
  refine AW.rseq ?_
  refine Y1 (Yv.move rfl eV) ?_
  refine Y1 (Yv.eqlNilP rfl pn_24 (E rfl rfl)) ?_
  refine nl ?_
  refine AW.cond rfl (fun h0t => ?_) (fun h0f => ?_)
  ·
    try replace h0t := of_decide_eq_true h0t
    cases h0t
  ·
    try replace h0f := of_decide_eq_false h0f
    refine AW.skip ?_
    refine AW.rseq ?_
    refine Y1 (Yv.move rfl eV) ?_
    refine AWL.callAll rfl rfl (B rfl) rfl ce_16 (E rfl rfl) (evsC (E rfl rfl) evs0) (Line16 b m ⟨[], [97, 98, 10, 99], opn0, [], none, 0⟩ 4 hw0 (by decide)) ?_
    rintro t12 S12 ⟨rfl, rfl⟩
    refine AWL.retype (k := 12) (t' := sv [97, 98, 10]) rfl (fun w L u h => by
      have h2 : VRep w L (sv (List.take (lineN [97, 98, 10, 99]) [97, 98, 10, 99])) u := h
      rw [line_ab] at h2
      exact h2) ?_
    refine AWL.eqS (S' := WSt b m ⟨[], [99], opn0, [], none, 0⟩) (by
      show WSt b m ⟨[], List.drop (lineN [97, 98, 10, 99]) [97, 98, 10, 99], opn0, [], none, 0⟩ = _
      rw [rest_ab]) ?_
    have hw1 : WB 4 ⟨[], [99], opn0, [], none, 0⟩ := new_wb (l := []) rfl (by decide) (fun x hx => by cases hx)
    refine Y1 (Yv.assign rfl eV) ?_
    refine nl ?_
    refine AW.rseq ?_
    refine Y1 (Yv.move rfl eV) ?_
    refine AWL.callAll rfl rfl (B rfl) rfl ce_28 (E rfl rfl) (evsC (E rfl rfl) (evsC (E rfl rfl) (evsC (E rfl rfl) evs0))) (WriteFile28 b m ⟨[], [99], opn0, [], none, 0⟩ [102] [120, 121, 122] 4 hw1 (by decide) (by decide) List.nodup_nil) ?_
    rintro t14 S14 hR14
    obtain ⟨_, rfl, ws2, rfl, s1, s2, s3, s4, s5, q, hq, hqn, hqb⟩ := hR14.resolve_left (fun q => absurd q.1 (by decide))
    have s2 : ws2.opn = opn0 := s2.trans (by decide)
    have s3 : ws2.trace = [⟨3, [102], [120, 121, 122]⟩] := s3.trans (by decide)
    have hhas := has_of hq hqn
    have hor : openR [102] 0 ws2 = 3 := (openR_read (by decide) (by decide) (by decide) hhas (by rw [s2]; decide)).trans (by rw [s2]; decide)
    refine Y1 (Yv.assign rfl eV) ?_
    refine nl ?_
    refine AW.rseq ?_
    refine Y1 (Yv.move rfl eV) ?_
    refine AWL.callAll rfl rfl (B rfl) rfl ce_19 (E rfl rfl) (evsC (E rfl rfl) (evsC (E rfl rfl) evs0)) (ReadFile19 b m ws2 [102] (4 + 3 + 2) s5 (by decide) s4) ?_
    rintro t17 S17 hR17
    obtain ⟨_, q2, hq2, hqn2, rfl, rfl⟩ := hR17.resolve_left (fun q => by rw [hor] at q; exact absurd q.1 (by decide))
    obtain rfl := uniq_ix s4 hq hq2 (hqn.trans hqn2.symm)
    rw [hqb]
    refine AWL.eqS (S' := WSt b m { ws2 with opn := opn0 }) (by rw [s2]; rfl) ?_
    have hw3 : WB (4 + 3 + 2) { ws2 with opn := opn0 } := by rw [← s2]; exact s5
    refine Y1 (Yv.move rfl eV) ?_
    refine Y1 (Yv.extract rfl eV rfl) ?_
    refine Y1 (Yv.extract rfl eV rfl) ?_
    refine Y1 (Yv.assign rfl eV) ?_
    refine Y1 (Yv.assign rfl eV) ?_
    refine nl ?_
    refine AW.rseq ?_
    refine Y1 (Yv.move rfl eV) ?_
    refine AWL.callAll rfl rfl (B rfl) rfl ce_12 (E rfl rfl) (evsC (E rfl rfl) (evsC (E rfl rfl) evs0)) (Out12 b m { ws2 with opn := opn0 } [113] (4 + 3 + 2) rfl hw3 (by decide) (by decide)) ?_
    rintro t21 S21 ⟨A21, c21, rfl⟩
    have ht4 : sayF 1 [] [113] ws2.trace = [⟨3, [102], [120, 121, 122]⟩, ⟨1, [], [113]⟩] := by rw [s3]; decide
    refine AWL.eqS (S' := WSt b m { ws2 with opn := opn0, trace := [⟨3, [102], [120, 121, 122]⟩, ⟨1, [], [113]⟩], tA := A21, tc := c21 }) (by rw [← ht4]) ?_
    have hw4 : WB (4 + 3 + 2) { ws2 with opn := opn0, trace := [⟨3, [102], [120, 121, 122]⟩, ⟨1, [], [113]⟩], tA := A21, tc := c21 } := ⟨rfl, (by decide : 2 ≤ 9), fun e he => (by
        have he : e ∈ ([⟨3, [102], [120, 121, 122]⟩, ⟨1, [], [113]⟩] : List Evt) := he
        simp only [List.mem_cons, List.not_mem_nil, or_false] at he
        rcases he with rfl | rfl <;> decide), s5.fl, fun d hd => hw3.pl d hd, s5.sin⟩
    refine nl ?_
    refine AW.rseq ?_
    refine Y1 (Yv.move rfl eV) ?_
    refine AWL.callAll rfl rfl (B rfl) rfl ce_14 (E rfl rfl) (evsC (E rfl rfl) evs0) (Trace14 b m { ws2 with opn := opn0, trace := [⟨3, [102], [120, 121, 122]⟩, ⟨1, [], [113]⟩], tA := A21, tc := c21 } (4 + 3 + 2) hw4 (by decide)) ?_
    rintro t23 S23 ⟨rfl, rfl⟩
    refine Y1 (Yv.assign rfl eV) ?_
    refine nl ?_
    refine AW.rseq ?_
    refine Y1 (Yv.move rfl eV) ?_
    refine Y1 (Yv.eqlL rfl (E rfl rfl) (E rfl rfl)) ?_
    refine Y1 (Yv.move rfl eV) ?_
    refine AWL.ygT rfl rfl rfl rfl (B rfl) (Yv.move rfl (E rfl rfl)) ?_
    refine Y1 (Yv.pickAnd rfl (E rfl rfl) (Eg rfl rfl id)) ?_
    refine Y1 (Yv.move rfl eV) ?_
    refine AWL.ygT rfl rfl rfl rfl (B rfl) (Yv.move rfl (E rfl rfl)) ?_
    refine Y1 (Yv.pickAnd rfl (E rfl rfl) (Eg rfl rfl id)) ?_
    refine Y1 (Yv.move rfl eV) ?_
    refine AWL.ygT rfl rfl rfl rfl (B rfl) (Yv.move rfl (E rfl rfl)) ?_
    refine AWL.ygT rfl rfl rfl rfl (B rfl) (Yv.eqlL rfl (Eg rfl rfl id) (E rfl rfl)) ?_
    refine Y1 (Yv.pickAnd rfl (E rfl rfl) (Eg rfl rfl id)) ?_
    refine Y1 (Yv.move rfl eV) ?_
    refine AWL.ygT rfl rfl rfl rfl (B rfl) (Yv.move rfl (E rfl rfl)) ?_
    refine AWL.ygT rfl rfl rfl rfl (B rfl) (Yv.lenSl rfl so_33 (B rfl) (Eg rfl rfl id) len_ev) ?_
    refine AWL.ygT rfl rfl rfl rfl (B rfl) (Yv.eql rfl (Eg rfl rfl id) (E rfl rfl)) ?_
    refine Y1 (Yv.pickAnd rfl (E rfl rfl) (Eg rfl rfl id)) ?_
    refine Y1 (Yv.move rfl eV) ?_
    refine AWL.ygT rfl rfl rfl rfl (B rfl) (Yv.move rfl (E rfl rfl)) ?_
    refine AWL.ygT rfl rfl rfl rfl (B rfl) (Yv.indexSl (j := 0) rfl ss_33 (B rfl) (E rfl rfl) (Eg rfl rfl id) (fun hg => ⟨rfl, (by decide : 0 * 3 < 6)⟩)) ?_
    refine AWL.ygT rfl rfl rfl rfl (B rfl) (Yv.fieldRp rfl fo_36_2 (Eg rfl rfl id)) ?_
    refine AWL.ygT rfl rfl rfl rfl (B rfl) (Yv.loadRp rfl ag_9 (Eg rfl rfl id) (fun _ => rfl)) ?_
    refine AWL.ygT rfl rfl rfl rfl (B rfl) (Yv.eqlL rfl (Eg rfl rfl id) (E rfl rfl)) ?_
    refine Y1 (Yv.pickAnd rfl (E rfl rfl) (Eg rfl rfl id)) ?_
    refine Y1 (Yv.move rfl eV) ?_
    refine AWL.ygT rfl rfl rfl rfl (B rfl) (Yv.move rfl (E rfl rfl)) ?_
    refine AWL.ygT rfl rfl rfl rfl (B rfl) (Yv.indexSl (j := 1) rfl ss_33 (B rfl) (E rfl rfl) (Eg rfl rfl id) (fun hg => ⟨rfl, (by decide : 1 * 3 < 6)⟩)) ?_
    refine AWL.ygT rfl rfl rfl rfl (B rfl) (Yv.fieldRp rfl fo_36_0 (Eg rfl rfl id)) ?_
    refine AWL.ygT rfl rfl rfl rfl (B rfl) (Yv.loadRp rfl ag_3 (Eg rfl rfl id) (fun _ => rfl)) ?_
    refine AWL.ygT rfl rfl rfl rfl (B rfl) (Yv.eql rfl (Eg rfl rfl id) (E rfl rfl)) ?_
    refine Y1 (Yv.pickAnd rfl (E rfl rfl) (Eg rfl rfl id)) ?_
    refine Y1 (Yv.assign rfl eV) ?_
    refine nl ?_
    refine AW.ret (retI (.tmp rfl .nil) ?_)
    first | rfl | decide

end Go.Proofs.Ytmiggpnkicdijaa

namespace Go.Proofs.Ytmiggpnkicdijaa
open Go Go.RowKit
set_option linter.unusedSimpArgs false
set_option linter.unusedVariables false
abbrev Nm := List UInt8
abbrev Fl := List (Nm × List UInt8)
structure PW where
  files : Fl
  stdin : List UInt8
  opn : List Desc
  trace : List Evt
  deriving Inhabited
def absW (ws : WS) : PW := ⟨ws.files.map nb, ws.stdin, ws.opn, ws.trace⟩
def bl (a b : Nm) : Bool := Op.bytesLess a b
/-! ### the order of names -/
theorem bl_irrefl : ∀ a : Nm, bl a a = false
  | [] => rfl
  | x :: a => by
    show (decide (x < x) || ((x == x) && bl a a)) = false
    rw [bl_irrefl a]
    simp
theorem bl_trans : ∀ {a b c : Nm}, bl a b = true → bl b c = true → bl a c = true
  | [], [], c, h, _ => by cases h
  | [], y :: b, [], _, h => by cases h
  | [], y :: b, z :: c, _, _ => rfl
  | x :: a, [], c, h, _ => by cases h
  | x :: a, y :: b, [], _, h => by cases h
  | x :: a, y :: b, z :: c, h1, h2 => by
    have h1 : (decide (x < y) || ((x == y) && bl a b)) = true := h1
    have h2 : (decide (y < z) || ((y == z) && bl b c)) = true := h2
    show (decide (x < z) || ((x == z) && bl a c)) = true
    rw [Bool.or_eq_true, Bool.and_eq_true, decide_eq_true_eq, beq_iff_eq] at h1 h2 ⊢
    rcases h1 with h1 | ⟨h1, h3⟩ <;> rcases h2 with h2 | ⟨h2, h4⟩
    · exact .inl (UInt8.lt_trans h1 h2)
    · exact .inl (h2 ▸ h1)
    · exact .inl (h1 ▸ h2)
    · exact .inr ⟨h1.trans h2, bl_trans h3 h4⟩
theorem bl_total : ∀ {a b : Nm}, bl a b = false → bl b a = false → a = b
  | [], [], _, _ => rfl
  | [], y :: b, h, _ => by cases h
  | x :: a, [], _, h => by cases h
  | x :: a, y :: b, h1, h2 => by
    have h1 : (decide (x < y) || ((x == y) && bl a b)) = false := h1
    have h2 : (decide (y < x) || ((y == x) && bl b a)) = false := h2
    rw [Bool.or_eq_false_iff, decide_eq_false_iff_not] at h1 h2
    have hxy : x = y := by
      have a1 := h1.1
      have a2 := h2.1
      rw [UInt8.lt_iff_toNat_lt] at a1 a2
      exact UInt8.toNat_inj.1 (by omega)
    subst hxy
    have e1 : bl a b = false := by simpa using h1.2
    have e2 : bl b a = false := by simpa using h2.2
    rw [bl_total e1 e2]
theorem bl_asymm {a b : Nm} (h : bl a b = true) : bl b a = false := by
  cases h2 : bl b a
  · rfl
  · have := bl_trans h h2
    rw [bl_irrefl] at this
    cases this
theorem bl_not {a b : Nm} (h : bl a b = false) : a = b ∨ bl b a = true := by
  cases h2 : bl b a
  · exact .inl (bl_total h h2)
  · exact .inr rfl
def Srt (l : Fl) : Prop := l.Pairwise fun a b => bl a.1 b.1 = true
theorem Srt.nodup {l : Fl} (h : Srt l) : (l.map (·.1)).Nodup := by
  rw [List.Nodup, List.pairwise_map]
  exact h.imp fun {a b} hab e => by rw [e, bl_irrefl] at hab; cases hab
/-- Two rising lists of the same are one. -/
theorem srt_perm : ∀ {l l' : Fl}, Srt l → Srt l' → l.Perm l' → l = l'
  | [], l', _, _, h => (List.nil_perm.1 h).symm
  | a :: l, [], _, _, h => absurd h.symm (by simp)
  | a :: l, b :: l', h1, h2, h => by
    rw [Srt, List.pairwise_cons] at h1 h2
    have hab : a = b := by
      rcases List.mem_cons.1 (h.subset (List.mem_cons_self ..)) with e | e
      · exact e
      · rcases List.mem_cons.1 (h.symm.subset (List.mem_cons_self ..)) with e2 | e2
        · exact e2.symm
        · have q1 := h2.1 a e
          have q2 := h1.1 b e2
          rw [bl_asymm q1] at q2
          cases q2
    subst hab
    rw [srt_perm h1.2 h2.2 ((List.perm_cons a).1 h)]
/-! ### files by name -/
def getP (name : Nm) : Fl → Option (List UInt8)
  | [] => none
  | x :: r => if x.1 = name then some x.2 else getP name r
def putP (name : Nm) (b : List UInt8) : Fl → Fl
  | [] => [(name, b)]
  | x :: r => if x.1 = name then (name, b) :: r else x :: putP name b r
theorem getP_none {name : Nm} : ∀ {l : Fl}, getP name l = none ↔ ∀ x ∈ l, ¬ x.1 = name
  | [] => by simp [getP]
  | x :: r => by
    rw [getP]
    by_cases h : x.1 = name
    · rw [if_pos h]
      simp [h]
    · rw [if_neg h, getP_none (l := r)]
      simp [h]
theorem getP_mem {name : Nm} {b : List UInt8} : ∀ {l : Fl}, getP name l = some b → (name, b) ∈ l
  | [], h => by cases h
  | x :: r, h => by
    rw [getP] at h
    by_cases hx : x.1 = name
    · rw [if_pos hx, Option.some.injEq] at h
      rw [← h, ← hx]
      exact List.mem_cons_self ..
    · rw [if_neg hx] at h
      exact List.mem_cons_of_mem _ (getP_mem h)
theorem mem_getP {name : Nm} {b : List UInt8} : ∀ {l : Fl}, (l.map (·.1)).Nodup → (name, b) ∈ l → getP name l = some b
  | [], _, h => by cases h
  | x :: r, hn, h => by
    rw [List.map_cons, List.nodup_cons] at hn
    rw [getP]
    rcases List.mem_cons.1 h with h | h
    · rw [← h, if_pos rfl]
    · rw [if_neg (fun e => hn.1 (by rw [e]; exact List.mem_map.2 ⟨_, h, rfl⟩)), mem_getP hn.2 h]
theorem getP_perm {name : Nm} {l l' : Fl} (hn : (l.map (·.1)).Nodup) (h : l.Perm l') : getP name l = getP name l' := by
  have hn' : (l'.map (·.1)).Nodup := (h.map (·.1)).nodup_iff.1 hn
  cases e : getP name l with
  | some b => exact (mem_getP hn' (h.subset (getP_mem e))).symm
  | none =>
    symm
    rw [getP_none] at e ⊢
    exact fun x hx => e x (h.symm.subset hx)
theorem putP_names {name : Nm} {b b' : List UInt8} : ∀ {l : Fl}, getP name l = some b' → (putP name b l).map (·.1) = l.map (·.1)
  | [], h => by cases h
  | x :: r, h => by
    rw [getP] at h
    rw [putP]
    by_cases hx : x.1 = name
    · rw [if_pos hx, List.map_cons, List.map_cons, hx]
    · rw [if_neg hx] at h
      rw [if_neg hx, List.map_cons, List.map_cons, putP_names h]
theorem putP_new {name : Nm} {b : List UInt8} : ∀ {l : Fl}, getP name l = none → putP name b l = l ++ [(name, b)]
  | [], _ => rfl
  | x :: r, h => by
    rw [getP] at h
    by_cases hx : x.1 = name
    · rw [if_pos hx] at h; cases h
    · rw [if_neg hx] at h
      rw [putP, if_neg hx, putP_new h]
      rfl
theorem mem_putP {name : Nm} {b : List UInt8} {x : Nm × List UInt8} : ∀ {l : Fl}, (l.map (·.1)).Nodup → (x ∈ putP name b l ↔ x = (name, b) ∨ (x ∈ l ∧ ¬ x.1 = name))
  | [], _ => by simp [putP]
  | y :: r, hn => by
    rw [List.map_cons, List.nodup_cons] at hn
    rw [putP]
    by_cases hy : y.1 = name
    · rw [if_pos hy]
      constructor
      · intro h
        rcases List.mem_cons.1 h with h | h
        · exact .inl h
        · exact .inr ⟨List.mem_cons_of_mem _ h, fun e => hn.1 (by rw [hy, ← e]; exact List.mem_map.2 ⟨x, h, rfl⟩)⟩
      · rintro (h | ⟨h1, h2⟩)
        · rw [h]; exact List.mem_cons_self ..
        · rcases List.mem_cons.1 h1 with h | h
          · exact absurd (h ▸ hy) h2
          · exact List.mem_cons_of_mem _ h
    · rw [if_neg hy, List.mem_cons, mem_putP hn.2, List.mem_cons]
      constructor
      · rintro (h | h | ⟨h1, h2⟩)
        · exact .inr ⟨.inl h, h ▸ hy⟩
        · exact .inl h
        · exact .inr ⟨.inr h1, h2⟩
      · rintro (h | ⟨h1 | h1, h2⟩)
        · exact .inr (.inl h)
        · exact .inl h1
        · exact .inr (.inr ⟨h1, h2⟩)
theorem putP_nodup {name : Nm} {b : List UInt8} {l : Fl} (hn : (l.map (·.1)).Nodup) : ((putP name b l).map (·.1)).Nodup := by
  cases e : getP name l with
  | some b' => rw [putP_names e]; exact hn
  | none =>
    rw [putP_new e, List.map_append, List.nodup_append]
    refine ⟨hn, by simp, fun p hp q hq => ?_⟩
    rw [getP_none] at e
    obtain ⟨x, hx, rfl⟩ := List.mem_map.1 hp
    simp only [List.map_cons, List.map_nil, List.mem_singleton] at hq
    rw [hq]
    exact e x hx
theorem nodup_of_map {l : Fl} (h : (l.map (·.1)).Nodup) : l.Nodup := by
  rw [List.Nodup, List.pairwise_map] at h
  exact h.imp fun {a b} hab e => hab (by rw [e])
theorem putP_perm {name : Nm} {b : List UInt8} {l l' : Fl} (hn : (l.map (·.1)).Nodup) (h : l.Perm l') : (putP name b l).Perm (putP name b l') := by
  have hn' : (l'.map (·.1)).Nodup := (h.map (·.1)).nodup_iff.1 hn
  rw [List.perm_ext_iff_of_nodup (nodup_of_map (putP_nodup hn)) (nodup_of_map (putP_nodup hn'))]
  intro x
  rw [mem_putP hn, mem_putP hn']
  constructor
  · rintro (h1 | ⟨h1, h2⟩)
    · exact .inl h1
    · exact .inr ⟨h.subset h1, h2⟩
  · rintro (h1 | ⟨h1, h2⟩)
    · exact .inl h1
    · exact .inr ⟨h.symm.subset h1, h2⟩
theorem putP_srt {name : Nm} {b b' : List UInt8} {l : Fl} (hs : Srt l) (h : getP name l = some b') : Srt (putP name b l) := by
  have e := putP_names (b := b) h
  have : (l.map (·.1)).Pairwise fun a b => bl a b = true := by rw [List.pairwise_map]; exact hs
  rw [← e, List.pairwise_map] at this
  exact this
/-- A new one in its place. -/
structure Laid (x : Nm × List UInt8) (l l' : Fl) : Prop where
  is : ∃ i, i ≤ l.length ∧ l' = l.take i ++ x :: l.drop i ∧ (∀ y ∈ l.drop i, bl x.1 y.1 = true) ∧ (i = 0 ∨ bl x.1 (l.getD (i - 1) default).1 = false)
theorem laid_srt {x : Nm × List UInt8} {l l' : Fl} (hs : Srt l) (hx : getP x.1 l = none) (h : Laid x l l') : Srt l' ∧ (putP x.1 x.2 l).Perm l' := by
  obtain ⟨i, hi, rfl, h1, h2⟩ := h.is
  rw [getP_none] at hx
  have hsp : Srt (l.take i ++ l.drop i) := by rw [List.take_append_drop]; exact hs
  rw [Srt, List.pairwise_append] at hsp
  refine ⟨?_, ?_⟩
  · rw [Srt, List.pairwise_append, List.pairwise_cons]
    have hb : ∀ a ∈ l.take i, bl a.1 x.1 = true := by
      intro a ha
      rcases h2 with h2 | h2
      · rw [h2] at ha; simp at ha
      · have hpos : 0 < i := by
          rcases Nat.eq_zero_or_pos i with e | e
          · rw [e] at ha; simp at ha
          · exact e
        have hlast : (l.getD (i - 1) default) ∈ l := by rw [getD_eq' (by omega)]; exact List.getElem_mem _
        have hl : bl (l.getD (i - 1) default).1 x.1 = true := (bl_not h2).resolve_left (fun e => hx _ hlast e.symm)
        obtain ⟨k, hk, rfl⟩ := List.mem_iff_getElem.1 ha
        rw [List.length_take] at hk
        rw [List.getElem_take]
        rcases Nat.lt_or_ge k (i - 1) with hlt | hge
        · have := List.pairwise_iff_getElem.1 hs k (i - 1) (by omega) (by omega) hlt
          rw [getD_eq' (by omega)] at hl
          exact bl_trans this hl
        · have : k = i - 1 := by omega
          subst this
          rw [getD_eq' (by omega)] at hl
          exact hl
    refine ⟨hsp.1, ⟨h1, hsp.2.1⟩, fun a ha c hc => ?_⟩
    rcases List.mem_cons.1 hc with hc | hc
    · rw [hc]; exact hb a ha
    · exact hsp.2.2 a ha c hc
  · rw [putP_new (getP_none.2 hx)]
    have e : (l.take i ++ x :: l.drop i).Perm (l.take i ++ (l.drop i ++ [x])) := List.Perm.append_left _ (List.perm_append_singleton x _).symm
    rw [← List.append_assoc, List.take_append_drop] at e
    exact e.symm
/-! ### what the calls do -/
def badN (name : Nm) : Bool := name.any fun c => decide (c = 0)
theorem idx_bad : ∀ name : Nm, (0 ≤ Lib.indexByte name 0) ↔ badN name = true
  | [] => by simp [Lib.indexByte, badN]
  | c :: r => by
    have ih := idx_bad r
    have hge := Lib.indexByte_ge r 0
    unfold badN at ih ⊢
    rw [List.any_cons, Bool.or_eq_true, decide_eq_true_eq, ← ih]
    rw [Lib.indexByte]
    simp only [beq_iff_eq]
    by_cases hc : c = 0
    · rw [if_pos hc]
      exact ⟨fun _ => .inl hc, fun _ => Int.le_refl _⟩
    · rw [if_neg hc]
      constructor
      · intro h
        right
        split at h
        · omega
        · omega
      · rintro (h | h)
        · exact absurd h hc
        · rw [if_neg (by omega)]
          omega
def openV (name : Nm) (flags : Int) (p : PW) : Int :=
  if 255 < name.length then -36 else if (flags ≠ 0 ∧ flags ≠ 577) ∨ badN name = true then -22 else if name = [] then -2 else if flags = 0 ∧ getP name p.files = none then -2 else if freeIx p.opn < 19 then freeIx p.opn else -24
def openP (name : Nm) (flags : Int) (p : PW) : PW :=
  if openV name flags p < 0 then p else if flags = 577 then
    { p with opn := p.opn.set (freeIx p.opn) ⟨5, name, 0⟩, files := putP name [] p.files, trace := p.trace ++ [⟨3, name, []⟩] }
  else { p with opn := p.opn.set (freeIx p.opn) ⟨4, name, 0⟩ }
def kindP (fd : Int) (p : PW) : Int := if fd < 0 ∨ 19 ≤ fd then 0 else (p.opn.getD fd.toNat default).kind
def readV (fd : Int) (n : Int) (p : PW) : List UInt8 × Int :=
  if kindP fd p = 1 then (p.stdin.take n.toNat, ((p.stdin.take n.toNat).length : Int))
  else if kindP fd p = 4 then
    let b := (((getP (p.opn.getD fd.toNat default).name p.files).getD []).drop (p.opn.getD fd.toNat default).place).take n.toNat
    (b, (b.length : Int))
  else ([], -9)
def readP (fd : Int) (n : Int) (p : PW) : PW :=
  if kindP fd p = 1 then { p with stdin := p.stdin.drop n.toNat }
  else if kindP fd p = 4 then { p with opn := p.opn.set fd.toNat { p.opn.getD fd.toNat default with place := (p.opn.getD fd.toNat default).place + ((((getP (p.opn.getD fd.toNat default).name p.files).getD []).drop (p.opn.getD fd.toNat default).place).take n.toNat).length } }
  else p
def writeV (fd : Int) (s : List UInt8) (p : PW) : Int := if kindP fd p = 2 ∨ kindP fd p = 3 ∨ kindP fd p = 5 then (s.length : Int) else -9
def writeP (fd : Int) (s : List UInt8) (p : PW) : PW :=
  if kindP fd p = 2 then { p with trace := sayF 1 [] s p.trace }
  else if kindP fd p = 3 then { p with trace := sayF 2 [] s p.trace }
  else if kindP fd p = 5 then
    (if s = [] then p else { p with
      files := putP (p.opn.getD fd.toNat default).name (writeAt ((getP (p.opn.getD fd.toNat default).name p.files).getD []) (p.opn.getD fd.toNat default).place s) p.files,
      opn := p.opn.set fd.toNat { p.opn.getD fd.toNat default with place := (p.opn.getD fd.toNat default).place + s.length },
      trace := sayF 3 (p.opn.getD fd.toNat default).name s p.trace })
  else p
def closeV (fd : Int) (p : PW) : Int := if kindP fd p = 0 then -9 else 0
def closeP (fd : Int) (p : PW) : PW := if kindP fd p = 0 then p else { p with opn := p.opn.set fd.toNat ⟨0, [], 0⟩ }
def lineV (p : PW) : List UInt8 := p.stdin.take (lineN p.stdin)
def lineP (p : PW) : PW := { p with stdin := p.stdin.drop (lineN p.stdin) }
/-! ### side by side -/
/-- The second's answers are as the first's. -/
structure Side (r d : PW) : Prop where
  stdin : d.stdin = r.stdin
  opn : d.opn = r.opn
  trace : d.trace = r.trace
  files : r.files.Perm d.files
  srt : Srt d.files
theorem Side.nodup {r d : PW} (h : Side r d) : (r.files.map (·.1)).Nodup := (h.files.map (·.1)).nodup_iff.2 h.srt.nodup
theorem Side.get {r d : PW} (h : Side r d) (name : Nm) : getP name d.files = getP name r.files := (getP_perm h.nodup h.files).symm
theorem Side.kind {r d : PW} (h : Side r d) (fd : Int) : kindP fd d = kindP fd r := by unfold kindP; rw [h.opn]
theorem Side.openV {r d : PW} (h : Side r d) (name : Nm) (flags : Int) : openV name flags d = openV name flags r := by unfold Go.Proofs.Ytmiggpnkicdijaa.openV; rw [h.opn, h.get]
theorem Side.readV {r d : PW} (h : Side r d) (fd n : Int) : readV fd n d = readV fd n r := by unfold Go.Proofs.Ytmiggpnkicdijaa.readV; rw [h.kind, h.stdin, h.opn, h.get]
theorem Side.writeV {r d : PW} (h : Side r d) (fd : Int) (s : List UInt8) : writeV fd s d = writeV fd s r := by unfold Go.Proofs.Ytmiggpnkicdijaa.writeV; rw [h.kind]
theorem Side.closeV {r d : PW} (h : Side r d) (fd : Int) : closeV fd d = closeV fd r := by unfold Go.Proofs.Ytmiggpnkicdijaa.closeV; rw [h.kind]
theorem Side.line {r d : PW} (h : Side r d) : Side (lineP r) (lineP d) := ⟨by unfold lineP; rw [h.stdin], h.opn, h.trace, h.files, h.srt⟩
theorem Side.read {r d : PW} (h : Side r d) (fd n : Int) : Side (readP fd n r) (readP fd n d) := by
  unfold readP
  rw [h.kind, h.stdin, h.opn, h.get]
  split
  · exact ⟨rfl, rfl, h.trace, h.files, h.srt⟩
  split
  · exact ⟨rfl, rfl, h.trace, h.files, h.srt⟩
  · exact h
theorem Side.close {r d : PW} (h : Side r d) (fd : Int) : Side (closeP fd r) (closeP fd d) := by
  unfold closeP
  rw [h.kind, h.opn]
  split
  · exact h
  · exact ⟨h.stdin, rfl, h.trace, h.files, h.srt⟩
/-- Descriptors of files name files. -/
def Named (p : PW) : Prop := p.opn.length = 19 ∧ ∀ d ∈ p.opn, (d.kind = 4 ∨ d.kind = 5) → (getP d.name p.files).isSome = true
theorem Side.write {r d : PW} (h : Side r d) (hn : Named r) (fd : Int) (s : List UInt8) : Side (writeP fd s r) (writeP fd s d) := by
  unfold writeP
  rw [h.kind, h.trace, h.opn, h.get]
  split
  · exact ⟨h.stdin, rfl, rfl, h.files, h.srt⟩
  split
  · exact ⟨h.stdin, rfl, rfl, h.files, h.srt⟩
  split
  · rename_i hk
    split
    · exact h
    · have hi : ¬ (fd < 0 ∨ 19 ≤ fd) := by
        intro q
        unfold kindP at hk
        rw [if_pos q] at hk
        exact absurd hk (by decide)
      have hlt : fd.toNat < r.opn.length := by have := hn.1; omega
      have hd : (r.opn.getD fd.toNat default).kind = 5 := by unfold kindP at hk; rwa [if_neg hi] at hk
      have hm : r.opn.getD fd.toNat default ∈ r.opn := by rw [getD_eq' hlt]; exact List.getElem_mem _
      obtain ⟨b, hb⟩ := Option.isSome_iff_exists.1 (hn.2 _ hm (.inr hd))
      exact ⟨h.stdin, rfl, rfl, putP_perm h.nodup h.files, putP_srt h.srt (by rw [h.get]; exact hb)⟩
  · exact h
/-! ### names stay named -/
theorem getP_put {name m : Nm} {b : List UInt8} : ∀ {l : Fl}, (getP m (putP name b l)).isSome = ((getP m l).isSome || decide (m = name))
  | [] => by
    unfold putP getP getP
    by_cases h : name = m
    · simp [h, getP]
    · simp [h, getP, Ne.symm h]
  | x :: r => by
    rw [putP]
    by_cases hx : x.1 = name
    · rw [if_pos hx, getP, getP]
      by_cases h : name = m
      · simp [h, hx]
      · have : ¬ x.1 = m := fun e => h (hx ▸ e)
        simp [h, this, Ne.symm h]
    · rw [if_neg hx, getP, getP]
      by_cases h : x.1 = m
      · simp [h]
      · rw [if_neg h, if_neg h, getP_put]
theorem named_set {p : PW} (h : Named p) {j : Nat} {d : Desc} (hd : (d.kind = 4 ∨ d.kind = 5) → (getP d.name p.files).isSome = true) : Named { p with opn := p.opn.set j d } := by
  refine ⟨by rw [List.length_set]; exact h.1, fun x hx => ?_⟩
  rcases List.mem_or_eq_of_mem_set hx with hx | rfl
  · exact h.2 x hx
  · exact hd
theorem named_line {p : PW} (h : Named p) : Named (lineP p) := h
theorem named_close {p : PW} (h : Named p) (fd : Int) : Named (closeP fd p) := by
  unfold closeP
  split
  · exact h
  · exact named_set h (fun q => by simp at q)
theorem kind_in {p : PW} {fd : Int} (h : Named p) (hk : ¬ kindP fd p = 0) : 0 ≤ fd ∧ fd < 19 ∧ fd.toNat < p.opn.length ∧ p.opn.getD fd.toNat default ∈ p.opn ∧ kindP fd p = (p.opn.getD fd.toNat default).kind := by
  unfold kindP at hk ⊢
  by_cases q : fd < 0 ∨ 19 ≤ fd
  · rw [if_pos q] at hk; exact absurd rfl hk
  · rw [if_neg q]
    have hl := h.1
    refine ⟨by omega, by omega, by omega, ?_, rfl⟩
    rw [getD_eq' (by omega)]
    exact List.getElem_mem _
theorem named_read {p : PW} (h : Named p) (fd n : Int) : Named (readP fd n p) := by
  unfold readP
  split
  · exact h
  split
  · rename_i hk
    obtain ⟨_, _, _, hm, he⟩ := kind_in h (fd := fd) (by rw [hk]; decide)
    exact named_set h (fun q => h.2 (p.opn.getD fd.toNat default) hm q)
  · exact h
theorem named_write {p : PW} (h : Named p) (fd : Int) (s : List UInt8) : Named (writeP fd s p) := by
  unfold writeP
  split
  · exact h
  split
  · exact h
  split
  · rename_i hk
    split
    · exact h
    · obtain ⟨_, _, _, hm, he⟩ := kind_in h (fd := fd) (by rw [hk]; decide)
      refine ⟨by show (p.opn.set _ _).length = 19; rw [List.length_set]; exact h.1, fun x hx q => ?_⟩
      show (getP x.name (putP _ _ p.files)).isSome = true
      rw [getP_put]
      rcases List.mem_or_eq_of_mem_set hx with hx | rfl
      · rw [h.2 x hx q]; rfl
      · simp
  · exact h
theorem named_open {p : PW} (h : Named p) (name : Nm) (flags : Int) : Named (openP name flags p) := by
  unfold openP
  split
  · exact h
  rename_i hv
  split
  · refine ⟨by show (p.opn.set _ _).length = 19; rw [List.length_set]; exact h.1, fun x hx q => ?_⟩
    show (getP x.name (putP _ _ p.files)).isSome = true
    rw [getP_put]
    rcases List.mem_or_eq_of_mem_set hx with hx | rfl
    · rw [h.2 x hx q]; rfl
    · simp
  · rename_i hf
    refine named_set h (fun _ => ?_)
    show (getP name p.files).isSome = true
    unfold openV at hv
    split at hv
    · exact absurd (by decide) hv
    split at hv
    · exact absurd (by decide) hv
    split at hv
    · exact absurd (by decide) hv
    split at hv
    · exact absurd (by decide) hv
    · rename_i h1 h2 h3 h4
      cases e : getP name p.files with
      | some b => rfl
      | none => exact absurd ⟨by omega, e⟩ h4
end Go.Proofs.Ytmiggpnkicdijaa

namespace Go.Proofs.Ytmiggpnkicdijaa
open Go Go.RowKit
set_option linter.unusedSimpArgs false
set_option linter.unusedVariables false
structure DS where
  files : List FileR
  lA : Option Addr
  lc : Nat
  stdin : List UInt8
  opn : List Desc
  dA : Option Addr
  dc : Nat
  trace : List Evt
  tA : Option Addr
  tc : Nat
  deriving Inhabited
def pl (ds : DS) : PW := ⟨ds.files.map nb, ds.stdin, ds.opn, ds.trace⟩
def fileCells (f : FileR) : List T := [sv f.name, .v (.slice f.A f.bytes.length f.c)]
def dCells (ds : DS) : List T := [.v (.slice ds.lA ds.files.length ds.lc), sv ds.stdin, .v (.slice ds.dA ds.opn.length ds.dc), .v (.slice ds.tA ds.trace.length ds.tc)]
/-- The document's world's entries. -/
def DSt (b : Nat) (ds : DS) : St := .box b 82 (dCells ds) :: .row ds.lA ds.files.length ds.lc 93 2 (ds.files.flatMap fileCells) :: .row ds.dA ds.opn.length ds.dc 86 3 (ds.opn.flatMap descCells) :: .row ds.tA ds.trace.length ds.tc 36 3 (ds.trace.flatMap evCells) :: ds.files.map fileRow
theorem fck (f : FileR) : (fileCells f).length = 2 := rfl
theorem len_files {l : List FileR} : (l.flatMap fileCells).length = l.length * 2 := len_flat fck l
theorem fnm_at {l : List FileR} {j : Nat} (h : j < l.length) : (l.flatMap fileCells)[j * 2 + 0]? = some (sv (l.getD j default).name) := flat_at fck h 0 (by decide)
theorem fby_at {l : List FileR} {j : Nat} (h : j < l.length) : (l.flatMap fileCells)[j * 2 + 1]? = some (.v (.slice (l.getD j default).A (l.getD j default).bytes.length (l.getD j default).c)) := flat_at fck h 1 (by decide)
theorem dkd_at {l : List Desc} {j : Nat} (h : j < l.length) : (l.flatMap descCells)[j * 3 + 0]? = some (.v (.int .i64 (l.getD j default).kind)) := flat_at dk h 0 (by decide)
theorem dnm_at {l : List Desc} {j : Nat} (h : j < l.length) : (l.flatMap descCells)[j * 3 + 1]? = some (sv (l.getD j default).name) := flat_at dk h 1 (by decide)
theorem dpl_at {l : List Desc} {j : Nat} (h : j < l.length) : (l.flatMap descCells)[j * 3 + 2]? = some (.v (.int .i64 ((l.getD j default).place : Int))) := flat_at dk h 2 (by decide)
theorem flat_set1 {α : Type} [Inhabited α] {f : α → List T} {k : Nat} (hk : ∀ a, (f a).length = k) {l : List α} {j : Nat} (h : j < l.length) (i : Nat) (v : T) (a' : α) (hin : i + 1 ≤ k) (he : f a' = (f (l.getD j default)).take i ++ [v] ++ (f (l.getD j default)).drop (i + 1)) :
    (l.flatMap f).set (j * k + i) v = (l.set j a').flatMap f := by
  have e := flat_set hk h i 1 [v] a' hin he
  have hlt : j * k + i < (l.flatMap f).length := by
    rw [len_flat hk]
    have := Nat.mul_le_mul_right k (show j + 1 ≤ l.length by omega)
    rw [Nat.add_mul, Nat.one_mul] at this
    omega
  rw [← e, List.set_eq_take_append_cons_drop, if_pos hlt, List.append_assoc]
  rfl
theorem dset_place {l : List Desc} {j : Nat} (h : j < l.length) (p : Nat) : (l.flatMap descCells).set (j * 3 + 2) (.v (.int .i64 (p : Int))) = (l.set j { l.getD j default with place := p }).flatMap descCells := flat_set1 dk h 2 _ _ (by decide) rfl
theorem dset_all {l : List Desc} {j : Nat} (h : j < l.length) (d : Desc) : (l.flatMap descCells).take (j * 3) ++ descCells d ++ (l.flatMap descCells).drop (j * 3 + 3) = (l.set j d).flatMap descCells := by
  have e := flat_set dk h 0 3 (descCells d) d (by decide) rfl
  exact e
theorem fset_bytes {l : List FileR} {j : Nat} (h : j < l.length) (A : Option Addr) (b : List UInt8) (c : Nat) : (l.flatMap fileCells).set (j * 2 + 1) (.v (.slice A b.length c)) = (l.set j ⟨(l.getD j default).name, b, A, c⟩).flatMap fileCells := flat_set1 fck h 1 _ _ (by decide) rfl
theorem fset_all {l : List FileR} {j : Nat} (h : j < l.length) (f : FileR) : (l.flatMap fileCells).take (j * 2) ++ fileCells f ++ (l.flatMap fileCells).drop (j * 2 + 2) = (l.set j f).flatMap fileCells := by
  have e := flat_set fck h 0 2 (fileCells f) f (by decide) rfl
  exact e
/-- Where a file is. -/
def findP (name : Nm) (l : Fl) : Int := match l.findIdx? (fun x => decide (x.1 = name)) with | some i => (i : Int) | none => -1
theorem findP_yes {name : Nm} {l : Fl} {j : Nat} (hj : j < l.length) (hb : ∀ i, i < j → ¬ (l.getD i default).1 = name) (h : (l.getD j default).1 = name) : findP name l = (j : Int) := by
  have : l.findIdx? (fun x => decide (x.1 = name)) = some j := by
    rw [List.findIdx?_eq_some_iff_getElem]
    refine ⟨hj, ?_, fun i hi => ?_⟩
    · rw [getD_eq' hj] at h
      simpa using h
    · have := hb i hi
      rw [getD_eq' (by omega)] at this
      simpa using this
  unfold findP
  rw [this]
theorem findP_no {name : Nm} {l : Fl} (hb : ∀ i, i < l.length → ¬ (l.getD i default).1 = name) : findP name l = -1 ∧ getP name l = none := by
  have hm : ∀ x ∈ l, ¬ x.1 = name := by
    intro x hx
    obtain ⟨i, hi, rfl⟩ := List.mem_iff_getElem.1 hx
    have := hb i hi
    rwa [getD_eq' hi] at this
  have : l.findIdx? (fun x => decide (x.1 = name)) = none := by
    rw [List.findIdx?_eq_none_iff]
    intro x hx
    simpa using hm x hx
  refine ⟨?_, getP_none.2 hm⟩
  unfold findP
  rw [this]
theorem findP_get {name : Nm} : ∀ {l : Fl}, (findP name l = -1 ∧ getP name l = none) ∨ ∃ j : Nat, findP name l = (j : Int) ∧ j < l.length ∧ (l.getD j default).1 = name ∧ getP name l = some (l.getD j default).2 ∧ ∀ b, putP name b l = l.set j (name, b)
  | [] => .inl ⟨rfl, rfl⟩
  | x :: r => by
    by_cases h : x.1 = name
    · refine .inr ⟨0, ?_, by simp, by simpa using h, by rw [getP, if_pos h]; rfl, fun b => by rw [putP, if_pos h]; rfl⟩
      exact findP_yes (by simp) (fun i hi => by omega) (by simpa using h)
    · rcases findP_get (name := name) (l := r) with ⟨h1, h2⟩ | ⟨j, h1, h2, h3, h4, h5⟩
      · left
        refine ⟨?_, by rw [getP, if_neg h]; exact h2⟩
        rw [getP_none] at h2
        refine (findP_no fun i hi => ?_).1
        cases i with
        | zero => simpa using h
        | succ i =>
          have hi' : i < r.length := by simpa using hi
          rw [List.getD_cons_succ, getD_eq' hi']
          exact h2 _ (List.getElem_mem _)
      · right
        refine ⟨j + 1, ?_, by simpa using h2, by rw [List.getD_cons_succ]; exact h3, by rw [getP, if_neg h, List.getD_cons_succ]; exact h4, fun b => by rw [putP, if_neg h, h5]; rfl⟩
        have hn : ∀ i : Nat, i < j → ¬ (r.getD i default).1 = name := by
          intro i hi e
          unfold findP at h1
          split at h1
          · rename_i k hk
            rw [List.findIdx?_eq_some_iff_getElem] at hk
            obtain ⟨hk1, _, hk3⟩ := hk
            have hkj : k = j := by omega
            have := hk3 i (by omega)
            rw [getD_eq' (by omega)] at e
            simp [e] at this
          · omega
        refine findP_yes (by simpa using h2) (fun i hi => ?_) (by rw [List.getD_cons_succ]; exact h3)
        cases i with
        | zero => simpa using h
        | succ i => rw [List.getD_cons_succ]; exact hn i (by omega)
theorem nb_at {l : List FileR} {j : Nat} (h : j < l.length) : (l.map nb).getD j default = nb (l.getD j default) := by
  rw [getD_eq' (by rw [List.length_map]; exact h), getD_eq' h, List.getElem_map]
theorem bad_yes {s : Nm} {j : Nat} (hj : j < s.length) (h : s.getD j 0 = 0) : badN s = true := by
  unfold badN
  rw [List.any_eq_true]
  refine ⟨s[j], List.getElem_mem hj, ?_⟩
  rw [List.getD_eq_getElem?_getD, List.getElem?_eq_getElem hj] at h
  simpa using h
theorem bad_no {s : Nm} (h : ∀ i, i < s.length → ¬ s.getD i 0 = 0) : badN s = false := by
  unfold badN
  rw [List.any_eq_false]
  intro x hx
  obtain ⟨i, hi, rfl⟩ := List.mem_iff_getElem.1 hx
  have := h i hi
  rw [List.getD_eq_getElem?_getD, List.getElem?_eq_getElem hi] at this
  simpa using this
theorem u8z {c : UInt8} : ((c.toNat : Int) = 0) ↔ c = 0 := by
  constructor
  · intro h; exact UInt8.toNat_inj.1 (by simpa using h)
  · rintro rfl; rfl
theorem u8ten {c : UInt8} : ((c.toNat : Int) = 10) ↔ c = 10 := by
  constructor
  · intro h; exact UInt8.toNat_inj.1 (by show c.toNat = 10; omega)
  · rintro rfl; rfl
theorem idx_at : ∀ {s : List UInt8} {n : Nat} {c : UInt8}, n < s.length → (∀ i, i < n → ¬ s.getD i 0 = c) → s.getD n 0 = c → Lib.indexByte s c = (n : Int)
  | [], n, c, h, _, _ => absurd h (by simp)
  | x :: r, 0, c, _, _, h => by
    have h : x = c := h
    rw [Lib.indexByte, h]
    simp
  | x :: r, n + 1, c, hl, hb, h => by
    have h0 : ¬ x = c := hb 0 (by omega)
    have ih := idx_at (s := r) (n := n) (c := c) (by simpa using hl) (fun i hi => by have := hb (i + 1) (by omega); rwa [List.getD_cons_succ] at this) (by rwa [List.getD_cons_succ] at h)
    rw [Lib.indexByte]
    simp only [beq_iff_eq]
    rw [if_neg h0, ih, if_neg (by omega)]
    simp
theorem idx_none : ∀ {s : List UInt8} {c : UInt8}, (∀ i, i < s.length → ¬ s.getD i 0 = c) → Lib.indexByte s c = -1
  | [], _, _ => rfl
  | x :: r, c, hb => by
    have h0 : ¬ x = c := hb 0 (by simp)
    have ih := idx_none (s := r) (c := c) (fun i hi => by have := hb (i + 1) (by simpa using hi); rwa [List.getD_cons_succ] at this)
    rw [Lib.indexByte]
    simp only [beq_iff_eq]
    rw [if_neg h0, ih, if_pos rfl]
theorem line_in {s : List UInt8} {n : Nat} (h : n < s.length) (hb : ∀ i, i < n → ¬ s.getD i 0 = 10) (h10 : s.getD n 0 = 10) : lineN s = n + 1 := by
  unfold lineN
  rw [idx_at h hb h10, if_neg (by omega)]
  omega
theorem line_out {s : List UInt8} (hb : ∀ i, i < s.length → ¬ s.getD i 0 = 10) : lineN s = s.length := by
  unfold lineN
  rw [idx_none hb, if_pos (by decide)]
/-! ### opening, for the document -/
structure DOpen (name : Nm) (flags : Int) (p p' : PW) : Prop where
  is : (openV name flags p < 0 ∧ p' = p) ∨ (¬ openV name flags p < 0 ∧ ¬ flags = 577 ∧ p' = openP name flags p) ∨
    (¬ openV name flags p < 0 ∧ flags = 577 ∧ p'.opn = p.opn.set (freeIx p.opn) ⟨5, name, 0⟩ ∧ p'.stdin = p.stdin ∧ p'.trace = p.trace ++ [⟨3, name, []⟩] ∧
      ((∃ b, getP name p.files = some b) ∧ p'.files = putP name [] p.files ∨ getP name p.files = none ∧ Laid (name, []) p.files p'.files))
theorem Side.openD {r d d' : PW} {name : Nm} {flags : Int} (h : Side r d) (ho : DOpen name flags d d') : Side (openP name flags r) d' := by
  have hv := h.openV name flags
  rcases ho.is with ⟨h1, rfl⟩ | ⟨h1, h2, rfl⟩ | ⟨h1, h2, h3, h4, h5, h6⟩
  · unfold openP
    rw [if_pos (by rw [← hv]; exact h1)]
    exact h
  · unfold openP
    rw [hv] at h1 ⊢
    rw [if_neg h1, if_neg h1, if_neg h2, if_neg h2]
    exact ⟨h.stdin, by rw [h.opn], h.trace, h.files, h.srt⟩
  · unfold openP
    rw [hv] at h1
    rw [if_neg h1, if_pos h2]
    refine ⟨by rw [h4]; exact h.stdin, by rw [h3, h.opn], by rw [h5, h.trace], ?_, ?_⟩
    · rcases h6 with ⟨⟨b, hb⟩, e⟩ | ⟨hb, hl⟩
      · rw [e]
        exact putP_perm h.nodup h.files
      · exact (putP_perm h.nodup h.files).trans (laid_srt h.srt hb hl).2
    · rcases h6 with ⟨⟨b, hb⟩, e⟩ | ⟨hb, hl⟩
      · rw [e]
        exact putP_srt h.srt hb
      · exact (laid_srt h.srt hb hl).1
/-! ### bounds -/
structure PB (n : Nat) (p : PW) : Prop where
  opn : p.opn.length = 19
  tr : p.trace.length ≤ n
  txt : ∀ e ∈ p.trace, e.text.length ≤ n
  fl : ∀ f ∈ p.files, f.2.length ≤ n
  pl : ∀ d ∈ p.opn, d.place ≤ n
  sin : p.stdin.length ≤ n
  nf : p.files.length ≤ n
theorem nfl_of {n : Nat} {ds : DS} (h : PB n (pl ds)) : ds.files.length ≤ n := by
  have := h.nf
  unfold pl at this
  rwa [List.length_map] at this
end Go.Proofs.Ytmiggpnkicdijaa

namespace Go.Proofs.Ytmiggpnkicdijaa
open Go Go.RowKit
set_option linter.unusedSimpArgs false
set_option linter.unusedVariables false
theorem ext_getD {l m : List UInt8} (hl : l.length = m.length) (h : ∀ k, l.getD k 0 = m.getD k 0) : l = m := by
  apply List.ext_getElem hl
  intro k h1 h2
  have := h k
  rwa [List.getD_eq_getElem?_getD, List.getD_eq_getElem?_getD, List.getElem?_eq_getElem h1, List.getElem?_eq_getElem h2] at this
theorem getD_app (a b : List UInt8) (k : Nat) : (a ++ b).getD k 0 = if k < a.length then a.getD k 0 else b.getD (k - a.length) 0 := by
  rw [List.getD_eq_getElem?_getD, List.getD_eq_getElem?_getD, List.getD_eq_getElem?_getD]
  split
  · rename_i h
    rw [List.getElem?_append_left h]
  · rename_i h
    rw [List.getElem?_append_right (by omega)]
theorem getD_rep (n k : Nat) : (List.replicate n (0 : UInt8)).getD k 0 = 0 := by
  rw [List.getD_eq_getElem?_getD, List.getElem?_replicate]
  split <;> rfl
theorem getD_far {l : List UInt8} {k : Nat} (h : l.length ≤ k) : l.getD k 0 = 0 := by
  rw [List.getD_eq_getElem?_getD, List.getElem?_eq_none h]
  rfl
theorem padTo_get (l : List UInt8) (n k : Nat) : (padTo l n).getD k 0 = l.getD k 0 := by
  unfold padTo
  rw [getD_app]
  split
  · rfl
  · rw [getD_rep, getD_far (by omega)]
theorem getD_take (l : List UInt8) (n k : Nat) : (l.take n).getD k 0 = if k < n then l.getD k 0 else 0 := by
  rw [List.getD_eq_getElem?_getD, List.getD_eq_getElem?_getD, List.getElem?_take]
  split <;> rfl
theorem getD_drop (l : List UInt8) (n k : Nat) : (l.drop n).getD k 0 = l.getD (n + k) 0 := by
  rw [List.getD_eq_getElem?_getD, List.getD_eq_getElem?_getD, List.getElem?_drop]
theorem writeAt_get (l : List UInt8) (p : Nat) (s : List UInt8) (k : Nat) : (writeAt l p s).getD k 0 = if k < p then l.getD k 0 else if k < p + s.length then s.getD (k - p) 0 else l.getD k 0 := by
  have hl := padTo_len l (p + s.length)
  have ht : ((padTo l (p + s.length)).take p).length = p := by rw [List.length_take]; omega
  unfold writeAt
  rw [getD_app, List.length_append, ht]
  by_cases h1 : k < p
  · rw [if_pos (by omega), if_pos h1, getD_app, ht, if_pos h1, getD_take, if_pos h1, padTo_get]
  · rw [if_neg h1]
    by_cases h2 : k < p + s.length
    · rw [if_pos h2, if_pos h2, getD_app, ht, if_neg h1]
    · rw [if_neg h2, if_neg h2, getD_drop, padTo_get, show p + s.length + (k - (p + s.length)) = k by omega]
def wr (l : List UInt8) (p : Nat) (s : List UInt8) : List UInt8 := if s = [] then l else writeAt l p s
theorem wr_get (l : List UInt8) (p : Nat) (s : List UInt8) (k : Nat) : (wr l p s).getD k 0 = if k < p then l.getD k 0 else if k < p + s.length then s.getD (k - p) 0 else l.getD k 0 := by
  unfold wr
  split
  · rename_i h
    subst h
    rw [List.length_nil]
    by_cases h1 : k < p
    · rw [if_pos h1]
    · rw [if_neg h1, if_neg (by omega)]
  · exact writeAt_get l p s k
theorem wr_len (l : List UInt8) (p : Nat) (s : List UInt8) : (wr l p s).length = if s = [] then l.length else max l.length (p + s.length) := by
  unfold wr
  split
  · rfl
  · exact writeAt_len l p s
theorem getD_set' (l : List UInt8) (i k : Nat) (c : UInt8) : (l.set i c).getD k 0 = if i = k ∧ k < l.length then c else l.getD k 0 := by
  rw [List.getD_eq_getElem?_getD, List.getD_eq_getElem?_getD, List.getElem?_set]
  by_cases h : i = k
  · subst h
    rw [if_pos rfl]
    by_cases h2 : i < l.length
    · rw [if_pos h2, if_pos ⟨rfl, h2⟩]; rfl
    · rw [if_neg h2, if_neg (fun q => h2 q.2), List.getElem?_eq_none (by omega)]
  · rw [if_neg h, if_neg (fun q => h q.1)]
theorem wr_step (l : List UInt8) (p : Nat) (t : List UInt8) (c : UInt8) : (padTo (wr l p t) (p + t.length + 1)).set (p + t.length) c = wr l p (t ++ [c]) := by
  have hpl := padTo_len (wr l p t) (p + t.length + 1)
  have hwl := wr_len l p t
  have hw2 := wr_len l p (t ++ [c])
  rw [if_neg (by simp), List.length_append] at hw2
  have hl1 : ([c] : List UInt8).length = 1 := rfl
  apply ext_getD
  · rw [List.length_set, hpl, hw2]
    rw [hwl]
    split
    · rename_i h
      subst h
      simp only [List.length_nil]
      omega
    · omega
  · intro k
    rw [getD_set', padTo_get, wr_get, wr_get, List.length_append, hl1, hpl]
    by_cases h1 : p + t.length = k
    · rw [if_pos ⟨h1, by omega⟩, if_neg (by omega), if_pos (by omega), getD_app, if_neg (by omega), show k - p - t.length = 0 by omega]
      rfl
    · rw [if_neg (fun q => h1 q.1)]
      by_cases h2 : k < p
      · rw [if_pos h2, if_pos h2]
      · rw [if_neg h2, if_neg h2]
        by_cases h3 : k < p + t.length
        · rw [if_pos h3, if_pos (by omega), getD_app, if_pos (by omega)]
        · rw [if_neg h3, if_neg (by omega)]
theorem wr_nil (l : List UInt8) (p : Nat) : wr l p [] = l := if_pos rfl
theorem wr_cons {l : List UInt8} {p : Nat} {s : List UInt8} (h : ¬ s = []) : wr l p s = writeAt l p s := if_neg h
end Go.Proofs.Ytmiggpnkicdijaa
