/-
  REGIONS THAT DRAW THEIR ORDER, HOLD CALLS, AND LOAD FROM A BOX THAT NOBODY WRITES MEANWHILE: the loads are taken first. Generic: no program is named here.
-/
import Derived.Test.YtjndpakhmgapjaaDoorAw20
import Derived.OrdersHeld
import Derived.Scope
namespace Go.Proofs.YtjndpakhmgapjaaDoor
open Go Go.RowKit
set_option linter.unusedVariables false
set_option linter.unusedSectionVars false

section
variable {cx : Cx} {env : Env} {S : St} {o : Oper} {g : Bool} {x y z : Operand} {ops : Array Oper} {l : List Oper} {K : Env → St → Prop} {Q : Exit → Env → St → Prop} {d : Nat} {Hd : World → Prop}

/-- The box holds these values. -/
def HeldBox (b : Nat) (us : List Value) (w : World) : Prop := ∃ ty, w.heap[b]? = some (.cells us.toArray ty (0, 0))
def Tells (cx : Cx) (Hd : World → Prop) (env : Env) (S : St) : Prop := ∀ a w, Sim cx env S a w → Hd w
/-- What is left of a region that draws its order, where Hd holds behind each operation. -/
def AWH (cx : Cx) (ops : Array Oper) (Hd : World → Prop) (fuel : Nat) (listed : Array Bool) (K : Env → St → Prop) (env : Env) (S : St) : Prop :=
  ∀ a w, Sim cx env S a w → Hd w → wpAnyH cx.P .any ops (liftN cx K) Hd fuel listed a w

theorem tells_box {b : Nat} {ty : TypeId} {us : List Value} {k : Nat} (hi : S[k]? = some (.box b ty (us.map T.v))) : Tells cx (HeldBox b us) env S := by
  intro a w hs
  obtain ⟨vs, hh, hV⟩ := hs.box hi
  have e : vs = us := by
    have e1 := hV.len
    apply List.ext_getElem?
    intro j
    cases hj : us[j]? with
    | none =>
      rw [List.getElem?_eq_none_iff] at hj
      rw [List.getElem?_eq_none]
      rw [List.length_map] at e1; omega
    | some u =>
      obtain ⟨u', h1, h2, _⟩ := hV.get (i := j) (t := .v u) (by rw [List.getElem?_map, hj]; rfl)
      rw [h1, h2.v_inv]
  exact ⟨ty, by rw [hh, e]⟩

theorem AW.rseqH (Hd : World → Prop) {id : Nat} {l : List Oper} {y : Code} (hm : cx.P.follows .mixedOrders = true) (ht : Tells cx Hd env S) (h : AWH cx l.toArray Hd l.length (Array.replicate l.length false) (AW cx y Q) env S) : AW cx (.seq (.region id l.toArray true) y) Q env S := by
  refine AW.seq fun a w hs => ?_
  have h1 := wp_region_held (id := id) hm (h a _ hs.drew (ht _ _ hs.drew))
  refine Code.wp_mono (fun e a w hq => ?_) h1
  obtain ⟨rfl, env', S', h1, h2⟩ := hq
  exact ⟨env', S', h1, h2⟩
theorem AW.regionH (Hd : World → Prop) {id : Nat} {l : List Oper} (hm : cx.P.follows .mixedOrders = true) (ht : Tells cx Hd env S) (h : AWH cx l.toArray Hd l.length (Array.replicate l.length false) (Q .normal) env S) : AW cx (.region id l.toArray true) Q env S := by
  intro a w hs
  have h1 := wp_region_held (id := id) hm (h a _ hs.drew (ht _ _ hs.drew))
  refine Code.wp_mono (fun e a w hq => ?_) h1
  obtain ⟨rfl, env', S', h1, h2⟩ := hq
  exact ⟨env', S', h1, h2⟩
theorem AWH.done {fuel : Nat} {listed : Array Bool} (hr : Region.ready .any ops listed = []) (h : K env S) : AWH cx ops Hd fuel listed K env S :=
  fun a w hs _ => wpAnyH_done hr ⟨rfl, env, S, hs, h⟩ fuel
theorem AWH.one {fuel i : Nat} {listed : Array Bool} (hr : Region.ready .any ops listed = [i]) (hi : ops[i]? = some o) (h : AWL cx ops [o] (fun env S => Tells cx Hd env S ∧ AWH cx ops Hd fuel (listed.setIfInBounds i true) K env S) env S) : AWH cx ops Hd (fuel + 1) listed K env S := by
  intro a w hs hd
  refine wpAnyH_all hr (by simp) fun j hj => ?_
  rw [List.mem_singleton] at hj
  subst hj
  exact wpOp_of_AWL hi h (fun _ _ a w h1 h2 => ⟨h1.1 a w h2, h1.2 a w h2 (h1.1 a w h2)⟩) hs
theorem AWH.two {fuel i j : Nat} {o' : Oper} {listed : Array Bool} (hr : Region.ready .any ops listed = [i, j]) (hi : ops[i]? = some o) (hj : ops[j]? = some o') (h : AWL cx ops [o] (fun env S => Tells cx Hd env S ∧ AWH cx ops Hd fuel (listed.setIfInBounds i true) K env S) env S) (h' : AWL cx ops [o'] (fun env S => Tells cx Hd env S ∧ AWH cx ops Hd fuel (listed.setIfInBounds j true) K env S) env S) : AWH cx ops Hd (fuel + 1) listed K env S := by
  intro a w hs hd
  refine wpAnyH_all hr (by simp) fun q hq => ?_
  simp only [List.mem_cons, List.not_mem_nil, or_false] at hq
  rcases hq with rfl | rfl
  · exact wpOp_of_AWL hi h (fun _ _ a w h1 h2 => ⟨h1.1 a w h2, h1.2 a w h2 (h1.1 a w h2)⟩) hs
  · exact wpOp_of_AWL hj h' (fun _ _ a w h1 h2 => ⟨h1.1 a w h2, h1.2 a w h2 (h1.1 a w h2)⟩) hs
theorem AWH.three {fuel i j k : Nat} {o' o'' : Oper} {listed : Array Bool} (hr : Region.ready .any ops listed = [i, j, k]) (hi : ops[i]? = some o) (hj : ops[j]? = some o') (hk : ops[k]? = some o'') (h : AWL cx ops [o] (fun env S => Tells cx Hd env S ∧ AWH cx ops Hd fuel (listed.setIfInBounds i true) K env S) env S) (h' : AWL cx ops [o'] (fun env S => Tells cx Hd env S ∧ AWH cx ops Hd fuel (listed.setIfInBounds j true) K env S) env S) (h'' : AWL cx ops [o''] (fun env S => Tells cx Hd env S ∧ AWH cx ops Hd fuel (listed.setIfInBounds k true) K env S) env S) : AWH cx ops Hd (fuel + 1) listed K env S := by
  intro a w hs hd
  refine wpAnyH_all hr (by simp) fun q hq => ?_
  simp only [List.mem_cons, List.not_mem_nil, or_false] at hq
  rcases hq with rfl | rfl | rfl
  · exact wpOp_of_AWL hi h (fun _ _ a w h1 h2 => ⟨h1.1 a w h2, h1.2 a w h2 (h1.1 a w h2)⟩) hs
  · exact wpOp_of_AWL hj h' (fun _ _ a w h1 h2 => ⟨h1.1 a w h2, h1.2 a w h2 (h1.1 a w h2)⟩) hs
  · exact wpOp_of_AWL hk h'' (fun _ _ a w h1 h2 => ⟨h1.1 a w h2, h1.2 a w h2 (h1.1 a w h2)⟩) hs
/-- An operation that yields its value in whatever world meets Hd may be taken first. -/
theorem AWH.take {fuel i : Nat} {listed : Array Bool} {t : T} (hi : ops[i]? = some o) (hs : Region.noSelect ops = true) (hf : Region.free .any ops listed i = true) (hr : (Region.ready .any ops listed).contains i = true) (hg : o.guard = none) (hd : o.dst = some d) (hN : d < cx.N)
    (hy : ∀ a w, Sim cx env S a w → ∃ u, VRep w (cx.X ++ M S) t u ∧ ∀ w', Hd w' → (execOp a.eval o).run cx.P w' = .ok (.value u) w') (h : AWH cx ops Hd fuel (listed.setIfInBounds i true) K ((d, true, t) :: env) S) : AWH cx ops Hd (fuel + 1) listed K env S := by
  intro a w hsim hdw
  obtain ⟨u, h1, h2⟩ := hy a w hsim
  refine wpAnyH_take (v := u) hi hs hf hr (fun c a w hq => absurd hq.1 (by simp)) (.inl ⟨wanted_none hg, h2⟩) hdw ?_
  rw [hd]
  exact h _ _ (hsim.put hN (fun _ => h1) (by simp)) hdw
theorem heldAll {t : T} (h : ∀ a w, Sim cx env S a w → ∃ u, VRep w (cx.X ++ M S) t u ∧ ∀ w', (execOp a.eval o).run cx.P w' = .ok (.value u) w') : ∀ a w, Sim cx env S a w → ∃ u, VRep w (cx.X ++ M S) t u ∧ ∀ w', Hd w' → (execOp a.eval o).run cx.P w' = .ok (.value u) w' :=
  fun a w hs => (h a w hs).imp fun u q => ⟨q.1, fun w' _ => q.2 w'⟩
theorem heldLoad {b p n : Nat} {t : TypeId} {us : List Value} {u : Value} (ho : o.op = .load t x) (h : aggSize cx.P t = some (false, n)) (hx : Ev env true x (.v (.pointer (some ⟨b, p, none⟩)))) (hu : us[p]? = some u) : ∀ a w, Sim cx env S a w → ∃ u', VRep w (cx.X ++ M S) (.v u) u' ∧ ∀ w', HeldBox b us w' → (execOp a.eval o).run cx.P w' = .ok (.value u') w' := by
  intro a w hs
  have hv := hx.val hs rfl
  refine ⟨u, (.v _), fun w' hd => exec_load ho w' ?_⟩
  obtain ⟨ty, hh⟩ := hd
  rw [hv]
  exact run_loadAt_one h w' (by rw [cell_of_heap hh, hu])
theorem freeLen {ty e : TypeId} {k n : Nat} {l : List T} (ho : o.op = .call { callee := .builtin .len, args := #[x], argTypes := #[ty] }) (ht : sliceOf cx.P ty = some e) (hk : 0 < k) (hx : Ev env true x (.sl k l)) (hn : l.length = n * k) : ∀ a w, Sim cx env S a w → ∃ u, VRep w (cx.X ++ M S) (.v (.int .i64 (n : Int))) u ∧ ∀ w', (execOp a.eval o).run cx.P w' = .ok (.value u) w' :=
  fun a w hs => ⟨_, .v _, fun w' => by
    obtain ⟨A, m, c, h1, h2, _⟩ := (hx.rep hs rfl).sl_inv
    have : m = n := Nat.eq_of_mul_eq_mul_right hk (h2.symm.trans hn)
    subst this
    exact run_len_slice' ho (sliceOf_spec ht) h1 w'⟩
/-- A scope that no goto leaves. -/
def scopeQ (Q : Exit → Env → St → Prop) : Exit → Env → St → Prop
  | .goto _, _, _ => False
  | e, env, S => Q e env S
theorem AW.scope {c : Code} (h : AW cx c (scopeQ Q) env S) : AW cx (.scope c) Q env S := by
  intro a w hs
  refine wp_scope_straight (Code.wp_mono (fun e a w hq => ?_) (h a w hs))
  obtain ⟨env', S', h1, h2⟩ := hq
  cases e <;> first | exact h2 | exact ⟨env', S', h1, h2⟩
end
end Go.Proofs.YtjndpakhmgapjaaDoor
