/-
  ONE DEFERRED CALL: a body that defers, and the contract of what is deferred. Generic: no program is named here.
-/
import Derived.Test.YtjndpakhmgapjaaDoorAw18
import Derived.Defers
namespace Go.Proofs.YtjndpakhmgapjaaDoor
open Go Go.RowKit
set_option linter.unusedVariables false

theorem AWP.three {cx : Cx} {ops : Array Oper} {K : Env → St → Prop} {env : Env} {S : St} {o o' o'' : Oper} {fuel i j k : Nat} {listed : Array Bool} (hr : Region.ready .any ops listed = [i, j, k]) (hi : ops[i]? = some o) (hj : ops[j]? = some o') (hk : ops[k]? = some o'')
    (h : AWL cx ops [o] (AWP cx ops fuel (listed.setIfInBounds i true) K) env S) (h' : AWL cx ops [o'] (AWP cx ops fuel (listed.setIfInBounds j true) K) env S) (h'' : AWL cx ops [o''] (AWP cx ops fuel (listed.setIfInBounds k true) K) env S) : AWP cx ops (fuel + 1) listed K env S := by
  intro a w hs
  refine wpAny_all hr (by simp) fun q hq => ?_
  simp only [List.mem_cons, List.not_mem_nil, or_false] at hq
  rcases hq with rfl | rfl | rfl
  · exact wpOp_of_AWL hi h (fun _ _ a w h1 h2 => h1 a w h2) hs
  · exact wpOp_of_AWL hj h' (fun _ _ a w h1 h2 => h1 a w h2) hs
  · exact wpOp_of_AWL hk h'' (fun _ _ a w h1 h2 => h1 a w h2) hs
/-- What a deferred call does. -/
def ACallsD (P : Program) (f : FuncId) (ts : List T) (S0 : St) (R : T → St → Prop) : Prop :=
  ∀ (X : List Nat) (w : World) (args : List Value), (∀ b ∈ X, b < w.heap.size ∧ b ∉ M S0) → (M S0).Nodup → (∀ e ∈ S0, e.holds w (X ++ M S0)) → args.length = ts.length → (∀ (j : Nat) (t : T) (u : Value), ts[j]? = some t → args[j]? = some u → VRep w (X ++ M S0) t u) →
    CallsD P f args.toArray .returning w fun e u' w' => u' = .returning ∧ ∃ v t S', e = .returned v ∧ Keeps (M S0) w w' ∧ (M S').Nodup ∧ (∀ b ∈ M S', b ∈ M S0 ∨ w.heap.size ≤ b) ∧ (∀ e ∈ S', e.holds w' (X ++ M S')) ∧ VRep w' (X ++ M S') t v ∧ R t S'
theorem ACallsD.intro {P : Program} {f : FuncId} {fn : Func} {c : Code} {ts : List T} {S0 : St} {R : T → St → Prop} {N : Nat} {rs : List ResultVar} (hf : P.funcs[f]? = some fn) (hb : fn.body = some c) (hN : fn.ntmps = N) (hlen : ts.length ≤ N) (hrs : fn.results.toList = rs)
    (h : ∀ (X : List Nat) (w0 : World), AW ⟨P, X, M S0, w0, N, []⟩ c (retQ P rs R) (initEnv 0 ts) S0) : ACallsD P f ts S0 R := by
  intro X w args h1 h2 h3 h4 h5
  refine callsD_of_wp hf hb ?_
  have hs : Sim ⟨P, X, M S0, w, N, []⟩ (initEnv 0 ts) S0 { tmps := args.toArray ++ Array.replicate (fn.ntmps - args.toArray.size) undef, defers := [] } w := by
    refine ⟨Keeps.refl _ _, h2, fun b hb => .inl hb, h1, h3, ?_, rfl, fun k c t hk => ?_⟩
    · simp [hN]; omega
    · obtain ⟨rfl, -, e⟩ := get_initEnv ts 0 k c t hk
      refine ⟨fun _ => ?_, fun h => by cases h⟩
      rw [Nat.sub_zero] at e
      have hkl : k < args.length := h4 ▸ (List.getElem?_eq_some_iff.1 e).1
      have : (args.toArray ++ Array.replicate (fn.ntmps - args.toArray.size) undef).getD k undef = args[k] := by
        rw [Array.getD_eq_getD_getElem?, Array.getElem?_append_left (by simpa using hkl)]
        simp [hkl]
      rw [this]
      exact h5 k t _ e (List.getElem?_eq_getElem hkl)
  refine Code.wp_mono (fun e a w' hq => ?_) (h X w _ _ hs)
  obtain ⟨env', S', hs', he, l, hl, hR⟩ := hq
  subst hrs
  obtain ⟨us, e1, e2, e3⟩ := Res.vals (cx := ⟨P, X, M S0, w, N, []⟩) hs' hl
  have hrun := results_list e3
  have hv : VRep w' (X ++ M S') (tupOf l) (tupV us) := by
    match l, us, e1, e2 with
    | [], [], _, e2 => exact .tup rfl e2
    | [t], [u], _, e2 => exact e2 0 t u rfl rfl
    | t :: t' :: r, u :: u' :: r', e1, e2 => exact .tup (by simpa using e1) e2
  have hR' : ∃ v t S'', (Ending.returned (tupV us)) = .returned v ∧ Keeps (M S0) w w' ∧ (M S'').Nodup ∧ (∀ b ∈ M S'', b ∈ M S0 ∨ w.heap.size ≤ b) ∧ (∀ e ∈ S'', e.holds w' (X ++ M S'')) ∧ VRep w' (X ++ M S'') t v ∧ R t S'' :=
    ⟨_, _, S', rfl, hs'.keeps, hs'.nd, hs'.fresh, hs'.ents, hv, hR⟩
  rcases he with rfl | rfl
  · exact ⟨hs'.defers, _, hrun, hR'⟩
  · exact ⟨hs'.defers, _, hrun, hR'⟩

def Cx.defer (cx : Cx) (D : List Deferred) : Cx := { cx with D := D }
/-- Code that may defer: at the end it is known what was. -/
def AWd (cx : Cx) (c : Code) (Q : List Deferred → Exit → Env → St → Prop) (env : Env) (S : St) : Prop :=
  ∀ a w, Sim cx env S a w → c.wp cx.P (fun e a w => ∃ D env S, Sim (cx.defer D) env S a w ∧ Q D e env S) a w
section
variable {cx : Cx} {Q : List Deferred → Exit → Env → St → Prop} {env : Env} {S : St}
theorem Sim.same {a : Act} {w : World} (h : Sim cx env S a w) : Sim (cx.defer cx.D) env S a w := h
theorem AWd.of {c : Code} (h : AW cx c (Q cx.D) env S) : AWd cx c Q env S := fun a w hs =>
  Code.wp_mono (fun e a w ⟨env, S, h1, h2⟩ => ⟨cx.D, env, S, h1.same, h2⟩) (h a w hs)
def thenD (cx : Cx) (y : Code) (Q : List Deferred → Exit → Env → St → Prop) : Exit → Env → St → Prop
  | .normal => AWd cx y Q
  | e => Q cx.D e
theorem AWd.seq {x y : Code} (h : AW cx x (thenD cx y Q) env S) : AWd cx (.seq x y) Q env S := by
  intro a w hs
  refine wp_seq (Code.wp_mono (fun e a w hq => ?_) (h a w hs))
  obtain ⟨env', S', h1, h2⟩ := hq
  cases e <;> first | exact h2 a w h1 | exact ⟨cx.D, env', S', h1.same, h2⟩
theorem AWd.rseq {id : Nat} {l : List Oper} {y : Code} (h : AWL cx l.toArray l (AWd cx y Q) env S) : AWd cx (.seq (.region id l.toArray false) y) Q env S := AWd.seq (AW.region h)
theorem Sim.deferred {a : Act} {w : World} (hs : Sim cx env S a w) (dr : Deferred) : Sim (cx.defer (dr :: cx.D)) env S { a with defers := dr :: a.defers } w :=
  ⟨hs.keeps, hs.nd, hs.fresh, hs.far, hs.ents, hs.size, by show dr :: a.defers = dr :: cx.D; rw [hs.defers], hs.slots⟩
/-- Two moves, and the deferred call of a function of these. -/
theorem AWd.deferTwo {id d1 d2 f : Nat} {o1 o2 o3 : Oper} {x1 x2 xf y1 y2 : Operand} {v1 v2 : Value} {ats : Array TypeId} {y : Code} (g1 : o1.guard = none) (g2 : o2.guard = none) (g3 : o3.guard = none) (e1 : o1.dst = some d1) (e2 : o2.dst = some d2) (e3 : o3.dst = none)
    (hN1 : d1 < cx.N) (hN2 : d2 < cx.N) (p1 : o1.op = .move x1) (p2 : o2.op = .move x2) (p3 : o3.op = .defer { callee := .value xf, args := #[y1, y2], argTypes := ats })
    (h1 : Ev env true x1 (.v v1)) (h2 : Ev ((d1, true, .v v1) :: env) true x2 (.v v2)) (hf : Ev ((d2, true, .v v2) :: (d1, true, .v v1) :: env) true xf (.v (.func (.func f) #[] #[])))
    (hy1 : Ev ((d2, true, .v v2) :: (d1, true, .v v1) :: env) true y1 (.v v1)) (hy2 : Ev ((d2, true, .v v2) :: (d1, true, .v v1) :: env) true y2 (.v v2))
    (h : AWd (cx.defer (⟨.fn (.func f) #[], #[v1, v2]⟩ :: cx.D)) y Q ((d2, true, .v v2) :: (d1, true, .v v1) :: env) S) : AWd cx (.seq (.region id [o1, o2, o3].toArray false) y) Q env S := by
  intro a w hs
  refine wp_seq ?_
  refine wp_region_lit ?_
  obtain ⟨u1, r1, s1⟩ := (Yv.move (cx := cx) (S := S) (env := env) (g := true) p1 h1) a w hs rfl
  obtain rfl := r1.v_inv
  have hs1 := hs.put (c := true) (t := .v u1) (u := u1) hN1 (fun _ => .v _) (by simp)
  obtain ⟨u2, r2, s2⟩ := (Yv.move (cx := cx) (S := S) (g := true) p2 h2) _ w hs1 rfl
  obtain rfl := r2.v_inv
  have hs2 := hs1.put (c := true) (t := .v u2) (u := u2) hN2 (fun _ => .v _) (by simp)
  unfold wpList
  rw [if_pos (wanted_none g1)]
  refine .inl ?_
  unfold Oper.wp
  rw [s1 w (Keeps.refl _ _), Oper.upon_value, e1]
  unfold wpList
  rw [if_pos (wanted_none g2)]
  refine .inl ?_
  unfold Oper.wp
  rw [s2 w (Keeps.refl _ _), Oper.upon_value, e2]
  unfold wpList
  rw [if_pos (wanted_none g3)]
  refine .inl ?_
  unfold Oper.wp
  have hrun : ∀ w : World, (execOp ((a.put (some d1) u1).put (some d2) u2).eval o3).run cx.P w = .ok (.defer ⟨.fn (.func f) #[], #[u1, u2]⟩) w := fun w => by
    simp only [execOp, p3, resolve, Deferred.ofValue, hf.val hs2 rfl, Sem.run_bind, Sem.run_pure, Result.andThen_ok]
    simp [hy1.val hs2 rfl, hy2.val hs2 rfl]
  rw [hrun, Oper.upon_defer, e3]
  refine wpList_nil ?_
  exact h _ w (hs2.deferred _)
end
/-- A function that defers at most one call of f with plain values, which then leaves the entries so. -/
theorem ACalls.introD {P : Program} {k : FuncId} {fn : Func} {c : Code} {ts : List T} {S0 : St} {R : T → St → Prop} {N : Nat} {rs : List ResultVar} (hf : P.funcs[k]? = some fn) (hb : fn.body = some c) (hN : fn.ntmps = N) (hlen : ts.length ≤ N) (hrs : fn.results.toList = rs)
    (h : ∀ (X : List Nat) (w0 : World), AWd ⟨P, X, M S0, w0, N, []⟩ c (fun D e env S => (e = .ret ∨ e = .normal) ∧ ((D = [] ∧ ∃ l, Res P env S rs l ∧ R (tupOf l) S) ∨
      ∃ (f : FuncId) (v1 v2 : Value) (vs : List Value) (S1 : St) (R' : T → St → Prop), D = [⟨.fn (.func f) #[], #[v1, v2]⟩] ∧ calleeB P f = true ∧ Res P env S rs (vs.map T.v) ∧ (∀ r ∈ rs, ∃ i, r = .tmp i) ∧ S = S1 ∧ ACallsD P f [.v v1, .v v2] S1 R' ∧ ∀ t S', R' t S' → R (tupOf (vs.map T.v)) S')) (initEnv 0 ts) S0) : ACalls P k ts S0 R := by
  intro X w args h1 h2 h3 h4 h5
  refine calls_of_wp_defers hf hb ?_
  have hs : Sim ⟨P, X, M S0, w, N, []⟩ (initEnv 0 ts) S0 { tmps := args.toArray ++ Array.replicate (fn.ntmps - args.toArray.size) undef, defers := [] } w := by
    refine ⟨Keeps.refl _ _, h2, fun b hb => .inl hb, h1, h3, ?_, rfl, fun k c t hk => ?_⟩
    · simp [hN]; omega
    · obtain ⟨rfl, -, e⟩ := get_initEnv ts 0 k c t hk
      refine ⟨fun _ => ?_, fun h => by cases h⟩
      rw [Nat.sub_zero] at e
      have hkl : k < args.length := h4 ▸ (List.getElem?_eq_some_iff.1 e).1
      have : (args.toArray ++ Array.replicate (fn.ntmps - args.toArray.size) undef).getD k undef = args[k] := by
        rw [Array.getD_eq_getD_getElem?, Array.getElem?_append_left (by simpa using hkl)]
        simp [hkl]
      rw [this]
      exact h5 k t _ e (List.getElem?_eq_getElem hkl)
  refine Code.wp_mono (fun e a w' hq => ?_) (h X w _ _ hs)
  obtain ⟨D, env', S', hs', he, hq⟩ := hq
  subst hrs
  have main : Leaves P fn a.tmps (fun e w' => ∃ v t S'', e = .returned v ∧ Keeps (M S0) w w' ∧ (M S'').Nodup ∧ (∀ b ∈ M S'', b ∈ M S0 ∨ w.heap.size ≤ b) ∧ (∀ e ∈ S'', e.holds w' (X ++ M S'')) ∧ VRep w' (X ++ M S'') t v ∧ R t S'') a.defers .returning w' := by
    have hdef : a.defers = D := hs'.defers
    rw [hdef]
    rcases hq with ⟨rfl, l, hl, hR⟩ | ⟨f, v1, v2, vs, S1, R', rfl, hc, hl, htmp, rfl, hD, hR⟩
    · obtain ⟨us, e1, e2, e3⟩ := Res.vals (cx := (⟨P, X, M S0, w, N, []⟩ : Cx).defer []) hs' hl
      have hrun := results_list e3
      have hv : VRep w' (X ++ M S') (tupOf l) (tupV us) := by
        match l, us, e1, e2 with
        | [], [], _, e2 => exact .tup rfl e2
        | [t], [u], _, e2 => exact e2 0 t u rfl rfl
        | t :: t' :: r, u :: u' :: r', e1, e2 => exact .tup (by simpa using e1) e2
      exact ⟨_, hrun, _, _, S', rfl, hs'.keeps, hs'.nd, hs'.fresh, hs'.ents, hv, hR⟩
    · obtain ⟨us, e1, e2, e3⟩ := Res.vals (cx := (⟨P, X, M S0, w, N, []⟩ : Cx).defer _) hs' hl
      have hus : us = vs := by
        apply List.ext_getElem?
        intro j
        cases hu : us[j]? with
        | none =>
          have := e1
          rw [List.length_map] at this
          rw [List.getElem?_eq_none_iff] at hu
          rw [List.getElem?_eq_none]; omega
        | some u =>
          have hj : j < vs.length := by
            have := (List.getElem?_eq_some_iff.1 hu).1
            rw [← e1, List.length_map] at this
            exact this
          have := e2 j (.v vs[j]) u (by simp [hj]) hu
          rw [this.v_inv, List.getElem?_eq_getElem hj]
      subst hus
      refine ⟨by simp, .func f, #[], f, #[v1, v2], rfl, ?_, ?_⟩
      · have := run_callFunc' hc #[v1, v2] w'
        simpa [invoke] using this
      · have hcall := hD X w' [v1, v2] (fun b hb => ⟨Nat.lt_of_lt_of_le (hs'.far b hb).1 hs'.keeps.size, fun hm => hs'.notX hm hb⟩) hs'.nd hs'.ents rfl (fun j t u e1 e2 => by
          rcases j with _ | _ | j
          · simp only [List.getElem?_cons_zero, Option.some.injEq] at e1 e2
            subst e1; subst e2; exact .v _
          · simp only [List.getElem?_cons_succ, List.getElem?_cons_zero, Option.some.injEq] at e1 e2
            subst e1; subst e2; exact .v _
          · simp at e1)
        intro c cs hcm
        obtain ⟨e', u', w'', fr, ⟨hu', v, t, S'', rfl, hk, hnd, hfr, hent, hvr, hR'⟩, hcm2, hkind, hgo⟩ := hcall c cs hcm
        refine ⟨_, u', w'', fr, ?_, hcm2, hkind, hgo⟩
        subst hu'
        refine ⟨_, results_list (us := us) ?_, _, _, S'', rfl, hs'.keeps.trans hk (fun b hb => hs'.fresh b hb), hnd, fun b hb => ?_, hent, ?_, hR _ _ hR'⟩
        · have hall : ∀ (rl : List ResultVar) (vl : List Value), (∀ r ∈ rl, ∃ i, r = .tmp i) → ∀ w1 w2 : World, (rl.mapM (resV a.tmps)).run P w1 = .ok vl w1 → (rl.mapM (resV a.tmps)).run P w2 = .ok vl w2 := by
            intro rl
            induction rl with
            | nil => intro vl _ w1 w2 hh; simp [Sem.run_pure] at hh ⊢; exact hh
            | cons r rl ih =>
              intro vl hrl w1 w2 hh
              obtain ⟨i, rfl⟩ := hrl r (List.mem_cons_self ..)
              rw [List.mapM_cons] at hh ⊢
              have e0 : ∀ w : World, (resV a.tmps (.tmp i)).run P w = .ok (a.tmps.getD i undef) w := fun w => by simp [resV, Sem.run_pure]
              simp only [Sem.run_bind, e0, Result.andThen_ok, Sem.run_pure] at hh ⊢
              cases hm : (rl.mapM (resV a.tmps)).run P w1 with
              | ok vl' w1' =>
                rw [hm] at hh
                simp only [Result.andThen_ok, Sem.run_pure, Result.ok.injEq] at hh
                obtain ⟨hh1, hh2⟩ := hh
                subst hh2
                rw [ih vl' (fun r hr => hrl r (List.mem_cons_of_mem _ hr)) _ w2 hm]
                simp only [Result.andThen_ok, Sem.run_pure, hh1]
              | halt z w1' => rw [hm] at hh; cases hh
          exact hall _ _ htmp _ _ e3
        · rcases hfr b hb with hb | hb
          · exact hs'.fresh b hb
          · exact .inr (Nat.le_trans hs'.keeps.size hb)
        · match us with
          | [] => exact .tup rfl (fun j t u h => by simp [tupOf] at h)
          | [u] => exact .v _
          | u :: u' :: r =>
            refine .tup (by simp) (fun j t x h1 h2 => ?_)
            have h1 : ((u :: u' :: r).map T.v)[j]? = some t := h1
            rw [List.getElem?_map, h2] at h1
            simp only [Option.map_some, Option.some.injEq] at h1
            subst h1; exact .v _
  rcases he with rfl | rfl
  · exact main
  · exact main
end Go.Proofs.YtjndpakhmgapjaaDoor
