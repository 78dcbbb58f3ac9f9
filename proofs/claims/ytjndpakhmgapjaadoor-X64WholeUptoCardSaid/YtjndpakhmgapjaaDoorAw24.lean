/-
  CONTRACTS OVER A VARIABLE OF THE PROGRAM'S that nobody writes ('ACallsG'). Generic: no program is named here.
-/
import Derived.Test.YtjndpakhmgapjaaDoorAw23
namespace Go.Proofs.YtjndpakhmgapjaaDoor
open Go Go.RowKit
set_option linter.unusedVariables false
set_option linter.unusedSectionVars false
set_option linter.unusedSimpArgs false
/-- A block and its cells. -/
structure Gv where
  b : Nat
  cs : Array Value
def Gv.is (G : Gv) (w : World) : Prop := ∃ (ty : TypeId) (fr : Nat × Nat), w.heap[G.b]? = some (.cells G.cs ty fr)
theorem Gv.is.lt {G : Gv} {w : World} (h : G.is w) : G.b < w.heap.size := by
  obtain ⟨ty, fr, e⟩ := h
  exact lt_of_heap e
theorem Gv.is.keeps {G : Gv} {L : List Nat} {w w' : World} (h : G.is w) (hk : Keeps L w w') (hm : G.b ∉ L) : G.is w' := by
  have hl := h.lt
  obtain ⟨ty, fr, e⟩ := h
  exact ⟨ty, fr, (hk.block _ hl hm).trans e⟩
/-- WHAT A CALL DOES where the variable stands so. -/
def ACallsG (P : Program) (G : Gv) (f : FuncId) (ts : List T) (S0 : St) (R : T → St → Prop) : Prop :=
  ∀ (X : List Nat) (w : World) (args : List Value), G.is w → G.b ∉ M S0 → (∀ b ∈ X, b < w.heap.size ∧ b ∉ M S0) → (M S0).Nodup → (∀ e ∈ S0, e.holds w (X ++ M S0)) → args.length = ts.length → (∀ (j : Nat) (t : T) (u : Value), ts[j]? = some t → args[j]? = some u → VRep w (X ++ M S0) t u) →
    Calls P f args.toArray w fun e w' => ∃ v t S', e = .returned v ∧ Keeps (M S0) w w' ∧ (M S').Nodup ∧ (∀ b ∈ M S', b ∈ M S0 ∨ w.heap.size ≤ b) ∧ (∀ e ∈ S', e.holds w' (X ++ M S')) ∧ VRep w' (X ++ M S') t v ∧ R t S'
theorem ACallsG.mono {P : Program} {G : Gv} {f : FuncId} {ts : List T} {S0 : St} {R R' : T → St → Prop} (h : ACallsG P G f ts S0 R) (hR : ∀ t S, R t S → R' t S) : ACallsG P G f ts S0 R' :=
  fun X w args g1 g2 h1 h2 h3 h4 h5 => (h X w args g1 g2 h1 h2 h3 h4 h5).mono fun e w' ⟨v, t, S', a, b, c, d, e, f, r⟩ => ⟨v, t, S', a, b, c, d, e, f, hR _ _ r⟩
theorem ACallsG.calls {P : Program} {G : Gv} {f : FuncId} {ts : List T} {R : T → St → Prop} (h : ACallsG P G f ts [] R) {w : World} {args : List Value} (hG : G.is w) (hl : args.length = ts.length) (ha : ∀ (j : Nat) (t : T) (u : Value), ts[j]? = some t → args[j]? = some u → VRep w [] t u) :
    Calls P f args.toArray w fun e w' => ∃ v t S', e = .returned v ∧ Below w.heap.size w w' ∧ VRep w' (M S') t v ∧ R t S' :=
  (h [] w args hG (by simp [M]) (fun _ hb => by cases hb) (by simp [M]) (fun _ he => by cases he) hl (by simpa [M] using ha)).mono fun e w' ⟨v, t, S', a, b, c, d, e', f, r⟩ => ⟨v, t, S', a, b.below, by simpa using f, r⟩
theorem ACallsG.intro {P : Program} {G : Gv} {f : FuncId} {fn : Func} {c : Code} {ts : List T} {S0 : St} {R : T → St → Prop} {N : Nat} {rs : List ResultVar} (hf : P.funcs[f]? = some fn) (hb : fn.body = some c) (hN : fn.ntmps = N) (hlen : ts.length ≤ N) (hrs : fn.results.toList = rs)
    (h : ∀ (X : List Nat) (w0 : World), G.is w0 ∧ G.b ∉ M S0 → AW ⟨P, X, M S0, w0, N, []⟩ c (retQ P rs R) (initEnv 0 ts) S0) : ACallsG P G f ts S0 R := by
  intro X w args g1 g2 h1 h2 h3 h4 h5
  refine calls_of_wp hf hb ?_
  have hs : Sim ⟨P, X, M S0, w, N, []⟩ (initEnv 0 ts) S0 { tmps := args.toArray ++ Array.replicate (fn.ntmps - args.toArray.size) undef, defers := [] } w := by
    refine ⟨Keeps.refl _ _, h2, fun b hb => .inl hb, h1, h3, ?_, rfl, fun k c t hk => ?_⟩
    · simp [hN]; omega
    · obtain ⟨rfl, -, e⟩ := get_initEnv ts 0 k c t hk
      refine ⟨fun _ => ?_, fun h => by cases h⟩
      rw [Nat.sub_zero] at e
      have hkl : k < args.length := h4 ▸ (List.getElem?_eq_some_iff.1 e).1
      have : (args.toArray ++ Array.replicate (fn.ntmps - args.toArray.size) undef).getD k undef = args[k] := by
        rw [Array.getD_eq_getD_getElem?, Array.getElem?_append_left (by simpa using hkl)]
        simp [hkl]
      rw [this]
      exact h5 k t _ e (List.getElem?_eq_getElem hkl)
  refine Code.wp_mono (fun e a w' hq => ?_) (h X w ⟨g1, g2⟩ _ _ hs)
  obtain ⟨env', S', hs', he, l, hl, hR⟩ := hq
  subst hrs
  obtain ⟨us, e1, e2, e3⟩ := Res.vals (cx := ⟨P, X, M S0, w, N, []⟩) hs' hl
  have hrun := results_list e3
  have hv : VRep w' (X ++ M S') (tupOf l) (tupV us) := by
    match l, us, e1, e2 with
    | [], [], _, e2 => exact .tup rfl e2
    | [t], [u], _, e2 => exact e2 0 t u rfl rfl
    | t :: t' :: r, u :: u' :: r', e1, e2 => exact .tup (by simpa using e1) e2
  have hR' : ∃ v t S'', (Ending.returned (tupV us)) = .returned v ∧ Keeps (M S0) w w' ∧ (M S'').Nodup ∧ (∀ b ∈ M S'', b ∈ M S0 ∨ w.heap.size ≤ b) ∧ (∀ e ∈ S'', e.holds w' (X ++ M S'')) ∧ VRep w' (X ++ M S'') t v ∧ R t S'' :=
    ⟨_, _, S', rfl, hs'.keeps, hs'.nd, hs'.fresh, hs'.ents, hv, hR⟩
  rcases he with rfl | rfl
  · exact ⟨hs'.defers, _, hrun, hR'⟩
  · exact ⟨hs'.defers, _, hrun, hR'⟩
section
variable {cx : Cx} {env : Env} {S : St} {o : Oper} {ops : Array Oper} {l : List Oper} {K : Env → St → Prop} {d : Nat}
/-- A call of one that reads the variable. -/
theorem AWL.callG {G : Gv} {f : FuncId} {xf : Operand} {xs : Array Operand} {ats : Array TypeId} {fst cap : Array Value} {ts : List T} {S1 S2 : St} {R : T → St → Prop} (hG : G.is cx.w0 ∧ G.b ∉ cx.M0) (hg : o.guard = none) (hd : o.dst = some d) (hN : d < cx.N)
    (ho : o.op = .call { callee := .value xf, args := xs, argTypes := ats }) (hf : calleeB cx.P f = true) (hxf : Ev env true xf (.v (.func (.func f) fst cap))) (hx : Evs env true xs.toList ts) (hS : S = S1 ++ S2)
    (hc : ACallsG cx.P G f (fst.toList.map T.v ++ (ts ++ cap.toList.map T.v)) S1 R) (hr : ∀ t S', R t S' → AWL cx ops l K ((d, true, t) :: env) (S' ++ S2)) : AWL cx ops (o :: l) K env S := by
  subst hS
  intro a w hs
  unfold wpList
  rw [if_pos (wanted_none hg)]
  refine .inl ?_
  unfold Oper.wp
  rw [exec_call ho hf (hxf.val hs rfl), Oper.upon_enter]
  obtain ⟨e1, e2⟩ := hx.spec hs rfl
  obtain ⟨c1, c2, c3, c4⟩ := hs.forCall
  obtain ⟨v1, v2⟩ := vals_spec (fst := fst.toList) (cap := cap.toList) e1 (fun j t u h1 h2 => c4 t u (e2 j t u h1 h2))
  have hw : G.is w := hG.1.keeps hs.keeps hG.2
  have hm : G.b ∉ M S1 := fun hb => by
    rcases hs.fresh G.b (by rw [M_append]; exact List.mem_append.2 (.inl hb)) with h | h
    · exact hG.2 h
    · have := hG.1.lt
      omega
  refine (hc (cx.X ++ M S2) w _ hw hm c1 c2 c3 v1 v2).mono ?_
  rintro e w' ⟨v, t, S', rfl, hk, hnd, hfr, hent, hv, hR⟩
  have hs' := hs.called hk hnd hfr hent
  rw [hd]
  refine hr t S' hR _ _ (hs'.put hN (fun _ => ?_) (by simp))
  refine hv.mono (Nat.le_refl _) (fun _ _ _ => rfl) (fun b _ hm => ?_)
  rw [M_append] at hm
  simp only [List.mem_append] at hm ⊢
  rcases hm with h | h | h
  · exact .inl (.inl h)
  · exact .inr h
  · exact .inl (.inr h)
theorem AWL.callGT {G : Gv} {f : FuncId} {xf : Operand} {xs : Array Operand} {ats : Array TypeId} {fst cap : Array Value} {ts : List T} {R : T → St → Prop} (hG : G.is cx.w0 ∧ G.b ∉ cx.M0) (hg : o.guard = none) (hd : o.dst = some d) (hN : d < cx.N)
    (ho : o.op = .call { callee := .value xf, args := xs, argTypes := ats }) (hf : calleeB cx.P f = true) (hxf : Ev env true xf (.v (.func (.func f) fst cap))) (hx : Evs env true xs.toList ts)
    (hc : ACallsG cx.P G f (fst.toList.map T.v ++ (ts ++ cap.toList.map T.v)) [] R) (hr : ∀ t S', R t S' → AWL cx ops l K ((d, true, t) :: env) S) : AWL cx ops (o :: l) K env S :=
  AWL.callG hG hg hd hN ho hf hxf hx (S1 := []) (S2 := S) rfl hc fun t S' hR => AWL.drop (List.sublist_append_right S' S) (hr t S' hR)
theorem call_plainG {G : Gv} {env : Env} {g : Bool} {f : FuncId} {xf : Operand} {xs : Array Operand} {ats : Array TypeId} {fst cap : Array Value} {ts : List T} {R : T → St → Prop} {r : Value} (hG : G.is cx.w0 ∧ G.b ∉ cx.M0) (ho : o.op = .call { callee := .value xf, args := xs, argTypes := ats }) (hf : calleeB cx.P f = true)
    (hxf : Ev env g xf (.v (.func (.func f) fst cap))) (hx : Evs env g xs.toList ts) (hc : g = true → ACallsG cx.P G f (fst.toList.map T.v ++ (ts ++ cap.toList.map T.v)) [] R) (hq : ∀ t S', R t S' → t = .v r) {a : Act} {w : World} (hs : Sim cx env S a w) (hgt : g = true) (w1 : World) (hk1 : Keeps [] w w1) :
    ∃ args, (execOp a.eval o).run cx.P w1 = .ok (.enter f args) w1 ∧ Calls cx.P f args w1 fun e w'' => e = .returned r ∧ Keeps [] w w'' := by
  refine ⟨_, exec_call ho hf (hxf.val hs hgt) w1, ?_⟩
  have hs1 := hs.more hk1
  obtain ⟨e1, e2⟩ := hx.spec hs hgt
  obtain ⟨c1, c2, c3, c4⟩ := Sim.forCall (S1 := []) (S2 := S) hs1
  obtain ⟨v1, v2⟩ := vals_spec (fst := fst.toList) (cap := cap.toList) e1 (fun j t u h1 h2 => c4 t u (hs.repMore hk1 (e2 j t u h1 h2)))
  refine (hc hgt (cx.X ++ M S) w1 _ (hG.1.keeps hs1.keeps hG.2) (by simp [M]) c1 c2 c3 v1 v2).mono ?_
  rintro e w' ⟨v, t, S', rfl, hk, hnd, hfr, hent, hv, hR⟩
  obtain rfl := hq t S' hR
  exact ⟨by rw [hv.v_inv], hk1.trans hk (by simp [M])⟩
theorem AWQ.callGPg {G : Gv} {f : FuncId} {xf : Operand} {xs : Array Operand} {ats : Array TypeId} {fst cap : Array Value} {ts : List T} {R : T → St → Prop} {r : Value} {j dj : Nat} {c b want : Bool} (hG : G.is cx.w0 ∧ G.b ∉ cx.M0) (hg : o.guard = some (j, want)) (hj : (ops[j]?).bind (·.dst) = some dj) (hk : get dj env = some (c, .v (.bool b)))
    (hd : o.dst = some d) (hN : d < cx.N) (ho : o.op = .call { callee := .value xf, args := xs, argTypes := ats }) (hf : calleeB cx.P f = true) (hxf : Ev env (c && (b == want)) xf (.v (.func (.func f) fst cap))) (hx : Evs env (c && (b == want)) xs.toList ts)
    (hc : (c && (b == want)) = true → ACallsG cx.P G f (fst.toList.map T.v ++ (ts ++ cap.toList.map T.v)) [] R) (hq : ∀ t S', R t S' → t = .v r) (hr : AWQ cx ops l K ((d, (c && (b == want)), .v r) :: env) S) : AWQ cx ops (o :: l) K env S := by
  intro a w hs
  unfold wpQuiet
  rw [hs.guard hg hj hk]
  cases hcc : (c && (b == want)) with
  | true =>
    rw [if_pos rfl]
    refine ⟨r, fun w' hw' => ?_, by rw [hd]; exact hr _ _ (hs.put hN (fun _ => .v r) (fun e => by rw [hcc] at e; cases e))⟩
    obtain ⟨args, h1, h2⟩ := call_plainG (g := c && (b == want)) hG ho hf hxf hx hc hq hs hcc w' hw'
    unfold Oper.quietAt
    rw [h1]
    exact ⟨rfl, h2⟩
  | false =>
    rw [if_neg (by simp), hd]
    exact hr _ _ (hs.put hN (fun e => by rw [hcc] at e; cases e) (fun _ => rfl))
theorem AWQ.callGPgT {G : Gv} {f : FuncId} {xf : Operand} {xs : Array Operand} {ats : Array TypeId} {fst cap : Array Value} {ts : List T} {R : T → St → Prop} {r : Value} {j dj : Nat} {c b : Bool} (hG : G.is cx.w0 ∧ G.b ∉ cx.M0) (hg : o.guard = some (j, true)) (hj : (ops[j]?).bind (·.dst) = some dj) (hk : get dj env = some (c, .v (.bool b)))
    (hd : o.dst = some d) (hN : d < cx.N) (ho : o.op = .call { callee := .value xf, args := xs, argTypes := ats }) (hf : calleeB cx.P f = true) (hxf : Ev env (c && b) xf (.v (.func (.func f) fst cap))) (hx : Evs env (c && b) xs.toList ts)
    (hc : (c && b) = true → ACallsG cx.P G f (fst.toList.map T.v ++ (ts ++ cap.toList.map T.v)) [] R) (hq : ∀ t S', R t S' → t = .v r) (hr : AWQ cx ops l K ((d, (c && b), .v r) :: env) S) : AWQ cx ops (o :: l) K env S := by
  have e : (c && (b == true)) = (c && b) := by cases b <;> rfl
  exact AWQ.callGPg hG hg hj hk hd hN ho hf (e ▸ hxf) (e ▸ hx) (fun h => hc (e ▸ h)) hq (e ▸ hr)
theorem AWQ.callGPgF {G : Gv} {f : FuncId} {xf : Operand} {xs : Array Operand} {ats : Array TypeId} {fst cap : Array Value} {ts : List T} {R : T → St → Prop} {r : Value} {j dj : Nat} {c b : Bool} (hG : G.is cx.w0 ∧ G.b ∉ cx.M0) (hg : o.guard = some (j, false)) (hj : (ops[j]?).bind (·.dst) = some dj) (hk : get dj env = some (c, .v (.bool b)))
    (hd : o.dst = some d) (hN : d < cx.N) (ho : o.op = .call { callee := .value xf, args := xs, argTypes := ats }) (hf : calleeB cx.P f = true) (hxf : Ev env (c && !b) xf (.v (.func (.func f) fst cap))) (hx : Evs env (c && !b) xs.toList ts)
    (hc : (c && !b) = true → ACallsG cx.P G f (fst.toList.map T.v ++ (ts ++ cap.toList.map T.v)) [] R) (hq : ∀ t S', R t S' → t = .v r) (hr : AWQ cx ops l K ((d, (c && !b), .v r) :: env) S) : AWQ cx ops (o :: l) K env S := by
  have e : (c && (b == false)) = (c && !b) := by cases b <;> rfl
  exact AWQ.callGPg hG hg hj hk hd hN ho hf (e ▸ hxf) (e ▸ hx) (fun h => hc (e ▸ h)) hq (e ▸ hr)
end
end Go.Proofs.YtjndpakhmgapjaaDoor
