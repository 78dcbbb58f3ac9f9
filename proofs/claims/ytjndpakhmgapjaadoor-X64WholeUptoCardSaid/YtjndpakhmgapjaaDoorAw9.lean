/-
  CALLS, CONTRACTS, and three rules on what is known: a tree under another name; a slice that is no more appended to; a nil slice that may be appended to. Generic: no program is named here.
-/
import Derived.Test.YtjndpakhmgapjaaDoorAw8
namespace Go.Proofs.YtjndpakhmgapjaaDoor
open Go Go.RowKit
set_option linter.unusedVariables false

/-- WHAT A CALL DOES: given these trees and these entries it returns a tree and leaves entries, of which R. -/
def ACalls (P : Program) (f : FuncId) (ts : List T) (S0 : St) (R : T → St → Prop) : Prop :=
  ∀ (X : List Nat) (w : World) (args : List Value), (∀ b ∈ X, b < w.heap.size ∧ b ∉ M S0) → (M S0).Nodup → (∀ e ∈ S0, e.holds w (X ++ M S0)) → args.length = ts.length → (∀ (j : Nat) (t : T) (u : Value), ts[j]? = some t → args[j]? = some u → VRep w (X ++ M S0) t u) →
    Calls P f args.toArray w fun e w' => ∃ v t S', e = .returned v ∧ Keeps (M S0) w w' ∧ (M S').Nodup ∧ (∀ b ∈ M S', b ∈ M S0 ∨ w.heap.size ≤ b) ∧ (∀ e ∈ S', e.holds w' (X ++ M S')) ∧ VRep w' (X ++ M S') t v ∧ R t S'

theorem ACalls.mono {P : Program} {f : FuncId} {ts : List T} {S0 : St} {R R' : T → St → Prop} (h : ACalls P f ts S0 R) (hR : ∀ t S, R t S → R' t S) : ACalls P f ts S0 R' :=
  fun X w args h1 h2 h3 h4 h5 => (h X w args h1 h2 h3 h4 h5).mono fun e w' ⟨v, t, S', a, b, c, d, e, f, r⟩ => ⟨v, t, S', a, b, c, d, e, f, hR _ _ r⟩

/-- The very end: a call in a world of whose blocks nobody writes any. -/
theorem ACalls.calls {P : Program} {f : FuncId} {ts : List T} {R : T → St → Prop} (h : ACalls P f ts [] R) {w : World} {args : List Value} (hl : args.length = ts.length) (ha : ∀ (j : Nat) (t : T) (u : Value), ts[j]? = some t → args[j]? = some u → VRep w [] t u) :
    Calls P f args.toArray w fun e w' => ∃ v t S', e = .returned v ∧ Below w.heap.size w w' ∧ VRep w' (M S') t v ∧ R t S' :=
  (h [] w args (fun _ hb => by cases hb) (by simp [M]) (fun _ he => by cases he) hl (by simpa [M] using ha)).mono fun e w' ⟨v, t, S', a, b, c, d, e', f, r⟩ => ⟨v, t, S', a, b.below, by simpa using f, r⟩

def initEnv : Nat → List T → Env
  | _, [] => []
  | i, t :: r => (i, true, t) :: initEnv (i + 1) r
theorem get_initEnv : ∀ (ts : List T) (i k : Nat) (c : Bool) (t : T), get k (initEnv i ts) = some (c, t) → c = true ∧ i ≤ k ∧ ts[k - i]? = some t
  | [], i, k, c, t, h => by simp [initEnv, get] at h
  | t0 :: r, i, k, c, t, h => by
    simp only [initEnv] at h
    rw [get_cons] at h
    split at h
    · rename_i e
      subst e
      simp only [Option.some.injEq, Prod.mk.injEq] at h
      obtain ⟨rfl, rfl⟩ := h
      exact ⟨rfl, Nat.le_refl _, by simp⟩
    · obtain ⟨h1, h2, h3⟩ := get_initEnv r (i + 1) k c t h
      refine ⟨h1, by omega, ?_⟩
      have e : k - i = (k - (i + 1)) + 1 := by omega
      rw [e]
      simpa using h3

/-- What a function hands back, off the slots of its results. -/
inductive Res (P : Program) (env : Env) (S : St) : List ResultVar → List T → Prop
  | nil : Res P env S [] []
  | tmp {k : Nat} {t : T} {rs : List ResultVar} {l : List T} (h : get k env = some (true, t)) (hr : Res P env S rs l) : Res P env S (.tmp k :: rs) (t :: l)
  | cellA {p ty n i b bty : Nat} {cs l' : List T} {rs : List ResultVar} {l : List T} (h : get p env = some (true, .v (.pointer (some ⟨b, 0, none⟩)))) (ha : aggSize P ty = some (true, n)) (hi : S[i]? = some (.box b bty cs)) (hl : cs.take n = l') (hn : l'.length = n) (hr : Res P env S rs l) : Res P env S (.cell p ty :: rs) (.agg l' :: l)
  | cell1 {p ty n i b bty : Nat} {cs : List T} {t : T} {rs : List ResultVar} {l : List T} (h : get p env = some (true, .v (.pointer (some ⟨b, 0, none⟩)))) (ha : aggSize P ty = some (false, n)) (hi : S[i]? = some (.box b bty cs)) (hl : cs[0]? = some t) (hr : Res P env S rs l) : Res P env S (.cell p ty :: rs) (t :: l)
def tupV : List Value → Value
  | [u] => u
  | us => .tuple us.toArray
def tupOf : List T → T
  | [t] => t
  | l => .tup l
structure retQ (P : Program) (rs : List ResultVar) (R : T → St → Prop) (e : Exit) (env : Env) (S : St) : Prop where
  exit : e = .ret ∨ e = .normal
  res : ∃ l, Res P env S rs l ∧ R (tupOf l) S

def resV (tmps : Array Value) : ResultVar → Sem Value
  | .tmp t => pure (tmps.getD t undef)
  | .cell p t => do loadVar t (← asAddr (tmps.getD p undef))
theorem Res.vals {cx : Cx} {env : Env} {S : St} {a : Act} {w : World} (hs : Sim cx env S a w) {rs : List ResultVar} {l : List T} (h : Res cx.P env S rs l) :
    ∃ us : List Value, l.length = us.length ∧ (∀ (j : Nat) (t : T) (u : Value), l[j]? = some t → us[j]? = some u → VRep w (cx.X ++ M S) t u) ∧ (rs.mapM (resV a.tmps)).run cx.P w = .ok us w := by
  have step : ∀ {r : ResultVar} {rs : List ResultVar} {t : T} {l : List T} {u : Value}, VRep w (cx.X ++ M S) t u → (resV a.tmps r).run cx.P w = .ok u w → (∃ us : List Value, l.length = us.length ∧ (∀ (j : Nat) (t : T) (u : Value), l[j]? = some t → us[j]? = some u → VRep w (cx.X ++ M S) t u) ∧ (rs.mapM (resV a.tmps)).run cx.P w = .ok us w) →
      ∃ us : List Value, (t :: l).length = us.length ∧ (∀ (j : Nat) (t' : T) (u : Value), (t :: l)[j]? = some t' → us[j]? = some u → VRep w (cx.X ++ M S) t' u) ∧ ((r :: rs).mapM (resV a.tmps)).run cx.P w = .ok us w := by
    rintro r rs t l u h1 h2 ⟨us, e1, e2, e3⟩
    refine ⟨u :: us, by simp [e1], fun j t' u' h3 h4 => ?_, ?_⟩
    · cases j with
      | zero =>
        simp at h3 h4
        subst h3; subst h4
        exact h1
      | succ j => exact e2 j t' u' (by simpa using h3) (by simpa using h4)
    · simp only [List.mapM_cons, h2, Sem.run_bind, Sem.run_pure, Result.andThen_ok, e3]
  induction h with
  | nil => exact ⟨[], rfl, fun j t u h => by simp at h, rfl⟩
  | tmp h hr ih => exact step ((hs.slots _ true _ h).1 rfl) rfl ih
  | @cellA p ty n i b bty cs l' rs l h ha hi hl hn hr ih =>
    obtain ⟨us, hh, hV⟩ := hs.box hi
    have hp := ((hs.slots _ true _ h).1 rfl).v_inv
    have hV' := hV.take n
    rw [hl] at hV'
    refine step (u := .agg (us.take n).toArray) (.agg hV'.len hV'.at_ hV'.one) ?_ ih
    have hrun := run_loadAt_agg (ad := ⟨b, 0, none⟩) ha (us := us.take n) (by rw [← hV'.len, hn]) w (fun j u hj => by
      rw [List.getElem?_take] at hj
      split at hj
      · rw [add_lit', Nat.zero_add, cell_of_heap hh, hj]
      · cases hj)
    simp only [Instr.loadAt, Instr.sureAddr, Sem.run_bind, Sem.run_pure, Result.andThen_ok] at hrun
    simp only [resV, hp, asAddr, Sem.run_bind, Sem.run_pure, Result.andThen_ok]
    exact hrun
  | cell1 h ha hi hl hr ih =>
    obtain ⟨us, hh, hV⟩ := hs.box hi
    have hp := ((hs.slots _ true _ h).1 rfl).v_inv
    obtain ⟨u, h1, h2, _⟩ := hV.get hl
    refine step h2 ?_ ih
    have hrun := run_loadAt_one ha w (by rw [cell_of_heap hh, h1])
    simp only [Instr.loadAt, Instr.sureAddr, Sem.run_bind, Sem.run_pure, Result.andThen_ok] at hrun
    simp only [resV, hp, asAddr, Sem.run_bind, Sem.run_pure, Result.andThen_ok]
    exact hrun
theorem results_list {fn : Func} {tmps : Array Value} {P : Program} {w : World} {us : List Value} (h : (fn.results.toList.mapM (resV tmps)).run P w = .ok us w) :
    (results fn tmps).run P w = .ok (tupV us) w := by
  have he : results fn tmps = (do let vs ← fn.results.mapM (resV tmps); pure (if h : vs.size = 1 then vs[0] else .tuple vs)) := by
    unfold results
    congr 2
  rw [he]
  simp only [Array.mapM_eq_mapM_toList, Sem.run_bind, Sem.run_map, Sem.run_pure]
  rw [h]
  simp only [Result.andThen_ok]
  cases us with
  | nil => rfl
  | cons u r => cases r <;> simp [tupV]

theorem ACalls.intro {P : Program} {f : FuncId} {fn : Func} {c : Code} {ts : List T} {S0 : St} {R : T → St → Prop} {N : Nat} {rs : List ResultVar} (hf : P.funcs[f]? = some fn) (hb : fn.body = some c) (hN : fn.ntmps = N) (hlen : ts.length ≤ N) (hrs : fn.results.toList = rs)
    (h : ∀ (X : List Nat) (w0 : World), AW ⟨P, X, M S0, w0, N, []⟩ c (retQ P rs R) (initEnv 0 ts) S0) : ACalls P f ts S0 R := by
  intro X w args h1 h2 h3 h4 h5
  refine calls_of_wp hf hb ?_
  have hs : Sim ⟨P, X, M S0, w, N, []⟩ (initEnv 0 ts) S0 { tmps := args.toArray ++ Array.replicate (fn.ntmps - args.toArray.size) undef, defers := [] } w := by
    refine ⟨Keeps.refl _ _, h2, fun b hb => .inl hb, h1, h3, ?_, rfl, fun k c t hk => ?_⟩
    · simp [hN]; omega
    · obtain ⟨rfl, -, e⟩ := get_initEnv ts 0 k c t hk
      refine ⟨fun _ => ?_, fun h => by cases h⟩
      rw [Nat.sub_zero] at e
      have hkl : k < args.length := h4 ▸ (List.getElem?_eq_some_iff.1 e).1
      have : (args.toArray ++ Array.replicate (fn.ntmps - args.toArray.size) undef).getD k undef = args[k] := by
        rw [Array.getD_eq_getD_getElem?, Array.getElem?_append_left (by simpa using hkl)]
        simp [hkl]
      rw [this]
      exact h5 k t _ e (List.getElem?_eq_getElem hkl)
  refine Code.wp_mono (fun e a w' hq => ?_) (h X w _ _ hs)
  obtain ⟨env', S', hs', he, l, hl, hR⟩ := hq
  subst hrs
  obtain ⟨us, e1, e2, e3⟩ := Res.vals (cx := ⟨P, X, M S0, w, N, []⟩) hs' hl
  have hrun := results_list e3
  have hv : VRep w' (X ++ M S') (tupOf l) (tupV us) := by
    match l, us, e1, e2 with
    | [], [], _, e2 => exact .tup rfl e2
    | [t], [u], _, e2 => exact e2 0 t u rfl rfl
    | t :: t' :: r, u :: u' :: r', e1, e2 => exact .tup (by simpa using e1) e2
  have hR' : ∃ v t S'', (Ending.returned (tupV us)) = .returned v ∧ Keeps (M S0) w w' ∧ (M S'').Nodup ∧ (∀ b ∈ M S'', b ∈ M S0 ∨ w.heap.size ≤ b) ∧ (∀ e ∈ S'', e.holds w' (X ++ M S'')) ∧ VRep w' (X ++ M S'') t v ∧ R t S'' :=
    ⟨_, _, S', rfl, hs'.keeps, hs'.nd, hs'.fresh, hs'.ents, hv, hR⟩
  rcases he with rfl | rfl
  · exact ⟨hs'.defers, _, hrun, hR'⟩
  · exact ⟨hs'.defers, _, hrun, hR'⟩

section
variable {cx : Cx} {env : Env} {S : St} {o : Oper} {g : Bool} {x y z : Operand} {ops : Array Oper} {l : List Oper} {K : Env → St → Prop} {Q : Exit → Env → St → Prop} {d : Nat}

/-! ### Calls -/
def Evs (env : Env) (g : Bool) : List Operand → List T → Prop
  | [], [] => True
  | x :: r, t :: r' => Ev env g x t ∧ Evs env g r r'
  | _, _ => False
theorem Evs.spec {a : Act} {w : World} (hs : Sim cx env S a w) (hg : g = true) : ∀ {xs : List Operand} {ts : List T}, Evs env g xs ts → (xs.map a.eval).length = ts.length ∧ ∀ (j : Nat) (t : T) (u : Value), ts[j]? = some t → (xs.map a.eval)[j]? = some u → VRep w (cx.X ++ M S) t u
  | [], [], _ => ⟨rfl, fun j t u h => by simp at h⟩
  | [], _ :: _, h => h.elim
  | _ :: _, [], h => h.elim
  | x :: r, t :: r', h => by
    obtain ⟨h1, h2⟩ := h
    obtain ⟨e1, e2⟩ := Evs.spec hs hg h2
    refine ⟨by simpa using e1, fun j t' u' h3 h4 => ?_⟩
    cases j with
    | zero =>
      simp at h3 h4
      subst h3; subst h4
      exact h1.rep hs hg
    | succ j => exact e2 j t' u' (by simpa using h3) (by simpa using h4)
def calleeB (P : Program) (f : FuncId) : Bool :=
  match P.funcs[f]? with
  | some fn => !(fn.name == "runtime.NumGoroutine") && fn.body.isSome
  | none => false
theorem run_callFunc' {P : Program} {f : FuncId} (h : calleeB P f = true) (args : Array Value) (w : World) : (callFunc f args).run P w = .ok (.enter f args) w := by
  unfold calleeB at h
  split at h
  · rename_i fn hf
    simp only [Bool.and_eq_true, Bool.not_eq_true', beq_eq_false_iff_ne, ne_eq] at h
    obtain ⟨h1, h2⟩ := h
    obtain ⟨c, hc⟩ := Option.isSome_iff_exists.1 h2
    simp [callFunc, hf, h1, hc]
  · cases h
theorem exec_call {ρ : Operand → Value} {P : Program} {f : FuncId} {xf : Operand} {xs : Array Operand} {ats : Array TypeId} {fst cap : Array Value} (ho : o.op = .call { callee := .value xf, args := xs, argTypes := ats }) (hf : calleeB P f = true) (hx : ρ xf = .func (.func f) fst cap) (w : World) :
    (execOp ρ o).run P w = .ok (.enter f (fst.toList ++ (xs.toList.map ρ ++ cap.toList)).toArray) w := by
  have e : (fst ++ xs.map ρ) ++ cap = (fst.toList ++ (xs.toList.map ρ ++ cap.toList)).toArray := by
    apply Array.ext'
    simp
  simp only [execOp, ho, resolve, Deferred.ofValue, hx, Sem.run_bind, Sem.run_pure, Result.andThen_ok, invoke]
  rw [e]
  exact run_callFunc' hf _ w
theorem vals_spec {w : World} {L : List Nat} {fst cap us : List Value} {ts : List T} (hl : us.length = ts.length) (h : ∀ (j : Nat) (t : T) (u : Value), ts[j]? = some t → us[j]? = some u → VRep w L t u) :
    (fst ++ (us ++ cap)).length = (fst.map T.v ++ (ts ++ cap.map T.v)).length ∧ ∀ (j : Nat) (t : T) (u : Value), (fst.map T.v ++ (ts ++ cap.map T.v))[j]? = some t → (fst ++ (us ++ cap))[j]? = some u → VRep w L t u := by
  have hv : ∀ (vs : List Value) (j : Nat) (t : T) (u : Value), (vs.map T.v)[j]? = some t → vs[j]? = some u → VRep w L t u := fun vs j t u h1 h2 => by
    rw [List.getElem?_map, h2] at h1
    simp only [Option.map_some, Option.some.injEq] at h1
    subst h1
    exact .v u
  refine ⟨by simp [hl], fun j t u h1 h2 => ?_⟩
  by_cases e1 : j < fst.length
  · rw [List.getElem?_append_left (by simpa using e1)] at h1
    rw [List.getElem?_append_left e1] at h2
    exact hv _ j t u h1 h2
  · rw [List.getElem?_append_right (by simpa using e1), List.length_map] at h1
    rw [List.getElem?_append_right (by omega)] at h2
    by_cases e2 : j - fst.length < ts.length
    · rw [List.getElem?_append_left e2] at h1
      rw [List.getElem?_append_left (hl ▸ e2)] at h2
      exact h _ t u h1 h2
    · rw [List.getElem?_append_right (by omega)] at h1
      rw [List.getElem?_append_right (by omega), hl] at h2
      exact hv _ _ t u h1 h2

/-- What a call leaves, in the caller's terms. -/
theorem Sim.called {S1 S2 S' : St} {a : Act} {w w' : World} (hs : Sim cx env (S1 ++ S2) a w) (hk : Keeps (M S1) w w') (hnd : (M S').Nodup) (hfr : ∀ b ∈ M S', b ∈ M S1 ∨ w.heap.size ≤ b) (hent : ∀ e ∈ S', e.holds w' ((cx.X ++ M S2) ++ M S')) : Sim cx env (S' ++ S2) a w' := by
  have hM : M (S1 ++ S2) = M S1 ++ M S2 := M_append S1 S2
  have hnd0 := hs.nd
  rw [hM, List.nodup_append] at hnd0
  have hk' : Keeps (M (S1 ++ S2)) w w' := hk.mono (fun x hx _ => by rw [hM]; exact List.mem_append.2 (.inl hx))
  have hfr' : ∀ b ∈ M (S' ++ S2), b ∈ M (S1 ++ S2) ∨ w.heap.size ≤ b := fun b hb => by
    rw [M_append] at hb
    rw [hM]
    rcases List.mem_append.1 hb with hb | hb
    · rcases hfr b hb with h | h
      · exact .inl (List.mem_append.2 (.inl h))
      · exact .inr h
    · exact .inl (List.mem_append.2 (.inr hb))
  have h2lt : ∀ b ∈ M S2, b < w.heap.size := fun b hb => hs.lt (by rw [hM]; exact List.mem_append.2 (.inr hb))
  refine hs.step hk' ?_ hfr' (fun e he => ?_)
  · rw [M_append, List.nodup_append]
    refine ⟨hnd, hnd0.2.1, fun p hp q hq => ?_⟩
    rcases hfr p hp with h | h
    · exact hnd0.2.2 p h q hq
    · have := h2lt q hq
      omega
  · rcases List.mem_append.1 he with he | he
    · refine (hent e he).mono (Nat.le_refl _) (fun _ _ => rfl) (fun _ _ _ => rfl) (fun b _ hm => ?_)
      rw [M_append] at hm
      simp only [List.mem_append] at hm ⊢
      rcases hm with h | h | h
      · exact .inl (.inl h)
      · exact .inr h
      · exact .inl (.inr h)
    · refine hs.ent hk' hfr' (List.mem_append.2 (.inr he)) (fun b hb => ?_)
      have hb2 : b ∈ M S2 := mem_M.2 ⟨e, he, hb⟩
      exact hk.block b (h2lt b hb2) (fun h1 => hnd0.2.2 b h1 b hb2 rfl)
theorem Sim.forCall {S1 S2 : St} {a : Act} {w : World} (hs : Sim cx env (S1 ++ S2) a w) : (∀ b ∈ cx.X ++ M S2, b < w.heap.size ∧ b ∉ M S1) ∧ (M S1).Nodup ∧ (∀ e ∈ S1, e.holds w ((cx.X ++ M S2) ++ M S1)) ∧ ∀ t u, VRep w (cx.X ++ M (S1 ++ S2)) t u → VRep w ((cx.X ++ M S2) ++ M S1) t u := by
  have hM : M (S1 ++ S2) = M S1 ++ M S2 := M_append S1 S2
  have hnd0 := hs.nd
  rw [hM, List.nodup_append] at hnd0
  have hL : ∀ b, b < w.heap.size → b ∈ (cx.X ++ M S2) ++ M S1 → b ∈ cx.X ++ M (S1 ++ S2) := fun b _ hm => by
    rw [hM]
    simp only [List.mem_append] at hm ⊢
    rcases hm with (h | h) | h
    · exact .inl h
    · exact .inr (.inr h)
    · exact .inr (.inl h)
  refine ⟨fun b hb => ⟨hs.ltX ?_, fun h1 => ?_⟩, hnd0.1, fun e he => ?_, fun t u h => h.mono (Nat.le_refl _) (fun _ _ _ => rfl) hL⟩
  · rw [hM]
    simp only [List.mem_append] at hb ⊢
    rcases hb with h | h
    · exact .inl h
    · exact .inr (.inr h)
  · rcases List.mem_append.1 hb with h | h
    · exact hs.notX (b := b) (by rw [hM]; exact List.mem_append.2 (.inl h1)) h
    · exact hnd0.2.2 b h1 b h rfl
  · exact (hs.ents e (List.mem_append.2 (.inl he))).mono (Nat.le_refl _) (fun _ _ => rfl) (fun _ _ _ => rfl) hL

theorem AWL.call {f : FuncId} {xf : Operand} {xs : Array Operand} {ats : Array TypeId} {fst cap : Array Value} {ts : List T} {S1 S2 : St} {R : T → St → Prop} (hg : o.guard = none) (hd : o.dst = some d) (hN : d < cx.N)
    (ho : o.op = .call { callee := .value xf, args := xs, argTypes := ats }) (hf : calleeB cx.P f = true) (hxf : Ev env true xf (.v (.func (.func f) fst cap))) (hx : Evs env true xs.toList ts) (hS : S = S1 ++ S2)
    (hc : ACalls cx.P f (fst.toList.map T.v ++ (ts ++ cap.toList.map T.v)) S1 R) (hr : ∀ t S', R t S' → AWL cx ops l K ((d, true, t) :: env) (S' ++ S2)) : AWL cx ops (o :: l) K env S := by
  subst hS
  intro a w hs
  unfold wpList
  rw [if_pos (wanted_none hg)]
  refine .inl ?_
  unfold Oper.wp
  rw [exec_call ho hf (hxf.val hs rfl), Oper.upon_enter]
  obtain ⟨e1, e2⟩ := hx.spec hs rfl
  obtain ⟨c1, c2, c3, c4⟩ := hs.forCall
  obtain ⟨v1, v2⟩ := vals_spec (fst := fst.toList) (cap := cap.toList) e1 (fun j t u h1 h2 => c4 t u (e2 j t u h1 h2))
  refine (hc (cx.X ++ M S2) w _ c1 c2 c3 v1 v2).mono ?_
  rintro e w' ⟨v, t, S', rfl, hk, hnd, hfr, hent, hv, hR⟩
  have hs' := hs.called hk hnd hfr hent
  rw [hd]
  refine hr t S' hR _ _ (hs'.put hN (fun _ => ?_) (by simp))
  refine hv.mono (Nat.le_refl _) (fun _ _ _ => rfl) (fun b _ hm => ?_)
  rw [M_append] at hm
  simp only [List.mem_append] at hm ⊢
  rcases hm with h | h | h
  · exact .inl (.inl h)
  · exact .inr h
  · exact .inl (.inr h)

/-- A call that hands back a plain value and makes at most memory of its own: what it leaves is forgotten. -/
theorem call_plain {f : FuncId} {xf : Operand} {xs : Array Operand} {ats : Array TypeId} {fst cap : Array Value} {ts : List T} {R : T → St → Prop} {r : Value} (ho : o.op = .call { callee := .value xf, args := xs, argTypes := ats }) (hf : calleeB cx.P f = true)
    (hxf : Ev env g xf (.v (.func (.func f) fst cap))) (hx : Evs env g xs.toList ts) (hc : g = true → ACalls cx.P f (fst.toList.map T.v ++ (ts ++ cap.toList.map T.v)) [] R) (hq : ∀ t S', R t S' → t = .v r) {a : Act} {w : World} (hs : Sim cx env S a w) (hgt : g = true) (w1 : World) (hk1 : Keeps [] w w1) :
    ∃ args, (execOp a.eval o).run cx.P w1 = .ok (.enter f args) w1 ∧ Calls cx.P f args w1 fun e w'' => e = .returned r ∧ Keeps [] w w'' := by
  refine ⟨_, exec_call ho hf (hxf.val hs hgt) w1, ?_⟩
  have hs1 := hs.more hk1
  obtain ⟨e1, e2⟩ := hx.spec hs hgt
  obtain ⟨c1, c2, c3, c4⟩ := Sim.forCall (S1 := []) (S2 := S) hs1
  obtain ⟨v1, v2⟩ := vals_spec (fst := fst.toList) (cap := cap.toList) e1 (fun j t u h1 h2 => c4 t u (hs.repMore hk1 (e2 j t u h1 h2)))
  refine (hc hgt (cx.X ++ M S) w1 _ c1 c2 c3 v1 v2).mono ?_
  rintro e w' ⟨v, t, S', rfl, hk, hnd, hfr, hent, hv, hR⟩
  obtain rfl := hq t S' hR
  exact ⟨by rw [hv.v_inv], hk1.trans hk (by simp [M])⟩
theorem AWL.callP {f : FuncId} {xf : Operand} {xs : Array Operand} {ats : Array TypeId} {fst cap : Array Value} {ts : List T} {R : T → St → Prop} {r : Value} (hg : o.guard = none) (hd : o.dst = some d) (hN : d < cx.N)
    (ho : o.op = .call { callee := .value xf, args := xs, argTypes := ats }) (hf : calleeB cx.P f = true) (hxf : Ev env true xf (.v (.func (.func f) fst cap))) (hx : Evs env true xs.toList ts)
    (hc : ACalls cx.P f (fst.toList.map T.v ++ (ts ++ cap.toList.map T.v)) [] R) (hq : ∀ t S', R t S' → t = .v r) (hr : AWL cx ops l K ((d, true, .v r) :: env) S) : AWL cx ops (o :: l) K env S := by
  intro a w hs
  unfold wpList
  rw [if_pos (wanted_none hg)]
  refine .inl ?_
  unfold Oper.wp
  obtain ⟨args, h1, h2⟩ := call_plain (g := true) ho hf hxf hx (fun _ => hc) hq hs rfl w (Keeps.refl _ _)
  rw [h1, Oper.upon_enter, hd]
  refine h2.mono ?_
  rintro e w' ⟨rfl, hk⟩
  exact hr _ _ ((hs.more hk).put hN (fun _ => .v r) (by simp))
theorem AWL.callPg {f : FuncId} {xf : Operand} {xs : Array Operand} {ats : Array TypeId} {fst cap : Array Value} {ts : List T} {R : T → St → Prop} {r : Value} {j dj : Nat} {c b want : Bool} (hg : o.guard = some (j, want)) (hj : (ops[j]?).bind (·.dst) = some dj) (hk : get dj env = some (c, .v (.bool b)))
    (hd : o.dst = some d) (hN : d < cx.N) (ho : o.op = .call { callee := .value xf, args := xs, argTypes := ats }) (hf : calleeB cx.P f = true) (hxf : Ev env (c && (b == want)) xf (.v (.func (.func f) fst cap))) (hx : Evs env (c && (b == want)) xs.toList ts)
    (hc : (c && (b == want)) = true → ACalls cx.P f (fst.toList.map T.v ++ (ts ++ cap.toList.map T.v)) [] R) (hq : ∀ t S', R t S' → t = .v r) (hr : AWL cx ops l K ((d, (c && (b == want)), .v r) :: env) S) : AWL cx ops (o :: l) K env S := by
  intro a w hs
  unfold wpList
  rw [hs.guard hg hj hk]
  cases hcc : (c && (b == want)) with
  | true =>
    rw [if_pos rfl]
    refine .inl ?_
    unfold Oper.wp
    obtain ⟨args, h1, h2⟩ := call_plain (g := c && (b == want)) ho hf hxf hx hc hq hs hcc w (Keeps.refl _ _)
    rw [h1, Oper.upon_enter, hd]
    refine h2.mono ?_
    rintro e w' ⟨rfl, hk⟩
    exact hr _ _ ((hs.more hk).put hN (fun _ => .v r) (fun e => by rw [hcc] at e; cases e))
  | false =>
    rw [if_neg (by simp), hd]
    exact hr _ _ (hs.put hN (fun e => by rw [hcc] at e; cases e) (fun _ => rfl))
theorem AWQ.callP {f : FuncId} {xf : Operand} {xs : Array Operand} {ats : Array TypeId} {fst cap : Array Value} {ts : List T} {R : T → St → Prop} {r : Value} (hg : o.guard = none) (hd : o.dst = some d) (hN : d < cx.N)
    (ho : o.op = .call { callee := .value xf, args := xs, argTypes := ats }) (hf : calleeB cx.P f = true) (hxf : Ev env true xf (.v (.func (.func f) fst cap))) (hx : Evs env true xs.toList ts)
    (hc : ACalls cx.P f (fst.toList.map T.v ++ (ts ++ cap.toList.map T.v)) [] R) (hq : ∀ t S', R t S' → t = .v r) (hr : AWQ cx ops l K ((d, true, .v r) :: env) S) : AWQ cx ops (o :: l) K env S := by
  intro a w hs
  unfold wpQuiet
  rw [if_pos (wanted_none hg)]
  refine ⟨r, fun w' hw' => ?_, by rw [hd]; exact hr _ _ (hs.put hN (fun _ => .v r) (by simp))⟩
  obtain ⟨args, h1, h2⟩ := call_plain (g := true) ho hf hxf hx (fun _ => hc) hq hs rfl w' hw'
  unfold Oper.quietAt
  rw [h1]
  exact ⟨rfl, h2⟩
theorem AWQ.callPg {f : FuncId} {xf : Operand} {xs : Array Operand} {ats : Array TypeId} {fst cap : Array Value} {ts : List T} {R : T → St → Prop} {r : Value} {j dj : Nat} {c b want : Bool} (hg : o.guard = some (j, want)) (hj : (ops[j]?).bind (·.dst) = some dj) (hk : get dj env = some (c, .v (.bool b)))
    (hd : o.dst = some d) (hN : d < cx.N) (ho : o.op = .call { callee := .value xf, args := xs, argTypes := ats }) (hf : calleeB cx.P f = true) (hxf : Ev env (c && (b == want)) xf (.v (.func (.func f) fst cap))) (hx : Evs env (c && (b == want)) xs.toList ts)
    (hc : (c && (b == want)) = true → ACalls cx.P f (fst.toList.map T.v ++ (ts ++ cap.toList.map T.v)) [] R) (hq : ∀ t S', R t S' → t = .v r) (hr : AWQ cx ops l K ((d, (c && (b == want)), .v r) :: env) S) : AWQ cx ops (o :: l) K env S := by
  intro a w hs
  unfold wpQuiet
  rw [hs.guard hg hj hk]
  cases hcc : (c && (b == want)) with
  | true =>
    rw [if_pos rfl]
    refine ⟨r, fun w' hw' => ?_, by rw [hd]; exact hr _ _ (hs.put hN (fun _ => .v r) (fun e => by rw [hcc] at e; cases e))⟩
    obtain ⟨args, h1, h2⟩ := call_plain (g := c && (b == want)) ho hf hxf hx hc hq hs hcc w' hw'
    unfold Oper.quietAt
    rw [h1]
    exact ⟨rfl, h2⟩
  | false =>
    rw [if_neg (by simp), hd]
    exact hr _ _ (hs.put hN (fun e => by rw [hcc] at e; cases e) (fun _ => rfl))

/-! ### What is known, said otherwise -/
theorem Sim.retype {a : Act} {w : World} (hs : Sim cx env S a w) {k : Nat} {c : Bool} {t t' : T} (hk : get k env = some (c, t)) (ht : ∀ w L u, VRep w L t u → VRep w L t' u) : Sim cx ((k, c, t') :: env) S a w :=
  ⟨hs.keeps, hs.nd, hs.fresh, hs.far, hs.ents, hs.size, hs.defers, fun j c' t'' hj => by
    rw [get_cons] at hj
    split at hj
    · rename_i e
      subst e
      simp only [Option.some.injEq, Prod.mk.injEq] at hj
      obtain ⟨rfl, rfl⟩ := hj
      exact ⟨fun h => ht _ _ _ ((hs.slots j c t hk).1 h), (hs.slots j c t hk).2⟩
    · exact hs.slots j c' t'' hj⟩
theorem AWL.retype {k : Nat} {c : Bool} {t t' : T} (hk : get k env = some (c, t)) (ht : ∀ w L u, VRep w L t u → VRep w L t' u) (h : AWL cx ops l K ((k, c, t') :: env) S) : AWL cx ops l K env S := fun a w hs => h a w (hs.retype hk ht)
theorem AWQ.retype {k : Nat} {c : Bool} {t t' : T} (hk : get k env = some (c, t)) (ht : ∀ w L u, VRep w L t u → VRep w L t' u) (h : AWQ cx ops l K ((k, c, t') :: env) S) : AWQ cx ops l K env S := fun a w hs => h a w (hs.retype hk ht)
theorem AW.retype {code : Code} {k : Nat} {c : Bool} {t t' : T} (hk : get k env = some (c, t)) (ht : ∀ w L u, VRep w L t u → VRep w L t' u) (h : AW cx code Q ((k, c, t') :: env) S) : AW cx code Q env S := fun a w hs => h a w (hs.retype hk ht)
/-- nil as a slice that nobody writes. -/
theorem nil_sl {k c : Nat} {A : Option Addr} (hc : c ≤ maxLen) : ∀ w L u, VRep w L (.v (.slice A 0 c)) u → VRep w L (.sl k []) u := by
  intro w L u h
  cases h
  exact .sl0 hc

/-- A nil slice that may be appended to. -/
theorem Sim.rowNil {a : Act} {w : World} (hs : Sim cx env S a w) (e : TypeId) (k : Nat) : Sim cx env (S ++ [.row none 0 0 e k []]) a w := by
  have hM : M (S ++ [Ent.row none 0 0 e k []]) = M S := by rw [M_append]; simp [M, Ent.blk]
  refine hs.step (Keeps.refl _ _) (by rw [hM]; exact hs.nd) (fun b hb => .inl (hM ▸ hb)) (fun f hf => ?_)
  rw [hM]
  rcases List.mem_append.1 hf with hf | hf
  · exact hs.ents f hf
  · rw [List.mem_singleton] at hf
    subst hf
    exact ⟨[], ⟨by simp, by unfold maxLen; omega, Nat.le_refl _, .inl ⟨rfl, rfl, rfl⟩⟩, .nil⟩
theorem AW.rowNil {code : Code} (e : TypeId) (k : Nat) (h : AW cx code Q env (S ++ [.row none 0 0 e k []])) : AW cx code Q env S := fun a w hs => h a w (hs.rowNil e k)
theorem AWL.rowNil (e : TypeId) (k : Nat) (h : AWL cx ops l K env (S ++ [.row none 0 0 e k []])) : AWL cx ops l K env S := fun a w hs => h a w (hs.rowNil e k)

/-- A slice that is no more appended to: the entry goes, the slot holds a tree. -/
theorem Sim.freeze {a : Act} {w : World} (hs : Sim cx env S a w) {i n c k : Nat} {A : Option Addr} {e : TypeId} {cs : List T} (hi : S[i]? = some (.row A n c e k cs)) (hk : 0 < k) : Sim cx env (S.eraseIdx i) a w ∧ VRep w (cx.X ++ M (S.eraseIdx i)) (.sl k cs) (.slice A n c) := by
  have hsub : (S.eraseIdx i).Sublist S := List.eraseIdx_sublist S i
  have hMs : (M (S.eraseIdx i)).Sublist (M S) := hsub.filterMap _
  have hs' := hs.drop hsub
  refine ⟨hs', ?_⟩
  obtain ⟨us, hr, hV⟩ := hs.row hi
  have hil : i < S.length := (List.getElem?_eq_some_iff.1 hi).1
  have hSi : S[i] = .row A n c e k cs := by
    rw [List.getElem?_eq_getElem hil] at hi
    exact Option.some.inj hi
  have hV' : VReps w (cx.X ++ M (S.eraseIdx i)) cs us := hV.mono (Nat.le_refl _) (fun _ _ _ => rfl) (fun b _ hm => by
    rcases List.mem_append.1 hm with h | h
    · exact List.mem_append.2 (.inl h)
    · exact List.mem_append.2 (.inr (hMs.subset h)))
  rcases hr.2.2.2 with ⟨rfl, rfl, rfl⟩ | ⟨gb, cur, fr, rfl, hh, _, _, htk⟩
  · obtain rfl : us = [] := List.eq_nil_of_length_eq_zero (by simpa using hr.1)
    obtain rfl : cs = [] := List.eq_nil_of_length_eq_zero (by simpa using hV.len)
    exact .sl0 hr.2.1
  · refine sl_new hk (by rw [hV.len, hr.1]) hr.2.2.1 hr.2.1 hV' hh (fun hm => ?_) (by rw [hr.1]; exact htk)
    have hgM : gb ∈ M S := mem_M.2 ⟨_, List.mem_of_getElem? hi, rfl⟩
    rcases List.mem_append.1 hm with h | h
    · exact hs.notX hgM h
    · obtain ⟨f, hf, hfb⟩ := mem_M.1 h
      rw [List.mem_eraseIdx_iff_getElem] at hf
      obtain ⟨j, hj, hne, rfl⟩ := hf
      exact absurd hs.nd (nodup_absurd (fun e => hne e.symm) hil hj (by rw [hSi]; rfl) hfb)
theorem Sim.freezeSlot {a : Act} {w : World} (hs : Sim cx env S a w) {i n c k s : Nat} {A : Option Addr} {e : TypeId} {cs : List T} (hi : S[i]? = some (.row A n c e k cs)) (hk : 0 < k) (hsl : get s env = some (true, .v (.slice A n c))) : Sim cx ((s, true, .sl k cs) :: env) (S.eraseIdx i) a w := by
  obtain ⟨h1, h2⟩ := hs.freeze hi hk
  refine ⟨h1.keeps, h1.nd, h1.fresh, h1.far, h1.ents, h1.size, h1.defers, fun j c' t' hj => ?_⟩
  rw [get_cons] at hj
  split at hj
  · rename_i e
    subst e
    simp only [Option.some.injEq, Prod.mk.injEq] at hj
    obtain ⟨rfl, rfl⟩ := hj
    refine ⟨fun _ => ?_, fun h => by cases h⟩
    have := ((hs.slots j true _ hsl).1 rfl).v_inv
    rw [this]
    exact h2
  · exact h1.slots j c' t' hj
theorem AW.freeze {code : Code} {n c k : Nat} {A : Option Addr} {e : TypeId} {cs : List T} (i s : Nat) (hi : S[i]? = some (.row A n c e k cs)) (hk : 0 < k) (hsl : get s env = some (true, .v (.slice A n c))) (h : AW cx code Q ((s, true, .sl k cs) :: env) (S.eraseIdx i)) : AW cx code Q env S := fun a w hs => h a w (hs.freezeSlot hi hk hsl)
theorem AWL.freeze {n c k : Nat} {A : Option Addr} {e : TypeId} {cs : List T} (i s : Nat) (hi : S[i]? = some (.row A n c e k cs)) (hk : 0 < k) (hsl : get s env = some (true, .v (.slice A n c))) (h : AWL cx ops l K ((s, true, .sl k cs) :: env) (S.eraseIdx i)) : AWL cx ops l K env S := fun a w hs => h a w (hs.freezeSlot hi hk hsl)
end
theorem retI {env : Env} {S : St} {P : Program} {rs : List ResultVar} {R : T → St → Prop} {l : List T} (h : Res P env S rs l) (hR : R (tupOf l) S) : retQ P rs R .ret env S := ⟨.inl rfl, l, h, hR⟩
theorem retN {env : Env} {S : St} {P : Program} {rs : List ResultVar} {R : T → St → Prop} {l : List T} (h : Res P env S rs l) (hR : R (tupOf l) S) : retQ P rs R .normal env S := ⟨.inr rfl, l, h, hR⟩
end Go.Proofs.YtjndpakhmgapjaaDoor
