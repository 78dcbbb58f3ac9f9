/-
  TEXTS JOINED: Aw9, Aw10, Aw11, Aw12, Aw13, Aw15, Aw16, Aw17, Aw18, Aw19.
-/
import Derived.Orders
import Derived.Lib.AppendZerosOnto
import Derived.Laws.IdiomCopy
import Derived.Laws.StructEq
import Derived.Laws.Strings
import Derived.MapKept
import Derived.Lib.UnsafeStr
import Derived.Lib.Bytealg
import Derived.Laws.Pointers
import Derived.Defers
import Derived.Test.YtlfklgganokgdaaGreatQa
set_option linter.unusedSimpArgs false
set_option linter.unusedVariables false
set_option linter.unusedSectionVars false
set_option linter.unnecessarySimpa false
set_option maxHeartbeats 64000000
namespace Go.Proofs.YtlfklgganokgdaaGreat
open Go Go.RowKit

def ACalls (P : Program) (f : FuncId) (ts : List T) (S0 : St) (R : T → St → Prop) : Prop :=
 ∀ (X : List Nat) (w : World) (args : List Value), (∀ b ∈ X, b < w.heap.size ∧ b ∉ M S0) → (M S0).Nodup → (∀ e ∈ S0, e.holds w (X ++ M S0)) → args.length = ts.length → (∀ (j : Nat) (t : T) (u : Value), ts[j]? = some t → args[j]? = some u → VRep w (X ++ M S0) t u) →
  Calls P f args.toArray w fun e w' => ∃ v t S', e = .returned v ∧ Keeps (M S0) w w' ∧ (M S').Nodup ∧ (∀ b ∈ M S', b ∈ M S0 ∨ w.heap.size ≤ b) ∧ (∀ e ∈ S', e.holds w' (X ++ M S')) ∧ VRep w' (X ++ M S') t v ∧ R t S'

theorem ACalls.mono {P : Program} {f : FuncId} {ts : List T} {S0 : St} {R R' : T → St → Prop} (h : ACalls P f ts S0 R) (hR : ∀ t S, R t S → R' t S) : ACalls P f ts S0 R' :=
 fun X w args h1 h2 h3 h4 h5 => (h X w args h1 h2 h3 h4 h5).mono fun e w' ⟨v, t, S', a, b, c, d, e, f, r⟩ => ⟨v, t, S', a, b, c, d, e, f, hR _ _ r⟩

theorem ACalls.calls {P : Program} {f : FuncId} {ts : List T} {R : T → St → Prop} (h : ACalls P f ts [] R) {w : World} {args : List Value} (hl : args.length = ts.length) (ha : ∀ (j : Nat) (t : T) (u : Value), ts[j]? = some t → args[j]? = some u → VRep w [] t u) :
    Calls P f args.toArray w fun e w' => ∃ v t S', e = .returned v ∧ Below w.heap.size w w' ∧ VRep w' (M S') t v ∧ R t S' :=
 (h [] w args (fun _ hb => by cases hb) (by simp [M]) (fun _ he => by cases he) hl (by simpa [M] using ha)).mono fun e w' ⟨v, t, S', a, b, c, d, e', f, r⟩ => ⟨v, t, S', a, b.below, by simpa using f, r⟩

def initEnv : Nat → List T → Env
 | _, [] => []
 | i, t :: r => (i, true, t) :: initEnv (i + 1) r
theorem get_initEnv : ∀ (ts : List T) (i k : Nat) (c : Bool) (t : T), get k (initEnv i ts) = some (c, t) → c = true ∧ i ≤ k ∧ ts[k - i]? = some t
 | [], i, k, c, t, h => by simp [initEnv, get] at h
 | t0 :: r, i, k, c, t, h => by
  simp only [initEnv] at h
  rw [get_cons] at h
  split at h
  ·rename_i e
   subst e
   simp only [Option.some.injEq, Prod.mk.injEq] at h
   obtain ⟨rfl, rfl⟩ := h
   exact ⟨rfl, Nat.le_refl _, by simp⟩
  ·obtain ⟨h1, h2, h3⟩ := get_initEnv r (i + 1) k c t h
   refine ⟨h1, by omega, ?_⟩
   have e : k - i = (k - (i + 1)) + 1 := by omega
   rw [e]
   simpa using h3

inductive Res (P : Program) (env : Env) (S : St) : List ResultVar → List T → Prop
 | nil : Res P env S [] []
 | tmp {k : Nat} {t : T} {rs : List ResultVar} {l : List T} (h : get k env = some (true, t)) (hr : Res P env S rs l) : Res P env S (.tmp k :: rs) (t :: l)
 | cellA {p ty n i b bty : Nat} {cs l' : List T} {rs : List ResultVar} {l : List T} (h : get p env = some (true, .v (.pointer (some ⟨b, 0, none⟩)))) (ha : aggSize P ty = some (true, n)) (hi : S[i]? = some (.box b bty cs)) (hl : cs.take n = l') (hn : l'.length = n) (hr : Res P env S rs l) : Res P env S (.cell p ty :: rs) (.agg l' :: l)
 | cell1 {p ty n i b bty : Nat} {cs : List T} {t : T} {rs : List ResultVar} {l : List T} (h : get p env = some (true, .v (.pointer (some ⟨b, 0, none⟩)))) (ha : aggSize P ty = some (false, n)) (hi : S[i]? = some (.box b bty cs)) (hl : cs[0]? = some t) (hr : Res P env S rs l) : Res P env S (.cell p ty :: rs) (t :: l)
def tupV : List Value → Value
 | [u] => u
 | us => .tuple us.toArray
def tupOf : List T → T
 | [t] => t
 | l => .tup l
structure retQ (P : Program) (rs : List ResultVar) (R : T → St → Prop) (e : Exit) (env : Env) (S : St) : Prop where
 exit : e = .ret ∨ e = .normal
 res : ∃ l, Res P env S rs l ∧ R (tupOf l) S

def resV (tmps : Array Value) : ResultVar → Sem Value
 | .tmp t => pure (tmps.getD t undef)
 | .cell p t => do loadVar t (← asAddr (tmps.getD p undef))
theorem Res.vals {cx : Cx} {env : Env} {S : St} {a : Act} {w : World} (hs : Sim cx env S a w) {rs : List ResultVar} {l : List T} (h : Res cx.P env S rs l) :
    ∃ us : List Value, l.length = us.length ∧ (∀ (j : Nat) (t : T) (u : Value), l[j]? = some t → us[j]? = some u → VRep w (cx.X ++ M S) t u) ∧ (rs.mapM (resV a.tmps)).run cx.P w = .ok us w := by
 have step : ∀ {r : ResultVar} {rs : List ResultVar} {t : T} {l : List T} {u : Value}, VRep w (cx.X ++ M S) t u → (resV a.tmps r).run cx.P w = .ok u w → (∃ us : List Value, l.length = us.length ∧ (∀ (j : Nat) (t : T) (u : Value), l[j]? = some t → us[j]? = some u → VRep w (cx.X ++ M S) t u) ∧ (rs.mapM (resV a.tmps)).run cx.P w = .ok us w) →
     ∃ us : List Value, (t :: l).length = us.length ∧ (∀ (j : Nat) (t' : T) (u : Value), (t :: l)[j]? = some t' → us[j]? = some u → VRep w (cx.X ++ M S) t' u) ∧ ((r :: rs).mapM (resV a.tmps)).run cx.P w = .ok us w := by
  rintro r rs t l u h1 h2 ⟨us, e1, e2, e3⟩
  refine ⟨u :: us, by simp [e1], fun j t' u' h3 h4 => ?_, ?_⟩
  ·cases j with
   | zero =>
    simp at h3 h4
    subst h3; subst h4
    exact h1
   | succ j => exact e2 j t' u' (by simpa using h3) (by simpa using h4)
  ·simp only [List.mapM_cons, h2, Sem.run_bind, Sem.run_pure, Result.andThen_ok, e3]
 induction h with
 | nil => exact ⟨[], rfl, fun j t u h => by simp at h, rfl⟩
 | tmp h hr ih => exact step ((hs.slots _ true _ h).1 rfl) rfl ih
 | @cellA p ty n i b bty cs l' rs l h ha hi hl hn hr ih =>
  obtain ⟨us, hh, hV⟩ := hs.box hi
  have hp := ((hs.slots _ true _ h).1 rfl).v_inv
  have hV' := hV.take n
  rw [hl] at hV'
  refine step (u := .agg (us.take n).toArray) (.agg hV'.len hV'.at_ hV'.one) ?_ ih
  have hrun := run_loadAt_agg (ad := ⟨b, 0, none⟩) ha (us := us.take n) (by rw [← hV'.len, hn]) w (fun j u hj => by
   rw [List.getElem?_take] at hj
   split at hj
   ·rw [add_lit', Nat.zero_add, cell_of_heap hh, hj]
   ·cases hj)
  simp only [Instr.loadAt, Instr.sureAddr, Sem.run_bind, Sem.run_pure, Result.andThen_ok] at hrun
  simp only [resV, hp, asAddr, Sem.run_bind, Sem.run_pure, Result.andThen_ok]
  exact hrun
 | cell1 h ha hi hl hr ih =>
  obtain ⟨us, hh, hV⟩ := hs.box hi
  have hp := ((hs.slots _ true _ h).1 rfl).v_inv
  obtain ⟨u, h1, h2, _⟩ := hV.get hl
  refine step h2 ?_ ih
  have hrun := run_loadAt_one ha w (by rw [cell_of_heap hh, h1])
  simp only [Instr.loadAt, Instr.sureAddr, Sem.run_bind, Sem.run_pure, Result.andThen_ok] at hrun
  simp only [resV, hp, asAddr, Sem.run_bind, Sem.run_pure, Result.andThen_ok]
  exact hrun
theorem results_list {fn : Func} {tmps : Array Value} {P : Program} {w : World} {us : List Value} (h : (fn.results.toList.mapM (resV tmps)).run P w = .ok us w) :
    (results fn tmps).run P w = .ok (tupV us) w := by
 have he : results fn tmps = (do let vs ← fn.results.mapM (resV tmps); pure (if h : vs.size = 1 then vs[0] else .tuple vs)) := by
  unfold results
  congr 2
 rw [he]
 simp only [Array.mapM_eq_mapM_toList, Sem.run_bind, Sem.run_map, Sem.run_pure]
 rw [h]
 simp only [Result.andThen_ok]
 cases us with
 | nil => rfl
 | cons u r => cases r <;> simp [tupV]

theorem ACalls.intro {P : Program} {f : FuncId} {fn : Func} {c : Code} {ts : List T} {S0 : St} {R : T → St → Prop} {N : Nat} {rs : List ResultVar} (hf : P.funcs[f]? = some fn) (hb : fn.body = some c) (hN : fn.ntmps = N) (hlen : ts.length ≤ N) (hrs : fn.results.toList = rs)
    (h : ∀ (X : List Nat) (w0 : World), AW ⟨P, X, M S0, w0, N, []⟩ c (retQ P rs R) (initEnv 0 ts) S0) : ACalls P f ts S0 R := by
 intro X w args h1 h2 h3 h4 h5
 refine calls_of_wp hf hb ?_
 have hs : Sim ⟨P, X, M S0, w, N, []⟩ (initEnv 0 ts) S0 { tmps := args.toArray ++ Array.replicate (fn.ntmps - args.toArray.size) undef, defers := [] } w := by
  refine ⟨Keeps.refl _ _, h2, fun b hb => .inl hb, h1, h3, ?_, rfl, fun k c t hk => ?_⟩
  ·simp [hN]; omega
  ·obtain ⟨rfl, -, e⟩ := get_initEnv ts 0 k c t hk
   refine ⟨fun _ => ?_, fun h => by cases h⟩
   rw [Nat.sub_zero] at e
   have hkl : k < args.length := h4 ▸ (List.getElem?_eq_some_iff.1 e).1
   have : (args.toArray ++ Array.replicate (fn.ntmps - args.toArray.size) undef).getD k undef = args[k] := by
    rw [Array.getD_eq_getD_getElem?, Array.getElem?_append_left (by simpa using hkl)]
    simp [hkl]
   rw [this]
   exact h5 k t _ e (List.getElem?_eq_getElem hkl)
 refine Code.wp_mono (fun e a w' hq => ?_) (h X w _ _ hs)
 obtain ⟨env', S', hs', he, l, hl, hR⟩ := hq
 subst hrs
 obtain ⟨us, e1, e2, e3⟩ := Res.vals (cx := ⟨P, X, M S0, w, N, []⟩) hs' hl
 have hrun := results_list e3
 have hv : VRep w' (X ++ M S') (tupOf l) (tupV us) := by
  match l, us, e1, e2 with
  | [], [], _, e2 => exact .tup rfl e2
  | [t], [u], _, e2 => exact e2 0 t u rfl rfl
  | t :: t' :: r, u :: u' :: r', e1, e2 => exact .tup (by simpa using e1) e2
 have hR' : ∃ v t S'', (Ending.returned (tupV us)) = .returned v ∧ Keeps (M S0) w w' ∧ (M S'').Nodup ∧ (∀ b ∈ M S'', b ∈ M S0 ∨ w.heap.size ≤ b) ∧ (∀ e ∈ S'', e.holds w' (X ++ M S'')) ∧ VRep w' (X ++ M S'') t v ∧ R t S'' :=
  ⟨_, _, S', rfl, hs'.keeps, hs'.nd, hs'.fresh, hs'.ents, hv, hR⟩
 rcases he with rfl | rfl
 ·exact ⟨hs'.defers, _, hrun, hR'⟩
 exact ⟨hs'.defers, _, hrun, hR'⟩

section
variable {cx : Cx} {env : Env} {S : St} {o : Oper} {g : Bool} {x y z : Operand} {ops : Array Oper} {l : List Oper} {K : Env → St → Prop} {Q : Exit → Env → St → Prop} {d : Nat}

/-! ### Calls -/
def Evs (env : Env) (g : Bool) : List Operand → List T → Prop
 | [], [] => True
 | x :: r, t :: r' => Ev env g x t ∧ Evs env g r r'
 | _, _ => False
theorem Evs.spec {a : Act} {w : World} (hs : Sim cx env S a w) (hg : g = true) : ∀ {xs : List Operand} {ts : List T}, Evs env g xs ts → (xs.map a.eval).length = ts.length ∧ ∀ (j : Nat) (t : T) (u : Value), ts[j]? = some t → (xs.map a.eval)[j]? = some u → VRep w (cx.X ++ M S) t u
 | [], [], _ => ⟨rfl, fun j t u h => by simp at h⟩
 | [], _ :: _, h => h.elim
 | _ :: _, [], h => h.elim
 | x :: r, t :: r', h => by
  obtain ⟨h1, h2⟩ := h
  obtain ⟨e1, e2⟩ := Evs.spec hs hg h2
  refine ⟨by simpa using e1, fun j t' u' h3 h4 => ?_⟩
  cases j with
  | zero =>
   simp at h3 h4
   subst h3; subst h4
   exact h1.rep hs hg
  | succ j => exact e2 j t' u' (by simpa using h3) (by simpa using h4)
def calleeB (P : Program) (f : FuncId) : Bool :=
 match P.funcs[f]? with
 | some fn => !(fn.name == "runtime.NumGoroutine") && fn.body.isSome
 | none => false
theorem run_callFunc' {P : Program} {f : FuncId} (h : calleeB P f = true) (args : Array Value) (w : World) : (callFunc f args).run P w = .ok (.enter f args) w := by
 unfold calleeB at h
 split at h
 ·rename_i fn hf
  simp only [Bool.and_eq_true, Bool.not_eq_true', beq_eq_false_iff_ne, ne_eq] at h
  obtain ⟨h1, h2⟩ := h
  obtain ⟨c, hc⟩ := Option.isSome_iff_exists.1 h2
  simp [callFunc, hf, h1, hc]
 cases h
theorem exec_call {ρ : Operand → Value} {P : Program} {f : FuncId} {xf : Operand} {xs : Array Operand} {ats : Array TypeId} {fst cap : Array Value} (ho : o.op = .call { callee := .value xf, args := xs, argTypes := ats }) (hf : calleeB P f = true) (hx : ρ xf = .func (.func f) fst cap) (w : World) :
    (execOp ρ o).run P w = .ok (.enter f (fst.toList ++ (xs.toList.map ρ ++ cap.toList)).toArray) w := by
 have e : (fst ++ xs.map ρ) ++ cap = (fst.toList ++ (xs.toList.map ρ ++ cap.toList)).toArray := by
  apply Array.ext'
  simp
 simp only [execOp, ho, resolve, Deferred.ofValue, hx, Sem.run_bind, Sem.run_pure, Result.andThen_ok, invoke]
 rw [e]
 exact run_callFunc' hf _ w
theorem vals_spec {w : World} {L : List Nat} {fst cap us : List Value} {ts : List T} (hl : us.length = ts.length) (h : ∀ (j : Nat) (t : T) (u : Value), ts[j]? = some t → us[j]? = some u → VRep w L t u) :
    (fst ++ (us ++ cap)).length = (fst.map T.v ++ (ts ++ cap.map T.v)).length ∧ ∀ (j : Nat) (t : T) (u : Value), (fst.map T.v ++ (ts ++ cap.map T.v))[j]? = some t → (fst ++ (us ++ cap))[j]? = some u → VRep w L t u := by
 have hv : ∀ (vs : List Value) (j : Nat) (t : T) (u : Value), (vs.map T.v)[j]? = some t → vs[j]? = some u → VRep w L t u := fun vs j t u h1 h2 => by
  rw [List.getElem?_map, h2] at h1
  simp only [Option.map_some, Option.some.injEq] at h1
  subst h1
  exact .v u
 refine ⟨by simp [hl], fun j t u h1 h2 => ?_⟩
 by_cases e1 : j < fst.length
 ·rw [List.getElem?_append_left (by simpa using e1)] at h1
  rw [List.getElem?_append_left e1] at h2
  exact hv _ j t u h1 h2
 rw [List.getElem?_append_right (by simpa using e1), List.length_map] at h1
 rw [List.getElem?_append_right (by omega)] at h2
 by_cases e2 : j - fst.length < ts.length
 ·rw [List.getElem?_append_left e2] at h1
  rw [List.getElem?_append_left (hl ▸ e2)] at h2
  exact h _ t u h1 h2
 rw [List.getElem?_append_right (by omega)] at h1
 rw [List.getElem?_append_right (by omega), hl] at h2
 exact hv _ _ t u h1 h2

theorem Sim.called {S1 S2 S' : St} {a : Act} {w w' : World} (hs : Sim cx env (S1 ++ S2) a w) (hk : Keeps (M S1) w w') (hnd : (M S').Nodup) (hfr : ∀ b ∈ M S', b ∈ M S1 ∨ w.heap.size ≤ b) (hent : ∀ e ∈ S', e.holds w' ((cx.X ++ M S2) ++ M S')) : Sim cx env (S' ++ S2) a w' := by
 have hM : M (S1 ++ S2) = M S1 ++ M S2 := M_append S1 S2
 have hnd0 := hs.nd
 rw [hM, List.nodup_append] at hnd0
 have hk' : Keeps (M (S1 ++ S2)) w w' := hk.mono (fun x hx _ => by rw [hM]; exact List.mem_append.2 (.inl hx))
 have hfr' : ∀ b ∈ M (S' ++ S2), b ∈ M (S1 ++ S2) ∨ w.heap.size ≤ b := fun b hb => by
  rw [M_append] at hb
  rw [hM]
  rcases List.mem_append.1 hb with hb | hb
  ·rcases hfr b hb with h | h
   ·exact .inl (List.mem_append.2 (.inl h))
   ·exact .inr h
  ·exact .inl (List.mem_append.2 (.inr hb))
 have h2lt : ∀ b ∈ M S2, b < w.heap.size := fun b hb => hs.lt (by rw [hM]; exact List.mem_append.2 (.inr hb))
 refine hs.step hk' ?_ hfr' (fun e he => ?_)
 ·rw [M_append, List.nodup_append]
  refine ⟨hnd, hnd0.2.1, fun p hp q hq => ?_⟩
  rcases hfr p hp with h | h
  ·exact hnd0.2.2 p h q hq
  have := h2lt q hq
  omega
 rcases List.mem_append.1 he with he | he
 ·refine (hent e he).mono (Nat.le_refl _) (fun _ _ => rfl) (fun _ _ _ => rfl) (fun b _ hm => ?_)
  rw [M_append] at hm
  simp only [List.mem_append] at hm ⊢
  rcases hm with h | h | h
  ·exact .inl (.inl h)
  ·exact .inr h
  exact .inl (.inr h)
 refine hs.ent hk' hfr' (List.mem_append.2 (.inr he)) (fun b hb => ?_)
 have hb2 : b ∈ M S2 := mem_M.2 ⟨e, he, hb⟩
 exact hk.block b (h2lt b hb2) (fun h1 => hnd0.2.2 b h1 b hb2 rfl)
theorem Sim.forCall {S1 S2 : St} {a : Act} {w : World} (hs : Sim cx env (S1 ++ S2) a w) : (∀ b ∈ cx.X ++ M S2, b < w.heap.size ∧ b ∉ M S1) ∧ (M S1).Nodup ∧ (∀ e ∈ S1, e.holds w ((cx.X ++ M S2) ++ M S1)) ∧ ∀ t u, VRep w (cx.X ++ M (S1 ++ S2)) t u → VRep w ((cx.X ++ M S2) ++ M S1) t u := by
 have hM : M (S1 ++ S2) = M S1 ++ M S2 := M_append S1 S2
 have hnd0 := hs.nd
 rw [hM, List.nodup_append] at hnd0
 have hL : ∀ b, b < w.heap.size → b ∈ (cx.X ++ M S2) ++ M S1 → b ∈ cx.X ++ M (S1 ++ S2) := fun b _ hm => by
  rw [hM]
  simp only [List.mem_append] at hm ⊢
  rcases hm with (h | h) | h
  ·exact .inl h
  ·exact .inr (.inr h)
  ·exact .inr (.inl h)
 refine ⟨fun b hb => ⟨hs.ltX ?_, fun h1 => ?_⟩, hnd0.1, fun e he => ?_, fun t u h => h.mono (Nat.le_refl _) (fun _ _ _ => rfl) hL⟩
 ·rw [hM]
  simp only [List.mem_append] at hb ⊢
  rcases hb with h | h
  ·exact .inl h
  exact .inr (.inr h)
 ·rcases List.mem_append.1 hb with h | h
  ·exact hs.notX (b := b) (by rw [hM]; exact List.mem_append.2 (.inl h1)) h
  exact hnd0.2.2 b h1 b h rfl
 exact (hs.ents e (List.mem_append.2 (.inl he))).mono (Nat.le_refl _) (fun _ _ => rfl) (fun _ _ _ => rfl) hL

theorem AWL.call {f : FuncId} {xf : Operand} {xs : Array Operand} {ats : Array TypeId} {fst cap : Array Value} {ts : List T} {S1 S2 : St} {R : T → St → Prop} (hg : o.guard = none) (hd : o.dst = some d) (hN : d < cx.N)
    (ho : o.op = .call { callee := .value xf, args := xs, argTypes := ats }) (hf : calleeB cx.P f = true) (hxf : Ev env true xf (.v (.func (.func f) fst cap))) (hx : Evs env true xs.toList ts) (hS : S = S1 ++ S2)
    (hc : ACalls cx.P f (fst.toList.map T.v ++ (ts ++ cap.toList.map T.v)) S1 R) (hr : ∀ t S', R t S' → AWL cx ops l K ((d, true, t) :: env) (S' ++ S2)) : AWL cx ops (o :: l) K env S := by
 subst hS
 intro a w hs
 unfold wpList
 rw [if_pos (wanted_none hg)]
 refine .inl ?_
 unfold Oper.wp
 rw [exec_call ho hf (hxf.val hs rfl), Oper.upon_enter]
 obtain ⟨e1, e2⟩ := hx.spec hs rfl
 obtain ⟨c1, c2, c3, c4⟩ := hs.forCall
 obtain ⟨v1, v2⟩ := vals_spec (fst := fst.toList) (cap := cap.toList) e1 (fun j t u h1 h2 => c4 t u (e2 j t u h1 h2))
 refine (hc (cx.X ++ M S2) w _ c1 c2 c3 v1 v2).mono ?_
 rintro e w' ⟨v, t, S', rfl, hk, hnd, hfr, hent, hv, hR⟩
 have hs' := hs.called hk hnd hfr hent
 rw [hd]
 refine hr t S' hR _ _ (hs'.put hN (fun _ => ?_) (by simp))
 refine hv.mono (Nat.le_refl _) (fun _ _ _ => rfl) (fun b _ hm => ?_)
 rw [M_append] at hm
 simp only [List.mem_append] at hm ⊢
 rcases hm with h | h | h
 ·exact .inl (.inl h)
 ·exact .inr h
 exact .inl (.inr h)

theorem call_plain {f : FuncId} {xf : Operand} {xs : Array Operand} {ats : Array TypeId} {fst cap : Array Value} {ts : List T} {R : T → St → Prop} {r : Value} (ho : o.op = .call { callee := .value xf, args := xs, argTypes := ats }) (hf : calleeB cx.P f = true)
    (hxf : Ev env g xf (.v (.func (.func f) fst cap))) (hx : Evs env g xs.toList ts) (hc : g = true → ACalls cx.P f (fst.toList.map T.v ++ (ts ++ cap.toList.map T.v)) [] R) (hq : ∀ t S', R t S' → t = .v r) {a : Act} {w : World} (hs : Sim cx env S a w) (hgt : g = true) (w1 : World) (hk1 : Keeps [] w w1) :
    ∃ args, (execOp a.eval o).run cx.P w1 = .ok (.enter f args) w1 ∧ Calls cx.P f args w1 fun e w'' => e = .returned r ∧ Keeps [] w w'' := by
 refine ⟨_, exec_call ho hf (hxf.val hs hgt) w1, ?_⟩
 have hs1 := hs.more hk1
 obtain ⟨e1, e2⟩ := hx.spec hs hgt
 obtain ⟨c1, c2, c3, c4⟩ := Sim.forCall (S1 := []) (S2 := S) hs1
 obtain ⟨v1, v2⟩ := vals_spec (fst := fst.toList) (cap := cap.toList) e1 (fun j t u h1 h2 => c4 t u (hs.repMore hk1 (e2 j t u h1 h2)))
 refine (hc hgt (cx.X ++ M S) w1 _ c1 c2 c3 v1 v2).mono ?_
 rintro e w' ⟨v, t, S', rfl, hk, hnd, hfr, hent, hv, hR⟩
 obtain rfl := hq t S' hR
 exact ⟨by rw [hv.v_inv], hk1.trans hk (by simp [M])⟩
theorem AWL.callP {f : FuncId} {xf : Operand} {xs : Array Operand} {ats : Array TypeId} {fst cap : Array Value} {ts : List T} {R : T → St → Prop} {r : Value} (hg : o.guard = none) (hd : o.dst = some d) (hN : d < cx.N)
    (ho : o.op = .call { callee := .value xf, args := xs, argTypes := ats }) (hf : calleeB cx.P f = true) (hxf : Ev env true xf (.v (.func (.func f) fst cap))) (hx : Evs env true xs.toList ts)
    (hc : ACalls cx.P f (fst.toList.map T.v ++ (ts ++ cap.toList.map T.v)) [] R) (hq : ∀ t S', R t S' → t = .v r) (hr : AWL cx ops l K ((d, true, .v r) :: env) S) : AWL cx ops (o :: l) K env S := by
 intro a w hs
 unfold wpList
 rw [if_pos (wanted_none hg)]
 refine .inl ?_
 unfold Oper.wp
 obtain ⟨args, h1, h2⟩ := call_plain (g := true) ho hf hxf hx (fun _ => hc) hq hs rfl w (Keeps.refl _ _)
 rw [h1, Oper.upon_enter, hd]
 refine h2.mono ?_
 rintro e w' ⟨rfl, hk⟩
 exact hr _ _ ((hs.more hk).put hN (fun _ => .v r) (by simp))
theorem AWL.callPg {f : FuncId} {xf : Operand} {xs : Array Operand} {ats : Array TypeId} {fst cap : Array Value} {ts : List T} {R : T → St → Prop} {r : Value} {j dj : Nat} {c b want : Bool} (hg : o.guard = some (j, want)) (hj : (ops[j]?).bind (·.dst) = some dj) (hk : get dj env = some (c, .v (.bool b)))
    (hd : o.dst = some d) (hN : d < cx.N) (ho : o.op = .call { callee := .value xf, args := xs, argTypes := ats }) (hf : calleeB cx.P f = true) (hxf : Ev env (c && (b == want)) xf (.v (.func (.func f) fst cap))) (hx : Evs env (c && (b == want)) xs.toList ts)
    (hc : (c && (b == want)) = true → ACalls cx.P f (fst.toList.map T.v ++ (ts ++ cap.toList.map T.v)) [] R) (hq : ∀ t S', R t S' → t = .v r) (hr : AWL cx ops l K ((d, (c && (b == want)), .v r) :: env) S) : AWL cx ops (o :: l) K env S := by
 intro a w hs
 unfold wpList
 rw [hs.guard hg hj hk]
 cases hcc : (c && (b == want)) with
 | true =>
  rw [if_pos rfl]
  refine .inl ?_
  unfold Oper.wp
  obtain ⟨args, h1, h2⟩ := call_plain (g := c && (b == want)) ho hf hxf hx hc hq hs hcc w (Keeps.refl _ _)
  rw [h1, Oper.upon_enter, hd]
  refine h2.mono ?_
  rintro e w' ⟨rfl, hk⟩
  exact hr _ _ ((hs.more hk).put hN (fun _ => .v r) (fun e => by rw [hcc] at e; cases e))
 | false =>
  rw [if_neg (by simp), hd]
  exact hr _ _ (hs.put hN (fun e => by rw [hcc] at e; cases e) (fun _ => rfl))
/-! ### What is known, said otherwise -/
theorem Sim.retype {a : Act} {w : World} (hs : Sim cx env S a w) {k : Nat} {c : Bool} {t t' : T} (hk : get k env = some (c, t)) (ht : ∀ w L u, VRep w L t u → VRep w L t' u) : Sim cx ((k, c, t') :: env) S a w :=
 ⟨hs.keeps, hs.nd, hs.fresh, hs.far, hs.ents, hs.size, hs.defers, fun j c' t'' hj => by
  rw [get_cons] at hj
  split at hj
  ·rename_i e
   subst e
   simp only [Option.some.injEq, Prod.mk.injEq] at hj
   obtain ⟨rfl, rfl⟩ := hj
   exact ⟨fun h => ht _ _ _ ((hs.slots j c t hk).1 h), (hs.slots j c t hk).2⟩
  ·exact hs.slots j c' t'' hj⟩
theorem AW.retype {code : Code} {k : Nat} {c : Bool} {t t' : T} (hk : get k env = some (c, t)) (ht : ∀ w L u, VRep w L t u → VRep w L t' u) (h : AW cx code Q ((k, c, t') :: env) S) : AW cx code Q env S := fun a w hs => h a w (hs.retype hk ht)
theorem nil_sl {k c : Nat} {A : Option Addr} (hc : c ≤ maxLen) : ∀ w L u, VRep w L (.v (.slice A 0 c)) u → VRep w L (.sl k []) u := by
 intro w L u h
 cases h
 exact .sl0 hc

theorem Sim.rowNil {a : Act} {w : World} (hs : Sim cx env S a w) (e : TypeId) (k : Nat) : Sim cx env (S ++ [.row none 0 0 e k []]) a w := by
 have hM : M (S ++ [Ent.row none 0 0 e k []]) = M S := by rw [M_append]; simp [M, Ent.blk]
 refine hs.step (Keeps.refl _ _) (by rw [hM]; exact hs.nd) (fun b hb => .inl (hM ▸ hb)) (fun f hf => ?_)
 rw [hM]
 rcases List.mem_append.1 hf with hf | hf
 ·exact hs.ents f hf
 rw [List.mem_singleton] at hf
 subst hf
 exact ⟨[], ⟨by simp, by unfold maxLen; omega, Nat.le_refl _, .inl ⟨rfl, rfl, rfl⟩⟩, .nil⟩
theorem AW.rowNil {code : Code} (e : TypeId) (k : Nat) (h : AW cx code Q env (S ++ [.row none 0 0 e k []])) : AW cx code Q env S := fun a w hs => h a w (hs.rowNil e k)
theorem Sim.freeze {a : Act} {w : World} (hs : Sim cx env S a w) {i n c k : Nat} {A : Option Addr} {e : TypeId} {cs : List T} (hi : S[i]? = some (.row A n c e k cs)) (hk : 0 < k) : Sim cx env (S.eraseIdx i) a w ∧ VRep w (cx.X ++ M (S.eraseIdx i)) (.sl k cs) (.slice A n c) := by
 have hsub : (S.eraseIdx i).Sublist S := List.eraseIdx_sublist S i
 have hMs : (M (S.eraseIdx i)).Sublist (M S) := hsub.filterMap _
 have hs' := hs.drop hsub
 refine ⟨hs', ?_⟩
 obtain ⟨us, hr, hV⟩ := hs.row hi
 have hil : i < S.length := (List.getElem?_eq_some_iff.1 hi).1
 have hSi : S[i] = .row A n c e k cs := by
  rw [List.getElem?_eq_getElem hil] at hi
  exact Option.some.inj hi
 have hV' : VReps w (cx.X ++ M (S.eraseIdx i)) cs us := hV.mono (Nat.le_refl _) (fun _ _ _ => rfl) (fun b _ hm => by
  rcases List.mem_append.1 hm with h | h
  ·exact List.mem_append.2 (.inl h)
  ·exact List.mem_append.2 (.inr (hMs.subset h)))
 rcases hr.2.2.2 with ⟨rfl, rfl, rfl⟩ | ⟨gb, cur, fr, rfl, hh, _, _, htk⟩
 ·obtain rfl : us = [] := List.eq_nil_of_length_eq_zero (by simpa using hr.1)
  obtain rfl : cs = [] := List.eq_nil_of_length_eq_zero (by simpa using hV.len)
  exact .sl0 hr.2.1
 refine sl_new hk (by rw [hV.len, hr.1]) hr.2.2.1 hr.2.1 hV' hh (fun hm => ?_) (by rw [hr.1]; exact htk)
 have hgM : gb ∈ M S := mem_M.2 ⟨_, List.mem_of_getElem? hi, rfl⟩
 rcases List.mem_append.1 hm with h | h
 ·exact hs.notX hgM h
 obtain ⟨f, hf, hfb⟩ := mem_M.1 h
 rw [List.mem_eraseIdx_iff_getElem] at hf
 obtain ⟨j, hj, hne, rfl⟩ := hf
 exact absurd hs.nd (nodup_absurd (fun e => hne e.symm) hil hj (by rw [hSi]; rfl) hfb)
theorem Sim.freezeSlot {a : Act} {w : World} (hs : Sim cx env S a w) {i n c k s : Nat} {A : Option Addr} {e : TypeId} {cs : List T} (hi : S[i]? = some (.row A n c e k cs)) (hk : 0 < k) (hsl : get s env = some (true, .v (.slice A n c))) : Sim cx ((s, true, .sl k cs) :: env) (S.eraseIdx i) a w := by
 obtain ⟨h1, h2⟩ := hs.freeze hi hk
 refine ⟨h1.keeps, h1.nd, h1.fresh, h1.far, h1.ents, h1.size, h1.defers, fun j c' t' hj => ?_⟩
 rw [get_cons] at hj
 split at hj
 ·rename_i e
  subst e
  simp only [Option.some.injEq, Prod.mk.injEq] at hj
  obtain ⟨rfl, rfl⟩ := hj
  refine ⟨fun _ => ?_, fun h => by cases h⟩
  have := ((hs.slots j true _ hsl).1 rfl).v_inv
  rw [this]
  exact h2
 exact h1.slots j c' t' hj
theorem AW.freeze {code : Code} {n c k : Nat} {A : Option Addr} {e : TypeId} {cs : List T} (i s : Nat) (hi : S[i]? = some (.row A n c e k cs)) (hk : 0 < k) (hsl : get s env = some (true, .v (.slice A n c))) (h : AW cx code Q ((s, true, .sl k cs) :: env) (S.eraseIdx i)) : AW cx code Q env S := fun a w hs => h a w (hs.freezeSlot hi hk hsl)
theorem AWL.freeze {n c k : Nat} {A : Option Addr} {e : TypeId} {cs : List T} (i s : Nat) (hi : S[i]? = some (.row A n c e k cs)) (hk : 0 < k) (hsl : get s env = some (true, .v (.slice A n c))) (h : AWL cx ops l K ((s, true, .sl k cs) :: env) (S.eraseIdx i)) : AWL cx ops l K env S := fun a w hs => h a w (hs.freezeSlot hi hk hsl)
end
theorem retI {env : Env} {S : St} {P : Program} {rs : List ResultVar} {R : T → St → Prop} {l : List T} (h : Res P env S rs l) (hR : R (tupOf l) S) : retQ P rs R .ret env S := ⟨.inl rfl, l, h, hR⟩
theorem retN {env : Env} {S : St} {P : Program} {rs : List ResultVar} {R : T → St → Prop} {l : List T} (h : Res P env S rs l) (hR : R (tupOf l) S) : retQ P rs R .normal env S := ⟨.inr rfl, l, h, hR⟩

theorem B {a b : Nat} (h : Nat.ble (a + 1) b = true) : a < b := Nat.le_of_ble_eq_true h
theorem ar {a b : Bool} (h : (a && b) = true) : b = true := (Bool.and_eq_true_iff.1 h).2

section
variable {cx : Cx} {env : Env} {S : St} {o : Oper} {g : Bool} {x y z : Operand} {ops : Array Oper} {l : List Oper} {K : Env → St → Prop} {Q : Exit → Env → St → Prop} {d : Nat}

theorem evs0 : Evs env g [] [] := trivial
theorem evsC {t : T} {xs : List Operand} {ts : List T} (h : Ev env g x t) (hr : Evs env g xs ts) : Evs env g (x :: xs) (t :: ts) := ⟨h, hr⟩
theorem evp0 : EvParts env g [] [] := trivial
theorem evpC {t : T} {i : Nat} {xs : List (Nat × Operand)} {ts : List (Nat × T)} (h : Ev env g x t) (hr : EvParts env g xs ts) : EvParts env g ((i, x) :: xs) ((i, t) :: ts) := ⟨rfl, h, hr⟩
theorem E {t : T} (h : ev env x = some (true, t)) (hp : plainConst x = true) : Ev env g x t := ⟨true, h, hp, fun _ => rfl⟩
theorem Eg {c : Bool} {t : T} (h : ev env x = some (c, t)) (hp : plainConst x = true) (hc : g = true → c = true) : Ev env g x t := ⟨c, h, hp, hc⟩

theorem AWL.ygT {j dj : Nat} {t : T} {c b : Bool} (hg : o.guard = some (j, true)) (hj : (ops[j]?).bind (·.dst) = some dj) (hk : get dj env = some (c, .v (.bool b)))
    (hd : o.dst = some d) (hN : d < cx.N) (h : Yv cx o env S (c && b) t) (hr : AWL cx ops l K ((d, (c && b), t) :: env) S) : AWL cx ops (o :: l) K env S := by
 have e : (c && (b == true)) = (c && b) := by cases b <;> rfl
 exact AWL.yg hg hj hk hd hN (e ▸ h) (e ▸ hr)
theorem AWL.ygF {j dj : Nat} {t : T} {c b : Bool} (hg : o.guard = some (j, false)) (hj : (ops[j]?).bind (·.dst) = some dj) (hk : get dj env = some (c, .v (.bool b)))
    (hd : o.dst = some d) (hN : d < cx.N) (h : Yv cx o env S (c && !b) t) (hr : AWL cx ops l K ((d, (c && !b), t) :: env) S) : AWL cx ops (o :: l) K env S := by
 have e : (c && (b == false)) = (c && !b) := by cases b <;> rfl
 exact AWL.yg hg hj hk hd hN (e ▸ h) (e ▸ hr)
theorem AWQ.ygT {j dj : Nat} {t : T} {c b : Bool} (hg : o.guard = some (j, true)) (hj : (ops[j]?).bind (·.dst) = some dj) (hk : get dj env = some (c, .v (.bool b)))
    (hd : o.dst = some d) (hN : d < cx.N) (h : Yv cx o env S (c && b) t) (hr : AWQ cx ops l K ((d, (c && b), t) :: env) S) : AWQ cx ops (o :: l) K env S := by
 have e : (c && (b == true)) = (c && b) := by cases b <;> rfl
 exact AWQ.yg hg hj hk hd hN (e ▸ h) (e ▸ hr)
theorem AWQ.ygF {j dj : Nat} {t : T} {c b : Bool} (hg : o.guard = some (j, false)) (hj : (ops[j]?).bind (·.dst) = some dj) (hk : get dj env = some (c, .v (.bool b)))
    (hd : o.dst = some d) (hN : d < cx.N) (h : Yv cx o env S (c && !b) t) (hr : AWQ cx ops l K ((d, (c && !b), t) :: env) S) : AWQ cx ops (o :: l) K env S := by
 have e : (c && (b == false)) = (c && !b) := by cases b <;> rfl
 exact AWQ.yg hg hj hk hd hN (e ▸ h) (e ▸ hr)

theorem AWL.callPgT {f : FuncId} {xf : Operand} {xs : Array Operand} {ats : Array TypeId} {fst cap : Array Value} {ts : List T} {R : T → St → Prop} {r : Value} {j dj : Nat} {c b : Bool} (hg : o.guard = some (j, true)) (hj : (ops[j]?).bind (·.dst) = some dj) (hk : get dj env = some (c, .v (.bool b)))
    (hd : o.dst = some d) (hN : d < cx.N) (ho : o.op = .call { callee := .value xf, args := xs, argTypes := ats }) (hf : calleeB cx.P f = true) (hxf : Ev env (c && b) xf (.v (.func (.func f) fst cap))) (hx : Evs env (c && b) xs.toList ts)
    (hc : (c && b) = true → ACalls cx.P f (fst.toList.map T.v ++ (ts ++ cap.toList.map T.v)) [] R) (hq : ∀ t S', R t S' → t = .v r) (hr : AWL cx ops l K ((d, (c && b), .v r) :: env) S) : AWL cx ops (o :: l) K env S := by
 have e : (c && (b == true)) = (c && b) := by cases b <;> rfl
 exact AWL.callPg hg hj hk hd hN ho hf (e ▸ hxf) (e ▸ hx) (fun h => hc (e ▸ h)) hq (e ▸ hr)

theorem AWL.callPgF {f : FuncId} {xf : Operand} {xs : Array Operand} {ats : Array TypeId} {fst cap : Array Value} {ts : List T} {R : T → St → Prop} {r : Value} {j dj : Nat} {c b : Bool} (hg : o.guard = some (j, false)) (hj : (ops[j]?).bind (·.dst) = some dj) (hk : get dj env = some (c, .v (.bool b)))
    (hd : o.dst = some d) (hN : d < cx.N) (ho : o.op = .call { callee := .value xf, args := xs, argTypes := ats }) (hf : calleeB cx.P f = true) (hxf : Ev env (c && !b) xf (.v (.func (.func f) fst cap))) (hx : Evs env (c && !b) xs.toList ts)
    (hc : (c && !b) = true → ACalls cx.P f (fst.toList.map T.v ++ (ts ++ cap.toList.map T.v)) [] R) (hq : ∀ t S', R t S' → t = .v r) (hr : AWL cx ops l K ((d, (c && !b), .v r) :: env) S) : AWL cx ops (o :: l) K env S := by
 have e : (c && (b == false)) = (c && !b) := by cases b <;> rfl
 exact AWL.callPg hg hj hk hd hN ho hf (e ▸ hxf) (e ▸ hx) (fun h => hc (e ▸ h)) hq (e ▸ hr)

theorem Yv.quoN_i8 {ty yt : TypeId} {p q : Int} (ho : o.op = .binOp .quo ty x y yt) (hx : Ev env g x (.v (.int .i8 p))) (hy : Ev env g y (.v (.int .i8 q))) (hb : g = true → 0 ≤ p ∧ p ≤ 127 ∧ 0 < q) : Yv cx o env S g (.v (.int .i8 (p / q))) := by
 intro a w hs hg
 obtain ⟨h0, h1, h2⟩ := hb hg
 have h := Yv.quo (cx := cx) ho hx hy (fun _ => by omega) a w hs hg
 have h3 : p / q ≤ p := Int.ediv_le_self q h0
 have h4 : 0 ≤ p / q := Int.ediv_nonneg h0 (by omega)
 rwa [Int.tdiv_eq_ediv_of_nonneg h0, IntWalk.i8_in _ ⟨by omega, by omega⟩] at h

theorem Yv.addN_i64 {ty yt : TypeId} {p q : Int} (ho : o.op = .binOp .add ty x y yt) (hx : Ev env g x (.v (.int .i64 p))) (hy : Ev env g y (.v (.int .i64 q))) (hb : g = true → -9223372036854775808 ≤ p + q ∧ p + q ≤ 9223372036854775807) : Yv cx o env S g (.v (.int .i64 (p + q))) := by
 intro a w hs hg
 have h := Yv.add (cx := cx) ho hx hy a w hs hg
 rwa [IntWalk.i64_in _ (hb hg)] at h

theorem Yv.subN_i64 {ty yt : TypeId} {p q : Int} (ho : o.op = .binOp .sub ty x y yt) (hx : Ev env g x (.v (.int .i64 p))) (hy : Ev env g y (.v (.int .i64 q))) (hb : g = true → -9223372036854775808 ≤ p - q ∧ p - q ≤ 9223372036854775807) : Yv cx o env S g (.v (.int .i64 (p - q))) := by
 intro a w hs hg
 have h := Yv.sub (cx := cx) ho hx hy a w hs hg
 rwa [IntWalk.i64_in _ (hb hg)] at h

theorem Yv.mulN_i64 {ty yt : TypeId} {p q : Int} (ho : o.op = .binOp .mul ty x y yt) (hx : Ev env g x (.v (.int .i64 p))) (hy : Ev env g y (.v (.int .i64 q))) (hb : g = true → -9223372036854775808 ≤ p * q ∧ p * q ≤ 9223372036854775807) : Yv cx o env S g (.v (.int .i64 (p * q))) := by
 intro a w hs hg
 have h := Yv.mul (cx := cx) ho hx hy a w hs hg
 rwa [IntWalk.i64_in _ (hb hg)] at h

theorem Yv.convN_i64 {src dst : TypeId} {k : IntKind} {p : Int} {d : TypeDesc} (ho : o.op = .convert src dst x) (hs : cx.P.underlying src = some d) (hd : kindOf cx.P dst = some .i64) (hx : Ev env g x (.v (.int k p))) (hb : g = true → -9223372036854775808 ≤ p ∧ p ≤ 9223372036854775807) : Yv cx o env S g (.v (.int .i64 p)) := by
 intro a w hsim hg
 have h := Yv.conv (cx := cx) ho hs hd hx a w hsim hg
 rwa [IntWalk.i64_in _ (hb hg)] at h
theorem Yv.quoN_i64 {ty yt : TypeId} {p q : Int} (ho : o.op = .binOp .quo ty x y yt) (hx : Ev env g x (.v (.int .i64 p))) (hy : Ev env g y (.v (.int .i64 q))) (hb : g = true → 0 ≤ p ∧ p ≤ 9223372036854775807 ∧ 0 < q) : Yv cx o env S g (.v (.int .i64 (p / q))) := by
 intro a w hs hg
 obtain ⟨h0, h1, h2⟩ := hb hg
 have h := Yv.quo (cx := cx) ho hx hy (fun _ => by omega) a w hs hg
 have h3 : p / q ≤ p := Int.ediv_le_self q h0
 have h4 : 0 ≤ p / q := Int.ediv_nonneg h0 (by omega)
 rwa [Int.tdiv_eq_ediv_of_nonneg h0, IntWalk.i64_in _ ⟨by omega, by omega⟩] at h

theorem Yv.convN_u64 {src dst : TypeId} {k : IntKind} {p : Int} {d : TypeDesc} (ho : o.op = .convert src dst x) (hs : cx.P.underlying src = some d) (hd : kindOf cx.P dst = some .u64) (hx : Ev env g x (.v (.int k p))) (hb : g = true → 0 ≤ p ∧ p ≤ 18446744073709551615) : Yv cx o env S g (.v (.int .u64 p)) := by
 intro a w hsim hg
 have h := Yv.conv (cx := cx) ho hs hd hx a w hsim hg
 rwa [IntWalk.u64_in _ (hb hg)] at h
theorem Yv.remN {ty yt : TypeId} {k : IntKind} {p q : Int} (ho : o.op = .binOp .rem ty x y yt) (hx : Ev env g x (.v (.int k p))) (hy : Ev env g y (.v (.int k q))) (hb : g = true → 0 ≤ p ∧ 0 < q) : Yv cx o env S g (.v (.int k (p % q))) := by
 intro a w hs hg
 obtain ⟨h0, h2⟩ := hb hg
 have h := Yv.rem (cx := cx) ho hx hy (fun _ => by omega) a w hs hg
 rwa [Int.tmod_eq_emod_of_nonneg h0] at h
/-! ### Slices written out, all elements in order -/
def enumT (i : Nat) : List T → List (Nat × T)
 | [] => []
 | t :: r => (i, t) :: enumT (i + 1) r
def idxOk (i : Nat) : List (Nat × Operand) → Bool
 | [] => true
 | (j, _) :: r => Nat.beq i j && idxOk (i + 1) r
theorem evParts_enum : ∀ {ps : List (Nat × Operand)} {ts : List T} {i : Nat}, idxOk i ps = true → Evs env g (ps.map (·.2)) ts → EvParts env g ps (enumT i ts)
 | [], [], _, _, _ => trivial
 | [], _ :: _, _, _, h => h.elim
 | _ :: _, [], _, _, h => h.elim
 | (j, x) :: r, t :: r', i, h1, h2 => by
  simp only [idxOk, Bool.and_eq_true] at h1
  obtain rfl := Nat.eq_of_beq_eq_true h1.1
  exact ⟨rfl, h2.1, evParts_enum h1.2 h2.2⟩
theorem fill_enum {k : Nat} : ∀ (ts : List T) (i : Nat) (cs : List T), (∀ t ∈ ts, t.cellish = true ∧ (cellsT t).length = k) → (i + ts.length) * k ≤ cs.length →
    fillT (fun i => some (i * k, k)) cs (enumT i ts) = some (cs.take (i * k) ++ ts.flatMap cellsT ++ cs.drop ((i + ts.length) * k))
 | [], i, cs, _, _ => by simp [enumT, fillT]
 | t :: r, i, cs, h, hl => by
  obtain ⟨h1, h2⟩ := h t List.mem_cons_self
  simp only [List.length_cons] at hl
  have e1 : (i + (r.length + 1)) * k = i * k + k + r.length * k := by rw [Nat.add_mul, Nat.add_mul, Nat.one_mul]; omega
  have e2 : (i + 1 + r.length) * k = i * k + k + r.length * k := by rw [Nat.add_mul, Nat.add_mul, Nat.one_mul]
  have e3 : (i + 1) * k = i * k + k := by rw [Nat.add_mul, Nat.one_mul]
  rw [e1] at hl
  have hlen : (cs.take (i * k) ++ cellsT t ++ cs.drop (i * k + k)).length = cs.length := by simp [h2]; omega
  have ht : (cs.take (i * k) ++ cellsT t).length = (i + 1) * k := by simp [h2, e3]; omega
  simp only [enumT, fillT]
  rw [if_pos (by simp [h1, h2]; omega), fill_enum r (i + 1) _ (fun t ht => h t (List.mem_cons_of_mem _ ht)) (by rw [hlen, e2]; exact hl)]
  congr 1
  rw [← ht, List.take_left]
  simp only [List.length_cons, e1, e2, List.flatMap_cons]
  have e4 : (cs.take (i * k) ++ cellsT t ++ cs.drop (i * k + k)).drop (i * k + k + r.length * k) = cs.drop (i * k + k + r.length * k) := by
   rw [List.drop_append, ht, e3, List.drop_of_length_le (by rw [ht, e3]; omega), List.nil_append, List.drop_drop]
   congr 1
   omega
  rw [e4]
  simp
theorem AWL.buildSliceE {t e : TypeId} {n k b : Nat} {zs : List Value} {parts : Array (Nat × Operand)} {ts : List T} (hg : o.guard = none) (hd : o.dst = some d) (hN : d < cx.N) (ho : o.op = .buildSlice t n parts)
    (he : elemOf cx.P t = some (e, k, b, zs)) (hk : 0 < k) (hi : idxOk 0 parts.toList = true) (hp : Evs env true (parts.toList.map (·.2)) ts) (hn : n * k ≤ 16777216) (hl : ts.length = n) (hall : (ts.all fun t => t.cellish && ((cellsT t).length == k)) = true)
    (hr : AWL cx ops l K ((d, true, .sl k (ts.flatMap cellsT)) :: env) S) : AWL cx ops (o :: l) K env S := by
 have hz := (elemOf_spec he).2
 obtain ⟨i, z, _, _, _, _, _, h7, _⟩ := hz
 have hall' : ∀ t ∈ ts, t.cellish = true ∧ (cellsT t).length = k := fun t ht => by
  have := List.all_eq_true.1 hall t ht
  simpa using this
 have hfl : ((List.replicate n (zs.map T.v)).flatten).length = n * k := flat_len n k _ (by simpa using h7)
 have hf := fill_enum ts 0 ((List.replicate n (zs.map T.v)).flatten) hall' (by rw [hfl, hl, Nat.zero_add]; exact Nat.le_refl _)
 rw [Nat.zero_add, hl, Nat.zero_mul, List.take_zero, List.nil_append, List.drop_of_length_le (by rw [hfl]; exact Nat.le_refl _), List.append_nil] at hf
 refine AWL.buildSliceOp hg hd hN ho he hk (evParts_enum hi hp) hn hf ?_ hr
 rw [← hl]
 clear hf hfl hl hp hall hr
 induction ts with
 | nil => simp
 | cons t r ih =>
  rw [List.flatMap_cons, List.length_append, (hall' t List.mem_cons_self).2, ih (fun t ht => hall' t (List.mem_cons_of_mem _ ht)), List.length_cons, Nat.succ_mul, Nat.add_comm]
theorem flatMap_one : ∀ (ts : List T), ts.all T.one = true → ts.flatMap cellsT = ts
 | [], _ => rfl
 | t :: r, h => by
  simp only [List.all_cons, Bool.and_eq_true] at h
  rw [List.flatMap_cons, flatMap_one r h.2]
  cases t <;> first | rfl | (cases h.1)
theorem AWL.buildSlice1 {t e : TypeId} {n b : Nat} {zs : List Value} {parts : Array (Nat × Operand)} {ts : List T} (hg : o.guard = none) (hd : o.dst = some d) (hN : d < cx.N) (ho : o.op = .buildSlice t n parts)
    (he : elemOf cx.P t = some (e, 1, b, zs)) (hi : idxOk 0 parts.toList = true) (hp : Evs env true (parts.toList.map (·.2)) ts) (hn : n ≤ 16777216) (hl : ts.length = n) (hall : ts.all T.one = true)
    (hr : AWL cx ops l K ((d, true, .sl 1 ts) :: env) S) : AWL cx ops (o :: l) K env S := by
 have hall' : (ts.all fun t => t.cellish && ((cellsT t).length == 1)) = true := by
  rw [List.all_eq_true] at hall ⊢
  intro t ht
  have := hall t ht
  cases t <;> first | (simp_all [T.cellish, cellsT, T.one]; done) | (cases this; done)
 have h := AWL.buildSliceE (K := K) (ops := ops) (l := l) (S := S) hg hd hN ho he (Nat.zero_lt_one) hi hp (by omega) hl hall'
 rw [flatMap_one ts hall] at h
 exact h hr
/-! ### Loops whose state is several variables -/
theorem AW.loop2 {α β : Type} {c : Code} (E : α → β → Env) (H : α → β → St) (inv : α → β → Prop) (μ : α → β → Nat) (x₀ : α) (y₀ : β) (h₀ : inv x₀ y₀) (he : Sub (E x₀ y₀) env) (hS : S = H x₀ y₀)
    (round : ∀ x y, inv x y → AW cx c (thenQ (fun env' S' => ∃ x' y', inv x' y' ∧ μ x' y' < μ x y ∧ Sub (E x' y') env' ∧ S' = H x' y') Q) (E x y) (H x y)) : AW cx (.loop c) Q env S := by
 refine AW.loop (α := α × β) (fun q => E q.1 q.2) (fun q => H q.1 q.2) (fun q => inv q.1 q.2) (fun q => μ q.1 q.2) (x₀, y₀) h₀ he hS fun q hq => (round q.1 q.2 hq).mono ?_
 intro e env' S' h
 cases e with
 | normal => obtain ⟨x', y', h⟩ := h; exact ⟨(x', y'), h⟩
 | _ => exact h
theorem AW.loop3 {α β γ : Type} {c : Code} (E : α → β → γ → Env) (H : α → β → γ → St) (inv : α → β → γ → Prop) (μ : α → β → γ → Nat) (x₀ : α) (y₀ : β) (z₀ : γ) (h₀ : inv x₀ y₀ z₀) (he : Sub (E x₀ y₀ z₀) env) (hS : S = H x₀ y₀ z₀)
    (round : ∀ x y z, inv x y z → AW cx c (thenQ (fun env' S' => ∃ x' y' z', inv x' y' z' ∧ μ x' y' z' < μ x y z ∧ Sub (E x' y' z') env' ∧ S' = H x' y' z') Q) (E x y z) (H x y z)) : AW cx (.loop c) Q env S := by
 refine AW.loop2 (α := α × β) (fun q => E q.1 q.2) (fun q => H q.1 q.2) (fun q => inv q.1 q.2) (fun q => μ q.1 q.2) (x₀, y₀) z₀ h₀ he hS fun q z hq => (round q.1 q.2 z hq).mono ?_
 intro e env' S' h
 cases e with
 | normal => obtain ⟨x', y', z', h⟩ := h; exact ⟨(x', y'), z', h⟩
 | _ => exact h
theorem AW.loop4 {α β γ δ : Type} {c : Code} (E : α → β → γ → δ → Env) (H : α → β → γ → δ → St) (inv : α → β → γ → δ → Prop) (μ : α → β → γ → δ → Nat) (x₀ : α) (y₀ : β) (z₀ : γ) (u₀ : δ) (h₀ : inv x₀ y₀ z₀ u₀) (he : Sub (E x₀ y₀ z₀ u₀) env) (hS : S = H x₀ y₀ z₀ u₀)
    (round : ∀ x y z u, inv x y z u → AW cx c (thenQ (fun env' S' => ∃ x' y' z' u', inv x' y' z' u' ∧ μ x' y' z' u' < μ x y z u ∧ Sub (E x' y' z' u') env' ∧ S' = H x' y' z' u') Q) (E x y z u) (H x y z u)) : AW cx (.loop c) Q env S := by
 refine AW.loop3 (α := α × β) (fun q => E q.1 q.2) (fun q => H q.1 q.2) (fun q => inv q.1 q.2) (fun q => μ q.1 q.2) (x₀, y₀) z₀ u₀ h₀ he hS fun q z u hq => (round q.1 q.2 z u hq).mono ?_
 intro e env' S' h
 cases e with
 | normal => obtain ⟨x', y', z', u', h⟩ := h; exact ⟨(x', y'), z', u', h⟩
 | _ => exact h
def structShape (P : Program) (t : TypeId) : Option (List Value × List (Nat × Nat)) :=
 match P.info? t, P.underlying t with
 | some it, some (.struct fields) =>
  match it.zero, fields.toList.mapM (fun f => (P.info? f.type).map fun i => (f.offset, i.size)) with
  | some z, some places => if z.cells.toList.all Value.oneCell' then some (z.cells.toList, places) else none
  | _, _ => none
 | _, _ => none
theorem structShape_spec {P : Program} {t : TypeId} {zs : List Value} {places : List (Nat × Nat)} {pt : List (Nat × T)} (h : structShape P t = some (zs, places)) : builtOf P t pt = fillT (fun i => places[i]?) (zs.map .v) pt := by
 unfold structShape at h
 unfold builtOf
 split at h
 ·rename_i it fs h1 h2
  rw [h1, h2]
  split at h
  ·rename_i z pl h3 h4
   split at h
   ·rename_i hall
    simp only [Option.some.injEq, Prod.mk.injEq] at h
    obtain ⟨rfl, rfl⟩ := h
    simp only [h3, h4, hall, if_true]
    congr 1
    funext i
    simp
   cases h
  cases h
 cases h
theorem Yv.buildS {t : TypeId} {parts : Array (Nat × Operand)} {pt : List (Nat × T)} {cs : List T} {zs : List Value} {places : List (Nat × Nat)} (ho : o.op = .build t parts) (hz : structShape cx.P t = some (zs, places)) (hp : EvParts env g parts.toList pt)
    (h : g = true → fillT (fun i => places[i]?) (zs.map .v) pt = some cs) : Yv cx o env S g (.agg cs) := Yv.build ho hp (fun hg => (structShape_spec hz).trans (h hg))
theorem AW.mid {α : Type} {c c' : Code} (E' : α → Env) (H : α → St) (inv : α → Prop) (h : AW cx c (thenQ (fun env' S' => ∃ y, inv y ∧ Sub (E' y) env' ∧ S' = H y) Q) env S) (hr : ∀ y, inv y → AW cx c' Q (E' y) (H y)) : AW cx (.seq c c') Q env S := by
 refine AW.seq (h.mono fun e env' S' hq => ?_)
 cases e with
 | normal =>
  obtain ⟨y, h1, h2, rfl⟩ := hq
  exact AW.weaken h2 (hr y h1)
 | _ => exact hq
end
section
variable {cx : Cx} {env : Env} {S : St} {o : Oper} {x : Operand} {ops : Array Oper} {l : List Oper} {K : Env → St → Prop} {d : Nat} {t : T}
theorem Y1 (hy : Yv cx o env S true t) (h : AWL cx ops l K ((d, true, t) :: env) S) (hg : o.guard = none := by rfl) (hd : o.dst = some d := by rfl) (hN : d < cx.N := by exact B rfl) : AWL cx ops (o :: l) K env S := AWL.y hg hd hN hy h
theorem C1 {f : FuncId} {xf : Operand} {xs : Array Operand} {ats : Array TypeId} {fst cap : Array Value} {ts : List T} {S1 S2 : St} {R : T → St → Prop} (ho : o.op = .call { callee := .value xf, args := xs, argTypes := ats }) (hf : calleeB cx.P f = true) (hxf : Ev env true xf (.v (.func (.func f) fst cap))) (hx : Evs env true xs.toList ts) (hS : S = S1 ++ S2)
    (hc : ACalls cx.P f (fst.toList.map T.v ++ (ts ++ cap.toList.map T.v)) S1 R) (hr : ∀ t S', R t S' → AWL cx ops l K ((d, true, t) :: env) (S' ++ S2)) (hg : o.guard = none := by rfl) (hd : o.dst = some d := by rfl) (hN : d < cx.N := by exact B rfl) : AWL cx ops (o :: l) K env S := AWL.call hg hd hN ho hf hxf hx hS hc hr
theorem nl (h : K env S) : AWL cx ops [] K env S := AWL.nil h
theorem eV {env : Env} {g : Bool} {x : Operand} {t : T} (h : ev env x = some (true, t) := by rfl) (hp : plainConst x = true := by rfl) : Ev env g x t := ⟨true, h, hp, fun _ => rfl⟩
end

section
variable {cx : Cx} {env : Env} {S : St} {o : Oper} {g : Bool} {x y z : Operand} {ops : Array Oper} {l : List Oper} {K : Env → St → Prop} {Q : Exit → Env → St → Prop} {d : Nat}

def Yx (cx : Cx) (o : Oper) (env : Env) (S : St) (p : T → Prop) : Prop :=
 ∀ a w, Sim cx env S a w → ∃ t u, p t ∧ VRep w (cx.X ++ M S) t u ∧ ∀ w', Keeps [] w w' → (execOp a.eval o).run cx.P w' = .ok (.value u) w'
theorem AWL.yx {p : T → Prop} (hg : o.guard = none) (hd : o.dst = some d) (hN : d < cx.N) (h : Yx cx o env S p) (hr : ∀ t, p t → AWL cx ops l K ((d, true, t) :: env) S) : AWL cx ops (o :: l) K env S := by
 intro a w hs
 unfold wpList
 rw [if_pos (wanted_none hg)]
 obtain ⟨t, u, hp, h1, h2⟩ := h a w hs
 refine .inl ?_
 unfold Oper.wp
 rw [h2 w (Keeps.refl _ _), Oper.upon_value, hd]
 exact hr t hp _ _ (hs.put hN (fun _ => h1) (by simp))

theorem Yx.eqNil {ty yt e : TypeId} {k : Nat} {cs : List T} (ho : o.op = .binOp .eql ty x (.const (.slice none 0 0)) yt) (ht : sliceOf cx.P ty = some e) (hx : Ev env true x (.sl k cs)) : Yx cx o env S (fun t => ∃ b : Bool, t = .v (.bool b) ∧ (b = true → cs = [])) := by
 intro a w hs
 have hv := hx.rep hs rfl
 have hrun : ∀ (A : Option Addr) (n c : Nat) (w' : World), a.eval x = .slice A n c → (execOp a.eval o).run cx.P w' = .ok (.value (.bool A.isNone)) w' := by
  intro A n c w' hA
  have hgd : eqGuard .eql ty x (.const (.slice none 0 0)) (.slice A n c) (.slice none 0 0) = pure () := by unfold eqGuard; split <;> rfl
  have h2 := Lib.run_eql_slice_nil (P := cx.P) (w := w') ty e A n c 0 0 (sliceOf_spec ht)
  have h3 : a.eval (.const (.slice none 0 0)) = .slice none 0 0 := rfl
  simp only [execOp, ho, hA, h3, hgd, Sem.run_bind, Sem.run_pure, Result.andThen_ok, h2]
 generalize hu : a.eval x = u at hv
 cases hv with
 | sl0 hc => rename_i c A; exact ⟨_, _, ⟨A.isNone, rfl, fun _ => rfl⟩, .v _, fun w' _ => hrun A 0 c w' hu⟩
 | sl hn hkl hl hnc hc hb hL hcell hh h1 => rename_i n c us ad; exact ⟨_, _, ⟨false, rfl, fun h => by cases h⟩, .v _, fun w' _ => hrun (some ad) n c w' hu⟩

theorem AWL.buildSliceRow {t e : TypeId} {n k b : Nat} {zs : List Value} {parts : Array (Nat × Operand)} {ts : List T} (hg : o.guard = none) (hd : o.dst = some d) (hN : d < cx.N) (ho : o.op = .buildSlice t n parts)
    (he : elemOf cx.P t = some (e, k, b, zs)) (hk : 0 < k) (hi : idxOk 0 parts.toList = true) (hp : Evs env true (parts.toList.map (·.2)) ts) (hn : n * k ≤ 16777216) (hl : ts.length = n) (hall : (ts.all fun t => t.cellish && ((cellsT t).length == k)) = true)
    (hr : ∀ A, AWL cx ops l K ((d, true, .v (.slice A n n)) :: env) (S ++ [.row A n n e k (ts.flatMap cellsT)])) : AWL cx ops (o :: l) K env S := by
 refine AWL.eff hg hd hN fun a w hs => ?_
 obtain ⟨h1, i, z, h2, h3, h4, h5, h6, h7, h8⟩ := elemOf_spec he
 have hall' : ∀ t ∈ ts, t.cellish = true ∧ (cellsT t).length = k := fun t ht => by
  have := List.all_eq_true.1 hall t ht
  simpa using this
 have hfl : ((List.replicate n (zs.map T.v)).flatten).length = n * k := flat_len n k _ (by simpa using h7)
 have hf := fill_enum ts 0 ((List.replicate n (zs.map T.v)).flatten) hall' (by rw [hfl, hl, Nat.zero_add]; exact Nat.le_refl _)
 rw [Nat.zero_add, hl, Nat.zero_mul, List.take_zero, List.nil_append, List.drop_of_length_le (by rw [hfl]; exact Nat.le_refl _), List.append_nil] at hf
 obtain ⟨e1, e2⟩ := (evParts_enum hi hp).spec hs rfl
 have hz : VReps w (cx.X ++ M S) ((List.replicate n (zs.map T.v)).flatten) ((Array.range (n * k)).map (zs.toArray[· % zs.toArray.size]!)).toList := by rw [rep_range h7]; exact vreps_flat n zs h8
 obtain ⟨cells, c1, c2⟩ := fill_spec _ _ _ _ _ hz e1 e2 hf
 have hlen : (ts.flatMap cellsT).length = n * k := by
  rw [← hl]
  clear c2 hf hfl hl hp hall hr c1 e1 e2
  induction ts with
  | nil => simp
  | cons t r ih =>
   rw [List.flatMap_cons, List.length_append, (hall' t List.mem_cons_self).2, ih (fun t ht => hall' t (List.mem_cons_of_mem _ ht)), List.length_cons, Nat.succ_mul, Nat.add_comm]
 have hka := keeps_alloc w (.cells cells e)
 refine ⟨.slice (some ⟨w.heap.size, 0, none⟩) n n, w.alloc (.cells cells e), _, _, ?_, ?_, .v _, hr _⟩
 ·have hlim : ¬ (n * k > 2 ^ 24) := by omega
  simp only [execOp, ho, Instr.buildSlice, Sem.run_bind, run_underlying h1, Result.andThen_ok, sizeOf, typeInfo, run_program, h2, h4, Sem.run_pure]
  rw [if_neg hlim]
  have hl' : (Array.map (fun p : Nat × Operand => (p.1, a.eval p.2)) parts).toList = parts.toList.map fun p => (p.1, a.eval p.2) := by simp
  by_cases h0 : n * k = 0
  ·rw [if_pos h0]
   rw [h0, show Array.range 0 = #[] from rfl, Array.map_empty] at c1
   have hfill : Instr.fill (fun i => some (i * k, k)) ((Array.range (n * k)).map fun x => (#[] : Array Value)[x % (#[] : Array Value).size]!) (Array.map (fun p : Nat × Operand => (p.1, a.eval p.2)) parts).toList = some cells := by
    rw [h0, show Array.range 0 = #[] from rfl, Array.map_empty, hl']
    exact c1
   simp only [Sem.run_bind, Sem.run_pure, Result.andThen_ok, hfill, newRow, run_newObj]
   rfl
  rw [if_neg h0]
  have hfill : Instr.fill (fun i => some (i * k, k)) ((Array.range (n * k)).map fun x => zs.toArray[x % zs.toArray.size]!) (Array.map (fun p : Nat × Operand => (p.1, a.eval p.2)) parts).toList = some cells := by
   rw [hl']
   exact c1
  simp only [Sem.run_bind, Sem.run_pure, Result.andThen_ok, zeroValue, typeInfo, run_program, h2, h3, h6, hfill, newRow, run_newObj]
  rfl
 have hm : n ≤ maxLen := by
  unfold maxLen
  have : n ≤ n * k := Nat.le_mul_of_pos_right n hk
  omega
 refine hs.add rfl hka ⟨cells.toList, ⟨by rw [← c2.len, hlen], hm, Nat.le_refl _, .inr ⟨w.heap.size, cells, (0, 0), rfl, heap_alloc_new w _, .inl rfl, ?_, ?_⟩⟩, hs.repsAdd rfl hka c2⟩
 ·have := c2.len
  rw [hlen] at this
  simpa using this.symm
 have := c2.len
 rw [hlen] at this
 rw [this]
 exact List.take_length
end


section
variable {cx : Cx} {env : Env} {S : St} {o : Oper} {g : Bool} {x y z : Operand} {ops : Array Oper} {l : List Oper} {K : Env → St → Prop} {Q : Exit → Env → St → Prop} {d : Nat}

theorem AWL.callT {f : FuncId} {xf : Operand} {xs : Array Operand} {ats : Array TypeId} {fst cap : Array Value} {ts : List T} {R : T → St → Prop} (hg : o.guard = none) (hd : o.dst = some d) (hN : d < cx.N)
    (ho : o.op = .call { callee := .value xf, args := xs, argTypes := ats }) (hf : calleeB cx.P f = true) (hxf : Ev env true xf (.v (.func (.func f) fst cap))) (hx : Evs env true xs.toList ts)
    (hc : ACalls cx.P f (fst.toList.map T.v ++ (ts ++ cap.toList.map T.v)) [] R) (hr : ∀ t S', R t S' → AWL cx ops l K ((d, true, t) :: env) S) : AWL cx ops (o :: l) K env S :=
 AWL.call hg hd hN ho hf hxf hx (S1 := []) (S2 := S) rfl hc fun t S' hR => AWL.drop (List.sublist_append_right S' S) (hr t S' hR)
theorem AW.dropAt {code : Code} (i : Nat) (h : AW cx code Q env (S.eraseIdx i)) : AW cx code Q env S := AW.drop (List.eraseIdx_sublist S i) h
theorem AWL.dropAt (i : Nat) (h : AWL cx ops l K env (S.eraseIdx i)) : AWL cx ops l K env S := AWL.drop (List.eraseIdx_sublist S i) h
theorem Sim.freezeCell {a : Act} {w : World} (hs : Sim cx env S a w) {i j p n c k b ty : Nat} {A : Option Addr} {e : TypeId} {cs bs : List T} (hi : S[i]? = some (.row A n c e k cs)) (hk : 0 < k) (hj : (S.eraseIdx i)[j]? = some (.box b ty bs)) (hp : bs[p]? = some (.v (.slice A n c))) :
    Sim cx env ((S.eraseIdx i).set j (.box b ty (bs.set p (.sl k cs)))) a w := by
 obtain ⟨h1, h2⟩ := hs.freeze hi hk
 obtain ⟨us, hh, hV⟩ := h1.box hj
 refine h1.setEnt hj rfl (fun _ _ _ => rfl) rfl rfl rfl rfl ⟨us, hh, ?_⟩
 obtain ⟨u, e1, e2, e3⟩ := hV.get hp
 obtain rfl := e2.v_inv
 have := hV.set p h2 e3
 have hu : us.set p (.slice A n c) = us := by
  apply List.ext_getElem?
  intro q
  rw [List.getElem?_set]
  split
  ·rename_i hq
   subst hq
   rw [e1]
   split
   ·rfl
   ·rename_i hn
    rw [List.getElem?_eq_none (by omega)] at e1
    cases e1
  ·rfl
 rwa [hu] at this
theorem AW.freezeCell {code : Code} {n c k b ty : Nat} {A : Option Addr} {e : TypeId} {cs bs : List T} (i j p : Nat) (hi : S[i]? = some (.row A n c e k cs)) (hk : 0 < k) (hj : (S.eraseIdx i)[j]? = some (.box b ty bs)) (hp : bs[p]? = some (.v (.slice A n c))) (h : AW cx code Q env ((S.eraseIdx i).set j (.box b ty (bs.set p (.sl k cs))))) : AW cx code Q env S := fun a w hs => h a w (hs.freezeCell hi hk hj hp)
end

section
variable {cx : Cx} {env : Env} {S : St} {o : Oper} {g : Bool} {x y z : Operand} {ops : Array Oper} {l : List Oper} {K : Env → St → Prop} {Q : Exit → Env → St → Prop} {d : Nat}

def AWP (cx : Cx) (ops : Array Oper) (fuel : Nat) (listed : Array Bool) (K : Env → St → Prop) (env : Env) (S : St) : Prop :=
 ∀ a w, Sim cx env S a w → wpAny cx.P .any ops (liftN cx K) fuel listed a w

theorem Sim.drew {a : Act} {w : World} (hs : Sim cx env S a w) : Sim cx env S a { w with drawn := w.drawn + 1 } := by
 refine hs.step (w' := { w with drawn := w.drawn + 1 }) ⟨rfl, rfl, rfl, Nat.le_refl _, fun _ _ _ => rfl⟩ hs.nd (fun b hb => .inl hb) (fun e he => ?_)
 exact hs.ent (w' := { w with drawn := w.drawn + 1 }) ⟨rfl, rfl, rfl, Nat.le_refl _, fun _ _ _ => rfl⟩ (fun b hb => .inl hb) he (fun _ _ => rfl)

theorem AW.rseqP {id : Nat} {l : List Oper} {y : Code} (hm : cx.P.follows .mixedOrders = true) (h : AWP cx l.toArray l.length (Array.replicate l.length false) (AW cx y Q) env S) : AW cx (.seq (.region id l.toArray true) y) Q env S := by
 refine AW.seq fun a w hs => ?_
 have h1 := wp_region_any (id := id) hm (h a _ hs.drew)
 refine Code.wp_mono (fun e a w hq => ?_) h1
 obtain ⟨rfl, env', S', h1, h2⟩ := hq
 exact ⟨env', S', h1, h2⟩
theorem AW.regionP {id : Nat} {l : List Oper} (hm : cx.P.follows .mixedOrders = true) (h : AWP cx l.toArray l.length (Array.replicate l.length false) (Q .normal) env S) : AW cx (.region id l.toArray true) Q env S := by
 intro a w hs
 have h1 := wp_region_any (id := id) hm (h a _ hs.drew)
 refine Code.wp_mono (fun e a w hq => ?_) h1
 obtain ⟨rfl, env', S', h1, h2⟩ := hq
 exact ⟨env', S', h1, h2⟩
theorem AWP.done {fuel : Nat} {listed : Array Bool} (hr : Region.ready .any ops listed = []) (h : K env S) : AWP cx ops fuel listed K env S :=
 fun a w hs => wpAny_done hr ⟨rfl, env, S, hs, h⟩ fuel
theorem wp_both {a : Act} {w : World} {K1 K2 : Act → World → Prop} {Q1 Q2 : Exit → Act → World → Prop} (hK : ∀ a w, K1 a w → K2 a w) (hQ : ∀ e a w, e ≠ .normal → Q1 e a w → Q2 e a w) (h : o.wp cx.P a w K1 Q1) : o.wp cx.P a w K2 Q2 := by
 unfold Oper.wp at *
 generalize (execOp a.eval o).run cx.P w = r at *
 cases r with
 | ok n w' =>
  cases n <;> simp only [Oper.upon] at h ⊢ <;>
   first
    | exact hK _ _ h
    | exact Calls.mono h (fun e w'' he => by cases e <;> first | exact hK _ _ he | exact hQ _ _ _ (by simp) he | exact he.imp fun a he => he.imp fun w he => hQ _ _ _ (by simp) he)
    | exact Rows.mono h (fun _ _ he => hK _ _ he)
 | halt x w' => cases x <;> simp only [Oper.upon] at h ⊢ <;> first | exact hQ _ _ _ (by simp) h | exact h
theorem wpOp_of_AWL {K' : Act → World → Prop} {K1 : Env → St → Prop} {i : Nat} (hi : ops[i]? = some o) (h : AWL cx ops [o] K1 env S) (hK : ∀ env S a w, K1 env S → Sim cx env S a w → K' a w) {Q' : Exit → Act → World → Prop} {a : Act} {w : World} (hs : Sim cx env S a w) : wpOp cx.P ops Q' i K' a w := by
 have h1 := h a w hs
 unfold wpOp
 simp only [hi]
 unfold wpList at h1
 have e1 : ∀ a w, wpList cx.P ops (liftN cx K1) [] a w → K' a w := fun a w hq => by
  obtain ⟨_, env', S', h2, h3⟩ := hq
  exact hK _ _ _ _ h3 h2
 split
 ·rename_i hw
  rw [if_pos hw] at h1
  refine .inl ?_
  rcases h1 with h1 | ⟨_, a', w', h1, _⟩
  ·exact wp_both e1 (fun e a w hne hq => absurd hq.1 hne) h1
  cases h1
 rename_i hw
 rw [if_neg hw] at h1
 exact e1 _ _ h1
theorem AWP.one {fuel i : Nat} {listed : Array Bool} (hr : Region.ready .any ops listed = [i]) (hi : ops[i]? = some o) (h : AWL cx ops [o] (AWP cx ops fuel (listed.setIfInBounds i true) K) env S) : AWP cx ops (fuel + 1) listed K env S := by
 intro a w hs
 refine wpAny_all hr (by simp) fun j hj => ?_
 rw [List.mem_singleton] at hj
 subst hj
 exact wpOp_of_AWL hi h (fun _ _ a w h1 h2 => h1 a w h2) hs
theorem AWP.two {fuel i j : Nat} {o' : Oper} {listed : Array Bool} (hr : Region.ready .any ops listed = [i, j]) (hi : ops[i]? = some o) (hj : ops[j]? = some o') (h : AWL cx ops [o] (AWP cx ops fuel (listed.setIfInBounds i true) K) env S) (h' : AWL cx ops [o'] (AWP cx ops fuel (listed.setIfInBounds j true) K) env S) : AWP cx ops (fuel + 1) listed K env S := by
 intro a w hs
 refine wpAny_all hr (by simp) fun q hq => ?_
 simp only [List.mem_cons, List.not_mem_nil, or_false] at hq
 rcases hq with rfl | rfl
 ·exact wpOp_of_AWL hi h (fun _ _ a w h1 h2 => h1 a w h2) hs
 exact wpOp_of_AWL hj h' (fun _ _ a w h1 h2 => h1 a w h2) hs
theorem AWP.take {fuel i : Nat} {listed : Array Bool} {t : T} (hi : ops[i]? = some o) (hs : Region.noSelect ops = true) (hf : Region.free .any ops listed i = true) (hr : (Region.ready .any ops listed).contains i = true) (hg : o.guard = none) (hd : o.dst = some d) (hN : d < cx.N)
    (hy : ∀ a w, Sim cx env S a w → ∃ u, VRep w (cx.X ++ M S) t u ∧ ∀ w', (execOp a.eval o).run cx.P w' = .ok (.value u) w') (h : AWP cx ops fuel (listed.setIfInBounds i true) K ((d, true, t) :: env) S) : AWP cx ops (fuel + 1) listed K env S := by
 intro a w hsim
 obtain ⟨u, h1, h2⟩ := hy a w hsim
 refine wpAny_take (v := u) hi hs hf hr (fun c a w hq => absurd hq.1 (by simp)) (.inl ⟨wanted_none hg, h2⟩) ?_
 rw [hd]
 exact h _ _ (hsim.put hN (fun _ => h1) (by simp))
theorem freeMove {t : T} (ho : o.op = .move x) (hx : Ev env true x t) : ∀ a w, Sim cx env S a w → ∃ u, VRep w (cx.X ++ M S) t u ∧ ∀ w', (execOp a.eval o).run cx.P w' = .ok (.value u) w' :=
 fun a w hs => ⟨a.eval x, hx.rep hs rfl, fun w' => by simp [execOp, ho, Sem.run_pure]⟩
theorem freeField {s : TypeId} {i off b p : Nat} (ho : o.op = .fieldAddr s x i) (h : fieldOff cx.P s i = some off) (hx : Ev env true x (.v (.pointer (some ⟨b, p, none⟩)))) : ∀ a w, Sim cx env S a w → ∃ u, VRep w (cx.X ++ M S) (.v (.pointer (some ⟨b, p + off, none⟩))) u ∧ ∀ w', (execOp a.eval o).run cx.P w' = .ok (.value u) w' :=
 fun a w hs => ⟨_, .v _, fun w' => by
  rw [exec_fieldAddr ho h (hx.val hs rfl)]
  unfold Addr.add
  split
  ·rename_i h0; subst h0; rfl
  ·rfl⟩
theorem zeroCells_one (v : Value) (n : Nat) : Builtin.zeroCells #[v] n = Array.replicate n v := by
 apply Array.ext
 ·simp [Builtin.zeroCells]
 intro i h1 h2
 simp [Builtin.zeroCells, Nat.mod_one]
theorem run_append_zeros_row {P : Program} {w : World} {t tx ty e : TypeId} {b n c m : Nat} {kn kq : IntKind} {zv : Value} {us : List Value} {A : Option Addr} (he : elemOf P t = some (e, 1, b, [zv])) (hx : kindOf P tx = some kn) (hm : 0 < m) (hrow : RowIs w e 1 A n c us) (hn' : c < n + m) (h63 : n + m ≤ maxLen) (hb : (n + m) * b ≤ 140737488355328) :
    ∃ A' c' w', (Builtin.append_ #[t, tx] ty #[.slice A n c, .int kq m]).run P w = .ok (.slice A' (n + m) c') w' ∧ RowIs w' e 1 A' (n + m) c' (us ++ List.replicate m zv) ∧ (∀ g, A'.map (·.block) = some g → A.map (·.block) = some g ∨ g = w.heap.size) ∧
     (∀ g, g < w.heap.size → A.map (·.block) ≠ some g → w'.heap[g]? = w.heap[g]?) ∧ w.heap.size ≤ w'.heap.size ∧ w'.os = w.os ∧ w'.tape = w.tape ∧ w'.output = w.output := by
 obtain ⟨h1, i, z, h2, h3, hk, rfl, h6, h7, h8⟩ := elemOf_spec he
 obtain ⟨r1, r2, r3, r4⟩ := hrow
 have hold : (Builtin.firstCells i.size n (.slice A n c)).run P w.drew = .ok us.toArray w.drew := by
  rcases r4 with ⟨rfl, rfl, rfl⟩ | ⟨gb, cur, fr, rfl, hh, hfr, hsz, htk⟩
  ·obtain rfl : us = [] := List.eq_nil_of_length_eq_zero (by simpa using r1)
   exact run_firstCells_none w.drew _ _ _ _
  ·refine run_firstCells_some w.drew _ _ _ _ _ us (by rw [r1, hk]) (fun j u hu => ?_)
   rw [add_lit', Nat.zero_add]
   exact RowIs.cell (w := w) (e := e) (size := 1) (n := n) (c := c) ⟨r1, r2, r3, .inr ⟨gb, cur, fr, rfl, hh, hfr, hsz, htk⟩⟩ hu
 have hfit := growslice_fits hn' hb
 unfold maxLen at h63
 have hmb : m * i.bytes ≤ 281474976710656 := by
  have := Nat.mul_le_mul_right i.bytes (show m ≤ n + m by omega)
  omega
 have hrun := Lib.run_append_grow_zeros (P := P) w t tx ty e i z kq kn h1 (kindOf_spec hx) h2 h3 A n c us hold m hm (by omega) hn' (by omega) hmb hfit
 have hcap1 := grownCap_ge w (n + m) c e
 have hcap2 := grownCap_le_maxLen w (n + m) c e (by unfold maxLen; omega)
 have hz : z.cells = #[zv] := h6
 rw [hz, zeroCells_one, zeroCells_one] at hrun
 refine ⟨_, _, _, hrun, ⟨by simp [r1], hcap2, hcap1, .inr ⟨w.heap.size, _, (0, 0), rfl, heap_alloc_new w.drew _, .inl rfl, ?_, ?_⟩⟩, fun g hg => .inr (by simpa using hg.symm), fun g hg _ => Below.heap_alloc w.drew _ g hg, by simp, rfl, rfl, rfl⟩
 ·simp only [Array.size_append, List.size_toArray, Array.size_replicate, r1]
  omega
 simp only [Array.toList_append, Array.toList_replicate]
 have e1 : (us ++ List.replicate m zv).length = (n + m) * 1 := by simp [r1]
 rw [← e1, List.take_left]
theorem AWL.appendZeros {t tx e : TypeId} {b n c m i : Nat} {kn kq : IntKind} {zv : Value} {A : Option Addr} {cs : List T} (hg : o.guard = none) (hd : o.dst = some d) (hN : d < cx.N)
    (ho : o.op = .call { callee := .builtin .append, args := #[x, y], argTypes := #[t, tx] }) (he : elemOf cx.P t = some (e, 1, b, [zv])) (htx : kindOf cx.P tx = some kn) (hm : 0 < m) (hi : S[i]? = some (.row A n c e 1 cs)) (hx : Ev env true x (.v (.slice A n c))) (hy : Ev env true y (.v (.int kq m)))
    (hc : c < n + m) (h63 : n + m ≤ maxLen) (hb : (n + m) * b ≤ 140737488355328)
    (hr : ∀ A' c', AWL cx ops l K ((d, true, .v (.slice A' (n + m) c')) :: env) (S.set i (.row A' (n + m) c' e 1 (cs ++ List.replicate m (T.v zv))))) : AWL cx ops (o :: l) K env S := by
 refine AWL.eff hg hd hN fun a w hs => ?_
 obtain ⟨us, hrow, hV⟩ := hs.row hi
 obtain ⟨A', c', w', hrun, hrow', hblk, hkeep, hsz, hos, htp, hou⟩ := run_append_zeros_row (ty := o.type) (kq := kq) he htx hm hrow hc h63 hb
 obtain ⟨_, _, _, _, _, _, _, _, _, h8⟩ := elemOf_spec he
 refine ⟨_, w', _, _, ?_, ?_, .v _, hr A' c'⟩
 ·simp only [execOp, ho, resolve, invoke, builtin, Sem.run_bind, Sem.run_pure, Result.andThen_ok, List.map_toArray, List.map_cons, List.map_nil, hx.val hs rfl, hy.val hs rfl, hrun]
 refine hs.swap hi hblk hkeep hsz hos htp hou (fun L hL => ⟨us ++ _, hrow', ?_⟩)
 have hb' : ∀ b, b < w.heap.size → b ∉ cx.X ++ M S → w'.heap[b]? = w.heap[b]? := fun b hlt hm => hkeep b hlt (fun h => hm (List.mem_append.2 (.inr (mem_M.2 ⟨_, List.mem_of_getElem? hi, h⟩))))
 have hz := vreps_vals (w := w) (L := cx.X ++ M S) (List.replicate m zv) (fun u hu => h8 u (by rw [(List.mem_replicate.1 hu).2]; simp))
 rw [List.map_replicate] at hz
 exact (hV.append hz).mono hsz hb' hL
theorem AWL.unguard {j dj : Nat} {b want : Bool} (hg : o.guard = some (j, want)) (hj : (ops[j]?).bind (·.dst) = some dj) (hk : get dj env = some (true, .v (.bool b))) (hb : b = want) (h : AWL cx ops ({ o with guard := none } :: l) K env S) : AWL cx ops (o :: l) K env S := by
 intro a w hs
 have h1 := h a w hs
 unfold wpList at h1 ⊢
 rw [if_pos (wanted_none (o := { o with guard := none }) rfl)] at h1
 have hw : Region.wanted o (yielded ops a.tmps) = true := by
  have h2 := yielded_slot (ops := ops) (a := a) hj ((hs.slots dj true _ hk).1 rfl).v_inv
  simp only [Region.wanted, hg, h2, boolOf, hb]
  simp
 rw [if_pos hw]
 exact h1
end

def Le (t t' : T) : Prop := ∀ w L u, VRep w L t u → VRep w L t' u
structure Les (l l' : List T) : Prop where
 len : l.length = l'.length
 at_ : ∀ (j : Nat) (t t' : T), l[j]? = some t → l'[j]? = some t' → Le t t'
theorem Le.refl {t : T} : Le t t := fun _ _ _ h => h
theorem Les.refl {l : List T} : Les l l := ⟨rfl, fun j t t' h h' => by rw [h] at h'; cases h'; exact .refl⟩
theorem Les.cons {t t' : T} {l l' : List T} (h : Le t t') (hr : Les l l') : Les (t :: l) (t' :: l') :=
 ⟨by simp [hr.len], fun j a b h1 h2 => by
  cases j with
  | zero =>
   simp only [List.getElem?_cons_zero, Option.some.injEq] at h1 h2
   subst h1; subst h2; exact h
  | succ j => exact hr.at_ j a b (by simpa using h1) (by simpa using h2)⟩
theorem Les.append {l l' r r' : List T} (h : Les l l') (h' : Les r r') : Les (l ++ r) (l' ++ r') := by
 induction l generalizing l' with
 | nil =>
  obtain rfl : l' = [] := List.eq_nil_of_length_eq_zero h.len.symm
  exact h'
 | cons x l ih =>
  cases l' with
  | nil => have := h.len; simp at this
  | cons y l' => exact .cons (h.at_ 0 x y rfl rfl) (ih ⟨by simpa using h.len, fun j a b h1 h2 => h.at_ (j + 1) a b (by simpa using h1) (by simpa using h2)⟩)
theorem Les.rep {w : World} {L : List Nat} {l l' : List T} {us : List Value} (h : Les l l') (hl : l.length = us.length) (hh : ∀ (j : Nat) (t : T) (u : Value), l[j]? = some t → us[j]? = some u → VRep w L t u) :
    ∀ (j : Nat) (t : T) (u : Value), l'[j]? = some t → us[j]? = some u → VRep w L t u := fun j t u h1 h2 => by
 have hj : j < l.length := by
  rw [hl]
  exact (List.getElem?_eq_some_iff.1 h2).1
 exact h.at_ j l[j] t (List.getElem?_eq_getElem hj) h1 w L u (hh j _ u (List.getElem?_eq_getElem hj) h2)
theorem Le.agg {l l' : List T} (h : Les l l') : Le (.agg l) (.agg l') := fun w L u hu => by
 cases hu with
 | agg hl hh h1 => exact .agg (h.len ▸ hl) (h.rep hl hh) h1
theorem Le.sl {k : Nat} {l l' : List T} (h : Les l l') : Le (.sl k l) (.sl k l') := fun w L u hu => by
 cases hu with
 | sl0 hc =>
  obtain rfl : l' = [] := List.eq_nil_of_length_eq_zero h.len.symm
  exact .sl0 hc
 | sl hn hk hl hnc hc hb hL hcell hh h1 => exact .sl hn (h.len ▸ hk) (h.len ▸ hl) hnc hc hb hL hcell (h.rep hl hh) h1

section
variable {cx : Cx} {env : Env} {S : St} {o : Oper} {g : Bool} {x y z : Operand} {ops : Array Oper} {l : List Oper} {K : Env → St → Prop} {Q : Exit → Env → St → Prop} {d : Nat}

theorem Yv.sliceRow0 {t e e' : TypeId} {k n c m i : Nat} {A : Option Addr} {cs : List T} {xh : Option Operand} (ho : o.op = .slice t x none xh none) (h : sliceSz cx.P t = some (e, k)) (hi : S[i]? = some (.row A n c e' k cs)) (hx : Ev env g x (.v (.slice A n c)))
    (hh : Bound env g xh n m) (hb : g = true → m ≤ c) : Yv cx o env S g (.v (.slice A m c)) := by
 intro a w hs hg
 have hv := hx.val hs hg
 have hmc := hb hg
 obtain ⟨h1, i', h2, h3⟩ := sliceSz_spec h
 obtain ⟨us, hr, _⟩ := hs.row hi
 have hbnd := fun w' => run_bounds (P := cx.P) hs hg (isS := true) (cap := c) (lo := 0) (xl := none) Bound.none_ hh (Nat.zero_le _) hmc w'
 have hrun : ∀ w' : World, (execOp a.eval o).run cx.P w' = .ok (.value (.slice (if c = 0 then A else A.map (·.add (0 * k))) (m - 0) (c - 0))) w' := by
  intro w'
  have hb' := hbnd w'
  simp only [Option.map_none] at hb'
  simp only [execOp, ho, hv, Instr.sliceAt, Sem.run_bind, run_underlying h1, Result.andThen_ok, Instr.slice, Option.map_none, hb', sizeOf, typeInfo, run_program, h2, Sem.run_pure, h3]
 have e0 : (if c = 0 then A else A.map (·.add (0 * k))) = A := by
  cases A with
  | none => simp
  | some ad =>
   have : ad.add 0 = ad := by unfold Addr.add; rfl
   simp [this]
 rw [e0, Nat.sub_zero, Nat.sub_zero] at hrun
 exact ⟨_, .v _, fun w' _ => hrun w'⟩

theorem Yv.bytesStrRow {src dst e : TypeId} {i n c : Nat} {A : Option Addr} {l : List UInt8} (ho : o.op = .convert src dst x) (hs : isBytes cx.P src = true) (hd : isStr cx.P dst = true) (hi : S[i]? = some (.row A n c e 1 (l.map u8))) (hx : Ev env g x (.v (.slice A n c))) : Yv cx o env S g (.v (.string ⟨l.toArray⟩)) := by
 intro a w hsim hg
 refine ⟨_, .v _, fun w' hk => ?_⟩
 have hv := hx.val hsim hg
 obtain ⟨us, hr, hV⟩ := hsim.row hi
 have hus := vreps_u8s hV
 have hln : l.length = n := by
  have := hr.1
  rw [hus, List.length_map] at this
  omega
 refine run_bytes_string ho hs hd hv w' ?_
 cases A with
 | none =>
  rcases hr.2.2.2 with ⟨_, rfl, _⟩ | ⟨_, _, _, h, _⟩
  ·exact .inl ⟨rfl, List.eq_nil_of_length_eq_zero hln⟩
  ·cases h
 | some ad =>
  refine .inr ⟨ad, rfl, hln, fun j u hj => ?_⟩
  rcases hr.2.2.2 with ⟨h, _⟩ | ⟨gb, cur, fr, h, _⟩
  ·cases h
  ·simp only [Option.some.injEq] at h
   subst h
   rw [add_lit', Nat.zero_add]
   rw [← hus] at hj
   exact (World.cell?_of_block (w := w) (a := ⟨gb, j, none⟩) (hk.block _ (hr.lt rfl) (by simp))).trans (hr.cell hj)

/-! ### stores into rows -/
theorem RowIs.write {w : World} {e : TypeId} {size n c gb : Nat} {us vs : List Value} {P : Program} (h : RowIs w e size (some ⟨gb, 0, none⟩) n c us) (h1 : ∀ u ∈ vs, u.oneCell' = true) {p : Nat} (hp : p + vs.length ≤ us.length) :
    (storeCells ⟨gb, p, none⟩ vs 0).run P w = .ok () (w.setCells gb p vs) ∧ RowIs (w.setCells gb p vs) e size (some ⟨gb, 0, none⟩) n c (us.take p ++ vs ++ us.drop (p + vs.length)) := by
 obtain ⟨r1, r2, r3, r4⟩ := h
 rcases r4 with ⟨h0, _⟩ | ⟨g', cur, fr, hA, hh, hfr, hsz, htk⟩
 ·cases h0
 simp only [Option.some.injEq, Addr.mk.injEq, and_true] at hA
 subst hA
 have hle : us.length ≤ cur.size := by
  rw [r1, hsz]
  exact Nat.mul_le_mul_right _ r3
 have hcell : ∀ j, j < vs.length → (w.cell? ⟨gb, p + 0 + j, none⟩).isSome = true := fun j hj => by
  rw [cell_of_row w gb _ cur e fr hh, Array.getElem?_eq_getElem (by omega)]
  rfl
 have hfro : ∀ j, j < vs.length → w.frozen? ⟨gb, p + 0 + j, none⟩ = false := fun j hj => by
  obtain ⟨lo, hi'⟩ := fr
  simp only [World.frozen?, hh]
  simp only at hfr
  rcases hfr with h | h <;> (simp; intro h'; omega)
 have hst := run_storeCells_cells (P := P) gb p vs 0 w hcell hfro h1
 obtain ⟨cur', c1, c2⟩ := setCells_heap gb vs p w cur hh (by omega)
 have hsz' : cur'.size = cur.size := by
  have := congrArg List.length c2
  simp at this
  omega
 refine ⟨by simpa using hst, ?_, r2, r3, .inr ⟨gb, cur', fr, rfl, c1, by rw [hsz']; exact hfr, by rw [hsz', hsz], ?_⟩⟩
 ·simp only [List.length_append, List.length_take, List.length_drop]; omega
 rw [c2]
 have e1 : cur.toList.take p = us.take p := by rw [← htk, List.take_take, Nat.min_eq_left (by omega)]
 have e2 : (cur.toList.drop (p + vs.length)).take (n * size - (p + vs.length)) = us.drop (p + vs.length) := by rw [← htk, List.drop_take]
 rw [List.take_append, List.take_of_length_le (by simp only [List.length_append, List.length_take]; omega), e1]
 congr 1
 rw [← e2]
 congr 1
 simp only [List.length_append, List.length_take]
 omega
theorem RowIs.some {w : World} {e : TypeId} {size n c : Nat} {us : List Value} {A : Option Addr} (h : RowIs w e size A n c us) (hn : 0 < us.length) : ∃ gb, A = Option.some ⟨gb, 0, none⟩ := by
 rcases h.2.2.2 with ⟨_, rfl, _⟩ | ⟨gb, _, _, h, _⟩
 ·have := h.1
  omega
 exact ⟨gb, h⟩
theorem Sim.wrote {a : Act} {w : World} (hs : Sim cx env S a w) {i n c size gb p : Nat} {e : TypeId} {cs ns : List T} {us vs : List Value} (hi : S[i]? = some (.row (some ⟨gb, 0, none⟩) n c e size cs)) (hV : VReps w (cx.X ++ M S) cs us) (hv : VReps w (cx.X ++ M S) ns vs)
    (hr : RowIs (w.setCells gb p vs) e size (some ⟨gb, 0, none⟩) n c (us.take p ++ vs ++ us.drop (p + vs.length))) : Sim cx env (S.set i (.row (some ⟨gb, 0, none⟩) n c e size (cs.take p ++ ns ++ cs.drop (p + ns.length)))) a (w.setCells gb p vs) := by
 obtain ⟨s1, s2, s3, s4, s5⟩ := setCells_rest gb vs p w
 have hk : ∀ b, b < w.heap.size → (Ent.row (some ⟨gb, 0, none⟩) n c e size cs).blk ≠ some b → (w.setCells gb p vs).heap[b]? = w.heap[b]? := fun b _ hne => s5 b (fun e => hne (by subst e; rfl))
 refine hs.swap hi (fun b hb => .inl hb) hk (Nat.le_of_eq s1.symm) s2 s3 s4 (fun L hL => ⟨_, hr, ?_⟩)
 have hb' : ∀ b, b < w.heap.size → b ∉ cx.X ++ M S → (w.setCells gb p vs).heap[b]? = w.heap[b]? := fun b hlt hm => s5 b (fun h => hm (List.mem_append.2 (.inr (mem_M.2 ⟨_, List.mem_of_getElem? hi, by subst h; rfl⟩))))
 have hV' := ((hV.take p).append hv).append (hV.drop (p + vs.length))
 rw [← hv.len] at hV' ⊢
 exact hV'.mono (Nat.le_of_eq s1.symm) hb' hL
theorem AWL.storeEp {t e : TypeId} {m p i n c size : Nat} {f : Bool} {A : Option Addr} {cs : List T} {r : T} (hg : o.guard = none) (hd : o.dst = none) (ho : o.op = .store t x y) (h : aggSize cx.P t = some (f, m)) (hi : S[i]? = some (.row A n c e size cs))
    (hx : Ev env true x (.ep (.slice A n c) p)) (hy : Ev env true y r) (hc : r.cellish = true) (hn : (cellsT r).length = m) (hm : 0 < m) (hp : p + m ≤ cs.length)
    (hr : AWL cx ops l K env (S.set i (.row A n c e size (cs.take p ++ cellsT r ++ cs.drop (p + m))))) : AWL cx ops (o :: l) K env S := by
 refine AWL.eff0 hg hd fun a w hs => ?_
 have hv := (hy.rep hs rfl).cells hc
 obtain ⟨us, hrow, hV⟩ := hs.row hi
 have hlen : (a.eval y).cells.toList.length = m := by rw [← hv.len, hn]
 have hus : us.length = cs.length := hV.len.symm
 obtain ⟨gb, rfl⟩ := hrow.some (by omega)
 have hxv := hx.rep hs rfl
 generalize hux : a.eval x = ux at hxv
 cases hxv with
 | ep =>
  obtain ⟨hst, hrow'⟩ := hrow.write (P := cx.P) hv.one (p := p) (by rw [hlen]; omega)
  have hsim := hs.wrote hi hV hv hrow'
  rw [hn] at hsim
  refine ⟨_, _, ?_, hsim, hr⟩
  have hsz : (a.eval y).cells.size = m := by simpa using hlen
  simp [execOp, ho, hux, Instr.storeAt, Instr.sureAddr, storeVar, (aggSize_spec h w).2, hsz, Sem.run_bind, Sem.run_pure, hst]
theorem AWL.storeEp1 {t e : TypeId} {p i n c size : Nat} {A : Option Addr} {cs : List T} {r : T} (hg : o.guard = none) (hd : o.dst = none) (ho : o.op = .store t x y) (h : aggSize cx.P t = some (false, 1)) (hi : S[i]? = some (.row A n c e size cs))
    (hx : Ev env true x (.ep (.slice A n c) p)) (hy : Ev env true y r) (hc : r.one = true) (hc' : cellsT r = [r]) (hp : p < cs.length)
    (hr : AWL cx ops l K env (S.set i (.row A n c e size (cs.set p r)))) : AWL cx ops (o :: l) K env S := by
 refine AWL.storeEp hg hd ho h hi hx hy ?_ (by rw [hc']; rfl) (by decide) hp ?_
 ·cases r <;> first | exact hc | rfl
 have e : cs.take p ++ cellsT r ++ cs.drop (p + 1) = cs.set p r := by
  rw [hc', List.set_eq_take_append_cons_drop, if_pos hp, List.append_assoc]
  rfl
 rw [e]
 exact hr
theorem AWL.copyRow {t tx e : TypeId} {b n c m i : Nat} {zs : List Value} {A : Option Addr} {cs news : List T} (hg : o.guard = none) (hd : o.dst = some d) (hN : d < cx.N)
    (ho : o.op = .call { callee := .builtin .copy, args := #[x, y], argTypes := #[t, tx] }) (he : elemOf cx.P t = some (e, 1, b, zs)) (hi : S[i]? = some (.row A n c e 1 cs)) (hx : Ev env true x (.v (.slice A n c))) (hy : SrcT cx env S y tx 1 m news)
    (hmn : m ≤ n) (h0 : 0 < n)
    (hr : AWL cx ops l K ((d, true, .v (.int .i64 (m : Int))) :: env) (S.set i (.row A n c e 1 (news ++ cs.drop m)))) : AWL cx ops (o :: l) K env S := by
 refine AWL.eff hg hd hN fun a w hs => ?_
 obtain ⟨us, hrow, hV⟩ := hs.row hi
 obtain ⟨ns, hVn, hsrc⟩ := hy a w hs
 obtain ⟨h1, i', z', h2, _, h3, _⟩ := elemOf_spec he
 have hul : us.length = n := by rw [hrow.1, Nat.mul_one]
 have hnl : ns.length = m := by rw [hsrc.newsLen, Nat.mul_one]
 have hcl : news.length = m := by rw [hVn.len, hnl]
 obtain ⟨gb, rfl⟩ := hrow.some (by omega)
 obtain ⟨hst, hrow'⟩ := hrow.write (P := cx.P) hVn.one (p := 0) (by omega)
 have hsim := hs.wrote hi hV hVn hrow'
 refine ⟨.int .i64 (m : Int), w.setCells gb 0 ns, _, _, ?_, hsim, .v _, ?_⟩
 ·have hcells := hsrc.cells
  have hlen := hsrc.len w
  have hmin : Nat.min m n = m := Nat.min_eq_left hmn
  have hsz : (sizeOf e).run cx.P w = .ok 1 w := by simp [sizeOf, typeInfo, h2, h3, Sem.run_bind, Sem.run_pure]
  have hmin' : m.min n = m := hmin
  simp [execOp, ho, resolve, invoke, builtin, Sem.run_bind, Sem.run_pure, hx.val hs rfl, Builtin.copy_, run_underlying h1, hlen, hsz, hmin', hcells, hst, goInt]
 rw [hcl, List.take_zero, List.nil_append, Nat.zero_add]
 exact hr

end

def getK (k : Key) : List (Key × T) → Option T
 | [] => none
 | e :: r => if e.1 = k then some e.2 else getK k r
def putK (k : Key) (x : T) : List (Key × T) → List (Key × T)
 | [] => [(k, x)]
 | e :: r => if e.1 = k then (k, x) :: r else e :: putK k x r
def goodK : TypeDesc → Key → Bool
 | .string, .s _ => true
 | .int q, .i k _ => decide (q = k)
 | _, _ => false
def mapOf (P : Program) (t : TypeId) : Option (TypeDesc × TypeId × TypeId × Value) :=
 match P.underlying t with
 | some (.map kt et) => match P.underlying kt, P.info? et with
  | some d, some i => match i.zero with
   | some z => if z.oneCell' then some (d, kt, et, z) else none
   | none => none
  | _, _ => none
 | _ => none
theorem mapOf_spec {P : Program} {t kt et : TypeId} {d : TypeDesc} {z : Value} (h : mapOf P t = some (d, kt, et, z)) : P.underlying t = some (.map kt et) ∧ P.underlying kt = some d ∧ z.oneCell' = true ∧ ∃ i, P.info? et = some i ∧ i.zero = some z := by
 unfold mapOf at h
 split at h
 ·split at h
  ·split at h
   ·split at h
    ·simp only [Option.some.injEq, Prod.mk.injEq] at h
     obtain ⟨rfl, rfl, rfl, rfl⟩ := h
     exact ⟨by assumption, by assumption, by assumption, _, by assumption, by assumption⟩
    cases h
   cases h
  cases h
 cases h
theorem bytes_beq (l l' : List UInt8) : ((⟨l.toArray⟩ : ByteArray) == ⟨l'.toArray⟩) = decide (l' = l) := by
 rw [beq_toListBytes, ByteArray.toList_eq, ByteArray.toList_eq]
 rw [Bool.eq_iff_iff]
 simp only [beq_iff_eq, decide_eq_true_eq]
 exact ⟨fun e => e.symm, fun e => e.symm⟩
theorem sameNow_key {d : TypeDesc} {k k' : Key} (h : goodK d k = true) (h' : goodK d k' = true) : Instr.sameNow d k.val k'.val = some (decide (k' = k)) := by
 cases k with
 | s l =>
  cases k' with
  | s l' =>
   cases d <;> simp [goodK] at h
   simp only [Key.val, Instr.sameNow, Key.s.injEq, bytes_beq]
  | i q z => cases d <;> simp [goodK] at h h'
 | i q z =>
  cases k' with
  | s l' => cases d <;> simp [goodK] at h h'
  | i q' z' =>
   cases d <;> simp [goodK] at h h'
   subst h; subst h'
   simp only [Key.val, Instr.sameNow, if_true, Key.i.injEq, true_and, Option.some.injEq]
   rw [Bool.eq_iff_iff]
   simp only [beq_iff_eq, decide_eq_true_eq]
   exact ⟨fun e => e.symm, fun e => e.symm⟩
def idxK (k : Key) : List (Key × T) → Option Nat
 | [] => none
 | e :: r => if e.1 = k then some 0 else (idxK k r).map (· + 1)
theorem findNow_key {d : TypeDesc} {k : Key} (h : goodK d k = true) : ∀ (ms : List MapEntry) (es : List (Key × T)) (i : Nat), ms.map (·.key) = es.map (·.1.val) → (∀ e ∈ es, goodK d e.1 = true) →
    Instr.findNow d k.val ms i = some ((idxK k es).map fun j => (i + j, (ms.getD j default).val))
 | [], [], i, _, _ => rfl
 | [], e :: es, i, h1, _ => by simp at h1
 | m :: ms, [], i, h1, _ => by simp at h1
 | m :: ms, e :: es, i, h1, h2 => by
  simp only [List.map_cons, List.cons.injEq] at h1
  obtain ⟨h3, h4⟩ := h1
  have hs := sameNow_key (k' := e.1) h (h2 e (List.mem_cons_self ..))
  rw [Instr.findNow, h3, hs]
  by_cases he : e.1 = k
  ·simp [idxK, he]
  ·simp only [idxK, he, decide_false, if_false]
   rw [findNow_key h ms es (i + 1) h4 (fun x hx => h2 x (List.mem_cons_of_mem _ hx))]
   cases idxK k es with
   | none => rfl
   | some j => simp only [Option.map_some, List.getD_cons_succ, Option.some.injEq, Prod.mk.injEq, and_true]; omega
theorem getK_idx {k : Key} : ∀ (es : List (Key × T)), getK k es = (idxK k es).bind fun j => (es.map (·.2))[j]?
 | [] => rfl
 | e :: r => by
  rw [getK, idxK]
  split
  ·rfl
  ·rw [getK_idx r]
   cases idxK k r <;> simp
theorem idxK_lt {k : Key} : ∀ {es : List (Key × T)} {j : Nat}, idxK k es = some j → j < es.length ∧ (es.map (·.1))[j]? = some k
 | [], j, h => by cases h
 | e :: r, j, h => by
  rw [idxK] at h
  split at h
  ·rename_i he
   cases h
   exact ⟨by simp, by simp [he]⟩
  ·cases hq : idxK k r with
   | none => rw [hq] at h; cases h
   | some q =>
    rw [hq] at h
    simp only [Option.map_some, Option.some.injEq] at h
    subst h
    have := idxK_lt hq
    exact ⟨by simp only [List.length_cons]; omega, by simpa using this.2⟩
theorem putK_some {k : Key} {x : T} : ∀ {es : List (Key × T)} {j : Nat}, idxK k es = some j → putK k x es = es.set j (k, x)
 | [], j, h => by cases h
 | e :: r, j, h => by
  rw [idxK] at h
  rw [putK]
  split at h
  ·rename_i he
   cases h
   rw [if_pos he]; rfl
  ·rename_i he
   rw [if_neg he]
   cases hq : idxK k r with
   | none => rw [hq] at h; cases h
   | some q =>
    rw [hq] at h
    simp only [Option.map_some, Option.some.injEq] at h
    subst h
    rw [putK_some hq]; rfl
theorem putK_none {k : Key} {x : T} : ∀ {es : List (Key × T)}, idxK k es = none → putK k x es = es ++ [(k, x)]
 | [], _ => rfl
 | e :: r, h => by
  rw [idxK] at h
  rw [putK]
  split at h
  ·cases h
  ·rename_i he
   rw [if_neg he]
   cases hq : idxK k r with
   | none => rw [putK_none hq]; rfl
   | some q => rw [hq] at h; cases h
theorem run_checkKey {P : Program} {kt : TypeId} {d : TypeDesc} {k : Key} (hk : P.underlying kt = some d) (h : goodK d k = true) (em : Bool) (w : World) : (Instr.checkKey em 10000 kt k.val).run P w = .ok () w := by
 rw [show (10000 : Nat) = 9999 + 1 from rfl]
 unfold Instr.checkKey
 simp only [Sem.run_bind, run_underlying hk, Result.andThen]
 cases d <;> cases k <;> simp_all [goodK, Key.val]
theorem run_findKey {P : Program} {kt : TypeId} {d : TypeDesc} {k : Key} {ms : Array MapEntry} {es : List (Key × T)} (hk : P.underlying kt = some d) (h : goodK d k = true) (h1 : ms.toList.map (·.key) = es.map (·.1.val)) (h2 : ∀ e ∈ es, goodK d e.1 = true) (w : World) :
    (Instr.findKey kt k.val ms.toList).run P w = .ok ((idxK k es).map fun j => (j, (ms.toList.getD j default).val)) w := by
 have hf := findNow_key h ms.toList es 0 h1 h2
 simp only [Nat.zero_add] at hf
 simp only [Instr.findKey, Sem.run_bind, run_underlying hk, Result.andThen_ok, hf, Sem.run_pure]
theorem run_getMap {P : Program} {w : World} {b : Nat} {ms : Array MapEntry} {c : Nat} (h : w.heap[b]? = some (.map ms c)) : (getObj b).run P w = .ok (.map ms c) w := by
 simp [getObj, Sem.run, h]
theorem run_setMap {P : Program} {w : World} {b : Nat} {ms : Array MapEntry} {c : Nat} (h : w.heap[b]? = some (.map ms c)) (ob : Obj) : (setObj b ob).run P w = .ok () { w with heap := w.heap.setIfInBounds b ob } := by
 have hb := (Array.getElem?_eq_some_iff.1 h).1
 simp [setObj, Sem.run, h]
theorem sameBits_key (k : Key) : Instr.sameBits 10000 k.val k.val = true := by
 cases k with
 | s l => simp only [Key.val, Instr.sameBits, bytes_beq, decide_true]
 | i q z => simp [Key.val, Instr.sameBits]

section
variable {cx : Cx} {env : Env} {S : St} {o : Oper} {g : Bool} {x y z : Operand} {ops : Array Oper} {l : List Oper} {K : Env → St → Prop} {Q : Exit → Env → St → Prop} {d : Nat}

theorem Sim.mapS {a : Act} {w : World} (hs : Sim cx env S a w) {i b : Nat} {es : List (Key × T)} (hi : S[i]? = some (.map b es)) :
    ∃ (ms : Array MapEntry) (clock : Nat), w.heap[b]? = some (.map ms clock) ∧ ms.toList.map (·.key) = es.map (·.1.val) ∧ VReps w (cx.X ++ M S) (es.map (·.2)) (ms.toList.map (·.val)) ∧ Stamps ms clock := hs.ents _ (List.mem_of_getElem? hi)
theorem Sim.map {a : Act} {w : World} (hs : Sim cx env S a w) {i b : Nat} {es : List (Key × T)} (hi : S[i]? = some (.map b es)) :
    ∃ (ms : Array MapEntry) (clock : Nat), w.heap[b]? = some (.map ms clock) ∧ ms.toList.map (·.key) = es.map (·.1.val) ∧ VReps w (cx.X ++ M S) (es.map (·.2)) (ms.toList.map (·.val)) := by
 obtain ⟨ms, c, h1, h2, h3, _⟩ := hs.mapS hi
 exact ⟨ms, c, h1, h2, h3⟩
theorem stamps_push {ms : Array MapEntry} {c : Nat} (h : Stamps ms c) (k v : Value) : Stamps (ms.push { key := k, val := v, born := c }) (c + 1) := by
 unfold Stamps at h ⊢
 simp only [Array.toList_push, List.map_append, List.map_cons, List.map_nil]
 refine ⟨fun n hn => ?_, ?_⟩
 ·rcases List.mem_append.1 hn with hn | hn
  ·have := h.1 n hn; omega
  rw [List.mem_singleton.1 hn]; omega
 rw [List.nodup_append]
 refine ⟨h.2, by simp, fun p hp q hq => ?_⟩
 have := h.1 p hp
 rw [List.mem_singleton.1 hq]
 omega
theorem stamps_modify {ms : Array MapEntry} {c j : Nat} (h : Stamps ms c) (k v : Value) : Stamps (ms.modify j fun e => { e with key := k, val := v }) c := by
 have e : (ms.modify j fun e => { e with key := k, val := v }).toList.map (·.born) = ms.toList.map (·.born) := by
  rw [Array.toList_modify]
  apply List.ext_getElem?
  intro q
  rw [List.getElem?_map, List.getElem?_map, List.getElem?_modify]
  cases ms.toList[q]? with
  | none => rfl
  | some x =>
   by_cases hq : j = q <;> simp [hq]
 unfold Stamps at h ⊢
 rw [e]
 exact h
theorem AWL.makeMapOp {t : TypeId} (hg : o.guard = none) (hd : o.dst = some d) (hN : d < cx.N) (ho : o.op = .makeMap t none) (hr : ∀ b, AWL cx ops l K ((d, true, .v (.map (some b))) :: env) (S ++ [.map b []])) : AWL cx ops (o :: l) K env S := by
 refine AWL.eff hg hd hN fun a w hs => ?_
 have hka := keeps_alloc w (.map #[] 0)
 refine ⟨.map (some w.heap.size), w.alloc (.map #[] 0), _, _, ?_, hs.add (e := .map w.heap.size []) rfl hka ⟨#[], 0, heap_alloc_new w _, rfl, .nil, by unfold Stamps; simp⟩, .v _, hr _⟩
 simp [execOp, ho, Instr.makeMap, Sem.run_bind, Sem.run_pure, run_newObj]

theorem lookup_run {P : Program} {w : World} {t kt et : TypeId} {dd : TypeDesc} {zv : Value} {k : Key} {b c : Nat} {ms : Array MapEntry} {es : List (Key × T)} (ht : mapOf P t = some (dd, kt, et, zv)) (hk : goodK dd k = true) (h : w.heap[b]? = some (.map ms c)) (h1 : ms.toList.map (·.key) = es.map (·.1.val))
    (h2 : ∀ e ∈ es, goodK dd e.1 = true) (cm : Bool) :
    (Instr.lookup t (.map (some b)) k.val cm).run P w = .ok (let r : Value × Bool := match idxK k es with | some j => ((ms.toList.getD j default).val, true) | none => (zv, false); if cm then .tuple #[r.1, .bool r.2] else r.1) w := by
 obtain ⟨e1, e2, _, i, e3, e4⟩ := mapOf_spec ht
 have hf := fun w => run_findKey (P := P) (ms := ms) (es := es) e2 hk h1 h2 w
 have hz : ∀ w : World, (zeroValue et).run P w = .ok zv w := fun w => by simp [zeroValue, typeInfo, e3, e4, Sem.run_bind, Sem.run_pure]
 have hc := fun em w => run_checkKey (P := P) e2 hk em w
 cases hj : idxK k es with
 | none =>
  have hf' := hf w
  rw [hj] at hf'
  simp only [Instr.lookup, Sem.run_bind, run_underlying e1, Result.andThen_ok, run_getMap h, hc, Sem.run_pure, hf', Option.map_none, hz]
 | some j =>
  have hf' := hf w
  rw [hj] at hf'
  simp only [Instr.lookup, Sem.run_bind, run_underlying e1, Result.andThen_ok, run_getMap h, hc, Sem.run_pure, hf', Option.map_some]
theorem lookup_rep {w : World} {L : List Nat} {k : Key} {ms : Array MapEntry} {es : List (Key × T)} {zv : Value} (hV : VReps w L (es.map (·.2)) (ms.toList.map (·.val))) :
    VRep w L ((getK k es).getD (.v zv)) (match idxK k es with | some j => (ms.toList.getD j default).val | none => zv) ∧ (getK k es).isSome = (idxK k es).isSome := by
 rw [getK_idx]
 cases hj : idxK k es with
 | none => exact ⟨.v _, rfl⟩
 | some j =>
  have hl := (idxK_lt hj).1
  have hml : j < ms.toList.length := by
   have := hV.len
   simp only [List.length_map] at this
   omega
  have e1 : (es.map (·.2))[j]? = some es[j].2 := by simp [hl]
  have e3 : ms.toList.getD j default = ms.toList[j] := by simp only [List.getD, List.getElem?_eq_getElem hml, Option.getD_some]
  have e2 : (ms.toList.map (·.val))[j]? = some (ms.toList.getD j default).val := by rw [List.getElem?_map, List.getElem?_eq_getElem hml, e3]; rfl
  refine ⟨?_, ?_⟩
  ·simp only [Option.bind_some, e1, Option.getD_some]
   exact hV.at_ j _ _ e1 e2
  ·simp only [Option.bind_some, e1]; rfl
theorem Yv.lookup2 {t kt et : TypeId} {dd : TypeDesc} {zv : Value} {k : Key} {i b : Nat} {es : List (Key × T)} (ho : o.op = .lookup t x y true) (ht : mapOf cx.P t = some (dd, kt, et, zv)) (hi : S[i]? = some (.map b es)) (hx : Ev env g x (.v (.map (some b)))) (hy : Ev env g y (.v k.val))
    (hk : goodK dd k = true) (h2 : ∀ e ∈ es, goodK dd e.1 = true) : Yv cx o env S g (.tup [(getK k es).getD (.v zv), .v (.bool (getK k es).isSome)]) := by
 intro a w hs hg
 obtain ⟨ms, c, hh, h1, hV⟩ := hs.map hi
 obtain ⟨r1, r2⟩ := lookup_rep (zv := zv) (k := k) hV
 have hb : b < w.heap.size := lt_of_heap hh
 refine ⟨.tuple #[(match idxK k es with | some j => (ms.toList.getD j default).val | none => zv), .bool (idxK k es).isSome], ?_, fun w' hkp => ?_⟩
 ·have : VRep w (cx.X ++ M S) (.tup [(getK k es).getD (.v zv), .v (.bool (getK k es).isSome)]) (.tuple [(match idxK k es with | some j => (ms.toList.getD j default).val | none => zv), .bool (idxK k es).isSome].toArray) := by
   refine .tup rfl (fun j t u e1 e2 => ?_)
   rcases j with _ | _ | j
   ·simp only [List.getElem?_cons_zero, Option.some.injEq] at e1 e2
    subst e1; subst e2; exact r1
   ·simp only [List.getElem?_cons_succ, List.getElem?_cons_zero, Option.some.injEq] at e1 e2
    subst e1; subst e2
    rw [r2]; exact .v _
   ·simp at e1
  exact this
 have hh' : w'.heap[b]? = some (.map ms c) := (hkp.block b hb (by simp)).trans hh
 have hrun := lookup_run (P := cx.P) ht hk hh' h1 h2 true
 simp only [execOp, ho, hx.val hs hg, hy.val hs hg, Sem.run_bind, hrun, Sem.run_pure, Result.andThen_ok]
 cases idxK k es <;> rfl
theorem Yv.lookup1 {t kt et : TypeId} {dd : TypeDesc} {zv : Value} {k : Key} {i b : Nat} {es : List (Key × T)} (ho : o.op = .lookup t x y false) (ht : mapOf cx.P t = some (dd, kt, et, zv)) (hi : S[i]? = some (.map b es)) (hx : Ev env g x (.v (.map (some b)))) (hy : Ev env g y (.v k.val))
    (hk : goodK dd k = true) (h2 : ∀ e ∈ es, goodK dd e.1 = true) : Yv cx o env S g ((getK k es).getD (.v zv)) := by
 intro a w hs hg
 obtain ⟨ms, c, hh, h1, hV⟩ := hs.map hi
 obtain ⟨r1, r2⟩ := lookup_rep (zv := zv) (k := k) hV
 have hb : b < w.heap.size := lt_of_heap hh
 refine ⟨_, r1, fun w' hkp => ?_⟩
 have hh' : w'.heap[b]? = some (.map ms c) := (hkp.block b hb (by simp)).trans hh
 have hrun := lookup_run (P := cx.P) ht hk hh' h1 h2 false
 simp only [execOp, ho, hx.val hs hg, hy.val hs hg, Sem.run_bind, hrun, Sem.run_pure, Result.andThen_ok]
 cases idxK k es <;> rfl
theorem Yv.eqT {t t' : T} (h : Yv cx o env S g t) (e : t = t') : Yv cx o env S g t' := e ▸ h
theorem map_modify_key {k : Key} {v : Value} {ms : Array MapEntry} {es : List (Key × T)} {j : Nat} (h1 : ms.toList.map (·.key) = es.map (·.1.val)) (hj : idxK k es = some j) (r : T) :
    (ms.modify j fun e => { e with key := k.val, val := v }).toList.map (·.key) = (putK k r es).map (·.1.val) ∧ (ms.modify j fun e => { e with key := k.val, val := v }).toList.map (·.val) = (ms.toList.map (·.val)).set j v := by
 obtain ⟨hl, hk⟩ := idxK_lt hj
 have hml : j < ms.size := by
  have := congrArg List.length h1
  simp at this
  omega
 rw [putK_some hj]
 simp only [Array.toList_modify]
 refine ⟨?_, ?_⟩
 ·apply List.ext_getElem?
  intro q
  have hq := congrArg (fun l : List Value => l[q]?) h1
  simp only [List.getElem?_map] at hq
  simp only [List.getElem?_map, List.getElem?_modify, List.getElem?_set]
  by_cases e : j = q
  ·subst e
   simp [hl, hml]
  simp only [e, if_false]
  cases hm : ms.toList[q]? with
  | none => rw [hm] at hq; simpa using hq
  | some m => rw [hm] at hq; simpa using hq
 apply List.ext_getElem?
 intro q
 simp only [List.getElem?_map, List.getElem?_modify, List.getElem?_set, List.length_map]
 by_cases e : j = q
 ·subst e
  simp [hml]
 simp only [e, if_false]
 cases ms.toList[q]? <;> rfl
theorem AWL.mapUpd {t kt et : TypeId} {dd : TypeDesc} {zv : Value} {k : Key} {i b : Nat} {es : List (Key × T)} {r : T} (hg : o.guard = none) (hd : o.dst = none) (ho : o.op = .mapUpdate t x y z ∨ o.op = .insert t x y z) (ht : mapOf cx.P t = some (dd, kt, et, zv)) (hi : S[i]? = some (.map b es))
    (hx : Ev env true x (.v (.map (some b)))) (hy : Ev env true y (.v k.val)) (hz : Ev env true z r) (hr1 : r.one = true) (hk : goodK dd k = true) (h2 : ∀ e ∈ es, goodK dd e.1 = true)
    (hr : AWL cx ops l K env (S.set i (.map b (putK k r es)))) : AWL cx ops (o :: l) K env S := by
 refine AWL.eff0 hg hd fun a w hs => ?_
 obtain ⟨ms, c, hh, h1, hV, hst⟩ := hs.mapS hi
 obtain ⟨e1, e2, _, _⟩ := mapOf_spec ht
 have hv := hz.rep hs rfl
 have hv1 := hv.one hr1
 have hf := run_findKey (P := cx.P) (ms := ms) (es := es) e2 hk h1 h2 w
 have hc := run_checkKey (P := cx.P) e2 hk false w
 have hb : b < w.heap.size := lt_of_heap hh
 have hbM : b ∈ cx.X ++ M S := List.mem_append.2 (.inr (mem_M.2 ⟨_, List.mem_of_getElem? hi, rfl⟩))
 have main : ∃ (ms' : Array MapEntry) (c' : Nat), (Instr.mapUpdate t (.map (some b)) k.val (a.eval z)).run cx.P w = .ok () { w with heap := w.heap.setIfInBounds b (.map ms' c') } ∧ ms'.toList.map (·.key) = (putK k r es).map (·.1.val) ∧ VReps w (cx.X ++ M S) ((putK k r es).map (·.2)) (ms'.toList.map (·.val)) ∧ Stamps ms' c' := by
  cases hj : idxK k es with
  | none =>
   refine ⟨ms.push { key := k.val, val := a.eval z, born := c }, c + 1, ?_, ?_, ?_, stamps_push hst _ _⟩
   ·rw [hj] at hf
    simp only [Instr.mapUpdate, Sem.run_bind, run_underlying e1, Result.andThen_ok, run_getMap hh, hc, hf, Option.map_none, run_setMap hh]
   ·rw [putK_none hj]
    simp [h1]
   ·rw [putK_none hj]
    simp only [Array.toList_push, List.map_append, List.map_cons, List.map_nil]
    exact hV.append (.cons hv hv1 .nil)
  | some j =>
   obtain ⟨hl, hkj⟩ := idxK_lt hj
   have hml : j < ms.size := by
    have := congrArg List.length h1
    simp at this
    omega
   have hkey : (((ms[j]?).map (·.key)).getD k.val) = k.val := by
    have := congrArg (fun l : List Value => l[j]?) h1
    simp only [List.getElem?_map] at this
    rw [List.getElem?_map] at hkj
    obtain ⟨e, he, hek⟩ := Option.map_eq_some_iff.1 hkj
    rw [he] at this
    simp only [Option.map_some, hek] at this
    rw [← Array.getElem?_toList, this]
    rfl
   refine ⟨ms.modify j fun e => { e with key := k.val, val := a.eval z }, c, ?_, (map_modify_key h1 hj r).1, ?_, stamps_modify hst _ _⟩
   ·rw [hj] at hf
    simp only [Instr.mapUpdate, Sem.run_bind, run_underlying e1, Result.andThen_ok, run_getMap hh, hc, hf, Option.map_some, Instr.keyThatStays, hkey, sameBits_key, if_true, Sem.run_pure, run_setMap hh]
   ·rw [(map_modify_key (v := a.eval z) h1 hj r).2, putK_some hj, List.map_set]
    exact hV.set j hv hv1
 obtain ⟨ms', c', hrun, h3, h4, h5⟩ := main
 refine ⟨{ w with heap := w.heap.setIfInBounds b (.map ms' c') }, _, ?_, ?_, hr⟩
 ·rcases ho with ho | ho <;> simp only [execOp, ho, hx.val hs rfl, hy.val hs rfl, Sem.run_bind, hrun, Sem.run_pure, Result.andThen_ok]
 have hother : ∀ q, q ≠ b → ({ w with heap := w.heap.setIfInBounds b (.map ms' c') } : World).heap[q]? = w.heap[q]? := fun q hq => by simp [Array.getElem?_setIfInBounds, Ne.symm hq]
 refine hs.setEnt hi rfl (fun q _ hne => hother q (fun e => hne (by rw [e]; rfl))) (by simp) rfl rfl rfl ⟨ms', c', by simp [hb], h3, ?_, h5⟩
 exact h4.mono (by simp) (fun q _ hm => hother q (fun e => hm (e ▸ hbM))) (fun _ _ hm => hm)
end

def sv (l : List UInt8) : T := .v (.string ⟨l.toArray⟩)
theorem extract_list (l : List UInt8) (lo hi : Nat) : (⟨l.toArray⟩ : ByteArray).extract lo hi = ⟨((l.drop lo).take (hi - lo)).toArray⟩ := by
 apply Go.WideShapes.bytes_inj
 simp
theorem append_list (l r : List UInt8) : (⟨l.toArray⟩ : ByteArray) ++ ⟨r.toArray⟩ = ⟨(l ++ r).toArray⟩ := by
 apply Go.WideShapes.bytes_inj
 simp

section
variable {cx : Cx} {env : Env} {S : St} {o : Oper} {g : Bool} {x y z : Operand} {ops : Array Oper} {l : List Oper} {K : Env → St → Prop} {Q : Exit → Env → St → Prop} {d : Nat}

theorem Yv.lenL {ty : TypeId} {s : List UInt8} (ho : o.op = .call { callee := .builtin .len, args := #[x], argTypes := #[ty] }) (ht : isStr cx.P ty = true) (hx : Ev env g x (sv s)) : Yv cx o env S g (.v (.int .i64 (s.length : Int))) := Yv.lenS ho ht hx
theorem Yv.eqlL {ty yt : TypeId} {p q : List UInt8} (ho : o.op = .binOp .eql ty x y yt) (hx : Ev env g x (sv p)) (hy : Ev env g y (sv q)) : Yv cx o env S g (.v (.bool (decide (p = q)))) := Yv.eqlS ho hx hy
theorem Yv.neqL {ty yt : TypeId} {p q : List UInt8} (ho : o.op = .binOp .neq ty x y yt) (hx : Ev env g x (sv p)) (hy : Ev env g y (sv q)) : Yv cx o env S g (.v (.bool (!decide (p = q)))) := Yv.neqS ho hx hy
theorem Yv.addL {ty yt : TypeId} {p q : List UInt8} (ho : o.op = .binOp .add ty x y yt) (hx : Ev env g x (sv p)) (hy : Ev env g y (sv q)) (hb : g = true → p.length + q.length ≤ 9223372036854775807) : Yv cx o env S g (sv (p ++ q)) := by
 have := Yv.addS (cx := cx) (S := S) ho hx hy hb
 rwa [append_list] at this
theorem Yv.sliceL {t : TypeId} {lo hi : Nat} {s : List UInt8} {xl xh : Option Operand} (ho : o.op = .slice t x xl xh none) (h : isStr cx.P t = true) (hx : Ev env g x (sv s)) (hl : Bound env g xl 0 lo) (hh : Bound env g xh s.length hi) (hb : g = true → lo ≤ hi ∧ hi ≤ s.length) :
    Yv cx o env S g (sv ((s.drop lo).take (hi - lo))) := by
 have := Yv.sliceS (cx := cx) (S := S) ho h hx hl hh hb
 rwa [extract_list] at this
theorem Yv.indexL {t : TypeId} {j : Nat} {kd : IntKind} {p : Int} {s : List UInt8} (ho : o.op = .index t x y) (h : isStr cx.P t = true) (hx : Ev env g x (sv s)) (hy : Ev env g y (.v (.int kd p))) (hj : g = true → p = (j : Int) ∧ j < s.length) : Yv cx o env S g (u8 (s.getD j 0)) := by
 refine Yv.indexS (b := s.getD j 0) (j := j) ho h hx hy (fun hg => ?_)
 obtain ⟨h1, h2⟩ := hj hg
 exact ⟨h1, by
  have : s.getD j 0 = s[j] := by simp [List.getD, List.getElem?_eq_getElem h2]
  rw [this]
  first
   | (simp [h2]; done)
   | exact (getElem?_pos (⟨s.toArray⟩ : ByteArray) j h2)⟩
theorem SrcT.strL {tx : TypeId} {s : List UInt8} (ht : isStr cx.P tx = true) (hx : Ev env true x (sv s)) : SrcT cx env S x tx 1 s.length (s.map u8) := SrcT.str ht hx
theorem Yv.nilChk {a : Addr} (ho : o.op = .nilCheck x) (hx : Ev env g x (.v (.pointer (some a)))) : Yv cx o env S g (.v (.pointer (some a))) :=
 Yv.plain fun ac w hs hg w' => by simp [execOp, ho, hx.val hs hg, Sem.run_pure]
theorem freeNil {a : Addr} (ho : o.op = .nilCheck x) (hx : Ev env true x (.v (.pointer (some a)))) : ∀ ac w, Sim cx env S ac w → ∃ u, VRep w (cx.X ++ M S) (.v (.pointer (some a))) u ∧ ∀ w', (execOp ac.eval o).run cx.P w' = .ok (.value u) w' :=
 fun ac w hs => ⟨_, .v _, fun w' => by simp [execOp, ho, hx.val hs rfl, Sem.run_pure]⟩
def ptrOf (P : Program) (t : TypeId) : Bool := match P.underlying t with | some (.pointer _) => true | _ => false
theorem ptrOf_spec {P : Program} {t : TypeId} (h : ptrOf P t = true) : P.underlying t = some (.pointer (P.pointee t)) := by
 unfold ptrOf at h
 unfold Program.pointee
 split at h
 ·rename_i e; rw [e]
 cases h
theorem Yv.eqlNilP {ty yt : TypeId} {a : Option Addr} (ho : o.op = .binOp .eql ty x (.const (.pointer none)) yt) (ht : ptrOf cx.P ty = true) (hx : Ev env g x (.v (.pointer a))) : Yv cx o env S g (.v (.bool a.isNone)) :=
 Yv.plain fun ac w hs hg w' => by
  have h := run_eql_pointer_nil (P := cx.P) w' ty a (ptrOf_spec ht)
  simp only [execOp, ho, hx.val hs hg, Sem.run_bind]
  simp [eqGuard, Act.eval, h, Sem.run_pure, Sem.run_bind]
theorem Yv.neqNilP {ty yt : TypeId} {a : Option Addr} (ho : o.op = .binOp .neq ty x (.const (.pointer none)) yt) (ht : ptrOf cx.P ty = true) (hx : Ev env g x (.v (.pointer a))) : Yv cx o env S g (.v (.bool (!a.isNone))) :=
 Yv.plain fun ac w hs hg w' => by
  have h := run_neq_pointer_nil (P := cx.P) w' ty a (ptrOf_spec ht)
  simp only [execOp, ho, hx.val hs hg, Sem.run_bind]
  simp [eqGuard, Act.eval, h, Sem.run_pure, Sem.run_bind]
def arrOf (P : Program) (t : TypeId) : Option (Nat × Nat) :=
 match P.underlying t with
 | some (.array n e) => (P.info? e).map fun i => (n, i.size)
 | _ => none
theorem arrOf_spec {P : Program} {t : TypeId} {n k : Nat} (h : arrOf P t = some (n, k)) : ∃ e i, P.underlying t = some (.array n e) ∧ P.info? e = some i ∧ i.size = k := by
 unfold arrOf at h
 split at h
 ·rename_i n' e he
  cases hi : P.info? e with
  | none => rw [hi] at h; cases h
  | some i =>
   rw [hi] at h
   simp only [Option.map_some, Option.some.injEq, Prod.mk.injEq] at h
   obtain ⟨rfl, rfl⟩ := h
   exact ⟨e, i, he, hi, rfl⟩
 cases h
theorem Yv.indexArr {t : TypeId} {n k j b p : Nat} {kd : IntKind} {q : Int} (ho : o.op = .indexAddr t x y) (h : arrOf cx.P t = some (n, k)) (hx : Ev env g x (.v (.pointer (some ⟨b, p, none⟩)))) (hy : Ev env g y (.v (.int kd q))) (hj : g = true → q = (j : Int) ∧ j < n) : Yv cx o env S g (.v (.pointer (some ⟨b, p + j * k, none⟩))) :=
 Yv.plain fun ac w hs hg w' => by
  obtain ⟨rfl, hjl⟩ := hj hg
  obtain ⟨e, i, h1, h2, h3⟩ := arrOf_spec h
  have e1 : ((j : Int) < (n : Int)) := by omega
  simp [execOp, ho, hx.val hs hg, hy.val hs hg, Instr.indexAt, asIntOf, Sem.run_bind, Sem.run_pure, run_underlying h1, sizeOf, typeInfo, h2, h3, Instr.sureAddr, add_lit']
  intro h'
  omega
theorem freeArr {t : TypeId} {n k j b p : Nat} {kd : IntKind} {q : Int} (ho : o.op = .indexAddr t x y) (h : arrOf cx.P t = some (n, k)) (hx : Ev env true x (.v (.pointer (some ⟨b, p, none⟩)))) (hy : Ev env true y (.v (.int kd q))) (hj : q = (j : Int) ∧ j < n) :
    ∀ ac w, Sim cx env S ac w → ∃ u, VRep w (cx.X ++ M S) (.v (.pointer (some ⟨b, p + j * k, none⟩))) u ∧ ∀ w', (execOp ac.eval o).run cx.P w' = .ok (.value u) w' :=
 fun ac w hs => by
  obtain ⟨rfl, hjl⟩ := hj
  obtain ⟨e, i, h1, h2, h3⟩ := arrOf_spec h
  refine ⟨_, .v _, fun w' => ?_⟩
  simp [execOp, ho, hx.val hs rfl, hy.val hs rfl, Instr.indexAt, asIntOf, Sem.run_bind, Sem.run_pure, run_underlying h1, sizeOf, typeInfo, h2, h3, Instr.sureAddr, add_lit']
  intro h'
  omega
theorem Yv.min2 {t1 t2 : TypeId} {k : IntKind} {p q : Int} (ho : o.op = .call { callee := .builtin .min, args := #[x, y], argTypes := #[t1, t2] }) (hx : Ev env g x (.v (.int k p))) (hy : Ev env g y (.v (.int k q))) : Yv cx o env S g (.v (.int k (if q < p then q else p))) :=
 Yv.plain fun ac w hs hg w' => by
  simp [execOp, ho, resolve, invoke, builtin, Sem.run_bind, Sem.run_pure, Builtin.min_, Builtin.min2, hx.val hs hg, hy.val hs hg]
theorem Yv.extern {f : FuncId} {xf : Operand} {xs : Array Operand} {ats : Array TypeId} {fst cap : Array Value} {r : Value} (ho : o.op = .call { callee := .value xf, args := xs, argTypes := ats }) (hx : Ev env g xf (.v (.func (.func f) fst cap)))
    (hr : ∀ (a : Act) (w : World), Sim cx env S a w → g = true → ∀ w', (callFunc f (fst ++ xs.map a.eval ++ cap)).run cx.P w' = .ok (.value r) w') : Yv cx o env S g (.v r) :=
 Yv.plain fun ac w hs hg w' => by
  have h := hr ac w hs hg w'
  simp only [execOp, ho, resolve, Deferred.ofValue, hx.val hs hg, Sem.run_bind, Sem.run_pure, Result.andThen_ok, invoke, h]
theorem Yv.indexByte {f : FuncId} {fn : Func} {xf : Operand} {ats : Array TypeId} {s : List UInt8} {c : UInt8} (hf : cx.P.funcs[f]? = some fn) (hn : (fn.name == "runtime.NumGoroutine") = false) (hb : fn.body.isNone = true) (h1 : Extern.findNext fn = none) (h2 : Extern.find fn = some Extern.BytealgIndexByte.indexByte)
    (ho : o.op = .call { callee := .value xf, args := #[x, y], argTypes := ats }) (hxf : Ev env g xf (.v (.func (.func f) #[] #[]))) (hx : Ev env g x (sv s)) (hy : Ev env g y (.v (.int .u8 c.toNat))) : Yv cx o env S g (.v (.int .i64 (Lib.indexByte s c))) := by
 refine Yv.extern ho hxf fun a w hs hg w' => ?_
 have e := hx.val hs hg
 have e' := hy.val hs hg
 rw [run_callFunc_extern hf hn hb h1 h2]
 have : (#[] ++ #[x, y].map a.eval ++ #[] : Array Value) = #[.string ⟨s.toArray⟩, .int .u8 c.toNat] := by simp [e, e']
 rw [this, Lib.run_indexByteString]
 simp

/-! ### unsafe.String -/
theorem Sim.unEnt {a : Act} {w w' : World} (hs : Sim cx env S a w) {i gb : Nat} {e : Ent} (hi : S[i]? = some e) (hb : e.blk = some gb) (hk : ∀ b, b < w.heap.size → b ≠ gb → w'.heap[b]? = w.heap[b]?) (hsz : w.heap.size ≤ w'.heap.size) (hos : w'.os = w.os) (htp : w'.tape = w.tape) (hou : w'.output = w.output) : Sim cx env (S.eraseIdx i) a w' := by
 have hsub : (S.eraseIdx i).Sublist S := List.eraseIdx_sublist S i
 have hM : (M (S.eraseIdx i)).Sublist (M S) := hsub.filterMap _
 have hil : i < S.length := (List.getElem?_eq_some_iff.1 hi).1
 have hSi : S[i] = e := by
  rw [List.getElem?_eq_getElem hil] at hi
  exact Option.some.inj hi
 have hgM : gb ∈ M S := mem_M.2 ⟨_, List.mem_of_getElem? hi, hb⟩
 have hkp : Keeps (M S) w w' := ⟨hos, htp, hou, hsz, fun b hb hm => hk b hb (fun h => hm (h ▸ hgM))⟩
 refine hs.step hkp (hM.nodup hs.nd) (fun b hb => .inl (hM.subset hb)) (fun f hf => ?_)
 refine hs.ent hkp (fun b hb => .inl (hM.subset hb)) (hsub.subset hf) (fun b hfb => hk b (Ent.lt (hs.ents f (hsub.subset hf)) hfb) (fun h => ?_))
 subst h
 rw [List.mem_eraseIdx_iff_getElem] at hf
 obtain ⟨j, hj, hne, rfl⟩ := hf
 exact absurd hs.nd (nodup_absurd (fun e => hne e.symm) hil hj (by rw [hSi]; exact hb) hfb)
def ptrTo (P : Program) (t : TypeId) : Option TypeId := match P.underlying t with | some (.pointer e) => if P.cellsOf e = 1 then some e else none | _ => none
theorem ptrTo_spec {P : Program} {t e : TypeId} (h : ptrTo P t = some e) : P.underlying t = some (.pointer e) ∧ P.cellsOf e = 1 := by
 unfold ptrTo at h
 split at h
 ·split at h
  ·simp only [Option.some.injEq] at h
   subst h
   exact ⟨by assumption, by assumption⟩
  cases h
 cases h
theorem AWL.unsafeStr {t1 t2 e : TypeId} {n c i : Nat} {A : Option Addr} {l' : List UInt8} (hg : o.guard = none) (hd : o.dst = some d) (hN : d < cx.N) (ho : o.op = .call { callee := .builtin .unsafeString, args := #[x, y], argTypes := #[t1, t2] }) (hp : ptrTo cx.P t1 = some e)
    (hi : S[i]? = some (.row A n c e 1 (l'.map u8))) (hx : Ev env true x (.ep (.slice A n c) 0)) (hy : Ev env true y (.v (.int .i64 (n : Int)))) (h0 : l' ≠ []) (h63 : n ≤ 9223372036854775807)
    (hr : AWL cx ops l K ((d, true, sv l') :: env) (S.eraseIdx i)) : AWL cx ops (o :: l) K env S := by
 refine AWL.eff hg hd hN fun a w hs => ?_
 obtain ⟨us, hrow, hV⟩ := hs.row hi
 have hus := vreps_u8s hV
 have hln : l'.length = n := by
  have := hrow.1
  rw [hus, List.length_map] at this
  omega
 obtain ⟨gb, rfl⟩ := hrow.some (by rw [hus, List.length_map]; exact List.length_pos_iff.2 h0)
 have hxv := hx.rep hs rfl
 generalize hux : a.eval x = ux at hxv
 cases hxv with
 | ep =>
  obtain ⟨e1, e2⟩ := ptrTo_spec hp
  have hrow2 := hrow
  obtain ⟨r1, r2, r3, r4⟩ := hrow2
  rcases r4 with ⟨h, _⟩ | ⟨g', cur, fr, hA, hh, hfr, hsz, htk⟩
  ·cases h
  ·simp only [Option.some.injEq, Addr.mk.injEq, and_true] at hA
   subst hA
   have hsh : w.shape? gb = some (e, cur.size) := by simp [World.shape?, hh]
   have hrun := Lib.run_unsafeString_row (P := cx.P) (w := w) t1 t2 o.type e e1 e2 gb cur.size hsh l' h0 (by omega) (by omega) (fun j u hj => by
    rw [add_lit', Nat.zero_add]
    exact hrow.cell (by rw [hus, List.getElem?_map, hj]; rfl))
   rw [hln] at hrun
   refine ⟨_, _, _, _, ?_, hs.unEnt hi rfl (w' := w.freeze ⟨gb, 0, none⟩ n) (fun b hb hne => ?_) ?_ ?_ ?_ ?_, .v _, hr⟩
   ·simp only [execOp, ho, resolve, invoke, builtin, Sem.run_bind, Sem.run_pure, Result.andThen_ok, List.map_toArray, List.map_cons, List.map_nil, hux, hy.val hs rfl, hrun]
   ·unfold World.freeze
    split
    ·rfl
    ·simp [Array.getElem?_modify, Ne.symm hne]
   all_goals (unfold World.freeze; split <;> simp)

/-! ### zeros appended, wherever they find room -/
theorem run_append_zeros_room {P : Program} {w : World} {t tx ty e : TypeId} {b n c m : Nat} {kn kq : IntKind} {zv : Value} {us : List Value} {A : Option Addr} (he : elemOf P t = some (e, 1, b, [zv])) (hx : kindOf P tx = some kn) (hm : 0 < m) (hrow : RowIs w e 1 A n c us) (hn' : n + m ≤ c) (hb : (n + m) * b ≤ 140737488355328) :
    ∃ A' c' w', (Builtin.append_ #[t, tx] ty #[.slice A n c, .int kq m]).run P w = .ok (.slice A' (n + m) c') w' ∧ RowIs w' e 1 A' (n + m) c' (us ++ List.replicate m zv) ∧ (∀ g, A'.map (·.block) = some g → A.map (·.block) = some g ∨ g = w.heap.size) ∧
     (∀ g, g < w.heap.size → A.map (·.block) ≠ some g → w'.heap[g]? = w.heap[g]?) ∧ w.heap.size ≤ w'.heap.size ∧ w'.os = w.os ∧ w'.tape = w.tape ∧ w'.output = w.output := by
 obtain ⟨h1, i, z, h2, h3, hk, rfl, h6, h7, h8⟩ := elemOf_spec he
 obtain ⟨r1, r2, r3, r4⟩ := hrow
 rcases r4 with ⟨rfl, rfl, rfl⟩ | ⟨gb, cur, fr, rfl, hh, hfr, hsz, htk⟩
 ·omega
 have hone : ∀ u ∈ List.replicate m zv, u.oneCell' = true := fun u hu => h8 u (by rw [(List.mem_replicate.1 hu).2]; simp)
 have hfit : n + (List.replicate m zv).length ≤ cur.size := by rw [List.length_replicate]; omega
 have hcell : ∀ j, j < (List.replicate m zv).length → (w.cell? ⟨gb, n + 0 + j, none⟩).isSome = true := fun j hj => by
  rw [cell_of_row w gb _ cur e fr hh, Array.getElem?_eq_getElem (by omega)]
  rfl
 have hfro : ∀ j, j < (List.replicate m zv).length → w.frozen? ⟨gb, n + 0 + j, none⟩ = false := fun j hj => by
  obtain ⟨lo, hi'⟩ := fr
  simp only [World.frozen?, hh]
  simp only at hfr
  rcases hfr with h | h <;> (simp; intro h'; omega)
 have hst := run_storeCells_cells (P := P) gb n (List.replicate m zv) 0 w hcell hfro hone
 obtain ⟨cur', c1, c2⟩ := setCells_heap gb (List.replicate m zv) n w cur hh hfit
 obtain ⟨s1, s2, s3, s4, s5⟩ := setCells_rest gb (List.replicate m zv) n w
 have hz : z.cells = #[zv] := h6
 have hbm : (m : Int) * i.bytes ≤ 281474976710656 := by
  have h9 : m * i.bytes ≤ (n + m) * i.bytes := Nat.mul_le_mul_right _ (by omega)
  have h10 : ((m * i.bytes : Nat) : Int) ≤ 281474976710656 := by omega
  rwa [Int.natCast_mul] at h10
 have hm63 : (m : Int) ≤ 9223372036854775807 := by unfold maxLen at r2; omega
 have hw : IntKind.i64.wrap (m : Int) = m := by rw [IntKind.wrap_i64]; omega
 have hcur : cur'.size = cur.size := by
  have := congrArg List.length c2
  simp at this
  omega
 refine ⟨some ⟨gb, 0, none⟩, c, w.setCells gb n (List.replicate m zv), ?_, ⟨by simp [r1], r2, hn', .inr ⟨gb, cur', fr, rfl, c1, by rw [hcur]; exact hfr, by rw [hcur, hsz], ?_⟩⟩, fun g hg => .inl hg, fun g _ hne => s5 g (fun e => hne (by subst e; rfl)), Nat.le_of_eq s1.symm, s2, s3, s4⟩
 ·have e0 : ¬ ((m : Int) < 0) := by omega
  have e1 : ¬ (281474976710656 < (m : Int) * (i.bytes : Int)) := by omega
  have e2 : ¬ m = 0 := by omega
  have hz2 : (zeroValue e).run P w = .ok z w := by simp [zeroValue, typeInfo, h2, h3, Sem.run_bind, Sem.run_pure]
  have hadd : (⟨gb, 0, none⟩ : Addr).add n = ⟨gb, n, none⟩ := by rw [add_lit', Nat.zero_add]
  simp only [Nat.add_zero] at hst
  simp [Builtin.append_, run_underlying h1, run_underlying (kindOf_spec hx), sizeOf, typeInfo, h2, hk, asInt, asIntOf, hw, e0, e1, e2, hn', hz2, hz, zeroCells_one, hadd, hst, Sem.run_bind, Sem.run_pure, Result.andThen_ok]
 rw [c2, Nat.mul_one]
 have e1 : cur.toList.take n = us := by rw [← htk, Nat.mul_one]
 rw [e1]
 have e3 : (us ++ List.replicate m zv).length = n + m := by simp [r1]
 rw [← e3, List.take_left]
theorem AWL.appendZerosAny {t tx e : TypeId} {b n c m i : Nat} {kn kq : IntKind} {zv : Value} {A : Option Addr} {cs : List T} (hg : o.guard = none) (hd : o.dst = some d) (hN : d < cx.N)
    (ho : o.op = .call { callee := .builtin .append, args := #[x, y], argTypes := #[t, tx] }) (he : elemOf cx.P t = some (e, 1, b, [zv])) (htx : kindOf cx.P tx = some kn) (hm : 0 < m) (hi : S[i]? = some (.row A n c e 1 cs)) (hx : Ev env true x (.v (.slice A n c))) (hy : Ev env true y (.v (.int kq m)))
    (h63 : n + m ≤ maxLen) (hb : (n + m) * b ≤ 140737488355328)
    (hr : ∀ A' c', AWL cx ops l K ((d, true, .v (.slice A' (n + m) c')) :: env) (S.set i (.row A' (n + m) c' e 1 (cs ++ List.replicate m (T.v zv))))) : AWL cx ops (o :: l) K env S := by
 by_cases hc : c < n + m
 ·exact AWL.appendZeros hg hd hN ho he htx hm hi hx hy hc h63 hb hr
 refine AWL.eff hg hd hN fun a w hs => ?_
 obtain ⟨us, hrow, hV⟩ := hs.row hi
 obtain ⟨A', c', w', hrun, hrow', hblk, hkeep, hsz, hos, htp, hou⟩ := run_append_zeros_room (ty := o.type) (kq := kq) he htx hm hrow (by omega) hb
 obtain ⟨_, _, _, _, _, _, _, _, _, h8⟩ := elemOf_spec he
 refine ⟨_, w', _, _, ?_, ?_, .v _, hr A' c'⟩
 ·simp only [execOp, ho, resolve, invoke, builtin, Sem.run_bind, Sem.run_pure, Result.andThen_ok, List.map_toArray, List.map_cons, List.map_nil, hx.val hs rfl, hy.val hs rfl, hrun]
 refine hs.swap hi hblk hkeep hsz hos htp hou (fun L hL => ⟨us ++ _, hrow', ?_⟩)
 have hb' : ∀ b, b < w.heap.size → b ∉ cx.X ++ M S → w'.heap[b]? = w.heap[b]? := fun b hlt hm => hkeep b hlt (fun h => hm (List.mem_append.2 (.inr (mem_M.2 ⟨_, List.mem_of_getElem? hi, h⟩))))
 have hz := vreps_vals (w := w) (L := cx.X ++ M S) (List.replicate m zv) (fun u hu => h8 u (by rw [(List.mem_replicate.1 hu).2]; simp))
 rw [List.map_replicate] at hz
 exact (hV.append hz).mono hsz hb' hL
end
section
variable {cx : Cx} {env : Env} {S : St} {o : Oper} {g : Bool} {x y z : Operand} {ops : Array Oper} {l : List Oper} {K : Env → St → Prop} {Q : Exit → Env → St → Prop} {d : Nat}
def fromAt (A : Option Addr) (c lo : Nat) : Option Addr := if c = lo then A else A.map (·.add lo)
theorem Yv.sliceRowFrom {t e e' : TypeId} {n c lo i : Nat} {A : Option Addr} {cs : List T} {xl : Operand} (ho : o.op = .slice t x (some xl) none none) (h : sliceSz cx.P t = some (e, 1)) (hi : S[i]? = some (.row A n c e' 1 cs)) (hx : Ev env g x (.v (.slice A n c)))
    (hl : Bound env g (some xl) 0 lo) (hb : g = true → lo ≤ n) : Yv cx o env S g (.v (.slice (fromAt A c lo) (n - lo) (c - lo))) := by
 intro a w hs hg
 have hv := hx.val hs hg
 have hln := hb hg
 obtain ⟨h1, i', h2, h3⟩ := sliceSz_spec h
 obtain ⟨us, hr, _⟩ := hs.row hi
 have hbnd := fun w' => run_bounds (P := cx.P) hs hg (isS := true) (cap := c) (len := n) (hi := n) (xh := none) hl Bound.none_ hln hr.2.2.1 w'
 have hrun : ∀ w' : World, (execOp a.eval o).run cx.P w' = .ok (.value (.slice (if c = lo then A else A.map (·.add (lo * 1))) (n - lo) (c - lo))) w' := by
  intro w'
  have hb' := hbnd w'
  simp only [Option.map_none, Option.map_some] at hb'
  simp only [execOp, ho, hv, Instr.sliceAt, Sem.run_bind, run_underlying h1, Result.andThen_ok, Instr.slice, Option.map_none, Option.map_some, hb', sizeOf, typeInfo, run_program, h2, Sem.run_pure, h3]
 rw [Nat.mul_one] at hrun
 exact ⟨_, .v _, fun w' _ => hrun w'⟩
theorem AWL.copyRowAt {t tx e : TypeId} {b n c m lo i : Nat} {zs : List Value} {A : Option Addr} {cs news : List T} (hg : o.guard = none) (hd : o.dst = some d) (hN : d < cx.N)
    (ho : o.op = .call { callee := .builtin .copy, args := #[x, y], argTypes := #[t, tx] }) (he : elemOf cx.P t = some (e, 1, b, zs)) (hi : S[i]? = some (.row A n c e 1 cs)) (hx : Ev env true x (.v (.slice (fromAt A c lo) (n - lo) (c - lo)))) (hy : SrcT cx env S y tx 1 m news)
    (hmn : lo + m ≤ n) (h0 : 0 < m)
    (hr : AWL cx ops l K ((d, true, .v (.int .i64 (m : Int))) :: env) (S.set i (.row A n c e 1 (cs.take lo ++ news ++ cs.drop (lo + m))))) : AWL cx ops (o :: l) K env S := by
 refine AWL.eff hg hd hN fun a w hs => ?_
 obtain ⟨us, hrow, hV⟩ := hs.row hi
 obtain ⟨ns, hVn, hsrc⟩ := hy a w hs
 obtain ⟨h1, i', z', h2, _, h3, _⟩ := elemOf_spec he
 have hul : us.length = n := by rw [hrow.1, Nat.mul_one]
 have hnl : ns.length = m := by rw [hsrc.newsLen, Nat.mul_one]
 have hcl : news.length = m := by rw [hVn.len, hnl]
 have hnc := hrow.2.2.1
 obtain ⟨gb, rfl⟩ := hrow.some (by omega)
 obtain ⟨hst, hrow'⟩ := hrow.write (P := cx.P) hVn.one (p := lo) (by omega)
 have hsim := hs.wrote hi hV hVn hrow'
 have hfrom : fromAt (some ⟨gb, 0, none⟩) c lo = some ⟨gb, lo, none⟩ := by
  unfold fromAt
  rw [if_neg (by omega), Option.map_some, add_lit', Nat.zero_add]
 rw [hfrom] at hx
 refine ⟨.int .i64 (m : Int), w.setCells gb lo ns, _, _, ?_, hsim, .v _, ?_⟩
 ·have hcells := hsrc.cells
  have hlen := hsrc.len w
  have hmin' : m.min (n - lo) = m := Nat.min_eq_left (by omega)
  have hsz : (sizeOf e).run cx.P w = .ok 1 w := by simp [sizeOf, typeInfo, h2, h3, Sem.run_bind, Sem.run_pure]
  simp [execOp, ho, resolve, invoke, builtin, Sem.run_bind, Sem.run_pure, hx.val hs rfl, Builtin.copy_, run_underlying h1, hlen, hsz, hmin', hcells, hst, goInt]
 rw [hcl]
 exact hr
theorem Yv.sliceV0 {t e : TypeId} {k n c m : Nat} {A : Option Addr} {xh : Option Operand} (ho : o.op = .slice t x none xh none) (h : sliceSz cx.P t = some (e, k)) (hx : Ev env g x (.v (.slice A n c))) (hh : Bound env g xh n m) (hb : g = true → m ≤ c) : Yv cx o env S g (.v (.slice A m c)) := by
 intro a w hs hg
 have hv := hx.val hs hg
 have hmc := hb hg
 obtain ⟨h1, i', h2, h3⟩ := sliceSz_spec h
 have hbnd := fun w' => run_bounds (P := cx.P) hs hg (isS := true) (cap := c) (lo := 0) (xl := none) Bound.none_ hh (Nat.zero_le _) hmc w'
 have hrun : ∀ w' : World, (execOp a.eval o).run cx.P w' = .ok (.value (.slice (if c = 0 then A else A.map (·.add (0 * k))) (m - 0) (c - 0))) w' := by
  intro w'
  have hb' := hbnd w'
  simp only [Option.map_none] at hb'
  simp only [execOp, ho, hv, Instr.sliceAt, Sem.run_bind, run_underlying h1, Result.andThen_ok, Instr.slice, Option.map_none, hb', sizeOf, typeInfo, run_program, h2, Sem.run_pure, h3]
 have e0 : (if c = 0 then A else A.map (·.add (0 * k))) = A := by
  cases A with
  | none => simp
  | some ad =>
   have : ad.add 0 = ad := by unfold Addr.add; rfl
   simp [this]
 rw [e0, Nat.sub_zero, Nat.sub_zero] at hrun
 exact ⟨_, .v _, fun w' _ => hrun w'⟩
theorem Yv.bytesStrPart {src dst e : TypeId} {i n c lo m c' : Nat} {A : Option Addr} {s : List UInt8} (ho : o.op = .convert src dst x) (hs : isBytes cx.P src = true) (hd : isStr cx.P dst = true) (hi : S[i]? = some (.row A n c e 1 (s.map u8))) (hx : Ev env g x (.v (.slice (fromAt A c lo) m c')))
    (hm : g = true → lo + m ≤ n) : Yv cx o env S g (sv ((s.drop lo).take m)) := by
 intro a w hsim hg
 refine ⟨_, .v _, fun w' hk => ?_⟩
 have hv := hx.val hsim hg
 have hmn := hm hg
 obtain ⟨us, hr, hV⟩ := hsim.row hi
 have hus := vreps_u8s hV
 have hln : s.length = n := by
  have := hr.1
  rw [hus, List.length_map] at this
  omega
 refine run_bytes_string ho hs hd hv w' ?_
 rcases Nat.eq_zero_or_pos m with rfl | hpos
 ·exact .inl ⟨rfl, by simp⟩
 obtain ⟨gb, rfl⟩ := hr.some (by rw [hus, List.length_map]; omega)
 have hnc := hr.2.2.1
 have hfrom : fromAt (some ⟨gb, 0, none⟩) c lo = some ⟨gb, lo, none⟩ := by
  unfold fromAt
  rw [if_neg (by omega), Option.map_some, add_lit', Nat.zero_add]
 rw [hfrom]
 refine .inr ⟨_, rfl, by rw [List.length_take, List.length_drop]; omega, fun j u hj => ?_⟩
 rw [List.getElem?_map, List.getElem?_take] at hj
 split at hj
 ·rw [List.getElem?_drop] at hj
  rw [add_lit']
  have : us[lo + j]? = some u := by rw [hus, List.getElem?_map]; exact hj
  exact (World.cell?_of_block (w := w) (a := ⟨gb, lo + j, none⟩) (hk.block _ (hr.lt rfl) (by simp))).trans (hr.cell this)
 cases hj
theorem AW.eqS {code : Code} {S' : St} (e : S = S') (h : AW cx code Q env S') : AW cx code Q env S := e ▸ h
theorem AW.rowLe {code : Code} {n c k : Nat} {A : Option Addr} {e : TypeId} {cs : List T} (i : Nat) (hi : S[i]? = some (.row A n c e k cs)) (h : n ≤ c → AW cx code Q env S) : AW cx code Q env S := fun a w hs => by
 obtain ⟨us, hr, hV⟩ := hs.row hi
 exact h hr.2.2.1 a w hs
theorem AW.rowFact {code : Code} {n c k : Nat} {A : Option Addr} {e : TypeId} {cs : List T} (i : Nat) (hi : S[i]? = some (.row A n c e k cs)) (h : (A = none → n = 0 ∧ c = 0 ∧ cs = []) → AW cx code Q env S) : AW cx code Q env S := fun a w hs => by
 obtain ⟨us, hr, hV⟩ := hs.row hi
 refine h (fun e => ?_) a w hs
 rcases hr.2.2.2 with ⟨_, h1, h2⟩ | ⟨_, _, _, h3, _⟩
 ·refine ⟨h1, h2, List.eq_nil_of_length_eq_zero ?_⟩
  rw [hV.len, hr.1, h1, Nat.zero_mul]
 ·rw [e] at h3; cases h3
theorem Yv.eqNilV {ty yt e : TypeId} {A : Option Addr} {n c : Nat} (ho : o.op = .binOp .eql ty x (.const (.slice none 0 0)) yt) (ht : sliceOf cx.P ty = some e) (hx : Ev env g x (.v (.slice A n c))) : Yv cx o env S g (.v (.bool A.isNone)) :=
 Yv.plain fun a w hs hg w' => by
  have hA := hx.val hs hg
  have hgd : eqGuard .eql ty x (.const (.slice none 0 0)) (.slice A n c) (.slice none 0 0) = pure () := by unfold eqGuard; split <;> rfl
  have h2 := Lib.run_eql_slice_nil (P := cx.P) (w := w') ty e A n c 0 0 (sliceOf_spec ht)
  have h3 : a.eval (.const (.slice none 0 0)) = .slice none 0 0 := rfl
  simp only [execOp, ho, hA, h3, hgd, Sem.run_bind, Sem.run_pure, Result.andThen_ok, h2]
theorem AWL.callAll {f : FuncId} {xf : Operand} {xs : Array Operand} {ats : Array TypeId} {fst cap : Array Value} {ts : List T} {R : T → St → Prop} (hg : o.guard = none) (hd : o.dst = some d) (hN : d < cx.N)
    (ho : o.op = .call { callee := .value xf, args := xs, argTypes := ats }) (hf : calleeB cx.P f = true) (hx : Ev env true xf (.v (.func (.func f) fst cap))) (hxs : Evs env true xs.toList ts)
    (hc : ACalls cx.P f (fst.toList.map T.v ++ (ts ++ cap.toList.map T.v)) S R) (hr : ∀ t S', R t S' → AWL cx ops l K ((d, true, t) :: env) S') : AWL cx ops (o :: l) K env S :=
 AWL.call hg hd hN ho hf hx hxs (S1 := S) (S2 := []) (List.append_nil S).symm hc (fun t S' h => by rw [List.append_nil]; exact hr t S' h)
end

theorem AWP.three {cx : Cx} {ops : Array Oper} {K : Env → St → Prop} {env : Env} {S : St} {o o' o'' : Oper} {fuel i j k : Nat} {listed : Array Bool} (hr : Region.ready .any ops listed = [i, j, k]) (hi : ops[i]? = some o) (hj : ops[j]? = some o') (hk : ops[k]? = some o'')
    (h : AWL cx ops [o] (AWP cx ops fuel (listed.setIfInBounds i true) K) env S) (h' : AWL cx ops [o'] (AWP cx ops fuel (listed.setIfInBounds j true) K) env S) (h'' : AWL cx ops [o''] (AWP cx ops fuel (listed.setIfInBounds k true) K) env S) : AWP cx ops (fuel + 1) listed K env S := by
 intro a w hs
 refine wpAny_all hr (by simp) fun q hq => ?_
 simp only [List.mem_cons, List.not_mem_nil, or_false] at hq
 rcases hq with rfl | rfl | rfl
 ·exact wpOp_of_AWL hi h (fun _ _ a w h1 h2 => h1 a w h2) hs
 ·exact wpOp_of_AWL hj h' (fun _ _ a w h1 h2 => h1 a w h2) hs
 exact wpOp_of_AWL hk h'' (fun _ _ a w h1 h2 => h1 a w h2) hs
section
variable {cx : Cx} {Q : List Deferred → Exit → Env → St → Prop} {env : Env} {S : St}
end
end Go.Proofs.YtlfklgganokgdaaGreat
