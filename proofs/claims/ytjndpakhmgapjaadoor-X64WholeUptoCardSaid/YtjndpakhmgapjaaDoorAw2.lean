/-
  THE LOGIC OVER THE SYMBOLIC HEAP: what a piece of code, a list of operations, a call does, said of symbolic states. Generic: no program is named here.
-/
import Derived.Test.YtjndpakhmgapjaaDoorAw1
import Derived.Deep.LoopGhost
namespace Go.Proofs.YtjndpakhmgapjaaDoor
open Go Go.RowKit

def lift (cx : Cx) (Q : Exit → Env → St → Prop) : Exit → Act → World → Prop :=
  fun e a w => ∃ env S, Sim cx env S a w ∧ Q e env S
def AW (cx : Cx) (c : Code) (Q : Exit → Env → St → Prop) (env : Env) (S : St) : Prop := ∀ a w, Sim cx env S a w → c.wp cx.P (lift cx Q) a w
def liftN (cx : Cx) (K : Env → St → Prop) : Exit → Act → World → Prop := fun e a w => e = .normal ∧ ∃ env S, Sim cx env S a w ∧ K env S
def AWL (cx : Cx) (ops : Array Oper) (l : List Oper) (K : Env → St → Prop) (env : Env) (S : St) : Prop :=
  ∀ a w, Sim cx env S a w → wpList cx.P ops (liftN cx K) l a w
/-- Read-only operations, in whatever order. -/
def AWQ (cx : Cx) (ops : Array Oper) (l : List Oper) (K : Env → St → Prop) (env : Env) (S : St) : Prop :=
  ∀ a w, Sim cx env S a w → wpQuiet cx.P ops (fun w' => Keeps [] w w') (fun a' => ∀ w', Keeps [] w w' → ∃ env' S', Sim cx env' S' a' w' ∧ K env' S') l a
def thenQ (K : Env → St → Prop) (Q : Exit → Env → St → Prop) : Exit → Env → St → Prop
  | .normal => K
  | e => Q e
def blockQ (id : Nat) (Q : Exit → Env → St → Prop) : Exit → Env → St → Prop
  | .exit i => if i = id then Q .normal else Q (.exit i)
  | e => Q e

section
variable {cx : Cx} {Q Q' : Exit → Env → St → Prop} {K : Env → St → Prop} {env : Env} {S : St}

theorem AW.mono {c : Code} (h : AW cx c Q env S) (hq : ∀ e env S, Q e env S → Q' e env S) : AW cx c Q' env S :=
  fun a w hs => Code.wp_mono (fun e _ _ ⟨env, S, h1, h2⟩ => ⟨env, S, h1, hq e env S h2⟩) (h a w hs)
theorem AW.skip (h : Q .normal env S) : AW cx .skip Q env S := fun _ _ hs => wp_skip ⟨env, S, hs, h⟩
theorem AW.ret (h : Q .ret env S) : AW cx .ret Q env S := fun _ _ hs => wp_ret ⟨env, S, hs, h⟩
theorem AW.exit {id : Nat} (h : Q (.exit id) env S) : AW cx (.exit id) Q env S := fun _ _ hs => wp_exit ⟨env, S, hs, h⟩
theorem AW.label {l : Nat} (h : Q .normal env S) : AW cx (.label l) Q env S := fun _ _ hs => wp_label ⟨env, S, hs, h⟩
theorem AW.seq {x y : Code} (h : AW cx x (thenQ (AW cx y Q) Q) env S) : AW cx (.seq x y) Q env S := by
  intro a w hs
  refine wp_seq (Code.wp_mono (fun e a w hq => ?_) (h a w hs))
  obtain ⟨env', S', h1, h2⟩ := hq
  cases e <;> first | exact h2 a w h1 | exact ⟨env', S', h1, h2⟩
theorem AW.block {id : Nat} {c : Code} (h : AW cx c (blockQ id Q) env S) : AW cx (.block id c) Q env S := by
  intro a w hs
  refine wp_block (Code.wp_mono (fun e a w hq => ?_) (h a w hs))
  obtain ⟨env', S', h1, h2⟩ := hq
  cases e with
  | exit i =>
    simp only [Exit.inBlock]
    simp only [blockQ] at h2
    split
    · rename_i hi; rw [if_pos hi] at h2; exact ⟨env', S', h1, h2⟩
    · rename_i hi; rw [if_neg hi] at h2; exact ⟨env', S', h1, h2⟩
  | _ => exact ⟨env', S', h1, h2⟩
theorem AW.cond {k : Nat} {b : Bool} {x y : Code} (hk : get k env = some (true, .v (.bool b))) (ht : b = true → AW cx x Q env S) (hf : b = false → AW cx y Q env S) : AW cx (.cond (.tmp k) x y) Q env S := by
  intro a w hs
  have h1 := (hs.slots k _ _ hk).1 rfl
  have h2 : a.eval (.tmp k) = .bool b := by
    show a.tmps.getD k undef = _
    generalize a.tmps.getD k undef = u at h1
    cases h1; rfl
  cases b
  · exact wp_cond_false h2 (hf rfl a w hs)
  · exact wp_cond_true h2 (ht rfl a w hs)
theorem AW.weaken {c : Code} {env' : Env} (he : ∀ k c t, get k env' = some (c, t) → get k env = some (c, t)) (h : AW cx c Q env' S) : AW cx c Q env S := fun a w hs => h a w (hs.weaken he)
theorem AW.drop {c : Code} {S' : St} (hs' : S'.Sublist S) (h : AW cx c Q env S') : AW cx c Q env S := fun a w hs => h a w (hs.drop hs')
theorem AW.perm {c : Code} {S' : St} (hs' : S'.Perm S) (h : AW cx c Q env S') : AW cx c Q env S := fun a w hs => h a w (hs.perm hs')

def Sub (env' env : Env) : Prop := ∀ k c t, get k env' = some (c, t) → get k env = some (c, t)
theorem Sub.nil : Sub [] env := fun k c t h => by simp [get] at h
theorem Sub.cons {env' : Env} {k : Nat} {c : Bool} {t t' : T} (hk : get k env = some (c, t')) (ht : t = t') (h : Sub env' env) : Sub ((k, c, t) :: env') env := by
  intro k' c' t'' e
  rw [get_cons] at e
  split at e
  · rename_i hkk; subst hkk
    simp only [Option.some.injEq, Prod.mk.injEq] at e
    obtain ⟨rfl, rfl⟩ := e
    rw [hk, ht]
  · exact h k' c' t'' e
theorem Sub.refl : Sub env env := fun _ _ _ h => h

/-- A loop: what is known at its head, by a state of the prover's own. -/
theorem AW.loop {α : Type} {c : Code} (E : α → Env) (H : α → St) (inv : α → Prop) (μ : α → Nat) (x₀ : α) (h₀ : inv x₀) (he : Sub (E x₀) env) (hS : S = H x₀)
    (round : ∀ x, inv x → AW cx c (thenQ (fun env' S' => ∃ y, inv y ∧ μ y < μ x ∧ Sub (E y) env' ∧ S' = H y) Q) (E x) (H x)) : AW cx (.loop c) Q env S := by
  intro a w hs
  refine wp_loop_ghost (fun n a w => ∃ x, inv x ∧ μ x = n ∧ Sim cx (E x) (H x) a w) (μ x₀) ⟨x₀, h₀, rfl, hS ▸ hs.weaken he⟩ ?_
  rintro n a w ⟨x, hx, rfl, hsx⟩
  refine Code.wp_mono (fun e a w hq => ?_) (round x hx a w hsx)
  obtain ⟨env', S', h1, h2⟩ := hq
  cases e with
  | normal =>
    obtain ⟨y, hy, hlt, hsub, rfl⟩ := h2
    exact ⟨μ y, hlt, y, hy, rfl, h1.weaken hsub⟩
  | _ => exact ⟨env', S', h1, h2⟩

theorem AW.region {id : Nat} {l : List Oper} (h : AWL cx l.toArray l (Q .normal) env S) : AW cx (.region id l.toArray false) Q env S := by
  intro a w hs
  refine Code.wp_mono (fun e a w hq => ?_) (wp_region_lit (h a w hs))
  obtain ⟨rfl, env', S', h1, h2⟩ := hq
  exact ⟨env', S', h1, h2⟩
/-- A region, and what stands behind it. -/
theorem AW.rseq {id : Nat} {l : List Oper} {y : Code} (h : AWL cx l.toArray l (AW cx y Q) env S) : AW cx (.seq (.region id l.toArray false) y) Q env S := AW.seq (AW.region h)
/-- A region of read-only operations that draws its order. -/
theorem AW.regionQ {id : Nat} {l : List Oper} (hm : cx.P.follows .mixedOrders = true) (hB : Region.lexB .any l.toArray = true) (h : AWQ cx l.toArray l (Q .normal) env S) : AW cx (.region id l.toArray true) Q env S := by
  intro a w hs
  refine wp_region_quiet (C := fun w' => Keeps [] w w') hm hB (Keeps.drew _ _) ?_
  have := h a w hs
  simpa [lift] using this
theorem AW.rseqQ {id : Nat} {l : List Oper} {y : Code} (hm : cx.P.follows .mixedOrders = true) (hB : Region.lexB .any l.toArray = true) (h : AWQ cx l.toArray l (AW cx y Q) env S) : AW cx (.seq (.region id l.toArray true) y) Q env S := AW.seq (AW.regionQ hm hB h)

theorem AWL.nil {ops : Array Oper} (h : K env S) : AWL cx ops [] K env S := fun _ _ hs => wpList_nil ⟨rfl, env, S, hs, h⟩
theorem AWL.weaken {ops : Array Oper} {l : List Oper} {env' : Env} (he : Sub env' env) (h : AWL cx ops l K env' S) : AWL cx ops l K env S := fun a w hs => h a w (hs.weaken he)
theorem AWL.drop {ops : Array Oper} {l : List Oper} {S' : St} (hs' : S'.Sublist S) (h : AWL cx ops l K env S') : AWL cx ops l K env S := fun a w hs => h a w (hs.drop hs')
theorem AWL.perm {ops : Array Oper} {l : List Oper} {S' : St} (hs' : S'.Perm S) (h : AWL cx ops l K env S') : AWL cx ops l K env S := fun a w hs => h a w (hs.perm hs')
theorem AWQ.nil {ops : Array Oper} (h : K env S) : AWQ cx ops [] K env S := by
  intro a w hs
  refine wpQuiet_nil fun w' hk => ⟨env, S, hs.step (hk.mono (by simp)) hs.nd (fun b hb => .inl hb) (fun e he => ?_), h⟩
  exact hs.ent (hk.mono (by simp)) (fun b hb => .inl hb) he (fun b hb => hk.block b (hs.lt (mem_M.2 ⟨e, he, hb⟩)) (by simp))

/-- An operation that yields the tree t, whatever else the world has gained, if g. -/
def Yv (cx : Cx) (o : Oper) (env : Env) (S : St) (g : Bool) (t : T) : Prop :=
  ∀ a w, Sim cx env S a w → g = true → ∃ u, VRep w (cx.X ++ M S) t u ∧ ∀ w', Keeps [] w w' → (execOp a.eval o).run cx.P w' = .ok (.value u) w'

theorem wanted_none {ops : Array Oper} {o : Oper} {a : Act} (hg : o.guard = none) : Region.wanted o (yielded ops a.tmps) = true := by simp [Region.wanted, hg]
def boolOf : Value → Option Bool
  | .bool b => some b
  | _ => none
theorem yielded_slot {ops : Array Oper} {a : Act} {j dj : Nat} (hj : (ops[j]?).bind (·.dst) = some dj) {u : Value} (hu : a.tmps.getD dj undef = u) :
    yielded ops a.tmps j = boolOf u := by
  unfold yielded
  rw [hj]
  simp only [Option.bind_some]
  rw [Array.getD_eq_getD_getElem?] at hu
  cases h : a.tmps[dj]? with
  | none => rw [h] at hu; simp only [Option.getD_none] at hu; subst hu; rfl
  | some v => rw [h] at hu; simp only [Option.getD_some] at hu; subst hu; cases v <;> rfl

/-- The guard's value, as the environment has it. -/
theorem Sim.guard {a : Act} {w : World} (hs : Sim cx env S a w) {ops : Array Oper} {o : Oper} {j dj : Nat} {want c b : Bool} (hg : o.guard = some (j, want)) (hj : (ops[j]?).bind (·.dst) = some dj)
    (hk : get dj env = some (c, .v (.bool b))) : Region.wanted o (yielded ops a.tmps) = (c && (b == want)) := by
  have h0 := hs.slots dj _ _ hk
  unfold Region.wanted
  simp only [hg]
  cases c with
  | false => rw [yielded_slot hj (h0.2 rfl)]; rfl
  | true =>
    have h1 := h0.1 rfl
    generalize hu : a.tmps.getD dj undef = u at h1
    rw [yielded_slot hj hu]
    cases h1
    cases b <;> cases want <;> rfl

theorem AWL.y {ops : Array Oper} {o : Oper} {l : List Oper} {d : Nat} {t : T} (hg : o.guard = none) (hd : o.dst = some d) (hN : d < cx.N) (h : Yv cx o env S true t) (hr : AWL cx ops l K ((d, true, t) :: env) S) :
    AWL cx ops (o :: l) K env S := by
  intro a w hs
  unfold wpList
  rw [if_pos (wanted_none hg)]
  obtain ⟨u, h1, h2⟩ := h a w hs rfl
  refine .inl ?_
  unfold Oper.wp
  rw [h2 w (Keeps.refl _ _), Oper.upon_value, hd]
  exact hr _ _ (hs.put hN (fun _ => h1) (by simp))
theorem AWL.yg {ops : Array Oper} {o : Oper} {l : List Oper} {d j dj : Nat} {t : T} {c b want : Bool} (hg : o.guard = some (j, want)) (hj : (ops[j]?).bind (·.dst) = some dj) (hk : get dj env = some (c, .v (.bool b)))
    (hd : o.dst = some d) (hN : d < cx.N) (h : Yv cx o env S (c && (b == want)) t) (hr : AWL cx ops l K ((d, (c && (b == want)), t) :: env) S) : AWL cx ops (o :: l) K env S := by
  intro a w hs
  unfold wpList
  rw [hs.guard hg hj hk]
  cases hc : (c && (b == want)) with
  | true =>
    rw [if_pos rfl]
    obtain ⟨u, h1, h2⟩ := h a w hs hc
    refine .inl ?_
    unfold Oper.wp
    rw [h2 w (Keeps.refl _ _), Oper.upon_value, hd]
    exact hr _ _ (hs.put hN (fun _ => h1) (fun e => by rw [hc] at e; cases e))
  | false =>
    rw [if_neg (by simp), hd]
    exact hr _ _ (hs.put hN (fun e => by rw [hc] at e; cases e) (fun _ => rfl))
theorem AWQ.y {ops : Array Oper} {o : Oper} {l : List Oper} {d : Nat} {t : T} (hg : o.guard = none) (hd : o.dst = some d) (hN : d < cx.N) (h : Yv cx o env S true t) (hr : AWQ cx ops l K ((d, true, t) :: env) S) :
    AWQ cx ops (o :: l) K env S := by
  intro a w hs
  unfold wpQuiet
  rw [if_pos (wanted_none hg)]
  obtain ⟨u, h1, h2⟩ := h a w hs rfl
  refine ⟨u, fun w' hw' => ?_, ?_⟩
  · unfold Oper.quietAt
    rw [h2 w' hw']
    exact ⟨rfl, rfl⟩
  · rw [hd]
    exact hr _ _ (hs.put hN (fun _ => h1) (by simp))
theorem AWQ.yg {ops : Array Oper} {o : Oper} {l : List Oper} {d j dj : Nat} {t : T} {c b want : Bool} (hg : o.guard = some (j, want)) (hj : (ops[j]?).bind (·.dst) = some dj) (hk : get dj env = some (c, .v (.bool b)))
    (hd : o.dst = some d) (hN : d < cx.N) (h : Yv cx o env S (c && (b == want)) t) (hr : AWQ cx ops l K ((d, (c && (b == want)), t) :: env) S) : AWQ cx ops (o :: l) K env S := by
  intro a w hs
  unfold wpQuiet
  rw [hs.guard hg hj hk]
  cases hc : (c && (b == want)) with
  | true =>
    rw [if_pos rfl]
    obtain ⟨u, h1, h2⟩ := h a w hs hc
    refine ⟨u, fun w' hw' => ?_, ?_⟩
    · unfold Oper.quietAt
      rw [h2 w' hw']
      exact ⟨rfl, rfl⟩
    · rw [hd]
      exact hr _ _ (hs.put hN (fun _ => h1) (fun e => by rw [hc] at e; cases e))
  | false =>
    rw [if_neg (by simp), hd]
    exact hr _ _ (hs.put hN (fun e => by rw [hc] at e; cases e) (fun _ => rfl))

/-- What a constant is, as a tree. -/
def ofConst : Value → T
  | .agg cs => .agg (cs.toList.map .v)
  | x => .v x
def ev (env : Env) : Operand → Option (Bool × T)
  | .tmp k => get k env
  | .const x => some (true, ofConst x)
  | .global g => some (true, .v (.pointer (some ⟨g, 0, none⟩)))
  | .func f => some (true, .v (.func (.func f) #[] #[]))
def plainConst : Operand → Bool
  | .const (.agg cs) => cs.all Value.oneCell'
  | _ => true
theorem vrep_ofConst {w : World} {L : List Nat} (x : Value) (h : plainConst (.const x) = true) : VRep w L (ofConst x) x := by
  cases x with
  | agg cs =>
    obtain ⟨cs⟩ := cs
    refine .agg (by simp) (fun j t u h1 h2 => ?_) (by simpa [plainConst] using h)
    simp only [List.getElem?_map] at h1
    rw [h2] at h1
    simp only [Option.map_some, Option.some.injEq] at h1
    subst h1
    exact .v u
  | _ => exact .v _
theorem Sim.ev {a : Act} {w : World} (hs : Sim cx env S a w) {x : Operand} {c : Bool} {t : T} (hx : ev env x = some (c, t)) (hp : plainConst x = true) (hc : c = true) : VRep w (cx.X ++ M S) t (a.eval x) := by
  cases x with
  | tmp k => exact (hs.slots k c t hx).1 hc
  | const x =>
    simp only [YtjndpakhmgapjaaDoor.ev, Option.some.injEq, Prod.mk.injEq] at hx
    obtain ⟨-, rfl⟩ := hx
    exact vrep_ofConst x hp
  | global g =>
    simp only [YtjndpakhmgapjaaDoor.ev, Option.some.injEq, Prod.mk.injEq] at hx
    obtain ⟨-, rfl⟩ := hx
    exact .v _
  | func f =>
    simp only [YtjndpakhmgapjaaDoor.ev, Option.some.injEq, Prod.mk.injEq] at hx
    obtain ⟨-, rfl⟩ := hx
    exact .v _
theorem VRep.v_inv {w : World} {L : List Nat} {x u : Value} (h : VRep w L (.v x) u) : u = x := by cases h; rfl
theorem Sim.evv {a : Act} {w : World} (hs : Sim cx env S a w) {x : Operand} {c : Bool} {u : Value} (hx : YtjndpakhmgapjaaDoor.ev env x = some (c, .v u)) (hp : plainConst x = true) (hc : c = true) : a.eval x = u := (hs.ev hx hp hc).v_inv
end
end Go.Proofs.YtjndpakhmgapjaaDoor
