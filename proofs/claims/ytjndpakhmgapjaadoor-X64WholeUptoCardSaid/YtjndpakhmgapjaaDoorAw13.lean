/-
  REGIONS THAT DRAW THEIR ORDER AND DO MORE THAN READ; the mark on a literal's row; append of so many zeros. Generic: no program is named here.
-/
import Derived.Test.YtjndpakhmgapjaaDoorAw12
import Derived.Orders
import Derived.Lib.AppendZerosOnto
namespace Go.Proofs.YtjndpakhmgapjaaDoor
open Go Go.RowKit
set_option linter.unusedVariables false

section
variable {cx : Cx} {env : Env} {S : St} {o : Oper} {g : Bool} {x y z : Operand} {ops : Array Oper} {l : List Oper} {K : Env → St → Prop} {Q : Exit → Env → St → Prop} {d : Nat}

/-- What is left of a region that draws its order: whatever may come up next serves. -/
def AWP (cx : Cx) (ops : Array Oper) (fuel : Nat) (listed : Array Bool) (K : Env → St → Prop) (env : Env) (S : St) : Prop :=
  ∀ a w, Sim cx env S a w → wpAny cx.P .any ops (liftN cx K) fuel listed a w

theorem Sim.drew {a : Act} {w : World} (hs : Sim cx env S a w) : Sim cx env S a { w with drawn := w.drawn + 1 } := by
  refine hs.step (w' := { w with drawn := w.drawn + 1 }) ⟨rfl, rfl, rfl, Nat.le_refl _, fun _ _ _ => rfl⟩ hs.nd (fun b hb => .inl hb) (fun e he => ?_)
  exact hs.ent (w' := { w with drawn := w.drawn + 1 }) ⟨rfl, rfl, rfl, Nat.le_refl _, fun _ _ _ => rfl⟩ (fun b hb => .inl hb) he (fun _ _ => rfl)

theorem AW.rseqP {id : Nat} {l : List Oper} {y : Code} (hm : cx.P.follows .mixedOrders = true) (h : AWP cx l.toArray l.length (Array.replicate l.length false) (AW cx y Q) env S) : AW cx (.seq (.region id l.toArray true) y) Q env S := by
  refine AW.seq fun a w hs => ?_
  have h1 := wp_region_any (id := id) hm (h a _ hs.drew)
  refine Code.wp_mono (fun e a w hq => ?_) h1
  obtain ⟨rfl, env', S', h1, h2⟩ := hq
  exact ⟨env', S', h1, h2⟩
theorem AW.regionP {id : Nat} {l : List Oper} (hm : cx.P.follows .mixedOrders = true) (h : AWP cx l.toArray l.length (Array.replicate l.length false) (Q .normal) env S) : AW cx (.region id l.toArray true) Q env S := by
  intro a w hs
  have h1 := wp_region_any (id := id) hm (h a _ hs.drew)
  refine Code.wp_mono (fun e a w hq => ?_) h1
  obtain ⟨rfl, env', S', h1, h2⟩ := hq
  exact ⟨env', S', h1, h2⟩
theorem AWP.done {fuel : Nat} {listed : Array Bool} (hr : Region.ready .any ops listed = []) (h : K env S) : AWP cx ops fuel listed K env S :=
  fun a w hs => wpAny_done hr ⟨rfl, env, S, hs, h⟩ fuel
theorem wp_both {a : Act} {w : World} {K1 K2 : Act → World → Prop} {Q1 Q2 : Exit → Act → World → Prop} (hK : ∀ a w, K1 a w → K2 a w) (hQ : ∀ e a w, e ≠ .normal → Q1 e a w → Q2 e a w) (h : o.wp cx.P a w K1 Q1) : o.wp cx.P a w K2 Q2 := by
  unfold Oper.wp at *
  generalize (execOp a.eval o).run cx.P w = r at *
  cases r with
  | ok n w' =>
    cases n <;> simp only [Oper.upon] at h ⊢ <;>
      first
        | exact hK _ _ h
        | exact Calls.mono h (fun e w'' he => by cases e <;> first | exact hK _ _ he | exact hQ _ _ _ (by simp) he | exact he.imp fun a he => he.imp fun w he => hQ _ _ _ (by simp) he)
        | exact Rows.mono h (fun _ _ he => hK _ _ he)
  | halt x w' => cases x <;> simp only [Oper.upon] at h ⊢ <;> first | exact hQ _ _ _ (by simp) h | exact h
theorem wpOp_of_AWL {K' : Act → World → Prop} {K1 : Env → St → Prop} {i : Nat} (hi : ops[i]? = some o) (h : AWL cx ops [o] K1 env S) (hK : ∀ env S a w, K1 env S → Sim cx env S a w → K' a w) {Q' : Exit → Act → World → Prop} {a : Act} {w : World} (hs : Sim cx env S a w) : wpOp cx.P ops Q' i K' a w := by
  have h1 := h a w hs
  unfold wpOp
  simp only [hi]
  unfold wpList at h1
  have e1 : ∀ a w, wpList cx.P ops (liftN cx K1) [] a w → K' a w := fun a w hq => by
    obtain ⟨_, env', S', h2, h3⟩ := hq
    exact hK _ _ _ _ h3 h2
  split
  · rename_i hw
    rw [if_pos hw] at h1
    refine .inl ?_
    rcases h1 with h1 | ⟨_, a', w', h1, _⟩
    · exact wp_both e1 (fun e a w hne hq => absurd hq.1 hne) h1
    · cases h1
  · rename_i hw
    rw [if_neg hw] at h1
    exact e1 _ _ h1
/-- One operation that may come up. -/
theorem AWP.one {fuel i : Nat} {listed : Array Bool} (hr : Region.ready .any ops listed = [i]) (hi : ops[i]? = some o) (h : AWL cx ops [o] (AWP cx ops fuel (listed.setIfInBounds i true) K) env S) : AWP cx ops (fuel + 1) listed K env S := by
  intro a w hs
  refine wpAny_all hr (by simp) fun j hj => ?_
  rw [List.mem_singleton] at hj
  subst hj
  exact wpOp_of_AWL hi h (fun _ _ a w h1 h2 => h1 a w h2) hs
theorem AWP.two {fuel i j : Nat} {o' : Oper} {listed : Array Bool} (hr : Region.ready .any ops listed = [i, j]) (hi : ops[i]? = some o) (hj : ops[j]? = some o') (h : AWL cx ops [o] (AWP cx ops fuel (listed.setIfInBounds i true) K) env S) (h' : AWL cx ops [o'] (AWP cx ops fuel (listed.setIfInBounds j true) K) env S) : AWP cx ops (fuel + 1) listed K env S := by
  intro a w hs
  refine wpAny_all hr (by simp) fun q hq => ?_
  simp only [List.mem_cons, List.not_mem_nil, or_false] at hq
  rcases hq with rfl | rfl
  · exact wpOp_of_AWL hi h (fun _ _ a w h1 h2 => h1 a w h2) hs
  · exact wpOp_of_AWL hj h' (fun _ _ a w h1 h2 => h1 a w h2) hs
/-- An operation that yields its value in whatever world may be taken first. -/
theorem AWP.take {fuel i : Nat} {listed : Array Bool} {t : T} (hi : ops[i]? = some o) (hs : Region.noSelect ops = true) (hf : Region.free .any ops listed i = true) (hr : (Region.ready .any ops listed).contains i = true) (hg : o.guard = none) (hd : o.dst = some d) (hN : d < cx.N)
    (hy : ∀ a w, Sim cx env S a w → ∃ u, VRep w (cx.X ++ M S) t u ∧ ∀ w', (execOp a.eval o).run cx.P w' = .ok (.value u) w') (h : AWP cx ops fuel (listed.setIfInBounds i true) K ((d, true, t) :: env) S) : AWP cx ops (fuel + 1) listed K env S := by
  intro a w hsim
  obtain ⟨u, h1, h2⟩ := hy a w hsim
  refine wpAny_take (v := u) hi hs hf hr (fun c a w hq => absurd hq.1 (by simp)) (.inl ⟨wanted_none hg, h2⟩) ?_
  rw [hd]
  exact h _ _ (hsim.put hN (fun _ => h1) (by simp))
theorem freeMove {t : T} (ho : o.op = .move x) (hx : Ev env true x t) : ∀ a w, Sim cx env S a w → ∃ u, VRep w (cx.X ++ M S) t u ∧ ∀ w', (execOp a.eval o).run cx.P w' = .ok (.value u) w' :=
  fun a w hs => ⟨a.eval x, hx.rep hs rfl, fun w' => by simp [execOp, ho, Sem.run_pure]⟩
theorem freeField {s : TypeId} {i off b p : Nat} (ho : o.op = .fieldAddr s x i) (h : fieldOff cx.P s i = some off) (hx : Ev env true x (.v (.pointer (some ⟨b, p, none⟩)))) : ∀ a w, Sim cx env S a w → ∃ u, VRep w (cx.X ++ M S) (.v (.pointer (some ⟨b, p + off, none⟩))) u ∧ ∀ w', (execOp a.eval o).run cx.P w' = .ok (.value u) w' :=
  fun a w hs => ⟨_, .v _, fun w' => by
    rw [exec_fieldAddr ho h (hx.val hs rfl)]
    unfold Addr.add
    split
    · rename_i h0; subst h0; rfl
    · rfl⟩
theorem freeAdd_u64 {ty yt : TypeId} {p q : Int} (ho : o.op = .binOp .add ty x y yt) (hx : Ev env true x (.v (.int .u64 p))) (hy : Ev env true y (.v (.int .u64 q))) (hb : 0 ≤ p + q ∧ p + q ≤ 18446744073709551615) : ∀ a w, Sim cx env S a w → ∃ u, VRep w (cx.X ++ M S) (.v (.int .u64 (p + q))) u ∧ ∀ w', (execOp a.eval o).run cx.P w' = .ok (.value u) w' :=
  fun a w hs => ⟨_, .v _, fun w' => by rw [exec_binOp_int ho (hx.val hs rfl) (hy.val hs rfl)]; simp [binOp, Op.intArith, Sem.run_pure, IntWalk.u64_in _ hb]⟩

theorem zeroCells_one (v : Value) (n : Nat) : Builtin.zeroCells #[v] n = Array.replicate n v := by
  apply Array.ext
  · simp [Builtin.zeroCells]
  · intro i h1 h2
    simp [Builtin.zeroCells, Nat.mod_one]
theorem run_append_zeros_row {P : Program} {w : World} {t tx ty e : TypeId} {b n c m : Nat} {kn kq : IntKind} {zv : Value} {us : List Value} {A : Option Addr} (he : elemOf P t = some (e, 1, b, [zv])) (hx : kindOf P tx = some kn) (hm : 0 < m) (hrow : RowIs w e 1 A n c us) (hn' : c < n + m) (h63 : n + m ≤ maxLen) (hb : (n + m) * b ≤ 140737488355328) :
    ∃ A' c' w', (Builtin.append_ #[t, tx] ty #[.slice A n c, .int kq m]).run P w = .ok (.slice A' (n + m) c') w' ∧ RowIs w' e 1 A' (n + m) c' (us ++ List.replicate m zv) ∧ (∀ g, A'.map (·.block) = some g → A.map (·.block) = some g ∨ g = w.heap.size) ∧
      (∀ g, g < w.heap.size → A.map (·.block) ≠ some g → w'.heap[g]? = w.heap[g]?) ∧ w.heap.size ≤ w'.heap.size ∧ w'.os = w.os ∧ w'.tape = w.tape ∧ w'.output = w.output := by
  obtain ⟨h1, i, z, h2, h3, hk, rfl, h6, h7, h8⟩ := elemOf_spec he
  obtain ⟨r1, r2, r3, r4⟩ := hrow
  have hold : (Builtin.firstCells i.size n (.slice A n c)).run P w.drew = .ok us.toArray w.drew := by
    rcases r4 with ⟨rfl, rfl, rfl⟩ | ⟨gb, cur, fr, rfl, hh, hfr, hsz, htk⟩
    · obtain rfl : us = [] := List.eq_nil_of_length_eq_zero (by simpa using r1)
      exact run_firstCells_none w.drew _ _ _ _
    · refine run_firstCells_some w.drew _ _ _ _ _ us (by rw [r1, hk]) (fun j u hu => ?_)
      rw [add_lit', Nat.zero_add]
      exact RowIs.cell (w := w) (e := e) (size := 1) (n := n) (c := c) ⟨r1, r2, r3, .inr ⟨gb, cur, fr, rfl, hh, hfr, hsz, htk⟩⟩ hu
  have hfit := growslice_fits hn' hb
  unfold maxLen at h63
  have hmb : m * i.bytes ≤ 281474976710656 := by
    have := Nat.mul_le_mul_right i.bytes (show m ≤ n + m by omega)
    omega
  have hrun := Lib.run_append_grow_zeros (P := P) w t tx ty e i z kq kn h1 (kindOf_spec hx) h2 h3 A n c us hold m hm (by omega) hn' (by omega) hmb hfit
  have hcap1 := grownCap_ge w (n + m) c e
  have hcap2 := grownCap_le_maxLen w (n + m) c e (by unfold maxLen; omega)
  have hz : z.cells = #[zv] := h6
  rw [hz, zeroCells_one, zeroCells_one] at hrun
  refine ⟨_, _, _, hrun, ⟨by simp [r1], hcap2, hcap1, .inr ⟨w.heap.size, _, (0, 0), rfl, heap_alloc_new w.drew _, .inl rfl, ?_, ?_⟩⟩, fun g hg => .inr (by simpa using hg.symm), fun g hg _ => Below.heap_alloc w.drew _ g hg, by simp, rfl, rfl, rfl⟩
  · simp only [Array.size_append, List.size_toArray, Array.size_replicate, r1]
    omega
  · simp only [Array.toList_append, Array.toList_replicate]
    have e1 : (us ++ List.replicate m zv).length = (n + m) * 1 := by simp [r1]
    rw [← e1, List.take_left]
theorem AWL.appendZeros {t tx e : TypeId} {b n c m i : Nat} {kn kq : IntKind} {zv : Value} {A : Option Addr} {cs : List T} (hg : o.guard = none) (hd : o.dst = some d) (hN : d < cx.N)
    (ho : o.op = .call { callee := .builtin .append, args := #[x, y], argTypes := #[t, tx] }) (he : elemOf cx.P t = some (e, 1, b, [zv])) (htx : kindOf cx.P tx = some kn) (hm : 0 < m) (hi : S[i]? = some (.row A n c e 1 cs)) (hx : Ev env true x (.v (.slice A n c))) (hy : Ev env true y (.v (.int kq m)))
    (hc : c < n + m) (h63 : n + m ≤ maxLen) (hb : (n + m) * b ≤ 140737488355328)
    (hr : ∀ A' c', AWL cx ops l K ((d, true, .v (.slice A' (n + m) c')) :: env) (S.set i (.row A' (n + m) c' e 1 (cs ++ List.replicate m (T.v zv))))) : AWL cx ops (o :: l) K env S := by
  refine AWL.eff hg hd hN fun a w hs => ?_
  obtain ⟨us, hrow, hV⟩ := hs.row hi
  obtain ⟨A', c', w', hrun, hrow', hblk, hkeep, hsz, hos, htp, hou⟩ := run_append_zeros_row (ty := o.type) (kq := kq) he htx hm hrow hc h63 hb
  obtain ⟨_, _, _, _, _, _, _, _, _, h8⟩ := elemOf_spec he
  refine ⟨_, w', _, _, ?_, ?_, .v _, hr A' c'⟩
  · simp only [execOp, ho, resolve, invoke, builtin, Sem.run_bind, Sem.run_pure, Result.andThen_ok, List.map_toArray, List.map_cons, List.map_nil, hx.val hs rfl, hy.val hs rfl, hrun]
  · refine hs.swap hi hblk hkeep hsz hos htp hou (fun L hL => ⟨us ++ _, hrow', ?_⟩)
    have hb' : ∀ b, b < w.heap.size → b ∉ cx.X ++ M S → w'.heap[b]? = w.heap[b]? := fun b hlt hm => hkeep b hlt (fun h => hm (List.mem_append.2 (.inr (mem_M.2 ⟨_, List.mem_of_getElem? hi, h⟩))))
    have hz := vreps_vals (w := w) (L := cx.X ++ M S) (List.replicate m zv) (fun u hu => h8 u (by rw [(List.mem_replicate.1 hu).2]; simp))
    rw [List.map_replicate] at hz
    exact (hV.append hz).mono hsz hb' hL
/-- The mark that the run-time lays behind a literal's bytes. -/
theorem AWL.markRow {t e : TypeId} {n c i : Nat} {A : Option Addr} {cs : List T} (hg : o.guard = none) (hd : o.dst = some d) (hN : d < cx.N) (ho : o.op = .convert t t x) (he : sliceOf cx.P t = some e) (hu : kindOf cx.P e = some .u8) (hn : 0 < n) (hi : S[i]? = some (.row A n c e 1 cs)) (hx : Ev env true x (.v (.slice A n c)))
    (hr : AWL cx ops l K ((d, true, .v (.slice A n c)) :: env) S) : AWL cx ops (o :: l) K env S := by
  refine AWL.eff hg hd hN fun a w hs => ?_
  obtain ⟨us, ⟨r1, r2, r3, r4⟩, hV⟩ := hs.row hi
  rcases r4 with ⟨rfl, rfl, rfl⟩ | ⟨gb, cur, fr, rfl, hh, hfr, hsz, htk⟩
  · omega
  have hrun : (execOp a.eval o).run cx.P w = .ok (.value (.slice (some ⟨gb, 0, none⟩) n c)) (w.freeze ⟨gb, cur.size, none⟩ 1) := by
    have hsh : w.shape? gb = some (e, cur.size) := by simp [World.shape?, hh]
    simp [execOp, ho, hx.val hs rfl, convert, run_underlying (sliceOf_spec he), run_underlying (kindOf_spec hu), markStringish, hsh, Sem.run_bind, Sem.run_pure]
  have hgb : gb < w.heap.size := lt_of_heap hh
  have hother : ∀ b, b ≠ gb → (w.freeze ⟨gb, cur.size, none⟩ 1).heap[b]? = w.heap[b]? := fun b hb => by
    unfold World.freeze
    rw [if_neg (by decide)]
    simp only [Array.getElem?_modify]
    rw [if_neg (fun h => hb h.symm)]
  have hh' : (w.freeze ⟨gb, cur.size, none⟩ 1).heap[gb]? = some (.cells cur e (if fr.1 == fr.2 then (cur.size, cur.size + 1) else (min fr.1 cur.size, max fr.2 (cur.size + 1)))) := by
    unfold World.freeze
    rw [if_neg (by decide)]
    simp [Array.getElem?_modify, hh]
  have hM : gb ∈ cx.X ++ M S := List.mem_append.2 (.inr (mem_M.2 ⟨_, List.mem_of_getElem? hi, rfl⟩))
  have hset : S.set i (.row (some ⟨gb, 0, none⟩) n c e 1 cs) = S := by
    apply List.ext_getElem?
    intro q
    rw [List.getElem?_set]
    split
    · rename_i hq
      subst hq
      rw [hi, if_pos (List.getElem?_eq_some_iff.1 hi).1]
    · rfl
  refine ⟨_, _, _, S, hrun, ?_, .v _, hr⟩
  rw [← hset]
  have hsz' : (w.freeze ⟨gb, cur.size, none⟩ 1).heap.size = w.heap.size := by unfold World.freeze; rw [if_neg (by decide)]; simp
  refine hs.setEnt hi rfl (fun b _ hb => hother b (fun h => hb (by rw [h]; rfl))) hsz' rfl rfl rfl ⟨us, ⟨r1, r2, r3, .inr ⟨gb, cur, _, rfl, hh', .inr ?_, hsz, htk⟩⟩, ?_⟩
  · split
    · exact Nat.le_refl _
    · rename_i hne
      rcases hfr with h | h
      · exact absurd (by simp [h]) hne
      · exact Nat.le_min.2 ⟨h, Nat.le_refl _⟩
  exact hV.mono (Nat.le_of_eq hsz'.symm) (fun b _ hm => hother b (fun h => hm (h ▸ hM))) (fun b _ hb => hb)
theorem AW.loop5 {α β γ δ ε : Type} {c : Code} (E : α → β → γ → δ → ε → Env) (H : α → β → γ → δ → ε → St) (inv : α → β → γ → δ → ε → Prop) (μ : α → β → γ → δ → ε → Nat) (x₀ : α) (y₀ : β) (z₀ : γ) (u₀ : δ) (v₀ : ε) (h₀ : inv x₀ y₀ z₀ u₀ v₀) (he : Sub (E x₀ y₀ z₀ u₀ v₀) env) (hS : S = H x₀ y₀ z₀ u₀ v₀)
    (round : ∀ x y z u v, inv x y z u v → AW cx c (thenQ (fun env' S' => ∃ x' y' z' u' v', inv x' y' z' u' v' ∧ μ x' y' z' u' v' < μ x y z u v ∧ Sub (E x' y' z' u' v') env' ∧ S' = H x' y' z' u' v') Q) (E x y z u v) (H x y z u v)) : AW cx (.loop c) Q env S := by
  refine AW.loop4 (α := α × β) (fun q => E q.1 q.2) (fun q => H q.1 q.2) (fun q => inv q.1 q.2) (fun q => μ q.1 q.2) (x₀, y₀) z₀ u₀ v₀ h₀ he hS fun q z u v hq => (round q.1 q.2 z u v hq).mono ?_
  intro e env' S' h
  cases e with
  | normal => obtain ⟨x', y', z', u', v', h⟩ := h; exact ⟨(x', y'), z', u', v', h⟩
  | _ => exact h
/-- A guard that holds. -/
theorem AWL.unguard {j dj : Nat} {b want : Bool} (hg : o.guard = some (j, want)) (hj : (ops[j]?).bind (·.dst) = some dj) (hk : get dj env = some (true, .v (.bool b))) (hb : b = want) (h : AWL cx ops ({ o with guard := none } :: l) K env S) : AWL cx ops (o :: l) K env S := by
  intro a w hs
  have h1 := h a w hs
  unfold wpList at h1 ⊢
  rw [if_pos (wanted_none (o := { o with guard := none }) rfl)] at h1
  have hw : Region.wanted o (yielded ops a.tmps) = true := by
    have h2 := yielded_slot (ops := ops) (a := a) hj ((hs.slots dj true _ hk).1 rfl).v_inv
    simp only [Region.wanted, hg, h2, boolOf, hb]
    simp
  rw [if_pos hw]
  exact h1
end
end Go.Proofs.YtjndpakhmgapjaaDoor
