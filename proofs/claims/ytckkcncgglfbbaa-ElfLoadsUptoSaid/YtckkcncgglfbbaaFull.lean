/-
  ROWS that are known up to what they can hold; segments in rows of their owner's.
-/
import Derived.Test.YtckkcncgglfbbaaAw20
import Derived.Test.YtckkcncgglfbbaaLoad
namespace Go.Proofs.Ytckkcncgglfbbaa
open Go Go.RowKit
set_option linter.unusedSectionVars false
theorem zeroCells_1 (z : Value) (n : Nat) : (Builtin.zeroCells #[z] n).toList = List.replicate n z := by
  apply List.ext_getElem?
  intro i
  simp only [Builtin.zeroCells, Array.toList_map, Array.toList_range, List.size_toArray, List.length_singleton, Nat.mul_one, List.getElem?_map, List.getElem?_replicate]
  rcases Nat.lt_or_ge i n with h | h
  · rw [List.getElem?_range h, if_pos h]
    simp [Nat.mod_one]
  · rw [List.getElem?_eq_none (by simp; omega), if_neg (by omega)]; rfl
theorem run_append_fresh {P : Program} {w : World} {t tx ty e : TypeId} {b m : Nat} {z0 : Value} {news : List Value} {A : Option Addr} {v : Value} {us : List Value} (he : elemOf P t = some (e, 1, b, [z0])) (hrow : RowIs w e 1 A 0 0 us) (hs : Src P 1 tx v m news w) (h63 : m ≤ maxLen) (hb : m * b ≤ 140737488355328) :
    ∃ A' c' w', (Builtin.append_ #[t, tx] ty #[.slice A 0 0, v]).run P w = .ok (.slice A' m c') w' ∧ m ≤ c' ∧ RowIs w' e 1 A' c' c' (news ++ List.replicate (c' - m) z0) ∧ (∀ g, A'.map (·.block) = some g → A.map (·.block) = some g ∨ g = w.heap.size) ∧
      (∀ g, g < w.heap.size → A.map (·.block) ≠ some g → w'.heap[g]? = w.heap[g]?) ∧ w.heap.size ≤ w'.heap.size ∧ w'.os = w.os ∧ w'.tape = w.tape ∧ w'.output = w.output := by
  obtain ⟨h1, i, z, h2, h3, hsz, rfl, h6, h7, h8⟩ := elemOf_spec he
  obtain ⟨r1, r2, r3, r4⟩ := hrow
  have hu : us = [] := List.eq_nil_of_length_eq_zero (by omega)
  subst hu
  have hs' : Src P i.size tx v m news w := by rw [hsz]; exact hs
  have hnl : news.length = m := by have := hs.newsLen; omega
  rcases Nat.eq_zero_or_pos m with hm | hm
  · subst hm
    have hn : news = [] := List.eq_nil_of_length_eq_zero hnl
    subst hn
    rcases r4 with ⟨rfl, _, _⟩ | ⟨gb, cur, fr, rfl, hh, hfr, hcs, htk⟩
    · exact ⟨none, 0, w, run_append_nil0 w t tx ty e i h1 h2 v [] hs', Nat.le_refl _, ⟨by simp, by unfold maxLen; omega, Nat.le_refl _, .inl ⟨rfl, rfl, rfl⟩⟩, (fun g hg => by cases hg), fun _ _ _ => rfl, Nat.le_refl _, rfl, rfl, rfl⟩
    · have hrun := run_append_room_src (P := P) w t tx ty e i h1 h2 gb 0 0 0 v 0 [] hs' (Nat.le_refl _) (fun j hj => absurd hj (Nat.not_lt_zero _)) (fun j hj => absurd hj (Nat.not_lt_zero _))
      obtain ⟨s1, s2, s3, s4, s5⟩ := setCells_rest gb ([] : List Value) (0 + 0 * i.size) w
      refine ⟨_, _, _, hrun, Nat.le_refl _, ⟨by simp, r2, Nat.le_refl _, .inr ⟨gb, cur, fr, rfl, hh, hfr, hcs, by simp⟩⟩, fun g hg => .inl hg, fun g _ hne => s5 g (fun e => hne (by subst e; rfl)), Nat.le_of_eq s1.symm, s2, s3, s4⟩
  · have hold : (Builtin.firstCells i.size 0 (.slice A 0 0)).run P w.drew = .ok ([] : List Value).toArray w.drew := by
      rcases r4 with ⟨rfl, _, _⟩ | ⟨gb, cur, fr, rfl, hh, hfr, hcs, htk⟩
      · exact run_firstCells_none w.drew _ _ _ _
      · exact run_firstCells_some w.drew _ _ _ _ _ [] (by simp) (fun j u hu => by simp at hu)
    have hfit := growslice_fits (need := 0 + m) (old := 0) (bytes := i.bytes) (by omega) (by simpa using hb)
    unfold maxLen at h63
    have hrun := run_append_grow_src (P := P) w t tx ty e i z h1 h2 h3 A 0 0 [] hold v m news hs' (by omega) (by omega) hfit
    have hcap1 := grownCap_ge w (0 + m) 0 e
    have hcap2 := grownCap_le_maxLen w (0 + m) 0 e (by unfold maxLen; omega)
    rw [Nat.zero_add] at hrun hcap1 hcap2
    have hz : z.cells = #[z0] := by rw [h6]
    have hcl : ((([] : List Value) ++ news).toArray ++ Builtin.zeroCells z.cells (grownCap w m 0 e - m)).toList = news ++ List.replicate (grownCap w m 0 e - m) z0 := by
      rw [hz, Array.toList_append, zeroCells_1]; rfl
    refine ⟨_, _, _, hrun, hcap1, ⟨by simp [hnl]; omega, hcap2, Nat.le_refl _, .inr ⟨w.heap.size, _, (0, 0), rfl, heap_alloc_new w.drew _, .inl rfl, ?_, ?_⟩⟩, fun g hg => .inr (by simpa using hg.symm), fun g hg _ => Below.heap_alloc w.drew _ g hg, by simp, rfl, rfl, rfl⟩
    · have := congrArg List.length hcl
      rw [Array.length_toList] at this
      rw [this, List.length_append, List.length_replicate, hnl]; omega
    · rw [hcl, List.take_of_length_le (by rw [List.length_append, List.length_replicate, hnl]; omega)]
section
variable {cx : Cx} {env : Env} {S : St} {o : Oper} {g : Bool} {x y z : Operand} {ops : Array Oper} {l : List Oper} {K : Env → St → Prop} {Q : Exit → Env → St → Prop} {d : Nat}
theorem VReps.vals {w : World} {L : List Nat} : ∀ {us : List Value}, (∀ u ∈ us, u.oneCell' = true) → VReps w L (us.map T.v) us
  | [], _ => .nil
  | u :: us, h => .cons (.v u) (h u (by simp)) (VReps.vals fun v hv => h v (by simp [hv]))
/-- append to an empty row: what the new row can hold beyond is zeros. -/
theorem AWL.appendFresh {t tx e : TypeId} {b m i : Nat} {z0 : Value} {A : Option Addr} {news : List T} (hg : o.guard = none) (hd : o.dst = some d) (hN : d < cx.N)
    (ho : o.op = .call { callee := .builtin .append, args := #[x, y], argTypes := #[t, tx] }) (he : elemOf cx.P t = some (e, 1, b, [z0])) (hz : z0.oneCell' = true) (hi : S[i]? = some (.row A 0 0 e 1 [])) (hx : Ev env true x (.v (.slice A 0 0))) (hy : SrcT cx env S y tx 1 m news)
    (h63 : m ≤ maxLen) (hb : m * b ≤ 140737488355328)
    (hr : ∀ A' c', m ≤ c' → AWL cx ops l K ((d, true, .v (.slice A' m c')) :: env) (S.set i (.row A' c' c' e 1 (news ++ List.replicate (c' - m) (.v z0))))) : AWL cx ops (o :: l) K env S := by
  refine AWL.eff hg hd hN fun a w hs => ?_
  obtain ⟨us, hrow, hV⟩ := hs.row hi
  obtain ⟨ns, hVn, hsrc⟩ := hy a w hs
  obtain ⟨A', c', w', hrun, hmc, hrow', hblk, hkeep, hsz, hos, htp, hou⟩ := run_append_fresh (ty := o.type) he hrow hsrc h63 hb
  refine ⟨_, w', _, _, ?_, ?_, .v _, hr A' c' hmc⟩
  · simp only [execOp, ho, resolve, invoke, builtin, Sem.run_bind, Sem.run_pure, Result.andThen_ok, List.map_toArray, List.map_cons, List.map_nil, hx.val hs rfl, hrun]
  · refine hs.swap hi hblk hkeep hsz hos htp hou (fun L hL => ⟨ns ++ List.replicate (c' - m) z0, hrow', ?_⟩)
    have hb' : ∀ b, b < w.heap.size → b ∉ cx.X ++ M S → w'.heap[b]? = w.heap[b]? := fun b hlt hm => hkeep b hlt (fun h => hm (List.mem_append.2 (.inr (mem_M.2 ⟨_, List.mem_of_getElem? hi, h⟩))))
    refine (hVn.mono hsz hb' hL).append ?_
    have := VReps.vals (w := w') (L := L) (us := List.replicate (c' - m) z0) (fun u hu => by rw [List.eq_of_mem_replicate hu]; exact hz)
    rwa [List.map_replicate] at this
end
end Go.Proofs.Ytckkcncgglfbbaa
