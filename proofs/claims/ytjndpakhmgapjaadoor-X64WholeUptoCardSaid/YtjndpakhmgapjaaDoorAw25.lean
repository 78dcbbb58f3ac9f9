/-
  ROWS OF BYTES that are known up to what they can hold: append to them; what a caller may spoil. Generic: no program is named here.
-/
import Derived.Test.YtjndpakhmgapjaaDoorAw24
namespace Go.Proofs.YtjndpakhmgapjaaDoor
open Go Go.RowKit
set_option linter.unusedVariables false
set_option linter.unusedSectionVars false
set_option linter.unusedSimpArgs false
theorem zeroCells_1 (z : Value) (n : Nat) : (Builtin.zeroCells #[z] n).toList = List.replicate n z := by
  apply List.ext_getElem?
  intro i
  simp only [Builtin.zeroCells, Array.toList_map, Array.toList_range, List.size_toArray, List.length_singleton, Nat.mul_one, List.getElem?_map, List.getElem?_replicate]
  rcases Nat.lt_or_ge i n with h | h
  · rw [List.getElem?_range h, if_pos h]
    simp [Nat.mod_one]
  · rw [List.getElem?_eq_none (by simp; omega), if_neg (by omega)]; rfl
theorem run_append_full {P : Program} {w : World} {t tx ty e : TypeId} {b n m : Nat} {z0 : Value} {us zs news : List Value} {A : Option Addr} {v : Value} (he : elemOf P t = some (e, 1, b, [z0])) (hn : us.length = n) (hrow : RowIs w e 1 A (n + zs.length) (n + zs.length) (us ++ zs)) (hs : Src P 1 tx v m news w) (h63 : n + m ≤ maxLen) (hb : (n + m) * b ≤ 140737488355328) :
    ∃ A' zs' w', (Builtin.append_ #[t, tx] ty #[.slice A n (n + zs.length), v]).run P w = .ok (.slice A' (n + m) (n + m + zs'.length)) w' ∧ RowIs w' e 1 A' (n + m + zs'.length) (n + m + zs'.length) (us ++ news ++ zs') ∧ (zs' = zs.drop m ∨ zs' = List.replicate zs'.length z0) ∧ (∀ g, A'.map (·.block) = some g → A.map (·.block) = some g ∨ g = w.heap.size) ∧
      (∀ g, g < w.heap.size → A.map (·.block) ≠ some g → w'.heap[g]? = w.heap[g]?) ∧ w.heap.size ≤ w'.heap.size ∧ w'.os = w.os ∧ w'.tape = w.tape ∧ w'.output = w.output := by
  obtain ⟨h1, i, z, h2, h3, hsz1, rfl, h6, h7, h8⟩ := elemOf_spec he
  have hs' : Src P i.size tx v m news w := by rw [hsz1]; exact hs
  have hnl : news.length = m := by have := hs.newsLen; omega
  obtain ⟨r1, r2, r3, r4⟩ := hrow
  by_cases hroom : m ≤ zs.length
  · rcases r4 with ⟨rfl, hn0, hc0⟩ | ⟨gb, cur, fr, rfl, hh, hfr, hsz, htk⟩
    · obtain rfl : m = 0 := by omega
      obtain rfl : us = [] := List.eq_nil_of_length_eq_zero (by omega)
      obtain rfl : zs = [] := List.eq_nil_of_length_eq_zero (by omega)
      obtain rfl : news = [] := List.eq_nil_of_length_eq_zero hnl
      obtain rfl : n = 0 := by simpa using hn.symm
      exact ⟨none, [], w, run_append_nil0 w t tx ty e i h1 h2 v [] hs', ⟨by simp, by unfold maxLen; omega, Nat.le_refl _, .inl ⟨rfl, rfl, rfl⟩⟩, .inl rfl, (fun g hg => by cases hg), fun _ _ _ => rfl, Nat.le_refl _, rfl, rfl, rfl⟩
    · have hfit : n * i.size + news.length ≤ cur.size := by
        rw [hnl, hsz, hsz1, Nat.mul_one, Nat.mul_one]
        omega
      have hcell : ∀ j, j < news.length → (w.cell? ⟨gb, 0 + n * i.size + j, none⟩).isSome = true := fun j hj => by
        rw [cell_of_row w gb _ cur e fr hh, Array.getElem?_eq_getElem (by omega)]
        rfl
      have hfro : ∀ j, j < news.length → w.frozen? ⟨gb, 0 + n * i.size + j, none⟩ = false := fun j hj => by
        obtain ⟨lo, hi'⟩ := fr
        simp only [World.frozen?, hh]
        simp only at hfr
        rcases hfr with h | h <;> (simp; intro h'; omega)
      have hrun := run_append_room_src (P := P) w t tx ty e i h1 h2 gb 0 n (n + zs.length) v m news hs' (by omega) hcell hfro
      obtain ⟨cur', c1, c2⟩ := setCells_heap gb news (0 + n * i.size) w cur hh (by omega)
      obtain ⟨s1, s2, s3, s4, s5⟩ := setCells_rest gb news (0 + n * i.size) w
      have hcur : cur.toList = us ++ zs := by
        rw [← htk, List.take_of_length_le]
        rw [Array.length_toList, hsz]
        exact Nat.le_refl _
      have hdl : n + m + (zs.drop m).length = n + zs.length := by rw [List.length_drop]; omega
      have hc2 : cur'.toList = us ++ news ++ zs.drop m := by
        rw [c2, hcur, hsz1, Nat.mul_one, Nat.zero_add, hnl, ← hn, List.take_left, List.drop_append]
        rw [List.drop_eq_nil_of_le (by omega), List.nil_append, Nat.add_sub_cancel_left]
      have hcs : cur'.size = (n + m + (zs.drop m).length) * 1 := by
        have := congrArg List.length hc2
        rw [Array.length_toList] at this
        rw [this, List.length_append, List.length_append, hn, hnl, Nat.mul_one]
      refine ⟨some ⟨gb, 0, none⟩, zs.drop m, _, by rw [hdl]; exact hrun, ⟨by rw [List.length_append, List.length_append, hn, hnl, Nat.mul_one], by rw [hdl]; exact r2, Nat.le_refl _, .inr ⟨gb, cur', fr, rfl, c1, ?_, hcs, by rw [hc2]; exact List.take_of_length_le (by rw [List.length_append, List.length_append, hn, hnl, Nat.mul_one]; exact Nat.le_refl _)⟩⟩, .inl rfl, fun g hg => .inl hg, fun g _ hne => s5 g (fun e => hne (by subst e; rfl)), Nat.le_of_eq s1.symm, s2, s3, s4⟩
      rw [hcs, Nat.mul_one, hdl]
      rw [hsz, Nat.mul_one] at hfr
      exact hfr
  · have hn' : n + zs.length < n + m := by omega
    have hold : (Builtin.firstCells i.size n (.slice A n (n + zs.length))).run P w.drew = .ok us.toArray w.drew := by
      rcases r4 with ⟨rfl, hn0, hc0⟩ | ⟨gb, cur, fr, rfl, hh, hfr, hsz, htk⟩
      · obtain rfl : us = [] := List.eq_nil_of_length_eq_zero (by omega)
        obtain rfl : n = 0 := by simpa using hn.symm
        exact run_firstCells_none w.drew _ _ _ _
      · refine run_firstCells_some w.drew _ _ _ _ _ us (by rw [hsz1, Nat.mul_one, hn]) (fun j u hu => ?_)
        rw [add_lit', Nat.zero_add]
        exact RowIs.cell (w := w) (e := e) (size := 1) (n := n + zs.length) (c := n + zs.length) ⟨r1, r2, r3, .inr ⟨gb, cur, fr, rfl, hh, hfr, hsz, htk⟩⟩ (by rw [List.getElem?_append_left (List.getElem?_eq_some_iff.1 hu).1]; exact hu)
    have hfit := growslice_fits hn' hb
    unfold maxLen at h63
    have hrun := run_append_grow_src (P := P) w t tx ty e i z h1 h2 h3 A n (n + zs.length) us hold v m news hs' hn' (by omega) hfit
    have hcap1 := grownCap_ge w (n + m) (n + zs.length) e
    have hcap2 := grownCap_le_maxLen w (n + m) (n + zs.length) e (by unfold maxLen; omega)
    have hz : z.cells = #[z0] := by rw [h6]
    have hcl : ((us ++ news).toArray ++ Builtin.zeroCells z.cells (grownCap w (n + m) (n + zs.length) e - (n + m))).toList = us ++ news ++ List.replicate (grownCap w (n + m) (n + zs.length) e - (n + m)) z0 := by
      rw [hz, Array.toList_append, zeroCells_1]
    have hkc : n + m + (List.replicate (grownCap w (n + m) (n + zs.length) e - (n + m)) z0).length = grownCap w (n + m) (n + zs.length) e := by rw [List.length_replicate]; omega
    have hll : (us ++ news ++ List.replicate (grownCap w (n + m) (n + zs.length) e - (n + m)) z0).length = grownCap w (n + m) (n + zs.length) e := by rw [List.length_append, List.length_append, List.length_replicate, hn, hnl]; omega
    refine ⟨some ⟨w.heap.size, 0, none⟩, List.replicate (grownCap w (n + m) (n + zs.length) e - (n + m)) z0, _, by rw [hkc]; exact hrun, ?_, .inr (by rw [List.length_replicate]), fun g hg => .inr (by simpa using hg.symm), fun g hg _ => Below.heap_alloc w.drew _ g hg, by simp, rfl, rfl, rfl⟩
    rw [hkc]
    refine ⟨by rw [hll, Nat.mul_one], hcap2, Nat.le_refl _, .inr ⟨w.heap.size, _, (0, 0), rfl, heap_alloc_new w.drew _, .inl rfl, ?_, ?_⟩⟩
    · have := congrArg List.length hcl
      rw [Array.length_toList] at this
      rw [this, hll, Nat.mul_one]
    · rw [hcl, List.take_of_length_le (by rw [hll, Nat.mul_one]; exact Nat.le_refl _)]
section
variable {cx : Cx} {env : Env} {S : St} {o : Oper} {g : Bool} {x y z : Operand} {ops : Array Oper} {l : List Oper} {K : Env → St → Prop} {Q : Exit → Env → St → Prop} {d : Nat}
def u8V (b : UInt8) : Value := .int .u8 (b.toNat : Int)
theorem reps_u8 {w : World} {L : List Nat} : ∀ (bs : List UInt8), VReps w L (bs.map u8) (bs.map u8V)
  | [] => .nil
  | b :: bs => .cons (.v _) rfl (reps_u8 bs)
theorem reps_u8_inv {w : World} {L : List Nat} : ∀ {bs : List UInt8} {us : List Value}, VReps w L (bs.map u8) us → us = bs.map u8V
  | [], us, h => List.eq_nil_of_length_eq_zero (by simpa using h.len.symm)
  | b :: bs, [], h => absurd h.len (by simp)
  | b :: bs, u :: us, h => by
    have h0 := (h.at_ 0 _ u rfl rfl).v_inv
    have h1 : VReps w L (bs.map u8) us := ⟨by simpa using h.len, fun j t v e1 e2 => h.at_ (j + 1) t v e1 e2, fun v hv => h.one v (List.mem_cons_of_mem _ hv)⟩
    rw [reps_u8_inv h1, h0]
    rfl
/-- append to a row of bytes known up to what it can hold. -/
theorem AWL.appendFull {t tx e : TypeId} {b m i : Nat} {A : Option Addr} {bs r : List UInt8} {news : List T} (nb : List UInt8) (hnb : news = nb.map u8) (hg : o.guard = none) (hd : o.dst = some d) (hN : d < cx.N)
    (ho : o.op = .call { callee := .builtin .append, args := #[x, y], argTypes := #[t, tx] }) (he : elemOf cx.P t = some (e, 1, b, [.int .u8 0])) (hi : S[i]? = some (.row A (bs.length + r.length) (bs.length + r.length) e 1 ((bs ++ r).map u8))) (hx : Ev env true x (.v (.slice A bs.length (bs.length + r.length)))) (hy : SrcT cx env S y tx 1 m news)
    (h63 : bs.length + m ≤ maxLen) (hb : (bs.length + m) * b ≤ 140737488355328)
    (hr : ∀ (A' : Option Addr) (r' : List UInt8), AWL cx ops l K ((d, true, .v (.slice A' (bs ++ nb).length ((bs ++ nb).length + r'.length))) :: env) (S.set i (.row A' ((bs ++ nb).length + r'.length) ((bs ++ nb).length + r'.length) e 1 ((bs ++ nb ++ r').map u8)))) : AWL cx ops (o :: l) K env S := by
  subst hnb
  refine AWL.eff hg hd hN fun a w hs => ?_
  obtain ⟨us, hrow, hV⟩ := hs.row hi
  obtain ⟨ns, hVn, hsrc⟩ := hy a w hs
  obtain rfl := reps_u8_inv hV
  obtain rfl := reps_u8_inv hVn
  have hm : m = nb.length := by have := hsrc.newsLen; rw [List.length_map] at this; omega
  subst hm
  rw [List.map_append] at hrow
  have hzl : (r.map u8V).length = r.length := List.length_map ..
  rw [← hzl] at hrow
  obtain ⟨A', zs', w', hrun, hrow', hz', hblk, hkeep, hsz, hos, htp, hou⟩ := run_append_full (ty := o.type) he (by rw [List.length_map]) hrow hsrc h63 hb
  obtain ⟨r', rfl⟩ : ∃ r' : List UInt8, zs' = r'.map u8V := by
    rcases hz' with h | h
    · exact ⟨r.drop nb.length, by rw [h, List.map_drop]⟩
    · exact ⟨List.replicate zs'.length 0, by rw [List.map_replicate]; exact h⟩
  have hzl' : (r'.map u8V).length = r'.length := List.length_map ..
  rw [hzl, hzl'] at hrun
  rw [hzl'] at hrow'
  have hal : (bs ++ nb).length = bs.length + nb.length := List.length_append
  have hr' := hr A' r'
  rw [hal] at hr'
  refine ⟨_, w', _, _, ?_, ?_, .v _, hr'⟩
  · simp only [execOp, ho, resolve, invoke, builtin, Sem.run_bind, Sem.run_pure, Result.andThen_ok, List.map_toArray, List.map_cons, List.map_nil, hx.val hs rfl, hrun]
  · refine hs.swap hi hblk hkeep hsz hos htp hou (fun L hL => ⟨_, hrow', ?_⟩)
    rw [← List.map_append, ← List.map_append]
    exact reps_u8 _
theorem full_tree {w : World} {L L' : List Nat} {A : Option Addr} {e : TypeId} {bs r : List UInt8} (h : (Ent.row A (bs.length + r.length) (bs.length + r.length) e 1 ((bs ++ r).map u8)).holds w L) (hL : ∀ g, A.map (·.block) = some g → g ∉ L') : VRep w L' (.sl 1 (bs.map u8)) (.slice A bs.length (bs.length + r.length)) := by
  obtain ⟨us, ⟨r1, r2, r3, r4⟩, hV⟩ := h
  obtain rfl := reps_u8_inv hV
  rcases r4 with ⟨rfl, hn0, hc0⟩ | ⟨gb, cur, fr, rfl, hh, hfr, hsz, htk⟩
  · obtain rfl : bs = [] := List.eq_nil_of_length_eq_zero (by omega)
    exact .sl0 r2
  · refine sl_new (us := bs.map u8V) (by decide) (by rw [List.length_map, Nat.mul_one]) (Nat.le_add_right _ _) r2 (reps_u8 bs) hh (hL gb rfl) ?_
    rw [List.length_map]
    have hcur : cur.toList = (bs ++ r).map u8V := by
      rw [← htk, List.take_of_length_le]
      rw [Array.length_toList, hsz]
      exact Nat.le_refl _
    rw [hcur, List.map_append]
    conv => lhs; rw [show bs.length = (bs.map u8V).length from (List.length_map ..).symm, List.take_left]
end
end Go.Proofs.YtjndpakhmgapjaaDoor
