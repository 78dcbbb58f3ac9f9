/-
  append, []byte of a string, forgetting that a slice may be appended to; calls; the contract of a function. Generic: no program is named here.
-/
import Derived.Test.YtjndpakhmgapjaaDoorAw7
namespace Go.Proofs.YtjndpakhmgapjaaDoor
open Go Go.RowKit
set_option linter.unusedVariables false

section
variable {cx : Cx} {env : Env} {S : St} {o : Oper} {g : Bool} {x y z : Operand} {ops : Array Oper} {l : List Oper} {K : Env → St → Prop} {Q : Exit → Env → St → Prop} {d : Nat}

theorem run_append_nil0 {P : Program} (w : World) (t tx ty e : TypeId) (i : TypeInfo) (ht : P.underlying t = some (.slice e)) (hi : P.info? e = some i) (v : Value) (us : List Value) (hs : Src P i.size tx v 0 us w) :
    (Builtin.append_ #[t, tx] ty #[.slice none 0 0, v]).run P w = .ok (.slice none 0 0) w := by
  rcases hs.kind with ⟨e', hk⟩ | hk <;> simp [Builtin.append_, run_underlying ht, run_underlying hk, sizeOf, typeInfo, hi, hs.len, hs.cells]

theorem run_append_row {P : Program} {w : World} {t tx ty e : TypeId} {k b n c m : Nat} {zs us news : List Value} {A : Option Addr} {v : Value} (he : elemOf P t = some (e, k, b, zs)) (hk : 0 < k) (hrow : RowIs w e k A n c us) (hs : Src P k tx v m news w) (h63 : n + m ≤ maxLen) (hb : (n + m) * b ≤ 140737488355328) :
    ∃ A' c' w', (Builtin.append_ #[t, tx] ty #[.slice A n c, v]).run P w = .ok (.slice A' (n + m) c') w' ∧ RowIs w' e k A' (n + m) c' (us ++ news) ∧ (∀ g, A'.map (·.block) = some g → A.map (·.block) = some g ∨ g = w.heap.size) ∧
      (∀ g, g < w.heap.size → A.map (·.block) ≠ some g → w'.heap[g]? = w.heap[g]?) ∧ w.heap.size ≤ w'.heap.size ∧ w'.os = w.os ∧ w'.tape = w.tape ∧ w'.output = w.output := by
  obtain ⟨h1, i, z, h2, h3, rfl, rfl, h6, h7, h8⟩ := elemOf_spec he
  obtain ⟨r1, r2, r3, r4⟩ := hrow
  by_cases hroom : n + m ≤ c
  · rcases r4 with ⟨rfl, rfl, rfl⟩ | ⟨gb, cur, fr, rfl, hh, hfr, hsz, htk⟩
    · obtain rfl : m = 0 := by omega
      obtain rfl : us = [] := List.eq_nil_of_length_eq_zero (by simpa using r1)
      obtain rfl : news = [] := List.eq_nil_of_length_eq_zero (by simpa using hs.newsLen)
      exact ⟨none, 0, w, run_append_nil0 w t tx ty e i h1 h2 v [] hs, ⟨by simp, by unfold maxLen; omega, Nat.le_refl _, .inl ⟨rfl, rfl, rfl⟩⟩, (fun g hg => by cases hg), fun _ _ _ => rfl, Nat.le_refl _, rfl, rfl, rfl⟩
    · have hfit : n * i.size + news.length ≤ cur.size := by
        rw [hs.newsLen, hsz, ← Nat.add_mul]
        exact Nat.mul_le_mul_right _ hroom
      have hcell : ∀ j, j < news.length → (w.cell? ⟨gb, 0 + n * i.size + j, none⟩).isSome = true := fun j hj => by
        rw [cell_of_row w gb _ cur e fr hh, Array.getElem?_eq_getElem (by omega)]
        rfl
      have hfro : ∀ j, j < news.length → w.frozen? ⟨gb, 0 + n * i.size + j, none⟩ = false := fun j hj => by
        obtain ⟨lo, hi'⟩ := fr
        simp only [World.frozen?, hh]
        simp only at hfr
        rcases hfr with h | h <;> (simp; intro h'; omega)
      have hrun := run_append_room_src (P := P) w t tx ty e i h1 h2 gb 0 n c v m news hs hroom hcell hfro
      obtain ⟨cur', c1, c2⟩ := setCells_heap gb news (0 + n * i.size) w cur hh (by omega)
      obtain ⟨s1, s2, s3, s4, s5⟩ := setCells_rest gb news (0 + n * i.size) w
      refine ⟨_, _, _, hrun, ⟨by simp [r1, hs.newsLen, Nat.add_mul], r2, hroom, .inr ⟨gb, cur', fr, rfl, c1, ?_, ?_, ?_⟩⟩, fun g hg => .inl hg, fun g _ hne => s5 g (fun e => hne (by subst e; rfl)), Nat.le_of_eq s1.symm, s2, s3, s4⟩
      · have : cur'.size = cur.size := by
          have := congrArg List.length c2
          simp at this
          omega
        rw [this]; exact hfr
      · have := congrArg List.length c2
        simp at this
        omega
      · rw [c2, Nat.zero_add, htk]
        have : us.length + news.length = (n + m) * i.size := by rw [r1, hs.newsLen, Nat.add_mul]
        rw [← this]
        rw [← List.length_append, List.take_left]
  · have hn' : c < n + m := by omega
    have hold : (Builtin.firstCells i.size n (.slice A n c)).run P w.drew = .ok us.toArray w.drew := by
      rcases r4 with ⟨rfl, rfl, rfl⟩ | ⟨gb, cur, fr, rfl, hh, hfr, hsz, htk⟩
      · obtain rfl : us = [] := List.eq_nil_of_length_eq_zero (by simpa using r1)
        exact run_firstCells_none w.drew _ _ _ _
      · refine run_firstCells_some w.drew _ _ _ _ _ us r1 (fun j u hu => ?_)
        rw [add_lit', Nat.zero_add]
        exact RowIs.cell (w := w) (e := e) (size := i.size) (n := n) (c := c) ⟨r1, r2, r3, .inr ⟨gb, cur, fr, rfl, hh, hfr, hsz, htk⟩⟩ hu
    have hfit := growslice_fits hn' hb
    unfold maxLen at h63
    have hrun := run_append_grow_src (P := P) w t tx ty e i z h1 h2 h3 A n c us hold v m news hs hn' (by omega) hfit
    have hcap1 := grownCap_ge w (n + m) c e
    have hcap2 := grownCap_le_maxLen w (n + m) c e (by unfold maxLen; omega)
    have hlen : us.length + news.length = (n + m) * i.size := by rw [r1, hs.newsLen, Nat.add_mul]
    refine ⟨_, _, _, hrun, ⟨by simp [hlen], hcap2, hcap1, .inr ⟨w.heap.size, _, (0, 0), rfl, heap_alloc_new w.drew _, .inl rfl, ?_, ?_⟩⟩, fun g hg => .inr (by simpa using hg.symm), fun g hg _ => Below.heap_alloc w.drew _ g hg, by simp, rfl, rfl, rfl⟩
    · have hz : z.cells.size = i.size := by rw [h6]; simpa using h7
      simp only [Array.size_append, List.size_toArray, List.length_append, hlen, size_zeroCells, hz]
      rw [← Nat.add_mul]
      congr 1
      omega
    · simp only [Array.toList_append]
      have e1 : (us ++ news).length = (n + m) * i.size := by simp [hlen]
      rw [← e1, List.take_left]

theorem AWL.appendRow {t tx e : TypeId} {k b n c m i : Nat} {zs : List Value} {A : Option Addr} {cs news : List T} (hg : o.guard = none) (hd : o.dst = some d) (hN : d < cx.N)
    (ho : o.op = .call { callee := .builtin .append, args := #[x, y], argTypes := #[t, tx] }) (he : elemOf cx.P t = some (e, k, b, zs)) (hk : 0 < k) (hi : S[i]? = some (.row A n c e k cs)) (hx : Ev env true x (.v (.slice A n c))) (hy : SrcT cx env S y tx k m news)
    (h63 : n + m ≤ maxLen) (hb : (n + m) * b ≤ 140737488355328)
    (hr : ∀ A' c', AWL cx ops l K ((d, true, .v (.slice A' (n + m) c')) :: env) (S.set i (.row A' (n + m) c' e k (cs ++ news)))) : AWL cx ops (o :: l) K env S := by
  refine AWL.eff hg hd hN fun a w hs => ?_
  obtain ⟨us, hrow, hV⟩ := hs.row hi
  obtain ⟨ns, hVn, hsrc⟩ := hy a w hs
  obtain ⟨A', c', w', hrun, hrow', hblk, hkeep, hsz, hos, htp, hou⟩ := run_append_row (ty := o.type) he hk hrow hsrc h63 hb
  refine ⟨_, w', _, _, ?_, ?_, .v _, hr A' c'⟩
  · simp only [execOp, ho, resolve, invoke, builtin, Sem.run_bind, Sem.run_pure, Result.andThen_ok, List.map_toArray, List.map_cons, List.map_nil, hx.val hs rfl, hrun]
  · refine hs.swap hi hblk hkeep hsz hos htp hou (fun L hL => ⟨us ++ ns, hrow', ?_⟩)
    have hb' : ∀ b, b < w.heap.size → b ∉ cx.X ++ M S → w'.heap[b]? = w.heap[b]? := fun b hlt hm => hkeep b hlt (fun h => hm (List.mem_append.2 (.inr (mem_M.2 ⟨_, List.mem_of_getElem? hi, h⟩))))
    exact (hV.append hVn).mono hsz hb' hL

/-! ### []byte of a string -/
theorem run_strBytes {P : Program} {ρ : Operand → Value} {src dst : TypeId} {e : TypeId} {s : ByteArray} {w : World} (ho : o.op = .convert src dst x) (hs : isStr P src = true) (he : P.underlying dst = some (.slice e)) (hu : P.underlying e = some (.int .u8)) (hx : ρ x = .string s) (hlen : s.size ≤ maxLen) :
    ∃ c cur fr w', (execOp ρ o).run P w = .ok (.value (.slice (some ⟨w.heap.size, 0, none⟩) s.size c)) w' ∧ w'.heap[w.heap.size]? = some (.cells cur e fr) ∧ (fr.1 = fr.2 ∨ cur.size ≤ fr.1) ∧ cur.size = c ∧ s.size ≤ c ∧ c ≤ maxLen ∧ cur.toList.take s.size = byteCells s ∧ Keeps [] w w' := by
  let c := (Question.appendCap s.size 0 e).cut (w.tape w.drawn (.appendCap s.size 0 e))
  have hc1 : s.size ≤ c := by simp [c, Question.cut]
  have hc2 : c ≤ maxLen := by
    simp only [c, Question.cut]
    unfold maxLen at hlen ⊢
    have : w.tape w.drawn (.appendCap s.size 0 e) % (2 ^ 63 - s.size) < 2 ^ 63 - s.size := Nat.mod_lt _ (by omega)
    omega
  let cur : Array Value := (s.data.map fun b => Value.int .u8 b.toNat) ++ Array.replicate (c - s.size) (.int .u8 0)
  have hcs : cur.size = c := by
    have : s.data.size = s.size := rfl
    simp only [cur, Array.size_append, Array.size_map, Array.size_replicate]
    omega
  let w1 := w.drew.alloc (.cells cur e)
  have hsh : w1.shape? w.heap.size = some (e, c) := by
    have : w1.heap[w.heap.size]? = some (.cells cur e) := heap_alloc_new w.drew _
    simp [World.shape?, this, hcs]
  let w2 := w1.freeze ⟨w.heap.size, c, none⟩ 1
  have hh : w2.heap[w.heap.size]? = some (.cells cur e (c, c + 1)) := by
    have : w1.heap[w.heap.size]? = some (.cells cur e) := heap_alloc_new w.drew _
    simp [w2, World.freeze, Array.getElem?_modify, this]
  have hother : ∀ k, k < w.heap.size → w2.heap[k]? = w.heap[k]? := fun k hk => by
    have h1 : w1.heap[k]? = w.heap[k]? := Below.heap_alloc w.drew _ k hk
    have hne : w.heap.size ≠ k := by omega
    simp only [w2, World.freeze]
    rw [if_neg (by decide)]
    simp only [Array.getElem?_modify]
    rw [if_neg hne]
    exact h1
  refine ⟨c, cur, (c, c + 1), w2, ?_, hh, .inr (Nat.le_of_eq hcs), hcs, hc1, hc2, ?_, ⟨rfl, rfl, rfl, ?_, fun k hk _ => hother k hk⟩⟩
  · have hst : (Conv.stringToBytes e s).run P w = .ok (.slice (some ⟨w.heap.size, 0, none⟩) s.size c) w2 := by
      simp only [Conv.stringToBytes, Sem.run_bind, run_choose, Question.forced, Bool.false_eq_true, if_false, Result.andThen_ok, newRow, run_newObj, Sem.run_pure, markStringish, run_shape, run_freeze]
      have hcur : ((s.data.map fun b => Value.int .u8 b.toNat) ++ Array.replicate ((Question.appendCap s.size 0 e).cut (w.tape w.drawn (.appendCap s.size 0 e)) - s.size) (.int .u8 0)) = cur := rfl
      rw [hcur]
      have hsh' : ({ heap := w.heap.push (.cells cur e), tape := w.tape, drawn := w.drawn + 1, os := w.os, output := w.output } : World).shape? w.heap.size = some (e, c) := hsh
      rw [hsh']
      rfl
    simp only [execOp, ho, hx, convert, Sem.run_bind, run_underlying (isStr_spec hs), run_underlying he, run_underlying hu, Result.andThen_ok, hst, Sem.run_pure]
  · have h1 : (s.data.map fun b => Value.int .u8 b.toNat).toList = byteCells s := by simp [byteCells]
    have h2 : (byteCells s).length = s.size := byteCells_length s
    simp only [cur, Array.toList_append, h1]
    rw [← h2, List.take_left]
  · simp [w2, w1, World.freeze]
theorem AWL.strBytesSl {src dst e : TypeId} {s : ByteArray} (hg : o.guard = none) (hd : o.dst = some d) (hN : d < cx.N) (ho : o.op = .convert src dst x) (hs : isStr cx.P src = true) (he : sliceOf cx.P dst = some e) (hu : kindOf cx.P e = some .u8) (hx : Ev env true x (.v (.string s))) (hlen : s.size ≤ maxLen)
    (hr : AWL cx ops l K ((d, true, .sl 1 (s.data.toList.map u8)) :: env) S) : AWL cx ops (o :: l) K env S := by
  refine AWL.eff hg hd hN fun a w hsim => ?_
  obtain ⟨c, cur, fr, w', hrun, hh, hfr, hsz, hc1, hc2, htk, hk⟩ := run_strBytes (w := w) ho hs (sliceOf_spec he) (kindOf_spec hu) (hx.val hsim rfl) hlen
  refine ⟨_, w', _, S, hrun, hsim.more hk, ?_, hr⟩
  have hV : VReps w' (cx.X ++ M S) (s.data.toList.map u8) (byteCells s) := by
    have := vreps_vals (w := w') (L := cx.X ++ M S) (byteCells s) (fun u hu => by
      unfold byteCells at hu
      obtain ⟨b, _, rfl⟩ := List.mem_map.1 hu
      rfl)
    unfold byteCells at this ⊢
    rw [List.map_map] at this
    exact this
  refine sl_new (by decide) ?_ hc1 hc2 hV hh hsim.notNew (by rw [byteCells_length]; exact htk)
  rw [List.length_map, Array.length_toList, Nat.mul_one]; rfl
theorem AWL.strBytesRow {src dst e : TypeId} {s : ByteArray} (hg : o.guard = none) (hd : o.dst = some d) (hN : d < cx.N) (ho : o.op = .convert src dst x) (hs : isStr cx.P src = true) (he : sliceOf cx.P dst = some e) (hu : kindOf cx.P e = some .u8) (hx : Ev env true x (.v (.string s))) (hlen : s.size ≤ maxLen)
    (hr : ∀ A c, AWL cx ops l K ((d, true, .v (.slice A s.size c)) :: env) (S ++ [.row A s.size c e 1 (s.data.toList.map u8)])) : AWL cx ops (o :: l) K env S := by
  refine AWL.eff hg hd hN fun a w hsim => ?_
  obtain ⟨c, cur, fr, w', hrun, hh, hfr, hsz, hc1, hc2, htk, hk⟩ := run_strBytes (w := w) ho hs (sliceOf_spec he) (kindOf_spec hu) (hx.val hsim rfl) hlen
  refine ⟨_, w', _, _, hrun, ?_, .v _, hr _ c⟩
  have hV : VReps w (cx.X ++ M S) (s.data.toList.map u8) (byteCells s) := by
    have := vreps_vals (w := w) (L := cx.X ++ M S) (byteCells s) (fun u hu => by
      unfold byteCells at hu
      obtain ⟨b, _, rfl⟩ := List.mem_map.1 hu
      rfl)
    unfold byteCells at this ⊢
    rw [List.map_map] at this
    exact this
  exact hsim.add rfl hk ⟨byteCells s, ⟨by rw [byteCells_length, Nat.mul_one], hc2, hc1, .inr ⟨w.heap.size, cur, fr, rfl, hh, hfr, by rw [hsz, Nat.mul_one], by rw [Nat.mul_one]; exact htk⟩⟩, hsim.repsAdd rfl hk hV⟩
end
end Go.Proofs.YtjndpakhmgapjaaDoor
