/-
  SLICES THAT THE CALL MAKES AND APPENDS TO; forgetting that a slice may be appended to. Generic: no program is named here.
-/
import Derived.Test.YtjndpakhmgapjaaDoorAw6
namespace Go.Proofs.YtjndpakhmgapjaaDoor
open Go Go.RowKit
set_option linter.unusedVariables false

section
variable {cx : Cx} {env : Env} {S : St} {o : Oper} {g : Bool} {x y z : Operand} {ops : Array Oper} {l : List Oper} {K : Env → St → Prop} {Q : Exit → Env → St → Prop} {d : Nat}

theorem flat_len {α : Type} (n k : Nat) (zs : List α) (h : zs.length = k) : (List.replicate n zs).flatten.length = n * k := by
  induction n with
  | zero => simp
  | succ n ih => rw [List.replicate_succ, List.flatten_cons, List.length_append, ih, h, Nat.succ_mul]; omega
theorem flat_take {α : Type} (n m k : Nat) (zs : List α) (h : zs.length = k) (hnm : n ≤ m) : ((List.replicate m zs).flatten).take (n * k) = (List.replicate n zs).flatten := by
  have e : m = n + (m - n) := by omega
  rw [e, ← List.replicate_append_replicate, List.flatten_append]
  have := flat_len n k zs h
  rw [← this, List.take_left]
theorem vreps_flat {w : World} {L : List Nat} (n : Nat) (zs : List Value) (h : ∀ u ∈ zs, u.oneCell' = true) : VReps w L ((List.replicate n (zs.map T.v)).flatten) ((List.replicate n zs).flatten) := by
  induction n with
  | zero => exact .nil
  | succ n ih =>
    rw [List.replicate_succ, List.replicate_succ, List.flatten_cons, List.flatten_cons]
    exact (vreps_vals zs h).append ih

theorem AWL.buildSliceOp {t e : TypeId} {n k b : Nat} {zs : List Value} {parts : Array (Nat × Operand)} {pt : List (Nat × T)} {cs : List T} (hg : o.guard = none) (hd : o.dst = some d) (hN : d < cx.N) (ho : o.op = .buildSlice t n parts)
    (he : elemOf cx.P t = some (e, k, b, zs)) (hk : 0 < k) (hp : EvParts env true parts.toList pt) (hn : n * k ≤ 16777216) (hf : fillT (fun i => some (i * k, k)) ((List.replicate n (zs.map T.v)).flatten) pt = some cs) (hl : cs.length = n * k)
    (hr : AWL cx ops l K ((d, true, .sl k cs) :: env) S) : AWL cx ops (o :: l) K env S := by
  refine AWL.eff hg hd hN fun a w hs => ?_
  obtain ⟨h1, i, z, h2, h3, h4, h5, h6, h7, h8⟩ := elemOf_spec he
  obtain ⟨e1, e2⟩ := hp.spec hs rfl
  have hz : VReps w (cx.X ++ M S) ((List.replicate n (zs.map T.v)).flatten) ((Array.range (n * k)).map (zs.toArray[· % zs.toArray.size]!)).toList := by rw [rep_range h7]; exact vreps_flat n zs h8
  obtain ⟨cells, c1, c2⟩ := fill_spec pt _ _ cs _ hz e1 e2 hf
  have hka := keeps_alloc w (.cells cells e)
  refine ⟨.slice (some ⟨w.heap.size, 0, none⟩) n n, w.alloc (.cells cells e), .sl k cs, S, ?_, hs.more hka, ?_, hr⟩
  · have hlim : ¬ (n * k > 2 ^ 24) := by omega
    simp only [execOp, ho, Instr.buildSlice, Sem.run_bind, run_underlying h1, Result.andThen_ok, sizeOf, typeInfo, run_program, h2, h4, Sem.run_pure]
    rw [if_neg hlim]
    have hl' : (Array.map (fun p : Nat × Operand => (p.1, a.eval p.2)) parts).toList = parts.toList.map fun p => (p.1, a.eval p.2) := by simp
    by_cases h0 : n * k = 0
    · rw [if_pos h0]
      rw [h0, show Array.range 0 = #[] from rfl, Array.map_empty] at c1
      have hfill : Instr.fill (fun i => some (i * k, k)) ((Array.range (n * k)).map fun x => (#[] : Array Value)[x % (#[] : Array Value).size]!) (Array.map (fun p : Nat × Operand => (p.1, a.eval p.2)) parts).toList = some cells := by
        rw [h0, show Array.range 0 = #[] from rfl, Array.map_empty, hl']
        exact c1
      simp only [Sem.run_bind, Sem.run_pure, Result.andThen_ok, hfill, newRow, run_newObj]
      rfl
    · rw [if_neg h0]
      have hfill : Instr.fill (fun i => some (i * k, k)) ((Array.range (n * k)).map fun x => zs.toArray[x % zs.toArray.size]!) (Array.map (fun p : Nat × Operand => (p.1, a.eval p.2)) parts).toList = some cells := by
        rw [hl']
        exact c1
      simp only [Sem.run_bind, Sem.run_pure, Result.andThen_ok, zeroValue, typeInfo, run_program, h2, h3, h6, hfill, newRow, run_newObj]
      rfl
  · refine sl_new hk hl (Nat.le_refl _) ?_ (c2.mono hka.size (fun b hb _ => hka.block b hb (by simp)) (fun _ _ hm => hm)) (heap_alloc_new w _) hs.notNew (by rw [← c2.len]; apply List.take_of_length_le; rw [c2.len]; exact Nat.le_refl _)
    unfold maxLen
    have : n ≤ n * k := Nat.le_mul_of_pos_right n hk
    omega

theorem run_mk {a : Act} {t e : TypeId} {n c k b : Nat} {zs : List Value} {P : Program} {kl kc : IntKind} (ho : o.op = .makeSlice t x y) (he : elemOf P t = some (e, k, b, zs)) (hx : a.eval x = .int kl (n : Int)) (hy : a.eval y = .int kc (c : Int)) (hnc : n ≤ c) (hb : b * c ≤ 281474976710656) (hc : c ≤ maxLen) (w : World) :
    (execOp a.eval o).run P w = .ok (.value (.slice (some ⟨w.heap.size, 0, none⟩) n c)) (w.alloc (.cells ((List.replicate c zs).flatten).toArray e)) := by
  obtain ⟨h1, i, z, h2, h3, h4, h5, h6, h7, h8⟩ := elemOf_spec he
  unfold maxLen at hc
  have hb2 : (i.bytes : Int) * (c : Int) ≤ 281474976710656 := by
    rw [h5]
    have hb' : ((b * c : Nat) : Int) ≤ 281474976710656 := by omega
    rw [Int.natCast_mul] at hb'
    exact hb'
  have := run_make (P := P) (w := w) t e i z h1 h2 h3 kl kc (n : Int) (c : Int) (by omega) (by omega) hb2 (by omega)
  have hcells : madeCells z.cells ((c : Int).toNat * i.size) = ((List.replicate c zs).flatten).toArray := by
    apply Array.ext'
    simp only [madeCells, Int.toNat_natCast, h4, h6]
    exact rep_range h7
  rw [hcells] at this
  simp only [execOp, ho, hx, hy, Sem.run_bind, this, Result.andThen_ok, Sem.run_pure, Int.toNat_natCast]
/-- make, the slice nobody's to write. -/
theorem AWL.makeSl {t e : TypeId} {n c k b : Nat} {zs : List Value} {kl kc : IntKind} (hg : o.guard = none) (hd : o.dst = some d) (hN : d < cx.N) (ho : o.op = .makeSlice t x y) (he : elemOf cx.P t = some (e, k, b, zs)) (hk : 0 < k)
    (hx : Ev env true x (.v (.int kl (n : Int)))) (hy : Ev env true y (.v (.int kc (c : Int)))) (hnc : n ≤ c) (hb : b * c ≤ 281474976710656) (hc : c ≤ maxLen)
    (hr : AWL cx ops l K ((d, true, .sl k (List.replicate n (zs.map T.v)).flatten) :: env) S) : AWL cx ops (o :: l) K env S := by
  refine AWL.eff hg hd hN fun a w hs => ?_
  obtain ⟨h1, i, z, h2, h3, h4, h5, h6, h7, h8⟩ := elemOf_spec he
  have hka := keeps_alloc w (.cells ((List.replicate c zs).flatten).toArray e)
  refine ⟨_, _, _, S, run_mk ho he (hx.val hs rfl) (hy.val hs rfl) hnc hb hc w, hs.more hka, ?_, hr⟩
  refine sl_new hk (by rw [flat_len n k _ (by simpa using h7)]) hnc hc (vreps_flat n zs h8) (heap_alloc_new w _) hs.notNew ?_
  rw [flat_len n k zs h7]
  exact flat_take n c k zs h7 hnc
/-- make, the slice the call's own. -/
theorem AWL.makeRow {t e : TypeId} {n c k b : Nat} {zs : List Value} {kl kc : IntKind} (hg : o.guard = none) (hd : o.dst = some d) (hN : d < cx.N) (ho : o.op = .makeSlice t x y) (he : elemOf cx.P t = some (e, k, b, zs))
    (hx : Ev env true x (.v (.int kl (n : Int)))) (hy : Ev env true y (.v (.int kc (c : Int)))) (hnc : n ≤ c) (hb : b * c ≤ 281474976710656) (hc : c ≤ maxLen)
    (hr : ∀ A, AWL cx ops l K ((d, true, .v (.slice A n c)) :: env) (S ++ [.row A n c e k (List.replicate n (zs.map T.v)).flatten])) : AWL cx ops (o :: l) K env S := by
  refine AWL.eff hg hd hN fun a w hs => ?_
  obtain ⟨h1, i, z, h2, h3, h4, h5, h6, h7, h8⟩ := elemOf_spec he
  have hka := keeps_alloc w (.cells ((List.replicate c zs).flatten).toArray e)
  refine ⟨_, _, _, _, run_mk ho he (hx.val hs rfl) (hy.val hs rfl) hnc hb hc w, ?_, .v _, hr _⟩
  refine hs.add rfl hka ⟨(List.replicate n zs).flatten, ⟨flat_len n k zs h7, hc, hnc, .inr ⟨w.heap.size, _, (0, 0), rfl, heap_alloc_new w _, .inl rfl, by simpa using flat_len c k zs h7, flat_take n c k zs h7 hnc⟩⟩, hs.repsAdd rfl hka (vreps_flat n zs h8)⟩

/-! ### append -/
theorem setCells_heap {e : TypeId} {fr : Nat × Nat} (gb : Nat) : ∀ (vs : List Value) (off : Nat) (w : World) (cur : Array Value), w.heap[gb]? = some (.cells cur e fr) → off + vs.length ≤ cur.size →
    ∃ cur' : Array Value, (w.setCells gb off vs).heap[gb]? = some (.cells cur' e fr) ∧ cur'.toList = cur.toList.take off ++ vs ++ cur.toList.drop (off + vs.length)
  | [], off, w, cur, h, _ => ⟨cur, h, by simp⟩
  | v :: r, off, w, cur, h, hl => by
    simp only [List.length_cons] at hl
    have h1 : (w.setCell ⟨gb, off, none⟩ v).heap[gb]? = some (.cells (cur.setIfInBounds off v) e fr) := by simp [World.setCell, Array.getElem?_modify, h]
    obtain ⟨cur', e1, e2⟩ := setCells_heap gb r (off + 1) _ _ h1 (by simp; omega)
    refine ⟨cur', e1, e2.trans ?_⟩
    have hlen : off < cur.toList.length := by simp; omega
    simp only [Array.toList_setIfInBounds, List.length_cons]
    rw [List.take_succ_eq_append_getElem (by simpa using hlen), List.take_set_of_le (Nat.le_refl _), List.drop_set_of_lt (by omega)]
    have e3 : off + 1 + r.length = off + (r.length + 1) := by omega
    rw [e3]
    simp
theorem setCells_rest (gb : Nat) : ∀ (vs : List Value) (off : Nat) (w : World), (w.setCells gb off vs).heap.size = w.heap.size ∧ (w.setCells gb off vs).os = w.os ∧ (w.setCells gb off vs).tape = w.tape ∧ (w.setCells gb off vs).output = w.output ∧ ∀ k, k ≠ gb → (w.setCells gb off vs).heap[k]? = w.heap[k]?
  | [], off, w => ⟨rfl, rfl, rfl, rfl, fun _ _ => rfl⟩
  | v :: r, off, w => by
    obtain ⟨h1, h2, h3, h4, h5⟩ := setCells_rest gb r (off + 1) (w.setCell ⟨gb, off, none⟩ v)
    exact ⟨h1.trans (by simp), h2, h3, h4, fun k hk => (h5 k hk).trans (Below.heap_setCell w ⟨gb, off, none⟩ v k hk)⟩

/-- What append's second argument yields. -/
def SrcT (cx : Cx) (env : Env) (S : St) (x : Operand) (tx : TypeId) (k m : Nat) (news : List T) : Prop :=
  ∀ a w, Sim cx env S a w → ∃ us : List Value, VReps w (cx.X ++ M S) news us ∧ Src cx.P k tx (a.eval x) m us w
theorem SrcT.sl {tx e : TypeId} {k m : Nat} {news : List T} (ht : sliceOf cx.P tx = some e) (hk : 0 < k) (hx : Ev env true x (.sl k news)) (hm : news.length = m * k) : SrcT cx env S x tx k m news := by
  intro a w hs
  have hv := hx.rep hs rfl
  generalize a.eval x = u at hv
  cases hv with
  | sl0 hc =>
    obtain rfl : m = 0 := by
      rcases Nat.mul_eq_zero.1 hm.symm with h | h <;> omega
    rename_i c A
    cases A with
    | none => exact ⟨[], .nil, Src.ofNil w (sliceOf_spec ht) c⟩
    | some ad => exact ⟨[], .nil, Src.ofSlice w (sliceOf_spec ht) ad 0 c [] (by simp) (fun j u h => by simp at h) (fun _ h => by cases h)⟩
  | sl hn hkl hl hnc hc hb hL hcell hh h1 =>
    rename_i n c us ad
    obtain rfl : n = m := Nat.eq_of_mul_eq_mul_right hk (hkl.symm.trans hm)
    exact ⟨us, ⟨hl, hh, h1⟩, Src.ofSlice w (sliceOf_spec ht) ad n c us (by rw [← hl, hkl]) hcell h1⟩
theorem SrcT.nil {tx e : TypeId} {k c : Nat} (ht : sliceOf cx.P tx = some e) (hx : Ev env true x (.v (.slice none 0 c))) : SrcT cx env S x tx k 0 [] := by
  intro a w hs
  rw [hx.val hs rfl]
  exact ⟨[], .nil, Src.ofNil w (sliceOf_spec ht) c⟩
theorem SrcT.str {tx : TypeId} {s : ByteArray} (ht : isStr cx.P tx = true) (hx : Ev env true x (.v (.string s))) : SrcT cx env S x tx 1 s.size (s.data.toList.map u8) := by
  intro a w hs
  rw [hx.val hs rfl]
  refine ⟨byteCells s, ?_, Src.ofString w (isStr_spec ht) s⟩
  have h : ∀ u ∈ byteCells s, u.oneCell' = true := fun u hu => by
    unfold byteCells at hu
    obtain ⟨b, _, rfl⟩ := List.mem_map.1 hu
    rfl
  have := vreps_vals (w := w) (L := cx.X ++ M S) (byteCells s) h
  unfold byteCells at this ⊢
  rw [List.map_map] at this
  exact this
theorem SrcT.row {tx e e' : TypeId} {k i n c : Nat} {A : Option Addr} {cs : List T} (ht : sliceOf cx.P tx = some e) (hi : S[i]? = some (.row A n c e' k cs)) (hx : Ev env true x (.v (.slice A n c))) : SrcT cx env S x tx k n cs := by
  intro a w hs
  rw [hx.val hs rfl]
  obtain ⟨us, hr, hV⟩ := hs.row hi
  refine ⟨us, hV, ?_⟩
  cases A with
  | none =>
    rcases hr.2.2.2 with ⟨_, rfl, _⟩ | ⟨_, _, _, h, _⟩
    · obtain rfl : us = [] := List.eq_nil_of_length_eq_zero (by simpa using hr.1)
      exact Src.ofNil w (sliceOf_spec ht) c
    · cases h
  | some ad =>
    rcases hr.2.2.2 with ⟨h, _⟩ | ⟨gb, cur, fr, h, _⟩
    · cases h
    · simp only [Option.some.injEq] at h
      subst h
      refine Src.ofSlice w (sliceOf_spec ht) _ n c us hr.1 (fun j u hu => ?_) hV.one
      rw [add_lit', Nat.zero_add]
      exact hr.cell hu

/-- One entry turns, its block its own or new. -/
theorem Sim.swap {a : Act} {w : World} (hs : Sim cx env S a w) {w' : World} {i : Nat} {e e' : Ent} (hi : S[i]? = some e) (hb : ∀ b, e'.blk = some b → e.blk = some b ∨ b = w.heap.size) (hk : ∀ b, b < w.heap.size → e.blk ≠ some b → w'.heap[b]? = w.heap[b]?) (hsz : w.heap.size ≤ w'.heap.size) (hos : w'.os = w.os) (htp : w'.tape = w.tape) (hou : w'.output = w.output)
    (he : ∀ L, (∀ b, b < w.heap.size → b ∈ L → b ∈ cx.X ++ M S) → e'.holds w' L) : Sim cx env (S.set i e') a w' := by
  have hil : i < S.length := (List.getElem?_eq_some_iff.1 hi).1
  have hS : S[i] = e := by
    rw [List.getElem?_eq_getElem hil] at hi
    exact Option.some.inj hi
  have hset : S.set i e' = S.take i ++ e' :: S.drop (i + 1) := List.set_eq_take_append_cons_drop.trans (by rw [if_pos hil])
  have hold : S = S.take i ++ e :: S.drop (i + 1) := by
    conv => lhs; rw [← List.take_append_drop i S, List.drop_eq_getElem_cons hil, hS]
  have hM' : M (S.set i e') = M (S.take i) ++ (M [e'] ++ M (S.drop (i + 1))) := by rw [hset, ← M_append, ← M_append]; rfl
  have hM : M S = M (S.take i) ++ (M [e] ++ M (S.drop (i + 1))) := by conv => lhs; rw [hold]
                                                                      rw [← M_append, ← M_append]; rfl
  have hfr : ∀ b ∈ M (S.set i e'), b ∈ M S ∨ w.heap.size ≤ b := fun b hb' => by
    rw [hM'] at hb'
    rw [hM]
    simp only [List.mem_append] at hb' ⊢
    rcases hb' with h | h | h
    · exact .inl (.inl h)
    · have h' : e'.blk = some b := by
        obtain ⟨f, hf, hfb⟩ := mem_M.1 h
        rw [List.mem_singleton] at hf
        subst hf
        exact hfb
      rcases hb b h' with h2 | h2
      · exact .inl (.inr (.inl (by simp [M, h2])))
      · exact .inr (Nat.le_of_eq h2.symm)
    · exact .inl (.inr (.inr h))
  have hkeep : Keeps (M S) w w' := ⟨hos, htp, hou, hsz, fun b hb' hm => hk b hb' (fun h => hm (mem_M.2 ⟨e, List.mem_of_getElem? hi, h⟩))⟩
  have hnd : (M (S.set i e')).Nodup := by
    have h0 := hs.nd
    have hlt : ∀ b ∈ M S, b < w.heap.size := fun b hb => hs.lt hb
    rw [hM] at h0 hlt
    rw [hM']
    cases hbe : e'.blk with
    | none =>
      have : M [e'] = [] := by simp [M, hbe]
      rw [this, List.nil_append]
      rw [List.nodup_append] at h0 ⊢
      refine ⟨h0.1, (List.nodup_append.1 h0.2.1).2.1, fun p hp q hq => h0.2.2 p hp q (List.mem_append.2 (.inr hq))⟩
    | some b =>
      have hone : M [e'] = [b] := M_one hbe
      rw [hone]
      rcases hb b hbe with h2 | h2
      · rw [M_one h2] at h0; exact h0
      · subst h2
        rw [List.nodup_append] at h0 ⊢
        have h3 := (List.nodup_append.1 h0.2.1).2.1
        refine ⟨h0.1, ?_, fun p hp q hq => ?_⟩
        · rw [List.singleton_append, List.nodup_cons]
          refine ⟨fun hm => ?_, h3⟩
          have := hlt _ (List.mem_append.2 (.inr (List.mem_append.2 (.inr hm))))
          omega
        · rcases List.mem_append.1 hq with hq | hq
          · rw [List.mem_singleton] at hq
            have := hlt p (List.mem_append.2 (.inl hp))
            omega
          · exact h0.2.2 p hp q (List.mem_append.2 (.inr hq))
  refine hs.step hkeep hnd hfr (fun f hf => ?_)
  obtain ⟨j, hj, hfj⟩ := List.getElem_of_mem hf
  rw [List.length_set] at hj
  rw [List.getElem_set] at hfj
  by_cases hij : i = j
  · rw [if_pos hij] at hfj
    subst hfj
    refine he _ (fun b hlt hb' => ?_)
    rcases List.mem_append.1 hb' with h | h
    · exact List.mem_append.2 (.inl h)
    · rcases hfr b h with h | h
      · exact List.mem_append.2 (.inr h)
      · omega
  · rw [if_neg hij] at hfj
    subst hfj
    refine hs.ent hkeep hfr (List.getElem_mem hj) (fun b hb' => hk b (hs.lt (mem_M.2 ⟨_, List.getElem_mem hj, hb'⟩)) (fun heb => ?_))
    have h2 : S[i].blk = some b := by rw [hS]; exact heb
    exact absurd hs.nd (nodup_absurd hij hil hj h2 hb')
end
end Go.Proofs.YtjndpakhmgapjaaDoor
