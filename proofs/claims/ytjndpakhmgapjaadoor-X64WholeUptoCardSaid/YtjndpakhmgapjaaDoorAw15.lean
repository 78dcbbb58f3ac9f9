/-
  SLICES WITH KNOWN CELLS BEHIND THEIR END; STORES INTO ROWS OF THE CALL'S OWN, copy, a row's bytes as a string. Generic: no program is named here.
-/
import Derived.Test.YtjndpakhmgapjaaDoorAw13
import Derived.Laws.IdiomCopy
namespace Go.Proofs.YtjndpakhmgapjaaDoor
open Go Go.RowKit
set_option linter.unusedVariables false

theorem sp_sl {k m : Nat} {l : List T} (hk : 0 < k) : ∀ w L u, VRep w L (.sp k m l) u → VRep w L (.sl k (l.take (m * k))) u := by
  intro w L u h
  cases h with
  | sp hm hk' hl hmc hc hb hL hcell hh h1 =>
    rename_i c us ad
    rcases Nat.eq_zero_or_pos m with rfl | hpos
    · rw [Nat.zero_mul, List.take_zero]
      exact .sl0 hc
    · have hV := (VReps.mk hl hh h1).take (m * k)
      refine .sl hpos (by rw [List.length_take]; exact Nat.min_eq_left hm) hV.len hmc hc hb hL (fun j u hj => ?_) hV.at_ hV.one
      rw [List.getElem?_take] at hj
      split at hj
      · exact hcell j u hj
      · cases hj

/-- One tree says less than another. -/
def Le (t t' : T) : Prop := ∀ w L u, VRep w L t u → VRep w L t' u
structure Les (l l' : List T) : Prop where
  len : l.length = l'.length
  at_ : ∀ (j : Nat) (t t' : T), l[j]? = some t → l'[j]? = some t' → Le t t'
theorem Le.refl {t : T} : Le t t := fun _ _ _ h => h
theorem Les.refl {l : List T} : Les l l := ⟨rfl, fun j t t' h h' => by rw [h] at h'; cases h'; exact .refl⟩
theorem Les.cons {t t' : T} {l l' : List T} (h : Le t t') (hr : Les l l') : Les (t :: l) (t' :: l') :=
  ⟨by simp [hr.len], fun j a b h1 h2 => by
    cases j with
    | zero =>
      simp only [List.getElem?_cons_zero, Option.some.injEq] at h1 h2
      subst h1; subst h2; exact h
    | succ j => exact hr.at_ j a b (by simpa using h1) (by simpa using h2)⟩
theorem Les.append {l l' r r' : List T} (h : Les l l') (h' : Les r r') : Les (l ++ r) (l' ++ r') := by
  induction l generalizing l' with
  | nil =>
    obtain rfl : l' = [] := List.eq_nil_of_length_eq_zero h.len.symm
    exact h'
  | cons x l ih =>
    cases l' with
    | nil => have := h.len; simp at this
    | cons y l' => exact .cons (h.at_ 0 x y rfl rfl) (ih ⟨by simpa using h.len, fun j a b h1 h2 => h.at_ (j + 1) a b (by simpa using h1) (by simpa using h2)⟩)
theorem Les.flatMap {α : Type} {f f' : α → List T} : ∀ {xs : List α}, (∀ a ∈ xs, Les (f a) (f' a)) → Les (xs.flatMap f) (xs.flatMap f')
  | [], _ => .refl
  | a :: r, h => by
    rw [List.flatMap_cons, List.flatMap_cons]
    exact (h a (List.mem_cons_self ..)).append (Les.flatMap fun b hb => h b (List.mem_cons_of_mem _ hb))
theorem Les.rep {w : World} {L : List Nat} {l l' : List T} {us : List Value} (h : Les l l') (hl : l.length = us.length) (hh : ∀ (j : Nat) (t : T) (u : Value), l[j]? = some t → us[j]? = some u → VRep w L t u) :
    ∀ (j : Nat) (t : T) (u : Value), l'[j]? = some t → us[j]? = some u → VRep w L t u := fun j t u h1 h2 => by
  have hj : j < l.length := by
    rw [hl]
    exact (List.getElem?_eq_some_iff.1 h2).1
  exact h.at_ j l[j] t (List.getElem?_eq_getElem hj) h1 w L u (hh j _ u (List.getElem?_eq_getElem hj) h2)
theorem Le.agg {l l' : List T} (h : Les l l') : Le (.agg l) (.agg l') := fun w L u hu => by
  cases hu with
  | agg hl hh h1 => exact .agg (h.len ▸ hl) (h.rep hl hh) h1
theorem Le.sl {k : Nat} {l l' : List T} (h : Les l l') : Le (.sl k l) (.sl k l') := fun w L u hu => by
  cases hu with
  | sl0 hc =>
    obtain rfl : l' = [] := List.eq_nil_of_length_eq_zero h.len.symm
    exact .sl0 hc
  | sl hn hk hl hnc hc hb hL hcell hh h1 => exact .sl hn (h.len ▸ hk) (h.len ▸ hl) hnc hc hb hL hcell (h.rep hl hh) h1

section
variable {cx : Cx} {env : Env} {S : St} {o : Oper} {g : Bool} {x y z : Operand} {ops : Array Oper} {l : List Oper} {K : Env → St → Prop} {Q : Exit → Env → St → Prop} {d : Nat}

theorem Yv.lenSp {ty e : TypeId} {k m : Nat} {l : List T} (ho : o.op = .call { callee := .builtin .len, args := #[x], argTypes := #[ty] }) (ht : sliceOf cx.P ty = some e) (hx : Ev env g x (.sp k m l)) : Yv cx o env S g (.v (.int .i64 (m : Int))) := by
  intro a w hs hg
  have hv := hx.rep hs hg
  generalize hu : a.eval x = u at hv
  cases hv with
  | sp => exact ⟨_, .v _, fun w' _ => run_len_slice' ho (sliceOf_spec ht) hu w'⟩

/-- A slice cut anew, up to beyond its end. -/
theorem Yv.sliceSp {t e : TypeId} {k m hi : Nat} {l : List T} {xh : Option Operand} (ho : o.op = .slice t x none xh none) (h : sliceSz cx.P t = some (e, k)) (hk : 0 < k) (hx : Ev env g x (.sp k m l))
    (hh : Bound env g xh m hi) (hb : g = true → hi * k ≤ l.length) : Yv cx o env S g (.sl k (l.take (hi * k))) := by
  intro a w hs hg
  have hv := hx.rep hs hg
  have hhi := hb hg
  generalize hu : a.eval x = u at hv
  obtain ⟨h1, i, h2, h3⟩ := sliceSz_spec h
  cases hv with
  | sp hm hk' hl hmc hc hbb hL hcell hV h1' =>
    rename_i c us ad
    have hic : hi ≤ c := Nat.le_of_mul_le_mul_right (Nat.le_trans hhi hk') hk
    have hbnd := fun w' => run_bounds (P := cx.P) hs hg (isS := true) (cap := c) (lo := 0) (xl := none) Bound.none_ hh (Nat.zero_le _) hic w'
    have hrun : ∀ w' : World, (execOp a.eval o).run cx.P w' = .ok (.value (.slice (if c = 0 then some ad else (some ad).map (·.add (0 * k))) (hi - 0) (c - 0))) w' := by
      intro w'
      have hb' := hbnd w'
      simp only [Option.map_none] at hb'
      simp only [execOp, ho, hu, Instr.sliceAt, Sem.run_bind, run_underlying h1, Result.andThen_ok, Instr.slice, Option.map_none, hb', sizeOf, typeInfo, run_program, h2, Sem.run_pure, h3]
    refine ⟨_, ?_, fun w' _ => hrun w'⟩
    have e0 : (if c = 0 then some ad else (some ad).map (·.add (0 * k))) = some ad := by
      have : ad.add 0 = ad := by unfold Addr.add; rfl
      simp [this]
    rw [e0, Nat.sub_zero, Nat.sub_zero]
    exact sp_sl hk w _ _ (.sp hhi hk' hl hic hc hbb hL hcell hV h1')

/-- A row of the call's own, cut at a place: the row itself stays. -/
theorem Yv.sliceRow0 {t e e' : TypeId} {k n c m i : Nat} {A : Option Addr} {cs : List T} {xh : Option Operand} (ho : o.op = .slice t x none xh none) (h : sliceSz cx.P t = some (e, k)) (hi : S[i]? = some (.row A n c e' k cs)) (hx : Ev env g x (.v (.slice A n c)))
    (hh : Bound env g xh n m) (hb : g = true → m ≤ c) : Yv cx o env S g (.v (.slice A m c)) := by
  intro a w hs hg
  have hv := hx.val hs hg
  have hmc := hb hg
  obtain ⟨h1, i', h2, h3⟩ := sliceSz_spec h
  obtain ⟨us, hr, _⟩ := hs.row hi
  have hbnd := fun w' => run_bounds (P := cx.P) hs hg (isS := true) (cap := c) (lo := 0) (xl := none) Bound.none_ hh (Nat.zero_le _) hmc w'
  have hrun : ∀ w' : World, (execOp a.eval o).run cx.P w' = .ok (.value (.slice (if c = 0 then A else A.map (·.add (0 * k))) (m - 0) (c - 0))) w' := by
    intro w'
    have hb' := hbnd w'
    simp only [Option.map_none] at hb'
    simp only [execOp, ho, hv, Instr.sliceAt, Sem.run_bind, run_underlying h1, Result.andThen_ok, Instr.slice, Option.map_none, hb', sizeOf, typeInfo, run_program, h2, Sem.run_pure, h3]
  have e0 : (if c = 0 then A else A.map (·.add (0 * k))) = A := by
    cases A with
    | none => simp
    | some ad =>
      have : ad.add 0 = ad := by unfold Addr.add; rfl
      simp [this]
  rw [e0, Nat.sub_zero, Nat.sub_zero] at hrun
  exact ⟨_, .v _, fun w' _ => hrun w'⟩

/-- The bytes of a row of the call's own, as a string. -/
theorem Yv.bytesStrRow {src dst e : TypeId} {i n c : Nat} {A : Option Addr} {l : List UInt8} (ho : o.op = .convert src dst x) (hs : isBytes cx.P src = true) (hd : isStr cx.P dst = true) (hi : S[i]? = some (.row A n c e 1 (l.map u8))) (hx : Ev env g x (.v (.slice A n c))) : Yv cx o env S g (.v (.string ⟨l.toArray⟩)) := by
  intro a w hsim hg
  refine ⟨_, .v _, fun w' hk => ?_⟩
  have hv := hx.val hsim hg
  obtain ⟨us, hr, hV⟩ := hsim.row hi
  have hus := vreps_u8s hV
  have hln : l.length = n := by
    have := hr.1
    rw [hus, List.length_map] at this
    omega
  refine run_bytes_string ho hs hd hv w' ?_
  cases A with
  | none =>
    rcases hr.2.2.2 with ⟨_, rfl, _⟩ | ⟨_, _, _, h, _⟩
    · exact .inl ⟨rfl, List.eq_nil_of_length_eq_zero hln⟩
    · cases h
  | some ad =>
    refine .inr ⟨ad, rfl, hln, fun j u hj => ?_⟩
    rcases hr.2.2.2 with ⟨h, _⟩ | ⟨gb, cur, fr, h, _⟩
    · cases h
    · simp only [Option.some.injEq] at h
      subst h
      rw [add_lit', Nat.zero_add]
      rw [← hus] at hj
      exact (World.cell?_of_block (w := w) (a := ⟨gb, j, none⟩) (hk.block _ (hr.lt rfl) (by simp))).trans (hr.cell hj)

/-! ### stores into rows -/
theorem RowIs.write {w : World} {e : TypeId} {size n c gb : Nat} {us vs : List Value} {P : Program} (h : RowIs w e size (some ⟨gb, 0, none⟩) n c us) (h1 : ∀ u ∈ vs, u.oneCell' = true) {p : Nat} (hp : p + vs.length ≤ us.length) :
    (storeCells ⟨gb, p, none⟩ vs 0).run P w = .ok () (w.setCells gb p vs) ∧ RowIs (w.setCells gb p vs) e size (some ⟨gb, 0, none⟩) n c (us.take p ++ vs ++ us.drop (p + vs.length)) := by
  obtain ⟨r1, r2, r3, r4⟩ := h
  rcases r4 with ⟨h0, _⟩ | ⟨g', cur, fr, hA, hh, hfr, hsz, htk⟩
  · cases h0
  · simp only [Option.some.injEq, Addr.mk.injEq, and_true] at hA
    subst hA
    have hle : us.length ≤ cur.size := by
      rw [r1, hsz]
      exact Nat.mul_le_mul_right _ r3
    have hcell : ∀ j, j < vs.length → (w.cell? ⟨gb, p + 0 + j, none⟩).isSome = true := fun j hj => by
      rw [cell_of_row w gb _ cur e fr hh, Array.getElem?_eq_getElem (by omega)]
      rfl
    have hfro : ∀ j, j < vs.length → w.frozen? ⟨gb, p + 0 + j, none⟩ = false := fun j hj => by
      obtain ⟨lo, hi'⟩ := fr
      simp only [World.frozen?, hh]
      simp only at hfr
      rcases hfr with h | h <;> (simp; intro h'; omega)
    have hst := run_storeCells_cells (P := P) gb p vs 0 w hcell hfro h1
    obtain ⟨cur', c1, c2⟩ := setCells_heap gb vs p w cur hh (by omega)
    have hsz' : cur'.size = cur.size := by
      have := congrArg List.length c2
      simp at this
      omega
    refine ⟨by simpa using hst, ?_, r2, r3, .inr ⟨gb, cur', fr, rfl, c1, by rw [hsz']; exact hfr, by rw [hsz', hsz], ?_⟩⟩
    · simp only [List.length_append, List.length_take, List.length_drop]; omega
    · rw [c2]
      have e1 : cur.toList.take p = us.take p := by rw [← htk, List.take_take, Nat.min_eq_left (by omega)]
      have e2 : (cur.toList.drop (p + vs.length)).take (n * size - (p + vs.length)) = us.drop (p + vs.length) := by rw [← htk, List.drop_take]
      rw [List.take_append, List.take_of_length_le (by simp only [List.length_append, List.length_take]; omega), e1]
      congr 1
      rw [← e2]
      congr 1
      simp only [List.length_append, List.length_take]
      omega
theorem RowIs.some {w : World} {e : TypeId} {size n c : Nat} {us : List Value} {A : Option Addr} (h : RowIs w e size A n c us) (hn : 0 < us.length) : ∃ gb, A = Option.some ⟨gb, 0, none⟩ := by
  rcases h.2.2.2 with ⟨_, rfl, _⟩ | ⟨gb, _, _, h, _⟩
  · have := h.1
    omega
  · exact ⟨gb, h⟩
/-- A world in which cells of an entry's block were written. -/
theorem Sim.wrote {a : Act} {w : World} (hs : Sim cx env S a w) {i n c size gb p : Nat} {e : TypeId} {cs ns : List T} {us vs : List Value} (hi : S[i]? = some (.row (some ⟨gb, 0, none⟩) n c e size cs)) (hV : VReps w (cx.X ++ M S) cs us) (hv : VReps w (cx.X ++ M S) ns vs)
    (hr : RowIs (w.setCells gb p vs) e size (some ⟨gb, 0, none⟩) n c (us.take p ++ vs ++ us.drop (p + vs.length))) : Sim cx env (S.set i (.row (some ⟨gb, 0, none⟩) n c e size (cs.take p ++ ns ++ cs.drop (p + ns.length)))) a (w.setCells gb p vs) := by
  obtain ⟨s1, s2, s3, s4, s5⟩ := setCells_rest gb vs p w
  have hk : ∀ b, b < w.heap.size → (Ent.row (some ⟨gb, 0, none⟩) n c e size cs).blk ≠ some b → (w.setCells gb p vs).heap[b]? = w.heap[b]? := fun b _ hne => s5 b (fun e => hne (by subst e; rfl))
  refine hs.swap hi (fun b hb => .inl hb) hk (Nat.le_of_eq s1.symm) s2 s3 s4 (fun L hL => ⟨_, hr, ?_⟩)
  have hb' : ∀ b, b < w.heap.size → b ∉ cx.X ++ M S → (w.setCells gb p vs).heap[b]? = w.heap[b]? := fun b hlt hm => s5 b (fun h => hm (List.mem_append.2 (.inr (mem_M.2 ⟨_, List.mem_of_getElem? hi, by subst h; rfl⟩))))
  have hV' := ((hV.take p).append hv).append (hV.drop (p + vs.length))
  rw [← hv.len] at hV' ⊢
  exact hV'.mono (Nat.le_of_eq s1.symm) hb' hL
theorem AWL.storeEp {t e : TypeId} {m p i n c size : Nat} {f : Bool} {A : Option Addr} {cs : List T} {r : T} (hg : o.guard = none) (hd : o.dst = none) (ho : o.op = .store t x y) (h : aggSize cx.P t = some (f, m)) (hi : S[i]? = some (.row A n c e size cs))
    (hx : Ev env true x (.ep (.slice A n c) p)) (hy : Ev env true y r) (hc : r.cellish = true) (hn : (cellsT r).length = m) (hm : 0 < m) (hp : p + m ≤ cs.length)
    (hr : AWL cx ops l K env (S.set i (.row A n c e size (cs.take p ++ cellsT r ++ cs.drop (p + m))))) : AWL cx ops (o :: l) K env S := by
  refine AWL.eff0 hg hd fun a w hs => ?_
  have hv := (hy.rep hs rfl).cells hc
  obtain ⟨us, hrow, hV⟩ := hs.row hi
  have hlen : (a.eval y).cells.toList.length = m := by rw [← hv.len, hn]
  have hus : us.length = cs.length := hV.len.symm
  obtain ⟨gb, rfl⟩ := hrow.some (by omega)
  have hxv := hx.rep hs rfl
  generalize hux : a.eval x = ux at hxv
  cases hxv with
  | ep =>
    obtain ⟨hst, hrow'⟩ := hrow.write (P := cx.P) hv.one (p := p) (by rw [hlen]; omega)
    have hsim := hs.wrote hi hV hv hrow'
    rw [hn] at hsim
    refine ⟨_, _, ?_, hsim, hr⟩
    have hsz : (a.eval y).cells.size = m := by simpa using hlen
    simp [execOp, ho, hux, Instr.storeAt, Instr.sureAddr, storeVar, (aggSize_spec h w).2, hsz, Sem.run_bind, Sem.run_pure, hst]
theorem AWL.storeEp1 {t e : TypeId} {p i n c size : Nat} {A : Option Addr} {cs : List T} {r : T} (hg : o.guard = none) (hd : o.dst = none) (ho : o.op = .store t x y) (h : aggSize cx.P t = some (false, 1)) (hi : S[i]? = some (.row A n c e size cs))
    (hx : Ev env true x (.ep (.slice A n c) p)) (hy : Ev env true y r) (hc : r.one = true) (hc' : cellsT r = [r]) (hp : p < cs.length)
    (hr : AWL cx ops l K env (S.set i (.row A n c e size (cs.set p r)))) : AWL cx ops (o :: l) K env S := by
  refine AWL.storeEp hg hd ho h hi hx hy ?_ (by rw [hc']; rfl) (by decide) hp ?_
  · cases r <;> first | exact hc | rfl
  · have e : cs.take p ++ cellsT r ++ cs.drop (p + 1) = cs.set p r := by
      rw [hc', List.set_eq_take_append_cons_drop, if_pos hp, List.append_assoc]
      rfl
    rw [e]
    exact hr
/-- copy into a row from its head. -/
theorem AWL.copyRow {t tx e : TypeId} {b n c m i : Nat} {zs : List Value} {A : Option Addr} {cs news : List T} (hg : o.guard = none) (hd : o.dst = some d) (hN : d < cx.N)
    (ho : o.op = .call { callee := .builtin .copy, args := #[x, y], argTypes := #[t, tx] }) (he : elemOf cx.P t = some (e, 1, b, zs)) (hi : S[i]? = some (.row A n c e 1 cs)) (hx : Ev env true x (.v (.slice A n c))) (hy : SrcT cx env S y tx 1 m news)
    (hmn : m ≤ n) (h0 : 0 < n)
    (hr : AWL cx ops l K ((d, true, .v (.int .i64 (m : Int))) :: env) (S.set i (.row A n c e 1 (news ++ cs.drop m)))) : AWL cx ops (o :: l) K env S := by
  refine AWL.eff hg hd hN fun a w hs => ?_
  obtain ⟨us, hrow, hV⟩ := hs.row hi
  obtain ⟨ns, hVn, hsrc⟩ := hy a w hs
  obtain ⟨h1, i', z', h2, _, h3, _⟩ := elemOf_spec he
  have hul : us.length = n := by rw [hrow.1, Nat.mul_one]
  have hnl : ns.length = m := by rw [hsrc.newsLen, Nat.mul_one]
  have hcl : news.length = m := by rw [hVn.len, hnl]
  obtain ⟨gb, rfl⟩ := hrow.some (by omega)
  obtain ⟨hst, hrow'⟩ := hrow.write (P := cx.P) hVn.one (p := 0) (by omega)
  have hsim := hs.wrote hi hV hVn hrow'
  refine ⟨.int .i64 (m : Int), w.setCells gb 0 ns, _, _, ?_, hsim, .v _, ?_⟩
  · have hcells := hsrc.cells
    have hlen := hsrc.len w
    have hmin : Nat.min m n = m := Nat.min_eq_left hmn
    have hsz : (sizeOf e).run cx.P w = .ok 1 w := by simp [sizeOf, typeInfo, h2, h3, Sem.run_bind, Sem.run_pure]
    have hmin' : m.min n = m := hmin
    simp [execOp, ho, resolve, invoke, builtin, Sem.run_bind, Sem.run_pure, hx.val hs rfl, Builtin.copy_, run_underlying h1, hlen, hsz, hmin', hcells, hst, goInt]
  · rw [hcl, List.take_zero, List.nil_append, Nat.zero_add]
    exact hr

/-! ### a row that is no more written to, as a slice of a part of it -/
theorem Sim.freezeSp {a : Act} {w : World} (hs : Sim cx env S a w) {i n c k m : Nat} {A : Option Addr} {e : TypeId} {cs : List T} (hi : S[i]? = some (.row A n c e k cs)) (hk : 0 < k) (h0 : 0 < n) (hm : m ≤ n) : Sim cx env (S.eraseIdx i) a w ∧ VRep w (cx.X ++ M (S.eraseIdx i)) (.sp k m cs) (.slice A m c) := by
  obtain ⟨h1, h2⟩ := hs.freeze hi hk
  obtain ⟨us, hr, hV⟩ := hs.row hi
  refine ⟨h1, ?_⟩
  cases h2 with
  | sl0 hc => omega
  | sl hn hkl hl hnc hc hb hL hcell hh h1' =>
    exact .sp (by rw [hkl]; exact Nat.mul_le_mul_right _ hm) (by rw [hkl]; exact Nat.mul_le_mul_right _ hnc) hl (Nat.le_trans hm hnc) hc hb hL hcell hh h1'
theorem Sim.freezeSpSlot {a : Act} {w : World} (hs : Sim cx env S a w) {i n c k m s : Nat} {A : Option Addr} {e : TypeId} {cs : List T} (hi : S[i]? = some (.row A n c e k cs)) (hk : 0 < k) (h0 : 0 < n) (hm : m ≤ n) (hsl : get s env = some (true, .v (.slice A m c))) : Sim cx ((s, true, .sp k m cs) :: env) (S.eraseIdx i) a w := by
  obtain ⟨h1, h2⟩ := hs.freezeSp hi hk h0 hm
  refine ⟨h1.keeps, h1.nd, h1.fresh, h1.far, h1.ents, h1.size, h1.defers, fun j c' t' hj => ?_⟩
  rw [get_cons] at hj
  split at hj
  · rename_i e
    subst e
    simp only [Option.some.injEq, Prod.mk.injEq] at hj
    obtain ⟨rfl, rfl⟩ := hj
    refine ⟨fun _ => ?_, fun h => by cases h⟩
    have := ((hs.slots j true _ hsl).1 rfl).v_inv
    rw [this]
    exact h2
  · exact h1.slots j c' t' hj
theorem AWL.freezeSp {n c k m : Nat} {A : Option Addr} {e : TypeId} {cs : List T} (i s : Nat) (hi : S[i]? = some (.row A n c e k cs)) (hk : 0 < k) (h0 : 0 < n) (hm : m ≤ n) (hsl : get s env = some (true, .v (.slice A m c))) (h : AWL cx ops l K ((s, true, .sp k m cs) :: env) (S.eraseIdx i)) : AWL cx ops l K env S :=
  fun a w hs => h a w (hs.freezeSpSlot hi hk h0 hm hsl)
theorem AW.freezeSp {code : Code} {n c k m : Nat} {A : Option Addr} {e : TypeId} {cs : List T} (i s : Nat) (hi : S[i]? = some (.row A n c e k cs)) (hk : 0 < k) (h0 : 0 < n) (hm : m ≤ n) (hsl : get s env = some (true, .v (.slice A m c))) (h : AW cx code Q ((s, true, .sp k m cs) :: env) (S.eraseIdx i)) : AW cx code Q env S :=
  fun a w hs => h a w (hs.freezeSpSlot hi hk h0 hm hsl)
end
end Go.Proofs.YtjndpakhmgapjaaDoor
