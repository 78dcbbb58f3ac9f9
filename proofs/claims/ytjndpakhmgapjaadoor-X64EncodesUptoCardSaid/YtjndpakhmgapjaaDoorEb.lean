/-
  TEXTS JOINED: Aw17, Aw18, Aw19, Aw20, Aw21, Facts, Bytes, Ins, Wk1, Aw22, Aw23, Aw24, Aw25, Enc, Wk2.
-/
import Derived.Lib.UnsafeStr
import Derived.Lib.Bytealg
import Derived.Laws.Pointers
import Derived.Defers
import Derived.Laws.StructEq
import Derived.OrdersHeld
import Derived.Scope
import Derived.Test.YtjndpakhmgapjaaDoorRows
import Derived.Test.YtjndpakhmgapjaaDoorEa
set_option linter.unusedSimpArgs false
set_option linter.unusedVariables false
set_option linter.unusedSectionVars false
set_option linter.unnecessarySimpa false
namespace Go.Proofs.YtjndpakhmgapjaaDoor
open Go Go.RowKit
set_option linter.unusedVariables false

/-- A string, by its bytes. -/
def sv (l : List UInt8) : T := .v (.string ⟨l.toArray⟩)
theorem extract_list (l : List UInt8) (lo hi : Nat) : (⟨l.toArray⟩ : ByteArray).extract lo hi = ⟨((l.drop lo).take (hi - lo)).toArray⟩ := by
  apply Go.WideShapes.bytes_inj
  simp
theorem append_list (l r : List UInt8) : (⟨l.toArray⟩ : ByteArray) ++ ⟨r.toArray⟩ = ⟨(l ++ r).toArray⟩ := by
  apply Go.WideShapes.bytes_inj
  simp

section
variable {cx : Cx} {env : Env} {S : St} {o : Oper} {g : Bool} {x y z : Operand} {ops : Array Oper} {l : List Oper} {K : Env → St → Prop} {Q : Exit → Env → St → Prop} {d : Nat}

theorem Yv.lenL {ty : TypeId} {s : List UInt8} (ho : o.op = .call { callee := .builtin .len, args := #[x], argTypes := #[ty] }) (ht : isStr cx.P ty = true) (hx : Ev env g x (sv s)) : Yv cx o env S g (.v (.int .i64 (s.length : Int))) := Yv.lenS ho ht hx
theorem Yv.eqlL {ty yt : TypeId} {p q : List UInt8} (ho : o.op = .binOp .eql ty x y yt) (hx : Ev env g x (sv p)) (hy : Ev env g y (sv q)) : Yv cx o env S g (.v (.bool (decide (p = q)))) := Yv.eqlS ho hx hy
theorem Yv.neqL {ty yt : TypeId} {p q : List UInt8} (ho : o.op = .binOp .neq ty x y yt) (hx : Ev env g x (sv p)) (hy : Ev env g y (sv q)) : Yv cx o env S g (.v (.bool (!decide (p = q)))) := Yv.neqS ho hx hy
theorem Yv.addL {ty yt : TypeId} {p q : List UInt8} (ho : o.op = .binOp .add ty x y yt) (hx : Ev env g x (sv p)) (hy : Ev env g y (sv q)) (hb : g = true → p.length + q.length ≤ 9223372036854775807) : Yv cx o env S g (sv (p ++ q)) := by
  have := Yv.addS (cx := cx) (S := S) ho hx hy hb
  rwa [append_list] at this
theorem Yv.sliceL {t : TypeId} {lo hi : Nat} {s : List UInt8} {xl xh : Option Operand} (ho : o.op = .slice t x xl xh none) (h : isStr cx.P t = true) (hx : Ev env g x (sv s)) (hl : Bound env g xl 0 lo) (hh : Bound env g xh s.length hi) (hb : g = true → lo ≤ hi ∧ hi ≤ s.length) :
    Yv cx o env S g (sv ((s.drop lo).take (hi - lo))) := by
  have := Yv.sliceS (cx := cx) (S := S) ho h hx hl hh hb
  rwa [extract_list] at this
theorem Yv.indexL {t : TypeId} {j : Nat} {kd : IntKind} {p : Int} {s : List UInt8} (ho : o.op = .index t x y) (h : isStr cx.P t = true) (hx : Ev env g x (sv s)) (hy : Ev env g y (.v (.int kd p))) (hj : g = true → p = (j : Int) ∧ j < s.length) : Yv cx o env S g (u8 (s.getD j 0)) := by
  refine Yv.indexS (b := s.getD j 0) (j := j) ho h hx hy (fun hg => ?_)
  obtain ⟨h1, h2⟩ := hj hg
  exact ⟨h1, by
    have : s.getD j 0 = s[j] := by simp [List.getD, List.getElem?_eq_getElem h2]
    rw [this]
    first
      | (simp [h2]; done)
      | exact (getElem?_pos (⟨s.toArray⟩ : ByteArray) j h2)⟩
theorem SrcT.strL {tx : TypeId} {s : List UInt8} (ht : isStr cx.P tx = true) (hx : Ev env true x (sv s)) : SrcT cx env S x tx 1 s.length (s.map u8) := SrcT.str ht hx
theorem Yv.nilChk {a : Addr} (ho : o.op = .nilCheck x) (hx : Ev env g x (.v (.pointer (some a)))) : Yv cx o env S g (.v (.pointer (some a))) :=
  Yv.plain fun ac w hs hg w' => by simp [execOp, ho, hx.val hs hg, Sem.run_pure]
theorem freeNil {a : Addr} (ho : o.op = .nilCheck x) (hx : Ev env true x (.v (.pointer (some a)))) : ∀ ac w, Sim cx env S ac w → ∃ u, VRep w (cx.X ++ M S) (.v (.pointer (some a))) u ∧ ∀ w', (execOp ac.eval o).run cx.P w' = .ok (.value u) w' :=
  fun ac w hs => ⟨_, .v _, fun w' => by simp [execOp, ho, hx.val hs rfl, Sem.run_pure]⟩
def ptrOf (P : Program) (t : TypeId) : Bool := match P.underlying t with | some (.pointer _) => true | _ => false
theorem ptrOf_spec {P : Program} {t : TypeId} (h : ptrOf P t = true) : P.underlying t = some (.pointer (P.pointee t)) := by
  unfold ptrOf at h
  unfold Program.pointee
  split at h
  · rename_i e; rw [e]
  · cases h
theorem Yv.eqlNilP {ty yt : TypeId} {a : Option Addr} (ho : o.op = .binOp .eql ty x (.const (.pointer none)) yt) (ht : ptrOf cx.P ty = true) (hx : Ev env g x (.v (.pointer a))) : Yv cx o env S g (.v (.bool a.isNone)) :=
  Yv.plain fun ac w hs hg w' => by
    have h := run_eql_pointer_nil (P := cx.P) w' ty a (ptrOf_spec ht)
    simp only [execOp, ho, hx.val hs hg, Sem.run_bind]
    simp [eqGuard, Act.eval, h, Sem.run_pure, Sem.run_bind]
theorem Yv.neqNilP {ty yt : TypeId} {a : Option Addr} (ho : o.op = .binOp .neq ty x (.const (.pointer none)) yt) (ht : ptrOf cx.P ty = true) (hx : Ev env g x (.v (.pointer a))) : Yv cx o env S g (.v (.bool (!a.isNone))) :=
  Yv.plain fun ac w hs hg w' => by
    have h := run_neq_pointer_nil (P := cx.P) w' ty a (ptrOf_spec ht)
    simp only [execOp, ho, hx.val hs hg, Sem.run_bind]
    simp [eqGuard, Act.eval, h, Sem.run_pure, Sem.run_bind]
def arrOf (P : Program) (t : TypeId) : Option (Nat × Nat) :=
  match P.underlying t with
  | some (.array n e) => (P.info? e).map fun i => (n, i.size)
  | _ => none
theorem arrOf_spec {P : Program} {t : TypeId} {n k : Nat} (h : arrOf P t = some (n, k)) : ∃ e i, P.underlying t = some (.array n e) ∧ P.info? e = some i ∧ i.size = k := by
  unfold arrOf at h
  split at h
  · rename_i n' e he
    cases hi : P.info? e with
    | none => rw [hi] at h; cases h
    | some i =>
      rw [hi] at h
      simp only [Option.map_some, Option.some.injEq, Prod.mk.injEq] at h
      obtain ⟨rfl, rfl⟩ := h
      exact ⟨e, i, he, hi, rfl⟩
  · cases h
theorem Yv.indexArr {t : TypeId} {n k j b p : Nat} {kd : IntKind} {q : Int} (ho : o.op = .indexAddr t x y) (h : arrOf cx.P t = some (n, k)) (hx : Ev env g x (.v (.pointer (some ⟨b, p, none⟩)))) (hy : Ev env g y (.v (.int kd q))) (hj : g = true → q = (j : Int) ∧ j < n) : Yv cx o env S g (.v (.pointer (some ⟨b, p + j * k, none⟩))) :=
  Yv.plain fun ac w hs hg w' => by
    obtain ⟨rfl, hjl⟩ := hj hg
    obtain ⟨e, i, h1, h2, h3⟩ := arrOf_spec h
    have e1 : ((j : Int) < (n : Int)) := by omega
    simp [execOp, ho, hx.val hs hg, hy.val hs hg, Instr.indexAt, asIntOf, Sem.run_bind, Sem.run_pure, run_underlying h1, sizeOf, typeInfo, h2, h3, Instr.sureAddr, add_lit']
    intro h'
    omega
theorem freeArr {t : TypeId} {n k j b p : Nat} {kd : IntKind} {q : Int} (ho : o.op = .indexAddr t x y) (h : arrOf cx.P t = some (n, k)) (hx : Ev env true x (.v (.pointer (some ⟨b, p, none⟩)))) (hy : Ev env true y (.v (.int kd q))) (hj : q = (j : Int) ∧ j < n) :
    ∀ ac w, Sim cx env S ac w → ∃ u, VRep w (cx.X ++ M S) (.v (.pointer (some ⟨b, p + j * k, none⟩))) u ∧ ∀ w', (execOp ac.eval o).run cx.P w' = .ok (.value u) w' :=
  fun ac w hs => by
    obtain ⟨rfl, hjl⟩ := hj
    obtain ⟨e, i, h1, h2, h3⟩ := arrOf_spec h
    refine ⟨_, .v _, fun w' => ?_⟩
    simp [execOp, ho, hx.val hs rfl, hy.val hs rfl, Instr.indexAt, asIntOf, Sem.run_bind, Sem.run_pure, run_underlying h1, sizeOf, typeInfo, h2, h3, Instr.sureAddr, add_lit']
    intro h'
    omega
theorem Yv.min2 {t1 t2 : TypeId} {k : IntKind} {p q : Int} (ho : o.op = .call { callee := .builtin .min, args := #[x, y], argTypes := #[t1, t2] }) (hx : Ev env g x (.v (.int k p))) (hy : Ev env g y (.v (.int k q))) : Yv cx o env S g (.v (.int k (if q < p then q else p))) :=
  Yv.plain fun ac w hs hg w' => by
    simp [execOp, ho, resolve, invoke, builtin, Sem.run_bind, Sem.run_pure, Builtin.min_, Builtin.min2, hx.val hs hg, hy.val hs hg]
/-- A function without a body that only reads its arguments. -/
theorem Yv.extern {f : FuncId} {xf : Operand} {xs : Array Operand} {ats : Array TypeId} {fst cap : Array Value} {r : Value} (ho : o.op = .call { callee := .value xf, args := xs, argTypes := ats }) (hx : Ev env g xf (.v (.func (.func f) fst cap)))
    (hr : ∀ (a : Act) (w : World), Sim cx env S a w → g = true → ∀ w', (callFunc f (fst ++ xs.map a.eval ++ cap)).run cx.P w' = .ok (.value r) w') : Yv cx o env S g (.v r) :=
  Yv.plain fun ac w hs hg w' => by
    have h := hr ac w hs hg w'
    simp only [execOp, ho, resolve, Deferred.ofValue, hx.val hs hg, Sem.run_bind, Sem.run_pure, Result.andThen_ok, invoke, h]
theorem Yv.indexByte {f : FuncId} {fn : Func} {xf : Operand} {ats : Array TypeId} {s : List UInt8} {c : UInt8} (hf : cx.P.funcs[f]? = some fn) (hn : (fn.name == "runtime.NumGoroutine") = false) (hb : fn.body.isNone = true) (h1 : Extern.findNext fn = none) (h2 : Extern.find fn = some Extern.BytealgIndexByte.indexByte)
    (ho : o.op = .call { callee := .value xf, args := #[x, y], argTypes := ats }) (hxf : Ev env g xf (.v (.func (.func f) #[] #[]))) (hx : Ev env g x (sv s)) (hy : Ev env g y (.v (.int .u8 c.toNat))) : Yv cx o env S g (.v (.int .i64 (Lib.indexByte s c))) := by
  refine Yv.extern ho hxf fun a w hs hg w' => ?_
  have e := hx.val hs hg
  have e' := hy.val hs hg
  rw [run_callFunc_extern hf hn hb h1 h2]
  have : (#[] ++ #[x, y].map a.eval ++ #[] : Array Value) = #[.string ⟨s.toArray⟩, .int .u8 c.toNat] := by simp [e, e']
  rw [this, Lib.run_indexByteString]
  simp

/-! ### unsafe.String -/
theorem Sim.unEnt {a : Act} {w w' : World} (hs : Sim cx env S a w) {i gb : Nat} {e : Ent} (hi : S[i]? = some e) (hb : e.blk = some gb) (hk : ∀ b, b < w.heap.size → b ≠ gb → w'.heap[b]? = w.heap[b]?) (hsz : w.heap.size ≤ w'.heap.size) (hos : w'.os = w.os) (htp : w'.tape = w.tape) (hou : w'.output = w.output) : Sim cx env (S.eraseIdx i) a w' := by
  have hsub : (S.eraseIdx i).Sublist S := List.eraseIdx_sublist S i
  have hM : (M (S.eraseIdx i)).Sublist (M S) := hsub.filterMap _
  have hil : i < S.length := (List.getElem?_eq_some_iff.1 hi).1
  have hSi : S[i] = e := by
    rw [List.getElem?_eq_getElem hil] at hi
    exact Option.some.inj hi
  have hgM : gb ∈ M S := mem_M.2 ⟨_, List.mem_of_getElem? hi, hb⟩
  have hkp : Keeps (M S) w w' := ⟨hos, htp, hou, hsz, fun b hb hm => hk b hb (fun h => hm (h ▸ hgM))⟩
  refine hs.step hkp (hM.nodup hs.nd) (fun b hb => .inl (hM.subset hb)) (fun f hf => ?_)
  refine hs.ent hkp (fun b hb => .inl (hM.subset hb)) (hsub.subset hf) (fun b hfb => hk b (Ent.lt (hs.ents f (hsub.subset hf)) hfb) (fun h => ?_))
  subst h
  rw [List.mem_eraseIdx_iff_getElem] at hf
  obtain ⟨j, hj, hne, rfl⟩ := hf
  exact absurd hs.nd (nodup_absurd (fun e => hne e.symm) hil hj (by rw [hSi]; exact hb) hfb)
def ptrTo (P : Program) (t : TypeId) : Option TypeId := match P.underlying t with | some (.pointer e) => if P.cellsOf e = 1 then some e else none | _ => none
theorem ptrTo_spec {P : Program} {t e : TypeId} (h : ptrTo P t = some e) : P.underlying t = some (.pointer e) ∧ P.cellsOf e = 1 := by
  unfold ptrTo at h
  split at h
  · split at h
    · simp only [Option.some.injEq] at h
      subst h
      exact ⟨by assumption, by assumption⟩
    · cases h
  · cases h
theorem AWL.unsafeStr {t1 t2 e : TypeId} {n c i : Nat} {A : Option Addr} {l' : List UInt8} (hg : o.guard = none) (hd : o.dst = some d) (hN : d < cx.N) (ho : o.op = .call { callee := .builtin .unsafeString, args := #[x, y], argTypes := #[t1, t2] }) (hp : ptrTo cx.P t1 = some e)
    (hi : S[i]? = some (.row A n c e 1 (l'.map u8))) (hx : Ev env true x (.ep (.slice A n c) 0)) (hy : Ev env true y (.v (.int .i64 (n : Int)))) (h0 : l' ≠ []) (h63 : n ≤ 9223372036854775807)
    (hr : AWL cx ops l K ((d, true, sv l') :: env) (S.eraseIdx i)) : AWL cx ops (o :: l) K env S := by
  refine AWL.eff hg hd hN fun a w hs => ?_
  obtain ⟨us, hrow, hV⟩ := hs.row hi
  have hus := vreps_u8s hV
  have hln : l'.length = n := by
    have := hrow.1
    rw [hus, List.length_map] at this
    omega
  obtain ⟨gb, rfl⟩ := hrow.some (by rw [hus, List.length_map]; exact List.length_pos_iff.2 h0)
  have hxv := hx.rep hs rfl
  generalize hux : a.eval x = ux at hxv
  cases hxv with
  | ep =>
    obtain ⟨e1, e2⟩ := ptrTo_spec hp
    have hrow2 := hrow
    obtain ⟨r1, r2, r3, r4⟩ := hrow2
    rcases r4 with ⟨h, _⟩ | ⟨g', cur, fr, hA, hh, hfr, hsz, htk⟩
    · cases h
    · simp only [Option.some.injEq, Addr.mk.injEq, and_true] at hA
      subst hA
      have hsh : w.shape? gb = some (e, cur.size) := by simp [World.shape?, hh]
      have hrun := Lib.run_unsafeString_row (P := cx.P) (w := w) t1 t2 o.type e e1 e2 gb cur.size hsh l' h0 (by omega) (by omega) (fun j u hj => by
        rw [add_lit', Nat.zero_add]
        exact hrow.cell (by rw [hus, List.getElem?_map, hj]; rfl))
      rw [hln] at hrun
      refine ⟨_, _, _, _, ?_, hs.unEnt hi rfl (w' := w.freeze ⟨gb, 0, none⟩ n) (fun b hb hne => ?_) ?_ ?_ ?_ ?_, .v _, hr⟩
      · simp only [execOp, ho, resolve, invoke, builtin, Sem.run_bind, Sem.run_pure, Result.andThen_ok, List.map_toArray, List.map_cons, List.map_nil, hux, hy.val hs rfl, hrun]
      · unfold World.freeze
        split
        · rfl
        · simp [Array.getElem?_modify, Ne.symm hne]
      all_goals (unfold World.freeze; split <;> simp)

/-! ### zeros appended, wherever they find room -/
theorem run_append_zeros_room {P : Program} {w : World} {t tx ty e : TypeId} {b n c m : Nat} {kn kq : IntKind} {zv : Value} {us : List Value} {A : Option Addr} (he : elemOf P t = some (e, 1, b, [zv])) (hx : kindOf P tx = some kn) (hm : 0 < m) (hrow : RowIs w e 1 A n c us) (hn' : n + m ≤ c) (hb : (n + m) * b ≤ 140737488355328) :
    ∃ A' c' w', (Builtin.append_ #[t, tx] ty #[.slice A n c, .int kq m]).run P w = .ok (.slice A' (n + m) c') w' ∧ RowIs w' e 1 A' (n + m) c' (us ++ List.replicate m zv) ∧ (∀ g, A'.map (·.block) = some g → A.map (·.block) = some g ∨ g = w.heap.size) ∧
      (∀ g, g < w.heap.size → A.map (·.block) ≠ some g → w'.heap[g]? = w.heap[g]?) ∧ w.heap.size ≤ w'.heap.size ∧ w'.os = w.os ∧ w'.tape = w.tape ∧ w'.output = w.output := by
  obtain ⟨h1, i, z, h2, h3, hk, rfl, h6, h7, h8⟩ := elemOf_spec he
  obtain ⟨r1, r2, r3, r4⟩ := hrow
  rcases r4 with ⟨rfl, rfl, rfl⟩ | ⟨gb, cur, fr, rfl, hh, hfr, hsz, htk⟩
  · omega
  · have hone : ∀ u ∈ List.replicate m zv, u.oneCell' = true := fun u hu => h8 u (by rw [(List.mem_replicate.1 hu).2]; simp)
    have hfit : n + (List.replicate m zv).length ≤ cur.size := by rw [List.length_replicate]; omega
    have hcell : ∀ j, j < (List.replicate m zv).length → (w.cell? ⟨gb, n + 0 + j, none⟩).isSome = true := fun j hj => by
      rw [cell_of_row w gb _ cur e fr hh, Array.getElem?_eq_getElem (by omega)]
      rfl
    have hfro : ∀ j, j < (List.replicate m zv).length → w.frozen? ⟨gb, n + 0 + j, none⟩ = false := fun j hj => by
      obtain ⟨lo, hi'⟩ := fr
      simp only [World.frozen?, hh]
      simp only at hfr
      rcases hfr with h | h <;> (simp; intro h'; omega)
    have hst := run_storeCells_cells (P := P) gb n (List.replicate m zv) 0 w hcell hfro hone
    obtain ⟨cur', c1, c2⟩ := setCells_heap gb (List.replicate m zv) n w cur hh hfit
    obtain ⟨s1, s2, s3, s4, s5⟩ := setCells_rest gb (List.replicate m zv) n w
    have hz : z.cells = #[zv] := h6
    have hbm : (m : Int) * i.bytes ≤ 281474976710656 := by
      have h9 : m * i.bytes ≤ (n + m) * i.bytes := Nat.mul_le_mul_right _ (by omega)
      have h10 : ((m * i.bytes : Nat) : Int) ≤ 281474976710656 := by omega
      rwa [Int.natCast_mul] at h10
    have hm63 : (m : Int) ≤ 9223372036854775807 := by unfold maxLen at r2; omega
    have hw : IntKind.i64.wrap (m : Int) = m := by rw [IntKind.wrap_i64]; omega
    have hcur : cur'.size = cur.size := by
      have := congrArg List.length c2
      simp at this
      omega
    refine ⟨some ⟨gb, 0, none⟩, c, w.setCells gb n (List.replicate m zv), ?_, ⟨by simp [r1], r2, hn', .inr ⟨gb, cur', fr, rfl, c1, by rw [hcur]; exact hfr, by rw [hcur, hsz], ?_⟩⟩, fun g hg => .inl hg, fun g _ hne => s5 g (fun e => hne (by subst e; rfl)), Nat.le_of_eq s1.symm, s2, s3, s4⟩
    · have e0 : ¬ ((m : Int) < 0) := by omega
      have e1 : ¬ (281474976710656 < (m : Int) * (i.bytes : Int)) := by omega
      have e2 : ¬ m = 0 := by omega
      have hz2 : (zeroValue e).run P w = .ok z w := by simp [zeroValue, typeInfo, h2, h3, Sem.run_bind, Sem.run_pure]
      have hadd : (⟨gb, 0, none⟩ : Addr).add n = ⟨gb, n, none⟩ := by rw [add_lit', Nat.zero_add]
      simp only [Nat.add_zero] at hst
      simp [Builtin.append_, run_underlying h1, run_underlying (kindOf_spec hx), sizeOf, typeInfo, h2, hk, asInt, asIntOf, hw, e0, e1, e2, hn', hz2, hz, zeroCells_one, hadd, hst, Sem.run_bind, Sem.run_pure, Result.andThen_ok]
    · rw [c2, Nat.mul_one]
      have e1 : cur.toList.take n = us := by rw [← htk, Nat.mul_one]
      rw [e1]
      have e3 : (us ++ List.replicate m zv).length = n + m := by simp [r1]
      rw [← e3, List.take_left]
theorem AWL.appendZerosAny {t tx e : TypeId} {b n c m i : Nat} {kn kq : IntKind} {zv : Value} {A : Option Addr} {cs : List T} (hg : o.guard = none) (hd : o.dst = some d) (hN : d < cx.N)
    (ho : o.op = .call { callee := .builtin .append, args := #[x, y], argTypes := #[t, tx] }) (he : elemOf cx.P t = some (e, 1, b, [zv])) (htx : kindOf cx.P tx = some kn) (hm : 0 < m) (hi : S[i]? = some (.row A n c e 1 cs)) (hx : Ev env true x (.v (.slice A n c))) (hy : Ev env true y (.v (.int kq m)))
    (h63 : n + m ≤ maxLen) (hb : (n + m) * b ≤ 140737488355328)
    (hr : ∀ A' c', AWL cx ops l K ((d, true, .v (.slice A' (n + m) c')) :: env) (S.set i (.row A' (n + m) c' e 1 (cs ++ List.replicate m (T.v zv))))) : AWL cx ops (o :: l) K env S := by
  by_cases hc : c < n + m
  · exact AWL.appendZeros hg hd hN ho he htx hm hi hx hy hc h63 hb hr
  refine AWL.eff hg hd hN fun a w hs => ?_
  obtain ⟨us, hrow, hV⟩ := hs.row hi
  obtain ⟨A', c', w', hrun, hrow', hblk, hkeep, hsz, hos, htp, hou⟩ := run_append_zeros_room (ty := o.type) (kq := kq) he htx hm hrow (by omega) hb
  obtain ⟨_, _, _, _, _, _, _, _, _, h8⟩ := elemOf_spec he
  refine ⟨_, w', _, _, ?_, ?_, .v _, hr A' c'⟩
  · simp only [execOp, ho, resolve, invoke, builtin, Sem.run_bind, Sem.run_pure, Result.andThen_ok, List.map_toArray, List.map_cons, List.map_nil, hx.val hs rfl, hy.val hs rfl, hrun]
  · refine hs.swap hi hblk hkeep hsz hos htp hou (fun L hL => ⟨us ++ _, hrow', ?_⟩)
    have hb' : ∀ b, b < w.heap.size → b ∉ cx.X ++ M S → w'.heap[b]? = w.heap[b]? := fun b hlt hm => hkeep b hlt (fun h => hm (List.mem_append.2 (.inr (mem_M.2 ⟨_, List.mem_of_getElem? hi, h⟩))))
    have hz := vreps_vals (w := w) (L := cx.X ++ M S) (List.replicate m zv) (fun u hu => h8 u (by rw [(List.mem_replicate.1 hu).2]; simp))
    rw [List.map_replicate] at hz
    exact (hV.append hz).mono hsz hb' hL
end
end Go.Proofs.YtjndpakhmgapjaaDoor

namespace Go.Proofs.YtjndpakhmgapjaaDoor
open Go Go.RowKit
set_option linter.unusedVariables false
section
variable {cx : Cx} {env : Env} {S : St} {o : Oper} {g : Bool} {x y z : Operand} {ops : Array Oper} {l : List Oper} {K : Env → St → Prop} {Q : Exit → Env → St → Prop} {d : Nat}
/-- Where a row's part begins. -/
def fromAt (A : Option Addr) (c lo : Nat) : Option Addr := if c = lo then A else A.map (·.add lo)
theorem Yv.sliceRowFrom {t e e' : TypeId} {n c lo i : Nat} {A : Option Addr} {cs : List T} {xl : Operand} (ho : o.op = .slice t x (some xl) none none) (h : sliceSz cx.P t = some (e, 1)) (hi : S[i]? = some (.row A n c e' 1 cs)) (hx : Ev env g x (.v (.slice A n c)))
    (hl : Bound env g (some xl) 0 lo) (hb : g = true → lo ≤ n) : Yv cx o env S g (.v (.slice (fromAt A c lo) (n - lo) (c - lo))) := by
  intro a w hs hg
  have hv := hx.val hs hg
  have hln := hb hg
  obtain ⟨h1, i', h2, h3⟩ := sliceSz_spec h
  obtain ⟨us, hr, _⟩ := hs.row hi
  have hbnd := fun w' => run_bounds (P := cx.P) hs hg (isS := true) (cap := c) (len := n) (hi := n) (xh := none) hl Bound.none_ hln hr.2.2.1 w'
  have hrun : ∀ w' : World, (execOp a.eval o).run cx.P w' = .ok (.value (.slice (if c = lo then A else A.map (·.add (lo * 1))) (n - lo) (c - lo))) w' := by
    intro w'
    have hb' := hbnd w'
    simp only [Option.map_none, Option.map_some] at hb'
    simp only [execOp, ho, hv, Instr.sliceAt, Sem.run_bind, run_underlying h1, Result.andThen_ok, Instr.slice, Option.map_none, Option.map_some, hb', sizeOf, typeInfo, run_program, h2, Sem.run_pure, h3]
  rw [Nat.mul_one] at hrun
  exact ⟨_, .v _, fun w' _ => hrun w'⟩
theorem AWL.copyRowAt {t tx e : TypeId} {b n c m lo i : Nat} {zs : List Value} {A : Option Addr} {cs news : List T} (hg : o.guard = none) (hd : o.dst = some d) (hN : d < cx.N)
    (ho : o.op = .call { callee := .builtin .copy, args := #[x, y], argTypes := #[t, tx] }) (he : elemOf cx.P t = some (e, 1, b, zs)) (hi : S[i]? = some (.row A n c e 1 cs)) (hx : Ev env true x (.v (.slice (fromAt A c lo) (n - lo) (c - lo)))) (hy : SrcT cx env S y tx 1 m news)
    (hmn : lo + m ≤ n) (h0 : 0 < m)
    (hr : AWL cx ops l K ((d, true, .v (.int .i64 (m : Int))) :: env) (S.set i (.row A n c e 1 (cs.take lo ++ news ++ cs.drop (lo + m))))) : AWL cx ops (o :: l) K env S := by
  refine AWL.eff hg hd hN fun a w hs => ?_
  obtain ⟨us, hrow, hV⟩ := hs.row hi
  obtain ⟨ns, hVn, hsrc⟩ := hy a w hs
  obtain ⟨h1, i', z', h2, _, h3, _⟩ := elemOf_spec he
  have hul : us.length = n := by rw [hrow.1, Nat.mul_one]
  have hnl : ns.length = m := by rw [hsrc.newsLen, Nat.mul_one]
  have hcl : news.length = m := by rw [hVn.len, hnl]
  have hnc := hrow.2.2.1
  obtain ⟨gb, rfl⟩ := hrow.some (by omega)
  obtain ⟨hst, hrow'⟩ := hrow.write (P := cx.P) hVn.one (p := lo) (by omega)
  have hsim := hs.wrote hi hV hVn hrow'
  have hfrom : fromAt (some ⟨gb, 0, none⟩) c lo = some ⟨gb, lo, none⟩ := by
    unfold fromAt
    rw [if_neg (by omega), Option.map_some, add_lit', Nat.zero_add]
  rw [hfrom] at hx
  refine ⟨.int .i64 (m : Int), w.setCells gb lo ns, _, _, ?_, hsim, .v _, ?_⟩
  · have hcells := hsrc.cells
    have hlen := hsrc.len w
    have hmin' : m.min (n - lo) = m := Nat.min_eq_left (by omega)
    have hsz : (sizeOf e).run cx.P w = .ok 1 w := by simp [sizeOf, typeInfo, h2, h3, Sem.run_bind, Sem.run_pure]
    simp [execOp, ho, resolve, invoke, builtin, Sem.run_bind, Sem.run_pure, hx.val hs rfl, Builtin.copy_, run_underlying h1, hlen, hsz, hmin', hcells, hst, goInt]
  · rw [hcl]
    exact hr
/-- A slice's value, cut shorter. -/
theorem Yv.sliceV0 {t e : TypeId} {k n c m : Nat} {A : Option Addr} {xh : Option Operand} (ho : o.op = .slice t x none xh none) (h : sliceSz cx.P t = some (e, k)) (hx : Ev env g x (.v (.slice A n c))) (hh : Bound env g xh n m) (hb : g = true → m ≤ c) : Yv cx o env S g (.v (.slice A m c)) := by
  intro a w hs hg
  have hv := hx.val hs hg
  have hmc := hb hg
  obtain ⟨h1, i', h2, h3⟩ := sliceSz_spec h
  have hbnd := fun w' => run_bounds (P := cx.P) hs hg (isS := true) (cap := c) (lo := 0) (xl := none) Bound.none_ hh (Nat.zero_le _) hmc w'
  have hrun : ∀ w' : World, (execOp a.eval o).run cx.P w' = .ok (.value (.slice (if c = 0 then A else A.map (·.add (0 * k))) (m - 0) (c - 0))) w' := by
    intro w'
    have hb' := hbnd w'
    simp only [Option.map_none] at hb'
    simp only [execOp, ho, hv, Instr.sliceAt, Sem.run_bind, run_underlying h1, Result.andThen_ok, Instr.slice, Option.map_none, hb', sizeOf, typeInfo, run_program, h2, Sem.run_pure, h3]
  have e0 : (if c = 0 then A else A.map (·.add (0 * k))) = A := by
    cases A with
    | none => simp
    | some ad =>
      have : ad.add 0 = ad := by unfold Addr.add; rfl
      simp [this]
  rw [e0, Nat.sub_zero, Nat.sub_zero] at hrun
  exact ⟨_, .v _, fun w' _ => hrun w'⟩
/-- A part of a row's bytes, as a string. -/
theorem Yv.bytesStrPart {src dst e : TypeId} {i n c lo m c' : Nat} {A : Option Addr} {s : List UInt8} (ho : o.op = .convert src dst x) (hs : isBytes cx.P src = true) (hd : isStr cx.P dst = true) (hi : S[i]? = some (.row A n c e 1 (s.map u8))) (hx : Ev env g x (.v (.slice (fromAt A c lo) m c')))
    (hm : g = true → lo + m ≤ n) : Yv cx o env S g (sv ((s.drop lo).take m)) := by
  intro a w hsim hg
  refine ⟨_, .v _, fun w' hk => ?_⟩
  have hv := hx.val hsim hg
  have hmn := hm hg
  obtain ⟨us, hr, hV⟩ := hsim.row hi
  have hus := vreps_u8s hV
  have hln : s.length = n := by
    have := hr.1
    rw [hus, List.length_map] at this
    omega
  refine run_bytes_string ho hs hd hv w' ?_
  rcases Nat.eq_zero_or_pos m with rfl | hpos
  · exact .inl ⟨rfl, by simp⟩
  · obtain ⟨gb, rfl⟩ := hr.some (by rw [hus, List.length_map]; omega)
    have hnc := hr.2.2.1
    have hfrom : fromAt (some ⟨gb, 0, none⟩) c lo = some ⟨gb, lo, none⟩ := by
      unfold fromAt
      rw [if_neg (by omega), Option.map_some, add_lit', Nat.zero_add]
    rw [hfrom]
    refine .inr ⟨_, rfl, by rw [List.length_take, List.length_drop]; omega, fun j u hj => ?_⟩
    rw [List.getElem?_map, List.getElem?_take] at hj
    split at hj
    · rw [List.getElem?_drop] at hj
      rw [add_lit']
      have : us[lo + j]? = some u := by rw [hus, List.getElem?_map]; exact hj
      exact (World.cell?_of_block (w := w) (a := ⟨gb, lo + j, none⟩) (hk.block _ (hr.lt rfl) (by simp))).trans (hr.cell this)
    · cases hj
/-- The entries, said otherwise. -/
theorem AW.eqS {code : Code} {S' : St} (e : S = S') (h : AW cx code Q env S') : AW cx code Q env S := e ▸ h
theorem AWL.eqS {S' : St} (e : S = S') (h : AWL cx ops l K env S') : AWL cx ops l K env S := e ▸ h
theorem AW.rowLe {code : Code} {n c k : Nat} {A : Option Addr} {e : TypeId} {cs : List T} (i : Nat) (hi : S[i]? = some (.row A n c e k cs)) (h : n ≤ c → AW cx code Q env S) : AW cx code Q env S := fun a w hs => by
  obtain ⟨us, hr, hV⟩ := hs.row hi
  exact h hr.2.2.1 a w hs
/-- What a row without an address is. -/
theorem AW.rowFact {code : Code} {n c k : Nat} {A : Option Addr} {e : TypeId} {cs : List T} (i : Nat) (hi : S[i]? = some (.row A n c e k cs)) (h : (A = none → n = 0 ∧ c = 0 ∧ cs = []) → AW cx code Q env S) : AW cx code Q env S := fun a w hs => by
  obtain ⟨us, hr, hV⟩ := hs.row hi
  refine h (fun e => ?_) a w hs
  rcases hr.2.2.2 with ⟨_, h1, h2⟩ | ⟨_, _, _, h3, _⟩
  · refine ⟨h1, h2, List.eq_nil_of_length_eq_zero ?_⟩
    rw [hV.len, hr.1, h1, Nat.zero_mul]
  · rw [e] at h3; cases h3
theorem Yv.eqNilV {ty yt e : TypeId} {A : Option Addr} {n c : Nat} (ho : o.op = .binOp .eql ty x (.const (.slice none 0 0)) yt) (ht : sliceOf cx.P ty = some e) (hx : Ev env g x (.v (.slice A n c))) : Yv cx o env S g (.v (.bool A.isNone)) :=
  Yv.plain fun a w hs hg w' => by
    have hA := hx.val hs hg
    have hgd : eqGuard .eql ty x (.const (.slice none 0 0)) (.slice A n c) (.slice none 0 0) = pure () := by unfold eqGuard; split <;> rfl
    have h2 := Lib.run_eql_slice_nil (P := cx.P) (w := w') ty e A n c 0 0 (sliceOf_spec ht)
    have h3 : a.eval (.const (.slice none 0 0)) = .slice none 0 0 := rfl
    simp only [execOp, ho, hA, h3, hgd, Sem.run_bind, Sem.run_pure, Result.andThen_ok, h2]
/-- A call that takes all entries. -/
theorem AWL.callAll {f : FuncId} {xf : Operand} {xs : Array Operand} {ats : Array TypeId} {fst cap : Array Value} {ts : List T} {R : T → St → Prop} (hg : o.guard = none) (hd : o.dst = some d) (hN : d < cx.N)
    (ho : o.op = .call { callee := .value xf, args := xs, argTypes := ats }) (hf : calleeB cx.P f = true) (hx : Ev env true xf (.v (.func (.func f) fst cap))) (hxs : Evs env true xs.toList ts)
    (hc : ACalls cx.P f (fst.toList.map T.v ++ (ts ++ cap.toList.map T.v)) S R) (hr : ∀ t S', R t S' → AWL cx ops l K ((d, true, t) :: env) S') : AWL cx ops (o :: l) K env S :=
  AWL.call hg hd hN ho hf hx hxs (S1 := S) (S2 := []) (List.append_nil S).symm hc (fun t S' h => by rw [List.append_nil]; exact hr t S' h)
end
end Go.Proofs.YtjndpakhmgapjaaDoor

namespace Go.Proofs.YtjndpakhmgapjaaDoor
open Go Go.RowKit
set_option linter.unusedVariables false

theorem AWP.three {cx : Cx} {ops : Array Oper} {K : Env → St → Prop} {env : Env} {S : St} {o o' o'' : Oper} {fuel i j k : Nat} {listed : Array Bool} (hr : Region.ready .any ops listed = [i, j, k]) (hi : ops[i]? = some o) (hj : ops[j]? = some o') (hk : ops[k]? = some o'')
    (h : AWL cx ops [o] (AWP cx ops fuel (listed.setIfInBounds i true) K) env S) (h' : AWL cx ops [o'] (AWP cx ops fuel (listed.setIfInBounds j true) K) env S) (h'' : AWL cx ops [o''] (AWP cx ops fuel (listed.setIfInBounds k true) K) env S) : AWP cx ops (fuel + 1) listed K env S := by
  intro a w hs
  refine wpAny_all hr (by simp) fun q hq => ?_
  simp only [List.mem_cons, List.not_mem_nil, or_false] at hq
  rcases hq with rfl | rfl | rfl
  · exact wpOp_of_AWL hi h (fun _ _ a w h1 h2 => h1 a w h2) hs
  · exact wpOp_of_AWL hj h' (fun _ _ a w h1 h2 => h1 a w h2) hs
  · exact wpOp_of_AWL hk h'' (fun _ _ a w h1 h2 => h1 a w h2) hs
/-- What a deferred call does. -/
def ACallsD (P : Program) (f : FuncId) (ts : List T) (S0 : St) (R : T → St → Prop) : Prop :=
  ∀ (X : List Nat) (w : World) (args : List Value), (∀ b ∈ X, b < w.heap.size ∧ b ∉ M S0) → (M S0).Nodup → (∀ e ∈ S0, e.holds w (X ++ M S0)) → args.length = ts.length → (∀ (j : Nat) (t : T) (u : Value), ts[j]? = some t → args[j]? = some u → VRep w (X ++ M S0) t u) →
    CallsD P f args.toArray .returning w fun e u' w' => u' = .returning ∧ ∃ v t S', e = .returned v ∧ Keeps (M S0) w w' ∧ (M S').Nodup ∧ (∀ b ∈ M S', b ∈ M S0 ∨ w.heap.size ≤ b) ∧ (∀ e ∈ S', e.holds w' (X ++ M S')) ∧ VRep w' (X ++ M S') t v ∧ R t S'
theorem ACallsD.intro {P : Program} {f : FuncId} {fn : Func} {c : Code} {ts : List T} {S0 : St} {R : T → St → Prop} {N : Nat} {rs : List ResultVar} (hf : P.funcs[f]? = some fn) (hb : fn.body = some c) (hN : fn.ntmps = N) (hlen : ts.length ≤ N) (hrs : fn.results.toList = rs)
    (h : ∀ (X : List Nat) (w0 : World), AW ⟨P, X, M S0, w0, N, []⟩ c (retQ P rs R) (initEnv 0 ts) S0) : ACallsD P f ts S0 R := by
  intro X w args h1 h2 h3 h4 h5
  refine callsD_of_wp hf hb ?_
  have hs : Sim ⟨P, X, M S0, w, N, []⟩ (initEnv 0 ts) S0 { tmps := args.toArray ++ Array.replicate (fn.ntmps - args.toArray.size) undef, defers := [] } w := by
    refine ⟨Keeps.refl _ _, h2, fun b hb => .inl hb, h1, h3, ?_, rfl, fun k c t hk => ?_⟩
    · simp [hN]; omega
    · obtain ⟨rfl, -, e⟩ := get_initEnv ts 0 k c t hk
      refine ⟨fun _ => ?_, fun h => by cases h⟩
      rw [Nat.sub_zero] at e
      have hkl : k < args.length := h4 ▸ (List.getElem?_eq_some_iff.1 e).1
      have : (args.toArray ++ Array.replicate (fn.ntmps - args.toArray.size) undef).getD k undef = args[k] := by
        rw [Array.getD_eq_getD_getElem?, Array.getElem?_append_left (by simpa using hkl)]
        simp [hkl]
      rw [this]
      exact h5 k t _ e (List.getElem?_eq_getElem hkl)
  refine Code.wp_mono (fun e a w' hq => ?_) (h X w _ _ hs)
  obtain ⟨env', S', hs', he, l, hl, hR⟩ := hq
  subst hrs
  obtain ⟨us, e1, e2, e3⟩ := Res.vals (cx := ⟨P, X, M S0, w, N, []⟩) hs' hl
  have hrun := results_list e3
  have hv : VRep w' (X ++ M S') (tupOf l) (tupV us) := by
    match l, us, e1, e2 with
    | [], [], _, e2 => exact .tup rfl e2
    | [t], [u], _, e2 => exact e2 0 t u rfl rfl
    | t :: t' :: r, u :: u' :: r', e1, e2 => exact .tup (by simpa using e1) e2
  have hR' : ∃ v t S'', (Ending.returned (tupV us)) = .returned v ∧ Keeps (M S0) w w' ∧ (M S'').Nodup ∧ (∀ b ∈ M S'', b ∈ M S0 ∨ w.heap.size ≤ b) ∧ (∀ e ∈ S'', e.holds w' (X ++ M S'')) ∧ VRep w' (X ++ M S'') t v ∧ R t S'' :=
    ⟨_, _, S', rfl, hs'.keeps, hs'.nd, hs'.fresh, hs'.ents, hv, hR⟩
  rcases he with rfl | rfl
  · exact ⟨hs'.defers, _, hrun, hR'⟩
  · exact ⟨hs'.defers, _, hrun, hR'⟩

def Cx.defer (cx : Cx) (D : List Deferred) : Cx := { cx with D := D }
/-- Code that may defer: at the end it is known what was. -/
def AWd (cx : Cx) (c : Code) (Q : List Deferred → Exit → Env → St → Prop) (env : Env) (S : St) : Prop :=
  ∀ a w, Sim cx env S a w → c.wp cx.P (fun e a w => ∃ D env S, Sim (cx.defer D) env S a w ∧ Q D e env S) a w
section
variable {cx : Cx} {Q : List Deferred → Exit → Env → St → Prop} {env : Env} {S : St}
theorem Sim.same {a : Act} {w : World} (h : Sim cx env S a w) : Sim (cx.defer cx.D) env S a w := h
theorem AWd.of {c : Code} (h : AW cx c (Q cx.D) env S) : AWd cx c Q env S := fun a w hs =>
  Code.wp_mono (fun e a w ⟨env, S, h1, h2⟩ => ⟨cx.D, env, S, h1.same, h2⟩) (h a w hs)
def thenD (cx : Cx) (y : Code) (Q : List Deferred → Exit → Env → St → Prop) : Exit → Env → St → Prop
  | .normal => AWd cx y Q
  | e => Q cx.D e
theorem AWd.seq {x y : Code} (h : AW cx x (thenD cx y Q) env S) : AWd cx (.seq x y) Q env S := by
  intro a w hs
  refine wp_seq (Code.wp_mono (fun e a w hq => ?_) (h a w hs))
  obtain ⟨env', S', h1, h2⟩ := hq
  cases e <;> first | exact h2 a w h1 | exact ⟨cx.D, env', S', h1.same, h2⟩
theorem AWd.rseq {id : Nat} {l : List Oper} {y : Code} (h : AWL cx l.toArray l (AWd cx y Q) env S) : AWd cx (.seq (.region id l.toArray false) y) Q env S := AWd.seq (AW.region h)
theorem Sim.deferred {a : Act} {w : World} (hs : Sim cx env S a w) (dr : Deferred) : Sim (cx.defer (dr :: cx.D)) env S { a with defers := dr :: a.defers } w :=
  ⟨hs.keeps, hs.nd, hs.fresh, hs.far, hs.ents, hs.size, by show dr :: a.defers = dr :: cx.D; rw [hs.defers], hs.slots⟩
/-- Two moves, and the deferred call of a function of these. -/
theorem AWd.deferTwo {id d1 d2 f : Nat} {o1 o2 o3 : Oper} {x1 x2 xf y1 y2 : Operand} {v1 v2 : Value} {ats : Array TypeId} {y : Code} (g1 : o1.guard = none) (g2 : o2.guard = none) (g3 : o3.guard = none) (e1 : o1.dst = some d1) (e2 : o2.dst = some d2) (e3 : o3.dst = none)
    (hN1 : d1 < cx.N) (hN2 : d2 < cx.N) (p1 : o1.op = .move x1) (p2 : o2.op = .move x2) (p3 : o3.op = .defer { callee := .value xf, args := #[y1, y2], argTypes := ats })
    (h1 : Ev env true x1 (.v v1)) (h2 : Ev ((d1, true, .v v1) :: env) true x2 (.v v2)) (hf : Ev ((d2, true, .v v2) :: (d1, true, .v v1) :: env) true xf (.v (.func (.func f) #[] #[])))
    (hy1 : Ev ((d2, true, .v v2) :: (d1, true, .v v1) :: env) true y1 (.v v1)) (hy2 : Ev ((d2, true, .v v2) :: (d1, true, .v v1) :: env) true y2 (.v v2))
    (h : AWd (cx.defer (⟨.fn (.func f) #[], #[v1, v2]⟩ :: cx.D)) y Q ((d2, true, .v v2) :: (d1, true, .v v1) :: env) S) : AWd cx (.seq (.region id [o1, o2, o3].toArray false) y) Q env S := by
  intro a w hs
  refine wp_seq ?_
  refine wp_region_lit ?_
  obtain ⟨u1, r1, s1⟩ := (Yv.move (cx := cx) (S := S) (env := env) (g := true) p1 h1) a w hs rfl
  obtain rfl := r1.v_inv
  have hs1 := hs.put (c := true) (t := .v u1) (u := u1) hN1 (fun _ => .v _) (by simp)
  obtain ⟨u2, r2, s2⟩ := (Yv.move (cx := cx) (S := S) (g := true) p2 h2) _ w hs1 rfl
  obtain rfl := r2.v_inv
  have hs2 := hs1.put (c := true) (t := .v u2) (u := u2) hN2 (fun _ => .v _) (by simp)
  unfold wpList
  rw [if_pos (wanted_none g1)]
  refine .inl ?_
  unfold Oper.wp
  rw [s1 w (Keeps.refl _ _), Oper.upon_value, e1]
  unfold wpList
  rw [if_pos (wanted_none g2)]
  refine .inl ?_
  unfold Oper.wp
  rw [s2 w (Keeps.refl _ _), Oper.upon_value, e2]
  unfold wpList
  rw [if_pos (wanted_none g3)]
  refine .inl ?_
  unfold Oper.wp
  have hrun : ∀ w : World, (execOp ((a.put (some d1) u1).put (some d2) u2).eval o3).run cx.P w = .ok (.defer ⟨.fn (.func f) #[], #[u1, u2]⟩) w := fun w => by
    simp only [execOp, p3, resolve, Deferred.ofValue, hf.val hs2 rfl, Sem.run_bind, Sem.run_pure, Result.andThen_ok]
    simp [hy1.val hs2 rfl, hy2.val hs2 rfl]
  rw [hrun, Oper.upon_defer, e3]
  refine wpList_nil ?_
  exact h _ w (hs2.deferred _)
end
/-- A function that defers at most one call of f with plain values, which then leaves the entries so. -/
theorem ACalls.introD {P : Program} {k : FuncId} {fn : Func} {c : Code} {ts : List T} {S0 : St} {R : T → St → Prop} {N : Nat} {rs : List ResultVar} (hf : P.funcs[k]? = some fn) (hb : fn.body = some c) (hN : fn.ntmps = N) (hlen : ts.length ≤ N) (hrs : fn.results.toList = rs)
    (h : ∀ (X : List Nat) (w0 : World), AWd ⟨P, X, M S0, w0, N, []⟩ c (fun D e env S => (e = .ret ∨ e = .normal) ∧ ((D = [] ∧ ∃ l, Res P env S rs l ∧ R (tupOf l) S) ∨
      ∃ (f : FuncId) (v1 v2 : Value) (vs : List Value) (S1 : St) (R' : T → St → Prop), D = [⟨.fn (.func f) #[], #[v1, v2]⟩] ∧ calleeB P f = true ∧ Res P env S rs (vs.map T.v) ∧ (∀ r ∈ rs, ∃ i, r = .tmp i) ∧ S = S1 ∧ ACallsD P f [.v v1, .v v2] S1 R' ∧ ∀ t S', R' t S' → R (tupOf (vs.map T.v)) S')) (initEnv 0 ts) S0) : ACalls P k ts S0 R := by
  intro X w args h1 h2 h3 h4 h5
  refine calls_of_wp_defers hf hb ?_
  have hs : Sim ⟨P, X, M S0, w, N, []⟩ (initEnv 0 ts) S0 { tmps := args.toArray ++ Array.replicate (fn.ntmps - args.toArray.size) undef, defers := [] } w := by
    refine ⟨Keeps.refl _ _, h2, fun b hb => .inl hb, h1, h3, ?_, rfl, fun k c t hk => ?_⟩
    · simp [hN]; omega
    · obtain ⟨rfl, -, e⟩ := get_initEnv ts 0 k c t hk
      refine ⟨fun _ => ?_, fun h => by cases h⟩
      rw [Nat.sub_zero] at e
      have hkl : k < args.length := h4 ▸ (List.getElem?_eq_some_iff.1 e).1
      have : (args.toArray ++ Array.replicate (fn.ntmps - args.toArray.size) undef).getD k undef = args[k] := by
        rw [Array.getD_eq_getD_getElem?, Array.getElem?_append_left (by simpa using hkl)]
        simp [hkl]
      rw [this]
      exact h5 k t _ e (List.getElem?_eq_getElem hkl)
  refine Code.wp_mono (fun e a w' hq => ?_) (h X w _ _ hs)
  obtain ⟨D, env', S', hs', he, hq⟩ := hq
  subst hrs
  have main : Leaves P fn a.tmps (fun e w' => ∃ v t S'', e = .returned v ∧ Keeps (M S0) w w' ∧ (M S'').Nodup ∧ (∀ b ∈ M S'', b ∈ M S0 ∨ w.heap.size ≤ b) ∧ (∀ e ∈ S'', e.holds w' (X ++ M S'')) ∧ VRep w' (X ++ M S'') t v ∧ R t S'') a.defers .returning w' := by
    have hdef : a.defers = D := hs'.defers
    rw [hdef]
    rcases hq with ⟨rfl, l, hl, hR⟩ | ⟨f, v1, v2, vs, S1, R', rfl, hc, hl, htmp, rfl, hD, hR⟩
    · obtain ⟨us, e1, e2, e3⟩ := Res.vals (cx := (⟨P, X, M S0, w, N, []⟩ : Cx).defer []) hs' hl
      have hrun := results_list e3
      have hv : VRep w' (X ++ M S') (tupOf l) (tupV us) := by
        match l, us, e1, e2 with
        | [], [], _, e2 => exact .tup rfl e2
        | [t], [u], _, e2 => exact e2 0 t u rfl rfl
        | t :: t' :: r, u :: u' :: r', e1, e2 => exact .tup (by simpa using e1) e2
      exact ⟨_, hrun, _, _, S', rfl, hs'.keeps, hs'.nd, hs'.fresh, hs'.ents, hv, hR⟩
    · obtain ⟨us, e1, e2, e3⟩ := Res.vals (cx := (⟨P, X, M S0, w, N, []⟩ : Cx).defer _) hs' hl
      have hus : us = vs := by
        apply List.ext_getElem?
        intro j
        cases hu : us[j]? with
        | none =>
          have := e1
          rw [List.length_map] at this
          rw [List.getElem?_eq_none_iff] at hu
          rw [List.getElem?_eq_none]; omega
        | some u =>
          have hj : j < vs.length := by
            have := (List.getElem?_eq_some_iff.1 hu).1
            rw [← e1, List.length_map] at this
            exact this
          have := e2 j (.v vs[j]) u (by simp [hj]) hu
          rw [this.v_inv, List.getElem?_eq_getElem hj]
      subst hus
      refine ⟨by simp, .func f, #[], f, #[v1, v2], rfl, ?_, ?_⟩
      · have := run_callFunc' hc #[v1, v2] w'
        simpa [invoke] using this
      · have hcall := hD X w' [v1, v2] (fun b hb => ⟨Nat.lt_of_lt_of_le (hs'.far b hb).1 hs'.keeps.size, fun hm => hs'.notX hm hb⟩) hs'.nd hs'.ents rfl (fun j t u e1 e2 => by
          rcases j with _ | _ | j
          · simp only [List.getElem?_cons_zero, Option.some.injEq] at e1 e2
            subst e1; subst e2; exact .v _
          · simp only [List.getElem?_cons_succ, List.getElem?_cons_zero, Option.some.injEq] at e1 e2
            subst e1; subst e2; exact .v _
          · simp at e1)
        intro c cs hcm
        obtain ⟨e', u', w'', fr, ⟨hu', v, t, S'', rfl, hk, hnd, hfr, hent, hvr, hR'⟩, hcm2, hkind, hgo⟩ := hcall c cs hcm
        refine ⟨_, u', w'', fr, ?_, hcm2, hkind, hgo⟩
        subst hu'
        refine ⟨_, results_list (us := us) ?_, _, _, S'', rfl, hs'.keeps.trans hk (fun b hb => hs'.fresh b hb), hnd, fun b hb => ?_, hent, ?_, hR _ _ hR'⟩
        · have hall : ∀ (rl : List ResultVar) (vl : List Value), (∀ r ∈ rl, ∃ i, r = .tmp i) → ∀ w1 w2 : World, (rl.mapM (resV a.tmps)).run P w1 = .ok vl w1 → (rl.mapM (resV a.tmps)).run P w2 = .ok vl w2 := by
            intro rl
            induction rl with
            | nil => intro vl _ w1 w2 hh; simp [Sem.run_pure] at hh ⊢; exact hh
            | cons r rl ih =>
              intro vl hrl w1 w2 hh
              obtain ⟨i, rfl⟩ := hrl r (List.mem_cons_self ..)
              rw [List.mapM_cons] at hh ⊢
              have e0 : ∀ w : World, (resV a.tmps (.tmp i)).run P w = .ok (a.tmps.getD i undef) w := fun w => by simp [resV, Sem.run_pure]
              simp only [Sem.run_bind, e0, Result.andThen_ok, Sem.run_pure] at hh ⊢
              cases hm : (rl.mapM (resV a.tmps)).run P w1 with
              | ok vl' w1' =>
                rw [hm] at hh
                simp only [Result.andThen_ok, Sem.run_pure, Result.ok.injEq] at hh
                obtain ⟨hh1, hh2⟩ := hh
                subst hh2
                rw [ih vl' (fun r hr => hrl r (List.mem_cons_of_mem _ hr)) _ w2 hm]
                simp only [Result.andThen_ok, Sem.run_pure, hh1]
              | halt z w1' => rw [hm] at hh; cases hh
          exact hall _ _ htmp _ _ e3
        · rcases hfr b hb with hb | hb
          · exact hs'.fresh b hb
          · exact .inr (Nat.le_trans hs'.keeps.size hb)
        · match us with
          | [] => exact .tup rfl (fun j t u h => by simp [tupOf] at h)
          | [u] => exact .v _
          | u :: u' :: r =>
            refine .tup (by simp) (fun j t x h1 h2 => ?_)
            have h1 : ((u :: u' :: r).map T.v)[j]? = some t := h1
            rw [List.getElem?_map, h2] at h1
            simp only [Option.map_some, Option.some.injEq] at h1
            subst h1; exact .v _
  rcases he with rfl | rfl
  · exact main
  · exact main
end Go.Proofs.YtjndpakhmgapjaaDoor

namespace Go.Proofs.YtjndpakhmgapjaaDoor
open Go Go.RowKit
set_option linter.unusedVariables false

section
variable {cx : Cx} {env : Env} {S : St} {o : Oper} {g : Bool} {x y z : Operand} {ops : Array Oper} {l : List Oper} {K : Env → St → Prop} {d : Nat}

def valsOf : List T → Option (List Value)
  | [] => some []
  | .v u :: r => (valsOf r).map (u :: ·)
  | _ :: _ => none
theorem valsOf_spec : ∀ {l : List T} {us : List Value}, valsOf l = some us → l = us.map T.v
  | [], us, h => by simp only [valsOf, Option.some.injEq] at h; subst h; rfl
  | .v u :: r, us, h => by
    simp only [valsOf, Option.map_eq_some_iff] at h
    obtain ⟨vs, h1, rfl⟩ := h
    rw [valsOf_spec h1]; rfl
  | .agg _ :: _, _, h => by simp [valsOf] at h
  | .tup _ :: _, _, h => by simp [valsOf] at h
  | .sl _ _ :: _, _, h => by simp [valsOf] at h
  | .rp _ _ :: _, _, h => by simp [valsOf] at h
  | .ep _ _ :: _, _, h => by simp [valsOf] at h
  | .sp _ _ _ :: _, _, h => by simp [valsOf] at h
theorem VRep.vals {w : World} {L : List Nat} {us : List Value} {u : Value} (h : VRep w L (.agg (us.map T.v)) u) : u = .agg us.toArray := by
  cases h with
  | @agg _ ys hl hh h1 =>
    have : ys = us := by
      apply List.ext_getElem?
      intro j
      rw [List.length_map] at hl
      by_cases hj : j < us.length
      · have e1 : (us.map T.v)[j]? = some (.v us[j]) := by simp [hj]
        have e2 : ys[j]? = some (ys[j]'(by omega)) := List.getElem?_eq_getElem (by omega)
        have := (hh j _ _ e1 e2).v_inv
        rw [e2, this, List.getElem?_eq_getElem hj]
      · rw [List.getElem?_eq_none (by omega), List.getElem?_eq_none (by omega)]
    rw [this]

/-! ### function values -/
theorem Evs.valsOf_ {a : Act} {w : World} (hs : Sim cx env S a w) (hg : g = true) {xs : List Operand} {ts : List T} {us : List Value} (h : Evs env g xs ts) (hv : valsOf ts = some us) : xs.map a.eval = us := by
  obtain ⟨e1, e2⟩ := Evs.spec hs hg h
  rw [valsOf_spec hv] at e1 e2
  apply List.ext_getElem?
  intro j
  rw [show (us.map T.v).length = us.length from List.length_map ..] at e1
  by_cases hj : j < us.length
  · have e3 : (us.map T.v)[j]? = some (.v us[j]) := by simp [hj]
    have e4 : (xs.map a.eval)[j]? = some ((xs.map a.eval)[j]'(by omega)) := List.getElem?_eq_getElem (by omega)
    have := (e2 j _ _ e3 e4).v_inv
    rw [e4, this, List.getElem?_eq_getElem hj]
  · rw [List.getElem?_eq_none (by omega), List.getElem?_eq_none (by omega)]
theorem Yv.makeFunc {fn : Fn} {fs cs : Array Operand} {ft ct : List T} {fu cu : List Value} (ho : o.op = .makeFunc fn fs cs) (hf : Evs env g fs.toList ft) (hfu : valsOf ft = some fu) (hc : Evs env g cs.toList ct) (hcu : valsOf ct = some cu) :
    Yv cx o env S g (.v (.func fn fu.toArray cu.toArray)) :=
  Yv.plain fun a w hs hg w' => by
    have e1 := hf.valsOf_ hs hg hfu
    have e2 := hc.valsOf_ hs hg hcu
    have e3 : fs.map a.eval = fu.toArray := by apply Array.ext'; simp [← e1]
    have e4 : cs.map a.eval = cu.toArray := by apply Array.ext'; simp [← e2]
    simp [execOp, ho, Instr.makeFunc, Sem.run_pure, e3, e4]

/-! ### equality of structs of plain cells -/
inductive FK where
  | i
  | b
  | s
def fkOf (P : Program) (t : TypeId) : Option FK :=
  match P.underlying t with
  | some (.int _) => some .i
  | some .bool => some .b
  | some .string => some .s
  | _ => none
def flatF (P : Program) : List Field → Option (List (Nat × FK))
  | [] => some []
  | f :: r => if f.name = "_" then none else match aggSize P f.type, fkOf P f.type, flatF P r with
    | some (false, _), some k, some l => some ((f.offset, k) :: l)
    | _, _, _ => none
def flatOf (P : Program) (t : TypeId) : Option (List (Nat × FK)) :=
  match P.underlying t with
  | some (.struct fs) => if P.stoodInHeld t || P.eqGuardType P.depth t then none else flatF P fs.toList
  | _ => none
def eqCell : FK → Value → Value → Option Bool
  | .i, .int a p, .int b q => if a = b then some (decide (p = q)) else none
  | .b, .bool p, .bool q => some (p == q)
  | .s, .string p, .string q => some (decide (p.data.toList = q.data.toList))
  | _, _, _ => none
def eqCells (us vs : List Value) : List (Nat × FK) → Option Bool
  | [] => some true
  | (off, k) :: r => match us[off]?, vs[off]? with
    | some u, some v => match eqCell k u v, eqCells us vs r with
      | some b, some c => some (b && c)
      | _, _ => none
    | _, _ => none
theorem run_part_one {P : Program} {t : TypeId} {n off : Nat} (h : aggSize P t = some (false, n)) {us : List Value} {u : Value} (hu : us[off]? = some u) (w : World) : (part t us.toArray off).run P w = .ok u w := by
  obtain ⟨h1, h2⟩ := aggSize_spec h w
  simp [part, Sem.run_bind, h1, hu, Sem.run_pure]
theorem run_eqCell {P : Program} {t : TypeId} {k : FK} (h : fkOf P t = some k) {u v : Value} {b : Bool} (hb : eqCell k u v = some b) (dd : Nat) (w : World) : (Op.equalIn (dd + 1) t u v).run P w = .ok b w := by
  unfold fkOf at h
  split at h
  · rename_i k' hu
    simp only [Option.some.injEq] at h; subst h
    cases u <;> cases v <;> simp only [eqCell] at hb <;> try cases hb
    split at hb
    · rename_i e; subst e
      simp only [Option.some.injEq] at hb; subst hb
      rw [run_equalIn_int w dd t _ _ _ _ hu]
      rfl
    · cases hb
  · rename_i hu
    simp only [Option.some.injEq] at h; subst h
    cases u <;> cases v <;> simp only [eqCell, Option.some.injEq] at hb <;> try cases hb
    exact run_equalIn_bool' w dd t _ _ hu
  · rename_i hu
    simp only [Option.some.injEq] at h; subst h
    cases u <;> cases v <;> simp only [eqCell, Option.some.injEq] at hb <;> try cases hb
    rename_i p q
    rw [run_equalIn_string w dd t _ _ hu, ByteArray.toList_eq, ByteArray.toList_eq]
    congr 1
    by_cases e : p.data.toList = q.data.toList
    · simp [e]
    · rw [decide_eq_false e]; exact beq_eq_false_iff_ne.2 e
  · cases h
theorem run_eqFlat {P : Program} {us vs : List Value} (dd : Nat) (w : World) : ∀ {fs : List Field} {l : List (Nat × FK)} {b : Bool}, flatF P fs = some l → eqCells us vs l = some b → (Op.eqFields (dd + 1) us.toArray vs.toArray fs).run P w = .ok b w
  | [], l, b, h, hb => by
    simp only [flatF, Option.some.injEq] at h; subst h
    simp only [eqCells, Option.some.injEq] at hb; subst hb
    simp [Op.eqFields, Sem.run_pure]
  | f :: r, l, b, h, hb => by
    simp only [flatF] at h
    split at h
    · cases h
    · rename_i hn
      split at h
      · rename_i m k l' h1 h2 h3
        simp only [Option.some.injEq] at h; subst h
        simp only [eqCells] at hb
        split at hb
        · rename_i u v hu hv
          split at hb
          · rename_i b1 b2 hb1 hb2
            simp only [Option.some.injEq] at hb; subst hb
            have ih := run_eqFlat dd w h3 hb2
            simp only [Op.eqFields, ne_eq, hn, not_false_eq_true, if_true, Sem.run_bind, run_part_one h1 hu, run_part_one h1 hv, run_eqCell h2 hb1, Result.andThen_ok]
            cases b1
            · simp [Sem.run_pure]
            · simp [ih]
          · cases hb
        · cases hb
      · cases h
theorem run_eqA {P : Program} {t : TypeId} {us vs : List Value} {l : List (Nat × FK)} {b : Bool} (ht : flatOf P t = some l) (hb : eqCells us vs l = some b) (w : World) :
    (Op.equalIn 10000 t (.agg us.toArray) (.agg vs.toArray)).run P w = .ok b w ∧ P.eqGuardType P.depth t = false := by
  unfold flatOf at ht
  split at ht
  · rename_i fs hu
    split at ht
    · cases ht
    · rename_i hn
      simp only [Bool.or_eq_true, not_or, Bool.not_eq_true] at hn
      have hf : P.fieldsOf t = fs := by simp [Program.fieldsOf, hu]
      exact ⟨by rw [run_equalIn_struct w 9999 t _ _ (by rw [hf]; exact hu) hn.1, hf]; exact run_eqFlat 9998 w ht hb, hn.2⟩
  · cases ht
theorem exec_binOp_agg {ρ : Operand → Value} {P : Program} {op : BinOp} {ty yt : TypeId} {p q : Array Value} (ho : o.op = .binOp op ty x y yt) (hx : ρ x = .agg p) (hy : ρ y = .agg q) (hm : P.eqGuardType P.depth ty = false) (w : World) :
    (execOp ρ o).run P w = ((binOp op ty (.agg p) (.agg q)).run P w).andThen fun v w => .ok (.value v) w := by
  have h := run_eqGuard_agg (P := P) w op ty x y p q hm
  simp only [execOp, ho, hx, hy, Sem.run_bind, h, Result.andThen_ok, Sem.run_pure]
theorem Yv.eqlA {ty yt : TypeId} {l l' : List T} {us vs : List Value} {fl : List (Nat × FK)} {b : Bool} (ho : o.op = .binOp .eql ty x y yt) (ht : flatOf cx.P ty = some fl) (hx : Ev env g x (.agg l)) (hy : Ev env g y (.agg l')) (hu : valsOf l = some us) (hv : valsOf l' = some vs) (hb : eqCells us vs fl = some b) :
    Yv cx o env S g (.v (.bool b)) :=
  Yv.plain fun a w hs hg w' => by
    have e1 := hx.rep hs hg
    have e2 := hy.rep hs hg
    rw [valsOf_spec hu] at e1
    rw [valsOf_spec hv] at e2
    obtain ⟨e3, e4⟩ := run_eqA ht hb w'
    rw [exec_binOp_agg ho e1.vals e2.vals e4, run_eql_struct, e3]
    rfl
theorem Yv.neqA {ty yt : TypeId} {l l' : List T} {us vs : List Value} {fl : List (Nat × FK)} {b : Bool} (ho : o.op = .binOp .neq ty x y yt) (ht : flatOf cx.P ty = some fl) (hx : Ev env g x (.agg l)) (hy : Ev env g y (.agg l')) (hu : valsOf l = some us) (hv : valsOf l' = some vs) (hb : eqCells us vs fl = some b) :
    Yv cx o env S g (.v (.bool (!b))) :=
  Yv.plain fun a w hs hg w' => by
    have e1 := hx.rep hs hg
    have e2 := hy.rep hs hg
    rw [valsOf_spec hu] at e1
    rw [valsOf_spec hv] at e2
    obtain ⟨e3, e4⟩ := run_eqA ht hb w'
    rw [exec_binOp_agg ho e1.vals e2.vals e4, run_neq_struct, e3]
    rfl

/-! ### calls that read some entries and leave them -/
theorem call_keeps {f : FuncId} {xf : Operand} {xs : Array Operand} {ats : Array TypeId} {fst cap : Array Value} {ts : List T} {S1 S2 : St} {R : T → St → Prop} {r : Value} (ho : o.op = .call { callee := .value xf, args := xs, argTypes := ats }) (hf : calleeB cx.P f = true)
    (hxf : Ev env g xf (.v (.func (.func f) fst cap))) (hx : Evs env g xs.toList ts) (hS : S = S1 ++ S2) (hc : g = true → ACalls cx.P f (fst.toList.map T.v ++ (ts ++ cap.toList.map T.v)) S1 R) (hq : ∀ t S', R t S' → t = .v r ∧ S' = S1) {a : Act} {w : World} (hs : Sim cx env S a w) (hgt : g = true) :
    ∃ args, (execOp a.eval o).run cx.P w = .ok (.enter f args) w ∧ Calls cx.P f args w fun e w'' => e = .returned r ∧ Sim cx env S a w'' := by
  subst hS
  refine ⟨_, exec_call ho hf (hxf.val hs hgt) w, ?_⟩
  obtain ⟨e1, e2⟩ := hx.spec hs hgt
  obtain ⟨c1, c2, c3, c4⟩ := hs.forCall
  obtain ⟨v1, v2⟩ := vals_spec (fst := fst.toList) (cap := cap.toList) e1 (fun j t u h1 h2 => c4 t u (e2 j t u h1 h2))
  refine (hc hgt (cx.X ++ M S2) w _ c1 c2 c3 v1 v2).mono ?_
  rintro e w' ⟨v, t, S', rfl, hk, hnd, hfr, hent, hv, hR⟩
  obtain ⟨rfl, rfl⟩ := hq t S' hR
  exact ⟨by rw [hv.v_inv], hs.called hk hnd hfr hent⟩
theorem AWL.callK {f : FuncId} {xf : Operand} {xs : Array Operand} {ats : Array TypeId} {fst cap : Array Value} {ts : List T} {S1 S2 : St} {R : T → St → Prop} {r : Value} (hg : o.guard = none) (hd : o.dst = some d) (hN : d < cx.N)
    (ho : o.op = .call { callee := .value xf, args := xs, argTypes := ats }) (hf : calleeB cx.P f = true) (hxf : Ev env true xf (.v (.func (.func f) fst cap))) (hx : Evs env true xs.toList ts) (hS : S = S1 ++ S2)
    (hc : ACalls cx.P f (fst.toList.map T.v ++ (ts ++ cap.toList.map T.v)) S1 R) (hq : ∀ t S', R t S' → t = .v r ∧ S' = S1) (hr : AWL cx ops l K ((d, true, .v r) :: env) S) : AWL cx ops (o :: l) K env S := by
  intro a w hs
  unfold wpList
  rw [if_pos (wanted_none hg)]
  refine .inl ?_
  unfold Oper.wp
  obtain ⟨args, h1, h2⟩ := call_keeps (g := true) ho hf hxf hx hS (fun _ => hc) hq hs rfl
  rw [h1, Oper.upon_enter, hd]
  refine h2.mono ?_
  rintro e w' ⟨rfl, hk⟩
  exact hr _ _ (hk.put hN (fun _ => .v r) (by simp))
theorem AWL.callKg {f : FuncId} {xf : Operand} {xs : Array Operand} {ats : Array TypeId} {fst cap : Array Value} {ts : List T} {S1 S2 : St} {R : T → St → Prop} {r : Value} {j dj : Nat} {c b want : Bool} (hg : o.guard = some (j, want)) (hj : (ops[j]?).bind (·.dst) = some dj) (hk : get dj env = some (c, .v (.bool b)))
    (hd : o.dst = some d) (hN : d < cx.N) (ho : o.op = .call { callee := .value xf, args := xs, argTypes := ats }) (hf : calleeB cx.P f = true) (hxf : Ev env (c && (b == want)) xf (.v (.func (.func f) fst cap))) (hx : Evs env (c && (b == want)) xs.toList ts) (hS : S = S1 ++ S2)
    (hc : (c && (b == want)) = true → ACalls cx.P f (fst.toList.map T.v ++ (ts ++ cap.toList.map T.v)) S1 R) (hq : ∀ t S', R t S' → t = .v r ∧ S' = S1) (hr : AWL cx ops l K ((d, (c && (b == want)), .v r) :: env) S) : AWL cx ops (o :: l) K env S := by
  intro a w hs
  unfold wpList
  rw [hs.guard hg hj hk]
  cases hcc : (c && (b == want)) with
  | true =>
    rw [if_pos rfl]
    refine .inl ?_
    unfold Oper.wp
    obtain ⟨args, h1, h2⟩ := call_keeps (g := c && (b == want)) ho hf hxf hx hS hc hq hs hcc
    rw [h1, Oper.upon_enter, hd]
    refine h2.mono ?_
    rintro e w' ⟨rfl, hk⟩
    exact hr _ _ (hk.put hN (fun _ => .v r) (fun e => by rw [hcc] at e; cases e))
  | false =>
    rw [if_neg (by simp), hd]
    exact hr _ _ (hs.put hN (fun e => by rw [hcc] at e; cases e) (fun _ => rfl))
theorem AWL.callKgT {f : FuncId} {xf : Operand} {xs : Array Operand} {ats : Array TypeId} {fst cap : Array Value} {ts : List T} {S1 S2 : St} {R : T → St → Prop} {r : Value} {j dj : Nat} {c b : Bool} (hg : o.guard = some (j, true)) (hj : (ops[j]?).bind (·.dst) = some dj) (hk : get dj env = some (c, .v (.bool b)))
    (hd : o.dst = some d) (hN : d < cx.N) (ho : o.op = .call { callee := .value xf, args := xs, argTypes := ats }) (hf : calleeB cx.P f = true) (hxf : Ev env (c && b) xf (.v (.func (.func f) fst cap))) (hx : Evs env (c && b) xs.toList ts) (hS : S = S1 ++ S2)
    (hc : (c && b) = true → ACalls cx.P f (fst.toList.map T.v ++ (ts ++ cap.toList.map T.v)) S1 R) (hq : ∀ t S', R t S' → t = .v r ∧ S' = S1) (hr : AWL cx ops l K ((d, (c && b), .v r) :: env) S) : AWL cx ops (o :: l) K env S := by
  have e : (c && (b == true)) = (c && b) := by cases b <;> rfl
  exact AWL.callKg hg hj hk hd hN ho hf (e ▸ hxf) (e ▸ hx) hS (fun h => hc (e ▸ h)) hq (e ▸ hr)
theorem AWL.callKgF {f : FuncId} {xf : Operand} {xs : Array Operand} {ats : Array TypeId} {fst cap : Array Value} {ts : List T} {S1 S2 : St} {R : T → St → Prop} {r : Value} {j dj : Nat} {c b : Bool} (hg : o.guard = some (j, false)) (hj : (ops[j]?).bind (·.dst) = some dj) (hk : get dj env = some (c, .v (.bool b)))
    (hd : o.dst = some d) (hN : d < cx.N) (ho : o.op = .call { callee := .value xf, args := xs, argTypes := ats }) (hf : calleeB cx.P f = true) (hxf : Ev env (c && !b) xf (.v (.func (.func f) fst cap))) (hx : Evs env (c && !b) xs.toList ts) (hS : S = S1 ++ S2)
    (hc : (c && !b) = true → ACalls cx.P f (fst.toList.map T.v ++ (ts ++ cap.toList.map T.v)) S1 R) (hq : ∀ t S', R t S' → t = .v r ∧ S' = S1) (hr : AWL cx ops l K ((d, (c && !b), .v r) :: env) S) : AWL cx ops (o :: l) K env S := by
  have e : (c && (b == false)) = (c && !b) := by cases b <;> rfl
  exact AWL.callKg hg hj hk hd hN ho hf (e ▸ hxf) (e ▸ hx) hS (fun h => hc (e ▸ h)) hq (e ▸ hr)
end
end Go.Proofs.YtjndpakhmgapjaaDoor

namespace Go.Proofs.YtjndpakhmgapjaaDoor
open Go Go.RowKit
set_option linter.unusedVariables false
set_option linter.unusedSectionVars false

section
variable {cx : Cx} {env : Env} {S : St} {o : Oper} {g : Bool} {x y z : Operand} {ops : Array Oper} {l : List Oper} {K : Env → St → Prop} {Q : Exit → Env → St → Prop} {d : Nat} {Hd : World → Prop}

/-- The box holds these values. -/
def HeldBox (b : Nat) (us : List Value) (w : World) : Prop := ∃ ty, w.heap[b]? = some (.cells us.toArray ty (0, 0))
def Tells (cx : Cx) (Hd : World → Prop) (env : Env) (S : St) : Prop := ∀ a w, Sim cx env S a w → Hd w
/-- What is left of a region that draws its order, where Hd holds behind each operation. -/
def AWH (cx : Cx) (ops : Array Oper) (Hd : World → Prop) (fuel : Nat) (listed : Array Bool) (K : Env → St → Prop) (env : Env) (S : St) : Prop :=
  ∀ a w, Sim cx env S a w → Hd w → wpAnyH cx.P .any ops (liftN cx K) Hd fuel listed a w

theorem tells_box {b : Nat} {ty : TypeId} {us : List Value} {k : Nat} (hi : S[k]? = some (.box b ty (us.map T.v))) : Tells cx (HeldBox b us) env S := by
  intro a w hs
  obtain ⟨vs, hh, hV⟩ := hs.box hi
  have e : vs = us := by
    have e1 := hV.len
    apply List.ext_getElem?
    intro j
    cases hj : us[j]? with
    | none =>
      rw [List.getElem?_eq_none_iff] at hj
      rw [List.getElem?_eq_none]
      rw [List.length_map] at e1; omega
    | some u =>
      obtain ⟨u', h1, h2, _⟩ := hV.get (i := j) (t := .v u) (by rw [List.getElem?_map, hj]; rfl)
      rw [h1, h2.v_inv]
  exact ⟨ty, by rw [hh, e]⟩

theorem AW.rseqH (Hd : World → Prop) {id : Nat} {l : List Oper} {y : Code} (hm : cx.P.follows .mixedOrders = true) (ht : Tells cx Hd env S) (h : AWH cx l.toArray Hd l.length (Array.replicate l.length false) (AW cx y Q) env S) : AW cx (.seq (.region id l.toArray true) y) Q env S := by
  refine AW.seq fun a w hs => ?_
  have h1 := wp_region_held (id := id) hm (h a _ hs.drew (ht _ _ hs.drew))
  refine Code.wp_mono (fun e a w hq => ?_) h1
  obtain ⟨rfl, env', S', h1, h2⟩ := hq
  exact ⟨env', S', h1, h2⟩
theorem AW.regionH (Hd : World → Prop) {id : Nat} {l : List Oper} (hm : cx.P.follows .mixedOrders = true) (ht : Tells cx Hd env S) (h : AWH cx l.toArray Hd l.length (Array.replicate l.length false) (Q .normal) env S) : AW cx (.region id l.toArray true) Q env S := by
  intro a w hs
  have h1 := wp_region_held (id := id) hm (h a _ hs.drew (ht _ _ hs.drew))
  refine Code.wp_mono (fun e a w hq => ?_) h1
  obtain ⟨rfl, env', S', h1, h2⟩ := hq
  exact ⟨env', S', h1, h2⟩
theorem AWH.done {fuel : Nat} {listed : Array Bool} (hr : Region.ready .any ops listed = []) (h : K env S) : AWH cx ops Hd fuel listed K env S :=
  fun a w hs _ => wpAnyH_done hr ⟨rfl, env, S, hs, h⟩ fuel
theorem AWH.one {fuel i : Nat} {listed : Array Bool} (hr : Region.ready .any ops listed = [i]) (hi : ops[i]? = some o) (h : AWL cx ops [o] (fun env S => Tells cx Hd env S ∧ AWH cx ops Hd fuel (listed.setIfInBounds i true) K env S) env S) : AWH cx ops Hd (fuel + 1) listed K env S := by
  intro a w hs hd
  refine wpAnyH_all hr (by simp) fun j hj => ?_
  rw [List.mem_singleton] at hj
  subst hj
  exact wpOp_of_AWL hi h (fun _ _ a w h1 h2 => ⟨h1.1 a w h2, h1.2 a w h2 (h1.1 a w h2)⟩) hs
theorem AWH.two {fuel i j : Nat} {o' : Oper} {listed : Array Bool} (hr : Region.ready .any ops listed = [i, j]) (hi : ops[i]? = some o) (hj : ops[j]? = some o') (h : AWL cx ops [o] (fun env S => Tells cx Hd env S ∧ AWH cx ops Hd fuel (listed.setIfInBounds i true) K env S) env S) (h' : AWL cx ops [o'] (fun env S => Tells cx Hd env S ∧ AWH cx ops Hd fuel (listed.setIfInBounds j true) K env S) env S) : AWH cx ops Hd (fuel + 1) listed K env S := by
  intro a w hs hd
  refine wpAnyH_all hr (by simp) fun q hq => ?_
  simp only [List.mem_cons, List.not_mem_nil, or_false] at hq
  rcases hq with rfl | rfl
  · exact wpOp_of_AWL hi h (fun _ _ a w h1 h2 => ⟨h1.1 a w h2, h1.2 a w h2 (h1.1 a w h2)⟩) hs
  · exact wpOp_of_AWL hj h' (fun _ _ a w h1 h2 => ⟨h1.1 a w h2, h1.2 a w h2 (h1.1 a w h2)⟩) hs
theorem AWH.three {fuel i j k : Nat} {o' o'' : Oper} {listed : Array Bool} (hr : Region.ready .any ops listed = [i, j, k]) (hi : ops[i]? = some o) (hj : ops[j]? = some o') (hk : ops[k]? = some o'') (h : AWL cx ops [o] (fun env S => Tells cx Hd env S ∧ AWH cx ops Hd fuel (listed.setIfInBounds i true) K env S) env S) (h' : AWL cx ops [o'] (fun env S => Tells cx Hd env S ∧ AWH cx ops Hd fuel (listed.setIfInBounds j true) K env S) env S) (h'' : AWL cx ops [o''] (fun env S => Tells cx Hd env S ∧ AWH cx ops Hd fuel (listed.setIfInBounds k true) K env S) env S) : AWH cx ops Hd (fuel + 1) listed K env S := by
  intro a w hs hd
  refine wpAnyH_all hr (by simp) fun q hq => ?_
  simp only [List.mem_cons, List.not_mem_nil, or_false] at hq
  rcases hq with rfl | rfl | rfl
  · exact wpOp_of_AWL hi h (fun _ _ a w h1 h2 => ⟨h1.1 a w h2, h1.2 a w h2 (h1.1 a w h2)⟩) hs
  · exact wpOp_of_AWL hj h' (fun _ _ a w h1 h2 => ⟨h1.1 a w h2, h1.2 a w h2 (h1.1 a w h2)⟩) hs
  · exact wpOp_of_AWL hk h'' (fun _ _ a w h1 h2 => ⟨h1.1 a w h2, h1.2 a w h2 (h1.1 a w h2)⟩) hs
/-- An operation that yields its value in whatever world meets Hd may be taken first. -/
theorem AWH.take {fuel i : Nat} {listed : Array Bool} {t : T} (hi : ops[i]? = some o) (hs : Region.noSelect ops = true) (hf : Region.free .any ops listed i = true) (hr : (Region.ready .any ops listed).contains i = true) (hg : o.guard = none) (hd : o.dst = some d) (hN : d < cx.N)
    (hy : ∀ a w, Sim cx env S a w → ∃ u, VRep w (cx.X ++ M S) t u ∧ ∀ w', Hd w' → (execOp a.eval o).run cx.P w' = .ok (.value u) w') (h : AWH cx ops Hd fuel (listed.setIfInBounds i true) K ((d, true, t) :: env) S) : AWH cx ops Hd (fuel + 1) listed K env S := by
  intro a w hsim hdw
  obtain ⟨u, h1, h2⟩ := hy a w hsim
  refine wpAnyH_take (v := u) hi hs hf hr (fun c a w hq => absurd hq.1 (by simp)) (.inl ⟨wanted_none hg, h2⟩) hdw ?_
  rw [hd]
  exact h _ _ (hsim.put hN (fun _ => h1) (by simp)) hdw
theorem heldAll {t : T} (h : ∀ a w, Sim cx env S a w → ∃ u, VRep w (cx.X ++ M S) t u ∧ ∀ w', (execOp a.eval o).run cx.P w' = .ok (.value u) w') : ∀ a w, Sim cx env S a w → ∃ u, VRep w (cx.X ++ M S) t u ∧ ∀ w', Hd w' → (execOp a.eval o).run cx.P w' = .ok (.value u) w' :=
  fun a w hs => (h a w hs).imp fun u q => ⟨q.1, fun w' _ => q.2 w'⟩
theorem heldLoad {b p n : Nat} {t : TypeId} {us : List Value} {u : Value} (ho : o.op = .load t x) (h : aggSize cx.P t = some (false, n)) (hx : Ev env true x (.v (.pointer (some ⟨b, p, none⟩)))) (hu : us[p]? = some u) : ∀ a w, Sim cx env S a w → ∃ u', VRep w (cx.X ++ M S) (.v u) u' ∧ ∀ w', HeldBox b us w' → (execOp a.eval o).run cx.P w' = .ok (.value u') w' := by
  intro a w hs
  have hv := hx.val hs rfl
  refine ⟨u, (.v _), fun w' hd => exec_load ho w' ?_⟩
  obtain ⟨ty, hh⟩ := hd
  rw [hv]
  exact run_loadAt_one h w' (by rw [cell_of_heap hh, hu])
theorem freeLen {ty e : TypeId} {k n : Nat} {l : List T} (ho : o.op = .call { callee := .builtin .len, args := #[x], argTypes := #[ty] }) (ht : sliceOf cx.P ty = some e) (hk : 0 < k) (hx : Ev env true x (.sl k l)) (hn : l.length = n * k) : ∀ a w, Sim cx env S a w → ∃ u, VRep w (cx.X ++ M S) (.v (.int .i64 (n : Int))) u ∧ ∀ w', (execOp a.eval o).run cx.P w' = .ok (.value u) w' :=
  fun a w hs => ⟨_, .v _, fun w' => by
    obtain ⟨A, m, c, h1, h2, _⟩ := (hx.rep hs rfl).sl_inv
    have : m = n := Nat.eq_of_mul_eq_mul_right hk (h2.symm.trans hn)
    subst this
    exact run_len_slice' ho (sliceOf_spec ht) h1 w'⟩
/-- A scope that no goto leaves. -/
def scopeQ (Q : Exit → Env → St → Prop) : Exit → Env → St → Prop
  | .goto _, _, _ => False
  | e, env, S => Q e env S
theorem AW.scope {c : Code} (h : AW cx c (scopeQ Q) env S) : AW cx (.scope c) Q env S := by
  intro a w hs
  refine wp_scope_straight (Code.wp_mono (fun e a w hq => ?_) (h a w hs))
  obtain ⟨env', S', h1, h2⟩ := hq
  cases e <;> first | exact h2 | exact ⟨env', S', h1, h2⟩
end
end Go.Proofs.YtjndpakhmgapjaaDoor

namespace Go.Proofs.YtjndpakhmgapjaaDoor
open Go
theorem ag_2 : aggSize Tryd.prog 2 = some (false, 1) := by kernel_rfl
theorem ag_23 : aggSize Tryd.prog 23 = some (true, 6) := by kernel_rfl
theorem ag_24 : aggSize Tryd.prog 24 = some (false, 1) := by kernel_rfl
theorem ag_3 : aggSize Tryd.prog 3 = some (false, 1) := by kernel_rfl
theorem ag_4 : aggSize Tryd.prog 4 = some (false, 1) := by kernel_rfl
theorem ag_43 : aggSize Tryd.prog 43 = some (false, 1) := by kernel_rfl
theorem ag_45 : aggSize Tryd.prog 45 = some (true, 12) := by kernel_rfl
theorem ag_5 : aggSize Tryd.prog 5 = some (false, 1) := by kernel_rfl
theorem ag_87 : aggSize Tryd.prog 87 = some (true, 3) := by kernel_rfl
theorem ag_9 : aggSize Tryd.prog 9 = some (false, 1) := by kernel_rfl
theorem bo_4 : isBoolB Tryd.prog 4 = true := by kernel_rfl
theorem by_24 : isBytes Tryd.prog 24 = true := by kernel_rfl
theorem ce_10 : calleeB Tryd.prog 10 = true := by kernel_rfl
theorem ce_11 : calleeB Tryd.prog 11 = true := by kernel_rfl
theorem ce_12 : calleeB Tryd.prog 12 = true := by kernel_rfl
theorem ce_13 : calleeB Tryd.prog 13 = true := by kernel_rfl
theorem ce_14 : calleeB Tryd.prog 14 = true := by kernel_rfl
theorem ce_15 : calleeB Tryd.prog 15 = true := by kernel_rfl
theorem ce_16 : calleeB Tryd.prog 16 = true := by kernel_rfl
theorem ce_17 : calleeB Tryd.prog 17 = true := by kernel_rfl
theorem ce_23 : calleeB Tryd.prog 23 = true := by kernel_rfl
theorem ce_24 : calleeB Tryd.prog 24 = true := by kernel_rfl
theorem ce_25 : calleeB Tryd.prog 25 = true := by kernel_rfl
theorem ce_26 : calleeB Tryd.prog 26 = true := by kernel_rfl
theorem ce_27 : calleeB Tryd.prog 27 = true := by kernel_rfl
theorem ce_28 : calleeB Tryd.prog 28 = true := by kernel_rfl
theorem ce_29 : calleeB Tryd.prog 29 = true := by kernel_rfl
theorem ce_30 : calleeB Tryd.prog 30 = true := by kernel_rfl
theorem ce_31 : calleeB Tryd.prog 31 = true := by kernel_rfl
theorem ce_32 : calleeB Tryd.prog 32 = true := by kernel_rfl
theorem ce_33 : calleeB Tryd.prog 33 = true := by kernel_rfl
theorem ce_34 : calleeB Tryd.prog 34 = true := by kernel_rfl
theorem ce_35 : calleeB Tryd.prog 35 = true := by kernel_rfl
theorem ce_36 : calleeB Tryd.prog 36 = true := by kernel_rfl
theorem ce_37 : calleeB Tryd.prog 37 = true := by kernel_rfl
theorem ce_38 : calleeB Tryd.prog 38 = true := by kernel_rfl
theorem ce_39 : calleeB Tryd.prog 39 = true := by kernel_rfl
theorem ce_40 : calleeB Tryd.prog 40 = true := by kernel_rfl
theorem ce_41 : calleeB Tryd.prog 41 = true := by kernel_rfl
theorem ce_42 : calleeB Tryd.prog 42 = true := by kernel_rfl
theorem ce_43 : calleeB Tryd.prog 43 = true := by kernel_rfl
theorem ce_44 : calleeB Tryd.prog 44 = true := by kernel_rfl
theorem ce_48 : calleeB Tryd.prog 48 = true := by kernel_rfl
theorem ce_49 : calleeB Tryd.prog 49 = true := by kernel_rfl
theorem ce_50 : calleeB Tryd.prog 50 = true := by kernel_rfl
theorem ce_51 : calleeB Tryd.prog 51 = true := by kernel_rfl
theorem ce_52 : calleeB Tryd.prog 52 = true := by kernel_rfl
theorem ce_53 : calleeB Tryd.prog 53 = true := by kernel_rfl
theorem ce_54 : calleeB Tryd.prog 54 = true := by kernel_rfl
theorem ce_55 : calleeB Tryd.prog 55 = true := by kernel_rfl
theorem ce_56 : calleeB Tryd.prog 56 = true := by kernel_rfl
theorem ce_57 : calleeB Tryd.prog 57 = true := by kernel_rfl
theorem ce_58 : calleeB Tryd.prog 58 = true := by kernel_rfl
theorem ce_59 : calleeB Tryd.prog 59 = true := by kernel_rfl
theorem ce_60 : calleeB Tryd.prog 60 = true := by kernel_rfl
theorem ce_61 : calleeB Tryd.prog 61 = true := by kernel_rfl
theorem ce_62 : calleeB Tryd.prog 62 = true := by kernel_rfl
theorem ce_63 : calleeB Tryd.prog 63 = true := by kernel_rfl
theorem ce_66 : calleeB Tryd.prog 66 = true := by kernel_rfl
theorem ce_67 : calleeB Tryd.prog 67 = true := by kernel_rfl
theorem ce_68 : calleeB Tryd.prog 68 = true := by kernel_rfl
theorem ce_72 : calleeB Tryd.prog 72 = true := by kernel_rfl
theorem ce_73 : calleeB Tryd.prog 73 = true := by kernel_rfl
theorem ce_74 : calleeB Tryd.prog 74 = true := by kernel_rfl
theorem ce_75 : calleeB Tryd.prog 75 = true := by kernel_rfl
theorem ce_76 : calleeB Tryd.prog 76 = true := by kernel_rfl
theorem ce_77 : calleeB Tryd.prog 77 = true := by kernel_rfl
theorem ce_78 : calleeB Tryd.prog 78 = true := by kernel_rfl
theorem el_24 : elemOf Tryd.prog 24 = some (5, 1, 1, [.int .u8 0]) := by kernel_rfl
theorem el_41 : elemOf Tryd.prog 41 = some (45, 12, 112, [.int .i64 0, .int .i64 0, .int .i64 0, .bool false, .int .i64 0, .slice none 0 0, .int .i64 0, .int .i64 0, .int .i64 0, .int .i64 0, .int .i64 0, .int .i64 0]) := by kernel_rfl
theorem el_43 : elemOf Tryd.prog 43 = some (3, 1, 8, [.int .i64 0]) := by kernel_rfl
theorem el_81 : elemOf Tryd.prog 81 = some (9, 1, 16, [.string ⟨#[]⟩]) := by kernel_rfl
theorem fl_23 : flatOf Tryd.prog 23 = some [(0, .i), (1, .i), (2, .i), (3, .i), (4, .i), (5, .i)] := by kernel_rfl
theorem fo_23_0 : fieldOff Tryd.prog 23 0 = some 0 := by kernel_rfl
theorem fo_23_1 : fieldOff Tryd.prog 23 1 = some 1 := by kernel_rfl
theorem fo_23_2 : fieldOff Tryd.prog 23 2 = some 2 := by kernel_rfl
theorem fo_23_3 : fieldOff Tryd.prog 23 3 = some 3 := by kernel_rfl
theorem fo_23_4 : fieldOff Tryd.prog 23 4 = some 4 := by kernel_rfl
theorem fo_23_5 : fieldOff Tryd.prog 23 5 = some 5 := by kernel_rfl
theorem fo_45_0 : fieldOff Tryd.prog 45 0 = some 0 := by kernel_rfl
theorem fo_45_1 : fieldOff Tryd.prog 45 1 = some 1 := by kernel_rfl
theorem fo_45_10 : fieldOff Tryd.prog 45 10 = some 10 := by kernel_rfl
theorem fo_45_11 : fieldOff Tryd.prog 45 11 = some 11 := by kernel_rfl
theorem fo_45_2 : fieldOff Tryd.prog 45 2 = some 2 := by kernel_rfl
theorem fo_45_3 : fieldOff Tryd.prog 45 3 = some 3 := by kernel_rfl
theorem fo_45_4 : fieldOff Tryd.prog 45 4 = some 4 := by kernel_rfl
theorem fo_45_5 : fieldOff Tryd.prog 45 5 = some 5 := by kernel_rfl
theorem fo_45_6 : fieldOff Tryd.prog 45 6 = some 6 := by kernel_rfl
theorem fo_45_7 : fieldOff Tryd.prog 45 7 = some 7 := by kernel_rfl
theorem fo_45_8 : fieldOff Tryd.prog 45 8 = some 8 := by kernel_rfl
theorem fo_45_9 : fieldOff Tryd.prog 45 9 = some 9 := by kernel_rfl
theorem fo_49_0 : fieldOff Tryd.prog 49 0 = some 0 := by kernel_rfl
theorem fo_68_0 : fieldOff Tryd.prog 68 0 = some 0 := by kernel_rfl
theorem fo_68_1 : fieldOff Tryd.prog 68 1 = some 1 := by kernel_rfl
theorem fo_68_2 : fieldOff Tryd.prog 68 2 = some 2 := by kernel_rfl
theorem fo_68_3 : fieldOff Tryd.prog 68 3 = some 3 := by kernel_rfl
theorem fo_87_0 : fieldOff Tryd.prog 87 0 = some 0 := by kernel_rfl
theorem fo_87_1 : fieldOff Tryd.prog 87 1 = some 1 := by kernel_rfl
theorem fo_87_2 : fieldOff Tryd.prog 87 2 = some 2 := by kernel_rfl
theorem kd_2 : kindOf Tryd.prog 2 = some .i64 := by kernel_rfl
theorem kd_3 : kindOf Tryd.prog 3 = some .i64 := by kernel_rfl
theorem kd_5 : kindOf Tryd.prog 5 = some .u8 := by kernel_rfl
theorem kd_78 : kindOf Tryd.prog 78 = some .u64 := by kernel_rfl
theorem sh_23 : structShape Tryd.prog 23 = some ([.int .i64 0, .int .i64 0, .int .i64 0, .int .i64 0, .int .i64 0, .int .i64 0], [(0, 1), (1, 1), (2, 1), (3, 1), (4, 1), (5, 1)]) := by kernel_rfl
theorem sh_45 : structShape Tryd.prog 45 = some ([.int .i64 0, .int .i64 0, .int .i64 0, .bool false, .int .i64 0, .slice none 0 0, .int .i64 0, .int .i64 0, .int .i64 0, .int .i64 0, .int .i64 0, .int .i64 0], [(0, 1), (1, 1), (2, 1), (3, 1), (4, 1), (5, 1), (6, 1), (7, 1), (8, 1), (9, 1), (10, 1), (11, 1)]) := by kernel_rfl
theorem sh_49 : structShape Tryd.prog 49 = some ([.slice none 0 0], [(0, 1)]) := by kernel_rfl
theorem sh_68 : structShape Tryd.prog 68 = some ([.slice none 0 0, .int .i64 0, .bool false, .bool false], [(0, 1), (1, 1), (2, 1), (3, 1)]) := by kernel_rfl
theorem sh_87 : structShape Tryd.prog 87 = some ([.int .i64 0, .int .i64 0, .int .i64 0], [(0, 1), (1, 1), (2, 1)]) := by kernel_rfl
theorem so_24 : sliceOf Tryd.prog 24 = some 5 := by kernel_rfl
theorem so_36 : sliceOf Tryd.prog 36 = some 23 := by kernel_rfl
theorem so_41 : sliceOf Tryd.prog 41 = some 45 := by kernel_rfl
theorem so_43 : sliceOf Tryd.prog 43 = some 3 := by kernel_rfl
theorem ss_24 : sliceSz Tryd.prog 24 = some (5, 1) := by kernel_rfl
theorem ss_36 : sliceSz Tryd.prog 36 = some (23, 6) := by kernel_rfl
theorem ss_41 : sliceSz Tryd.prog 41 = some (45, 12) := by kernel_rfl
theorem ss_43 : sliceSz Tryd.prog 43 = some (3, 1) := by kernel_rfl
theorem ss_81 : sliceSz Tryd.prog 81 = some (9, 1) := by kernel_rfl
theorem st_9 : isStr Tryd.prog 9 = true := by kernel_rfl
theorem zc_23 : zeroCellsOf Tryd.prog 23 = some [.int .i64 0, .int .i64 0, .int .i64 0, .int .i64 0, .int .i64 0, .int .i64 0] := by kernel_rfl
theorem zc_3 : zeroCellsOf Tryd.prog 3 = some [.int .i64 0] := by kernel_rfl
theorem zc_45 : zeroCellsOf Tryd.prog 45 = some [.int .i64 0, .int .i64 0, .int .i64 0, .bool false, .int .i64 0, .slice none 0 0, .int .i64 0, .int .i64 0, .int .i64 0, .int .i64 0, .int .i64 0, .int .i64 0] := by kernel_rfl
theorem zc_87 : zeroCellsOf Tryd.prog 87 = some [.int .i64 0, .int .i64 0, .int .i64 0] := by kernel_rfl
theorem zc_9 : zeroCellsOf Tryd.prog 9 = some [.string ⟨#[]⟩] := by kernel_rfl
end Go.Proofs.YtjndpakhmgapjaaDoor

namespace Go.Proofs.YtjndpakhmgapjaaDoor
open Go Go.RowKit
set_option linter.unusedSimpArgs false
theorem len_u8s {bs : List UInt8} : (bs.map u8).length = bs.length * 1 := by simp
theorem u8_at {bs : List UInt8} {j : Nat} {b : UInt8} (h : bs[j]? = some b) : (bs.map u8)[j * 1]? = some (u8 b) := by simp [h]
theorem u8_get {bs : List UInt8} {j : Nat} (h : j < bs.length) : (bs.map u8)[j * 1]? = some (u8 (bs.getD j 0)) := by simp [h]
theorem getD_eq {bs : List UInt8} {j : Nat} (h : j < bs.length) : bs.getD j 0 = bs[j] := by simp [h]
theorem u8_toNat (b : UInt8) : (0 : Int) ≤ b.toNat ∧ (b.toNat : Int) ≤ 255 := by have := b.toNat_lt; omega

/-- A number, the lowest byte first. -/
def leNum : List UInt8 → Int
  | [] => 0
  | b :: r => (b.toNat : Int) + 256 * leNum r
theorem leNum_nonneg : ∀ l, 0 ≤ leNum l
  | [] => Int.le_refl _
  | b :: r => by have := leNum_nonneg r; simp only [leNum]; omega
theorem leNum_lt : ∀ l, leNum l < 256 ^ l.length
  | [] => by simp [leNum]
  | b :: r => by
    have h1 := leNum_lt r
    have h2 := u8_toNat b
    simp only [leNum, List.length_cons, Int.pow_succ]
    omega
/-- So many bytes of a number, the lowest first. -/
def leBytes : Nat → Int → List UInt8
  | 0, _ => []
  | k + 1, x => UInt8.ofNat (x % 256).toNat :: leBytes k (x / 256)
theorem leBytes_length : ∀ k x, (leBytes k x).length = k
  | 0, _ => rfl
  | k + 1, x => by simp [leBytes, leBytes_length k]
theorem leBytes_succ : ∀ k x, leBytes (k + 1) x = leBytes k x ++ [UInt8.ofNat (x / 256 ^ k % 256).toNat]
  | 0, x => by simp [leBytes]
  | k + 1, x => by
    rw [leBytes, leBytes_succ k (x / 256)]
    simp only [leBytes, List.cons_append, Int.pow_succ]
    congr 5
    rw [Int.ediv_ediv_of_nonneg (by decide), Int.mul_comm]
theorem u8_wrap (p : Int) : T.v (.int .u8 (IntKind.u8.wrap p)) = u8 (UInt8.ofNat (p % 256).toNat) := by
  unfold u8
  have h : (0 : Int) ≤ p % 256 ∧ p % 256 < 256 := ⟨Int.emod_nonneg _ (by decide), Int.emod_lt_of_pos _ (by decide)⟩
  have h1 : (UInt8.ofNat (p % 256).toNat).toNat = (p % 256).toNat := by
    rw [UInt8.toNat_ofNat']
    omega
  rw [h1, IntKind.wrap_u8]
  congr 2
  omega
theorem div_succ (x : Int) (j : Nat) : x / 256 ^ (j + 1) = x / 256 ^ j / 256 := by
  rw [Int.pow_succ, Int.ediv_ediv_of_nonneg (Int.pow_nonneg (by decide))]
theorem div_range {m : Int} (x : Int) (j : Nat) (h0 : 0 ≤ x) (h1 : x ≤ m) : 0 ≤ x / 256 ^ j ∧ x / 256 ^ j ≤ m := by
  have h2 : x / 256 ^ j ≤ x := Int.ediv_le_self _ h0
  have h3 : 0 ≤ x / 256 ^ j := Int.ediv_nonneg h0 (Int.pow_nonneg (by decide))
  omega
theorem size_j31 (j : Nat) (h : j ≤ 2) : (0 < (65535 : Int) / 256 ^ j → j + 1 ≤ 2) ∧ (65535 : Int) / 256 ^ j / 256 = 65535 / 256 ^ (j + 1) ∧ (¬ 0 < (65535 : Int) / 256 ^ j → j = 2) := by
  rcases j with _ | _ | _ | j <;> first | decide | omega
theorem size_j30 (j : Nat) (h : j ≤ 4) : (0 < (4294967295 : Int) / 256 ^ j → j + 1 ≤ 4) ∧ (4294967295 : Int) / 256 ^ j / 256 = 4294967295 / 256 ^ (j + 1) ∧ (¬ 0 < (4294967295 : Int) / 256 ^ j → j = 4) := by
  rcases j with _ | _ | _ | _ | _ | j <;> first | decide | omega
theorem size_j32 (j : Nat) (h : j ≤ 8) : (0 < (18446744073709551615 : Int) / 256 ^ j → j + 1 ≤ 8) ∧ (18446744073709551615 : Int) / 256 ^ j / 256 = 18446744073709551615 / 256 ^ (j + 1) ∧ (¬ 0 < (18446744073709551615 : Int) / 256 ^ j → j = 8) := by
  rcases j with _ | _ | _ | _ | _ | _ | _ | _ | _ | j <;> first | decide | omega
theorem take_range (bs : List UInt8) (s j : Nat) : 0 ≤ leNum ((bs.drop s).take j) ∧ leNum ((bs.drop s).take j) < 256 ^ j := by
  refine ⟨leNum_nonneg _, Int.lt_of_lt_of_le (leNum_lt _) ?_⟩
  have h : ((bs.drop s).take j).length ≤ j := List.length_take_le _ _
  have h2 := Nat.pow_le_pow_right (n := 256) (by decide) h
  have e : ∀ n : Nat, (256 : Int) ^ n = ((256 ^ n : Nat) : Int) := fun n => by rw [Int.natCast_pow]; rfl
  rw [e, e]
  exact Int.ofNat_le.2 h2
theorem leNum_step (bs : List UInt8) (s j : Nat) (h : s < bs.length) : leNum ((bs.drop s).take (j + 1)) = leNum ((bs.drop (s + 1)).take j) * 256 + bs[s].toNat := by
  rw [List.drop_eq_getElem_cons h, List.take_succ_cons, leNum]
  omega
theorem or_u64 (n : Int) (b : UInt8) (h0 : 0 ≤ n) (h1 : n < 72057594037927936) : bitsOf .or .u64 (n * 256) b.toNat = n * 256 + b.toNat := by
  obtain ⟨p, rfl⟩ := Int.eq_ofNat_of_zero_le h0
  have hb := b.toNat_lt
  have h3 : p * 256 + b.toNat < 18446744073709551616 := by omega
  have h4 : (((p * 256 + b.toNat : Nat) : Int)) ≤ 18446744073709551615 := by omega
  have h := bits_or_add (k := .u64) (m := 8) (D := 256) (Bd := 18446744073709551616) p b.toNat rfl (by decide) hb h3 (IntWalk.u64_in _ ⟨Int.natCast_nonneg _, h4⟩)
  rw [Int.natCast_mul, Int.natCast_add, Int.natCast_mul] at h
  exact h
theorem pow_le (j : Nat) (hj : j ≤ 7) : (256 : Int) ^ j ≤ 72057594037927936 := by
  rcases j with _ | _ | _ | _ | _ | _ | _ | _ | j <;> first | decide | omega
theorem take_step (bs : List UInt8) (a : Int) (n j : Nat) (hj : j < n) (h : a.toNat + (n - 1 - j) < bs.length) :
    leNum ((bs.drop (a.toNat + (n - (j + 1)))).take (j + 1)) = leNum ((bs.drop (a.toNat + (n - j))).take j) * 256 + (bs.getD (a.toNat + (n - 1 - j)) 0).toNat := by
  rw [getD_eq h]
  have e1 : a.toNat + (n - (j + 1)) = a.toNat + (n - 1 - j) := by omega
  have e2 : a.toNat + (n - j) = a.toNat + (n - 1 - j) + 1 := by omega
  rw [e1, e2]
  exact leNum_step bs _ j h
/-- The number of n bytes at a place. -/
def num (bs : List UInt8) (a : Int) (n : Nat) : Int := leNum ((bs.drop a.toNat).take n)
theorem num_range (bs : List UInt8) (a : Int) (n : Nat) : 0 ≤ num bs a n ∧ num bs a n < 256 ^ n := take_range bs a.toNat n
theorem num2 (bs : List UInt8) (a : Int) : 0 ≤ num bs a 2 ∧ num bs a 2 ≤ 65535 := by have := num_range bs a 2; omega
theorem num4 (bs : List UInt8) (a : Int) : 0 ≤ num bs a 4 ∧ num bs a 4 ≤ 4294967295 := by have := num_range bs a 4; omega
theorem num8 (bs : List UInt8) (a : Int) : 0 ≤ num bs a 8 ∧ num bs a 8 ≤ 18446744073709551615 := by have := num_range bs a 8; omega
theorem u8_emod (p : Int) : T.v (.int .u8 (p % 256)) = u8 (UInt8.ofNat (p % 256).toNat) := by
  unfold u8
  have h : (0 : Int) ≤ p % 256 ∧ p % 256 < 256 := ⟨Int.emod_nonneg _ (by decide), Int.emod_lt_of_pos _ (by decide)⟩
  have h1 : (UInt8.ofNat (p % 256).toNat).toNat = (p % 256).toNat := by
    rw [UInt8.toNat_ofNat']
    omega
  rw [h1]
  congr 2
  omega
end Go.Proofs.YtjndpakhmgapjaaDoor

namespace Go.Proofs.YtjndpakhmgapjaaDoor
open Go Go.RowKit
set_option linter.unusedSimpArgs false
set_option linter.unusedVariables false
section
variable {cx : Cx} {env : Env} {S : St} {o : Oper} {ops : Array Oper} {l : List Oper} {K : Env → St → Prop} {d : Nat} {Hd : World → Prop}
theorem AWH.tk {fuel i : Nat} {listed : Array Bool} {t : T} (hi : ops[i]? = some o) (hg : o.guard = none) (hd : o.dst = some d) (hN : d < cx.N)
    (hy : ∀ a w, Sim cx env S a w → ∃ u, VRep w (cx.X ++ M S) t u ∧ ∀ w', Hd w' → (execOp a.eval o).run cx.P w' = .ok (.value u) w') (h : AWH cx ops Hd fuel (listed.setIfInBounds i true) K ((d, true, t) :: env) S)
    (hs : Region.noSelect ops = true := by kernel_rfl) (hf : Region.free .any ops listed i = true := by kernel_rfl) (hr : (Region.ready .any ops listed).contains i = true := by kernel_rfl) : AWH cx ops Hd (fuel + 1) listed K env S := AWH.take hi hs hf hr hg hd hN hy h
theorem tb {b : Nat} {ty : TypeId} {us : List Value} {K : Env → St → Prop} (k : Nat) (hi : S[k]? = some (.box b ty (us.map T.v))) (h : K env S) : AWL cx ops [] (fun env S => Tells cx (HeldBox b us) env S ∧ K env S) env S := AWL.nil ⟨tells_box hi, h⟩
end
structure Ins where
  kind : Int
  d : Int
  s : Int
  cond : Int
  size : Int
  imm : Int
  deriving Inhabited, DecidableEq
def insVals (i : Ins) : List Value := [.int .i64 i.kind, .int .i64 i.d, .int .i64 i.s, .int .i64 i.cond, .int .i64 i.size, .int .i64 i.imm]
def insCells (i : Ins) : List T := [.v (.int .i64 i.kind), .v (.int .i64 i.d), .v (.int .i64 i.s), .v (.int .i64 i.cond), .v (.int .i64 i.size), .v (.int .i64 i.imm)]
def insT (i : Ins) : T := .agg (insCells i)
def I64 (n : Int) : Prop := -9223372036854775808 ≤ n ∧ n ≤ 9223372036854775807
structure InsOk (i : Ins) : Prop where
  kind : I64 i.kind
  d : I64 i.d
  s : I64 i.s
  cond : I64 i.cond
  size : I64 i.size
  imm : I64 i.imm

/-! ### which may be -/
def fieldTab : List Int := [0, 3, 5, 23, 23, 7, 3, 3, 3, 3, 3, 3, 3, 3, 3, 5, 5, 5, 5, 5, 5, 3, 1, 1, 1, 1, 1, 1, 1, 5, 5, 5, 9, 3, 11, 20, 28, 4, 1, 1, 0, 1, 1, 0, 0, 3, 3, 3, 3, 3, 3, 3, 3]
def fieldsF (k : Int) : Int × Bool := if 1 ≤ k ∧ k ≤ 52 then (fieldTab.getD k.toNat 0, true) else (0, false)
def inF (n lo hi : Int) : Bool := decide (lo ≤ n) && decide (n ≤ hi)
def smallF (n : Int) : Bool := inF n (-2147483648) 2147483647
def sizedF (i : Ins) : Bool :=
  if i.kind = 3 ∨ i.kind = 4 then (decide (i.size = 8) || decide (i.size = 4) || decide (i.size = 1)) && smallF i.imm
  else if i.kind = 35 ∨ i.kind = 36 then decide (i.size = 4) && smallF i.imm || decide (i.size = 1) && inF i.imm (-128) 127
  else if i.kind = 29 ∨ i.kind = 30 ∨ i.kind = 31 then inF i.imm 0 63
  else decide (i.kind = 2) || smallF i.imm
def noneF (f has n : Int) : Bool := !decide (bitsOf .and .i64 f has = 0) || decide (n = 0)
def bad0 (i : Ins) : Bool := !(fieldsF i.kind).2 || !inF i.d 0 15 || !inF i.s 0 15 || !inF i.cond 0 15
def validF (i : Ins) : Bool :=
  if bad0 i = true then false
  else noneF (fieldsF i.kind).1 1 i.d && noneF (fieldsF i.kind).1 2 i.s && noneF (fieldsF i.kind).1 4 i.imm && noneF (fieldsF i.kind).1 8 i.cond && noneF (fieldsF i.kind).1 16 i.size && sizedF i
theorem fields_out {k : Int} (h : ¬ (1 ≤ k ∧ k ≤ 52)) : fieldsF k = (0, false) := if_neg h
theorem validF_regs {i : Ins} (h : validF i = true) : (1 ≤ i.kind ∧ i.kind ≤ 52) ∧ (0 ≤ i.d ∧ i.d ≤ 15) ∧ (0 ≤ i.s ∧ i.s ≤ 15) ∧ (0 ≤ i.cond ∧ i.cond ≤ 15) := by
  unfold validF at h
  split at h
  · cases h
  rename_i hb
  simp only [bad0, inF, Bool.or_eq_true, Bool.not_eq_true', not_or, Bool.not_eq_false, Bool.and_eq_true, decide_eq_true_eq] at hb
  obtain ⟨⟨⟨h1, h2⟩, h3⟩, h4⟩ := hb
  refine ⟨?_, h2, h3, h4⟩
  unfold fieldsF at h1
  split at h1
  · assumption
  · exact absurd h1 (by decide)

/-! ### the bytes -/
def byteOf (x : Int) : UInt8 := UInt8.ofNat (x % 256).toNat
theorem byteOf_wrap (p : Int) : T.v (.int .u8 (IntKind.u8.wrap p)) = u8 (byteOf p) := u8_wrap p
def ints (l : List Int) : List T := l.map fun x => .v (.int .i64 x)
theorem len_ints {l : List Int} : (ints l).length = l.length * 1 := by simp [ints]
theorem ints_get {l : List Int} {j : Nat} (h : j < l.length) : (ints l)[j * 1]? = some (.v (.int .i64 (l.getD j 0))) := by simp [ints, h]
def rexN (wide : Bool) (p q : Int) : Int := 64 + p / 8 * 4 + q / 8 + (if wide then 8 else 0)
def twoN (p q : Int) : Int := 192 + p % 8 * 8 + q % 8
def memN (p q : Int) : Int := 128 + p % 8 * 8 + q % 8
theorem rex_or (p q : Int) (hp : 0 ≤ p ∧ p ≤ 15) (hq : 0 ≤ q ∧ q ≤ 15) : bitsOf .or .i64 (bitsOf .or .i64 64 (p / 8 * 4)) (q / 8) = 64 + p / 8 * 4 + q / 8 := by
  have h1 : p / 8 = 0 ∨ p / 8 = 1 := by omega
  have h2 : q / 8 = 0 ∨ q / 8 = 1 := by omega
  rcases h1 with h1 | h1 <;> rcases h2 with h2 | h2 <;> rw [h1, h2] <;> decide
theorem rex_or8 (p q : Int) (hp : 0 ≤ p ∧ p ≤ 15) (hq : 0 ≤ q ∧ q ≤ 15) : bitsOf .or .i64 (bitsOf .or .i64 (bitsOf .or .i64 64 (p / 8 * 4)) (q / 8)) 8 = 64 + p / 8 * 4 + q / 8 + 8 := by
  have h1 : p / 8 = 0 ∨ p / 8 = 1 := by omega
  have h2 : q / 8 = 0 ∨ q / 8 = 1 := by omega
  rcases h1 with h1 | h1 <;> rcases h2 with h2 | h2 <;> rw [h1, h2] <;> decide
theorem fin8 {p : Int} (P : Int → Prop) (h : ∀ a : Fin 8, P (a.val : Int)) : P (p % 8) := by
  have h1 : 0 ≤ p % 8 ∧ p % 8 < 8 := ⟨Int.emod_nonneg _ (by decide), Int.emod_lt_of_pos _ (by decide)⟩
  have h2 := h ⟨(p % 8).toNat, by omega⟩
  have h3 : ((⟨(p % 8).toNat, by omega⟩ : Fin 8).val : Int) = p % 8 := by show (((p % 8).toNat : Nat) : Int) = p % 8; omega
  rwa [h3] at h2
theorem fin16 {p : Int} (hp : 0 ≤ p ∧ p ≤ 15) (P : Int → Prop) (h : ∀ a : Fin 16, P (a.val : Int)) : P p := by
  have h2 := h ⟨p.toNat, by omega⟩
  have h3 : ((⟨p.toNat, by omega⟩ : Fin 16).val : Int) = p := by show ((p.toNat : Nat) : Int) = p; omega
  rwa [h3] at h2
theorem two_or (p q : Int) : bitsOf .or .i64 (bitsOf .or .i64 192 (p % 8 * 8)) (q % 8) = twoN p q := by
  unfold twoN
  exact fin8 (fun a => bitsOf .or .i64 (bitsOf .or .i64 192 (a * 8)) (q % 8) = 192 + a * 8 + q % 8) (fun a => fin8 (fun b => bitsOf .or .i64 (bitsOf .or .i64 192 ((a.val : Int) * 8)) b = 192 + (a.val : Int) * 8 + b) ((by decide : ∀ a b : Fin 8, bitsOf .or .i64 (bitsOf .or .i64 192 ((a.val : Int) * 8)) (b.val : Int) = 192 + (a.val : Int) * 8 + (b.val : Int)) a))
theorem mem_or (p q : Int) : bitsOf .or .i64 (bitsOf .or .i64 128 (p % 8 * 8)) (q % 8) = memN p q := by
  unfold memN
  exact fin8 (fun a => bitsOf .or .i64 (bitsOf .or .i64 128 (a * 8)) (q % 8) = 128 + a * 8 + q % 8) (fun a => fin8 (fun b => bitsOf .or .i64 (bitsOf .or .i64 128 ((a.val : Int) * 8)) b = 128 + (a.val : Int) * 8 + b) ((by decide : ∀ a b : Fin 8, bitsOf .or .i64 (bitsOf .or .i64 128 ((a.val : Int) * 8)) (b.val : Int) = 128 + (a.val : Int) * 8 + (b.val : Int)) a))
theorem or_cond (c : Int) (hc : 0 ≤ c ∧ c ≤ 15) : bitsOf .or .i64 112 c = 112 + c ∧ bitsOf .or .i64 128 c = 128 + c ∧ bitsOf .or .i64 144 c = 144 + c ∧ bitsOf .or .i64 64 c = 64 + c :=
  fin16 hc (fun c => bitsOf .or .i64 112 c = 112 + c ∧ bitsOf .or .i64 128 c = 128 + c ∧ bitsOf .or .i64 144 c = 144 + c ∧ bitsOf .or .i64 64 c = 64 + c) (by decide)
theorem or_reg (c : Int) : bitsOf .or .i64 80 (c % 8) = 80 + c % 8 ∧ bitsOf .or .i64 88 (c % 8) = 88 + c % 8 ∧ bitsOf .or .i64 184 (c % 8) = 184 + c % 8 :=
  fin8 (fun c => bitsOf .or .i64 80 c = 80 + c ∧ bitsOf .or .i64 88 c = 88 + c ∧ bitsOf .or .i64 184 c = 184 + c) (by decide)
theorem byteOf_and (n : Int) : byteOf (bitsOf .and .i64 n 255) = byteOf n := by
  unfold byteOf
  congr 2
  show (IntKind.i64.wrap _) % 256 = n % 256
  have h1 : ((BitVec.ofInt 64 n &&& BitVec.ofInt 64 255).toNat : Int) = n % 256 := by
    have e : BitVec.ofInt 64 255 = 255#64 := by decide
    rw [e, BitVec.toNat_and, BitVec.toNat_ofInt]
    have : (255#64).toNat = 2 ^ 8 - 1 := by decide
    rw [this, Nat.and_two_pow_sub_one_eq_mod]
    omega
  show (IntKind.i64.wrap ((BitVec.ofInt 64 n &&& BitVec.ofInt 64 255).toNat : Int)) % 256 = n % 256
  rw [h1]
  have h2 : IntKind.i64.wrap (n % 256) = n % 256 := IntWalk.i64_in _ ⟨by omega, by omega⟩
  rw [h2]; omega
def immF (n : Int) (k : Nat) : List UInt8 := leBytes k n
theorem immF_succ (n : Int) (k : Nat) : immF n (k + 1) = immF n k ++ [byteOf (n / 256 ^ k)] := leBytes_succ k n
def putF (l : List Int) : List UInt8 := l.map byteOf
def opTab : List (Int × Int) := [(255, 4), (137, 0), (255, 4), (255, 4), (255, 4), (255, 4), (1, 0), (9, 0), (17, 0), (25, 0), (33, 0), (41, 0), (49, 0), (57, 0), (133, 0), (129, 0), (129, 1), (129, 4), (129, 5), (129, 6), (129, 7), (255, 4), (247, 4), (247, 6), (247, 3), (247, 2), (211, 4), (211, 5), (211, 7), (193, 4), (193, 5), (193, 7), (255, 4), (255, 4), (255, 4), (255, 4), (255, 4), (255, 4), (255, 2)]
def opF (k : Int) : Int × Int := if 1 ≤ k ∧ k ≤ 38 then opTab.getD k.toNat (255, 4) else (255, 4)
theorem op_out {k : Int} (h : ¬ (k = 1 ∨ 6 ≤ k ∧ k ≤ 20 ∨ 22 ≤ k ∧ k ≤ 31 ∨ k = 38)) : opF k = (255, 4) := by
  unfold opF
  split
  · have h1 : k = 2 ∨ k = 3 ∨ k = 4 ∨ k = 5 ∨ k = 21 ∨ k = 32 ∨ k = 33 ∨ k = 34 ∨ k = 35 ∨ k = 36 ∨ k = 37 := by omega
    rcases h1 with h1 | h1 | h1 | h1 | h1 | h1 | h1 | h1 | h1 | h1 | h1 <;> rw [h1] <;> rfl
  · rfl
def memF (p q n : Int) : List UInt8 := byteOf (memN p q) :: (if q % 8 = 4 then [36] else []) ++ immF n 4
def memoryF (i : Ins) : List UInt8 :=
  if i.kind = 5 then byteOf (rexN true i.d i.s) :: 141 :: memF i.d i.s i.imm
  else if i.kind = 3 ∧ i.size = 1 then byteOf (rexN true i.d i.s) :: 15 :: 182 :: memF i.d i.s i.imm
  else if i.kind = 3 then byteOf (rexN (decide (i.size = 8)) i.d i.s) :: 139 :: memF i.d i.s i.imm
  else if i.size = 1 then byteOf (rexN false i.s i.d) :: 136 :: memF i.s i.d i.imm
  else byteOf (rexN (decide (i.size = 8)) i.s i.d) :: 137 :: memF i.s i.d i.imm
def jumpF (i : Ins) : List UInt8 :=
  if i.kind = 37 then 232 :: immF i.imm 4
  else if i.kind = 35 ∧ i.size = 1 then 235 :: immF i.imm 1
  else if i.kind = 35 then 233 :: immF i.imm 4
  else if i.size = 1 then byteOf (112 + i.cond) :: immF i.imm 1
  else 15 :: byteOf (128 + i.cond) :: immF i.imm 4
def farF (i : Ins) : List UInt8 :=
  if i.kind = 21 then [byteOf (rexN true i.d i.s), 15, 175, byteOf (twoN i.d i.s)]
  else if i.kind = 32 then [byteOf (rexN false 0 i.d), 15, byteOf (144 + i.cond), byteOf (twoN 0 i.d)]
  else if i.kind = 33 then [byteOf (rexN true i.d i.s), 15, 182, byteOf (twoN i.d i.s)]
  else if i.kind = 34 then [byteOf (rexN true i.d i.s), 15, byteOf (64 + i.cond), byteOf (twoN i.d i.s)]
  else if i.kind = 45 then [102, byteOf (rexN true i.d i.s), 15, 110, byteOf (twoN i.d i.s)]
  else if i.kind = 46 then [102, byteOf (rexN true i.s i.d), 15, 126, byteOf (twoN i.s i.d)]
  else if i.kind = 47 then [242, byteOf (rexN false i.d i.s), 15, 88, byteOf (twoN i.d i.s)]
  else if i.kind = 48 then [242, byteOf (rexN false i.d i.s), 15, 89, byteOf (twoN i.d i.s)]
  else if i.kind = 49 then [242, byteOf (rexN false i.d i.s), 15, 92, byteOf (twoN i.d i.s)]
  else if i.kind = 50 then [242, byteOf (rexN false i.d i.s), 15, 94, byteOf (twoN i.d i.s)]
  else if i.kind = 51 then [102, byteOf (rexN false i.d i.s), 15, 46, byteOf (twoN i.d i.s)]
  else if i.kind = 52 then [242, byteOf (rexN true i.d i.s), 15, 42, byteOf (twoN i.d i.s)]
  else []
def cls : List Nat := [8, 0, 5, 6, 6, 6, 0, 0, 0, 0, 0, 0, 0, 0, 0, 1, 1, 1, 1, 1, 1, 8, 2, 2, 2, 2, 2, 2, 2, 3, 3, 3, 8, 8, 8, 7, 7, 7, 4, 4, 11, 9, 10, 12, 13]
def clsF (k : Int) : Nat := if 1 ≤ k ∧ k ≤ 44 then cls.getD k.toNat 8 else 8
def encF (i : Ins) : List UInt8 :=
  match clsF i.kind with
  | 0 => [byteOf (rexN true i.s i.d), byteOf (opF i.kind).1, byteOf (twoN i.s i.d)]
  | 1 => byteOf (rexN true 0 i.d) :: byteOf (opF i.kind).1 :: byteOf (twoN (opF i.kind).2 i.d) :: immF i.imm 4
  | 2 => [byteOf (rexN true 0 i.d), byteOf (opF i.kind).1, byteOf (twoN (opF i.kind).2 i.d)]
  | 3 => byteOf (rexN true 0 i.d) :: byteOf (opF i.kind).1 :: byteOf (twoN (opF i.kind).2 i.d) :: immF i.imm 1
  | 4 => [byteOf (rexN false 0 i.d), byteOf (opF i.kind).1, byteOf (twoN (opF i.kind).2 i.d)]
  | 5 => if smallF i.imm = true then byteOf (rexN true 0 i.d) :: 199 :: byteOf (twoN 0 i.d) :: immF i.imm 4 else byteOf (rexN true 0 i.d) :: byteOf (184 + i.d % 8) :: immF i.imm 8
  | 6 => memoryF i
  | 7 => jumpF i
  | 8 => farF i
  | 9 => [byteOf (rexN false 0 i.d), byteOf (80 + i.d % 8)]
  | 10 => [byteOf (rexN false 0 i.d), byteOf (88 + i.d % 8)]
  | 11 => [195]
  | 12 => [15, 5]
  | _ => [15, 11]
theorem cls_far {i : Ins} (h : ¬ (i.kind = 1 ∨ 2 ≤ i.kind ∧ i.kind ≤ 20 ∨ 22 ≤ i.kind ∧ i.kind ≤ 31 ∨ 35 ≤ i.kind ∧ i.kind ≤ 44)) : encF i = farF i := by
  unfold encF clsF
  have hc : (if 1 ≤ i.kind ∧ i.kind ≤ 44 then cls.getD i.kind.toNat 8 else 8) = 8 := by
    split
    · have h1 : i.kind = 21 ∨ i.kind = 32 ∨ i.kind = 33 ∨ i.kind = 34 := by omega
      rcases h1 with h1 | h1 | h1 | h1 <;> rw [h1] <;> rfl
    · rfl
  rw [hc]
  rfl
end Go.Proofs.YtjndpakhmgapjaaDoor

namespace Go.Proofs.YtjndpakhmgapjaaDoor
open Go Go.RowKit
set_option linter.unusedVariables false
set_option linter.unnecessarySimpa false
set_option linter.unusedSimpArgs false

set_option maxHeartbeats 2000000 in
theorem fields46 (k : Int) :
    ACalls Tryd.prog 35 [.v (.int .i64 k)] [] fun t_ S => t_ = .tup [.v (.int .i64 (fieldsF k).1), .v (.bool (fieldsF k).2)] := by
  refine ACalls.intro Tryd.func35 rfl Tryd.ntmps35 (Nat.le_of_ble_eq_true rfl) rfl fun X w0 => ?_
  refine AW.rseq ?_
  refine AWL.y rfl rfl (B rfl) (Yv.assign rfl (E rfl rfl)) ?_
  refine AWL.y rfl rfl (B rfl) (Yv.assign rfl (E rfl rfl)) ?_
  refine AWL.nil ?_
  refine AW.seq ?_
  refine AW.rseq ?_
  refine AWL.y rfl rfl (B rfl) (Yv.move rfl (E rfl rfl)) ?_
  refine AWL.nil ?_
  refine AW.block ?_
  refine AW.seq ?_
  refine AW.block ?_
  refine AW.seq ?_
  refine AW.block ?_
  refine AW.seq ?_
  refine AW.block ?_
  refine AW.seq ?_
  refine AW.block ?_
  refine AW.seq ?_
  refine AW.block ?_
  refine AW.seq ?_
  refine AW.block ?_
  refine AW.seq ?_
  refine AW.block ?_
  refine AW.seq ?_
  refine AW.block ?_
  refine AW.seq ?_
  refine AW.block ?_
  refine AW.seq ?_
  refine AW.block ?_
  refine AW.seq ?_
  refine AW.block ?_
  refine AW.block ?_
  refine AW.seq ?_
  refine AW.seq ?_
  refine AW.seq ?_
  refine AW.rseq ?_
  refine AWL.y rfl rfl (B rfl) (Yv.eql rfl (E rfl rfl) (E rfl rfl)) ?_
  refine AWL.y rfl rfl (B rfl) (Yv.assign rfl (E rfl rfl)) ?_
  refine AWL.nil ?_
  refine AW.cond rfl (fun h0t => ?_) (fun h0f => ?_)
  ·
   try replace h0t := of_decide_eq_true h0t
   refine AW.skip ?_
   refine AW.cond rfl (fun h1t => ?_) (fun h1f => ?_)
   ·
    try replace h1t := of_decide_eq_true h1t
    refine AW.exit ?_
    refine AW.seq ?_
    refine AW.rseq ?_
    refine AWL.y rfl rfl (B rfl) (Yv.assign rfl (E rfl rfl)) ?_
    refine AWL.y rfl rfl (B rfl) (Yv.assign rfl (E rfl rfl)) ?_
    refine AWL.nil ?_
    refine AW.ret (retI (.tmp rfl (.tmp rfl .nil)) ?_)
    rw [h0t]; rfl
   · exfalso; replace h1f := of_decide_eq_false h1f; omega
  try replace h0f := of_decide_eq_false h0f
  refine AW.rseq ?_
  refine AWL.y rfl rfl (B rfl) (Yv.eql rfl (E rfl rfl) (E rfl rfl)) ?_
  refine AWL.y rfl rfl (B rfl) (Yv.assign rfl (E rfl rfl)) ?_
  refine AWL.nil ?_
  refine AW.cond rfl (fun h2t => ?_) (fun h2f => ?_)
  ·
   try replace h2t := of_decide_eq_true h2t
   refine AW.skip ?_
   refine AW.cond rfl (fun h3t => ?_) (fun h3f => ?_)
   ·
    try replace h3t := of_decide_eq_true h3t
    refine AW.exit ?_
    refine AW.seq ?_
    refine AW.rseq ?_
    refine AWL.y rfl rfl (B rfl) (Yv.assign rfl (E rfl rfl)) ?_
    refine AWL.y rfl rfl (B rfl) (Yv.assign rfl (E rfl rfl)) ?_
    refine AWL.nil ?_
    refine AW.ret (retI (.tmp rfl (.tmp rfl .nil)) ?_)
    rw [h2t]; rfl
   · exfalso; replace h3f := of_decide_eq_false h3f; omega
  try replace h2f := of_decide_eq_false h2f
  refine AW.rseq ?_
  refine AWL.y rfl rfl (B rfl) (Yv.eql rfl (E rfl rfl) (E rfl rfl)) ?_
  refine AWL.y rfl rfl (B rfl) (Yv.assign rfl (E rfl rfl)) ?_
  refine AWL.nil ?_
  refine AW.cond rfl (fun h4t => ?_) (fun h4f => ?_)
  ·
   try replace h4t := of_decide_eq_true h4t
   refine AW.skip ?_
   refine AW.cond rfl (fun h5t => ?_) (fun h5f => ?_)
   ·
    try replace h5t := of_decide_eq_true h5t
    refine AW.exit ?_
    refine AW.seq ?_
    refine AW.rseq ?_
    refine AWL.y rfl rfl (B rfl) (Yv.assign rfl (E rfl rfl)) ?_
    refine AWL.y rfl rfl (B rfl) (Yv.assign rfl (E rfl rfl)) ?_
    refine AWL.nil ?_
    refine AW.ret (retI (.tmp rfl (.tmp rfl .nil)) ?_)
    rw [h4t]; rfl
   · exfalso; replace h5f := of_decide_eq_false h5f; omega
  try replace h4f := of_decide_eq_false h4f
  refine AW.rseq ?_
  refine AWL.y rfl rfl (B rfl) (Yv.eql rfl (E rfl rfl) (E rfl rfl)) ?_
  refine AWL.y rfl rfl (B rfl) (Yv.assign rfl (E rfl rfl)) ?_
  refine AWL.nil ?_
  refine AW.cond rfl (fun h6t => ?_) (fun h6f => ?_)
  ·
   try replace h6t := of_decide_eq_true h6t
   refine AW.skip ?_
   refine AW.cond rfl (fun h7t => ?_) (fun h7f => ?_)
   ·
    try replace h7t := of_decide_eq_true h7t
    refine AW.exit ?_
    refine AW.seq ?_
    refine AW.rseq ?_
    refine AWL.y rfl rfl (B rfl) (Yv.assign rfl (E rfl rfl)) ?_
    refine AWL.y rfl rfl (B rfl) (Yv.assign rfl (E rfl rfl)) ?_
    refine AWL.nil ?_
    refine AW.ret (retI (.tmp rfl (.tmp rfl .nil)) ?_)
    rw [h6t]; rfl
   · exfalso; replace h7f := of_decide_eq_false h7f; omega
  try replace h6f := of_decide_eq_false h6f
  refine AW.rseq ?_
  refine AWL.y rfl rfl (B rfl) (Yv.eql rfl (E rfl rfl) (E rfl rfl)) ?_
  refine AWL.y rfl rfl (B rfl) (Yv.assign rfl (E rfl rfl)) ?_
  refine AWL.nil ?_
  refine AW.cond rfl (fun h8t => ?_) (fun h8f => ?_)
  ·
   try replace h8t := of_decide_eq_true h8t
   refine AW.skip ?_
   refine AW.cond rfl (fun h9t => ?_) (fun h9f => ?_)
   ·
    try replace h9t := of_decide_eq_true h9t
    refine AW.exit ?_
    refine AW.seq ?_
    refine AW.rseq ?_
    refine AWL.y rfl rfl (B rfl) (Yv.assign rfl (E rfl rfl)) ?_
    refine AWL.y rfl rfl (B rfl) (Yv.assign rfl (E rfl rfl)) ?_
    refine AWL.nil ?_
    refine AW.ret (retI (.tmp rfl (.tmp rfl .nil)) ?_)
    rw [h8t]; rfl
   · exfalso; replace h9f := of_decide_eq_false h9f; omega
  try replace h8f := of_decide_eq_false h8f
  refine AW.rseq ?_
  refine AWL.y rfl rfl (B rfl) (Yv.eql rfl (E rfl rfl) (E rfl rfl)) ?_
  refine AWL.y rfl rfl (B rfl) (Yv.assign rfl (E rfl rfl)) ?_
  refine AWL.nil ?_
  refine AW.cond rfl (fun h10t => ?_) (fun h10f => ?_)
  ·
   try replace h10t := of_decide_eq_true h10t
   refine AW.skip ?_
   refine AW.cond rfl (fun h11t => ?_) (fun h11f => ?_)
   ·
    try replace h11t := of_decide_eq_true h11t
    refine AW.exit ?_
    refine AW.seq ?_
    refine AW.rseq ?_
    refine AWL.y rfl rfl (B rfl) (Yv.assign rfl (E rfl rfl)) ?_
    refine AWL.y rfl rfl (B rfl) (Yv.assign rfl (E rfl rfl)) ?_
    refine AWL.nil ?_
    refine AW.ret (retI (.tmp rfl (.tmp rfl .nil)) ?_)
    rw [h10t]; rfl
   · exfalso; replace h11f := of_decide_eq_false h11f; omega
  try replace h10f := of_decide_eq_false h10f
  refine AW.rseq ?_
  refine AWL.y rfl rfl (B rfl) (Yv.eql rfl (E rfl rfl) (E rfl rfl)) ?_
  refine AWL.y rfl rfl (B rfl) (Yv.assign rfl (E rfl rfl)) ?_
  refine AWL.nil ?_
  refine AW.cond rfl (fun h12t => ?_) (fun h12f => ?_)
  ·
   try replace h12t := of_decide_eq_true h12t
   refine AW.skip ?_
   refine AW.cond rfl (fun h13t => ?_) (fun h13f => ?_)
   ·
    try replace h13t := of_decide_eq_true h13t
    refine AW.exit ?_
    refine AW.seq ?_
    refine AW.rseq ?_
    refine AWL.y rfl rfl (B rfl) (Yv.assign rfl (E rfl rfl)) ?_
    refine AWL.y rfl rfl (B rfl) (Yv.assign rfl (E rfl rfl)) ?_
    refine AWL.nil ?_
    refine AW.ret (retI (.tmp rfl (.tmp rfl .nil)) ?_)
    rw [h12t]; rfl
   · exfalso; replace h13f := of_decide_eq_false h13f; omega
  try replace h12f := of_decide_eq_false h12f
  refine AW.rseq ?_
  refine AWL.y rfl rfl (B rfl) (Yv.eql rfl (E rfl rfl) (E rfl rfl)) ?_
  refine AWL.y rfl rfl (B rfl) (Yv.assign rfl (E rfl rfl)) ?_
  refine AWL.nil ?_
  refine AW.cond rfl (fun h14t => ?_) (fun h14f => ?_)
  ·
   try replace h14t := of_decide_eq_true h14t
   refine AW.skip ?_
   refine AW.cond rfl (fun h15t => ?_) (fun h15f => ?_)
   ·
    try replace h15t := of_decide_eq_true h15t
    refine AW.exit ?_
    refine AW.seq ?_
    refine AW.rseq ?_
    refine AWL.y rfl rfl (B rfl) (Yv.assign rfl (E rfl rfl)) ?_
    refine AWL.y rfl rfl (B rfl) (Yv.assign rfl (E rfl rfl)) ?_
    refine AWL.nil ?_
    refine AW.ret (retI (.tmp rfl (.tmp rfl .nil)) ?_)
    rw [h14t]; rfl
   · exfalso; replace h15f := of_decide_eq_false h15f; omega
  try replace h14f := of_decide_eq_false h14f
  refine AW.rseq ?_
  refine AWL.y rfl rfl (B rfl) (Yv.eql rfl (E rfl rfl) (E rfl rfl)) ?_
  refine AWL.y rfl rfl (B rfl) (Yv.assign rfl (E rfl rfl)) ?_
  refine AWL.nil ?_
  refine AW.cond rfl (fun h16t => ?_) (fun h16f => ?_)
  ·
   try replace h16t := of_decide_eq_true h16t
   refine AW.skip ?_
   refine AW.cond rfl (fun h17t => ?_) (fun h17f => ?_)
   ·
    try replace h17t := of_decide_eq_true h17t
    refine AW.exit ?_
    refine AW.seq ?_
    refine AW.rseq ?_
    refine AWL.y rfl rfl (B rfl) (Yv.assign rfl (E rfl rfl)) ?_
    refine AWL.y rfl rfl (B rfl) (Yv.assign rfl (E rfl rfl)) ?_
    refine AWL.nil ?_
    refine AW.ret (retI (.tmp rfl (.tmp rfl .nil)) ?_)
    rw [h16t]; rfl
   · exfalso; replace h17f := of_decide_eq_false h17f; omega
  try replace h16f := of_decide_eq_false h16f
  refine AW.rseq ?_
  refine AWL.y rfl rfl (B rfl) (Yv.eql rfl (E rfl rfl) (E rfl rfl)) ?_
  refine AWL.y rfl rfl (B rfl) (Yv.assign rfl (E rfl rfl)) ?_
  refine AWL.nil ?_
  refine AW.cond rfl (fun h18t => ?_) (fun h18f => ?_)
  ·
   try replace h18t := of_decide_eq_true h18t
   refine AW.skip ?_
   refine AW.cond rfl (fun h19t => ?_) (fun h19f => ?_)
   ·
    try replace h19t := of_decide_eq_true h19t
    refine AW.exit ?_
    refine AW.seq ?_
    refine AW.rseq ?_
    refine AWL.y rfl rfl (B rfl) (Yv.assign rfl (E rfl rfl)) ?_
    refine AWL.y rfl rfl (B rfl) (Yv.assign rfl (E rfl rfl)) ?_
    refine AWL.nil ?_
    refine AW.ret (retI (.tmp rfl (.tmp rfl .nil)) ?_)
    rw [h18t]; rfl
   · exfalso; replace h19f := of_decide_eq_false h19f; omega
  try replace h18f := of_decide_eq_false h18f
  refine AW.rseq ?_
  refine AWL.y rfl rfl (B rfl) (Yv.eql rfl (E rfl rfl) (E rfl rfl)) ?_
  refine AWL.y rfl rfl (B rfl) (Yv.assign rfl (E rfl rfl)) ?_
  refine AWL.nil ?_
  refine AW.cond rfl (fun h20t => ?_) (fun h20f => ?_)
  ·
   try replace h20t := of_decide_eq_true h20t
   refine AW.skip ?_
   refine AW.cond rfl (fun h21t => ?_) (fun h21f => ?_)
   ·
    try replace h21t := of_decide_eq_true h21t
    refine AW.exit ?_
    refine AW.seq ?_
    refine AW.rseq ?_
    refine AWL.y rfl rfl (B rfl) (Yv.assign rfl (E rfl rfl)) ?_
    refine AWL.y rfl rfl (B rfl) (Yv.assign rfl (E rfl rfl)) ?_
    refine AWL.nil ?_
    refine AW.ret (retI (.tmp rfl (.tmp rfl .nil)) ?_)
    rw [h20t]; rfl
   · exfalso; replace h21f := of_decide_eq_false h21f; omega
  try replace h20f := of_decide_eq_false h20f
  refine AW.region ?_
  refine AWL.y rfl rfl (B rfl) (Yv.eql rfl (E rfl rfl) (E rfl rfl)) ?_
  refine AWL.y rfl rfl (B rfl) (Yv.assign rfl (E rfl rfl)) ?_
  refine AWL.nil ?_
  refine AW.cond rfl (fun h22t => ?_) (fun h22f => ?_)
  ·
   try replace h22t := of_decide_eq_true h22t
   refine AW.exit ?_
   refine AW.seq ?_
   refine AW.rseq ?_
   refine AWL.y rfl rfl (B rfl) (Yv.assign rfl (E rfl rfl)) ?_
   refine AWL.y rfl rfl (B rfl) (Yv.assign rfl (E rfl rfl)) ?_
   refine AWL.nil ?_
   refine AW.ret (retI (.tmp rfl (.tmp rfl .nil)) ?_)
   rw [h22t]; rfl
  try replace h22f := of_decide_eq_false h22f
  refine AW.skip ?_
  refine AW.seq ?_
  refine AW.seq ?_
  refine AW.rseq ?_
  refine AWL.y rfl rfl (B rfl) (Yv.eql rfl (E rfl rfl) (E rfl rfl)) ?_
  refine AWL.y rfl rfl (B rfl) (Yv.assign rfl (E rfl rfl)) ?_
  refine AWL.nil ?_
  refine AW.cond rfl (fun h23t => ?_) (fun h23f => ?_)
  ·
   try replace h23t := of_decide_eq_true h23t
   refine AW.skip ?_
   refine AW.cond rfl (fun h24t => ?_) (fun h24f => ?_)
   ·
    try replace h24t := of_decide_eq_true h24t
    refine AW.exit ?_
    refine AW.seq ?_
    refine AW.rseq ?_
    refine AWL.y rfl rfl (B rfl) (Yv.assign rfl (E rfl rfl)) ?_
    refine AWL.y rfl rfl (B rfl) (Yv.assign rfl (E rfl rfl)) ?_
    refine AWL.nil ?_
    refine AW.ret (retI (.tmp rfl (.tmp rfl .nil)) ?_)
    rw [h23t]; rfl
   · exfalso; replace h24f := of_decide_eq_false h24f; omega
  try replace h23f := of_decide_eq_false h23f
  refine AW.rseq ?_
  refine AWL.y rfl rfl (B rfl) (Yv.eql rfl (E rfl rfl) (E rfl rfl)) ?_
  refine AWL.y rfl rfl (B rfl) (Yv.assign rfl (E rfl rfl)) ?_
  refine AWL.nil ?_
  refine AW.cond rfl (fun h25t => ?_) (fun h25f => ?_)
  ·
   try replace h25t := of_decide_eq_true h25t
   refine AW.skip ?_
   refine AW.cond rfl (fun h26t => ?_) (fun h26f => ?_)
   ·
    try replace h26t := of_decide_eq_true h26t
    refine AW.exit ?_
    refine AW.seq ?_
    refine AW.rseq ?_
    refine AWL.y rfl rfl (B rfl) (Yv.assign rfl (E rfl rfl)) ?_
    refine AWL.y rfl rfl (B rfl) (Yv.assign rfl (E rfl rfl)) ?_
    refine AWL.nil ?_
    refine AW.ret (retI (.tmp rfl (.tmp rfl .nil)) ?_)
    rw [h25t]; rfl
   · exfalso; replace h26f := of_decide_eq_false h26f; omega
  try replace h25f := of_decide_eq_false h25f
  refine AW.rseq ?_
  refine AWL.y rfl rfl (B rfl) (Yv.eql rfl (E rfl rfl) (E rfl rfl)) ?_
  refine AWL.y rfl rfl (B rfl) (Yv.assign rfl (E rfl rfl)) ?_
  refine AWL.nil ?_
  refine AW.cond rfl (fun h27t => ?_) (fun h27f => ?_)
  ·
   try replace h27t := of_decide_eq_true h27t
   refine AW.skip ?_
   refine AW.cond rfl (fun h28t => ?_) (fun h28f => ?_)
   ·
    try replace h28t := of_decide_eq_true h28t
    refine AW.exit ?_
    refine AW.seq ?_
    refine AW.rseq ?_
    refine AWL.y rfl rfl (B rfl) (Yv.assign rfl (E rfl rfl)) ?_
    refine AWL.y rfl rfl (B rfl) (Yv.assign rfl (E rfl rfl)) ?_
    refine AWL.nil ?_
    refine AW.ret (retI (.tmp rfl (.tmp rfl .nil)) ?_)
    rw [h27t]; rfl
   · exfalso; replace h28f := of_decide_eq_false h28f; omega
  try replace h27f := of_decide_eq_false h27f
  refine AW.rseq ?_
  refine AWL.y rfl rfl (B rfl) (Yv.eql rfl (E rfl rfl) (E rfl rfl)) ?_
  refine AWL.y rfl rfl (B rfl) (Yv.assign rfl (E rfl rfl)) ?_
  refine AWL.nil ?_
  refine AW.cond rfl (fun h29t => ?_) (fun h29f => ?_)
  ·
   try replace h29t := of_decide_eq_true h29t
   refine AW.skip ?_
   refine AW.cond rfl (fun h30t => ?_) (fun h30f => ?_)
   ·
    try replace h30t := of_decide_eq_true h30t
    refine AW.exit ?_
    refine AW.seq ?_
    refine AW.rseq ?_
    refine AWL.y rfl rfl (B rfl) (Yv.assign rfl (E rfl rfl)) ?_
    refine AWL.y rfl rfl (B rfl) (Yv.assign rfl (E rfl rfl)) ?_
    refine AWL.nil ?_
    refine AW.ret (retI (.tmp rfl (.tmp rfl .nil)) ?_)
    rw [h29t]; rfl
   · exfalso; replace h30f := of_decide_eq_false h30f; omega
  try replace h29f := of_decide_eq_false h29f
  refine AW.rseq ?_
  refine AWL.y rfl rfl (B rfl) (Yv.eql rfl (E rfl rfl) (E rfl rfl)) ?_
  refine AWL.y rfl rfl (B rfl) (Yv.assign rfl (E rfl rfl)) ?_
  refine AWL.nil ?_
  refine AW.cond rfl (fun h31t => ?_) (fun h31f => ?_)
  ·
   try replace h31t := of_decide_eq_true h31t
   refine AW.skip ?_
   refine AW.cond rfl (fun h32t => ?_) (fun h32f => ?_)
   ·
    try replace h32t := of_decide_eq_true h32t
    refine AW.exit ?_
    refine AW.seq ?_
    refine AW.rseq ?_
    refine AWL.y rfl rfl (B rfl) (Yv.assign rfl (E rfl rfl)) ?_
    refine AWL.y rfl rfl (B rfl) (Yv.assign rfl (E rfl rfl)) ?_
    refine AWL.nil ?_
    refine AW.ret (retI (.tmp rfl (.tmp rfl .nil)) ?_)
    rw [h31t]; rfl
   · exfalso; replace h32f := of_decide_eq_false h32f; omega
  try replace h31f := of_decide_eq_false h31f
  refine AW.rseq ?_
  refine AWL.y rfl rfl (B rfl) (Yv.eql rfl (E rfl rfl) (E rfl rfl)) ?_
  refine AWL.y rfl rfl (B rfl) (Yv.assign rfl (E rfl rfl)) ?_
  refine AWL.nil ?_
  refine AW.cond rfl (fun h33t => ?_) (fun h33f => ?_)
  ·
   try replace h33t := of_decide_eq_true h33t
   refine AW.skip ?_
   refine AW.cond rfl (fun h34t => ?_) (fun h34f => ?_)
   ·
    try replace h34t := of_decide_eq_true h34t
    refine AW.exit ?_
    refine AW.seq ?_
    refine AW.rseq ?_
    refine AWL.y rfl rfl (B rfl) (Yv.assign rfl (E rfl rfl)) ?_
    refine AWL.y rfl rfl (B rfl) (Yv.assign rfl (E rfl rfl)) ?_
    refine AWL.nil ?_
    refine AW.ret (retI (.tmp rfl (.tmp rfl .nil)) ?_)
    rw [h33t]; rfl
   · exfalso; replace h34f := of_decide_eq_false h34f; omega
  try replace h33f := of_decide_eq_false h33f
  refine AW.rseq ?_
  refine AWL.y rfl rfl (B rfl) (Yv.eql rfl (E rfl rfl) (E rfl rfl)) ?_
  refine AWL.y rfl rfl (B rfl) (Yv.assign rfl (E rfl rfl)) ?_
  refine AWL.nil ?_
  refine AW.cond rfl (fun h35t => ?_) (fun h35f => ?_)
  ·
   try replace h35t := of_decide_eq_true h35t
   refine AW.skip ?_
   refine AW.cond rfl (fun h36t => ?_) (fun h36f => ?_)
   ·
    try replace h36t := of_decide_eq_true h36t
    refine AW.exit ?_
    refine AW.seq ?_
    refine AW.rseq ?_
    refine AWL.y rfl rfl (B rfl) (Yv.assign rfl (E rfl rfl)) ?_
    refine AWL.y rfl rfl (B rfl) (Yv.assign rfl (E rfl rfl)) ?_
    refine AWL.nil ?_
    refine AW.ret (retI (.tmp rfl (.tmp rfl .nil)) ?_)
    rw [h35t]; rfl
   · exfalso; replace h36f := of_decide_eq_false h36f; omega
  try replace h35f := of_decide_eq_false h35f
  refine AW.region ?_
  refine AWL.y rfl rfl (B rfl) (Yv.eql rfl (E rfl rfl) (E rfl rfl)) ?_
  refine AWL.y rfl rfl (B rfl) (Yv.assign rfl (E rfl rfl)) ?_
  refine AWL.nil ?_
  refine AW.cond rfl (fun h37t => ?_) (fun h37f => ?_)
  ·
   try replace h37t := of_decide_eq_true h37t
   refine AW.exit ?_
   refine AW.seq ?_
   refine AW.rseq ?_
   refine AWL.y rfl rfl (B rfl) (Yv.assign rfl (E rfl rfl)) ?_
   refine AWL.y rfl rfl (B rfl) (Yv.assign rfl (E rfl rfl)) ?_
   refine AWL.nil ?_
   refine AW.ret (retI (.tmp rfl (.tmp rfl .nil)) ?_)
   rw [h37t]; rfl
  try replace h37f := of_decide_eq_false h37f
  refine AW.skip ?_
  refine AW.seq ?_
  refine AW.seq ?_
  refine AW.rseq ?_
  refine AWL.y rfl rfl (B rfl) (Yv.eql rfl (E rfl rfl) (E rfl rfl)) ?_
  refine AWL.y rfl rfl (B rfl) (Yv.assign rfl (E rfl rfl)) ?_
  refine AWL.nil ?_
  refine AW.cond rfl (fun h38t => ?_) (fun h38f => ?_)
  ·
   try replace h38t := of_decide_eq_true h38t
   refine AW.skip ?_
   refine AW.cond rfl (fun h39t => ?_) (fun h39f => ?_)
   ·
    try replace h39t := of_decide_eq_true h39t
    refine AW.exit ?_
    refine AW.seq ?_
    refine AW.rseq ?_
    refine AWL.y rfl rfl (B rfl) (Yv.assign rfl (E rfl rfl)) ?_
    refine AWL.y rfl rfl (B rfl) (Yv.assign rfl (E rfl rfl)) ?_
    refine AWL.nil ?_
    refine AW.ret (retI (.tmp rfl (.tmp rfl .nil)) ?_)
    rw [h38t]; rfl
   · exfalso; replace h39f := of_decide_eq_false h39f; omega
  try replace h38f := of_decide_eq_false h38f
  refine AW.rseq ?_
  refine AWL.y rfl rfl (B rfl) (Yv.eql rfl (E rfl rfl) (E rfl rfl)) ?_
  refine AWL.y rfl rfl (B rfl) (Yv.assign rfl (E rfl rfl)) ?_
  refine AWL.nil ?_
  refine AW.cond rfl (fun h40t => ?_) (fun h40f => ?_)
  ·
   try replace h40t := of_decide_eq_true h40t
   refine AW.skip ?_
   refine AW.cond rfl (fun h41t => ?_) (fun h41f => ?_)
   ·
    try replace h41t := of_decide_eq_true h41t
    refine AW.exit ?_
    refine AW.seq ?_
    refine AW.rseq ?_
    refine AWL.y rfl rfl (B rfl) (Yv.assign rfl (E rfl rfl)) ?_
    refine AWL.y rfl rfl (B rfl) (Yv.assign rfl (E rfl rfl)) ?_
    refine AWL.nil ?_
    refine AW.ret (retI (.tmp rfl (.tmp rfl .nil)) ?_)
    rw [h40t]; rfl
   · exfalso; replace h41f := of_decide_eq_false h41f; omega
  try replace h40f := of_decide_eq_false h40f
  refine AW.rseq ?_
  refine AWL.y rfl rfl (B rfl) (Yv.eql rfl (E rfl rfl) (E rfl rfl)) ?_
  refine AWL.y rfl rfl (B rfl) (Yv.assign rfl (E rfl rfl)) ?_
  refine AWL.nil ?_
  refine AW.cond rfl (fun h42t => ?_) (fun h42f => ?_)
  ·
   try replace h42t := of_decide_eq_true h42t
   refine AW.skip ?_
   refine AW.cond rfl (fun h43t => ?_) (fun h43f => ?_)
   ·
    try replace h43t := of_decide_eq_true h43t
    refine AW.exit ?_
    refine AW.seq ?_
    refine AW.rseq ?_
    refine AWL.y rfl rfl (B rfl) (Yv.assign rfl (E rfl rfl)) ?_
    refine AWL.y rfl rfl (B rfl) (Yv.assign rfl (E rfl rfl)) ?_
    refine AWL.nil ?_
    refine AW.ret (retI (.tmp rfl (.tmp rfl .nil)) ?_)
    rw [h42t]; rfl
   · exfalso; replace h43f := of_decide_eq_false h43f; omega
  try replace h42f := of_decide_eq_false h42f
  refine AW.rseq ?_
  refine AWL.y rfl rfl (B rfl) (Yv.eql rfl (E rfl rfl) (E rfl rfl)) ?_
  refine AWL.y rfl rfl (B rfl) (Yv.assign rfl (E rfl rfl)) ?_
  refine AWL.nil ?_
  refine AW.cond rfl (fun h44t => ?_) (fun h44f => ?_)
  ·
   try replace h44t := of_decide_eq_true h44t
   refine AW.skip ?_
   refine AW.cond rfl (fun h45t => ?_) (fun h45f => ?_)
   ·
    try replace h45t := of_decide_eq_true h45t
    refine AW.exit ?_
    refine AW.seq ?_
    refine AW.rseq ?_
    refine AWL.y rfl rfl (B rfl) (Yv.assign rfl (E rfl rfl)) ?_
    refine AWL.y rfl rfl (B rfl) (Yv.assign rfl (E rfl rfl)) ?_
    refine AWL.nil ?_
    refine AW.ret (retI (.tmp rfl (.tmp rfl .nil)) ?_)
    rw [h44t]; rfl
   · exfalso; replace h45f := of_decide_eq_false h45f; omega
  try replace h44f := of_decide_eq_false h44f
  refine AW.rseq ?_
  refine AWL.y rfl rfl (B rfl) (Yv.eql rfl (E rfl rfl) (E rfl rfl)) ?_
  refine AWL.y rfl rfl (B rfl) (Yv.assign rfl (E rfl rfl)) ?_
  refine AWL.nil ?_
  refine AW.cond rfl (fun h46t => ?_) (fun h46f => ?_)
  ·
   try replace h46t := of_decide_eq_true h46t
   refine AW.skip ?_
   refine AW.cond rfl (fun h47t => ?_) (fun h47f => ?_)
   ·
    try replace h47t := of_decide_eq_true h47t
    refine AW.exit ?_
    refine AW.seq ?_
    refine AW.rseq ?_
    refine AWL.y rfl rfl (B rfl) (Yv.assign rfl (E rfl rfl)) ?_
    refine AWL.y rfl rfl (B rfl) (Yv.assign rfl (E rfl rfl)) ?_
    refine AWL.nil ?_
    refine AW.ret (retI (.tmp rfl (.tmp rfl .nil)) ?_)
    rw [h46t]; rfl
   · exfalso; replace h47f := of_decide_eq_false h47f; omega
  try replace h46f := of_decide_eq_false h46f
  refine AW.rseq ?_
  refine AWL.y rfl rfl (B rfl) (Yv.eql rfl (E rfl rfl) (E rfl rfl)) ?_
  refine AWL.y rfl rfl (B rfl) (Yv.assign rfl (E rfl rfl)) ?_
  refine AWL.nil ?_
  refine AW.cond rfl (fun h48t => ?_) (fun h48f => ?_)
  ·
   try replace h48t := of_decide_eq_true h48t
   refine AW.skip ?_
   refine AW.cond rfl (fun h49t => ?_) (fun h49f => ?_)
   ·
    try replace h49t := of_decide_eq_true h49t
    refine AW.exit ?_
    refine AW.seq ?_
    refine AW.rseq ?_
    refine AWL.y rfl rfl (B rfl) (Yv.assign rfl (E rfl rfl)) ?_
    refine AWL.y rfl rfl (B rfl) (Yv.assign rfl (E rfl rfl)) ?_
    refine AWL.nil ?_
    refine AW.ret (retI (.tmp rfl (.tmp rfl .nil)) ?_)
    rw [h48t]; rfl
   · exfalso; replace h49f := of_decide_eq_false h49f; omega
  try replace h48f := of_decide_eq_false h48f
  refine AW.rseq ?_
  refine AWL.y rfl rfl (B rfl) (Yv.eql rfl (E rfl rfl) (E rfl rfl)) ?_
  refine AWL.y rfl rfl (B rfl) (Yv.assign rfl (E rfl rfl)) ?_
  refine AWL.nil ?_
  refine AW.cond rfl (fun h50t => ?_) (fun h50f => ?_)
  ·
   try replace h50t := of_decide_eq_true h50t
   refine AW.skip ?_
   refine AW.cond rfl (fun h51t => ?_) (fun h51f => ?_)
   ·
    try replace h51t := of_decide_eq_true h51t
    refine AW.exit ?_
    refine AW.seq ?_
    refine AW.rseq ?_
    refine AWL.y rfl rfl (B rfl) (Yv.assign rfl (E rfl rfl)) ?_
    refine AWL.y rfl rfl (B rfl) (Yv.assign rfl (E rfl rfl)) ?_
    refine AWL.nil ?_
    refine AW.ret (retI (.tmp rfl (.tmp rfl .nil)) ?_)
    rw [h50t]; rfl
   · exfalso; replace h51f := of_decide_eq_false h51f; omega
  try replace h50f := of_decide_eq_false h50f
  refine AW.rseq ?_
  refine AWL.y rfl rfl (B rfl) (Yv.eql rfl (E rfl rfl) (E rfl rfl)) ?_
  refine AWL.y rfl rfl (B rfl) (Yv.assign rfl (E rfl rfl)) ?_
  refine AWL.nil ?_
  refine AW.cond rfl (fun h52t => ?_) (fun h52f => ?_)
  ·
   try replace h52t := of_decide_eq_true h52t
   refine AW.skip ?_
   refine AW.cond rfl (fun h53t => ?_) (fun h53f => ?_)
   ·
    try replace h53t := of_decide_eq_true h53t
    refine AW.exit ?_
    refine AW.seq ?_
    refine AW.rseq ?_
    refine AWL.y rfl rfl (B rfl) (Yv.assign rfl (E rfl rfl)) ?_
    refine AWL.y rfl rfl (B rfl) (Yv.assign rfl (E rfl rfl)) ?_
    refine AWL.nil ?_
    refine AW.ret (retI (.tmp rfl (.tmp rfl .nil)) ?_)
    rw [h52t]; rfl
   · exfalso; replace h53f := of_decide_eq_false h53f; omega
  try replace h52f := of_decide_eq_false h52f
  refine AW.rseq ?_
  refine AWL.y rfl rfl (B rfl) (Yv.eql rfl (E rfl rfl) (E rfl rfl)) ?_
  refine AWL.y rfl rfl (B rfl) (Yv.assign rfl (E rfl rfl)) ?_
  refine AWL.nil ?_
  refine AW.cond rfl (fun h54t => ?_) (fun h54f => ?_)
  ·
   try replace h54t := of_decide_eq_true h54t
   refine AW.skip ?_
   refine AW.cond rfl (fun h55t => ?_) (fun h55f => ?_)
   ·
    try replace h55t := of_decide_eq_true h55t
    refine AW.exit ?_
    refine AW.seq ?_
    refine AW.rseq ?_
    refine AWL.y rfl rfl (B rfl) (Yv.assign rfl (E rfl rfl)) ?_
    refine AWL.y rfl rfl (B rfl) (Yv.assign rfl (E rfl rfl)) ?_
    refine AWL.nil ?_
    refine AW.ret (retI (.tmp rfl (.tmp rfl .nil)) ?_)
    rw [h54t]; rfl
   · exfalso; replace h55f := of_decide_eq_false h55f; omega
  try replace h54f := of_decide_eq_false h54f
  refine AW.region ?_
  refine AWL.y rfl rfl (B rfl) (Yv.eql rfl (E rfl rfl) (E rfl rfl)) ?_
  refine AWL.y rfl rfl (B rfl) (Yv.assign rfl (E rfl rfl)) ?_
  refine AWL.nil ?_
  refine AW.cond rfl (fun h56t => ?_) (fun h56f => ?_)
  ·
   try replace h56t := of_decide_eq_true h56t
   refine AW.exit ?_
   refine AW.seq ?_
   refine AW.rseq ?_
   refine AWL.y rfl rfl (B rfl) (Yv.assign rfl (E rfl rfl)) ?_
   refine AWL.y rfl rfl (B rfl) (Yv.assign rfl (E rfl rfl)) ?_
   refine AWL.nil ?_
   refine AW.ret (retI (.tmp rfl (.tmp rfl .nil)) ?_)
   rw [h56t]; rfl
  try replace h56f := of_decide_eq_false h56f
  refine AW.skip ?_
  refine AW.seq ?_
  refine AW.seq ?_
  refine AW.rseq ?_
  refine AWL.y rfl rfl (B rfl) (Yv.eql rfl (E rfl rfl) (E rfl rfl)) ?_
  refine AWL.y rfl rfl (B rfl) (Yv.assign rfl (E rfl rfl)) ?_
  refine AWL.nil ?_
  refine AW.cond rfl (fun h57t => ?_) (fun h57f => ?_)
  ·
   try replace h57t := of_decide_eq_true h57t
   refine AW.skip ?_
   refine AW.cond rfl (fun h58t => ?_) (fun h58f => ?_)
   ·
    try replace h58t := of_decide_eq_true h58t
    refine AW.exit ?_
    refine AW.seq ?_
    refine AW.rseq ?_
    refine AWL.y rfl rfl (B rfl) (Yv.assign rfl (E rfl rfl)) ?_
    refine AWL.y rfl rfl (B rfl) (Yv.assign rfl (E rfl rfl)) ?_
    refine AWL.nil ?_
    refine AW.ret (retI (.tmp rfl (.tmp rfl .nil)) ?_)
    rw [h57t]; rfl
   · exfalso; replace h58f := of_decide_eq_false h58f; omega
  try replace h57f := of_decide_eq_false h57f
  refine AW.region ?_
  refine AWL.y rfl rfl (B rfl) (Yv.eql rfl (E rfl rfl) (E rfl rfl)) ?_
  refine AWL.y rfl rfl (B rfl) (Yv.assign rfl (E rfl rfl)) ?_
  refine AWL.nil ?_
  refine AW.cond rfl (fun h59t => ?_) (fun h59f => ?_)
  ·
   try replace h59t := of_decide_eq_true h59t
   refine AW.exit ?_
   refine AW.seq ?_
   refine AW.rseq ?_
   refine AWL.y rfl rfl (B rfl) (Yv.assign rfl (E rfl rfl)) ?_
   refine AWL.y rfl rfl (B rfl) (Yv.assign rfl (E rfl rfl)) ?_
   refine AWL.nil ?_
   refine AW.ret (retI (.tmp rfl (.tmp rfl .nil)) ?_)
   rw [h59t]; rfl
  try replace h59f := of_decide_eq_false h59f
  refine AW.skip ?_
  refine AW.seq ?_
  refine AW.rseq ?_
  refine AWL.y rfl rfl (B rfl) (Yv.eql rfl (E rfl rfl) (E rfl rfl)) ?_
  refine AWL.y rfl rfl (B rfl) (Yv.assign rfl (E rfl rfl)) ?_
  refine AWL.nil ?_
  refine AW.cond rfl (fun h60t => ?_) (fun h60f => ?_)
  ·
   try replace h60t := of_decide_eq_true h60t
   refine AW.exit ?_
   refine AW.seq ?_
   refine AW.rseq ?_
   refine AWL.y rfl rfl (B rfl) (Yv.assign rfl (E rfl rfl)) ?_
   refine AWL.y rfl rfl (B rfl) (Yv.assign rfl (E rfl rfl)) ?_
   refine AWL.nil ?_
   refine AW.ret (retI (.tmp rfl (.tmp rfl .nil)) ?_)
   rw [h60t]; rfl
  try replace h60f := of_decide_eq_false h60f
  refine AW.skip ?_
  refine AW.seq ?_
  refine AW.seq ?_
  refine AW.rseq ?_
  refine AWL.y rfl rfl (B rfl) (Yv.eql rfl (E rfl rfl) (E rfl rfl)) ?_
  refine AWL.y rfl rfl (B rfl) (Yv.assign rfl (E rfl rfl)) ?_
  refine AWL.nil ?_
  refine AW.cond rfl (fun h61t => ?_) (fun h61f => ?_)
  ·
   try replace h61t := of_decide_eq_true h61t
   refine AW.skip ?_
   refine AW.cond rfl (fun h62t => ?_) (fun h62f => ?_)
   ·
    try replace h62t := of_decide_eq_true h62t
    refine AW.exit ?_
    refine AW.seq ?_
    refine AW.rseq ?_
    refine AWL.y rfl rfl (B rfl) (Yv.assign rfl (E rfl rfl)) ?_
    refine AWL.y rfl rfl (B rfl) (Yv.assign rfl (E rfl rfl)) ?_
    refine AWL.nil ?_
    refine AW.ret (retI (.tmp rfl (.tmp rfl .nil)) ?_)
    rw [h61t]; rfl
   · exfalso; replace h62f := of_decide_eq_false h62f; omega
  try replace h61f := of_decide_eq_false h61f
  refine AW.rseq ?_
  refine AWL.y rfl rfl (B rfl) (Yv.eql rfl (E rfl rfl) (E rfl rfl)) ?_
  refine AWL.y rfl rfl (B rfl) (Yv.assign rfl (E rfl rfl)) ?_
  refine AWL.nil ?_
  refine AW.cond rfl (fun h63t => ?_) (fun h63f => ?_)
  ·
   try replace h63t := of_decide_eq_true h63t
   refine AW.skip ?_
   refine AW.cond rfl (fun h64t => ?_) (fun h64f => ?_)
   ·
    try replace h64t := of_decide_eq_true h64t
    refine AW.exit ?_
    refine AW.seq ?_
    refine AW.rseq ?_
    refine AWL.y rfl rfl (B rfl) (Yv.assign rfl (E rfl rfl)) ?_
    refine AWL.y rfl rfl (B rfl) (Yv.assign rfl (E rfl rfl)) ?_
    refine AWL.nil ?_
    refine AW.ret (retI (.tmp rfl (.tmp rfl .nil)) ?_)
    rw [h63t]; rfl
   · exfalso; replace h64f := of_decide_eq_false h64f; omega
  try replace h63f := of_decide_eq_false h63f
  refine AW.rseq ?_
  refine AWL.y rfl rfl (B rfl) (Yv.eql rfl (E rfl rfl) (E rfl rfl)) ?_
  refine AWL.y rfl rfl (B rfl) (Yv.assign rfl (E rfl rfl)) ?_
  refine AWL.nil ?_
  refine AW.cond rfl (fun h65t => ?_) (fun h65f => ?_)
  ·
   try replace h65t := of_decide_eq_true h65t
   refine AW.skip ?_
   refine AW.cond rfl (fun h66t => ?_) (fun h66f => ?_)
   ·
    try replace h66t := of_decide_eq_true h66t
    refine AW.exit ?_
    refine AW.seq ?_
    refine AW.rseq ?_
    refine AWL.y rfl rfl (B rfl) (Yv.assign rfl (E rfl rfl)) ?_
    refine AWL.y rfl rfl (B rfl) (Yv.assign rfl (E rfl rfl)) ?_
    refine AWL.nil ?_
    refine AW.ret (retI (.tmp rfl (.tmp rfl .nil)) ?_)
    rw [h65t]; rfl
   · exfalso; replace h66f := of_decide_eq_false h66f; omega
  try replace h65f := of_decide_eq_false h65f
  refine AW.rseq ?_
  refine AWL.y rfl rfl (B rfl) (Yv.eql rfl (E rfl rfl) (E rfl rfl)) ?_
  refine AWL.y rfl rfl (B rfl) (Yv.assign rfl (E rfl rfl)) ?_
  refine AWL.nil ?_
  refine AW.cond rfl (fun h67t => ?_) (fun h67f => ?_)
  ·
   try replace h67t := of_decide_eq_true h67t
   refine AW.skip ?_
   refine AW.cond rfl (fun h68t => ?_) (fun h68f => ?_)
   ·
    try replace h68t := of_decide_eq_true h68t
    refine AW.exit ?_
    refine AW.seq ?_
    refine AW.rseq ?_
    refine AWL.y rfl rfl (B rfl) (Yv.assign rfl (E rfl rfl)) ?_
    refine AWL.y rfl rfl (B rfl) (Yv.assign rfl (E rfl rfl)) ?_
    refine AWL.nil ?_
    refine AW.ret (retI (.tmp rfl (.tmp rfl .nil)) ?_)
    rw [h67t]; rfl
   · exfalso; replace h68f := of_decide_eq_false h68f; omega
  try replace h67f := of_decide_eq_false h67f
  refine AW.rseq ?_
  refine AWL.y rfl rfl (B rfl) (Yv.eql rfl (E rfl rfl) (E rfl rfl)) ?_
  refine AWL.y rfl rfl (B rfl) (Yv.assign rfl (E rfl rfl)) ?_
  refine AWL.nil ?_
  refine AW.cond rfl (fun h69t => ?_) (fun h69f => ?_)
  ·
   try replace h69t := of_decide_eq_true h69t
   refine AW.skip ?_
   refine AW.cond rfl (fun h70t => ?_) (fun h70f => ?_)
   ·
    try replace h70t := of_decide_eq_true h70t
    refine AW.exit ?_
    refine AW.seq ?_
    refine AW.rseq ?_
    refine AWL.y rfl rfl (B rfl) (Yv.assign rfl (E rfl rfl)) ?_
    refine AWL.y rfl rfl (B rfl) (Yv.assign rfl (E rfl rfl)) ?_
    refine AWL.nil ?_
    refine AW.ret (retI (.tmp rfl (.tmp rfl .nil)) ?_)
    rw [h69t]; rfl
   · exfalso; replace h70f := of_decide_eq_false h70f; omega
  try replace h69f := of_decide_eq_false h69f
  refine AW.rseq ?_
  refine AWL.y rfl rfl (B rfl) (Yv.eql rfl (E rfl rfl) (E rfl rfl)) ?_
  refine AWL.y rfl rfl (B rfl) (Yv.assign rfl (E rfl rfl)) ?_
  refine AWL.nil ?_
  refine AW.cond rfl (fun h71t => ?_) (fun h71f => ?_)
  ·
   try replace h71t := of_decide_eq_true h71t
   refine AW.skip ?_
   refine AW.cond rfl (fun h72t => ?_) (fun h72f => ?_)
   ·
    try replace h72t := of_decide_eq_true h72t
    refine AW.exit ?_
    refine AW.seq ?_
    refine AW.rseq ?_
    refine AWL.y rfl rfl (B rfl) (Yv.assign rfl (E rfl rfl)) ?_
    refine AWL.y rfl rfl (B rfl) (Yv.assign rfl (E rfl rfl)) ?_
    refine AWL.nil ?_
    refine AW.ret (retI (.tmp rfl (.tmp rfl .nil)) ?_)
    rw [h71t]; rfl
   · exfalso; replace h72f := of_decide_eq_false h72f; omega
  try replace h71f := of_decide_eq_false h71f
  refine AW.rseq ?_
  refine AWL.y rfl rfl (B rfl) (Yv.eql rfl (E rfl rfl) (E rfl rfl)) ?_
  refine AWL.y rfl rfl (B rfl) (Yv.assign rfl (E rfl rfl)) ?_
  refine AWL.nil ?_
  refine AW.cond rfl (fun h73t => ?_) (fun h73f => ?_)
  ·
   try replace h73t := of_decide_eq_true h73t
   refine AW.skip ?_
   refine AW.cond rfl (fun h74t => ?_) (fun h74f => ?_)
   ·
    try replace h74t := of_decide_eq_true h74t
    refine AW.exit ?_
    refine AW.seq ?_
    refine AW.rseq ?_
    refine AWL.y rfl rfl (B rfl) (Yv.assign rfl (E rfl rfl)) ?_
    refine AWL.y rfl rfl (B rfl) (Yv.assign rfl (E rfl rfl)) ?_
    refine AWL.nil ?_
    refine AW.ret (retI (.tmp rfl (.tmp rfl .nil)) ?_)
    rw [h73t]; rfl
   · exfalso; replace h74f := of_decide_eq_false h74f; omega
  try replace h73f := of_decide_eq_false h73f
  refine AW.rseq ?_
  refine AWL.y rfl rfl (B rfl) (Yv.eql rfl (E rfl rfl) (E rfl rfl)) ?_
  refine AWL.y rfl rfl (B rfl) (Yv.assign rfl (E rfl rfl)) ?_
  refine AWL.nil ?_
  refine AW.cond rfl (fun h75t => ?_) (fun h75f => ?_)
  ·
   try replace h75t := of_decide_eq_true h75t
   refine AW.skip ?_
   refine AW.cond rfl (fun h76t => ?_) (fun h76f => ?_)
   ·
    try replace h76t := of_decide_eq_true h76t
    refine AW.exit ?_
    refine AW.seq ?_
    refine AW.rseq ?_
    refine AWL.y rfl rfl (B rfl) (Yv.assign rfl (E rfl rfl)) ?_
    refine AWL.y rfl rfl (B rfl) (Yv.assign rfl (E rfl rfl)) ?_
    refine AWL.nil ?_
    refine AW.ret (retI (.tmp rfl (.tmp rfl .nil)) ?_)
    rw [h75t]; rfl
   · exfalso; replace h76f := of_decide_eq_false h76f; omega
  try replace h75f := of_decide_eq_false h75f
  refine AW.rseq ?_
  refine AWL.y rfl rfl (B rfl) (Yv.eql rfl (E rfl rfl) (E rfl rfl)) ?_
  refine AWL.y rfl rfl (B rfl) (Yv.assign rfl (E rfl rfl)) ?_
  refine AWL.nil ?_
  refine AW.cond rfl (fun h77t => ?_) (fun h77f => ?_)
  ·
   try replace h77t := of_decide_eq_true h77t
   refine AW.skip ?_
   refine AW.cond rfl (fun h78t => ?_) (fun h78f => ?_)
   ·
    try replace h78t := of_decide_eq_true h78t
    refine AW.exit ?_
    refine AW.seq ?_
    refine AW.rseq ?_
    refine AWL.y rfl rfl (B rfl) (Yv.assign rfl (E rfl rfl)) ?_
    refine AWL.y rfl rfl (B rfl) (Yv.assign rfl (E rfl rfl)) ?_
    refine AWL.nil ?_
    refine AW.ret (retI (.tmp rfl (.tmp rfl .nil)) ?_)
    rw [h77t]; rfl
   · exfalso; replace h78f := of_decide_eq_false h78f; omega
  try replace h77f := of_decide_eq_false h77f
  refine AW.rseq ?_
  refine AWL.y rfl rfl (B rfl) (Yv.eql rfl (E rfl rfl) (E rfl rfl)) ?_
  refine AWL.y rfl rfl (B rfl) (Yv.assign rfl (E rfl rfl)) ?_
  refine AWL.nil ?_
  refine AW.cond rfl (fun h79t => ?_) (fun h79f => ?_)
  ·
   try replace h79t := of_decide_eq_true h79t
   refine AW.skip ?_
   refine AW.cond rfl (fun h80t => ?_) (fun h80f => ?_)
   ·
    try replace h80t := of_decide_eq_true h80t
    refine AW.exit ?_
    refine AW.seq ?_
    refine AW.rseq ?_
    refine AWL.y rfl rfl (B rfl) (Yv.assign rfl (E rfl rfl)) ?_
    refine AWL.y rfl rfl (B rfl) (Yv.assign rfl (E rfl rfl)) ?_
    refine AWL.nil ?_
    refine AW.ret (retI (.tmp rfl (.tmp rfl .nil)) ?_)
    rw [h79t]; rfl
   · exfalso; replace h80f := of_decide_eq_false h80f; omega
  try replace h79f := of_decide_eq_false h79f
  refine AW.region ?_
  refine AWL.y rfl rfl (B rfl) (Yv.eql rfl (E rfl rfl) (E rfl rfl)) ?_
  refine AWL.y rfl rfl (B rfl) (Yv.assign rfl (E rfl rfl)) ?_
  refine AWL.nil ?_
  refine AW.cond rfl (fun h81t => ?_) (fun h81f => ?_)
  ·
   try replace h81t := of_decide_eq_true h81t
   refine AW.exit ?_
   refine AW.seq ?_
   refine AW.rseq ?_
   refine AWL.y rfl rfl (B rfl) (Yv.assign rfl (E rfl rfl)) ?_
   refine AWL.y rfl rfl (B rfl) (Yv.assign rfl (E rfl rfl)) ?_
   refine AWL.nil ?_
   refine AW.ret (retI (.tmp rfl (.tmp rfl .nil)) ?_)
   rw [h81t]; rfl
  try replace h81f := of_decide_eq_false h81f
  refine AW.skip ?_
  refine AW.seq ?_
  refine AW.rseq ?_
  refine AWL.y rfl rfl (B rfl) (Yv.eql rfl (E rfl rfl) (E rfl rfl)) ?_
  refine AWL.y rfl rfl (B rfl) (Yv.assign rfl (E rfl rfl)) ?_
  refine AWL.nil ?_
  refine AW.cond rfl (fun h82t => ?_) (fun h82f => ?_)
  ·
   try replace h82t := of_decide_eq_true h82t
   refine AW.exit ?_
   refine AW.seq ?_
   refine AW.rseq ?_
   refine AWL.y rfl rfl (B rfl) (Yv.assign rfl (E rfl rfl)) ?_
   refine AWL.y rfl rfl (B rfl) (Yv.assign rfl (E rfl rfl)) ?_
   refine AWL.nil ?_
   refine AW.ret (retI (.tmp rfl (.tmp rfl .nil)) ?_)
   rw [h82t]; rfl
  try replace h82f := of_decide_eq_false h82f
  refine AW.skip ?_
  refine AW.seq ?_
  refine AW.rseq ?_
  refine AWL.y rfl rfl (B rfl) (Yv.eql rfl (E rfl rfl) (E rfl rfl)) ?_
  refine AWL.y rfl rfl (B rfl) (Yv.assign rfl (E rfl rfl)) ?_
  refine AWL.nil ?_
  refine AW.cond rfl (fun h83t => ?_) (fun h83f => ?_)
  ·
   try replace h83t := of_decide_eq_true h83t
   refine AW.exit ?_
   refine AW.seq ?_
   refine AW.rseq ?_
   refine AWL.y rfl rfl (B rfl) (Yv.assign rfl (E rfl rfl)) ?_
   refine AWL.y rfl rfl (B rfl) (Yv.assign rfl (E rfl rfl)) ?_
   refine AWL.nil ?_
   refine AW.ret (retI (.tmp rfl (.tmp rfl .nil)) ?_)
   rw [h83t]; rfl
  try replace h83f := of_decide_eq_false h83f
  refine AW.skip ?_
  refine AW.seq ?_
  refine AW.rseq ?_
  refine AWL.y rfl rfl (B rfl) (Yv.eql rfl (E rfl rfl) (E rfl rfl)) ?_
  refine AWL.y rfl rfl (B rfl) (Yv.assign rfl (E rfl rfl)) ?_
  refine AWL.nil ?_
  refine AW.cond rfl (fun h84t => ?_) (fun h84f => ?_)
  ·
   try replace h84t := of_decide_eq_true h84t
   refine AW.exit ?_
   refine AW.seq ?_
   refine AW.rseq ?_
   refine AWL.y rfl rfl (B rfl) (Yv.assign rfl (E rfl rfl)) ?_
   refine AWL.y rfl rfl (B rfl) (Yv.assign rfl (E rfl rfl)) ?_
   refine AWL.nil ?_
   refine AW.ret (retI (.tmp rfl (.tmp rfl .nil)) ?_)
   rw [h84t]; rfl
  try replace h84f := of_decide_eq_false h84f
  refine AW.skip ?_
  refine AW.seq ?_
  refine AW.rseq ?_
  refine AWL.y rfl rfl (B rfl) (Yv.eql rfl (E rfl rfl) (E rfl rfl)) ?_
  refine AWL.y rfl rfl (B rfl) (Yv.assign rfl (E rfl rfl)) ?_
  refine AWL.nil ?_
  refine AW.cond rfl (fun h85t => ?_) (fun h85f => ?_)
  ·
   try replace h85t := of_decide_eq_true h85t
   refine AW.exit ?_
   refine AW.seq ?_
   refine AW.rseq ?_
   refine AWL.y rfl rfl (B rfl) (Yv.assign rfl (E rfl rfl)) ?_
   refine AWL.y rfl rfl (B rfl) (Yv.assign rfl (E rfl rfl)) ?_
   refine AWL.nil ?_
   refine AW.ret (retI (.tmp rfl (.tmp rfl .nil)) ?_)
   rw [h85t]; rfl
  try replace h85f := of_decide_eq_false h85f
  refine AW.skip ?_
  refine AW.seq ?_
  refine AW.rseq ?_
  refine AWL.y rfl rfl (B rfl) (Yv.eql rfl (E rfl rfl) (E rfl rfl)) ?_
  refine AWL.y rfl rfl (B rfl) (Yv.assign rfl (E rfl rfl)) ?_
  refine AWL.nil ?_
  refine AW.cond rfl (fun h86t => ?_) (fun h86f => ?_)
  ·
   try replace h86t := of_decide_eq_true h86t
   refine AW.exit ?_
   refine AW.seq ?_
   refine AW.rseq ?_
   refine AWL.y rfl rfl (B rfl) (Yv.assign rfl (E rfl rfl)) ?_
   refine AWL.y rfl rfl (B rfl) (Yv.assign rfl (E rfl rfl)) ?_
   refine AWL.nil ?_
   refine AW.ret (retI (.tmp rfl (.tmp rfl .nil)) ?_)
   rw [h86t]; rfl
  try replace h86f := of_decide_eq_false h86f
  refine AW.skip ?_
  refine AW.seq ?_
  refine AW.rseq ?_
  refine AWL.y rfl rfl (B rfl) (Yv.eql rfl (E rfl rfl) (E rfl rfl)) ?_
  refine AWL.y rfl rfl (B rfl) (Yv.assign rfl (E rfl rfl)) ?_
  refine AWL.nil ?_
  refine AW.cond rfl (fun h87t => ?_) (fun h87f => ?_)
  ·
   try replace h87t := of_decide_eq_true h87t
   refine AW.skip ?_
   refine AW.cond rfl (fun h88t => ?_) (fun h88f => ?_)
   ·
    try replace h88t := of_decide_eq_true h88t
    refine AW.exit ?_
    refine AW.seq ?_
    refine AW.rseq ?_
    refine AWL.y rfl rfl (B rfl) (Yv.assign rfl (E rfl rfl)) ?_
    refine AWL.y rfl rfl (B rfl) (Yv.assign rfl (E rfl rfl)) ?_
    refine AWL.nil ?_
    refine AW.ret (retI (.tmp rfl (.tmp rfl .nil)) ?_)
    rw [h87t]; rfl
   · exfalso; replace h88f := of_decide_eq_false h88f; omega
  try replace h87f := of_decide_eq_false h87f
  refine AW.rseq ?_
  refine AWL.y rfl rfl (B rfl) (Yv.eql rfl (E rfl rfl) (E rfl rfl)) ?_
  refine AWL.y rfl rfl (B rfl) (Yv.assign rfl (E rfl rfl)) ?_
  refine AWL.nil ?_
  refine AW.cond rfl (fun h89t => ?_) (fun h89f => ?_)
  ·
   try replace h89t := of_decide_eq_true h89t
   refine AW.skip ?_
   refine AW.cond rfl (fun h90t => ?_) (fun h90f => ?_)
   ·
    try replace h90t := of_decide_eq_true h90t
    refine AW.exit ?_
    refine AW.seq ?_
    refine AW.rseq ?_
    refine AWL.y rfl rfl (B rfl) (Yv.assign rfl (E rfl rfl)) ?_
    refine AWL.y rfl rfl (B rfl) (Yv.assign rfl (E rfl rfl)) ?_
    refine AWL.nil ?_
    refine AW.ret (retI (.tmp rfl (.tmp rfl .nil)) ?_)
    rw [h89t]; rfl
   · exfalso; replace h90f := of_decide_eq_false h90f; omega
  try replace h89f := of_decide_eq_false h89f
  refine AW.region ?_
  refine AWL.y rfl rfl (B rfl) (Yv.eql rfl (E rfl rfl) (E rfl rfl)) ?_
  refine AWL.y rfl rfl (B rfl) (Yv.assign rfl (E rfl rfl)) ?_
  refine AWL.nil ?_
  refine AW.cond rfl (fun h91t => ?_) (fun h91f => ?_)
  ·
   try replace h91t := of_decide_eq_true h91t
   refine AW.exit ?_
   refine AW.seq ?_
   refine AW.rseq ?_
   refine AWL.y rfl rfl (B rfl) (Yv.assign rfl (E rfl rfl)) ?_
   refine AWL.y rfl rfl (B rfl) (Yv.assign rfl (E rfl rfl)) ?_
   refine AWL.nil ?_
   refine AW.ret (retI (.tmp rfl (.tmp rfl .nil)) ?_)
   rw [h91t]; rfl
  try replace h91f := of_decide_eq_false h91f
  refine AW.skip ?_
  refine AW.exit ?_
  refine AW.rseq ?_
  refine AWL.y rfl rfl (B rfl) (Yv.assign rfl (E rfl rfl)) ?_
  refine AWL.y rfl rfl (B rfl) (Yv.assign rfl (E rfl rfl)) ?_
  refine AWL.nil ?_
  refine AW.ret (retI (.tmp rfl (.tmp rfl .nil)) ?_)
  rw [fields_out (by omega)]; rfl

set_option maxHeartbeats 400000 in
theorem in47 (n lo hi : Int) :
    ACalls Tryd.prog 36 [.v (.int .i64 n), .v (.int .i64 lo), .v (.int .i64 hi)] [] fun t_ S => t_ = .v (.bool (inF n lo hi)) := by
  refine ACalls.intro Tryd.func36 rfl Tryd.ntmps36 (Nat.le_of_ble_eq_true rfl) rfl fun X w0 => ?_
  refine AW.rseq ?_
  refine AWL.y rfl rfl (B rfl) (Yv.assign rfl (E rfl rfl)) ?_
  refine AWL.nil ?_
  refine AW.rseq ?_
  refine AWL.y rfl rfl (B rfl) (Yv.move rfl (E rfl rfl)) ?_
  refine AWL.y rfl rfl (B rfl) (Yv.move rfl (E rfl rfl)) ?_
  refine AWL.y rfl rfl (B rfl) (Yv.geq rfl (E rfl rfl) (E rfl rfl)) ?_
  refine AWL.y rfl rfl (B rfl) (Yv.move rfl (E rfl rfl)) ?_
  refine AWL.ygT rfl rfl rfl rfl (B rfl) (Yv.move rfl (E rfl rfl)) ?_
  refine AWL.ygT rfl rfl rfl rfl (B rfl) (Yv.move rfl (E rfl rfl)) ?_
  refine AWL.ygT rfl rfl rfl rfl (B rfl) (Yv.leq rfl (Eg rfl rfl id) (Eg rfl rfl id)) ?_
  refine AWL.y rfl rfl (B rfl) (Yv.pickAnd rfl (E rfl rfl) (Eg rfl rfl id)) ?_
  refine AWL.y rfl rfl (B rfl) (Yv.assign rfl (E rfl rfl)) ?_
  refine AWL.nil ?_
  refine AW.ret (retI (.tmp rfl .nil) ?_)
  rfl

set_option maxHeartbeats 400000 in
theorem small38 (n : Int) :
    ACalls Tryd.prog 31 [.v (.int .i64 n)] [] fun t_ S => t_ = .v (.bool (smallF n)) := by
  refine ACalls.intro Tryd.func31 rfl Tryd.ntmps31 (Nat.le_of_ble_eq_true rfl) rfl fun X w0 => ?_
  refine AW.rseq ?_
  refine AWL.y rfl rfl (B rfl) (Yv.assign rfl (E rfl rfl)) ?_
  refine AWL.nil ?_
  refine AW.rseq ?_
  refine AWL.y rfl rfl (B rfl) (Yv.move rfl (E rfl rfl)) ?_
  refine AWL.callP rfl rfl (B rfl) rfl ce_36 (E rfl rfl) (evsC (E rfl rfl) (evsC (E rfl rfl) (evsC (E rfl rfl) evs0))) (in47 n _ _) (fun t S h => h) ?_
  refine AWL.y rfl rfl (B rfl) (Yv.assign rfl (E rfl rfl)) ?_
  refine AWL.nil ?_
  refine AW.ret (retI (.tmp rfl .nil) ?_)
  rfl

set_option maxHeartbeats 400000 in
theorem sized49 (i : Ins) :
    ACalls Tryd.prog 38 [insT i] [] fun t_ S => t_ = .v (.bool (sizedF i)) := by
  refine ACalls.intro Tryd.func38 rfl Tryd.ntmps38 (Nat.le_of_ble_eq_true rfl) rfl fun X w0 => ?_
  refine AW.rseq ?_
  refine AWL.boxOp rfl rfl (B rfl) rfl (E rfl rfl) rfl (fun b1 => ?_)
  refine AWL.y rfl rfl (B rfl) (Yv.assign rfl (E rfl rfl)) ?_
  refine AWL.nil ?_
  refine AW.seq ?_
  refine AW.rseq ?_
  refine AWL.y rfl rfl (B rfl) (Yv.fieldBox rfl fo_23_0 (E rfl rfl)) ?_
  refine AWL.y rfl rfl (B rfl) (Yv.loadBox rfl ag_3 (i := 0) rfl (E rfl rfl) rfl) ?_
  refine AWL.nil ?_
  refine AW.block ?_
  refine AW.seq ?_
  refine AW.rseq ?_
  refine AWL.y rfl rfl (B rfl) (Yv.eql rfl (E rfl rfl) (E rfl rfl)) ?_
  refine AWL.y rfl rfl (B rfl) (Yv.assign rfl (E rfl rfl)) ?_
  refine AWL.nil ?_
  refine AW.cond rfl (fun h0t => ?_) (fun h0f => ?_)
  ·
   try replace h0t := of_decide_eq_true h0t
   refine AW.skip ?_
   refine AW.cond rfl (fun h1t => ?_) (fun h1f => ?_)
   ·
    try replace h1t := of_decide_eq_true h1t
    refine AW.rseq ?_
    refine AWL.y rfl rfl (B rfl) (Yv.fieldBox rfl fo_23_4 (E rfl rfl)) ?_
    refine AWL.y rfl rfl (B rfl) (Yv.loadBox rfl ag_3 (i := 0) rfl (E rfl rfl) rfl) ?_
    refine AWL.y rfl rfl (B rfl) (Yv.eql rfl (E rfl rfl) (E rfl rfl)) ?_
    refine AWL.y rfl rfl (B rfl) (Yv.move rfl (E rfl rfl)) ?_
    refine AWL.ygF rfl rfl rfl rfl (B rfl) (Yv.fieldBox rfl fo_23_4 (E rfl rfl)) ?_
    refine AWL.ygF rfl rfl rfl rfl (B rfl) (Yv.loadBox rfl ag_3 (i := 0) rfl (Eg rfl rfl id) rfl) ?_
    refine AWL.ygF rfl rfl rfl rfl (B rfl) (Yv.eql rfl (Eg rfl rfl id) (E rfl rfl)) ?_
    refine AWL.y rfl rfl (B rfl) (Yv.pickOr (t := .const (.bool true)) rfl (E rfl rfl) (Eg rfl rfl id)) ?_
    refine AWL.y rfl rfl (B rfl) (Yv.move rfl (E rfl rfl)) ?_
    refine AWL.ygF rfl rfl rfl rfl (B rfl) (Yv.fieldBox rfl fo_23_4 (E rfl rfl)) ?_
    refine AWL.ygF rfl rfl rfl rfl (B rfl) (Yv.loadBox rfl ag_3 (i := 0) rfl (Eg rfl rfl id) rfl) ?_
    refine AWL.ygF rfl rfl rfl rfl (B rfl) (Yv.eql rfl (Eg rfl rfl id) (E rfl rfl)) ?_
    refine AWL.y rfl rfl (B rfl) (Yv.pickOr (t := .const (.bool true)) rfl (E rfl rfl) (Eg rfl rfl id)) ?_
    refine AWL.y rfl rfl (B rfl) (Yv.move rfl (E rfl rfl)) ?_
    refine AWL.ygT rfl rfl rfl rfl (B rfl) (Yv.fieldBox rfl fo_23_5 (E rfl rfl)) ?_
    refine AWL.ygT rfl rfl rfl rfl (B rfl) (Yv.loadBox rfl ag_2 (i := 0) rfl (Eg rfl rfl id) rfl) ?_
    refine AWL.callPgT rfl rfl rfl rfl (B rfl) rfl ce_31 (E rfl rfl) (evsC (Eg rfl rfl id) evs0) (fun hg => small38 i.imm) (fun t S h => h) ?_
    refine AWL.y rfl rfl (B rfl) (Yv.pickAnd rfl (E rfl rfl) (Eg rfl rfl id)) ?_
    refine AWL.y rfl rfl (B rfl) (Yv.assign rfl (E rfl rfl)) ?_
    refine AWL.nil ?_
    refine AW.ret (retI (.tmp rfl .nil) ?_)
    show T.v (.bool _) = T.v (.bool _)
    rw [sizedF, if_pos (by omega)]
   · exfalso; replace h1f := of_decide_eq_false h1f; omega
  try replace h0f := of_decide_eq_false h0f
  refine AW.region ?_
  refine AWL.y rfl rfl (B rfl) (Yv.eql rfl (E rfl rfl) (E rfl rfl)) ?_
  refine AWL.y rfl rfl (B rfl) (Yv.assign rfl (E rfl rfl)) ?_
  refine AWL.nil ?_
  refine AW.cond rfl (fun h2t => ?_) (fun h2f => ?_)
  ·
   try replace h2t := of_decide_eq_true h2t
   refine AW.rseq ?_
   refine AWL.y rfl rfl (B rfl) (Yv.fieldBox rfl fo_23_4 (E rfl rfl)) ?_
   refine AWL.y rfl rfl (B rfl) (Yv.loadBox rfl ag_3 (i := 0) rfl (E rfl rfl) rfl) ?_
   refine AWL.y rfl rfl (B rfl) (Yv.eql rfl (E rfl rfl) (E rfl rfl)) ?_
   refine AWL.y rfl rfl (B rfl) (Yv.move rfl (E rfl rfl)) ?_
   refine AWL.ygF rfl rfl rfl rfl (B rfl) (Yv.fieldBox rfl fo_23_4 (E rfl rfl)) ?_
   refine AWL.ygF rfl rfl rfl rfl (B rfl) (Yv.loadBox rfl ag_3 (i := 0) rfl (Eg rfl rfl id) rfl) ?_
   refine AWL.ygF rfl rfl rfl rfl (B rfl) (Yv.eql rfl (Eg rfl rfl id) (E rfl rfl)) ?_
   refine AWL.y rfl rfl (B rfl) (Yv.pickOr (t := .const (.bool true)) rfl (E rfl rfl) (Eg rfl rfl id)) ?_
   refine AWL.y rfl rfl (B rfl) (Yv.move rfl (E rfl rfl)) ?_
   refine AWL.ygF rfl rfl rfl rfl (B rfl) (Yv.fieldBox rfl fo_23_4 (E rfl rfl)) ?_
   refine AWL.ygF rfl rfl rfl rfl (B rfl) (Yv.loadBox rfl ag_3 (i := 0) rfl (Eg rfl rfl id) rfl) ?_
   refine AWL.ygF rfl rfl rfl rfl (B rfl) (Yv.eql rfl (Eg rfl rfl id) (E rfl rfl)) ?_
   refine AWL.y rfl rfl (B rfl) (Yv.pickOr (t := .const (.bool true)) rfl (E rfl rfl) (Eg rfl rfl id)) ?_
   refine AWL.y rfl rfl (B rfl) (Yv.move rfl (E rfl rfl)) ?_
   refine AWL.ygT rfl rfl rfl rfl (B rfl) (Yv.fieldBox rfl fo_23_5 (E rfl rfl)) ?_
   refine AWL.ygT rfl rfl rfl rfl (B rfl) (Yv.loadBox rfl ag_2 (i := 0) rfl (Eg rfl rfl id) rfl) ?_
   refine AWL.callPgT rfl rfl rfl rfl (B rfl) rfl ce_31 (E rfl rfl) (evsC (Eg rfl rfl id) evs0) (fun hg => small38 i.imm) (fun t S h => h) ?_
   refine AWL.y rfl rfl (B rfl) (Yv.pickAnd rfl (E rfl rfl) (Eg rfl rfl id)) ?_
   refine AWL.y rfl rfl (B rfl) (Yv.assign rfl (E rfl rfl)) ?_
   refine AWL.nil ?_
   refine AW.ret (retI (.tmp rfl .nil) ?_)
   show T.v (.bool _) = T.v (.bool _)
   rw [sizedF, if_pos (by omega)]
  try replace h2f := of_decide_eq_false h2f
  refine AW.seq ?_
  refine AW.rseq ?_
  refine AWL.y rfl rfl (B rfl) (Yv.eql rfl (E rfl rfl) (E rfl rfl)) ?_
  refine AWL.y rfl rfl (B rfl) (Yv.assign rfl (E rfl rfl)) ?_
  refine AWL.nil ?_
  refine AW.cond rfl (fun h3t => ?_) (fun h3f => ?_)
  ·
   try replace h3t := of_decide_eq_true h3t
   refine AW.skip ?_
   refine AW.cond rfl (fun h4t => ?_) (fun h4f => ?_)
   ·
    try replace h4t := of_decide_eq_true h4t
    refine AW.rseq ?_
    refine AWL.y rfl rfl (B rfl) (Yv.fieldBox rfl fo_23_4 (E rfl rfl)) ?_
    refine AWL.y rfl rfl (B rfl) (Yv.loadBox rfl ag_3 (i := 0) rfl (E rfl rfl) rfl) ?_
    refine AWL.y rfl rfl (B rfl) (Yv.eql rfl (E rfl rfl) (E rfl rfl)) ?_
    refine AWL.y rfl rfl (B rfl) (Yv.move rfl (E rfl rfl)) ?_
    refine AWL.ygT rfl rfl rfl rfl (B rfl) (Yv.fieldBox rfl fo_23_5 (E rfl rfl)) ?_
    refine AWL.ygT rfl rfl rfl rfl (B rfl) (Yv.loadBox rfl ag_2 (i := 0) rfl (Eg rfl rfl id) rfl) ?_
    refine AWL.callPgT rfl rfl rfl rfl (B rfl) rfl ce_31 (E rfl rfl) (evsC (Eg rfl rfl id) evs0) (fun hg => small38 i.imm) (fun t S h => h) ?_
    refine AWL.y rfl rfl (B rfl) (Yv.pickAnd rfl (E rfl rfl) (Eg rfl rfl id)) ?_
    refine AWL.y rfl rfl (B rfl) (Yv.move rfl (E rfl rfl)) ?_
    refine AWL.ygF rfl rfl rfl rfl (B rfl) (Yv.fieldBox rfl fo_23_4 (E rfl rfl)) ?_
    refine AWL.ygF rfl rfl rfl rfl (B rfl) (Yv.loadBox rfl ag_3 (i := 0) rfl (Eg rfl rfl id) rfl) ?_
    refine AWL.ygF rfl rfl rfl rfl (B rfl) (Yv.eql rfl (Eg rfl rfl id) (E rfl rfl)) ?_
    refine AWL.ygF rfl rfl rfl rfl (B rfl) (Yv.move rfl (Eg rfl rfl id)) ?_
    refine AWL.ygT rfl rfl rfl rfl (B rfl) (Yv.fieldBox rfl fo_23_5 (E rfl rfl)) ?_
    refine AWL.ygT rfl rfl rfl rfl (B rfl) (Yv.loadBox rfl ag_2 (i := 0) rfl (Eg rfl rfl id) rfl) ?_
    refine AWL.callPgT rfl rfl rfl rfl (B rfl) rfl ce_36 (E rfl rfl) (evsC (Eg rfl rfl id) (evsC (E rfl rfl) (evsC (E rfl rfl) evs0))) (fun hg => in47 i.imm _ _) (fun t S h => h) ?_
    refine AWL.ygF rfl rfl rfl rfl (B rfl) (Yv.pickAnd rfl (Eg rfl rfl id) (Eg rfl rfl id)) ?_
    refine AWL.y rfl rfl (B rfl) (Yv.pickOr (t := .const (.bool true)) rfl (E rfl rfl) (Eg rfl rfl id)) ?_
    refine AWL.y rfl rfl (B rfl) (Yv.assign rfl (E rfl rfl)) ?_
    refine AWL.nil ?_
    refine AW.ret (retI (.tmp rfl .nil) ?_)
    show T.v (.bool _) = T.v (.bool _)
    rw [sizedF, if_neg (by omega), if_pos (by omega)]
   · exfalso; replace h4f := of_decide_eq_false h4f; omega
  try replace h3f := of_decide_eq_false h3f
  refine AW.region ?_
  refine AWL.y rfl rfl (B rfl) (Yv.eql rfl (E rfl rfl) (E rfl rfl)) ?_
  refine AWL.y rfl rfl (B rfl) (Yv.assign rfl (E rfl rfl)) ?_
  refine AWL.nil ?_
  refine AW.cond rfl (fun h5t => ?_) (fun h5f => ?_)
  ·
   try replace h5t := of_decide_eq_true h5t
   refine AW.rseq ?_
   refine AWL.y rfl rfl (B rfl) (Yv.fieldBox rfl fo_23_4 (E rfl rfl)) ?_
   refine AWL.y rfl rfl (B rfl) (Yv.loadBox rfl ag_3 (i := 0) rfl (E rfl rfl) rfl) ?_
   refine AWL.y rfl rfl (B rfl) (Yv.eql rfl (E rfl rfl) (E rfl rfl)) ?_
   refine AWL.y rfl rfl (B rfl) (Yv.move rfl (E rfl rfl)) ?_
   refine AWL.ygT rfl rfl rfl rfl (B rfl) (Yv.fieldBox rfl fo_23_5 (E rfl rfl)) ?_
   refine AWL.ygT rfl rfl rfl rfl (B rfl) (Yv.loadBox rfl ag_2 (i := 0) rfl (Eg rfl rfl id) rfl) ?_
   refine AWL.callPgT rfl rfl rfl rfl (B rfl) rfl ce_31 (E rfl rfl) (evsC (Eg rfl rfl id) evs0) (fun hg => small38 i.imm) (fun t S h => h) ?_
   refine AWL.y rfl rfl (B rfl) (Yv.pickAnd rfl (E rfl rfl) (Eg rfl rfl id)) ?_
   refine AWL.y rfl rfl (B rfl) (Yv.move rfl (E rfl rfl)) ?_
   refine AWL.ygF rfl rfl rfl rfl (B rfl) (Yv.fieldBox rfl fo_23_4 (E rfl rfl)) ?_
   refine AWL.ygF rfl rfl rfl rfl (B rfl) (Yv.loadBox rfl ag_3 (i := 0) rfl (Eg rfl rfl id) rfl) ?_
   refine AWL.ygF rfl rfl rfl rfl (B rfl) (Yv.eql rfl (Eg rfl rfl id) (E rfl rfl)) ?_
   refine AWL.ygF rfl rfl rfl rfl (B rfl) (Yv.move rfl (Eg rfl rfl id)) ?_
   refine AWL.ygT rfl rfl rfl rfl (B rfl) (Yv.fieldBox rfl fo_23_5 (E rfl rfl)) ?_
   refine AWL.ygT rfl rfl rfl rfl (B rfl) (Yv.loadBox rfl ag_2 (i := 0) rfl (Eg rfl rfl id) rfl) ?_
   refine AWL.callPgT rfl rfl rfl rfl (B rfl) rfl ce_36 (E rfl rfl) (evsC (Eg rfl rfl id) (evsC (E rfl rfl) (evsC (E rfl rfl) evs0))) (fun hg => in47 i.imm _ _) (fun t S h => h) ?_
   refine AWL.ygF rfl rfl rfl rfl (B rfl) (Yv.pickAnd rfl (Eg rfl rfl id) (Eg rfl rfl id)) ?_
   refine AWL.y rfl rfl (B rfl) (Yv.pickOr (t := .const (.bool true)) rfl (E rfl rfl) (Eg rfl rfl id)) ?_
   refine AWL.y rfl rfl (B rfl) (Yv.assign rfl (E rfl rfl)) ?_
   refine AWL.nil ?_
   refine AW.ret (retI (.tmp rfl .nil) ?_)
   show T.v (.bool _) = T.v (.bool _)
   rw [sizedF, if_neg (by omega), if_pos (by omega)]
  try replace h5f := of_decide_eq_false h5f
  refine AW.seq ?_
  refine AW.rseq ?_
  refine AWL.y rfl rfl (B rfl) (Yv.eql rfl (E rfl rfl) (E rfl rfl)) ?_
  refine AWL.y rfl rfl (B rfl) (Yv.assign rfl (E rfl rfl)) ?_
  refine AWL.nil ?_
  refine AW.cond rfl (fun h6t => ?_) (fun h6f => ?_)
  ·
   try replace h6t := of_decide_eq_true h6t
   refine AW.skip ?_
   refine AW.cond rfl (fun h7t => ?_) (fun h7f => ?_)
   ·
    try replace h7t := of_decide_eq_true h7t
    refine AW.rseq ?_
    refine AWL.y rfl rfl (B rfl) (Yv.fieldBox rfl fo_23_5 (E rfl rfl)) ?_
    refine AWL.y rfl rfl (B rfl) (Yv.loadBox rfl ag_2 (i := 0) rfl (E rfl rfl) rfl) ?_
    refine AWL.callP rfl rfl (B rfl) rfl ce_36 (E rfl rfl) (evsC (E rfl rfl) (evsC (E rfl rfl) (evsC (E rfl rfl) evs0))) (in47 i.imm _ _) (fun t S h => h) ?_
    refine AWL.y rfl rfl (B rfl) (Yv.assign rfl (E rfl rfl)) ?_
    refine AWL.nil ?_
    refine AW.ret (retI (.tmp rfl .nil) ?_)
    show T.v (.bool _) = T.v (.bool _)
    rw [sizedF, if_neg (by omega), if_neg (by omega), if_pos (by omega)]
   · exfalso; replace h7f := of_decide_eq_false h7f; omega
  try replace h6f := of_decide_eq_false h6f
  refine AW.rseq ?_
  refine AWL.y rfl rfl (B rfl) (Yv.eql rfl (E rfl rfl) (E rfl rfl)) ?_
  refine AWL.y rfl rfl (B rfl) (Yv.assign rfl (E rfl rfl)) ?_
  refine AWL.nil ?_
  refine AW.cond rfl (fun h8t => ?_) (fun h8f => ?_)
  ·
   try replace h8t := of_decide_eq_true h8t
   refine AW.skip ?_
   refine AW.cond rfl (fun h9t => ?_) (fun h9f => ?_)
   ·
    try replace h9t := of_decide_eq_true h9t
    refine AW.rseq ?_
    refine AWL.y rfl rfl (B rfl) (Yv.fieldBox rfl fo_23_5 (E rfl rfl)) ?_
    refine AWL.y rfl rfl (B rfl) (Yv.loadBox rfl ag_2 (i := 0) rfl (E rfl rfl) rfl) ?_
    refine AWL.callP rfl rfl (B rfl) rfl ce_36 (E rfl rfl) (evsC (E rfl rfl) (evsC (E rfl rfl) (evsC (E rfl rfl) evs0))) (in47 i.imm _ _) (fun t S h => h) ?_
    refine AWL.y rfl rfl (B rfl) (Yv.assign rfl (E rfl rfl)) ?_
    refine AWL.nil ?_
    refine AW.ret (retI (.tmp rfl .nil) ?_)
    show T.v (.bool _) = T.v (.bool _)
    rw [sizedF, if_neg (by omega), if_neg (by omega), if_pos (by omega)]
   · exfalso; replace h9f := of_decide_eq_false h9f; omega
  try replace h8f := of_decide_eq_false h8f
  refine AW.region ?_
  refine AWL.y rfl rfl (B rfl) (Yv.eql rfl (E rfl rfl) (E rfl rfl)) ?_
  refine AWL.y rfl rfl (B rfl) (Yv.assign rfl (E rfl rfl)) ?_
  refine AWL.nil ?_
  refine AW.cond rfl (fun h10t => ?_) (fun h10f => ?_)
  ·
   try replace h10t := of_decide_eq_true h10t
   refine AW.rseq ?_
   refine AWL.y rfl rfl (B rfl) (Yv.fieldBox rfl fo_23_5 (E rfl rfl)) ?_
   refine AWL.y rfl rfl (B rfl) (Yv.loadBox rfl ag_2 (i := 0) rfl (E rfl rfl) rfl) ?_
   refine AWL.callP rfl rfl (B rfl) rfl ce_36 (E rfl rfl) (evsC (E rfl rfl) (evsC (E rfl rfl) (evsC (E rfl rfl) evs0))) (in47 i.imm _ _) (fun t S h => h) ?_
   refine AWL.y rfl rfl (B rfl) (Yv.assign rfl (E rfl rfl)) ?_
   refine AWL.nil ?_
   refine AW.ret (retI (.tmp rfl .nil) ?_)
   show T.v (.bool _) = T.v (.bool _)
   rw [sizedF, if_neg (by omega), if_neg (by omega), if_pos (by omega)]
  try replace h10f := of_decide_eq_false h10f
  refine AW.skip ?_
  refine AW.rseq ?_
  refine AWL.y rfl rfl (B rfl) (Yv.fieldBox rfl fo_23_0 (E rfl rfl)) ?_
  refine AWL.y rfl rfl (B rfl) (Yv.loadBox rfl ag_3 (i := 0) rfl (E rfl rfl) rfl) ?_
  refine AWL.y rfl rfl (B rfl) (Yv.eql rfl (E rfl rfl) (E rfl rfl)) ?_
  refine AWL.y rfl rfl (B rfl) (Yv.move rfl (E rfl rfl)) ?_
  refine AWL.ygF rfl rfl rfl rfl (B rfl) (Yv.fieldBox rfl fo_23_5 (E rfl rfl)) ?_
  refine AWL.ygF rfl rfl rfl rfl (B rfl) (Yv.loadBox rfl ag_2 (i := 0) rfl (Eg rfl rfl id) rfl) ?_
  refine AWL.callPgF rfl rfl rfl rfl (B rfl) rfl ce_31 (E rfl rfl) (evsC (Eg rfl rfl id) evs0) (fun hg => small38 i.imm) (fun t S h => h) ?_
  refine AWL.y rfl rfl (B rfl) (Yv.pickOr (t := .const (.bool true)) rfl (E rfl rfl) (Eg rfl rfl id)) ?_
  refine AWL.y rfl rfl (B rfl) (Yv.assign rfl (E rfl rfl)) ?_
  refine AWL.nil ?_
  refine AW.ret (retI (.tmp rfl .nil) ?_)
  show T.v (.bool _) = T.v (.bool _)
  rw [sizedF, if_neg (by omega), if_neg (by omega), if_neg (by omega)]

set_option maxHeartbeats 400000 in
theorem none48 (f has n : Int) (b : Nat) :
    ACalls Tryd.prog 37 [.v (.int .i64 has), .v (.int .i64 n), .v (.pointer (some ⟨b, 0, none⟩))] [.box b 3 [.v (.int .i64 f)]] (fun t_ S => t_ = .v (.bool (noneF f has n)) ∧ S = [.box b 3 [.v (.int .i64 f)]]) := by
  refine ACalls.intro Tryd.func37 rfl Tryd.ntmps37 (Nat.le_of_ble_eq_true rfl) rfl fun X w0 => ?_
  refine AW.rseq ?_
  refine AWL.y rfl rfl (B rfl) (Yv.assign rfl (E rfl rfl)) ?_
  refine AWL.nil ?_
  refine AW.rseq ?_
  refine AWL.y rfl rfl (B rfl) (Yv.loadBox rfl ag_3 (i := 0) rfl (E rfl rfl) rfl) ?_
  refine AWL.y rfl rfl (B rfl) (Yv.move rfl (E rfl rfl)) ?_
  refine AWL.y rfl rfl (B rfl) (Yv.bits rfl rfl (E rfl rfl) (E rfl rfl)) ?_
  refine AWL.y rfl rfl (B rfl) (Yv.neq rfl (E rfl rfl) (E rfl rfl)) ?_
  refine AWL.y rfl rfl (B rfl) (Yv.move rfl (E rfl rfl)) ?_
  refine AWL.ygF rfl rfl rfl rfl (B rfl) (Yv.move rfl (E rfl rfl)) ?_
  refine AWL.ygF rfl rfl rfl rfl (B rfl) (Yv.eql rfl (Eg rfl rfl id) (E rfl rfl)) ?_
  refine AWL.y rfl rfl (B rfl) (Yv.pickOr (t := .const (.bool true)) rfl (E rfl rfl) (Eg rfl rfl id)) ?_
  refine AWL.y rfl rfl (B rfl) (Yv.assign rfl (E rfl rfl)) ?_
  refine AWL.nil ?_
  refine AW.ret (retI (.tmp rfl .nil) ?_)
  exact ⟨rfl, rfl⟩

set_option maxHeartbeats 1000000 in
theorem valid27 (i : Ins) :
    ACalls Tryd.prog 12 [insT i] [] fun t_ S => t_ = .v (.bool (validF i)) := by
  refine ACalls.intro Tryd.func12 rfl Tryd.ntmps12 (Nat.le_of_ble_eq_true rfl) rfl fun X w0 => ?_
  refine AW.rseq ?_
  refine AWL.boxOp rfl rfl (B rfl) rfl (E rfl rfl) rfl (fun b1 => ?_)
  refine AWL.y rfl rfl (B rfl) (Yv.assign rfl (E rfl rfl)) ?_
  refine AWL.nil ?_
  refine AW.rseq ?_
  refine AWL.y rfl rfl (B rfl) (Yv.fieldBox rfl fo_23_0 (E rfl rfl)) ?_
  refine AWL.y rfl rfl (B rfl) (Yv.loadBox rfl ag_3 (i := 0) rfl (E rfl rfl) rfl) ?_
  refine AWL.callT rfl rfl (B rfl) rfl ce_35 (E rfl rfl) (evsC (E rfl rfl) evs0) (fields46 i.kind) ?_
  rintro t9 S9 rfl
  refine AWL.y rfl rfl (B rfl) (Yv.move rfl (E rfl rfl)) ?_
  refine AWL.y rfl rfl (B rfl) (Yv.extract rfl (E rfl rfl) rfl) ?_
  refine AWL.y rfl rfl (B rfl) (Yv.extract rfl (E rfl rfl) rfl) ?_
  refine AWL.allocOp rfl rfl (B rfl) rfl zc_3 (fun b3 => ?_)
  refine AWL.storeBox (i := 1) rfl rfl rfl ag_3 rfl (E rfl rfl) (E rfl rfl) rfl rfl (Nat.le_of_ble_eq_true rfl) ?_
  refine AWL.y rfl rfl (B rfl) (Yv.assign rfl (E rfl rfl)) ?_
  refine AWL.nil ?_
  refine AW.seq ?_
  refine AW.rseq ?_
  refine AWL.y rfl rfl (B rfl) (Yv.move rfl (E rfl rfl)) ?_
  refine AWL.y rfl rfl (B rfl) (Yv.not rfl (E rfl rfl)) ?_
  refine AWL.y rfl rfl (B rfl) (Yv.move rfl (E rfl rfl)) ?_
  refine AWL.ygF rfl rfl rfl rfl (B rfl) (Yv.fieldBox rfl fo_23_1 (E rfl rfl)) ?_
  refine AWL.ygF rfl rfl rfl rfl (B rfl) (Yv.loadBox rfl ag_3 (i := 0) rfl (Eg rfl rfl id) rfl) ?_
  refine AWL.callPgF rfl rfl rfl rfl (B rfl) rfl ce_36 (E rfl rfl) (evsC (Eg rfl rfl id) (evsC (E rfl rfl) (evsC (E rfl rfl) evs0))) (fun hg => in47 i.d 0 15) (fun t S h => h) ?_
  refine AWL.ygF rfl rfl rfl rfl (B rfl) (Yv.not rfl (Eg rfl rfl id)) ?_
  refine AWL.y rfl rfl (B rfl) (Yv.pickOr (t := .const (.bool true)) rfl (E rfl rfl) (Eg rfl rfl id)) ?_
  refine AWL.y rfl rfl (B rfl) (Yv.move rfl (E rfl rfl)) ?_
  refine AWL.ygF rfl rfl rfl rfl (B rfl) (Yv.fieldBox rfl fo_23_2 (E rfl rfl)) ?_
  refine AWL.ygF rfl rfl rfl rfl (B rfl) (Yv.loadBox rfl ag_3 (i := 0) rfl (Eg rfl rfl id) rfl) ?_
  refine AWL.callPgF rfl rfl rfl rfl (B rfl) rfl ce_36 (E rfl rfl) (evsC (Eg rfl rfl id) (evsC (E rfl rfl) (evsC (E rfl rfl) evs0))) (fun hg => in47 i.s 0 15) (fun t S h => h) ?_
  refine AWL.ygF rfl rfl rfl rfl (B rfl) (Yv.not rfl (Eg rfl rfl id)) ?_
  refine AWL.y rfl rfl (B rfl) (Yv.pickOr (t := .const (.bool true)) rfl (E rfl rfl) (Eg rfl rfl id)) ?_
  refine AWL.y rfl rfl (B rfl) (Yv.move rfl (E rfl rfl)) ?_
  refine AWL.ygF rfl rfl rfl rfl (B rfl) (Yv.fieldBox rfl fo_23_3 (E rfl rfl)) ?_
  refine AWL.ygF rfl rfl rfl rfl (B rfl) (Yv.loadBox rfl ag_3 (i := 0) rfl (Eg rfl rfl id) rfl) ?_
  refine AWL.callPgF rfl rfl rfl rfl (B rfl) rfl ce_36 (E rfl rfl) (evsC (Eg rfl rfl id) (evsC (E rfl rfl) (evsC (E rfl rfl) evs0))) (fun hg => in47 i.cond 0 15) (fun t S h => h) ?_
  refine AWL.ygF rfl rfl rfl rfl (B rfl) (Yv.not rfl (Eg rfl rfl id)) ?_
  refine AWL.y rfl rfl (B rfl) (Yv.pickOr (t := .const (.bool true)) rfl (E rfl rfl) (Eg rfl rfl id)) ?_
  refine AWL.nil ?_
  refine AW.cond rfl (fun h0t => ?_) (fun h0f => ?_)
  ·
   try replace h0t := of_decide_eq_true h0t
   refine AW.rseq ?_
   refine AWL.y rfl rfl (B rfl) (Yv.assign rfl (E rfl rfl)) ?_
   refine AWL.nil ?_
   refine AW.ret (retI (.tmp rfl .nil) ?_)
   show T.v (.bool _) = T.v (.bool _)
   rw [validF, if_pos (show bad0 i = true from h0t)]
  try replace h0f := of_decide_eq_false h0f
  refine AW.skip ?_
  refine AW.rseq ?_
  refine AWL.y rfl rfl (B rfl) (Yv.makeFunc rfl evs0 rfl (evsC (E rfl rfl) evs0) rfl) ?_
  refine AWL.y rfl rfl (B rfl) (Yv.assign rfl (E rfl rfl)) ?_
  refine AWL.nil ?_
  refine AW.perm (S' := [.box b3 3 [.v (.int .i64 (fieldsF i.kind).1)], .box b1 23 (insCells i)]) (List.Perm.swap _ _ []) ?_
  refine AW.rseq ?_
  refine AWL.y rfl rfl (B rfl) (Yv.move rfl (E rfl rfl)) ?_
  refine AWL.y rfl rfl (B rfl) (Yv.fieldBox rfl fo_23_1 (E rfl rfl)) ?_
  refine AWL.y rfl rfl (B rfl) (Yv.loadBox rfl ag_3 (i := 1) rfl (E rfl rfl) rfl) ?_
  refine AWL.callK rfl rfl (B rfl) rfl ce_37 (E rfl rfl) (evsC (E rfl rfl) (evsC (E rfl rfl) evs0)) (S1 := [.box b3 3 [.v (.int .i64 (fieldsF i.kind).1)]]) (S2 := _) rfl (none48 (fieldsF i.kind).1 1 i.d b3) (fun t S h => h) ?_
  refine AWL.y rfl rfl (B rfl) (Yv.move rfl (E rfl rfl)) ?_
  refine AWL.ygT rfl rfl rfl rfl (B rfl) (Yv.move rfl (E rfl rfl)) ?_
  refine AWL.ygT rfl rfl rfl rfl (B rfl) (Yv.fieldBox rfl fo_23_2 (E rfl rfl)) ?_
  refine AWL.ygT rfl rfl rfl rfl (B rfl) (Yv.loadBox rfl ag_3 (i := 1) rfl (Eg rfl rfl id) rfl) ?_
  refine AWL.callKgT rfl rfl rfl rfl (B rfl) rfl ce_37 (Eg rfl rfl id) (evsC (E rfl rfl) (evsC (Eg rfl rfl id) evs0)) (S1 := [.box b3 3 [.v (.int .i64 (fieldsF i.kind).1)]]) (S2 := _) rfl (fun hg => none48 (fieldsF i.kind).1 2 i.s b3) (fun t S h => h) ?_
  refine AWL.y rfl rfl (B rfl) (Yv.pickAnd rfl (E rfl rfl) (Eg rfl rfl id)) ?_
  refine AWL.y rfl rfl (B rfl) (Yv.move rfl (E rfl rfl)) ?_
  refine AWL.ygT rfl rfl rfl rfl (B rfl) (Yv.move rfl (E rfl rfl)) ?_
  refine AWL.ygT rfl rfl rfl rfl (B rfl) (Yv.fieldBox rfl fo_23_5 (E rfl rfl)) ?_
  refine AWL.ygT rfl rfl rfl rfl (B rfl) (Yv.loadBox rfl ag_2 (i := 1) rfl (Eg rfl rfl id) rfl) ?_
  refine AWL.callKgT rfl rfl rfl rfl (B rfl) rfl ce_37 (Eg rfl rfl id) (evsC (E rfl rfl) (evsC (Eg rfl rfl id) evs0)) (S1 := [.box b3 3 [.v (.int .i64 (fieldsF i.kind).1)]]) (S2 := _) rfl (fun hg => none48 (fieldsF i.kind).1 4 i.imm b3) (fun t S h => h) ?_
  refine AWL.y rfl rfl (B rfl) (Yv.pickAnd rfl (E rfl rfl) (Eg rfl rfl id)) ?_
  refine AWL.y rfl rfl (B rfl) (Yv.move rfl (E rfl rfl)) ?_
  refine AWL.ygT rfl rfl rfl rfl (B rfl) (Yv.move rfl (E rfl rfl)) ?_
  refine AWL.ygT rfl rfl rfl rfl (B rfl) (Yv.fieldBox rfl fo_23_3 (E rfl rfl)) ?_
  refine AWL.ygT rfl rfl rfl rfl (B rfl) (Yv.loadBox rfl ag_3 (i := 1) rfl (Eg rfl rfl id) rfl) ?_
  refine AWL.callKgT rfl rfl rfl rfl (B rfl) rfl ce_37 (Eg rfl rfl id) (evsC (E rfl rfl) (evsC (Eg rfl rfl id) evs0)) (S1 := [.box b3 3 [.v (.int .i64 (fieldsF i.kind).1)]]) (S2 := _) rfl (fun hg => none48 (fieldsF i.kind).1 8 i.cond b3) (fun t S h => h) ?_
  refine AWL.y rfl rfl (B rfl) (Yv.pickAnd rfl (E rfl rfl) (Eg rfl rfl id)) ?_
  refine AWL.y rfl rfl (B rfl) (Yv.move rfl (E rfl rfl)) ?_
  refine AWL.ygT rfl rfl rfl rfl (B rfl) (Yv.move rfl (E rfl rfl)) ?_
  refine AWL.ygT rfl rfl rfl rfl (B rfl) (Yv.fieldBox rfl fo_23_4 (E rfl rfl)) ?_
  refine AWL.ygT rfl rfl rfl rfl (B rfl) (Yv.loadBox rfl ag_3 (i := 1) rfl (Eg rfl rfl id) rfl) ?_
  refine AWL.callKgT rfl rfl rfl rfl (B rfl) rfl ce_37 (Eg rfl rfl id) (evsC (E rfl rfl) (evsC (Eg rfl rfl id) evs0)) (S1 := [.box b3 3 [.v (.int .i64 (fieldsF i.kind).1)]]) (S2 := _) rfl (fun hg => none48 (fieldsF i.kind).1 16 i.size b3) (fun t S h => h) ?_
  refine AWL.y rfl rfl (B rfl) (Yv.pickAnd rfl (E rfl rfl) (Eg rfl rfl id)) ?_
  refine AWL.y rfl rfl (B rfl) (Yv.move rfl (E rfl rfl)) ?_
  refine AWL.ygT rfl rfl rfl rfl (B rfl) (Yv.loadBoxA rfl ag_23 (i := 1) rfl (E rfl rfl) rfl rfl) ?_
  refine AWL.callPgT rfl rfl rfl rfl (B rfl) rfl ce_38 (E rfl rfl) (evsC (Eg rfl rfl id) evs0) (fun hg => sized49 i) (fun t S h => h) ?_
  refine AWL.y rfl rfl (B rfl) (Yv.pickAnd rfl (E rfl rfl) (Eg rfl rfl id)) ?_
  refine AWL.y rfl rfl (B rfl) (Yv.assign rfl (E rfl rfl)) ?_
  refine AWL.nil ?_
  refine AW.ret (retI (.tmp rfl .nil) ?_)
  show T.v (.bool _) = T.v (.bool _)
  rw [validF, if_neg (by rw [show bad0 i = false from h0f]; decide)]

set_option maxHeartbeats 2000000 in
theorem opcode33 (k : Int) :
    ACalls Tryd.prog 26 [.v (.int .i64 k)] [] fun t_ S => t_ = .tup [.v (.int .i64 (opF k).1), .v (.int .i64 (opF k).2)] := by
  refine ACalls.intro Tryd.func26 rfl Tryd.ntmps26 (Nat.le_of_ble_eq_true rfl) rfl fun X w0 => ?_
  refine AW.rseq ?_
  refine AWL.y rfl rfl (B rfl) (Yv.assign rfl (E rfl rfl)) ?_
  refine AWL.y rfl rfl (B rfl) (Yv.assign rfl (E rfl rfl)) ?_
  refine AWL.nil ?_
  refine AW.seq ?_
  refine AW.rseq ?_
  refine AWL.y rfl rfl (B rfl) (Yv.move rfl (E rfl rfl)) ?_
  refine AWL.nil ?_
  refine AW.block ?_
  refine AW.rseq ?_
  refine AWL.y rfl rfl (B rfl) (Yv.eql rfl (E rfl rfl) (E rfl rfl)) ?_
  refine AWL.y rfl rfl (B rfl) (Yv.assign rfl (E rfl rfl)) ?_
  refine AWL.nil ?_
  refine AW.cond rfl (fun h0t => ?_) (fun h0f => ?_)
  ·
   try replace h0t := of_decide_eq_true h0t
   refine AW.rseq ?_
   refine AWL.y rfl rfl (B rfl) (Yv.assign rfl (E rfl rfl)) ?_
   refine AWL.y rfl rfl (B rfl) (Yv.assign rfl (E rfl rfl)) ?_
   refine AWL.nil ?_
   refine AW.ret (retI (.tmp rfl (.tmp rfl .nil)) ?_)
   rw [h0t]; rfl
  try replace h0f := of_decide_eq_false h0f
  refine AW.rseq ?_
  refine AWL.y rfl rfl (B rfl) (Yv.eql rfl (E rfl rfl) (E rfl rfl)) ?_
  refine AWL.y rfl rfl (B rfl) (Yv.assign rfl (E rfl rfl)) ?_
  refine AWL.nil ?_
  refine AW.cond rfl (fun h1t => ?_) (fun h1f => ?_)
  ·
   try replace h1t := of_decide_eq_true h1t
   refine AW.rseq ?_
   refine AWL.y rfl rfl (B rfl) (Yv.assign rfl (E rfl rfl)) ?_
   refine AWL.y rfl rfl (B rfl) (Yv.assign rfl (E rfl rfl)) ?_
   refine AWL.nil ?_
   refine AW.ret (retI (.tmp rfl (.tmp rfl .nil)) ?_)
   rw [h1t]; rfl
  try replace h1f := of_decide_eq_false h1f
  refine AW.rseq ?_
  refine AWL.y rfl rfl (B rfl) (Yv.eql rfl (E rfl rfl) (E rfl rfl)) ?_
  refine AWL.y rfl rfl (B rfl) (Yv.assign rfl (E rfl rfl)) ?_
  refine AWL.nil ?_
  refine AW.cond rfl (fun h2t => ?_) (fun h2f => ?_)
  ·
   try replace h2t := of_decide_eq_true h2t
   refine AW.rseq ?_
   refine AWL.y rfl rfl (B rfl) (Yv.assign rfl (E rfl rfl)) ?_
   refine AWL.y rfl rfl (B rfl) (Yv.assign rfl (E rfl rfl)) ?_
   refine AWL.nil ?_
   refine AW.ret (retI (.tmp rfl (.tmp rfl .nil)) ?_)
   rw [h2t]; rfl
  try replace h2f := of_decide_eq_false h2f
  refine AW.rseq ?_
  refine AWL.y rfl rfl (B rfl) (Yv.eql rfl (E rfl rfl) (E rfl rfl)) ?_
  refine AWL.y rfl rfl (B rfl) (Yv.assign rfl (E rfl rfl)) ?_
  refine AWL.nil ?_
  refine AW.cond rfl (fun h3t => ?_) (fun h3f => ?_)
  ·
   try replace h3t := of_decide_eq_true h3t
   refine AW.rseq ?_
   refine AWL.y rfl rfl (B rfl) (Yv.assign rfl (E rfl rfl)) ?_
   refine AWL.y rfl rfl (B rfl) (Yv.assign rfl (E rfl rfl)) ?_
   refine AWL.nil ?_
   refine AW.ret (retI (.tmp rfl (.tmp rfl .nil)) ?_)
   rw [h3t]; rfl
  try replace h3f := of_decide_eq_false h3f
  refine AW.rseq ?_
  refine AWL.y rfl rfl (B rfl) (Yv.eql rfl (E rfl rfl) (E rfl rfl)) ?_
  refine AWL.y rfl rfl (B rfl) (Yv.assign rfl (E rfl rfl)) ?_
  refine AWL.nil ?_
  refine AW.cond rfl (fun h4t => ?_) (fun h4f => ?_)
  ·
   try replace h4t := of_decide_eq_true h4t
   refine AW.rseq ?_
   refine AWL.y rfl rfl (B rfl) (Yv.assign rfl (E rfl rfl)) ?_
   refine AWL.y rfl rfl (B rfl) (Yv.assign rfl (E rfl rfl)) ?_
   refine AWL.nil ?_
   refine AW.ret (retI (.tmp rfl (.tmp rfl .nil)) ?_)
   rw [h4t]; rfl
  try replace h4f := of_decide_eq_false h4f
  refine AW.rseq ?_
  refine AWL.y rfl rfl (B rfl) (Yv.eql rfl (E rfl rfl) (E rfl rfl)) ?_
  refine AWL.y rfl rfl (B rfl) (Yv.assign rfl (E rfl rfl)) ?_
  refine AWL.nil ?_
  refine AW.cond rfl (fun h5t => ?_) (fun h5f => ?_)
  ·
   try replace h5t := of_decide_eq_true h5t
   refine AW.rseq ?_
   refine AWL.y rfl rfl (B rfl) (Yv.assign rfl (E rfl rfl)) ?_
   refine AWL.y rfl rfl (B rfl) (Yv.assign rfl (E rfl rfl)) ?_
   refine AWL.nil ?_
   refine AW.ret (retI (.tmp rfl (.tmp rfl .nil)) ?_)
   rw [h5t]; rfl
  try replace h5f := of_decide_eq_false h5f
  refine AW.rseq ?_
  refine AWL.y rfl rfl (B rfl) (Yv.eql rfl (E rfl rfl) (E rfl rfl)) ?_
  refine AWL.y rfl rfl (B rfl) (Yv.assign rfl (E rfl rfl)) ?_
  refine AWL.nil ?_
  refine AW.cond rfl (fun h6t => ?_) (fun h6f => ?_)
  ·
   try replace h6t := of_decide_eq_true h6t
   refine AW.rseq ?_
   refine AWL.y rfl rfl (B rfl) (Yv.assign rfl (E rfl rfl)) ?_
   refine AWL.y rfl rfl (B rfl) (Yv.assign rfl (E rfl rfl)) ?_
   refine AWL.nil ?_
   refine AW.ret (retI (.tmp rfl (.tmp rfl .nil)) ?_)
   rw [h6t]; rfl
  try replace h6f := of_decide_eq_false h6f
  refine AW.rseq ?_
  refine AWL.y rfl rfl (B rfl) (Yv.eql rfl (E rfl rfl) (E rfl rfl)) ?_
  refine AWL.y rfl rfl (B rfl) (Yv.assign rfl (E rfl rfl)) ?_
  refine AWL.nil ?_
  refine AW.cond rfl (fun h7t => ?_) (fun h7f => ?_)
  ·
   try replace h7t := of_decide_eq_true h7t
   refine AW.rseq ?_
   refine AWL.y rfl rfl (B rfl) (Yv.assign rfl (E rfl rfl)) ?_
   refine AWL.y rfl rfl (B rfl) (Yv.assign rfl (E rfl rfl)) ?_
   refine AWL.nil ?_
   refine AW.ret (retI (.tmp rfl (.tmp rfl .nil)) ?_)
   rw [h7t]; rfl
  try replace h7f := of_decide_eq_false h7f
  refine AW.rseq ?_
  refine AWL.y rfl rfl (B rfl) (Yv.eql rfl (E rfl rfl) (E rfl rfl)) ?_
  refine AWL.y rfl rfl (B rfl) (Yv.assign rfl (E rfl rfl)) ?_
  refine AWL.nil ?_
  refine AW.cond rfl (fun h8t => ?_) (fun h8f => ?_)
  ·
   try replace h8t := of_decide_eq_true h8t
   refine AW.rseq ?_
   refine AWL.y rfl rfl (B rfl) (Yv.assign rfl (E rfl rfl)) ?_
   refine AWL.y rfl rfl (B rfl) (Yv.assign rfl (E rfl rfl)) ?_
   refine AWL.nil ?_
   refine AW.ret (retI (.tmp rfl (.tmp rfl .nil)) ?_)
   rw [h8t]; rfl
  try replace h8f := of_decide_eq_false h8f
  refine AW.rseq ?_
  refine AWL.y rfl rfl (B rfl) (Yv.eql rfl (E rfl rfl) (E rfl rfl)) ?_
  refine AWL.y rfl rfl (B rfl) (Yv.assign rfl (E rfl rfl)) ?_
  refine AWL.nil ?_
  refine AW.cond rfl (fun h9t => ?_) (fun h9f => ?_)
  ·
   try replace h9t := of_decide_eq_true h9t
   refine AW.rseq ?_
   refine AWL.y rfl rfl (B rfl) (Yv.assign rfl (E rfl rfl)) ?_
   refine AWL.y rfl rfl (B rfl) (Yv.assign rfl (E rfl rfl)) ?_
   refine AWL.nil ?_
   refine AW.ret (retI (.tmp rfl (.tmp rfl .nil)) ?_)
   rw [h9t]; rfl
  try replace h9f := of_decide_eq_false h9f
  refine AW.rseq ?_
  refine AWL.y rfl rfl (B rfl) (Yv.eql rfl (E rfl rfl) (E rfl rfl)) ?_
  refine AWL.y rfl rfl (B rfl) (Yv.assign rfl (E rfl rfl)) ?_
  refine AWL.nil ?_
  refine AW.cond rfl (fun h10t => ?_) (fun h10f => ?_)
  ·
   try replace h10t := of_decide_eq_true h10t
   refine AW.rseq ?_
   refine AWL.y rfl rfl (B rfl) (Yv.assign rfl (E rfl rfl)) ?_
   refine AWL.y rfl rfl (B rfl) (Yv.assign rfl (E rfl rfl)) ?_
   refine AWL.nil ?_
   refine AW.ret (retI (.tmp rfl (.tmp rfl .nil)) ?_)
   rw [h10t]; rfl
  try replace h10f := of_decide_eq_false h10f
  refine AW.rseq ?_
  refine AWL.y rfl rfl (B rfl) (Yv.eql rfl (E rfl rfl) (E rfl rfl)) ?_
  refine AWL.y rfl rfl (B rfl) (Yv.assign rfl (E rfl rfl)) ?_
  refine AWL.nil ?_
  refine AW.cond rfl (fun h11t => ?_) (fun h11f => ?_)
  ·
   try replace h11t := of_decide_eq_true h11t
   refine AW.rseq ?_
   refine AWL.y rfl rfl (B rfl) (Yv.assign rfl (E rfl rfl)) ?_
   refine AWL.y rfl rfl (B rfl) (Yv.assign rfl (E rfl rfl)) ?_
   refine AWL.nil ?_
   refine AW.ret (retI (.tmp rfl (.tmp rfl .nil)) ?_)
   rw [h11t]; rfl
  try replace h11f := of_decide_eq_false h11f
  refine AW.rseq ?_
  refine AWL.y rfl rfl (B rfl) (Yv.eql rfl (E rfl rfl) (E rfl rfl)) ?_
  refine AWL.y rfl rfl (B rfl) (Yv.assign rfl (E rfl rfl)) ?_
  refine AWL.nil ?_
  refine AW.cond rfl (fun h12t => ?_) (fun h12f => ?_)
  ·
   try replace h12t := of_decide_eq_true h12t
   refine AW.rseq ?_
   refine AWL.y rfl rfl (B rfl) (Yv.assign rfl (E rfl rfl)) ?_
   refine AWL.y rfl rfl (B rfl) (Yv.assign rfl (E rfl rfl)) ?_
   refine AWL.nil ?_
   refine AW.ret (retI (.tmp rfl (.tmp rfl .nil)) ?_)
   rw [h12t]; rfl
  try replace h12f := of_decide_eq_false h12f
  refine AW.rseq ?_
  refine AWL.y rfl rfl (B rfl) (Yv.eql rfl (E rfl rfl) (E rfl rfl)) ?_
  refine AWL.y rfl rfl (B rfl) (Yv.assign rfl (E rfl rfl)) ?_
  refine AWL.nil ?_
  refine AW.cond rfl (fun h13t => ?_) (fun h13f => ?_)
  ·
   try replace h13t := of_decide_eq_true h13t
   refine AW.rseq ?_
   refine AWL.y rfl rfl (B rfl) (Yv.assign rfl (E rfl rfl)) ?_
   refine AWL.y rfl rfl (B rfl) (Yv.assign rfl (E rfl rfl)) ?_
   refine AWL.nil ?_
   refine AW.ret (retI (.tmp rfl (.tmp rfl .nil)) ?_)
   rw [h13t]; rfl
  try replace h13f := of_decide_eq_false h13f
  refine AW.rseq ?_
  refine AWL.y rfl rfl (B rfl) (Yv.eql rfl (E rfl rfl) (E rfl rfl)) ?_
  refine AWL.y rfl rfl (B rfl) (Yv.assign rfl (E rfl rfl)) ?_
  refine AWL.nil ?_
  refine AW.cond rfl (fun h14t => ?_) (fun h14f => ?_)
  ·
   try replace h14t := of_decide_eq_true h14t
   refine AW.rseq ?_
   refine AWL.y rfl rfl (B rfl) (Yv.assign rfl (E rfl rfl)) ?_
   refine AWL.y rfl rfl (B rfl) (Yv.assign rfl (E rfl rfl)) ?_
   refine AWL.nil ?_
   refine AW.ret (retI (.tmp rfl (.tmp rfl .nil)) ?_)
   rw [h14t]; rfl
  try replace h14f := of_decide_eq_false h14f
  refine AW.rseq ?_
  refine AWL.y rfl rfl (B rfl) (Yv.eql rfl (E rfl rfl) (E rfl rfl)) ?_
  refine AWL.y rfl rfl (B rfl) (Yv.assign rfl (E rfl rfl)) ?_
  refine AWL.nil ?_
  refine AW.cond rfl (fun h15t => ?_) (fun h15f => ?_)
  ·
   try replace h15t := of_decide_eq_true h15t
   refine AW.rseq ?_
   refine AWL.y rfl rfl (B rfl) (Yv.assign rfl (E rfl rfl)) ?_
   refine AWL.y rfl rfl (B rfl) (Yv.assign rfl (E rfl rfl)) ?_
   refine AWL.nil ?_
   refine AW.ret (retI (.tmp rfl (.tmp rfl .nil)) ?_)
   rw [h15t]; rfl
  try replace h15f := of_decide_eq_false h15f
  refine AW.rseq ?_
  refine AWL.y rfl rfl (B rfl) (Yv.eql rfl (E rfl rfl) (E rfl rfl)) ?_
  refine AWL.y rfl rfl (B rfl) (Yv.assign rfl (E rfl rfl)) ?_
  refine AWL.nil ?_
  refine AW.cond rfl (fun h16t => ?_) (fun h16f => ?_)
  ·
   try replace h16t := of_decide_eq_true h16t
   refine AW.rseq ?_
   refine AWL.y rfl rfl (B rfl) (Yv.assign rfl (E rfl rfl)) ?_
   refine AWL.y rfl rfl (B rfl) (Yv.assign rfl (E rfl rfl)) ?_
   refine AWL.nil ?_
   refine AW.ret (retI (.tmp rfl (.tmp rfl .nil)) ?_)
   rw [h16t]; rfl
  try replace h16f := of_decide_eq_false h16f
  refine AW.rseq ?_
  refine AWL.y rfl rfl (B rfl) (Yv.eql rfl (E rfl rfl) (E rfl rfl)) ?_
  refine AWL.y rfl rfl (B rfl) (Yv.assign rfl (E rfl rfl)) ?_
  refine AWL.nil ?_
  refine AW.cond rfl (fun h17t => ?_) (fun h17f => ?_)
  ·
   try replace h17t := of_decide_eq_true h17t
   refine AW.rseq ?_
   refine AWL.y rfl rfl (B rfl) (Yv.assign rfl (E rfl rfl)) ?_
   refine AWL.y rfl rfl (B rfl) (Yv.assign rfl (E rfl rfl)) ?_
   refine AWL.nil ?_
   refine AW.ret (retI (.tmp rfl (.tmp rfl .nil)) ?_)
   rw [h17t]; rfl
  try replace h17f := of_decide_eq_false h17f
  refine AW.rseq ?_
  refine AWL.y rfl rfl (B rfl) (Yv.eql rfl (E rfl rfl) (E rfl rfl)) ?_
  refine AWL.y rfl rfl (B rfl) (Yv.assign rfl (E rfl rfl)) ?_
  refine AWL.nil ?_
  refine AW.cond rfl (fun h18t => ?_) (fun h18f => ?_)
  ·
   try replace h18t := of_decide_eq_true h18t
   refine AW.rseq ?_
   refine AWL.y rfl rfl (B rfl) (Yv.assign rfl (E rfl rfl)) ?_
   refine AWL.y rfl rfl (B rfl) (Yv.assign rfl (E rfl rfl)) ?_
   refine AWL.nil ?_
   refine AW.ret (retI (.tmp rfl (.tmp rfl .nil)) ?_)
   rw [h18t]; rfl
  try replace h18f := of_decide_eq_false h18f
  refine AW.rseq ?_
  refine AWL.y rfl rfl (B rfl) (Yv.eql rfl (E rfl rfl) (E rfl rfl)) ?_
  refine AWL.y rfl rfl (B rfl) (Yv.assign rfl (E rfl rfl)) ?_
  refine AWL.nil ?_
  refine AW.cond rfl (fun h19t => ?_) (fun h19f => ?_)
  ·
   try replace h19t := of_decide_eq_true h19t
   refine AW.rseq ?_
   refine AWL.y rfl rfl (B rfl) (Yv.assign rfl (E rfl rfl)) ?_
   refine AWL.y rfl rfl (B rfl) (Yv.assign rfl (E rfl rfl)) ?_
   refine AWL.nil ?_
   refine AW.ret (retI (.tmp rfl (.tmp rfl .nil)) ?_)
   rw [h19t]; rfl
  try replace h19f := of_decide_eq_false h19f
  refine AW.rseq ?_
  refine AWL.y rfl rfl (B rfl) (Yv.eql rfl (E rfl rfl) (E rfl rfl)) ?_
  refine AWL.y rfl rfl (B rfl) (Yv.assign rfl (E rfl rfl)) ?_
  refine AWL.nil ?_
  refine AW.cond rfl (fun h20t => ?_) (fun h20f => ?_)
  ·
   try replace h20t := of_decide_eq_true h20t
   refine AW.rseq ?_
   refine AWL.y rfl rfl (B rfl) (Yv.assign rfl (E rfl rfl)) ?_
   refine AWL.y rfl rfl (B rfl) (Yv.assign rfl (E rfl rfl)) ?_
   refine AWL.nil ?_
   refine AW.ret (retI (.tmp rfl (.tmp rfl .nil)) ?_)
   rw [h20t]; rfl
  try replace h20f := of_decide_eq_false h20f
  refine AW.rseq ?_
  refine AWL.y rfl rfl (B rfl) (Yv.eql rfl (E rfl rfl) (E rfl rfl)) ?_
  refine AWL.y rfl rfl (B rfl) (Yv.assign rfl (E rfl rfl)) ?_
  refine AWL.nil ?_
  refine AW.cond rfl (fun h21t => ?_) (fun h21f => ?_)
  ·
   try replace h21t := of_decide_eq_true h21t
   refine AW.rseq ?_
   refine AWL.y rfl rfl (B rfl) (Yv.assign rfl (E rfl rfl)) ?_
   refine AWL.y rfl rfl (B rfl) (Yv.assign rfl (E rfl rfl)) ?_
   refine AWL.nil ?_
   refine AW.ret (retI (.tmp rfl (.tmp rfl .nil)) ?_)
   rw [h21t]; rfl
  try replace h21f := of_decide_eq_false h21f
  refine AW.rseq ?_
  refine AWL.y rfl rfl (B rfl) (Yv.eql rfl (E rfl rfl) (E rfl rfl)) ?_
  refine AWL.y rfl rfl (B rfl) (Yv.assign rfl (E rfl rfl)) ?_
  refine AWL.nil ?_
  refine AW.cond rfl (fun h22t => ?_) (fun h22f => ?_)
  ·
   try replace h22t := of_decide_eq_true h22t
   refine AW.rseq ?_
   refine AWL.y rfl rfl (B rfl) (Yv.assign rfl (E rfl rfl)) ?_
   refine AWL.y rfl rfl (B rfl) (Yv.assign rfl (E rfl rfl)) ?_
   refine AWL.nil ?_
   refine AW.ret (retI (.tmp rfl (.tmp rfl .nil)) ?_)
   rw [h22t]; rfl
  try replace h22f := of_decide_eq_false h22f
  refine AW.rseq ?_
  refine AWL.y rfl rfl (B rfl) (Yv.eql rfl (E rfl rfl) (E rfl rfl)) ?_
  refine AWL.y rfl rfl (B rfl) (Yv.assign rfl (E rfl rfl)) ?_
  refine AWL.nil ?_
  refine AW.cond rfl (fun h23t => ?_) (fun h23f => ?_)
  ·
   try replace h23t := of_decide_eq_true h23t
   refine AW.rseq ?_
   refine AWL.y rfl rfl (B rfl) (Yv.assign rfl (E rfl rfl)) ?_
   refine AWL.y rfl rfl (B rfl) (Yv.assign rfl (E rfl rfl)) ?_
   refine AWL.nil ?_
   refine AW.ret (retI (.tmp rfl (.tmp rfl .nil)) ?_)
   rw [h23t]; rfl
  try replace h23f := of_decide_eq_false h23f
  refine AW.rseq ?_
  refine AWL.y rfl rfl (B rfl) (Yv.eql rfl (E rfl rfl) (E rfl rfl)) ?_
  refine AWL.y rfl rfl (B rfl) (Yv.assign rfl (E rfl rfl)) ?_
  refine AWL.nil ?_
  refine AW.cond rfl (fun h24t => ?_) (fun h24f => ?_)
  ·
   try replace h24t := of_decide_eq_true h24t
   refine AW.rseq ?_
   refine AWL.y rfl rfl (B rfl) (Yv.assign rfl (E rfl rfl)) ?_
   refine AWL.y rfl rfl (B rfl) (Yv.assign rfl (E rfl rfl)) ?_
   refine AWL.nil ?_
   refine AW.ret (retI (.tmp rfl (.tmp rfl .nil)) ?_)
   rw [h24t]; rfl
  try replace h24f := of_decide_eq_false h24f
  refine AW.rseq ?_
  refine AWL.y rfl rfl (B rfl) (Yv.eql rfl (E rfl rfl) (E rfl rfl)) ?_
  refine AWL.y rfl rfl (B rfl) (Yv.assign rfl (E rfl rfl)) ?_
  refine AWL.nil ?_
  refine AW.cond rfl (fun h25t => ?_) (fun h25f => ?_)
  ·
   try replace h25t := of_decide_eq_true h25t
   refine AW.rseq ?_
   refine AWL.y rfl rfl (B rfl) (Yv.assign rfl (E rfl rfl)) ?_
   refine AWL.y rfl rfl (B rfl) (Yv.assign rfl (E rfl rfl)) ?_
   refine AWL.nil ?_
   refine AW.ret (retI (.tmp rfl (.tmp rfl .nil)) ?_)
   rw [h25t]; rfl
  try replace h25f := of_decide_eq_false h25f
  refine AW.rseq ?_
  refine AWL.y rfl rfl (B rfl) (Yv.eql rfl (E rfl rfl) (E rfl rfl)) ?_
  refine AWL.y rfl rfl (B rfl) (Yv.assign rfl (E rfl rfl)) ?_
  refine AWL.nil ?_
  refine AW.cond rfl (fun h26t => ?_) (fun h26f => ?_)
  ·
   try replace h26t := of_decide_eq_true h26t
   refine AW.rseq ?_
   refine AWL.y rfl rfl (B rfl) (Yv.assign rfl (E rfl rfl)) ?_
   refine AWL.y rfl rfl (B rfl) (Yv.assign rfl (E rfl rfl)) ?_
   refine AWL.nil ?_
   refine AW.ret (retI (.tmp rfl (.tmp rfl .nil)) ?_)
   rw [h26t]; rfl
  try replace h26f := of_decide_eq_false h26f
  refine AW.skip ?_
  refine AW.rseq ?_
  refine AWL.y rfl rfl (B rfl) (Yv.assign rfl (E rfl rfl)) ?_
  refine AWL.y rfl rfl (B rfl) (Yv.assign rfl (E rfl rfl)) ?_
  refine AWL.nil ?_
  refine AW.ret (retI (.tmp rfl (.tmp rfl .nil)) ?_)
  rw [op_out (by omega)]; rfl

end Go.Proofs.YtjndpakhmgapjaaDoor

namespace Go.Proofs.YtjndpakhmgapjaaDoor
open Go Go.RowKit
set_option linter.unusedVariables false
set_option linter.unusedSectionVars false
section
variable {cx : Cx} {env : Env} {S : St} {o : Oper} {x : Operand}
/-- A struct that lies whole in a box. -/
theorem heldLoadA {b p n : Nat} {t : TypeId} {us vs : List Value} {l' : List T} (ho : o.op = .load t x) (h : aggSize cx.P t = some (true, n)) (hx : Ev env true x (.v (.pointer (some ⟨b, p, none⟩)))) (hv : (us.drop p).take n = vs) (hn : vs.length = n) (h1 : vs.all (fun u => u.oneCell') = true) (hl : vs.map T.v = l') :
    ∀ a w, Sim cx env S a w → ∃ u', VRep w (cx.X ++ M S) (.agg l') u' ∧ ∀ w', HeldBox b us w' → (execOp a.eval o).run cx.P w' = .ok (.value u') w' := by
  intro a w hs
  have hvx := hx.val hs rfl
  have hV := vreps_vals (w := w) (L := cx.X ++ M S) vs (fun u hu => List.all_eq_true.1 h1 u hu)
  rw [hl] at hV
  refine ⟨.agg vs.toArray, .agg hV.len hV.at_ hV.one, fun w' hd => exec_load ho w' ?_⟩
  obtain ⟨ty, hh⟩ := hd
  rw [hvx]
  refine run_loadAt_agg h hn w' (fun j v hj => ?_)
  rw [← hv, List.getElem?_take] at hj
  split at hj
  · rw [List.getElem?_drop] at hj
    rw [add_lit', cell_of_heap hh, hj]
  · cases hj
end

set_option linter.unusedVariables false
set_option linter.unusedSectionVars false
section
variable {cx : Cx} {env : Env} {S : St} {o : Oper} {x y : Operand}
theorem freeAssign {t : T} (ho : o.op = .assign x) (hx : Ev env true x t) : ∀ a w, Sim cx env S a w → ∃ u, VRep w (cx.X ++ M S) t u ∧ ∀ w', (execOp a.eval o).run cx.P w' = .ok (.value u) w' :=
  fun a w hs => ⟨a.eval x, hx.rep hs rfl, fun w' => by simp [execOp, ho, Sem.run_pure]⟩
theorem freeAdd_i64 {ty yt : TypeId} {p q : Int} (ho : o.op = .binOp .add ty x y yt) (hx : Ev env true x (.v (.int .i64 p))) (hy : Ev env true y (.v (.int .i64 q))) (hb : -9223372036854775808 ≤ p + q ∧ p + q ≤ 9223372036854775807) : ∀ a w, Sim cx env S a w → ∃ u, VRep w (cx.X ++ M S) (.v (.int .i64 (p + q))) u ∧ ∀ w', (execOp a.eval o).run cx.P w' = .ok (.value u) w' :=
  fun a w hs => ⟨_, .v _, fun w' => by rw [exec_binOp_int ho (hx.val hs rfl) (hy.val hs rfl)]; simp [binOp, Op.intArith, Sem.run_pure, IntWalk.i64_in _ hb]⟩
theorem freeIdxSl {t e : TypeId} {k j : Nat} {kd : IntKind} {p : Int} {l : List T} (ho : o.op = .indexAddr t x y) (h : sliceSz cx.P t = some (e, k)) (hk : 0 < k) (hy : Ev env true y (.v (.int kd p))) (hx : Ev env true x (.sl k l)) (hj : p = (j : Int) ∧ j * k < l.length) : ∀ a w, Sim cx env S a w → ∃ u, VRep w (cx.X ++ M S) (.rp l (j * k)) u ∧ ∀ w', (execOp a.eval o).run cx.P w' = .ok (.value u) w' := by
  intro a w hs
  have hv := hx.rep hs rfl
  obtain ⟨rfl, hjl⟩ := hj
  generalize hu : a.eval x = u at hv
  cases hv with
  | sl0 hc => simp at hjl
  | sl hn hkl hl hnc hc hb hL hcell hh h1 =>
    refine ⟨_, .rp hl hb hL hcell hh h1, fun w' => ?_⟩
    refine exec_indexAddr ho h hu (hy.val hs rfl) ?_ w'
    rw [hkl] at hjl
    exact Nat.lt_of_mul_lt_mul_right hjl
theorem freeIdxRow {t e e' : TypeId} {k j i n c : Nat} {kd : IntKind} {p : Int} {A : Option Addr} {cs : List T} (ho : o.op = .indexAddr t x y) (h : sliceSz cx.P t = some (e, k)) (hi : S[i]? = some (.row A n c e' k cs)) (hy : Ev env true y (.v (.int kd p))) (hx : Ev env true x (.v (.slice A n c))) (hj : p = (j : Int) ∧ j < n) : ∀ a w, Sim cx env S a w → ∃ u, VRep w (cx.X ++ M S) (.ep (.slice A n c) (j * k)) u ∧ ∀ w', (execOp a.eval o).run cx.P w' = .ok (.value u) w' := by
  intro a w hs
  have hv := hx.val hs rfl
  obtain ⟨rfl, hjl⟩ := hj
  obtain ⟨us, hr, _⟩ := hs.row hi
  rcases hr.2.2.2 with ⟨_, h0, _⟩ | ⟨gb, cur, fr, rfl, _⟩
  · omega
  · refine ⟨_, .ep, fun w' => ?_⟩
    have := exec_indexAddr ho h hv (hy.val hs rfl) hjl w'
    rw [add_lit', Nat.zero_add] at this
    exact this
theorem freeExtract {i : Nat} {l : List T} {r : T} (ho : o.op = .extract x i) (hx : Ev env true x (.tup l)) (hr : l[i]? = some r) : ∀ a w, Sim cx env S a w → ∃ u, VRep w (cx.X ++ M S) r u ∧ ∀ w', (execOp a.eval o).run cx.P w' = .ok (.value u) w' := by
  intro a w hs
  have hv := hx.rep hs rfl
  generalize hu : a.eval x = u at hv
  cases hv with
  | tup hl hh =>
    rename_i ys
    have hi : i < ys.length := hl ▸ (List.getElem?_eq_some_iff.1 hr).1
    refine ⟨ys[i], hh i r _ hr (List.getElem?_eq_getElem hi), fun w' => ?_⟩
    simp [execOp, ho, hu, Instr.extract, Sem.run_pure, List.getElem?_eq_getElem hi]
end

set_option linter.unusedVariables false
set_option linter.unusedSectionVars false
set_option linter.unusedSimpArgs false
section
variable {cx : Cx} {env : Env} {S : St} {o : Oper} {g : Bool} {x y : Operand}
inductive FK2 where
  | c (k : FK)
  | st (n : Nat) (l : List (Nat × FK))
def flatF2 (P : Program) : List Field → Option (List (Nat × FK2))
  | [] => some []
  | f :: r => if f.name = "_" then none else match aggSize P f.type with
    | some (false, _) => match fkOf P f.type, flatF2 P r with
      | some k, some l => some ((f.offset, .c k) :: l)
      | _, _ => none
    | some (true, n) => match P.underlying f.type with
      | some (.struct fs) => if P.stoodInHeld f.type then none else match flatF P fs.toList, flatF2 P r with
        | some l1, some l => some ((f.offset, .st n l1) :: l)
        | _, _ => none
      | _ => none
    | none => none
def flatOf2 (P : Program) (t : TypeId) : Option (List (Nat × FK2)) :=
  match P.underlying t with
  | some (.struct fs) => if P.stoodInHeld t || P.eqGuardType P.depth t then none else flatF2 P fs.toList
  | _ => none
def eqCells2 (us vs : List Value) : List (Nat × FK2) → Option Bool
  | [] => some true
  | (off, .c k) :: r => match us[off]?, vs[off]? with
    | some u, some v => match eqCell k u v, eqCells2 us vs r with
      | some b, some c => some (b && c)
      | _, _ => none
    | _, _ => none
  | (off, .st n l) :: r => match eqCells ((us.drop off).take n) ((vs.drop off).take n) l, eqCells2 us vs r with
    | some b, some c => some (b && c)
    | _, _ => none
theorem run_part_agg {P : Program} {t : TypeId} {n : Nat} (h : aggSize P t = some (true, n)) (us : List Value) (off : Nat) (w : World) : (part t us.toArray off).run P w = .ok (.agg ((us.drop off).take n).toArray) w := by
  obtain ⟨h1, h2⟩ := aggSize_spec h w
  have e : us.toArray.extract off (off + n) = ((us.drop off).take n).toArray := by
    rw [List.extract_toArray, List.extract_eq_take_drop, Nat.add_sub_cancel_left]
  simp only [part, Sem.run_bind, h1, h2, Result.andThen_ok, if_true, Sem.run_pure, e]
theorem run_eqFlat2 {P : Program} {us vs : List Value} (dd : Nat) (w : World) : ∀ {fs : List Field} {l : List (Nat × FK2)} {b : Bool}, flatF2 P fs = some l → eqCells2 us vs l = some b → (Op.eqFields (dd + 2) us.toArray vs.toArray fs).run P w = .ok b w
  | [], l, b, h, hb => by
    simp only [flatF2, Option.some.injEq] at h; subst h
    simp only [eqCells2, Option.some.injEq] at hb; subst hb
    simp [Op.eqFields, Sem.run_pure]
  | f :: r, l, b, h, hb => by
    simp only [flatF2] at h
    split at h
    · cases h
    · rename_i hn
      split at h
      · rename_i m h1
        split at h
        · rename_i k l' h2 h3
          simp only [Option.some.injEq] at h; subst h
          simp only [eqCells2] at hb
          split at hb
          · rename_i u v hu hv
            split at hb
            · rename_i b1 b2 hb1 hb2
              simp only [Option.some.injEq] at hb; subst hb
              have ih := run_eqFlat2 dd w h3 hb2
              simp only [Op.eqFields, ne_eq, hn, not_false_eq_true, if_true, Sem.run_bind, run_part_one h1 hu, run_part_one h1 hv, run_eqCell h2 hb1, Result.andThen_ok]
              cases b1
              · simp [Sem.run_pure]
              · simp [ih]
            · cases hb
          · cases hb
        · cases h
      · rename_i m h1
        split at h
        · rename_i fs' hu'
          split at h
          · cases h
          · rename_i hst
            split at h
            · rename_i l1 l' h2 h3
              simp only [Option.some.injEq] at h; subst h
              simp only [eqCells2] at hb
              split at hb
              · rename_i b1 b2 hb1 hb2
                simp only [Option.some.injEq] at hb; subst hb
                have ih := run_eqFlat2 dd w h3 hb2
                have hfo : P.fieldsOf f.type = fs' := by simp [Program.fieldsOf, hu']
                have hin : (Op.equalIn (dd + 2) f.type (.agg ((us.drop f.offset).take m).toArray) (.agg ((vs.drop f.offset).take m).toArray)).run P w = .ok b1 w := by
                  rw [run_equalIn_struct w (dd + 1) f.type _ _ (by rw [hfo]; exact hu') (by simpa using hst), hfo]
                  exact run_eqFlat dd w h2 hb1
                simp only [Op.eqFields, ne_eq, hn, not_false_eq_true, if_true, Sem.run_bind, run_part_agg h1, hin, Result.andThen_ok]
                cases b1
                · simp [Sem.run_pure]
                · simp [ih]
              · cases hb
            · cases h
        · cases h
      · cases h
theorem run_eqA2 {P : Program} {t : TypeId} {us vs : List Value} {l : List (Nat × FK2)} {b : Bool} (ht : flatOf2 P t = some l) (hb : eqCells2 us vs l = some b) (w : World) :
    (Op.equalIn 10000 t (.agg us.toArray) (.agg vs.toArray)).run P w = .ok b w ∧ P.eqGuardType P.depth t = false := by
  unfold flatOf2 at ht
  split at ht
  · rename_i fs hu
    split at ht
    · cases ht
    · rename_i hn
      simp only [Bool.or_eq_true, not_or, Bool.not_eq_true] at hn
      have hf : P.fieldsOf t = fs := by simp [Program.fieldsOf, hu]
      exact ⟨by rw [run_equalIn_struct w 9999 t _ _ (by rw [hf]; exact hu) hn.1, hf]; exact run_eqFlat2 9997 w ht hb, hn.2⟩
  · cases ht
theorem Yv.neqA2 {ty yt : TypeId} {l l' : List T} {us vs : List Value} {fl : List (Nat × FK2)} {b : Bool} (ho : o.op = .binOp .neq ty x y yt) (ht : flatOf2 cx.P ty = some fl) (hx : Ev env g x (.agg l)) (hy : Ev env g y (.agg l')) (hu : valsOf l = some us) (hv : valsOf l' = some vs) (hb : eqCells2 us vs fl = some b) :
    Yv cx o env S g (.v (.bool (!b))) :=
  Yv.plain fun a w hs hg w' => by
    have e1 := hx.rep hs hg
    have e2 := hy.rep hs hg
    rw [valsOf_spec hu] at e1
    rw [valsOf_spec hv] at e2
    obtain ⟨e3, e4⟩ := run_eqA2 ht hb w'
    rw [exec_binOp_agg ho e1.vals e2.vals e4, run_neq_struct, e3]
    rfl
end
end Go.Proofs.YtjndpakhmgapjaaDoor

namespace Go.Proofs.YtjndpakhmgapjaaDoor
open Go Go.RowKit
set_option linter.unusedVariables false
set_option linter.unusedSectionVars false
set_option linter.unusedSimpArgs false
section
variable {cx : Cx} {env : Env} {S : St} {o : Oper} {x y : Operand}
theorem freeBits {op : BinOp} {ty yt : TypeId} {k : IntKind} {p q : Int} (ho : o.op = .binOp op ty x y yt) (hop : isBits op = true) (hx : Ev env true x (.v (.int k p))) (hy : Ev env true y (.v (.int k q))) : ∀ a w, Sim cx env S a w → ∃ u, VRep w (cx.X ++ M S) (.v (.int k (bitsOf op k p q))) u ∧ ∀ w', (execOp a.eval o).run cx.P w' = .ok (.value u) w' :=
  fun a w hs => ⟨_, .v _, fun w' => by
    rw [exec_binOp_int ho (hx.val hs rfl) (hy.val hs rfl)]
    cases op <;> first | (cases hop; done) | simp [binOp, Op.intBits, Sem.run_pure, bitsOf]⟩
theorem freeShrC {ty yt : TypeId} {k k' : IntKind} {p q : Int} (D : Int) (hD : (2 : Int) ^ (min q.toNat k.bits) = D) (h0 : 0 ≤ D) (hq : 0 ≤ q) (ho : o.op = .binOp .shr ty x y yt) (hx : Ev env true x (.v (.int k p))) (hy : Ev env true y (.v (.int k' q))) : ∀ a w, Sim cx env S a w → ∃ u, VRep w (cx.X ++ M S) (.v (.int k (p / D))) u ∧ ∀ w', (execOp a.eval o).run cx.P w' = .ok (.value u) w' :=
  fun a w hs => ⟨_, .v _, fun w' => by
    rw [exec_binOp_int ho (hx.val hs rfl) (hy.val hs rfl)]
    have e : p / D = shrOf k p q := by unfold shrOf; rw [hD, Int.fdiv_eq_ediv_of_nonneg p h0]
    rw [e]
    simp [binOp, Op.shift, Sem.run_pure, show ¬ q < 0 by omega, shrOf]⟩
theorem freeAndN_i64 {ty yt : TypeId} {p q : Int} (n : Nat) (D : Nat) (hD : 2 ^ n = D) (hDk : D ≤ 18446744073709551616) (hq : q = ((D - 1 : Nat) : Int)) (ho : o.op = .binOp .and ty x y yt) (hx : Ev env true x (.v (.int .i64 p))) (hy : Ev env true y (.v (.int .i64 q))) (hb : 0 ≤ p ∧ p ≤ 9223372036854775807) : ∀ a w, Sim cx env S a w → ∃ u, VRep w (cx.X ++ M S) (.v (.int .i64 (p % (D : Int)))) u ∧ ∀ w', (execOp a.eval o).run cx.P w' = .ok (.value u) w' := by
  intro a w hs
  obtain ⟨h0, h1⟩ := hb
  have h := freeBits (cx := cx) ho rfl hx hy a w hs
  obtain ⟨p, rfl⟩ := Int.eq_ofNat_of_zero_le h0
  have hB : (2 : Nat) ^ IntKind.i64.bits = 18446744073709551616 := by decide
  have hm : p % D ≤ p := Nat.mod_le p D
  have e := bits_and_mod (k := .i64) p hD (hB ▸ hDk) (by rw [hB]; omega) (IntWalk.i64_in _ ⟨by omega, by omega⟩)
  rw [hq, e, Int.natCast_emod] at h
  exact h
end
end Go.Proofs.YtjndpakhmgapjaaDoor

namespace Go.Proofs.YtjndpakhmgapjaaDoor
open Go Go.RowKit
set_option linter.unusedVariables false
set_option linter.unusedSectionVars false
set_option linter.unusedSimpArgs false
/-- A block and its cells. -/
structure Gv where
  b : Nat
  cs : Array Value
def Gv.is (G : Gv) (w : World) : Prop := ∃ (ty : TypeId) (fr : Nat × Nat), w.heap[G.b]? = some (.cells G.cs ty fr)
theorem Gv.is.lt {G : Gv} {w : World} (h : G.is w) : G.b < w.heap.size := by
  obtain ⟨ty, fr, e⟩ := h
  exact lt_of_heap e
theorem Gv.is.keeps {G : Gv} {L : List Nat} {w w' : World} (h : G.is w) (hk : Keeps L w w') (hm : G.b ∉ L) : G.is w' := by
  have hl := h.lt
  obtain ⟨ty, fr, e⟩ := h
  exact ⟨ty, fr, (hk.block _ hl hm).trans e⟩
/-- WHAT A CALL DOES where the variable stands so. -/
def ACallsG (P : Program) (G : Gv) (f : FuncId) (ts : List T) (S0 : St) (R : T → St → Prop) : Prop :=
  ∀ (X : List Nat) (w : World) (args : List Value), G.is w → G.b ∉ M S0 → (∀ b ∈ X, b < w.heap.size ∧ b ∉ M S0) → (M S0).Nodup → (∀ e ∈ S0, e.holds w (X ++ M S0)) → args.length = ts.length → (∀ (j : Nat) (t : T) (u : Value), ts[j]? = some t → args[j]? = some u → VRep w (X ++ M S0) t u) →
    Calls P f args.toArray w fun e w' => ∃ v t S', e = .returned v ∧ Keeps (M S0) w w' ∧ (M S').Nodup ∧ (∀ b ∈ M S', b ∈ M S0 ∨ w.heap.size ≤ b) ∧ (∀ e ∈ S', e.holds w' (X ++ M S')) ∧ VRep w' (X ++ M S') t v ∧ R t S'
theorem ACallsG.mono {P : Program} {G : Gv} {f : FuncId} {ts : List T} {S0 : St} {R R' : T → St → Prop} (h : ACallsG P G f ts S0 R) (hR : ∀ t S, R t S → R' t S) : ACallsG P G f ts S0 R' :=
  fun X w args g1 g2 h1 h2 h3 h4 h5 => (h X w args g1 g2 h1 h2 h3 h4 h5).mono fun e w' ⟨v, t, S', a, b, c, d, e, f, r⟩ => ⟨v, t, S', a, b, c, d, e, f, hR _ _ r⟩
theorem ACallsG.calls {P : Program} {G : Gv} {f : FuncId} {ts : List T} {R : T → St → Prop} (h : ACallsG P G f ts [] R) {w : World} {args : List Value} (hG : G.is w) (hl : args.length = ts.length) (ha : ∀ (j : Nat) (t : T) (u : Value), ts[j]? = some t → args[j]? = some u → VRep w [] t u) :
    Calls P f args.toArray w fun e w' => ∃ v t S', e = .returned v ∧ Below w.heap.size w w' ∧ VRep w' (M S') t v ∧ R t S' :=
  (h [] w args hG (by simp [M]) (fun _ hb => by cases hb) (by simp [M]) (fun _ he => by cases he) hl (by simpa [M] using ha)).mono fun e w' ⟨v, t, S', a, b, c, d, e', f, r⟩ => ⟨v, t, S', a, b.below, by simpa using f, r⟩
theorem ACallsG.intro {P : Program} {G : Gv} {f : FuncId} {fn : Func} {c : Code} {ts : List T} {S0 : St} {R : T → St → Prop} {N : Nat} {rs : List ResultVar} (hf : P.funcs[f]? = some fn) (hb : fn.body = some c) (hN : fn.ntmps = N) (hlen : ts.length ≤ N) (hrs : fn.results.toList = rs)
    (h : ∀ (X : List Nat) (w0 : World), G.is w0 ∧ G.b ∉ M S0 → AW ⟨P, X, M S0, w0, N, []⟩ c (retQ P rs R) (initEnv 0 ts) S0) : ACallsG P G f ts S0 R := by
  intro X w args g1 g2 h1 h2 h3 h4 h5
  refine calls_of_wp hf hb ?_
  have hs : Sim ⟨P, X, M S0, w, N, []⟩ (initEnv 0 ts) S0 { tmps := args.toArray ++ Array.replicate (fn.ntmps - args.toArray.size) undef, defers := [] } w := by
    refine ⟨Keeps.refl _ _, h2, fun b hb => .inl hb, h1, h3, ?_, rfl, fun k c t hk => ?_⟩
    · simp [hN]; omega
    · obtain ⟨rfl, -, e⟩ := get_initEnv ts 0 k c t hk
      refine ⟨fun _ => ?_, fun h => by cases h⟩
      rw [Nat.sub_zero] at e
      have hkl : k < args.length := h4 ▸ (List.getElem?_eq_some_iff.1 e).1
      have : (args.toArray ++ Array.replicate (fn.ntmps - args.toArray.size) undef).getD k undef = args[k] := by
        rw [Array.getD_eq_getD_getElem?, Array.getElem?_append_left (by simpa using hkl)]
        simp [hkl]
      rw [this]
      exact h5 k t _ e (List.getElem?_eq_getElem hkl)
  refine Code.wp_mono (fun e a w' hq => ?_) (h X w ⟨g1, g2⟩ _ _ hs)
  obtain ⟨env', S', hs', he, l, hl, hR⟩ := hq
  subst hrs
  obtain ⟨us, e1, e2, e3⟩ := Res.vals (cx := ⟨P, X, M S0, w, N, []⟩) hs' hl
  have hrun := results_list e3
  have hv : VRep w' (X ++ M S') (tupOf l) (tupV us) := by
    match l, us, e1, e2 with
    | [], [], _, e2 => exact .tup rfl e2
    | [t], [u], _, e2 => exact e2 0 t u rfl rfl
    | t :: t' :: r, u :: u' :: r', e1, e2 => exact .tup (by simpa using e1) e2
  have hR' : ∃ v t S'', (Ending.returned (tupV us)) = .returned v ∧ Keeps (M S0) w w' ∧ (M S'').Nodup ∧ (∀ b ∈ M S'', b ∈ M S0 ∨ w.heap.size ≤ b) ∧ (∀ e ∈ S'', e.holds w' (X ++ M S'')) ∧ VRep w' (X ++ M S'') t v ∧ R t S'' :=
    ⟨_, _, S', rfl, hs'.keeps, hs'.nd, hs'.fresh, hs'.ents, hv, hR⟩
  rcases he with rfl | rfl
  · exact ⟨hs'.defers, _, hrun, hR'⟩
  · exact ⟨hs'.defers, _, hrun, hR'⟩
section
variable {cx : Cx} {env : Env} {S : St} {o : Oper} {ops : Array Oper} {l : List Oper} {K : Env → St → Prop} {d : Nat}
/-- A call of one that reads the variable. -/
theorem AWL.callG {G : Gv} {f : FuncId} {xf : Operand} {xs : Array Operand} {ats : Array TypeId} {fst cap : Array Value} {ts : List T} {S1 S2 : St} {R : T → St → Prop} (hG : G.is cx.w0 ∧ G.b ∉ cx.M0) (hg : o.guard = none) (hd : o.dst = some d) (hN : d < cx.N)
    (ho : o.op = .call { callee := .value xf, args := xs, argTypes := ats }) (hf : calleeB cx.P f = true) (hxf : Ev env true xf (.v (.func (.func f) fst cap))) (hx : Evs env true xs.toList ts) (hS : S = S1 ++ S2)
    (hc : ACallsG cx.P G f (fst.toList.map T.v ++ (ts ++ cap.toList.map T.v)) S1 R) (hr : ∀ t S', R t S' → AWL cx ops l K ((d, true, t) :: env) (S' ++ S2)) : AWL cx ops (o :: l) K env S := by
  subst hS
  intro a w hs
  unfold wpList
  rw [if_pos (wanted_none hg)]
  refine .inl ?_
  unfold Oper.wp
  rw [exec_call ho hf (hxf.val hs rfl), Oper.upon_enter]
  obtain ⟨e1, e2⟩ := hx.spec hs rfl
  obtain ⟨c1, c2, c3, c4⟩ := hs.forCall
  obtain ⟨v1, v2⟩ := vals_spec (fst := fst.toList) (cap := cap.toList) e1 (fun j t u h1 h2 => c4 t u (e2 j t u h1 h2))
  have hw : G.is w := hG.1.keeps hs.keeps hG.2
  have hm : G.b ∉ M S1 := fun hb => by
    rcases hs.fresh G.b (by rw [M_append]; exact List.mem_append.2 (.inl hb)) with h | h
    · exact hG.2 h
    · have := hG.1.lt
      omega
  refine (hc (cx.X ++ M S2) w _ hw hm c1 c2 c3 v1 v2).mono ?_
  rintro e w' ⟨v, t, S', rfl, hk, hnd, hfr, hent, hv, hR⟩
  have hs' := hs.called hk hnd hfr hent
  rw [hd]
  refine hr t S' hR _ _ (hs'.put hN (fun _ => ?_) (by simp))
  refine hv.mono (Nat.le_refl _) (fun _ _ _ => rfl) (fun b _ hm => ?_)
  rw [M_append] at hm
  simp only [List.mem_append] at hm ⊢
  rcases hm with h | h | h
  · exact .inl (.inl h)
  · exact .inr h
  · exact .inl (.inr h)
theorem AWL.callGT {G : Gv} {f : FuncId} {xf : Operand} {xs : Array Operand} {ats : Array TypeId} {fst cap : Array Value} {ts : List T} {R : T → St → Prop} (hG : G.is cx.w0 ∧ G.b ∉ cx.M0) (hg : o.guard = none) (hd : o.dst = some d) (hN : d < cx.N)
    (ho : o.op = .call { callee := .value xf, args := xs, argTypes := ats }) (hf : calleeB cx.P f = true) (hxf : Ev env true xf (.v (.func (.func f) fst cap))) (hx : Evs env true xs.toList ts)
    (hc : ACallsG cx.P G f (fst.toList.map T.v ++ (ts ++ cap.toList.map T.v)) [] R) (hr : ∀ t S', R t S' → AWL cx ops l K ((d, true, t) :: env) S) : AWL cx ops (o :: l) K env S :=
  AWL.callG hG hg hd hN ho hf hxf hx (S1 := []) (S2 := S) rfl hc fun t S' hR => AWL.drop (List.sublist_append_right S' S) (hr t S' hR)
theorem call_plainG {G : Gv} {env : Env} {g : Bool} {f : FuncId} {xf : Operand} {xs : Array Operand} {ats : Array TypeId} {fst cap : Array Value} {ts : List T} {R : T → St → Prop} {r : Value} (hG : G.is cx.w0 ∧ G.b ∉ cx.M0) (ho : o.op = .call { callee := .value xf, args := xs, argTypes := ats }) (hf : calleeB cx.P f = true)
    (hxf : Ev env g xf (.v (.func (.func f) fst cap))) (hx : Evs env g xs.toList ts) (hc : g = true → ACallsG cx.P G f (fst.toList.map T.v ++ (ts ++ cap.toList.map T.v)) [] R) (hq : ∀ t S', R t S' → t = .v r) {a : Act} {w : World} (hs : Sim cx env S a w) (hgt : g = true) (w1 : World) (hk1 : Keeps [] w w1) :
    ∃ args, (execOp a.eval o).run cx.P w1 = .ok (.enter f args) w1 ∧ Calls cx.P f args w1 fun e w'' => e = .returned r ∧ Keeps [] w w'' := by
  refine ⟨_, exec_call ho hf (hxf.val hs hgt) w1, ?_⟩
  have hs1 := hs.more hk1
  obtain ⟨e1, e2⟩ := hx.spec hs hgt
  obtain ⟨c1, c2, c3, c4⟩ := Sim.forCall (S1 := []) (S2 := S) hs1
  obtain ⟨v1, v2⟩ := vals_spec (fst := fst.toList) (cap := cap.toList) e1 (fun j t u h1 h2 => c4 t u (hs.repMore hk1 (e2 j t u h1 h2)))
  refine (hc hgt (cx.X ++ M S) w1 _ (hG.1.keeps hs1.keeps hG.2) (by simp [M]) c1 c2 c3 v1 v2).mono ?_
  rintro e w' ⟨v, t, S', rfl, hk, hnd, hfr, hent, hv, hR⟩
  obtain rfl := hq t S' hR
  exact ⟨by rw [hv.v_inv], hk1.trans hk (by simp [M])⟩
theorem AWQ.callGPg {G : Gv} {f : FuncId} {xf : Operand} {xs : Array Operand} {ats : Array TypeId} {fst cap : Array Value} {ts : List T} {R : T → St → Prop} {r : Value} {j dj : Nat} {c b want : Bool} (hG : G.is cx.w0 ∧ G.b ∉ cx.M0) (hg : o.guard = some (j, want)) (hj : (ops[j]?).bind (·.dst) = some dj) (hk : get dj env = some (c, .v (.bool b)))
    (hd : o.dst = some d) (hN : d < cx.N) (ho : o.op = .call { callee := .value xf, args := xs, argTypes := ats }) (hf : calleeB cx.P f = true) (hxf : Ev env (c && (b == want)) xf (.v (.func (.func f) fst cap))) (hx : Evs env (c && (b == want)) xs.toList ts)
    (hc : (c && (b == want)) = true → ACallsG cx.P G f (fst.toList.map T.v ++ (ts ++ cap.toList.map T.v)) [] R) (hq : ∀ t S', R t S' → t = .v r) (hr : AWQ cx ops l K ((d, (c && (b == want)), .v r) :: env) S) : AWQ cx ops (o :: l) K env S := by
  intro a w hs
  unfold wpQuiet
  rw [hs.guard hg hj hk]
  cases hcc : (c && (b == want)) with
  | true =>
    rw [if_pos rfl]
    refine ⟨r, fun w' hw' => ?_, by rw [hd]; exact hr _ _ (hs.put hN (fun _ => .v r) (fun e => by rw [hcc] at e; cases e))⟩
    obtain ⟨args, h1, h2⟩ := call_plainG (g := c && (b == want)) hG ho hf hxf hx hc hq hs hcc w' hw'
    unfold Oper.quietAt
    rw [h1]
    exact ⟨rfl, h2⟩
  | false =>
    rw [if_neg (by simp), hd]
    exact hr _ _ (hs.put hN (fun e => by rw [hcc] at e; cases e) (fun _ => rfl))
theorem AWQ.callGPgT {G : Gv} {f : FuncId} {xf : Operand} {xs : Array Operand} {ats : Array TypeId} {fst cap : Array Value} {ts : List T} {R : T → St → Prop} {r : Value} {j dj : Nat} {c b : Bool} (hG : G.is cx.w0 ∧ G.b ∉ cx.M0) (hg : o.guard = some (j, true)) (hj : (ops[j]?).bind (·.dst) = some dj) (hk : get dj env = some (c, .v (.bool b)))
    (hd : o.dst = some d) (hN : d < cx.N) (ho : o.op = .call { callee := .value xf, args := xs, argTypes := ats }) (hf : calleeB cx.P f = true) (hxf : Ev env (c && b) xf (.v (.func (.func f) fst cap))) (hx : Evs env (c && b) xs.toList ts)
    (hc : (c && b) = true → ACallsG cx.P G f (fst.toList.map T.v ++ (ts ++ cap.toList.map T.v)) [] R) (hq : ∀ t S', R t S' → t = .v r) (hr : AWQ cx ops l K ((d, (c && b), .v r) :: env) S) : AWQ cx ops (o :: l) K env S := by
  have e : (c && (b == true)) = (c && b) := by cases b <;> rfl
  exact AWQ.callGPg hG hg hj hk hd hN ho hf (e ▸ hxf) (e ▸ hx) (fun h => hc (e ▸ h)) hq (e ▸ hr)
theorem AWQ.callGPgF {G : Gv} {f : FuncId} {xf : Operand} {xs : Array Operand} {ats : Array TypeId} {fst cap : Array Value} {ts : List T} {R : T → St → Prop} {r : Value} {j dj : Nat} {c b : Bool} (hG : G.is cx.w0 ∧ G.b ∉ cx.M0) (hg : o.guard = some (j, false)) (hj : (ops[j]?).bind (·.dst) = some dj) (hk : get dj env = some (c, .v (.bool b)))
    (hd : o.dst = some d) (hN : d < cx.N) (ho : o.op = .call { callee := .value xf, args := xs, argTypes := ats }) (hf : calleeB cx.P f = true) (hxf : Ev env (c && !b) xf (.v (.func (.func f) fst cap))) (hx : Evs env (c && !b) xs.toList ts)
    (hc : (c && !b) = true → ACallsG cx.P G f (fst.toList.map T.v ++ (ts ++ cap.toList.map T.v)) [] R) (hq : ∀ t S', R t S' → t = .v r) (hr : AWQ cx ops l K ((d, (c && !b), .v r) :: env) S) : AWQ cx ops (o :: l) K env S := by
  have e : (c && (b == false)) = (c && !b) := by cases b <;> rfl
  exact AWQ.callGPg hG hg hj hk hd hN ho hf (e ▸ hxf) (e ▸ hx) (fun h => hc (e ▸ h)) hq (e ▸ hr)
end
end Go.Proofs.YtjndpakhmgapjaaDoor

namespace Go.Proofs.YtjndpakhmgapjaaDoor
open Go Go.RowKit
set_option linter.unusedVariables false
set_option linter.unusedSectionVars false
set_option linter.unusedSimpArgs false
theorem zeroCells_1 (z : Value) (n : Nat) : (Builtin.zeroCells #[z] n).toList = List.replicate n z := by
  apply List.ext_getElem?
  intro i
  simp only [Builtin.zeroCells, Array.toList_map, Array.toList_range, List.size_toArray, List.length_singleton, Nat.mul_one, List.getElem?_map, List.getElem?_replicate]
  rcases Nat.lt_or_ge i n with h | h
  · rw [List.getElem?_range h, if_pos h]
    simp [Nat.mod_one]
  · rw [List.getElem?_eq_none (by simp; omega), if_neg (by omega)]; rfl
theorem run_append_full {P : Program} {w : World} {t tx ty e : TypeId} {b n m : Nat} {z0 : Value} {us zs news : List Value} {A : Option Addr} {v : Value} (he : elemOf P t = some (e, 1, b, [z0])) (hn : us.length = n) (hrow : RowIs w e 1 A (n + zs.length) (n + zs.length) (us ++ zs)) (hs : Src P 1 tx v m news w) (h63 : n + m ≤ maxLen) (hb : (n + m) * b ≤ 140737488355328) :
    ∃ A' zs' w', (Builtin.append_ #[t, tx] ty #[.slice A n (n + zs.length), v]).run P w = .ok (.slice A' (n + m) (n + m + zs'.length)) w' ∧ RowIs w' e 1 A' (n + m + zs'.length) (n + m + zs'.length) (us ++ news ++ zs') ∧ (zs' = zs.drop m ∨ zs' = List.replicate zs'.length z0) ∧ (∀ g, A'.map (·.block) = some g → A.map (·.block) = some g ∨ g = w.heap.size) ∧
      (∀ g, g < w.heap.size → A.map (·.block) ≠ some g → w'.heap[g]? = w.heap[g]?) ∧ w.heap.size ≤ w'.heap.size ∧ w'.os = w.os ∧ w'.tape = w.tape ∧ w'.output = w.output := by
  obtain ⟨h1, i, z, h2, h3, hsz1, rfl, h6, h7, h8⟩ := elemOf_spec he
  have hs' : Src P i.size tx v m news w := by rw [hsz1]; exact hs
  have hnl : news.length = m := by have := hs.newsLen; omega
  obtain ⟨r1, r2, r3, r4⟩ := hrow
  by_cases hroom : m ≤ zs.length
  · rcases r4 with ⟨rfl, hn0, hc0⟩ | ⟨gb, cur, fr, rfl, hh, hfr, hsz, htk⟩
    · obtain rfl : m = 0 := by omega
      obtain rfl : us = [] := List.eq_nil_of_length_eq_zero (by omega)
      obtain rfl : zs = [] := List.eq_nil_of_length_eq_zero (by omega)
      obtain rfl : news = [] := List.eq_nil_of_length_eq_zero hnl
      obtain rfl : n = 0 := by simpa using hn.symm
      exact ⟨none, [], w, run_append_nil0 w t tx ty e i h1 h2 v [] hs', ⟨by simp, by unfold maxLen; omega, Nat.le_refl _, .inl ⟨rfl, rfl, rfl⟩⟩, .inl rfl, (fun g hg => by cases hg), fun _ _ _ => rfl, Nat.le_refl _, rfl, rfl, rfl⟩
    · have hfit : n * i.size + news.length ≤ cur.size := by
        rw [hnl, hsz, hsz1, Nat.mul_one, Nat.mul_one]
        omega
      have hcell : ∀ j, j < news.length → (w.cell? ⟨gb, 0 + n * i.size + j, none⟩).isSome = true := fun j hj => by
        rw [cell_of_row w gb _ cur e fr hh, Array.getElem?_eq_getElem (by omega)]
        rfl
      have hfro : ∀ j, j < news.length → w.frozen? ⟨gb, 0 + n * i.size + j, none⟩ = false := fun j hj => by
        obtain ⟨lo, hi'⟩ := fr
        simp only [World.frozen?, hh]
        simp only at hfr
        rcases hfr with h | h <;> (simp; intro h'; omega)
      have hrun := run_append_room_src (P := P) w t tx ty e i h1 h2 gb 0 n (n + zs.length) v m news hs' (by omega) hcell hfro
      obtain ⟨cur', c1, c2⟩ := setCells_heap gb news (0 + n * i.size) w cur hh (by omega)
      obtain ⟨s1, s2, s3, s4, s5⟩ := setCells_rest gb news (0 + n * i.size) w
      have hcur : cur.toList = us ++ zs := by
        rw [← htk, List.take_of_length_le]
        rw [Array.length_toList, hsz]
        exact Nat.le_refl _
      have hdl : n + m + (zs.drop m).length = n + zs.length := by rw [List.length_drop]; omega
      have hc2 : cur'.toList = us ++ news ++ zs.drop m := by
        rw [c2, hcur, hsz1, Nat.mul_one, Nat.zero_add, hnl, ← hn, List.take_left, List.drop_append]
        rw [List.drop_eq_nil_of_le (by omega), List.nil_append, Nat.add_sub_cancel_left]
      have hcs : cur'.size = (n + m + (zs.drop m).length) * 1 := by
        have := congrArg List.length hc2
        rw [Array.length_toList] at this
        rw [this, List.length_append, List.length_append, hn, hnl, Nat.mul_one]
      refine ⟨some ⟨gb, 0, none⟩, zs.drop m, _, by rw [hdl]; exact hrun, ⟨by rw [List.length_append, List.length_append, hn, hnl, Nat.mul_one], by rw [hdl]; exact r2, Nat.le_refl _, .inr ⟨gb, cur', fr, rfl, c1, ?_, hcs, by rw [hc2]; exact List.take_of_length_le (by rw [List.length_append, List.length_append, hn, hnl, Nat.mul_one]; exact Nat.le_refl _)⟩⟩, .inl rfl, fun g hg => .inl hg, fun g _ hne => s5 g (fun e => hne (by subst e; rfl)), Nat.le_of_eq s1.symm, s2, s3, s4⟩
      rw [hcs, Nat.mul_one, hdl]
      rw [hsz, Nat.mul_one] at hfr
      exact hfr
  · have hn' : n + zs.length < n + m := by omega
    have hold : (Builtin.firstCells i.size n (.slice A n (n + zs.length))).run P w.drew = .ok us.toArray w.drew := by
      rcases r4 with ⟨rfl, hn0, hc0⟩ | ⟨gb, cur, fr, rfl, hh, hfr, hsz, htk⟩
      · obtain rfl : us = [] := List.eq_nil_of_length_eq_zero (by omega)
        obtain rfl : n = 0 := by simpa using hn.symm
        exact run_firstCells_none w.drew _ _ _ _
      · refine run_firstCells_some w.drew _ _ _ _ _ us (by rw [hsz1, Nat.mul_one, hn]) (fun j u hu => ?_)
        rw [add_lit', Nat.zero_add]
        exact RowIs.cell (w := w) (e := e) (size := 1) (n := n + zs.length) (c := n + zs.length) ⟨r1, r2, r3, .inr ⟨gb, cur, fr, rfl, hh, hfr, hsz, htk⟩⟩ (by rw [List.getElem?_append_left (List.getElem?_eq_some_iff.1 hu).1]; exact hu)
    have hfit := growslice_fits hn' hb
    unfold maxLen at h63
    have hrun := run_append_grow_src (P := P) w t tx ty e i z h1 h2 h3 A n (n + zs.length) us hold v m news hs' hn' (by omega) hfit
    have hcap1 := grownCap_ge w (n + m) (n + zs.length) e
    have hcap2 := grownCap_le_maxLen w (n + m) (n + zs.length) e (by unfold maxLen; omega)
    have hz : z.cells = #[z0] := by rw [h6]
    have hcl : ((us ++ news).toArray ++ Builtin.zeroCells z.cells (grownCap w (n + m) (n + zs.length) e - (n + m))).toList = us ++ news ++ List.replicate (grownCap w (n + m) (n + zs.length) e - (n + m)) z0 := by
      rw [hz, Array.toList_append, zeroCells_1]
    have hkc : n + m + (List.replicate (grownCap w (n + m) (n + zs.length) e - (n + m)) z0).length = grownCap w (n + m) (n + zs.length) e := by rw [List.length_replicate]; omega
    have hll : (us ++ news ++ List.replicate (grownCap w (n + m) (n + zs.length) e - (n + m)) z0).length = grownCap w (n + m) (n + zs.length) e := by rw [List.length_append, List.length_append, List.length_replicate, hn, hnl]; omega
    refine ⟨some ⟨w.heap.size, 0, none⟩, List.replicate (grownCap w (n + m) (n + zs.length) e - (n + m)) z0, _, by rw [hkc]; exact hrun, ?_, .inr (by rw [List.length_replicate]), fun g hg => .inr (by simpa using hg.symm), fun g hg _ => Below.heap_alloc w.drew _ g hg, by simp, rfl, rfl, rfl⟩
    rw [hkc]
    refine ⟨by rw [hll, Nat.mul_one], hcap2, Nat.le_refl _, .inr ⟨w.heap.size, _, (0, 0), rfl, heap_alloc_new w.drew _, .inl rfl, ?_, ?_⟩⟩
    · have := congrArg List.length hcl
      rw [Array.length_toList] at this
      rw [this, hll, Nat.mul_one]
    · rw [hcl, List.take_of_length_le (by rw [hll, Nat.mul_one]; exact Nat.le_refl _)]
section
variable {cx : Cx} {env : Env} {S : St} {o : Oper} {g : Bool} {x y z : Operand} {ops : Array Oper} {l : List Oper} {K : Env → St → Prop} {Q : Exit → Env → St → Prop} {d : Nat}
def u8V (b : UInt8) : Value := .int .u8 (b.toNat : Int)
theorem reps_u8 {w : World} {L : List Nat} : ∀ (bs : List UInt8), VReps w L (bs.map u8) (bs.map u8V)
  | [] => .nil
  | b :: bs => .cons (.v _) rfl (reps_u8 bs)
theorem reps_u8_inv {w : World} {L : List Nat} : ∀ {bs : List UInt8} {us : List Value}, VReps w L (bs.map u8) us → us = bs.map u8V
  | [], us, h => List.eq_nil_of_length_eq_zero (by simpa using h.len.symm)
  | b :: bs, [], h => absurd h.len (by simp)
  | b :: bs, u :: us, h => by
    have h0 := (h.at_ 0 _ u rfl rfl).v_inv
    have h1 : VReps w L (bs.map u8) us := ⟨by simpa using h.len, fun j t v e1 e2 => h.at_ (j + 1) t v e1 e2, fun v hv => h.one v (List.mem_cons_of_mem _ hv)⟩
    rw [reps_u8_inv h1, h0]
    rfl
/-- append to a row of bytes known up to what it can hold. -/
theorem AWL.appendFull {t tx e : TypeId} {b m i : Nat} {A : Option Addr} {bs r : List UInt8} {news : List T} (nb : List UInt8) (hnb : news = nb.map u8) (hg : o.guard = none) (hd : o.dst = some d) (hN : d < cx.N)
    (ho : o.op = .call { callee := .builtin .append, args := #[x, y], argTypes := #[t, tx] }) (he : elemOf cx.P t = some (e, 1, b, [.int .u8 0])) (hi : S[i]? = some (.row A (bs.length + r.length) (bs.length + r.length) e 1 ((bs ++ r).map u8))) (hx : Ev env true x (.v (.slice A bs.length (bs.length + r.length)))) (hy : SrcT cx env S y tx 1 m news)
    (h63 : bs.length + m ≤ maxLen) (hb : (bs.length + m) * b ≤ 140737488355328)
    (hr : ∀ (A' : Option Addr) (r' : List UInt8), AWL cx ops l K ((d, true, .v (.slice A' (bs ++ nb).length ((bs ++ nb).length + r'.length))) :: env) (S.set i (.row A' ((bs ++ nb).length + r'.length) ((bs ++ nb).length + r'.length) e 1 ((bs ++ nb ++ r').map u8)))) : AWL cx ops (o :: l) K env S := by
  subst hnb
  refine AWL.eff hg hd hN fun a w hs => ?_
  obtain ⟨us, hrow, hV⟩ := hs.row hi
  obtain ⟨ns, hVn, hsrc⟩ := hy a w hs
  obtain rfl := reps_u8_inv hV
  obtain rfl := reps_u8_inv hVn
  have hm : m = nb.length := by have := hsrc.newsLen; rw [List.length_map] at this; omega
  subst hm
  rw [List.map_append] at hrow
  have hzl : (r.map u8V).length = r.length := List.length_map ..
  rw [← hzl] at hrow
  obtain ⟨A', zs', w', hrun, hrow', hz', hblk, hkeep, hsz, hos, htp, hou⟩ := run_append_full (ty := o.type) he (by rw [List.length_map]) hrow hsrc h63 hb
  obtain ⟨r', rfl⟩ : ∃ r' : List UInt8, zs' = r'.map u8V := by
    rcases hz' with h | h
    · exact ⟨r.drop nb.length, by rw [h, List.map_drop]⟩
    · exact ⟨List.replicate zs'.length 0, by rw [List.map_replicate]; exact h⟩
  have hzl' : (r'.map u8V).length = r'.length := List.length_map ..
  rw [hzl, hzl'] at hrun
  rw [hzl'] at hrow'
  have hal : (bs ++ nb).length = bs.length + nb.length := List.length_append
  have hr' := hr A' r'
  rw [hal] at hr'
  refine ⟨_, w', _, _, ?_, ?_, .v _, hr'⟩
  · simp only [execOp, ho, resolve, invoke, builtin, Sem.run_bind, Sem.run_pure, Result.andThen_ok, List.map_toArray, List.map_cons, List.map_nil, hx.val hs rfl, hrun]
  · refine hs.swap hi hblk hkeep hsz hos htp hou (fun L hL => ⟨_, hrow', ?_⟩)
    rw [← List.map_append, ← List.map_append]
    exact reps_u8 _
theorem full_tree {w : World} {L L' : List Nat} {A : Option Addr} {e : TypeId} {bs r : List UInt8} (h : (Ent.row A (bs.length + r.length) (bs.length + r.length) e 1 ((bs ++ r).map u8)).holds w L) (hL : ∀ g, A.map (·.block) = some g → g ∉ L') : VRep w L' (.sl 1 (bs.map u8)) (.slice A bs.length (bs.length + r.length)) := by
  obtain ⟨us, ⟨r1, r2, r3, r4⟩, hV⟩ := h
  obtain rfl := reps_u8_inv hV
  rcases r4 with ⟨rfl, hn0, hc0⟩ | ⟨gb, cur, fr, rfl, hh, hfr, hsz, htk⟩
  · obtain rfl : bs = [] := List.eq_nil_of_length_eq_zero (by omega)
    exact .sl0 r2
  · refine sl_new (us := bs.map u8V) (by decide) (by rw [List.length_map, Nat.mul_one]) (Nat.le_add_right _ _) r2 (reps_u8 bs) hh (hL gb rfl) ?_
    rw [List.length_map]
    have hcur : cur.toList = (bs ++ r).map u8V := by
      rw [← htk, List.take_of_length_le]
      rw [Array.length_toList, hsz]
      exact Nat.le_refl _
    rw [hcur, List.map_append]
    conv => lhs; rw [show bs.length = (bs.map u8V).length from (List.length_map ..).symm, List.take_left]
theorem fromAt0 (A : Option Addr) (c : Nat) : fromAt A c 0 = A := by
  unfold fromAt
  split
  · rfl
  · cases A with
    | none => rfl
    | some ad =>
      have : ad.add 0 = ad := by unfold Addr.add; rfl
      simp [this]
theorem Yv.bytesStrFull {src dst e : TypeId} {i : Nat} {A : Option Addr} {bs r : List UInt8} (ho : o.op = .convert src dst x) (hs : isBytes cx.P src = true) (hd : isStr cx.P dst = true) (hi : S[i]? = some (.row A (bs.length + r.length) (bs.length + r.length) e 1 ((bs ++ r).map u8))) (hx : Ev env g x (.v (.slice A bs.length (bs.length + r.length)))) : Yv cx o env S g (sv bs) := by
  have h := Yv.bytesStrPart (cx := cx) (o := o) (g := g) (lo := 0) (m := bs.length) (c' := bs.length + r.length) ho hs hd hi (by rw [fromAt0]; exact hx) (fun _ => by omega)
  rwa [List.drop_zero, List.take_left] at h
theorem Yv.capV {ty e : TypeId} {A : Option Addr} {n c : Nat} (ho : o.op = .call { callee := .builtin .cap, args := #[x], argTypes := #[ty] }) (ht : sliceOf cx.P ty = some e) (hx : Ev env g x (.v (.slice A n c))) : Yv cx o env S g (.v (.int .i64 (c : Int))) :=
  Yv.plain fun a w hs hg w' => by
    simp [execOp, ho, resolve, invoke, builtin, hx.val hs hg, Builtin.cap_, Sem.run_bind, Sem.run_pure, run_underlying (sliceOf_spec ht), goInt]
theorem Yv.sliceFull {cx : Cx} {env : Env} {S : St} {o : Oper} {g : Bool} {x : Operand} {t e : TypeId} {k n c : Nat} {A : Option Addr} {xh : Option Operand} (ho : o.op = .slice t x none xh none) (h : sliceSz cx.P t = some (e, k)) (hx : Ev env g x (.v (.slice A n c)))
    (hh : Bound env g xh n c) : Yv cx o env S g (.v (.slice A c c)) := by
  intro a w hs hg
  have hv := hx.val hs hg
  obtain ⟨h1, i', h2, h3⟩ := sliceSz_spec h
  have hbnd := fun w' => run_bounds (P := cx.P) hs hg (isS := true) (cap := c) (lo := 0) (xl := none) Bound.none_ hh (Nat.zero_le _) (Nat.le_refl _) w'
  have hrun : ∀ w' : World, (execOp a.eval o).run cx.P w' = .ok (.value (.slice (if c = 0 then A else A.map (·.add (0 * k))) (c - 0) (c - 0))) w' := by
    intro w'
    have hb' := hbnd w'
    simp only [Option.map_none] at hb'
    simp only [execOp, ho, hv, Instr.sliceAt, Sem.run_bind, run_underlying h1, Result.andThen_ok, Instr.slice, Option.map_none, hb', sizeOf, typeInfo, run_program, h2, Sem.run_pure, h3]
  have e0 : (if c = 0 then A else A.map (·.add (0 * k))) = A := by
    cases A with
    | none => simp
    | some ad =>
      have : ad.add 0 = ad := by unfold Addr.add; rfl
      simp [this]
  rw [e0, Nat.sub_zero] at hrun
  exact ⟨_, .v _, fun w' _ => hrun w'⟩
end
end Go.Proofs.YtjndpakhmgapjaaDoor

namespace Go.Proofs.YtjndpakhmgapjaaDoor
open Go Go.RowKit
set_option linter.unusedSimpArgs false
set_option linter.unusedVariables false
def CB (b : Nat) (A : Option Addr) (c : List UInt8) (bs : List UInt8) : St := [.row A (bs.length + c.length) (bs.length + c.length) 5 1 ((bs ++ c).map u8), .box b 49 [.v (.slice A bs.length (bs.length + c.length))]]
def cp (b : Nat) : Value := .pointer (some ⟨b, 0, none⟩)
theorem putF_take {l : List Int} {j : Nat} (h : j < l.length) : putF (l.take (j + 1)) = putF (l.take j) ++ [byteOf (l.getD j 0)] := by
  unfold putF
  rw [List.take_succ_eq_append_getElem h, List.map_append]
  simp [h]
theorem cbx_end {b : Nat} {c : List UInt8} {A : Option Addr} {bs bs' : List UInt8} {E : Ent} (h : bs = bs') : ∃ A' c' e, (CB b A c bs ++ [E] : St) = CB b A' c' bs' ++ [e] := by subst h; exact ⟨_, _, _, rfl⟩
theorem u8_not' (b : UInt8) : ∃ c : UInt8, T.v (.int .u8 (bitsOf .xor .u8 (if IntKind.u8.signed then -1 else IntKind.u8.max) b.toNat)) = u8 c := ⟨_, byteOf_wrap _⟩
theorem put_nb (x : Int) : [T.v (.int .u8 (IntKind.u8.wrap x))] = [byteOf x].map u8 := by rw [byteOf_wrap]; rfl
theorem enc_end {A : Option Addr} {c bs : List UInt8} {z : T} {i : Ins} (h : bs = encF i) : ∃ (A' : Option Addr) (r : List UInt8), T.tup [.v (.slice A bs.length (bs.length + c.length)), z] = .tup [.v (.slice A' (encF i).length ((encF i).length + r.length)), z] ∧ ([Ent.row A (bs.length + c.length) (bs.length + c.length) 5 1 ((bs ++ c).map u8)] : St) = [Ent.row A' ((encF i).length + r.length) ((encF i).length + r.length) 5 1 ((encF i ++ r).map u8)] := by subst h; exact ⟨A, c, rfl, rfl⟩
theorem opF_range (k : Int) : 0 ≤ (opF k).2 ∧ (opF k).2 ≤ 15 := by
  unfold opF
  split
  · rename_i h
    have h2 : ∀ n : Fin 39, 0 ≤ (opTab.getD n.val (255, 4)).2 ∧ (opTab.getD n.val (255, 4)).2 ≤ 15 := by decide
    exact h2 ⟨k.toNat, by omega⟩
  · exact ⟨by decide, by decide⟩
section
variable {i : Ins}
theorem enc0 (h : clsF i.kind = 0) : encF i = [byteOf (rexN true i.s i.d), byteOf (opF i.kind).1, byteOf (twoN i.s i.d)] := by unfold encF; rw [h]; rfl
theorem enc1 (h : clsF i.kind = 1) : encF i = byteOf (rexN true 0 i.d) :: byteOf (opF i.kind).1 :: byteOf (twoN (opF i.kind).2 i.d) :: immF i.imm 4 := by unfold encF; rw [h]; rfl
theorem enc2 (h : clsF i.kind = 2) : encF i = [byteOf (rexN true 0 i.d), byteOf (opF i.kind).1, byteOf (twoN (opF i.kind).2 i.d)] := by unfold encF; rw [h]; rfl
theorem enc3 (h : clsF i.kind = 3) : encF i = byteOf (rexN true 0 i.d) :: byteOf (opF i.kind).1 :: byteOf (twoN (opF i.kind).2 i.d) :: immF i.imm 1 := by unfold encF; rw [h]; rfl
theorem enc4 (h : clsF i.kind = 4) : encF i = [byteOf (rexN false 0 i.d), byteOf (opF i.kind).1, byteOf (twoN (opF i.kind).2 i.d)] := by unfold encF; rw [h]; rfl
theorem enc5 (h : clsF i.kind = 5) : encF i = if smallF i.imm = true then byteOf (rexN true 0 i.d) :: 199 :: byteOf (twoN 0 i.d) :: immF i.imm 4 else byteOf (rexN true 0 i.d) :: byteOf (184 + i.d % 8) :: immF i.imm 8 := by unfold encF; rw [h]; rfl
theorem enc6 (h : clsF i.kind = 6) : encF i = memoryF i := by unfold encF; rw [h]; rfl
theorem enc7 (h : clsF i.kind = 7) : encF i = jumpF i := by unfold encF; rw [h]; rfl
theorem enc9 (h : clsF i.kind = 9) : encF i = [byteOf (rexN false 0 i.d), byteOf (80 + i.d % 8)] := by unfold encF; rw [h]; rfl
theorem enc10 (h : clsF i.kind = 10) : encF i = [byteOf (rexN false 0 i.d), byteOf (88 + i.d % 8)] := by unfold encF; rw [h]; rfl
theorem enc11 (h : clsF i.kind = 11) : encF i = [195] := by unfold encF; rw [h]; rfl
theorem enc12 (h : clsF i.kind = 12) : encF i = [15, 5] := by unfold encF; rw [h]; rfl
theorem enc13 (h : clsF i.kind = 13) : encF i = [15, 11] := by unfold encF; rw [h]; rfl
end
end Go.Proofs.YtjndpakhmgapjaaDoor

namespace Go.Proofs.YtjndpakhmgapjaaDoor
open Go Go.RowKit
set_option linter.unusedVariables false
set_option linter.unnecessarySimpa false
set_option linter.unusedSimpArgs false

set_option maxHeartbeats 400000 in
theorem put35 (b : Nat) (A : Option Addr) (c : List UInt8) (bs : List UInt8) (l : List Int) (hb : bs.length + l.length ≤ 1000 := by simp [putF, immF, leBytes_length] <;> omega) :
    ACalls Tryd.prog 28 [.v (cp b), .sl 1 (ints l)] (CB b A c bs) (fun t_ S => t_ = .v (cp b) ∧ ∃ A' c', S = CB b A' c' (bs ++ putF l)) := by
  refine ACalls.intro Tryd.func28 rfl Tryd.ntmps28 (Nat.le_of_ble_eq_true rfl) rfl fun X w0 => ?_
  refine AW.rseq ?_
  refine AWL.y rfl rfl (B rfl) (Yv.assign rfl (E rfl rfl)) ?_
  refine AWL.nil ?_
  refine AW.seq ?_
  refine AW.rseq ?_
  refine AWL.y rfl rfl (B rfl) (Yv.move rfl (E rfl rfl)) ?_
  refine AWL.y rfl rfl (B rfl) (Yv.lenSl rfl so_43 (B rfl) (E rfl rfl) len_ints) ?_
  refine AWL.y rfl rfl (B rfl) (Yv.move rfl (E rfl rfl)) ?_
  refine AWL.nil ?_
  refine AW.block ?_
  refine AW.loop3 (fun (j : Nat) (A1 : Option Addr) (c1 : List UInt8) => [(0, true, .v (cp b)), (7, true, .sl 1 (ints l)), (8, true, .v (.int .i64 (l.length : Int))), (9, true, .v (.int .i64 (j : Int)))]) (fun (j : Nat) (A1 : Option Addr) (c1 : List UInt8) => (CB b A1 c1 (bs ++ putF (l.take j)))) (fun (j : Nat) (A1 : Option Addr) (c1 : List UInt8) => j ≤ l.length) (fun (j : Nat) (A1 : Option Addr) (c1 : List UInt8) => l.length - j) 0 A c ?_ ?_ ?_ ?_
  · exact Nat.zero_le _
  · exact (Sub.cons rfl rfl (Sub.cons rfl rfl (Sub.cons rfl rfl (Sub.cons rfl rfl Sub.nil))))
  · simp [putF]
  ·
   intro j A1 c1 hinv
   have hlp : (bs ++ putF (l.take j)).length = bs.length + j := by simp [putF]; omega
   refine AW.rseq ?_
   refine AWL.y rfl rfl (B rfl) (Yv.lss rfl (E rfl rfl) (E rfl rfl)) ?_
   refine AWL.nil ?_
   refine AW.seq ?_
   refine AW.cond rfl (fun h0t => ?_) (fun h0f => ?_)
   ·
    try replace h0t := of_decide_eq_true h0t
    refine AW.skip ?_
    refine AW.seq ?_
    refine AW.block ?_
    refine AW.rseq ?_
    refine AWL.y rfl rfl (B rfl) (Yv.indexSl rfl ss_43 (B rfl) (E rfl rfl) (E rfl rfl) (fun hg => ⟨rfl, (by first | omega | (simp only [len_ints, len_u8s]; omega))⟩)) ?_
    refine AWL.y rfl rfl (B rfl) (Yv.loadRp rfl ag_3 (E rfl rfl) (fun hg => ints_get (by omega))) ?_
    refine AWL.y rfl rfl (B rfl) (Yv.assign rfl (E rfl rfl)) ?_
    refine AWL.nil ?_
    refine AW.region ?_
    refine AWL.y rfl rfl (B rfl) (Yv.move rfl (E rfl rfl)) ?_
    refine AWL.y rfl rfl (B rfl) (Yv.move rfl (E rfl rfl)) ?_
    refine AWL.y rfl rfl (B rfl) (Yv.nilChk rfl (E rfl rfl)) ?_
    refine AWL.y rfl rfl (B rfl) (Yv.fieldBox rfl fo_49_0 (E rfl rfl)) ?_
    refine AWL.y rfl rfl (B rfl) (Yv.loadBox rfl ag_24 (i := 1) rfl (E rfl rfl) rfl) ?_
    refine AWL.y rfl rfl (B rfl) (Yv.move rfl (E rfl rfl)) ?_
    refine AWL.y rfl rfl (B rfl) (Yv.conv rfl Tryd.underlying3 kd_5 (E rfl rfl)) ?_
    refine AWL.buildSlice1 rfl rfl (B rfl) rfl el_24 rfl (evsC (E rfl rfl) evs0) (Nat.le_of_ble_eq_true rfl) rfl rfl ?_
    refine AWL.appendFull (i := 0) [byteOf (l.getD j 0)] (put_nb _) rfl rfl (B rfl) rfl el_24 rfl (E rfl rfl) (SrcT.sl so_24 (B rfl) (E rfl rfl) rfl) (by unfold maxLen; omega) (by omega) (fun A21 c21 => ?_)
    refine AWL.y rfl rfl (B rfl) (Yv.nilChk rfl (E rfl rfl)) ?_
    refine AWL.y rfl rfl (B rfl) (Yv.fieldBox rfl fo_49_0 (E rfl rfl)) ?_
    refine AWL.storeBox (i := 1) rfl rfl rfl ag_24 rfl (E rfl rfl) (E rfl rfl) rfl rfl (Nat.le_of_ble_eq_true rfl) ?_
    refine AWL.nil ?_
    refine AW.region ?_
    refine AWL.y rfl rfl (B rfl) (Yv.addN_i64 rfl (E rfl rfl) (E rfl rfl) (fun hg => by omega)) ?_
    refine AWL.y rfl rfl (B rfl) (Yv.move rfl (E rfl rfl)) ?_
    refine AWL.nil ?_
    refine ⟨j + 1, A21, c21, by omega, by omega, Sub.cons rfl rfl (Sub.cons rfl rfl (Sub.cons rfl rfl (Sub.cons rfl (by simp) Sub.nil))), ?_⟩
    rw [putF_take (by omega), ← List.append_assoc]
    rfl
   try replace h0f := of_decide_eq_false h0f
   refine AW.exit ?_
   refine AW.rseq ?_
   refine AWL.y rfl rfl (B rfl) (Yv.move rfl (E rfl rfl)) ?_
   refine AWL.y rfl rfl (B rfl) (Yv.assign rfl (E rfl rfl)) ?_
   refine AWL.nil ?_
   refine AW.ret (retI (.tmp rfl .nil) ?_)
   have hj : j = l.length := by omega
   subst hj
   rw [List.take_length]
   exact ⟨rfl, _, _, rfl⟩

set_option maxHeartbeats 400000 in
theorem rex34 (b : Nat) (A : Option Addr) (c : List UInt8) (bs : List UInt8) (wide : Bool) (p q : Int) (hp : 0 ≤ p ∧ p ≤ 15 := by first | assumption | decide | exact opF_range _) (hq : 0 ≤ q ∧ q ≤ 15 := by first | assumption | decide | exact opF_range _) (hb : bs.length + 20 ≤ 990 := by simp [putF, immF, leBytes_length] <;> omega) :
    ACalls Tryd.prog 27 [.v (cp b), .v (.bool wide), .v (.int .i64 p), .v (.int .i64 q)] (CB b A c bs) (fun t_ S => t_ = .v (cp b) ∧ ∃ A' c', S = CB b A' c' (bs ++ [byteOf (rexN wide p q)])) := by
  refine ACalls.intro Tryd.func27 rfl Tryd.ntmps27 (Nat.le_of_ble_eq_true rfl) rfl fun X w0 => ?_
  refine AW.rseq ?_
  refine AWL.y rfl rfl (B rfl) (Yv.assign rfl (E rfl rfl)) ?_
  refine AWL.nil ?_
  refine AW.rseq ?_
  refine AWL.y rfl rfl (B rfl) (Yv.move rfl (E rfl rfl)) ?_
  refine AWL.y rfl rfl (B rfl) (Yv.shrC 8 (by decide) (by decide) (by decide) rfl (E rfl rfl) (E rfl rfl)) ?_
  refine AWL.y rfl rfl (B rfl) (Yv.shlCN_i64 4 (by decide) (by decide) rfl (E rfl rfl) (E rfl rfl) (fun hg => by omega)) ?_
  refine AWL.y rfl rfl (B rfl) (Yv.bits rfl rfl (E rfl rfl) (E rfl rfl)) ?_
  refine AWL.y rfl rfl (B rfl) (Yv.move rfl (E rfl rfl)) ?_
  refine AWL.y rfl rfl (B rfl) (Yv.shrC 8 (by decide) (by decide) (by decide) rfl (E rfl rfl) (E rfl rfl)) ?_
  refine AWL.y rfl rfl (B rfl) (Yv.bits rfl rfl (E rfl rfl) (E rfl rfl)) ?_
  refine AWL.y rfl rfl (B rfl) (Yv.assign rfl (E rfl rfl)) ?_
  refine AWL.nil ?_
  refine AW.seq ?_
  refine AW.rseq ?_
  refine AWL.y rfl rfl (B rfl) (Yv.move rfl (E rfl rfl)) ?_
  refine AWL.nil ?_
  refine AW.cond rfl (fun h0t => ?_) (fun h0f => ?_)
  ·
   try replace h0t := of_decide_eq_true h0t
   subst h0t
   refine AW.region ?_
   refine AWL.y rfl rfl (B rfl) (Yv.move rfl (E rfl rfl)) ?_
   refine AWL.y rfl rfl (B rfl) (Yv.bits rfl rfl (E rfl rfl) (E rfl rfl)) ?_
   refine AWL.y rfl rfl (B rfl) (Yv.assign rfl (E rfl rfl)) ?_
   refine AWL.nil ?_
   refine AW.rseq ?_
   refine AWL.y rfl rfl (B rfl) (Yv.move rfl (E rfl rfl)) ?_
   refine AWL.y rfl rfl (B rfl) (Yv.move rfl (E rfl rfl)) ?_
   refine AWL.buildSlice1 rfl rfl (B rfl) rfl el_43 rfl (evsC (E rfl rfl) evs0) (Nat.le_of_ble_eq_true rfl) rfl rfl ?_
   refine AWL.call rfl rfl (B rfl) rfl ce_28 (E rfl rfl) (evsC (E rfl rfl) (evsC (E rfl rfl) evs0)) (S1 := CB _ _ _ _) (S2 := []) rfl (put35 b A c (bs) [_] (by simp; omega)) ?_
   rintro t23 S23 ⟨rfl, A23, c23, rfl⟩
   refine AWL.y rfl rfl (B rfl) (Yv.assign rfl (E rfl rfl)) ?_
   refine AWL.nil ?_
   refine AW.ret (retI (.tmp rfl .nil) ?_)
   exact ⟨rfl, _, _, (by rw [rex_or8 p q hp hq]; rfl)⟩
  try replace h0f := of_decide_eq_false h0f
  subst h0f
  refine AW.skip ?_
  refine AW.rseq ?_
  refine AWL.y rfl rfl (B rfl) (Yv.move rfl (E rfl rfl)) ?_
  refine AWL.y rfl rfl (B rfl) (Yv.move rfl (E rfl rfl)) ?_
  refine AWL.buildSlice1 rfl rfl (B rfl) rfl el_43 rfl (evsC (E rfl rfl) evs0) (Nat.le_of_ble_eq_true rfl) rfl rfl ?_
  refine AWL.call rfl rfl (B rfl) rfl ce_28 (E rfl rfl) (evsC (E rfl rfl) (evsC (E rfl rfl) evs0)) (S1 := CB _ _ _ _) (S2 := []) rfl (put35 b A c (bs) [_] (by simp; omega)) ?_
  rintro t23 S23 ⟨rfl, A23, c23, rfl⟩
  refine AWL.y rfl rfl (B rfl) (Yv.assign rfl (E rfl rfl)) ?_
  refine AWL.nil ?_
  refine AW.ret (retI (.tmp rfl .nil) ?_)
  exact ⟨rfl, _, _, (by rw [rex_or p q hp hq, show rexN false p q = 64 + p / 8 * 4 + q / 8 from Int.add_zero _]; rfl)⟩

set_option maxHeartbeats 400000 in
theorem two36 (b : Nat) (A : Option Addr) (c : List UInt8) (bs : List UInt8) (p q : Int) (hp : 0 ≤ p ∧ p ≤ 15 := by first | assumption | decide | exact opF_range _) (hq : 0 ≤ q ∧ q ≤ 15 := by first | assumption | decide | exact opF_range _) (hb : bs.length + 20 ≤ 990 := by simp [putF, immF, leBytes_length] <;> omega) :
    ACalls Tryd.prog 29 [.v (cp b), .v (.int .i64 p), .v (.int .i64 q)] (CB b A c bs) (fun t_ S => t_ = .v (cp b) ∧ ∃ A' c', S = CB b A' c' (bs ++ [byteOf (twoN p q)])) := by
  refine ACalls.intro Tryd.func29 rfl Tryd.ntmps29 (Nat.le_of_ble_eq_true rfl) rfl fun X w0 => ?_
  refine AW.rseq ?_
  refine AWL.y rfl rfl (B rfl) (Yv.assign rfl (E rfl rfl)) ?_
  refine AWL.nil ?_
  refine AW.rseq ?_
  refine AWL.y rfl rfl (B rfl) (Yv.move rfl (E rfl rfl)) ?_
  refine AWL.y rfl rfl (B rfl) (Yv.move rfl (E rfl rfl)) ?_
  refine AWL.y rfl rfl (B rfl) (Yv.andN_i64 3 8 (by decide) (by decide) (by decide) rfl (E rfl rfl) (E rfl rfl) (fun hg => ⟨by omega, by omega⟩)) ?_
  refine AWL.y rfl rfl (B rfl) (Yv.shlCN_i64 8 (by decide) (by decide) rfl (E rfl rfl) (E rfl rfl) (fun hg => by omega)) ?_
  refine AWL.y rfl rfl (B rfl) (Yv.bits rfl rfl (E rfl rfl) (E rfl rfl)) ?_
  refine AWL.y rfl rfl (B rfl) (Yv.move rfl (E rfl rfl)) ?_
  refine AWL.y rfl rfl (B rfl) (Yv.andN_i64 3 8 (by decide) (by decide) (by decide) rfl (E rfl rfl) (E rfl rfl) (fun hg => ⟨by omega, by omega⟩)) ?_
  refine AWL.y rfl rfl (B rfl) (Yv.bits rfl rfl (E rfl rfl) (E rfl rfl)) ?_
  refine AWL.buildSlice1 rfl rfl (B rfl) rfl el_43 rfl (evsC (E rfl rfl) evs0) (Nat.le_of_ble_eq_true rfl) rfl rfl ?_
  refine AWL.call rfl rfl (B rfl) rfl ce_28 (E rfl rfl) (evsC (E rfl rfl) (evsC (E rfl rfl) evs0)) (S1 := CB _ _ _ _) (S2 := []) rfl (put35 b A c (bs) [_] (by simp; omega)) ?_
  rintro t16 S16 ⟨rfl, A16, c16, rfl⟩
  refine AWL.y rfl rfl (B rfl) (Yv.assign rfl (E rfl rfl)) ?_
  refine AWL.nil ?_
  refine AW.ret (retI (.tmp rfl .nil) ?_)
  exact ⟨rfl, _, _, (by rw [show ((8 : Nat) : Int) = 8 from rfl, two_or p q]; rfl)⟩

set_option maxHeartbeats 400000 in
theorem imm37 (b : Nat) (A : Option Addr) (c : List UInt8) (bs : List UInt8) (n : Int) (k : Nat) (hk : k ≤ 8 := by omega) (hb : bs.length + 20 ≤ 990 := by simp [putF, immF, leBytes_length] <;> omega) :
    ACalls Tryd.prog 30 [.v (cp b), .v (.int .i64 n), .v (.int .i64 (k : Int))] (CB b A c bs) (fun t_ S => t_ = .v (cp b) ∧ ∃ A' c', S = CB b A' c' (bs ++ immF n k)) := by
  refine ACalls.intro Tryd.func30 rfl Tryd.ntmps30 (Nat.le_of_ble_eq_true rfl) rfl fun X w0 => ?_
  refine AW.rseq ?_
  refine AWL.y rfl rfl (B rfl) (Yv.assign rfl (E rfl rfl)) ?_
  refine AWL.nil ?_
  refine AW.seq ?_
  refine AW.rseq ?_
  refine AWL.y rfl rfl (B rfl) (Yv.move rfl (E rfl rfl)) ?_
  refine AWL.y rfl rfl (B rfl) (Yv.move rfl (E rfl rfl)) ?_
  refine AWL.nil ?_
  refine AW.block ?_
  refine AW.loop3 (fun (j : Nat) (A1 : Option Addr) (c1 : List UInt8) => [(0, true, .v (cp b)), (1, true, .v (.int .i64 (n / 256 ^ j))), (7, true, .v (.int .i64 (k : Int))), (8, true, .v (.int .i64 (j : Int)))]) (fun (j : Nat) (A1 : Option Addr) (c1 : List UInt8) => (CB b A1 c1 (bs ++ immF n j))) (fun (j : Nat) (A1 : Option Addr) (c1 : List UInt8) => j ≤ k) (fun (j : Nat) (A1 : Option Addr) (c1 : List UInt8) => k - j) 0 A c ?_ ?_ ?_ ?_
  · exact Nat.zero_le _
  · exact Sub.cons rfl rfl (Sub.cons rfl (by simp) (Sub.cons rfl rfl (Sub.cons rfl rfl Sub.nil)))
  · simp [immF, leBytes]
  ·
   intro j A1 c1 hinv
   have hlp : (bs ++ immF n j).length = bs.length + j := by simp [immF, leBytes_length]
   refine AW.rseq ?_
   refine AWL.y rfl rfl (B rfl) (Yv.lss rfl (E rfl rfl) (E rfl rfl)) ?_
   refine AWL.nil ?_
   refine AW.seq ?_
   refine AW.cond rfl (fun h0t => ?_) (fun h0f => ?_)
   ·
    try replace h0t := of_decide_eq_true h0t
    refine AW.skip ?_
    refine AW.seq ?_
    refine AW.block ?_
    refine AW.rseq ?_
    refine AWL.y rfl rfl (B rfl) (Yv.move rfl (E rfl rfl)) ?_
    refine AWL.y rfl rfl (B rfl) (Yv.move rfl (E rfl rfl)) ?_
    refine AWL.y rfl rfl (B rfl) (Yv.bits rfl rfl (E rfl rfl) (E rfl rfl)) ?_
    refine AWL.buildSlice1 rfl rfl (B rfl) rfl el_43 rfl (evsC (E rfl rfl) evs0) (Nat.le_of_ble_eq_true rfl) rfl rfl ?_
    refine AWL.call rfl rfl (B rfl) rfl ce_28 (E rfl rfl) (evsC (E rfl rfl) (evsC (E rfl rfl) evs0)) (S1 := CB _ _ _ _) (S2 := []) rfl (put35 b A1 c1 (bs ++ immF n j) [_] (by rw [List.length_cons, List.length_nil]; omega)) ?_
    rintro t14 S14 ⟨rfl, A14, c14, rfl⟩
    refine AWL.nil ?_
    refine AW.region ?_
    refine AWL.y rfl rfl (B rfl) (Yv.move rfl (E rfl rfl)) ?_
    refine AWL.y rfl rfl (B rfl) (Yv.shrC 256 (by decide) (by decide) (by decide) rfl (E rfl rfl) (E rfl rfl)) ?_
    refine AWL.y rfl rfl (B rfl) (Yv.assign rfl (E rfl rfl)) ?_
    refine AWL.nil ?_
    refine AW.region ?_
    refine AWL.y rfl rfl (B rfl) (Yv.addN_i64 rfl (E rfl rfl) (E rfl rfl) (fun hg => by omega)) ?_
    refine AWL.y rfl rfl (B rfl) (Yv.move rfl (E rfl rfl)) ?_
    refine AWL.nil ?_
    refine ⟨j + 1, A14, c14, by omega, by omega, Sub.cons rfl rfl (Sub.cons rfl (by rw [div_succ]) (Sub.cons rfl rfl (Sub.cons rfl (by simp) Sub.nil))), ?_⟩
    rw [immF_succ, ← List.append_assoc, ← byteOf_and]
    rfl
   try replace h0f := of_decide_eq_false h0f
   refine AW.exit ?_
   refine AW.rseq ?_
   refine AWL.y rfl rfl (B rfl) (Yv.move rfl (E rfl rfl)) ?_
   refine AWL.y rfl rfl (B rfl) (Yv.assign rfl (E rfl rfl)) ?_
   refine AWL.nil ?_
   refine AW.ret (retI (.tmp rfl .nil) ?_)
   have hj : j = k := by omega
   subst hj
   exact ⟨rfl, _, _, rfl⟩

set_option maxHeartbeats 400000 in
theorem mem53 (b : Nat) (A : Option Addr) (c : List UInt8) (bs : List UInt8) (p q n : Int) (hp : 0 ≤ p ∧ p ≤ 15 := by first | assumption | decide | exact opF_range _) (hq : 0 ≤ q ∧ q ≤ 15 := by first | assumption | decide | exact opF_range _) (hb : bs.length + 20 ≤ 900 := by simp [putF, immF, leBytes_length] <;> omega) :
    ACalls Tryd.prog 55 [.v (cp b), .v (.int .i64 p), .v (.int .i64 q), .v (.int .i64 n)] (CB b A c bs) (fun t_ S => t_ = .v (cp b) ∧ ∃ A' c', S = CB b A' c' (bs ++ memF p q n)) := by
  refine ACalls.intro Tryd.func55 rfl Tryd.ntmps55 (Nat.le_of_ble_eq_true rfl) rfl fun X w0 => ?_
  refine AW.rseq ?_
  refine AWL.y rfl rfl (B rfl) (Yv.assign rfl (E rfl rfl)) ?_
  refine AWL.nil ?_
  refine AW.rseq ?_
  refine AWL.y rfl rfl (B rfl) (Yv.move rfl (E rfl rfl)) ?_
  refine AWL.y rfl rfl (B rfl) (Yv.move rfl (E rfl rfl)) ?_
  refine AWL.y rfl rfl (B rfl) (Yv.andN_i64 3 8 (by decide) (by decide) (by decide) rfl (E rfl rfl) (E rfl rfl) (fun hg => ⟨by omega, by omega⟩)) ?_
  refine AWL.y rfl rfl (B rfl) (Yv.shlCN_i64 8 (by decide) (by decide) rfl (E rfl rfl) (E rfl rfl) (fun hg => by omega)) ?_
  refine AWL.y rfl rfl (B rfl) (Yv.bits rfl rfl (E rfl rfl) (E rfl rfl)) ?_
  refine AWL.y rfl rfl (B rfl) (Yv.move rfl (E rfl rfl)) ?_
  refine AWL.y rfl rfl (B rfl) (Yv.andN_i64 3 8 (by decide) (by decide) (by decide) rfl (E rfl rfl) (E rfl rfl) (fun hg => ⟨by omega, by omega⟩)) ?_
  refine AWL.y rfl rfl (B rfl) (Yv.bits rfl rfl (E rfl rfl) (E rfl rfl)) ?_
  refine AWL.buildSlice1 rfl rfl (B rfl) rfl el_43 rfl (evsC (E rfl rfl) evs0) (Nat.le_of_ble_eq_true rfl) rfl rfl ?_
  refine AWL.call rfl rfl (B rfl) rfl ce_28 (E rfl rfl) (evsC (E rfl rfl) (evsC (E rfl rfl) evs0)) (S1 := CB _ _ _ _) (S2 := []) rfl (put35 b A c (bs) [_] (by simp; omega)) ?_
  rintro t18 S18 ⟨rfl, A18, c18, rfl⟩
  refine AWL.nil ?_
  have e1 : putF [bitsOf .or .i64 (bitsOf .or .i64 128 (p % ((8 : Nat) : Int) * 8)) (q % ((8 : Nat) : Int))] = [byteOf (memN p q)] := by rw [show ((8 : Nat) : Int) = 8 from rfl, mem_or p q]; rfl
  rw [e1]
  refine AW.seq ?_
  refine AW.rseq ?_
  refine AWL.y rfl rfl (B rfl) (Yv.move rfl (E rfl rfl)) ?_
  refine AWL.y rfl rfl (B rfl) (Yv.andN_i64 3 8 (by decide) (by decide) (by decide) rfl (E rfl rfl) (E rfl rfl) (fun hg => ⟨by omega, by omega⟩)) ?_
  refine AWL.y rfl rfl (B rfl) (Yv.eql rfl (E rfl rfl) (E rfl rfl)) ?_
  refine AWL.nil ?_
  refine AW.cond rfl (fun h0t => ?_) (fun h0f => ?_)
  ·
   try replace h0t := of_decide_eq_true h0t
   replace h0t : q % 8 = 4 := h0t
   refine AW.region ?_
   refine AWL.y rfl rfl (B rfl) (Yv.move rfl (E rfl rfl)) ?_
   refine AWL.buildSlice1 rfl rfl (B rfl) rfl el_43 rfl (evsC (E rfl rfl) evs0) (Nat.le_of_ble_eq_true rfl) rfl rfl ?_
   refine AWL.call rfl rfl (B rfl) rfl ce_28 (E rfl rfl) (evsC (E rfl rfl) (evsC (E rfl rfl) evs0)) (S1 := CB _ _ _ _) (S2 := []) rfl (put35 b _ _ (bs ++ [byteOf (memN p q)]) [_] (by simp; omega)) ?_
   rintro t24 S24 ⟨rfl, A24, c24, rfl⟩
   refine AWL.nil ?_
   refine AW.rseq ?_
   refine AWL.y rfl rfl (B rfl) (Yv.move rfl (E rfl rfl)) ?_
   refine AWL.y rfl rfl (B rfl) (Yv.move rfl (E rfl rfl)) ?_
   refine AWL.call rfl rfl (B rfl) rfl ce_30 (E rfl rfl) (evsC (E rfl rfl) (evsC (E rfl rfl) (evsC (E rfl rfl) evs0))) (S1 := CB _ _ _ _) (S2 := []) rfl (imm37 b _ _ (bs ++ [byteOf (memN p q)] ++ [36]) n 4 (by omega) (by simp; omega)) ?_
   rintro t27 S27 ⟨rfl, A27, c27, rfl⟩
   refine AWL.y rfl rfl (B rfl) (Yv.assign rfl (E rfl rfl)) ?_
   refine AWL.nil ?_
   refine AW.ret (retI (.tmp rfl .nil) ?_)
   exact ⟨rfl, _, _, (by rw [memF, if_pos h0t]; simp [putF]; rfl)⟩
  try replace h0f := of_decide_eq_false h0f
  replace h0f : ¬ q % 8 = 4 := h0f
  refine AW.skip ?_
  refine AW.rseq ?_
  refine AWL.y rfl rfl (B rfl) (Yv.move rfl (E rfl rfl)) ?_
  refine AWL.y rfl rfl (B rfl) (Yv.move rfl (E rfl rfl)) ?_
  refine AWL.call rfl rfl (B rfl) rfl ce_30 (E rfl rfl) (evsC (E rfl rfl) (evsC (E rfl rfl) (evsC (E rfl rfl) evs0))) (S1 := CB _ _ _ _) (S2 := []) rfl (imm37 b _ _ (bs ++ [byteOf (memN p q)]) n 4 (by omega) (by simp; omega)) ?_
  rintro t27 S27 ⟨rfl, A27, c27, rfl⟩
  refine AWL.y rfl rfl (B rfl) (Yv.assign rfl (E rfl rfl)) ?_
  refine AWL.nil ?_
  refine AW.ret (retI (.tmp rfl .nil) ?_)
  exact ⟨rfl, _, _, (by rw [memF, if_neg h0f]; simp; rfl)⟩

end Go.Proofs.YtjndpakhmgapjaaDoor
