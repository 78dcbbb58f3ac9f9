/-
  STRINGS AS LISTS OF BYTES; nil checks, arrays behind pointers, min, unsafe.String, zeros appended, bodies that the model stands for. Generic: no program is named here.
-/
import Derived.Test.YtjndpakhmgapjaaDoorAw16
import Derived.Lib.UnsafeStr
import Derived.Lib.Bytealg
import Derived.Laws.Pointers
namespace Go.Proofs.YtjndpakhmgapjaaDoor
open Go Go.RowKit
set_option linter.unusedVariables false

/-- A string, by its bytes. -/
def sv (l : List UInt8) : T := .v (.string ⟨l.toArray⟩)
theorem extract_list (l : List UInt8) (lo hi : Nat) : (⟨l.toArray⟩ : ByteArray).extract lo hi = ⟨((l.drop lo).take (hi - lo)).toArray⟩ := by
  apply Go.WideShapes.bytes_inj
  simp
theorem append_list (l r : List UInt8) : (⟨l.toArray⟩ : ByteArray) ++ ⟨r.toArray⟩ = ⟨(l ++ r).toArray⟩ := by
  apply Go.WideShapes.bytes_inj
  simp

section
variable {cx : Cx} {env : Env} {S : St} {o : Oper} {g : Bool} {x y z : Operand} {ops : Array Oper} {l : List Oper} {K : Env → St → Prop} {Q : Exit → Env → St → Prop} {d : Nat}

theorem Yv.lenL {ty : TypeId} {s : List UInt8} (ho : o.op = .call { callee := .builtin .len, args := #[x], argTypes := #[ty] }) (ht : isStr cx.P ty = true) (hx : Ev env g x (sv s)) : Yv cx o env S g (.v (.int .i64 (s.length : Int))) := Yv.lenS ho ht hx
theorem Yv.eqlL {ty yt : TypeId} {p q : List UInt8} (ho : o.op = .binOp .eql ty x y yt) (hx : Ev env g x (sv p)) (hy : Ev env g y (sv q)) : Yv cx o env S g (.v (.bool (decide (p = q)))) := Yv.eqlS ho hx hy
theorem Yv.neqL {ty yt : TypeId} {p q : List UInt8} (ho : o.op = .binOp .neq ty x y yt) (hx : Ev env g x (sv p)) (hy : Ev env g y (sv q)) : Yv cx o env S g (.v (.bool (!decide (p = q)))) := Yv.neqS ho hx hy
theorem Yv.addL {ty yt : TypeId} {p q : List UInt8} (ho : o.op = .binOp .add ty x y yt) (hx : Ev env g x (sv p)) (hy : Ev env g y (sv q)) (hb : g = true → p.length + q.length ≤ 9223372036854775807) : Yv cx o env S g (sv (p ++ q)) := by
  have := Yv.addS (cx := cx) (S := S) ho hx hy hb
  rwa [append_list] at this
theorem Yv.sliceL {t : TypeId} {lo hi : Nat} {s : List UInt8} {xl xh : Option Operand} (ho : o.op = .slice t x xl xh none) (h : isStr cx.P t = true) (hx : Ev env g x (sv s)) (hl : Bound env g xl 0 lo) (hh : Bound env g xh s.length hi) (hb : g = true → lo ≤ hi ∧ hi ≤ s.length) :
    Yv cx o env S g (sv ((s.drop lo).take (hi - lo))) := by
  have := Yv.sliceS (cx := cx) (S := S) ho h hx hl hh hb
  rwa [extract_list] at this
theorem Yv.indexL {t : TypeId} {j : Nat} {kd : IntKind} {p : Int} {s : List UInt8} (ho : o.op = .index t x y) (h : isStr cx.P t = true) (hx : Ev env g x (sv s)) (hy : Ev env g y (.v (.int kd p))) (hj : g = true → p = (j : Int) ∧ j < s.length) : Yv cx o env S g (u8 (s.getD j 0)) := by
  refine Yv.indexS (b := s.getD j 0) (j := j) ho h hx hy (fun hg => ?_)
  obtain ⟨h1, h2⟩ := hj hg
  exact ⟨h1, by
    have : s.getD j 0 = s[j] := by simp [List.getD, List.getElem?_eq_getElem h2]
    rw [this]
    first
      | (simp [h2]; done)
      | exact (getElem?_pos (⟨s.toArray⟩ : ByteArray) j h2)⟩
theorem SrcT.strL {tx : TypeId} {s : List UInt8} (ht : isStr cx.P tx = true) (hx : Ev env true x (sv s)) : SrcT cx env S x tx 1 s.length (s.map u8) := SrcT.str ht hx
theorem Yv.nilChk {a : Addr} (ho : o.op = .nilCheck x) (hx : Ev env g x (.v (.pointer (some a)))) : Yv cx o env S g (.v (.pointer (some a))) :=
  Yv.plain fun ac w hs hg w' => by simp [execOp, ho, hx.val hs hg, Sem.run_pure]
theorem freeNil {a : Addr} (ho : o.op = .nilCheck x) (hx : Ev env true x (.v (.pointer (some a)))) : ∀ ac w, Sim cx env S ac w → ∃ u, VRep w (cx.X ++ M S) (.v (.pointer (some a))) u ∧ ∀ w', (execOp ac.eval o).run cx.P w' = .ok (.value u) w' :=
  fun ac w hs => ⟨_, .v _, fun w' => by simp [execOp, ho, hx.val hs rfl, Sem.run_pure]⟩
def ptrOf (P : Program) (t : TypeId) : Bool := match P.underlying t with | some (.pointer _) => true | _ => false
theorem ptrOf_spec {P : Program} {t : TypeId} (h : ptrOf P t = true) : P.underlying t = some (.pointer (P.pointee t)) := by
  unfold ptrOf at h
  unfold Program.pointee
  split at h
  · rename_i e; rw [e]
  · cases h
theorem Yv.eqlNilP {ty yt : TypeId} {a : Option Addr} (ho : o.op = .binOp .eql ty x (.const (.pointer none)) yt) (ht : ptrOf cx.P ty = true) (hx : Ev env g x (.v (.pointer a))) : Yv cx o env S g (.v (.bool a.isNone)) :=
  Yv.plain fun ac w hs hg w' => by
    have h := run_eql_pointer_nil (P := cx.P) w' ty a (ptrOf_spec ht)
    simp only [execOp, ho, hx.val hs hg, Sem.run_bind]
    simp [eqGuard, Act.eval, h, Sem.run_pure, Sem.run_bind]
theorem Yv.neqNilP {ty yt : TypeId} {a : Option Addr} (ho : o.op = .binOp .neq ty x (.const (.pointer none)) yt) (ht : ptrOf cx.P ty = true) (hx : Ev env g x (.v (.pointer a))) : Yv cx o env S g (.v (.bool (!a.isNone))) :=
  Yv.plain fun ac w hs hg w' => by
    have h := run_neq_pointer_nil (P := cx.P) w' ty a (ptrOf_spec ht)
    simp only [execOp, ho, hx.val hs hg, Sem.run_bind]
    simp [eqGuard, Act.eval, h, Sem.run_pure, Sem.run_bind]
def arrOf (P : Program) (t : TypeId) : Option (Nat × Nat) :=
  match P.underlying t with
  | some (.array n e) => (P.info? e).map fun i => (n, i.size)
  | _ => none
theorem arrOf_spec {P : Program} {t : TypeId} {n k : Nat} (h : arrOf P t = some (n, k)) : ∃ e i, P.underlying t = some (.array n e) ∧ P.info? e = some i ∧ i.size = k := by
  unfold arrOf at h
  split at h
  · rename_i n' e he
    cases hi : P.info? e with
    | none => rw [hi] at h; cases h
    | some i =>
      rw [hi] at h
      simp only [Option.map_some, Option.some.injEq, Prod.mk.injEq] at h
      obtain ⟨rfl, rfl⟩ := h
      exact ⟨e, i, he, hi, rfl⟩
  · cases h
theorem Yv.indexArr {t : TypeId} {n k j b p : Nat} {kd : IntKind} {q : Int} (ho : o.op = .indexAddr t x y) (h : arrOf cx.P t = some (n, k)) (hx : Ev env g x (.v (.pointer (some ⟨b, p, none⟩)))) (hy : Ev env g y (.v (.int kd q))) (hj : g = true → q = (j : Int) ∧ j < n) : Yv cx o env S g (.v (.pointer (some ⟨b, p + j * k, none⟩))) :=
  Yv.plain fun ac w hs hg w' => by
    obtain ⟨rfl, hjl⟩ := hj hg
    obtain ⟨e, i, h1, h2, h3⟩ := arrOf_spec h
    have e1 : ((j : Int) < (n : Int)) := by omega
    simp [execOp, ho, hx.val hs hg, hy.val hs hg, Instr.indexAt, asIntOf, Sem.run_bind, Sem.run_pure, run_underlying h1, sizeOf, typeInfo, h2, h3, Instr.sureAddr, add_lit']
    intro h'
    omega
theorem freeArr {t : TypeId} {n k j b p : Nat} {kd : IntKind} {q : Int} (ho : o.op = .indexAddr t x y) (h : arrOf cx.P t = some (n, k)) (hx : Ev env true x (.v (.pointer (some ⟨b, p, none⟩)))) (hy : Ev env true y (.v (.int kd q))) (hj : q = (j : Int) ∧ j < n) :
    ∀ ac w, Sim cx env S ac w → ∃ u, VRep w (cx.X ++ M S) (.v (.pointer (some ⟨b, p + j * k, none⟩))) u ∧ ∀ w', (execOp ac.eval o).run cx.P w' = .ok (.value u) w' :=
  fun ac w hs => by
    obtain ⟨rfl, hjl⟩ := hj
    obtain ⟨e, i, h1, h2, h3⟩ := arrOf_spec h
    refine ⟨_, .v _, fun w' => ?_⟩
    simp [execOp, ho, hx.val hs rfl, hy.val hs rfl, Instr.indexAt, asIntOf, Sem.run_bind, Sem.run_pure, run_underlying h1, sizeOf, typeInfo, h2, h3, Instr.sureAddr, add_lit']
    intro h'
    omega
theorem Yv.min2 {t1 t2 : TypeId} {k : IntKind} {p q : Int} (ho : o.op = .call { callee := .builtin .min, args := #[x, y], argTypes := #[t1, t2] }) (hx : Ev env g x (.v (.int k p))) (hy : Ev env g y (.v (.int k q))) : Yv cx o env S g (.v (.int k (if q < p then q else p))) :=
  Yv.plain fun ac w hs hg w' => by
    simp [execOp, ho, resolve, invoke, builtin, Sem.run_bind, Sem.run_pure, Builtin.min_, Builtin.min2, hx.val hs hg, hy.val hs hg]
/-- A function without a body that only reads its arguments. -/
theorem Yv.extern {f : FuncId} {xf : Operand} {xs : Array Operand} {ats : Array TypeId} {fst cap : Array Value} {r : Value} (ho : o.op = .call { callee := .value xf, args := xs, argTypes := ats }) (hx : Ev env g xf (.v (.func (.func f) fst cap)))
    (hr : ∀ (a : Act) (w : World), Sim cx env S a w → g = true → ∀ w', (callFunc f (fst ++ xs.map a.eval ++ cap)).run cx.P w' = .ok (.value r) w') : Yv cx o env S g (.v r) :=
  Yv.plain fun ac w hs hg w' => by
    have h := hr ac w hs hg w'
    simp only [execOp, ho, resolve, Deferred.ofValue, hx.val hs hg, Sem.run_bind, Sem.run_pure, Result.andThen_ok, invoke, h]
theorem Yv.indexByte {f : FuncId} {fn : Func} {xf : Operand} {ats : Array TypeId} {s : List UInt8} {c : UInt8} (hf : cx.P.funcs[f]? = some fn) (hn : (fn.name == "runtime.NumGoroutine") = false) (hb : fn.body.isNone = true) (h1 : Extern.findNext fn = none) (h2 : Extern.find fn = some Extern.BytealgIndexByte.indexByte)
    (ho : o.op = .call { callee := .value xf, args := #[x, y], argTypes := ats }) (hxf : Ev env g xf (.v (.func (.func f) #[] #[]))) (hx : Ev env g x (sv s)) (hy : Ev env g y (.v (.int .u8 c.toNat))) : Yv cx o env S g (.v (.int .i64 (Lib.indexByte s c))) := by
  refine Yv.extern ho hxf fun a w hs hg w' => ?_
  have e := hx.val hs hg
  have e' := hy.val hs hg
  rw [run_callFunc_extern hf hn hb h1 h2]
  have : (#[] ++ #[x, y].map a.eval ++ #[] : Array Value) = #[.string ⟨s.toArray⟩, .int .u8 c.toNat] := by simp [e, e']
  rw [this, Lib.run_indexByteString]
  simp

/-! ### unsafe.String -/
theorem Sim.unEnt {a : Act} {w w' : World} (hs : Sim cx env S a w) {i gb : Nat} {e : Ent} (hi : S[i]? = some e) (hb : e.blk = some gb) (hk : ∀ b, b < w.heap.size → b ≠ gb → w'.heap[b]? = w.heap[b]?) (hsz : w.heap.size ≤ w'.heap.size) (hos : w'.os = w.os) (htp : w'.tape = w.tape) (hou : w'.output = w.output) : Sim cx env (S.eraseIdx i) a w' := by
  have hsub : (S.eraseIdx i).Sublist S := List.eraseIdx_sublist S i
  have hM : (M (S.eraseIdx i)).Sublist (M S) := hsub.filterMap _
  have hil : i < S.length := (List.getElem?_eq_some_iff.1 hi).1
  have hSi : S[i] = e := by
    rw [List.getElem?_eq_getElem hil] at hi
    exact Option.some.inj hi
  have hgM : gb ∈ M S := mem_M.2 ⟨_, List.mem_of_getElem? hi, hb⟩
  have hkp : Keeps (M S) w w' := ⟨hos, htp, hou, hsz, fun b hb hm => hk b hb (fun h => hm (h ▸ hgM))⟩
  refine hs.step hkp (hM.nodup hs.nd) (fun b hb => .inl (hM.subset hb)) (fun f hf => ?_)
  refine hs.ent hkp (fun b hb => .inl (hM.subset hb)) (hsub.subset hf) (fun b hfb => hk b (Ent.lt (hs.ents f (hsub.subset hf)) hfb) (fun h => ?_))
  subst h
  rw [List.mem_eraseIdx_iff_getElem] at hf
  obtain ⟨j, hj, hne, rfl⟩ := hf
  exact absurd hs.nd (nodup_absurd (fun e => hne e.symm) hil hj (by rw [hSi]; exact hb) hfb)
def ptrTo (P : Program) (t : TypeId) : Option TypeId := match P.underlying t with | some (.pointer e) => if P.cellsOf e = 1 then some e else none | _ => none
theorem ptrTo_spec {P : Program} {t e : TypeId} (h : ptrTo P t = some e) : P.underlying t = some (.pointer e) ∧ P.cellsOf e = 1 := by
  unfold ptrTo at h
  split at h
  · split at h
    · simp only [Option.some.injEq] at h
      subst h
      exact ⟨by assumption, by assumption⟩
    · cases h
  · cases h
theorem AWL.unsafeStr {t1 t2 e : TypeId} {n c i : Nat} {A : Option Addr} {l' : List UInt8} (hg : o.guard = none) (hd : o.dst = some d) (hN : d < cx.N) (ho : o.op = .call { callee := .builtin .unsafeString, args := #[x, y], argTypes := #[t1, t2] }) (hp : ptrTo cx.P t1 = some e)
    (hi : S[i]? = some (.row A n c e 1 (l'.map u8))) (hx : Ev env true x (.ep (.slice A n c) 0)) (hy : Ev env true y (.v (.int .i64 (n : Int)))) (h0 : l' ≠ []) (h63 : n ≤ 9223372036854775807)
    (hr : AWL cx ops l K ((d, true, sv l') :: env) (S.eraseIdx i)) : AWL cx ops (o :: l) K env S := by
  refine AWL.eff hg hd hN fun a w hs => ?_
  obtain ⟨us, hrow, hV⟩ := hs.row hi
  have hus := vreps_u8s hV
  have hln : l'.length = n := by
    have := hrow.1
    rw [hus, List.length_map] at this
    omega
  obtain ⟨gb, rfl⟩ := hrow.some (by rw [hus, List.length_map]; exact List.length_pos_iff.2 h0)
  have hxv := hx.rep hs rfl
  generalize hux : a.eval x = ux at hxv
  cases hxv with
  | ep =>
    obtain ⟨e1, e2⟩ := ptrTo_spec hp
    have hrow2 := hrow
    obtain ⟨r1, r2, r3, r4⟩ := hrow2
    rcases r4 with ⟨h, _⟩ | ⟨g', cur, fr, hA, hh, hfr, hsz, htk⟩
    · cases h
    · simp only [Option.some.injEq, Addr.mk.injEq, and_true] at hA
      subst hA
      have hsh : w.shape? gb = some (e, cur.size) := by simp [World.shape?, hh]
      have hrun := Lib.run_unsafeString_row (P := cx.P) (w := w) t1 t2 o.type e e1 e2 gb cur.size hsh l' h0 (by omega) (by omega) (fun j u hj => by
        rw [add_lit', Nat.zero_add]
        exact hrow.cell (by rw [hus, List.getElem?_map, hj]; rfl))
      rw [hln] at hrun
      refine ⟨_, _, _, _, ?_, hs.unEnt hi rfl (w' := w.freeze ⟨gb, 0, none⟩ n) (fun b hb hne => ?_) ?_ ?_ ?_ ?_, .v _, hr⟩
      · simp only [execOp, ho, resolve, invoke, builtin, Sem.run_bind, Sem.run_pure, Result.andThen_ok, List.map_toArray, List.map_cons, List.map_nil, hux, hy.val hs rfl, hrun]
      · unfold World.freeze
        split
        · rfl
        · simp [Array.getElem?_modify, Ne.symm hne]
      all_goals (unfold World.freeze; split <;> simp)

/-! ### zeros appended, wherever they find room -/
theorem run_append_zeros_room {P : Program} {w : World} {t tx ty e : TypeId} {b n c m : Nat} {kn kq : IntKind} {zv : Value} {us : List Value} {A : Option Addr} (he : elemOf P t = some (e, 1, b, [zv])) (hx : kindOf P tx = some kn) (hm : 0 < m) (hrow : RowIs w e 1 A n c us) (hn' : n + m ≤ c) (hb : (n + m) * b ≤ 140737488355328) :
    ∃ A' c' w', (Builtin.append_ #[t, tx] ty #[.slice A n c, .int kq m]).run P w = .ok (.slice A' (n + m) c') w' ∧ RowIs w' e 1 A' (n + m) c' (us ++ List.replicate m zv) ∧ (∀ g, A'.map (·.block) = some g → A.map (·.block) = some g ∨ g = w.heap.size) ∧
      (∀ g, g < w.heap.size → A.map (·.block) ≠ some g → w'.heap[g]? = w.heap[g]?) ∧ w.heap.size ≤ w'.heap.size ∧ w'.os = w.os ∧ w'.tape = w.tape ∧ w'.output = w.output := by
  obtain ⟨h1, i, z, h2, h3, hk, rfl, h6, h7, h8⟩ := elemOf_spec he
  obtain ⟨r1, r2, r3, r4⟩ := hrow
  rcases r4 with ⟨rfl, rfl, rfl⟩ | ⟨gb, cur, fr, rfl, hh, hfr, hsz, htk⟩
  · omega
  · have hone : ∀ u ∈ List.replicate m zv, u.oneCell' = true := fun u hu => h8 u (by rw [(List.mem_replicate.1 hu).2]; simp)
    have hfit : n + (List.replicate m zv).length ≤ cur.size := by rw [List.length_replicate]; omega
    have hcell : ∀ j, j < (List.replicate m zv).length → (w.cell? ⟨gb, n + 0 + j, none⟩).isSome = true := fun j hj => by
      rw [cell_of_row w gb _ cur e fr hh, Array.getElem?_eq_getElem (by omega)]
      rfl
    have hfro : ∀ j, j < (List.replicate m zv).length → w.frozen? ⟨gb, n + 0 + j, none⟩ = false := fun j hj => by
      obtain ⟨lo, hi'⟩ := fr
      simp only [World.frozen?, hh]
      simp only at hfr
      rcases hfr with h | h <;> (simp; intro h'; omega)
    have hst := run_storeCells_cells (P := P) gb n (List.replicate m zv) 0 w hcell hfro hone
    obtain ⟨cur', c1, c2⟩ := setCells_heap gb (List.replicate m zv) n w cur hh hfit
    obtain ⟨s1, s2, s3, s4, s5⟩ := setCells_rest gb (List.replicate m zv) n w
    have hz : z.cells = #[zv] := h6
    have hbm : (m : Int) * i.bytes ≤ 281474976710656 := by
      have h9 : m * i.bytes ≤ (n + m) * i.bytes := Nat.mul_le_mul_right _ (by omega)
      have h10 : ((m * i.bytes : Nat) : Int) ≤ 281474976710656 := by omega
      rwa [Int.natCast_mul] at h10
    have hm63 : (m : Int) ≤ 9223372036854775807 := by unfold maxLen at r2; omega
    have hw : IntKind.i64.wrap (m : Int) = m := by rw [IntKind.wrap_i64]; omega
    have hcur : cur'.size = cur.size := by
      have := congrArg List.length c2
      simp at this
      omega
    refine ⟨some ⟨gb, 0, none⟩, c, w.setCells gb n (List.replicate m zv), ?_, ⟨by simp [r1], r2, hn', .inr ⟨gb, cur', fr, rfl, c1, by rw [hcur]; exact hfr, by rw [hcur, hsz], ?_⟩⟩, fun g hg => .inl hg, fun g _ hne => s5 g (fun e => hne (by subst e; rfl)), Nat.le_of_eq s1.symm, s2, s3, s4⟩
    · have e0 : ¬ ((m : Int) < 0) := by omega
      have e1 : ¬ (281474976710656 < (m : Int) * (i.bytes : Int)) := by omega
      have e2 : ¬ m = 0 := by omega
      have hz2 : (zeroValue e).run P w = .ok z w := by simp [zeroValue, typeInfo, h2, h3, Sem.run_bind, Sem.run_pure]
      have hadd : (⟨gb, 0, none⟩ : Addr).add n = ⟨gb, n, none⟩ := by rw [add_lit', Nat.zero_add]
      simp only [Nat.add_zero] at hst
      simp [Builtin.append_, run_underlying h1, run_underlying (kindOf_spec hx), sizeOf, typeInfo, h2, hk, asInt, asIntOf, hw, e0, e1, e2, hn', hz2, hz, zeroCells_one, hadd, hst, Sem.run_bind, Sem.run_pure, Result.andThen_ok]
    · rw [c2, Nat.mul_one]
      have e1 : cur.toList.take n = us := by rw [← htk, Nat.mul_one]
      rw [e1]
      have e3 : (us ++ List.replicate m zv).length = n + m := by simp [r1]
      rw [← e3, List.take_left]
theorem AWL.appendZerosAny {t tx e : TypeId} {b n c m i : Nat} {kn kq : IntKind} {zv : Value} {A : Option Addr} {cs : List T} (hg : o.guard = none) (hd : o.dst = some d) (hN : d < cx.N)
    (ho : o.op = .call { callee := .builtin .append, args := #[x, y], argTypes := #[t, tx] }) (he : elemOf cx.P t = some (e, 1, b, [zv])) (htx : kindOf cx.P tx = some kn) (hm : 0 < m) (hi : S[i]? = some (.row A n c e 1 cs)) (hx : Ev env true x (.v (.slice A n c))) (hy : Ev env true y (.v (.int kq m)))
    (h63 : n + m ≤ maxLen) (hb : (n + m) * b ≤ 140737488355328)
    (hr : ∀ A' c', AWL cx ops l K ((d, true, .v (.slice A' (n + m) c')) :: env) (S.set i (.row A' (n + m) c' e 1 (cs ++ List.replicate m (T.v zv))))) : AWL cx ops (o :: l) K env S := by
  by_cases hc : c < n + m
  · exact AWL.appendZeros hg hd hN ho he htx hm hi hx hy hc h63 hb hr
  refine AWL.eff hg hd hN fun a w hs => ?_
  obtain ⟨us, hrow, hV⟩ := hs.row hi
  obtain ⟨A', c', w', hrun, hrow', hblk, hkeep, hsz, hos, htp, hou⟩ := run_append_zeros_room (ty := o.type) (kq := kq) he htx hm hrow (by omega) hb
  obtain ⟨_, _, _, _, _, _, _, _, _, h8⟩ := elemOf_spec he
  refine ⟨_, w', _, _, ?_, ?_, .v _, hr A' c'⟩
  · simp only [execOp, ho, resolve, invoke, builtin, Sem.run_bind, Sem.run_pure, Result.andThen_ok, List.map_toArray, List.map_cons, List.map_nil, hx.val hs rfl, hy.val hs rfl, hrun]
  · refine hs.swap hi hblk hkeep hsz hos htp hou (fun L hL => ⟨us ++ _, hrow', ?_⟩)
    have hb' : ∀ b, b < w.heap.size → b ∉ cx.X ++ M S → w'.heap[b]? = w.heap[b]? := fun b hlt hm => hkeep b hlt (fun h => hm (List.mem_append.2 (.inr (mem_M.2 ⟨_, List.mem_of_getElem? hi, h⟩))))
    have hz := vreps_vals (w := w) (L := cx.X ++ M S) (List.replicate m zv) (fun u hu => h8 u (by rw [(List.mem_replicate.1 hu).2]; simp))
    rw [List.map_replicate] at hz
    exact (hV.append hz).mono hsz hb' hL
end
end Go.Proofs.YtjndpakhmgapjaaDoor
