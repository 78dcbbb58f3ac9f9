/-
  copy INTO THE MIDDLE of a row of the call's own. Generic: no program is named here.
-/
import Derived.Test.YtjndpakhmgapjaaDoorAw17
namespace Go.Proofs.YtjndpakhmgapjaaDoor
open Go Go.RowKit
set_option linter.unusedVariables false
section
variable {cx : Cx} {env : Env} {S : St} {o : Oper} {g : Bool} {x y z : Operand} {ops : Array Oper} {l : List Oper} {K : Env → St → Prop} {Q : Exit → Env → St → Prop} {d : Nat}
/-- Where a row's part begins. -/
def fromAt (A : Option Addr) (c lo : Nat) : Option Addr := if c = lo then A else A.map (·.add lo)
theorem Yv.sliceRowFrom {t e e' : TypeId} {n c lo i : Nat} {A : Option Addr} {cs : List T} {xl : Operand} (ho : o.op = .slice t x (some xl) none none) (h : sliceSz cx.P t = some (e, 1)) (hi : S[i]? = some (.row A n c e' 1 cs)) (hx : Ev env g x (.v (.slice A n c)))
    (hl : Bound env g (some xl) 0 lo) (hb : g = true → lo ≤ n) : Yv cx o env S g (.v (.slice (fromAt A c lo) (n - lo) (c - lo))) := by
  intro a w hs hg
  have hv := hx.val hs hg
  have hln := hb hg
  obtain ⟨h1, i', h2, h3⟩ := sliceSz_spec h
  obtain ⟨us, hr, _⟩ := hs.row hi
  have hbnd := fun w' => run_bounds (P := cx.P) hs hg (isS := true) (cap := c) (len := n) (hi := n) (xh := none) hl Bound.none_ hln hr.2.2.1 w'
  have hrun : ∀ w' : World, (execOp a.eval o).run cx.P w' = .ok (.value (.slice (if c = lo then A else A.map (·.add (lo * 1))) (n - lo) (c - lo))) w' := by
    intro w'
    have hb' := hbnd w'
    simp only [Option.map_none, Option.map_some] at hb'
    simp only [execOp, ho, hv, Instr.sliceAt, Sem.run_bind, run_underlying h1, Result.andThen_ok, Instr.slice, Option.map_none, Option.map_some, hb', sizeOf, typeInfo, run_program, h2, Sem.run_pure, h3]
  rw [Nat.mul_one] at hrun
  exact ⟨_, .v _, fun w' _ => hrun w'⟩
theorem AWL.copyRowAt {t tx e : TypeId} {b n c m lo i : Nat} {zs : List Value} {A : Option Addr} {cs news : List T} (hg : o.guard = none) (hd : o.dst = some d) (hN : d < cx.N)
    (ho : o.op = .call { callee := .builtin .copy, args := #[x, y], argTypes := #[t, tx] }) (he : elemOf cx.P t = some (e, 1, b, zs)) (hi : S[i]? = some (.row A n c e 1 cs)) (hx : Ev env true x (.v (.slice (fromAt A c lo) (n - lo) (c - lo)))) (hy : SrcT cx env S y tx 1 m news)
    (hmn : lo + m ≤ n) (h0 : 0 < m)
    (hr : AWL cx ops l K ((d, true, .v (.int .i64 (m : Int))) :: env) (S.set i (.row A n c e 1 (cs.take lo ++ news ++ cs.drop (lo + m))))) : AWL cx ops (o :: l) K env S := by
  refine AWL.eff hg hd hN fun a w hs => ?_
  obtain ⟨us, hrow, hV⟩ := hs.row hi
  obtain ⟨ns, hVn, hsrc⟩ := hy a w hs
  obtain ⟨h1, i', z', h2, _, h3, _⟩ := elemOf_spec he
  have hul : us.length = n := by rw [hrow.1, Nat.mul_one]
  have hnl : ns.length = m := by rw [hsrc.newsLen, Nat.mul_one]
  have hcl : news.length = m := by rw [hVn.len, hnl]
  have hnc := hrow.2.2.1
  obtain ⟨gb, rfl⟩ := hrow.some (by omega)
  obtain ⟨hst, hrow'⟩ := hrow.write (P := cx.P) hVn.one (p := lo) (by omega)
  have hsim := hs.wrote hi hV hVn hrow'
  have hfrom : fromAt (some ⟨gb, 0, none⟩) c lo = some ⟨gb, lo, none⟩ := by
    unfold fromAt
    rw [if_neg (by omega), Option.map_some, add_lit', Nat.zero_add]
  rw [hfrom] at hx
  refine ⟨.int .i64 (m : Int), w.setCells gb lo ns, _, _, ?_, hsim, .v _, ?_⟩
  · have hcells := hsrc.cells
    have hlen := hsrc.len w
    have hmin' : m.min (n - lo) = m := Nat.min_eq_left (by omega)
    have hsz : (sizeOf e).run cx.P w = .ok 1 w := by simp [sizeOf, typeInfo, h2, h3, Sem.run_bind, Sem.run_pure]
    simp [execOp, ho, resolve, invoke, builtin, Sem.run_bind, Sem.run_pure, hx.val hs rfl, Builtin.copy_, run_underlying h1, hlen, hsz, hmin', hcells, hst, goInt]
  · rw [hcl]
    exact hr
/-- A slice's value, cut shorter. -/
theorem Yv.sliceV0 {t e : TypeId} {k n c m : Nat} {A : Option Addr} {xh : Option Operand} (ho : o.op = .slice t x none xh none) (h : sliceSz cx.P t = some (e, k)) (hx : Ev env g x (.v (.slice A n c))) (hh : Bound env g xh n m) (hb : g = true → m ≤ c) : Yv cx o env S g (.v (.slice A m c)) := by
  intro a w hs hg
  have hv := hx.val hs hg
  have hmc := hb hg
  obtain ⟨h1, i', h2, h3⟩ := sliceSz_spec h
  have hbnd := fun w' => run_bounds (P := cx.P) hs hg (isS := true) (cap := c) (lo := 0) (xl := none) Bound.none_ hh (Nat.zero_le _) hmc w'
  have hrun : ∀ w' : World, (execOp a.eval o).run cx.P w' = .ok (.value (.slice (if c = 0 then A else A.map (·.add (0 * k))) (m - 0) (c - 0))) w' := by
    intro w'
    have hb' := hbnd w'
    simp only [Option.map_none] at hb'
    simp only [execOp, ho, hv, Instr.sliceAt, Sem.run_bind, run_underlying h1, Result.andThen_ok, Instr.slice, Option.map_none, hb', sizeOf, typeInfo, run_program, h2, Sem.run_pure, h3]
  have e0 : (if c = 0 then A else A.map (·.add (0 * k))) = A := by
    cases A with
    | none => simp
    | some ad =>
      have : ad.add 0 = ad := by unfold Addr.add; rfl
      simp [this]
  rw [e0, Nat.sub_zero, Nat.sub_zero] at hrun
  exact ⟨_, .v _, fun w' _ => hrun w'⟩
/-- A part of a row's bytes, as a string. -/
theorem Yv.bytesStrPart {src dst e : TypeId} {i n c lo m c' : Nat} {A : Option Addr} {s : List UInt8} (ho : o.op = .convert src dst x) (hs : isBytes cx.P src = true) (hd : isStr cx.P dst = true) (hi : S[i]? = some (.row A n c e 1 (s.map u8))) (hx : Ev env g x (.v (.slice (fromAt A c lo) m c')))
    (hm : g = true → lo + m ≤ n) : Yv cx o env S g (sv ((s.drop lo).take m)) := by
  intro a w hsim hg
  refine ⟨_, .v _, fun w' hk => ?_⟩
  have hv := hx.val hsim hg
  have hmn := hm hg
  obtain ⟨us, hr, hV⟩ := hsim.row hi
  have hus := vreps_u8s hV
  have hln : s.length = n := by
    have := hr.1
    rw [hus, List.length_map] at this
    omega
  refine run_bytes_string ho hs hd hv w' ?_
  rcases Nat.eq_zero_or_pos m with rfl | hpos
  · exact .inl ⟨rfl, by simp⟩
  · obtain ⟨gb, rfl⟩ := hr.some (by rw [hus, List.length_map]; omega)
    have hnc := hr.2.2.1
    have hfrom : fromAt (some ⟨gb, 0, none⟩) c lo = some ⟨gb, lo, none⟩ := by
      unfold fromAt
      rw [if_neg (by omega), Option.map_some, add_lit', Nat.zero_add]
    rw [hfrom]
    refine .inr ⟨_, rfl, by rw [List.length_take, List.length_drop]; omega, fun j u hj => ?_⟩
    rw [List.getElem?_map, List.getElem?_take] at hj
    split at hj
    · rw [List.getElem?_drop] at hj
      rw [add_lit']
      have : us[lo + j]? = some u := by rw [hus, List.getElem?_map]; exact hj
      exact (World.cell?_of_block (w := w) (a := ⟨gb, lo + j, none⟩) (hk.block _ (hr.lt rfl) (by simp))).trans (hr.cell this)
    · cases hj
/-- The entries, said otherwise. -/
theorem AW.eqS {code : Code} {S' : St} (e : S = S') (h : AW cx code Q env S') : AW cx code Q env S := e ▸ h
theorem AWL.eqS {S' : St} (e : S = S') (h : AWL cx ops l K env S') : AWL cx ops l K env S := e ▸ h
theorem AW.rowLe {code : Code} {n c k : Nat} {A : Option Addr} {e : TypeId} {cs : List T} (i : Nat) (hi : S[i]? = some (.row A n c e k cs)) (h : n ≤ c → AW cx code Q env S) : AW cx code Q env S := fun a w hs => by
  obtain ⟨us, hr, hV⟩ := hs.row hi
  exact h hr.2.2.1 a w hs
/-- What a row without an address is. -/
theorem AW.rowFact {code : Code} {n c k : Nat} {A : Option Addr} {e : TypeId} {cs : List T} (i : Nat) (hi : S[i]? = some (.row A n c e k cs)) (h : (A = none → n = 0 ∧ c = 0 ∧ cs = []) → AW cx code Q env S) : AW cx code Q env S := fun a w hs => by
  obtain ⟨us, hr, hV⟩ := hs.row hi
  refine h (fun e => ?_) a w hs
  rcases hr.2.2.2 with ⟨_, h1, h2⟩ | ⟨_, _, _, h3, _⟩
  · refine ⟨h1, h2, List.eq_nil_of_length_eq_zero ?_⟩
    rw [hV.len, hr.1, h1, Nat.zero_mul]
  · rw [e] at h3; cases h3
theorem Yv.eqNilV {ty yt e : TypeId} {A : Option Addr} {n c : Nat} (ho : o.op = .binOp .eql ty x (.const (.slice none 0 0)) yt) (ht : sliceOf cx.P ty = some e) (hx : Ev env g x (.v (.slice A n c))) : Yv cx o env S g (.v (.bool A.isNone)) :=
  Yv.plain fun a w hs hg w' => by
    have hA := hx.val hs hg
    have hgd : eqGuard .eql ty x (.const (.slice none 0 0)) (.slice A n c) (.slice none 0 0) = pure () := by unfold eqGuard; split <;> rfl
    have h2 := Lib.run_eql_slice_nil (P := cx.P) (w := w') ty e A n c 0 0 (sliceOf_spec ht)
    have h3 : a.eval (.const (.slice none 0 0)) = .slice none 0 0 := rfl
    simp only [execOp, ho, hA, h3, hgd, Sem.run_bind, Sem.run_pure, Result.andThen_ok, h2]
/-- A call that takes all entries. -/
theorem AWL.callAll {f : FuncId} {xf : Operand} {xs : Array Operand} {ats : Array TypeId} {fst cap : Array Value} {ts : List T} {R : T → St → Prop} (hg : o.guard = none) (hd : o.dst = some d) (hN : d < cx.N)
    (ho : o.op = .call { callee := .value xf, args := xs, argTypes := ats }) (hf : calleeB cx.P f = true) (hx : Ev env true xf (.v (.func (.func f) fst cap))) (hxs : Evs env true xs.toList ts)
    (hc : ACalls cx.P f (fst.toList.map T.v ++ (ts ++ cap.toList.map T.v)) S R) (hr : ∀ t S', R t S' → AWL cx ops l K ((d, true, t) :: env) S') : AWL cx ops (o :: l) K env S :=
  AWL.call hg hd hN ho hf hx hxs (S1 := S) (S2 := []) (List.append_nil S).symm hc (fun t S' h => by rw [List.append_nil]; exact hr t S' h)
end
end Go.Proofs.YtjndpakhmgapjaaDoor
