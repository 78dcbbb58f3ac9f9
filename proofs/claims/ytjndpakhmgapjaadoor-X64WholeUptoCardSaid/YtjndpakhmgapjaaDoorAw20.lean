/-
  FUNCTION VALUES THAT CLOSE OVER PLACES; EQUALITY OF PLAIN STRUCTS. Generic: no program is named here.
-/
import Derived.Test.YtjndpakhmgapjaaDoorAw19
import Derived.Laws.StructEq
namespace Go.Proofs.YtjndpakhmgapjaaDoor
open Go Go.RowKit
set_option linter.unusedVariables false

section
variable {cx : Cx} {env : Env} {S : St} {o : Oper} {g : Bool} {x y z : Operand} {ops : Array Oper} {l : List Oper} {K : Env → St → Prop} {d : Nat}

def valsOf : List T → Option (List Value)
  | [] => some []
  | .v u :: r => (valsOf r).map (u :: ·)
  | _ :: _ => none
theorem valsOf_spec : ∀ {l : List T} {us : List Value}, valsOf l = some us → l = us.map T.v
  | [], us, h => by simp only [valsOf, Option.some.injEq] at h; subst h; rfl
  | .v u :: r, us, h => by
    simp only [valsOf, Option.map_eq_some_iff] at h
    obtain ⟨vs, h1, rfl⟩ := h
    rw [valsOf_spec h1]; rfl
  | .agg _ :: _, _, h => by simp [valsOf] at h
  | .tup _ :: _, _, h => by simp [valsOf] at h
  | .sl _ _ :: _, _, h => by simp [valsOf] at h
  | .rp _ _ :: _, _, h => by simp [valsOf] at h
  | .ep _ _ :: _, _, h => by simp [valsOf] at h
  | .sp _ _ _ :: _, _, h => by simp [valsOf] at h
theorem VRep.vals {w : World} {L : List Nat} {us : List Value} {u : Value} (h : VRep w L (.agg (us.map T.v)) u) : u = .agg us.toArray := by
  cases h with
  | @agg _ ys hl hh h1 =>
    have : ys = us := by
      apply List.ext_getElem?
      intro j
      rw [List.length_map] at hl
      by_cases hj : j < us.length
      · have e1 : (us.map T.v)[j]? = some (.v us[j]) := by simp [hj]
        have e2 : ys[j]? = some (ys[j]'(by omega)) := List.getElem?_eq_getElem (by omega)
        have := (hh j _ _ e1 e2).v_inv
        rw [e2, this, List.getElem?_eq_getElem hj]
      · rw [List.getElem?_eq_none (by omega), List.getElem?_eq_none (by omega)]
    rw [this]

/-! ### function values -/
theorem Evs.valsOf_ {a : Act} {w : World} (hs : Sim cx env S a w) (hg : g = true) {xs : List Operand} {ts : List T} {us : List Value} (h : Evs env g xs ts) (hv : valsOf ts = some us) : xs.map a.eval = us := by
  obtain ⟨e1, e2⟩ := Evs.spec hs hg h
  rw [valsOf_spec hv] at e1 e2
  apply List.ext_getElem?
  intro j
  rw [List.length_map (as := us)] at e1
  by_cases hj : j < us.length
  · have e3 : (us.map T.v)[j]? = some (.v us[j]) := by simp [hj]
    have e4 : (xs.map a.eval)[j]? = some ((xs.map a.eval)[j]'(by omega)) := List.getElem?_eq_getElem (by omega)
    have := (e2 j _ _ e3 e4).v_inv
    rw [e4, this, List.getElem?_eq_getElem hj]
  · rw [List.getElem?_eq_none (by omega), List.getElem?_eq_none (by omega)]
theorem Yv.makeFunc {fn : Fn} {fs cs : Array Operand} {ft ct : List T} {fu cu : List Value} (ho : o.op = .makeFunc fn fs cs) (hf : Evs env g fs.toList ft) (hfu : valsOf ft = some fu) (hc : Evs env g cs.toList ct) (hcu : valsOf ct = some cu) :
    Yv cx o env S g (.v (.func fn fu.toArray cu.toArray)) :=
  Yv.plain fun a w hs hg w' => by
    have e1 := hf.valsOf_ hs hg hfu
    have e2 := hc.valsOf_ hs hg hcu
    have e3 : fs.map a.eval = fu.toArray := by apply Array.ext'; simp [← e1]
    have e4 : cs.map a.eval = cu.toArray := by apply Array.ext'; simp [← e2]
    simp [execOp, ho, Instr.makeFunc, Sem.run_pure, e3, e4]

/-! ### equality of structs of plain cells -/
inductive FK where
  | i
  | b
  | s
def fkOf (P : Program) (t : TypeId) : Option FK :=
  match P.underlying t with
  | some (.int _) => some .i
  | some .bool => some .b
  | some .string => some .s
  | _ => none
def flatF (P : Program) : List Field → Option (List (Nat × FK))
  | [] => some []
  | f :: r => if f.name = "_" then none else match aggSize P f.type, fkOf P f.type, flatF P r with
    | some (false, _), some k, some l => some ((f.offset, k) :: l)
    | _, _, _ => none
def flatOf (P : Program) (t : TypeId) : Option (List (Nat × FK)) :=
  match P.underlying t with
  | some (.struct fs) => if P.stoodInHeld t || P.eqGuardType P.depth t then none else flatF P fs.toList
  | _ => none
def eqCell : FK → Value → Value → Option Bool
  | .i, .int a p, .int b q => if a = b then some (decide (p = q)) else none
  | .b, .bool p, .bool q => some (p == q)
  | .s, .string p, .string q => some (decide (p.data.toList = q.data.toList))
  | _, _, _ => none
def eqCells (us vs : List Value) : List (Nat × FK) → Option Bool
  | [] => some true
  | (off, k) :: r => match us[off]?, vs[off]? with
    | some u, some v => match eqCell k u v, eqCells us vs r with
      | some b, some c => some (b && c)
      | _, _ => none
    | _, _ => none
theorem run_part_one {P : Program} {t : TypeId} {n off : Nat} (h : aggSize P t = some (false, n)) {us : List Value} {u : Value} (hu : us[off]? = some u) (w : World) : (part t us.toArray off).run P w = .ok u w := by
  obtain ⟨h1, h2⟩ := aggSize_spec h w
  simp [part, Sem.run_bind, h1, hu, Sem.run_pure]
theorem run_eqCell {P : Program} {t : TypeId} {k : FK} (h : fkOf P t = some k) {u v : Value} {b : Bool} (hb : eqCell k u v = some b) (dd : Nat) (w : World) : (Op.equalIn (dd + 1) t u v).run P w = .ok b w := by
  unfold fkOf at h
  split at h
  · rename_i k' hu
    simp only [Option.some.injEq] at h; subst h
    cases u <;> cases v <;> simp only [eqCell] at hb <;> try cases hb
    split at hb
    · rename_i e; subst e
      simp only [Option.some.injEq] at hb; subst hb
      rw [run_equalIn_int w dd t _ _ _ _ hu]
      rfl
    · cases hb
  · rename_i hu
    simp only [Option.some.injEq] at h; subst h
    cases u <;> cases v <;> simp only [eqCell, Option.some.injEq] at hb <;> try cases hb
    exact run_equalIn_bool' w dd t _ _ hu
  · rename_i hu
    simp only [Option.some.injEq] at h; subst h
    cases u <;> cases v <;> simp only [eqCell, Option.some.injEq] at hb <;> try cases hb
    rename_i p q
    rw [run_equalIn_string w dd t _ _ hu, ByteArray.toList_eq, ByteArray.toList_eq]
    congr 1
    by_cases e : p.data.toList = q.data.toList
    · simp [e]
    · rw [decide_eq_false e]; exact beq_eq_false_iff_ne.2 e
  · cases h
theorem run_eqFlat {P : Program} {us vs : List Value} (dd : Nat) (w : World) : ∀ {fs : List Field} {l : List (Nat × FK)} {b : Bool}, flatF P fs = some l → eqCells us vs l = some b → (Op.eqFields (dd + 1) us.toArray vs.toArray fs).run P w = .ok b w
  | [], l, b, h, hb => by
    simp only [flatF, Option.some.injEq] at h; subst h
    simp only [eqCells, Option.some.injEq] at hb; subst hb
    simp [Op.eqFields, Sem.run_pure]
  | f :: r, l, b, h, hb => by
    simp only [flatF] at h
    split at h
    · cases h
    · rename_i hn
      split at h
      · rename_i m k l' h1 h2 h3
        simp only [Option.some.injEq] at h; subst h
        simp only [eqCells] at hb
        split at hb
        · rename_i u v hu hv
          split at hb
          · rename_i b1 b2 hb1 hb2
            simp only [Option.some.injEq] at hb; subst hb
            have ih := run_eqFlat dd w h3 hb2
            simp only [Op.eqFields, ne_eq, hn, not_false_eq_true, if_true, Sem.run_bind, run_part_one h1 hu, run_part_one h1 hv, run_eqCell h2 hb1, Result.andThen_ok]
            cases b1
            · simp [Sem.run_pure]
            · simp [ih]
          · cases hb
        · cases hb
      · cases h
theorem run_eqA {P : Program} {t : TypeId} {us vs : List Value} {l : List (Nat × FK)} {b : Bool} (ht : flatOf P t = some l) (hb : eqCells us vs l = some b) (w : World) :
    (Op.equalIn 10000 t (.agg us.toArray) (.agg vs.toArray)).run P w = .ok b w ∧ P.eqGuardType P.depth t = false := by
  unfold flatOf at ht
  split at ht
  · rename_i fs hu
    split at ht
    · cases ht
    · rename_i hn
      simp only [Bool.or_eq_true, not_or, Bool.not_eq_true] at hn
      have hf : P.fieldsOf t = fs := by simp [Program.fieldsOf, hu]
      exact ⟨by rw [run_equalIn_struct w 9999 t _ _ (by rw [hf]; exact hu) hn.1, hf]; exact run_eqFlat 9998 w ht hb, hn.2⟩
  · cases ht
theorem exec_binOp_agg {ρ : Operand → Value} {P : Program} {op : BinOp} {ty yt : TypeId} {p q : Array Value} (ho : o.op = .binOp op ty x y yt) (hx : ρ x = .agg p) (hy : ρ y = .agg q) (hm : P.eqGuardType P.depth ty = false) (w : World) :
    (execOp ρ o).run P w = ((binOp op ty (.agg p) (.agg q)).run P w).andThen fun v w => .ok (.value v) w := by
  have h := run_eqGuard_agg (P := P) w op ty x y p q hm
  simp only [execOp, ho, hx, hy, Sem.run_bind, h, Result.andThen_ok, Sem.run_pure]
theorem Yv.eqlA {ty yt : TypeId} {l l' : List T} {us vs : List Value} {fl : List (Nat × FK)} {b : Bool} (ho : o.op = .binOp .eql ty x y yt) (ht : flatOf cx.P ty = some fl) (hx : Ev env g x (.agg l)) (hy : Ev env g y (.agg l')) (hu : valsOf l = some us) (hv : valsOf l' = some vs) (hb : eqCells us vs fl = some b) :
    Yv cx o env S g (.v (.bool b)) :=
  Yv.plain fun a w hs hg w' => by
    have e1 := hx.rep hs hg
    have e2 := hy.rep hs hg
    rw [valsOf_spec hu] at e1
    rw [valsOf_spec hv] at e2
    obtain ⟨e3, e4⟩ := run_eqA ht hb w'
    rw [exec_binOp_agg ho e1.vals e2.vals e4, run_eql_struct, e3]
    rfl
theorem Yv.neqA {ty yt : TypeId} {l l' : List T} {us vs : List Value} {fl : List (Nat × FK)} {b : Bool} (ho : o.op = .binOp .neq ty x y yt) (ht : flatOf cx.P ty = some fl) (hx : Ev env g x (.agg l)) (hy : Ev env g y (.agg l')) (hu : valsOf l = some us) (hv : valsOf l' = some vs) (hb : eqCells us vs fl = some b) :
    Yv cx o env S g (.v (.bool (!b))) :=
  Yv.plain fun a w hs hg w' => by
    have e1 := hx.rep hs hg
    have e2 := hy.rep hs hg
    rw [valsOf_spec hu] at e1
    rw [valsOf_spec hv] at e2
    obtain ⟨e3, e4⟩ := run_eqA ht hb w'
    rw [exec_binOp_agg ho e1.vals e2.vals e4, run_neq_struct, e3]
    rfl

/-! ### calls that read some entries and leave them -/
theorem call_keeps {f : FuncId} {xf : Operand} {xs : Array Operand} {ats : Array TypeId} {fst cap : Array Value} {ts : List T} {S1 S2 : St} {R : T → St → Prop} {r : Value} (ho : o.op = .call { callee := .value xf, args := xs, argTypes := ats }) (hf : calleeB cx.P f = true)
    (hxf : Ev env g xf (.v (.func (.func f) fst cap))) (hx : Evs env g xs.toList ts) (hS : S = S1 ++ S2) (hc : g = true → ACalls cx.P f (fst.toList.map T.v ++ (ts ++ cap.toList.map T.v)) S1 R) (hq : ∀ t S', R t S' → t = .v r ∧ S' = S1) {a : Act} {w : World} (hs : Sim cx env S a w) (hgt : g = true) :
    ∃ args, (execOp a.eval o).run cx.P w = .ok (.enter f args) w ∧ Calls cx.P f args w fun e w'' => e = .returned r ∧ Sim cx env S a w'' := by
  subst hS
  refine ⟨_, exec_call ho hf (hxf.val hs hgt) w, ?_⟩
  obtain ⟨e1, e2⟩ := hx.spec hs hgt
  obtain ⟨c1, c2, c3, c4⟩ := hs.forCall
  obtain ⟨v1, v2⟩ := vals_spec (fst := fst.toList) (cap := cap.toList) e1 (fun j t u h1 h2 => c4 t u (e2 j t u h1 h2))
  refine (hc hgt (cx.X ++ M S2) w _ c1 c2 c3 v1 v2).mono ?_
  rintro e w' ⟨v, t, S', rfl, hk, hnd, hfr, hent, hv, hR⟩
  obtain ⟨rfl, rfl⟩ := hq t S' hR
  exact ⟨by rw [hv.v_inv], hs.called hk hnd hfr hent⟩
theorem AWL.callK {f : FuncId} {xf : Operand} {xs : Array Operand} {ats : Array TypeId} {fst cap : Array Value} {ts : List T} {S1 S2 : St} {R : T → St → Prop} {r : Value} (hg : o.guard = none) (hd : o.dst = some d) (hN : d < cx.N)
    (ho : o.op = .call { callee := .value xf, args := xs, argTypes := ats }) (hf : calleeB cx.P f = true) (hxf : Ev env true xf (.v (.func (.func f) fst cap))) (hx : Evs env true xs.toList ts) (hS : S = S1 ++ S2)
    (hc : ACalls cx.P f (fst.toList.map T.v ++ (ts ++ cap.toList.map T.v)) S1 R) (hq : ∀ t S', R t S' → t = .v r ∧ S' = S1) (hr : AWL cx ops l K ((d, true, .v r) :: env) S) : AWL cx ops (o :: l) K env S := by
  intro a w hs
  unfold wpList
  rw [if_pos (wanted_none hg)]
  refine .inl ?_
  unfold Oper.wp
  obtain ⟨args, h1, h2⟩ := call_keeps (g := true) ho hf hxf hx hS (fun _ => hc) hq hs rfl
  rw [h1, Oper.upon_enter, hd]
  refine h2.mono ?_
  rintro e w' ⟨rfl, hk⟩
  exact hr _ _ (hk.put hN (fun _ => .v r) (by simp))
theorem AWL.callKg {f : FuncId} {xf : Operand} {xs : Array Operand} {ats : Array TypeId} {fst cap : Array Value} {ts : List T} {S1 S2 : St} {R : T → St → Prop} {r : Value} {j dj : Nat} {c b want : Bool} (hg : o.guard = some (j, want)) (hj : (ops[j]?).bind (·.dst) = some dj) (hk : get dj env = some (c, .v (.bool b)))
    (hd : o.dst = some d) (hN : d < cx.N) (ho : o.op = .call { callee := .value xf, args := xs, argTypes := ats }) (hf : calleeB cx.P f = true) (hxf : Ev env (c && (b == want)) xf (.v (.func (.func f) fst cap))) (hx : Evs env (c && (b == want)) xs.toList ts) (hS : S = S1 ++ S2)
    (hc : (c && (b == want)) = true → ACalls cx.P f (fst.toList.map T.v ++ (ts ++ cap.toList.map T.v)) S1 R) (hq : ∀ t S', R t S' → t = .v r ∧ S' = S1) (hr : AWL cx ops l K ((d, (c && (b == want)), .v r) :: env) S) : AWL cx ops (o :: l) K env S := by
  intro a w hs
  unfold wpList
  rw [hs.guard hg hj hk]
  cases hcc : (c && (b == want)) with
  | true =>
    rw [if_pos rfl]
    refine .inl ?_
    unfold Oper.wp
    obtain ⟨args, h1, h2⟩ := call_keeps (g := c && (b == want)) ho hf hxf hx hS hc hq hs hcc
    rw [h1, Oper.upon_enter, hd]
    refine h2.mono ?_
    rintro e w' ⟨rfl, hk⟩
    exact hr _ _ (hk.put hN (fun _ => .v r) (fun e => by rw [hcc] at e; cases e))
  | false =>
    rw [if_neg (by simp), hd]
    exact hr _ _ (hs.put hN (fun e => by rw [hcc] at e; cases e) (fun _ => rfl))
theorem AWL.callKgT {f : FuncId} {xf : Operand} {xs : Array Operand} {ats : Array TypeId} {fst cap : Array Value} {ts : List T} {S1 S2 : St} {R : T → St → Prop} {r : Value} {j dj : Nat} {c b : Bool} (hg : o.guard = some (j, true)) (hj : (ops[j]?).bind (·.dst) = some dj) (hk : get dj env = some (c, .v (.bool b)))
    (hd : o.dst = some d) (hN : d < cx.N) (ho : o.op = .call { callee := .value xf, args := xs, argTypes := ats }) (hf : calleeB cx.P f = true) (hxf : Ev env (c && b) xf (.v (.func (.func f) fst cap))) (hx : Evs env (c && b) xs.toList ts) (hS : S = S1 ++ S2)
    (hc : (c && b) = true → ACalls cx.P f (fst.toList.map T.v ++ (ts ++ cap.toList.map T.v)) S1 R) (hq : ∀ t S', R t S' → t = .v r ∧ S' = S1) (hr : AWL cx ops l K ((d, (c && b), .v r) :: env) S) : AWL cx ops (o :: l) K env S := by
  have e : (c && (b == true)) = (c && b) := by cases b <;> rfl
  exact AWL.callKg hg hj hk hd hN ho hf (e ▸ hxf) (e ▸ hx) hS (fun h => hc (e ▸ h)) hq (e ▸ hr)
theorem AWL.callKgF {f : FuncId} {xf : Operand} {xs : Array Operand} {ats : Array TypeId} {fst cap : Array Value} {ts : List T} {S1 S2 : St} {R : T → St → Prop} {r : Value} {j dj : Nat} {c b : Bool} (hg : o.guard = some (j, false)) (hj : (ops[j]?).bind (·.dst) = some dj) (hk : get dj env = some (c, .v (.bool b)))
    (hd : o.dst = some d) (hN : d < cx.N) (ho : o.op = .call { callee := .value xf, args := xs, argTypes := ats }) (hf : calleeB cx.P f = true) (hxf : Ev env (c && !b) xf (.v (.func (.func f) fst cap))) (hx : Evs env (c && !b) xs.toList ts) (hS : S = S1 ++ S2)
    (hc : (c && !b) = true → ACalls cx.P f (fst.toList.map T.v ++ (ts ++ cap.toList.map T.v)) S1 R) (hq : ∀ t S', R t S' → t = .v r ∧ S' = S1) (hr : AWL cx ops l K ((d, (c && !b), .v r) :: env) S) : AWL cx ops (o :: l) K env S := by
  have e : (c && (b == false)) = (c && !b) := by cases b <;> rfl
  exact AWL.callKg hg hj hk hd hN ho hf (e ▸ hxf) (e ▸ hx) hS (fun h => hc (e ▸ h)) hq (e ▸ hr)
end
end Go.Proofs.YtjndpakhmgapjaaDoor
