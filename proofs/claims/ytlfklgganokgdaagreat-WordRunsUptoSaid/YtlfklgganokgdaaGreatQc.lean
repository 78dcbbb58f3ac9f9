/-
  TEXTS JOINED: Aw20, Aw21, Aw22, Aw26, Aw27, Aw28, Aw29, Aw30, Aw31, Aw32, Aw33, Aw34, Aw35, Aw36.
-/
import Derived.Laws.StructEq
import Derived.OrdersHeld
import Derived.Scope
import Derived.Maps.RangeRun
import Derived.Lib.SliceRun
import Derived.Laws.FloatArith
import Derived.Laws.Cover2
import Derived.Test.YtlfklgganokgdaaGreatQb
set_option linter.unusedSimpArgs false
set_option linter.unusedVariables false
set_option linter.unusedSectionVars false
set_option linter.unnecessarySimpa false
set_option maxHeartbeats 64000000
namespace Go.Proofs.YtlfklgganokgdaaGreat
open Go Go.RowKit

section
variable {cx : Cx} {env : Env} {S : St} {o : Oper} {g : Bool} {x y z : Operand} {ops : Array Oper} {l : List Oper} {K : Env → St → Prop} {d : Nat}

def valsOf : List T → Option (List Value)
 | [] => some []
 | .v u :: r => (valsOf r).map (u :: ·)
 | _ :: _ => none
theorem valsOf_spec : ∀ {l : List T} {us : List Value}, valsOf l = some us → l = us.map T.v
 | [], us, h => by simp only [valsOf, Option.some.injEq] at h; subst h; rfl
 | .v u :: r, us, h => by
  simp only [valsOf, Option.map_eq_some_iff] at h
  obtain ⟨vs, h1, rfl⟩ := h
  rw [valsOf_spec h1]; rfl
 | .agg _ :: _, _, h => by simp [valsOf] at h
 | .tup _ :: _, _, h => by simp [valsOf] at h
 | .sl _ _ :: _, _, h => by simp [valsOf] at h
 | .rp _ _ :: _, _, h => by simp [valsOf] at h
 | .ep _ _ :: _, _, h => by simp [valsOf] at h
 | .sp _ _ _ :: _, _, h => by simp [valsOf] at h
theorem VRep.vals {w : World} {L : List Nat} {us : List Value} {u : Value} (h : VRep w L (.agg (us.map T.v)) u) : u = .agg us.toArray := by
 cases h with
 | @agg _ ys hl hh h1 =>
  have : ys = us := by
   apply List.ext_getElem?
   intro j
   rw [List.length_map] at hl
   by_cases hj : j < us.length
   ·have e1 : (us.map T.v)[j]? = some (.v us[j]) := by simp [hj]
    have e2 : ys[j]? = some (ys[j]'(by omega)) := List.getElem?_eq_getElem (by omega)
    have := (hh j _ _ e1 e2).v_inv
    rw [e2, this, List.getElem?_eq_getElem hj]
   ·rw [List.getElem?_eq_none (by omega), List.getElem?_eq_none (by omega)]
  rw [this]

/-! ### function values -/
theorem Evs.valsOf_ {a : Act} {w : World} (hs : Sim cx env S a w) (hg : g = true) {xs : List Operand} {ts : List T} {us : List Value} (h : Evs env g xs ts) (hv : valsOf ts = some us) : xs.map a.eval = us := by
 obtain ⟨e1, e2⟩ := Evs.spec hs hg h
 rw [valsOf_spec hv] at e1 e2
 apply List.ext_getElem?
 intro j
 rw [show (us.map T.v).length = us.length from List.length_map ..] at e1
 by_cases hj : j < us.length
 ·have e3 : (us.map T.v)[j]? = some (.v us[j]) := by simp [hj]
  have e4 : (xs.map a.eval)[j]? = some ((xs.map a.eval)[j]'(by omega)) := List.getElem?_eq_getElem (by omega)
  have := (e2 j _ _ e3 e4).v_inv
  rw [e4, this, List.getElem?_eq_getElem hj]
 rw [List.getElem?_eq_none (by omega), List.getElem?_eq_none (by omega)]
theorem Yv.makeFunc {fn : Fn} {fs cs : Array Operand} {ft ct : List T} {fu cu : List Value} (ho : o.op = .makeFunc fn fs cs) (hf : Evs env g fs.toList ft) (hfu : valsOf ft = some fu) (hc : Evs env g cs.toList ct) (hcu : valsOf ct = some cu) :
    Yv cx o env S g (.v (.func fn fu.toArray cu.toArray)) :=
 Yv.plain fun a w hs hg w' => by
  have e1 := hf.valsOf_ hs hg hfu
  have e2 := hc.valsOf_ hs hg hcu
  have e3 : fs.map a.eval = fu.toArray := by apply Array.ext'; simp [← e1]
  have e4 : cs.map a.eval = cu.toArray := by apply Array.ext'; simp [← e2]
  simp [execOp, ho, Instr.makeFunc, Sem.run_pure, e3, e4]

/-! ### equality of structs of plain cells -/
inductive FK where
 | i
 | b
 | s
def fkOf (P : Program) (t : TypeId) : Option FK :=
 match P.underlying t with
 | some (.int _) => some .i
 | some .bool => some .b
 | some .string => some .s
 | _ => none
def flatF (P : Program) : List Field → Option (List (Nat × FK))
 | [] => some []
 | f :: r => if f.name = "_" then none else match aggSize P f.type, fkOf P f.type, flatF P r with
  | some (false, _), some k, some l => some ((f.offset, k) :: l)
  | _, _, _ => none
def flatOf (P : Program) (t : TypeId) : Option (List (Nat × FK)) :=
 match P.underlying t with
 | some (.struct fs) => if P.stoodInHeld t || P.eqGuardType P.depth t then none else flatF P fs.toList
 | _ => none
def eqCell : FK → Value → Value → Option Bool
 | .i, .int a p, .int b q => if a = b then some (decide (p = q)) else none
 | .b, .bool p, .bool q => some (p == q)
 | .s, .string p, .string q => some (decide (p.data.toList = q.data.toList))
 | _, _, _ => none
def eqCells (us vs : List Value) : List (Nat × FK) → Option Bool
 | [] => some true
 | (off, k) :: r => match us[off]?, vs[off]? with
  | some u, some v => match eqCell k u v, eqCells us vs r with
   | some b, some c => some (b && c)
   | _, _ => none
  | _, _ => none
theorem run_part_one {P : Program} {t : TypeId} {n off : Nat} (h : aggSize P t = some (false, n)) {us : List Value} {u : Value} (hu : us[off]? = some u) (w : World) : (part t us.toArray off).run P w = .ok u w := by
 obtain ⟨h1, h2⟩ := aggSize_spec h w
 simp [part, Sem.run_bind, h1, hu, Sem.run_pure]
theorem run_eqCell {P : Program} {t : TypeId} {k : FK} (h : fkOf P t = some k) {u v : Value} {b : Bool} (hb : eqCell k u v = some b) (dd : Nat) (w : World) : (Op.equalIn (dd + 1) t u v).run P w = .ok b w := by
 unfold fkOf at h
 split at h
 ·rename_i k' hu
  simp only [Option.some.injEq] at h; subst h
  cases u <;> cases v <;> simp only [eqCell] at hb <;> try cases hb
  split at hb
  ·rename_i e; subst e
   simp only [Option.some.injEq] at hb; subst hb
   rw [run_equalIn_int w dd t _ _ _ _ hu]
   rfl
  cases hb
 ·rename_i hu
  simp only [Option.some.injEq] at h; subst h
  cases u <;> cases v <;> simp only [eqCell, Option.some.injEq] at hb <;> try cases hb
  exact run_equalIn_bool' w dd t _ _ hu
 ·rename_i hu
  simp only [Option.some.injEq] at h; subst h
  cases u <;> cases v <;> simp only [eqCell, Option.some.injEq] at hb <;> try cases hb
  rename_i p q
  rw [run_equalIn_string w dd t _ _ hu, ByteArray.toList_eq, ByteArray.toList_eq]
  congr 1
  by_cases e : p.data.toList = q.data.toList
  ·simp [e]
  rw [decide_eq_false e]; exact beq_eq_false_iff_ne.2 e
 cases h
theorem run_eqFlat {P : Program} {us vs : List Value} (dd : Nat) (w : World) : ∀ {fs : List Field} {l : List (Nat × FK)} {b : Bool}, flatF P fs = some l → eqCells us vs l = some b → (Op.eqFields (dd + 1) us.toArray vs.toArray fs).run P w = .ok b w
 | [], l, b, h, hb => by
  simp only [flatF, Option.some.injEq] at h; subst h
  simp only [eqCells, Option.some.injEq] at hb; subst hb
  simp [Op.eqFields, Sem.run_pure]
 | f :: r, l, b, h, hb => by
  simp only [flatF] at h
  split at h
  ·cases h
  ·rename_i hn
   split at h
   ·rename_i m k l' h1 h2 h3
    simp only [Option.some.injEq] at h; subst h
    simp only [eqCells] at hb
    split at hb
    ·rename_i u v hu hv
     split at hb
     ·rename_i b1 b2 hb1 hb2
      simp only [Option.some.injEq] at hb; subst hb
      have ih := run_eqFlat dd w h3 hb2
      simp only [Op.eqFields, ne_eq, hn, not_false_eq_true, if_true, Sem.run_bind, run_part_one h1 hu, run_part_one h1 hv, run_eqCell h2 hb1, Result.andThen_ok]
      cases b1
      ·simp [Sem.run_pure]
      ·simp [ih]
     ·cases hb
    ·cases hb
   ·cases h
theorem run_eqA {P : Program} {t : TypeId} {us vs : List Value} {l : List (Nat × FK)} {b : Bool} (ht : flatOf P t = some l) (hb : eqCells us vs l = some b) (w : World) :
    (Op.equalIn 10000 t (.agg us.toArray) (.agg vs.toArray)).run P w = .ok b w ∧ P.eqGuardType P.depth t = false := by
 unfold flatOf at ht
 split at ht
 ·rename_i fs hu
  split at ht
  ·cases ht
  rename_i hn
  simp only [Bool.or_eq_true, not_or, Bool.not_eq_true] at hn
  have hf : P.fieldsOf t = fs := by simp [Program.fieldsOf, hu]
  exact ⟨by rw [run_equalIn_struct w 9999 t _ _ (by rw [hf]; exact hu) hn.1, hf]; exact run_eqFlat 9998 w ht hb, hn.2⟩
 cases ht
theorem exec_binOp_agg {ρ : Operand → Value} {P : Program} {op : BinOp} {ty yt : TypeId} {p q : Array Value} (ho : o.op = .binOp op ty x y yt) (hx : ρ x = .agg p) (hy : ρ y = .agg q) (hm : P.eqGuardType P.depth ty = false) (w : World) :
    (execOp ρ o).run P w = ((binOp op ty (.agg p) (.agg q)).run P w).andThen fun v w => .ok (.value v) w := by
 have h := run_eqGuard_agg (P := P) w op ty x y p q hm
 simp only [execOp, ho, hx, hy, Sem.run_bind, h, Result.andThen_ok, Sem.run_pure]
theorem Yv.neqA {ty yt : TypeId} {l l' : List T} {us vs : List Value} {fl : List (Nat × FK)} {b : Bool} (ho : o.op = .binOp .neq ty x y yt) (ht : flatOf cx.P ty = some fl) (hx : Ev env g x (.agg l)) (hy : Ev env g y (.agg l')) (hu : valsOf l = some us) (hv : valsOf l' = some vs) (hb : eqCells us vs fl = some b) :
    Yv cx o env S g (.v (.bool (!b))) :=
 Yv.plain fun a w hs hg w' => by
  have e1 := hx.rep hs hg
  have e2 := hy.rep hs hg
  rw [valsOf_spec hu] at e1
  rw [valsOf_spec hv] at e2
  obtain ⟨e3, e4⟩ := run_eqA ht hb w'
  rw [exec_binOp_agg ho e1.vals e2.vals e4, run_neq_struct, e3]
  rfl

/-! ### calls that read some entries and leave them -/
theorem call_keeps {f : FuncId} {xf : Operand} {xs : Array Operand} {ats : Array TypeId} {fst cap : Array Value} {ts : List T} {S1 S2 : St} {R : T → St → Prop} {r : Value} (ho : o.op = .call { callee := .value xf, args := xs, argTypes := ats }) (hf : calleeB cx.P f = true)
    (hxf : Ev env g xf (.v (.func (.func f) fst cap))) (hx : Evs env g xs.toList ts) (hS : S = S1 ++ S2) (hc : g = true → ACalls cx.P f (fst.toList.map T.v ++ (ts ++ cap.toList.map T.v)) S1 R) (hq : ∀ t S', R t S' → t = .v r ∧ S' = S1) {a : Act} {w : World} (hs : Sim cx env S a w) (hgt : g = true) :
    ∃ args, (execOp a.eval o).run cx.P w = .ok (.enter f args) w ∧ Calls cx.P f args w fun e w'' => e = .returned r ∧ Sim cx env S a w'' := by
 subst hS
 refine ⟨_, exec_call ho hf (hxf.val hs hgt) w, ?_⟩
 obtain ⟨e1, e2⟩ := hx.spec hs hgt
 obtain ⟨c1, c2, c3, c4⟩ := hs.forCall
 obtain ⟨v1, v2⟩ := vals_spec (fst := fst.toList) (cap := cap.toList) e1 (fun j t u h1 h2 => c4 t u (e2 j t u h1 h2))
 refine (hc hgt (cx.X ++ M S2) w _ c1 c2 c3 v1 v2).mono ?_
 rintro e w' ⟨v, t, S', rfl, hk, hnd, hfr, hent, hv, hR⟩
 obtain ⟨rfl, rfl⟩ := hq t S' hR
 exact ⟨by rw [hv.v_inv], hs.called hk hnd hfr hent⟩
theorem AWL.callK {f : FuncId} {xf : Operand} {xs : Array Operand} {ats : Array TypeId} {fst cap : Array Value} {ts : List T} {S1 S2 : St} {R : T → St → Prop} {r : Value} (hg : o.guard = none) (hd : o.dst = some d) (hN : d < cx.N)
    (ho : o.op = .call { callee := .value xf, args := xs, argTypes := ats }) (hf : calleeB cx.P f = true) (hxf : Ev env true xf (.v (.func (.func f) fst cap))) (hx : Evs env true xs.toList ts) (hS : S = S1 ++ S2)
    (hc : ACalls cx.P f (fst.toList.map T.v ++ (ts ++ cap.toList.map T.v)) S1 R) (hq : ∀ t S', R t S' → t = .v r ∧ S' = S1) (hr : AWL cx ops l K ((d, true, .v r) :: env) S) : AWL cx ops (o :: l) K env S := by
 intro a w hs
 unfold wpList
 rw [if_pos (wanted_none hg)]
 refine .inl ?_
 unfold Oper.wp
 obtain ⟨args, h1, h2⟩ := call_keeps (g := true) ho hf hxf hx hS (fun _ => hc) hq hs rfl
 rw [h1, Oper.upon_enter, hd]
 refine h2.mono ?_
 rintro e w' ⟨rfl, hk⟩
 exact hr _ _ (hk.put hN (fun _ => .v r) (by simp))
theorem AWL.callKg {f : FuncId} {xf : Operand} {xs : Array Operand} {ats : Array TypeId} {fst cap : Array Value} {ts : List T} {S1 S2 : St} {R : T → St → Prop} {r : Value} {j dj : Nat} {c b want : Bool} (hg : o.guard = some (j, want)) (hj : (ops[j]?).bind (·.dst) = some dj) (hk : get dj env = some (c, .v (.bool b)))
    (hd : o.dst = some d) (hN : d < cx.N) (ho : o.op = .call { callee := .value xf, args := xs, argTypes := ats }) (hf : calleeB cx.P f = true) (hxf : Ev env (c && (b == want)) xf (.v (.func (.func f) fst cap))) (hx : Evs env (c && (b == want)) xs.toList ts) (hS : S = S1 ++ S2)
    (hc : (c && (b == want)) = true → ACalls cx.P f (fst.toList.map T.v ++ (ts ++ cap.toList.map T.v)) S1 R) (hq : ∀ t S', R t S' → t = .v r ∧ S' = S1) (hr : AWL cx ops l K ((d, (c && (b == want)), .v r) :: env) S) : AWL cx ops (o :: l) K env S := by
 intro a w hs
 unfold wpList
 rw [hs.guard hg hj hk]
 cases hcc : (c && (b == want)) with
 | true =>
  rw [if_pos rfl]
  refine .inl ?_
  unfold Oper.wp
  obtain ⟨args, h1, h2⟩ := call_keeps (g := c && (b == want)) ho hf hxf hx hS hc hq hs hcc
  rw [h1, Oper.upon_enter, hd]
  refine h2.mono ?_
  rintro e w' ⟨rfl, hk⟩
  exact hr _ _ (hk.put hN (fun _ => .v r) (fun e => by rw [hcc] at e; cases e))
 | false =>
  rw [if_neg (by simp), hd]
  exact hr _ _ (hs.put hN (fun e => by rw [hcc] at e; cases e) (fun _ => rfl))
theorem AWL.callKgT {f : FuncId} {xf : Operand} {xs : Array Operand} {ats : Array TypeId} {fst cap : Array Value} {ts : List T} {S1 S2 : St} {R : T → St → Prop} {r : Value} {j dj : Nat} {c b : Bool} (hg : o.guard = some (j, true)) (hj : (ops[j]?).bind (·.dst) = some dj) (hk : get dj env = some (c, .v (.bool b)))
    (hd : o.dst = some d) (hN : d < cx.N) (ho : o.op = .call { callee := .value xf, args := xs, argTypes := ats }) (hf : calleeB cx.P f = true) (hxf : Ev env (c && b) xf (.v (.func (.func f) fst cap))) (hx : Evs env (c && b) xs.toList ts) (hS : S = S1 ++ S2)
    (hc : (c && b) = true → ACalls cx.P f (fst.toList.map T.v ++ (ts ++ cap.toList.map T.v)) S1 R) (hq : ∀ t S', R t S' → t = .v r ∧ S' = S1) (hr : AWL cx ops l K ((d, (c && b), .v r) :: env) S) : AWL cx ops (o :: l) K env S := by
 have e : (c && (b == true)) = (c && b) := by cases b <;> rfl
 exact AWL.callKg hg hj hk hd hN ho hf (e ▸ hxf) (e ▸ hx) hS (fun h => hc (e ▸ h)) hq (e ▸ hr)
theorem AWL.callKgF {f : FuncId} {xf : Operand} {xs : Array Operand} {ats : Array TypeId} {fst cap : Array Value} {ts : List T} {S1 S2 : St} {R : T → St → Prop} {r : Value} {j dj : Nat} {c b : Bool} (hg : o.guard = some (j, false)) (hj : (ops[j]?).bind (·.dst) = some dj) (hk : get dj env = some (c, .v (.bool b)))
    (hd : o.dst = some d) (hN : d < cx.N) (ho : o.op = .call { callee := .value xf, args := xs, argTypes := ats }) (hf : calleeB cx.P f = true) (hxf : Ev env (c && !b) xf (.v (.func (.func f) fst cap))) (hx : Evs env (c && !b) xs.toList ts) (hS : S = S1 ++ S2)
    (hc : (c && !b) = true → ACalls cx.P f (fst.toList.map T.v ++ (ts ++ cap.toList.map T.v)) S1 R) (hq : ∀ t S', R t S' → t = .v r ∧ S' = S1) (hr : AWL cx ops l K ((d, (c && !b), .v r) :: env) S) : AWL cx ops (o :: l) K env S := by
 have e : (c && (b == false)) = (c && !b) := by cases b <;> rfl
 exact AWL.callKg hg hj hk hd hN ho hf (e ▸ hxf) (e ▸ hx) hS (fun h => hc (e ▸ h)) hq (e ▸ hr)
end

section
variable {cx : Cx} {env : Env} {S : St} {o : Oper} {g : Bool} {x y z : Operand} {ops : Array Oper} {l : List Oper} {K : Env → St → Prop} {Q : Exit → Env → St → Prop} {d : Nat} {Hd : World → Prop}

def Tells (cx : Cx) (Hd : World → Prop) (env : Env) (S : St) : Prop := ∀ a w, Sim cx env S a w → Hd w
def AWH (cx : Cx) (ops : Array Oper) (Hd : World → Prop) (fuel : Nat) (listed : Array Bool) (K : Env → St → Prop) (env : Env) (S : St) : Prop :=
 ∀ a w, Sim cx env S a w → Hd w → wpAnyH cx.P .any ops (liftN cx K) Hd fuel listed a w

theorem AW.rseqH (Hd : World → Prop) {id : Nat} {l : List Oper} {y : Code} (hm : cx.P.follows .mixedOrders = true) (ht : Tells cx Hd env S) (h : AWH cx l.toArray Hd l.length (Array.replicate l.length false) (AW cx y Q) env S) : AW cx (.seq (.region id l.toArray true) y) Q env S := by
 refine AW.seq fun a w hs => ?_
 have h1 := wp_region_held (id := id) hm (h a _ hs.drew (ht _ _ hs.drew))
 refine Code.wp_mono (fun e a w hq => ?_) h1
 obtain ⟨rfl, env', S', h1, h2⟩ := hq
 exact ⟨env', S', h1, h2⟩
theorem AW.regionH (Hd : World → Prop) {id : Nat} {l : List Oper} (hm : cx.P.follows .mixedOrders = true) (ht : Tells cx Hd env S) (h : AWH cx l.toArray Hd l.length (Array.replicate l.length false) (Q .normal) env S) : AW cx (.region id l.toArray true) Q env S := by
 intro a w hs
 have h1 := wp_region_held (id := id) hm (h a _ hs.drew (ht _ _ hs.drew))
 refine Code.wp_mono (fun e a w hq => ?_) h1
 obtain ⟨rfl, env', S', h1, h2⟩ := hq
 exact ⟨env', S', h1, h2⟩
theorem AWH.done {fuel : Nat} {listed : Array Bool} (hr : Region.ready .any ops listed = []) (h : K env S) : AWH cx ops Hd fuel listed K env S :=
 fun a w hs _ => wpAnyH_done hr ⟨rfl, env, S, hs, h⟩ fuel
theorem AWH.one {fuel i : Nat} {listed : Array Bool} (hr : Region.ready .any ops listed = [i]) (hi : ops[i]? = some o) (h : AWL cx ops [o] (fun env S => Tells cx Hd env S ∧ AWH cx ops Hd fuel (listed.setIfInBounds i true) K env S) env S) : AWH cx ops Hd (fuel + 1) listed K env S := by
 intro a w hs hd
 refine wpAnyH_all hr (by simp) fun j hj => ?_
 rw [List.mem_singleton] at hj
 subst hj
 exact wpOp_of_AWL hi h (fun _ _ a w h1 h2 => ⟨h1.1 a w h2, h1.2 a w h2 (h1.1 a w h2)⟩) hs
theorem AWH.two {fuel i j : Nat} {o' : Oper} {listed : Array Bool} (hr : Region.ready .any ops listed = [i, j]) (hi : ops[i]? = some o) (hj : ops[j]? = some o') (h : AWL cx ops [o] (fun env S => Tells cx Hd env S ∧ AWH cx ops Hd fuel (listed.setIfInBounds i true) K env S) env S) (h' : AWL cx ops [o'] (fun env S => Tells cx Hd env S ∧ AWH cx ops Hd fuel (listed.setIfInBounds j true) K env S) env S) : AWH cx ops Hd (fuel + 1) listed K env S := by
 intro a w hs hd
 refine wpAnyH_all hr (by simp) fun q hq => ?_
 simp only [List.mem_cons, List.not_mem_nil, or_false] at hq
 rcases hq with rfl | rfl
 ·exact wpOp_of_AWL hi h (fun _ _ a w h1 h2 => ⟨h1.1 a w h2, h1.2 a w h2 (h1.1 a w h2)⟩) hs
 exact wpOp_of_AWL hj h' (fun _ _ a w h1 h2 => ⟨h1.1 a w h2, h1.2 a w h2 (h1.1 a w h2)⟩) hs
theorem AWH.take {fuel i : Nat} {listed : Array Bool} {t : T} (hi : ops[i]? = some o) (hs : Region.noSelect ops = true) (hf : Region.free .any ops listed i = true) (hr : (Region.ready .any ops listed).contains i = true) (hg : o.guard = none) (hd : o.dst = some d) (hN : d < cx.N)
    (hy : ∀ a w, Sim cx env S a w → ∃ u, VRep w (cx.X ++ M S) t u ∧ ∀ w', Hd w' → (execOp a.eval o).run cx.P w' = .ok (.value u) w') (h : AWH cx ops Hd fuel (listed.setIfInBounds i true) K ((d, true, t) :: env) S) : AWH cx ops Hd (fuel + 1) listed K env S := by
 intro a w hsim hdw
 obtain ⟨u, h1, h2⟩ := hy a w hsim
 refine wpAnyH_take (v := u) hi hs hf hr (fun c a w hq => absurd hq.1 (by simp)) (.inl ⟨wanted_none hg, h2⟩) hdw ?_
 rw [hd]
 exact h _ _ (hsim.put hN (fun _ => h1) (by simp)) hdw
theorem heldAll {t : T} (h : ∀ a w, Sim cx env S a w → ∃ u, VRep w (cx.X ++ M S) t u ∧ ∀ w', (execOp a.eval o).run cx.P w' = .ok (.value u) w') : ∀ a w, Sim cx env S a w → ∃ u, VRep w (cx.X ++ M S) t u ∧ ∀ w', Hd w' → (execOp a.eval o).run cx.P w' = .ok (.value u) w' :=
 fun a w hs => (h a w hs).imp fun u q => ⟨q.1, fun w' _ => q.2 w'⟩
end
section
variable {cx : Cx} {env : Env} {S : St} {o : Oper} {x : Operand}
end

section
variable {cx : Cx} {env : Env} {S : St} {o : Oper} {x y : Operand}
theorem freeIdxSl {t e : TypeId} {k j : Nat} {kd : IntKind} {p : Int} {l : List T} (ho : o.op = .indexAddr t x y) (h : sliceSz cx.P t = some (e, k)) (hk : 0 < k) (hy : Ev env true y (.v (.int kd p))) (hx : Ev env true x (.sl k l)) (hj : p = (j : Int) ∧ j * k < l.length) : ∀ a w, Sim cx env S a w → ∃ u, VRep w (cx.X ++ M S) (.rp l (j * k)) u ∧ ∀ w', (execOp a.eval o).run cx.P w' = .ok (.value u) w' := by
 intro a w hs
 have hv := hx.rep hs rfl
 obtain ⟨rfl, hjl⟩ := hj
 generalize hu : a.eval x = u at hv
 cases hv with
 | sl0 hc => simp at hjl
 | sl hn hkl hl hnc hc hb hL hcell hh h1 =>
  refine ⟨_, .rp hl hb hL hcell hh h1, fun w' => ?_⟩
  refine exec_indexAddr ho h hu (hy.val hs rfl) ?_ w'
  rw [hkl] at hjl
  exact Nat.lt_of_mul_lt_mul_right hjl
theorem freeIdxRow {t e e' : TypeId} {k j i n c : Nat} {kd : IntKind} {p : Int} {A : Option Addr} {cs : List T} (ho : o.op = .indexAddr t x y) (h : sliceSz cx.P t = some (e, k)) (hi : S[i]? = some (.row A n c e' k cs)) (hy : Ev env true y (.v (.int kd p))) (hx : Ev env true x (.v (.slice A n c))) (hj : p = (j : Int) ∧ j < n) : ∀ a w, Sim cx env S a w → ∃ u, VRep w (cx.X ++ M S) (.ep (.slice A n c) (j * k)) u ∧ ∀ w', (execOp a.eval o).run cx.P w' = .ok (.value u) w' := by
 intro a w hs
 have hv := hx.val hs rfl
 obtain ⟨rfl, hjl⟩ := hj
 obtain ⟨us, hr, _⟩ := hs.row hi
 rcases hr.2.2.2 with ⟨_, h0, _⟩ | ⟨gb, cur, fr, rfl, _⟩
 ·omega
 refine ⟨_, .ep, fun w' => ?_⟩
 have := exec_indexAddr ho h hv (hy.val hs rfl) hjl w'
 rw [add_lit', Nat.zero_add] at this
 exact this
theorem freeExtract {i : Nat} {l : List T} {r : T} (ho : o.op = .extract x i) (hx : Ev env true x (.tup l)) (hr : l[i]? = some r) : ∀ a w, Sim cx env S a w → ∃ u, VRep w (cx.X ++ M S) r u ∧ ∀ w', (execOp a.eval o).run cx.P w' = .ok (.value u) w' := by
 intro a w hs
 have hv := hx.rep hs rfl
 generalize hu : a.eval x = u at hv
 cases hv with
 | tup hl hh =>
  rename_i ys
  have hi : i < ys.length := hl ▸ (List.getElem?_eq_some_iff.1 hr).1
  refine ⟨ys[i], hh i r _ hr (List.getElem?_eq_getElem hi), fun w' => ?_⟩
  simp [execOp, ho, hu, Instr.extract, Sem.run_pure, List.getElem?_eq_getElem hi]
end

section
variable {cx : Cx} {env : Env} {S : St} {o : Oper} {g : Bool} {x y : Operand}
end
section
variable {P : Program} {ops : Array Oper} {md : Region.Mode} {C : World → Prop}

def wpT (P : Program) (md : Region.Mode) (ops : Array Oper) (C : World → Prop) (D : Nat → Bool) (Q : Array Bool → Act → Prop) : Nat → Array Bool → Act → Prop
 | 0, listed, a => (∀ j, D j = true → listed.getD j true = true) ∧ Q listed a
 | fuel + 1, listed, a => (∃ j, D j = true ∧ j ∈ Region.ready md ops listed) ∧
  ∀ i ∈ Region.ready md ops listed, D i = true → qOp P ops C i (wpT P md ops C D Q fuel (listed.setIfInBounds i true)) a
theorem wpT_first {D : Nat → Bool} {Q : Array Bool → Act → Prop} {i : Nat} {oi : Oper} {v : Value} (hi : ops[i]? = some oi) (hD : D i = true) (hsel : ∀ (j : Nat) (o : Oper) cs b, ops[j]? = some o → o.op ≠ .select cs b) :
    ∀ (fuel : Nat) (listed : Array Bool) (a : Act),
     (∀ j oj, ops[j]? = some oj → j ≠ i → listed.getD j true = false → (∀ e ∈ oj.after, Region.binds md e = true → e.on ≠ i) → oi.apart ops oj = true) →
     i ∈ Region.ready md ops listed → YieldsIn P ops C oi v a →
     wpT P md ops C D Q fuel (listed.setIfInBounds i true) (a.put oi.dst v) → wpT P md ops C D Q (fuel + 1) listed a := by
 intro fuel
 induction fuel with
 | zero =>
  intro listed a _ hr hy H
  refine ⟨⟨i, hD, hr⟩, fun j hj hDj => ?_⟩
  by_cases hji : j = i
  ·subst hji; exact hy.qOp hi H
  ·have h1 := H.1 j hDj
   have h0 := (mem_ready.1 hj).1
   rw [getD_set_ne true (Ne.symm hji), h0] at h1
   cases h1
 | succ fuel ih =>
  intro listed a hfree hr hy H
  refine ⟨⟨i, hD, hr⟩, fun j hj hDj => ?_⟩
  by_cases hji : j = i
  ·subst hji; exact hy.qOp hi H
  ·have h1 := H.2 j (ready_mono hj hji) hDj
   obtain ⟨hjun, oj, hoj, hall⟩ := mem_ready.1 hj
   have hnot : ∀ e ∈ oj.after, Region.binds md e = true → e.on ≠ i := fun e he hb heq => by
    have h1 := hall e he hb
    have h0 := (mem_ready.1 hr).1
    rw [heq] at h1
    rcases Nat.lt_or_ge i listed.size with h' | h'
    ·simp [h'] at h0 h1; rw [h0] at h1; cases h1
    ·simp [Array.getElem?_eq_none h'] at h1
   have h2 := qOp_put hoj (hfree j oj hoj hji hjun hnot) (fun cs b => hsel i oi cs b hi) (fun cs b => hsel j oj cs b hoj) hy h1
   have hfree' : ∀ k ok, ops[k]? = some ok → k ≠ i → (listed.setIfInBounds j true).getD k true = false →
       (∀ e ∈ ok.after, Region.binds md e = true → e.on ≠ i) → oi.apart ops ok = true := fun k ok hk hki hun hno => by
    refine hfree k ok hk hki ?_ hno
    by_cases hjk : j = k
    ·subst hjk; exact hjun
    ·rw [getD_set_ne true hjk] at hun; exact hun
   refine qOp_mono (fun a' h3 => ih (listed.setIfInBounds j true) a' hfree' (ready_mono hr (Ne.symm hji)) h3.1 ?_) h2
   rw [Array.setIfInBounds_comm _ _ hji]
   exact h3.2
def maskL {α : Type} : List Bool → List α → List α
 | true :: m, a :: l => a :: maskL m l
 | false :: m, _ :: l => maskL m l
 | _, _ => []
def afterM : List Bool → Nat → Array Bool → Array Bool
 | [], _, listed => listed
 | true :: m, k, listed => afterM m (k + 1) (listed.setIfInBounds k true)
 | false :: m, k, listed => afterM m (k + 1) listed
def phaseFrom (md : Region.Mode) (ops : Array Oper) : List Bool → Nat → Array Bool → Bool
 | [], _, _ => true
 | true :: m, k, listed => (Region.ready md ops listed).contains k && Region.free md ops listed k && phaseFrom md ops m (k + 1) (listed.setIfInBounds k true)
 | false :: m, k, listed => phaseFrom md ops m (k + 1) listed
def depsIn (md : Region.Mode) (ops : Array Oper) (k : Nat) (g : Array Bool) : Bool := ((ops[k]?).map fun o => o.after.all fun e => !Region.binds md e || g.getD e.on false).getD false
def shut (md : Region.Mode) (ops : Array Oper) (m : List Bool) (L : List Nat) (g : Array Bool) : Array Bool :=
 L.foldl (fun g k => if m.getD k false && !depsIn md ops k g then g.setIfInBounds k false else g) g
def strayB (md : Region.Mode) (ops : Array Oper) (m : List Bool) (listed f : Array Bool) : Bool :=
 (List.range listed.size).all fun j => (!m.getD j false || (f.getD j false && !listed.getD j true)) && (!f.getD j true || listed.getD j true || m.getD j false) && (!m.getD j false || (Region.ready md ops (shut md ops m (List.range listed.size) (f.setIfInBounds j false))).all fun k => m.getD k false)
def phaseB (md : Region.Mode) (ops : Array Oper) (m : List Bool) (listed : Array Bool) : Bool :=
 Region.noSelect ops && (phaseFrom md ops m 0 listed && (decide (m.length ≤ listed.size) && (decide ((afterM m 0 listed).size = listed.size) && strayB md ops m listed (afterM m 0 listed))))
theorem wpT_lex {D : Nat → Bool} {Q : Act → Prop} (hs : Region.noSelect ops = true) : ∀ (m : List Bool) (l : List Oper) (k : Nat) (listed : Array Bool) (a : Act), (∀ j, l[j]? = ops[k + j]?) →
    phaseFrom md ops m k listed = true → (∀ j, m[j]? = some true → D (k + j) = true) → (∀ j, D j = true → (∃ q, j = k + q ∧ m[q]? = some true) ∨ listed.getD j true = true) →
    wpQuiet P ops C Q (maskL m l) a → wpT P md ops C D (fun f a => f = afterM m k listed ∧ Q a) (m.count true) listed a
 | [], l, k, listed, a, _, _, _, hc, h => by
  refine ⟨fun j hj => (hc j hj).resolve_left (fun ⟨q, _, hq⟩ => by simp at hq), rfl, ?_⟩
  have e : maskL ([] : List Bool) l = [] := by cases l <;> rfl
  rw [e] at h
  exact h
 | false :: m, l, k, listed, a, hl, hB, hD, hc, h => by
  have e : (false :: m).count true = m.count true := by simp
  rw [e]
  refine wpT_lex hs m l.tail (k + 1) listed a (fun j => ?_) hB (fun j hj => ?_) (fun j hj => ?_) ?_
  ·have := hl (j + 1)
   rw [List.getElem?_tail]
   rw [this]
   congr 1
   omega
  ·have := hD (j + 1) (by simpa using hj)
   rwa [show k + 1 + j = k + (j + 1) by omega]
  ·rcases hc j hj with ⟨q, h1, h2⟩ | h1
   ·cases q with
    | zero => simp at h2
    | succ q => exact .inl ⟨q, by omega, by simpa using h2⟩
   ·exact .inr h1
  ·cases l with
   | nil => simpa [maskL] using h
   | cons o l => simpa [maskL] using h
 | true :: m, [], k, listed, a, hl, hB, hD, hc, h => by
  exfalso
  simp only [phaseFrom, Bool.and_eq_true] at hB
  have hr : k ∈ Region.ready md ops listed := by simpa using hB.1.1
  obtain ⟨_, o, ho, _⟩ := mem_ready.1 hr
  have := hl 0
  rw [Nat.add_zero, ho] at this
  simp at this
 | true :: m, o :: l, k, listed, a, hl, hB, hD, hc, h => by
  have h0 : ops[k]? = some o := by simpa using (hl 0).symm
  simp only [phaseFrom, Bool.and_eq_true] at hB
  obtain ⟨⟨hr, hf⟩, hB'⟩ := hB
  have hr : k ∈ Region.ready md ops listed := by simpa using hr
  have hst : qOp P ops C k (wpQuiet P ops C Q (maskL m l)) a := by unfold qOp; simp only [h0]; exact h
  obtain ⟨v, hy, hK⟩ := yieldsIn_of_qOp h0 hst
  have hlt : k < listed.size := by
   rcases Nat.lt_or_ge k listed.size with h' | h'
   ·exact h'
   ·have := (mem_ready.1 hr).1
    simp [Array.getElem?_eq_none h'] at this
  have e : (true :: m).count true = m.count true + 1 := by simp
  rw [e]
  refine wpT_first h0 (hD 0 rfl) (Region.noSelect_spec hs) _ listed a (Region.free_spec h0 hf) hr hy ?_
  refine wpT_lex hs m l (k + 1) _ _ (fun j => by have := hl (j + 1); simpa [Nat.add_assoc, Nat.add_comm 1 j] using this) hB' (fun j hj => ?_) (fun j hj => ?_) hK
  ·have := hD (j + 1) (by simpa using hj)
   rwa [show k + 1 + j = k + (j + 1) by omega]
  ·rcases hc j hj with ⟨q, h1, h2⟩ | h1
   ·cases q with
    | zero =>
     right
     subst h1
     simp [hlt]
    | succ q => exact .inl ⟨q, by omega, by simpa using h2⟩
   ·right
    by_cases hkj : k = j
    ·subst hkj
     simp [hlt]
    ·rw [getD_set_ne true hkj]
     exact h1
theorem getD_unset {f : Array Bool} {i j : Nat} (d : Bool) (h : i ≠ j) : (f.setIfInBounds i false).getD j d = f.getD j d := by
 simp [Array.getElem?_setIfInBounds_ne h]
theorem shut_keep {m : List Bool} {i : Nat} : ∀ (L : List Nat) (g : Array Bool), g.getD i true = false → (shut md ops m L g).getD i true = false
 | [], _, h => h
 | k :: L, g, h => by
  refine shut_keep (m := m) L _ ?_
  show (if (m.getD k false && !depsIn md ops k g) = true then g.setIfInBounds k false else g).getD i true = false
  split
  ·by_cases hk : k = i
   ·subst hk
    rcases Nat.lt_or_ge k g.size with h' | h'
    ·simp [h']
    ·rw [Array.getD_eq_getD_getElem?, Array.getElem?_eq_none h'] at h
     cases h
   ·rw [getD_unset true hk]
    exact h
  ·exact h
theorem shut_sup {m : List Bool} {listed : Array Bool} (hc : ∀ k, m.getD k false = true → listed.getD k false = true → depsIn md ops k listed = true) : ∀ (L : List Nat) (g : Array Bool), (∀ x, listed.getD x false = true → g.getD x false = true) →
    ∀ x, listed.getD x false = true → (shut md ops m L g).getD x false = true
 | [], _, h => h
 | k :: L, g, h => by
  refine shut_sup hc L _ fun x hx => ?_
  show (if (m.getD k false && !depsIn md ops k g) = true then g.setIfInBounds k false else g).getD x false = true
  split
  ·rename_i hk
   rw [Bool.and_eq_true, Bool.not_eq_true'] at hk
   by_cases hkx : k = x
   ·exfalso
    subst hkx
    have h1 := hc k hk.1 hx
    have h2 := hk.2
    unfold depsIn at h1 h2
    cases ho : ops[k]? with
    | none => rw [ho] at h1; cases h1
    | some o =>
     rw [ho] at h1 h2
     simp only [Option.map_some, Option.getD_some] at h1 h2
     rw [Array.all_eq_true'] at h1
     have h3 : (o.after.all fun e => !Region.binds md e || g.getD e.on false) = true := by
      rw [Array.all_eq_true']
      intro e he
      have := h1 e he
      rw [Bool.or_eq_true] at this ⊢
      rcases this with q | q
      ·exact .inl q
      ·exact .inr (h _ q)
     rw [h3] at h2
     cases h2
   ·rw [getD_unset false hkx]
    exact h x hx
  ·exact h x hx
theorem wpAny_of_T {m : List Bool} {listed0 f : Array Bool} (hm : m.length ≤ listed0.size) (hf : f.size = listed0.size) (hB : strayB md ops m listed0 f = true) {Q : Array Bool → Act → Prop} {Q' : Exit → Act → World → Prop} {rest : Nat}
    (hQ : ∀ listed a w, C w → Q listed a → wpAny P md ops Q' rest listed a w) : ∀ (fuel : Nat) (listed : Array Bool) (a : Act) (w : World), C w →
     (listed.size = listed0.size ∧ (∀ j, listed.getD j false = true → f.getD j false = true) ∧ (∀ j, listed0.getD j true = true → listed.getD j true = true) ∧ ∀ k, m.getD k false = true → listed.getD k false = true → depsIn md ops k listed = true) →
     wpT P md ops C (fun j => m.getD j false) Q fuel listed a → wpAny P md ops Q' (fuel + rest) listed a w
 | 0, listed, a, w, hw, _, h => by
  rw [Nat.zero_add]
  exact hQ listed a w hw h.2
 | fuel + 1, listed, a, w, hw, ⟨i1, i2, i3, i4⟩, h => by
  have hall : ∀ j, j < listed0.size → _ := fun j hj => by
   have := hB
   unfold strayB at this
   rw [List.all_eq_true] at this
   exact this j (List.mem_range.2 hj)
  have hDlt : ∀ j, m.getD j false = true → j < listed0.size := fun j hj => by
   rcases Nat.lt_or_ge j m.length with h' | h'
   ·omega
   ·rw [List.getD_eq_getElem?_getD, List.getElem?_eq_none h'] at hj
    cases hj
  obtain ⟨⟨j0, hD0, hr0⟩, h2⟩ := h
  have hD0 : m.getD j0 false = true := hD0
  have hin : ∀ i ∈ Region.ready md ops listed, m.getD i false = true := by
   intro i hi
   obtain ⟨hu, o, ho, hdep⟩ := mem_ready.1 hi
   obtain ⟨hu0, _⟩ := mem_ready.1 hr0
   have hilt : i < listed0.size := by
    rcases Nat.lt_or_ge i listed.size with h' | h'
    ·omega
    ·rw [Array.getD_eq_getD_getElem?, Array.getElem?_eq_none h'] at hu
     cases hu
   have a1 := hall i hilt
   have a0 := hall j0 (hDlt j0 hD0)
   simp only [Bool.and_eq_true, Bool.or_eq_true, Bool.not_eq_true', List.all_eq_true] at a1 a0
   rcases a1.1.2 with (h1 | h1) | h1
   ·have hne : j0 ≠ i := by
     rintro rfl
     have := a0.1.1
     rcases this with q | q
     ·rw [hD0] at q; cases q
     ·have q := q.1
      rw [Array.getD_eq_getD_getElem?] at q h1
      rcases hx : f[j0]? with _ | b
      ·rw [hx] at h1; cases h1
      ·rw [hx] at h1 q
       simp only [Option.getD_some] at h1 q
       rw [h1] at q; cases q
    have hsup : ∀ x, listed.getD x false = true → (f.setIfInBounds j0 false).getD x false = true := fun x hx => by
     have hne' : j0 ≠ x := by
      rintro rfl
      rw [Array.getD_eq_getD_getElem?] at hx hu0
      rcases hy : listed[j0]? with _ | b
      ·rw [hy] at hx; cases hx
      ·rw [hy] at hx hu0
       simp only [Option.getD_some] at hx hu0
       rw [hu0] at hx; cases hx
     rw [getD_unset false hne']
     exact i2 _ hx
    have hrd : i ∈ Region.ready md ops (shut md ops m (List.range listed0.size) (f.setIfInBounds j0 false)) :=
     mem_ready.2 ⟨shut_keep _ _ (by rw [getD_unset true hne]; exact h1), o, ho, fun e he hb => shut_sup i4 _ _ hsup _ (hdep e he hb)⟩
    rcases a0.2 with q | q
    ·rw [hD0] at q; cases q
    ·exact q i hrd
   ·have := i3 i h1
    rw [hu] at this
    cases this
   ·exact h1
  rw [show fuel + 1 + rest = fuel + rest + 1 by omega]
  refine ⟨fun hn => absurd (hn ▸ hr0) (by simp), fun i hi => ?_⟩
  have hDi := hin i hi
  refine wpOp_of_qOp hw (fun a' w' hw' hk => wpAny_of_T hm hf hB hQ fuel _ a' w' hw' ⟨by rw [Array.size_setIfInBounds]; exact i1, fun j hj => ?_, fun j hj => ?_, fun k hk hkl => ?_⟩ hk) (h2 i hi hDi)
  ·by_cases hij : i = j
   ·subst hij
    have a1 := hall i (hDlt i hDi)
    simp only [Bool.and_eq_true, Bool.or_eq_true, Bool.not_eq_true'] at a1
    rcases a1.1.1 with q | q
    ·rw [hDi] at q; cases q
    ·exact q.1
   ·rw [getD_set_ne false hij] at hj
    exact i2 j hj
  ·by_cases hij : i = j
   ·subst hij
    have hlt : i < listed.size := by have := hDlt i hDi; omega
    simp [hlt]
   ·rw [getD_set_ne true hij]
    exact i3 j hj
  ·have hsub : ∀ x, listed.getD x false = true → (listed.setIfInBounds i true).getD x false = true := fun x hx => getD_set_true hx
   have hdk : depsIn md ops k listed = true := by
    by_cases hik : i = k
    ·subst hik
     obtain ⟨_, o, ho, hdep⟩ := mem_ready.1 hi
     unfold depsIn
     rw [ho]
     simp only [Option.map_some, Option.getD_some]
     rw [Array.all_eq_true']
     intro e he
     rw [Bool.or_eq_true, Bool.not_eq_true']
     cases hb : Region.binds md e
     ·exact .inl rfl
     ·exact .inr (hdep e he hb)
    ·rw [getD_set_ne false hik] at hkl
     exact i4 k hk hkl
   unfold depsIn at hdk ⊢
   cases ho : ops[k]? with
   | none => rw [ho] at hdk; cases hdk
   | some o =>
    rw [ho] at hdk
    simp only [Option.map_some, Option.getD_some] at hdk ⊢
    rw [Array.all_eq_true'] at hdk ⊢
    intro e he
    have := hdk e he
    rw [Bool.or_eq_true] at this ⊢
    rcases this with q | q
    ·exact .inl q
    ·exact .inr (hsub _ q)
end
section
variable {cx : Cx} {env : Env} {S : St} {o : Oper} {x y : Operand} {ops : Array Oper} {l : List Oper} {K : Env → St → Prop}
theorem freeSub_i64 {ty yt : TypeId} {p q : Int} (ho : o.op = .binOp .sub ty x y yt) (hx : Ev env true x (.v (.int .i64 p))) (hy : Ev env true y (.v (.int .i64 q))) (hb : -9223372036854775808 ≤ p - q ∧ p - q ≤ 9223372036854775807) : ∀ a w, Sim cx env S a w → ∃ u, VRep w (cx.X ++ M S) (.v (.int .i64 (p - q))) u ∧ ∀ w', (execOp a.eval o).run cx.P w' = .ok (.value u) w' :=
 fun a w hs => ⟨_, .v _, fun w' => by rw [exec_binOp_int ho (hx.val hs rfl) (hy.val hs rfl)]; simp [binOp, Op.intArith, Sem.run_pure, IntWalk.i64_in _ hb]⟩
theorem freeFieldEp {s : TypeId} {i off p : Nat} {v : Value} (ho : o.op = .fieldAddr s x i) (h : fieldOff cx.P s i = some off) (hx : Ev env true x (.ep v p)) : ∀ a w, Sim cx env S a w → ∃ u, VRep w (cx.X ++ M S) (.ep v (p + off)) u ∧ ∀ w', (execOp a.eval o).run cx.P w' = .ok (.value u) w' := by
 intro a w hs
 have hr := hx.rep hs rfl
 generalize hv : a.eval x = u at hr
 cases hr with
 | ep =>
  refine ⟨_, .ep, fun w' => ?_⟩
  rw [exec_fieldAddr ho h hv]
  unfold Addr.add
  split
  ·rename_i h0; subst h0; rfl
  ·rfl
theorem freeFieldRp {s : TypeId} {i off p : Nat} {l : List T} (ho : o.op = .fieldAddr s x i) (h : fieldOff cx.P s i = some off) (hx : Ev env true x (.rp l p)) : ∀ a w, Sim cx env S a w → ∃ u, VRep w (cx.X ++ M S) (.rp l (p + off)) u ∧ ∀ w', (execOp a.eval o).run cx.P w' = .ok (.value u) w' := by
 intro a w hs
 have hr := hx.rep hs rfl
 generalize hv : a.eval x = u at hr
 cases hr with
 | rp hl hb hL hcell hh h1 =>
  refine ⟨_, .rp hl hb hL hcell hh h1, fun w' => ?_⟩
  rw [exec_fieldAddr ho h hv, add_add']
theorem AWL.callF {d : Nat} {lo : List Oper} {f : FuncId} {xf : Operand} {xs : Array Operand} {ats : Array TypeId} {fst cap : Array Value} {ts : List T} {F1 S1 F2 : St} {R : T → St → Prop} (hg : o.guard = none) (hd : o.dst = some d) (hN : d < cx.N)
    (ho : o.op = .call { callee := .value xf, args := xs, argTypes := ats }) (hf : calleeB cx.P f = true) (hxf : Ev env true xf (.v (.func (.func f) fst cap))) (hx : Evs env true xs.toList ts) (hS : S = F1 ++ (S1 ++ F2))
    (hc : ACalls cx.P f (fst.toList.map T.v ++ (ts ++ cap.toList.map T.v)) S1 R) (hr : ∀ t S', R t S' → AWL cx ops lo K ((d, true, t) :: env) (F1 ++ (S' ++ F2))) : AWL cx ops (o :: lo) K env S := by
 subst hS
 refine AWL.perm (S' := S1 ++ (F1 ++ F2)) (List.perm_append_comm_assoc S1 F1 F2) ?_
 exact AWL.call hg hd hN ho hf hxf hx (S1 := S1) (S2 := F1 ++ F2) rfl hc (fun t S' h => AWL.perm (S' := F1 ++ (S' ++ F2)) (List.perm_append_comm_assoc F1 S' F2) (hr t S' h))
theorem AWL.callE {d : Nat} {lo : List Oper} {f : FuncId} {xf : Operand} {xs : Array Operand} {ats : Array TypeId} {fst cap : Array Value} {ts : List T} {F1 S1 : St} {R : T → St → Prop} (hg : o.guard = none) (hd : o.dst = some d) (hN : d < cx.N)
    (ho : o.op = .call { callee := .value xf, args := xs, argTypes := ats }) (hf : calleeB cx.P f = true) (hxf : Ev env true xf (.v (.func (.func f) fst cap))) (hx : Evs env true xs.toList ts) (hS : S = F1 ++ S1)
    (hc : ACalls cx.P f (fst.toList.map T.v ++ (ts ++ cap.toList.map T.v)) S1 R) (hr : ∀ t S', R t S' → AWL cx ops lo K ((d, true, t) :: env) (F1 ++ S')) : AWL cx ops (o :: lo) K env S :=
 AWL.callF hg hd hN ho hf hxf hx (F1 := F1) (S1 := S1) (F2 := []) (by rw [List.append_nil]; exact hS) hc (fun t S' h => by rw [List.append_nil]; exact hr t S' h)
theorem AWL.callKP {d : Nat} {lo : List Oper} {f : FuncId} {xf : Operand} {xs : Array Operand} {ats : Array TypeId} {fst cap : Array Value} {ts : List T} {S1 S2 : St} {R : T → St → Prop} {r : Value} (hg : o.guard = none) (hd : o.dst = some d) (hN : d < cx.N)
    (ho : o.op = .call { callee := .value xf, args := xs, argTypes := ats }) (hf : calleeB cx.P f = true) (hxf : Ev env true xf (.v (.func (.func f) fst cap))) (hx : Evs env true xs.toList ts) (hS : S.Perm (S1 ++ S2))
    (hc : ACalls cx.P f (fst.toList.map T.v ++ (ts ++ cap.toList.map T.v)) S1 R) (hq : ∀ t S', R t S' → t = .v r ∧ S' = S1) (hr : AWL cx ops lo K ((d, true, .v r) :: env) S) : AWL cx ops (o :: lo) K env S :=
 AWL.perm hS.symm (AWL.callK hg hd hN ho hf hxf hx rfl hc hq (AWL.perm hS hr))
theorem AWP.phase {fuel : Nat} {listed : Array Bool} (m : List Bool) (rest : Nat) (hf : m.count true + rest = fuel) (hB : phaseB .any l.toArray m listed = true) (hle : (List.range listed.size).all (fun j => !listed.getD j false || (afterM m 0 listed).getD j false) = true)
    (h : AWQ cx l.toArray (maskL m l) (fun env S => AWP cx l.toArray rest (afterM m 0 listed) K env S) env S) : AWP cx l.toArray fuel listed K env S := by
 intro a w hs
 subst hf
 unfold phaseB at hB
 simp only [Bool.and_eq_true, decide_eq_true_eq] at hB
 obtain ⟨b1, b2, b3, b4, b5⟩ := hB
 have h1 := h a w hs
 refine wpAny_of_T (C := fun w' => Keeps [] w w') b3 b4 b5 (Q := fun f a' => f = afterM m 0 listed ∧ ∀ w', Keeps [] w w' → ∃ env' S', Sim cx env' S' a' w' ∧ AWP cx l.toArray rest (afterM m 0 listed) K env' S') (fun f a' w' hw' hq => ?_) (m.count true) listed a w (Keeps.refl _ _) ⟨rfl, fun j hj => ?_, fun j hj => hj, fun k hk hkl => ?_⟩ ?_
 ·obtain ⟨rfl, hq⟩ := hq
  obtain ⟨env', S', s1, s2⟩ := hq w' hw'
  exact s2 a' w' s1
 ·rw [List.all_eq_true] at hle
  rcases Nat.lt_or_ge j listed.size with h' | h'
  ·have := hle j (List.mem_range.2 h')
   rw [hj] at this
   simpa using this
  rw [Array.getD_eq_getD_getElem?, Array.getElem?_eq_none h'] at hj
  cases hj
 ·exfalso
  have hlt : k < listed.size := by
   rcases Nat.lt_or_ge k listed.size with h' | h'
   ·exact h'
   ·rw [Array.getD_eq_getD_getElem?, Array.getElem?_eq_none h'] at hkl
    cases hkl
  unfold strayB at b5
  rw [List.all_eq_true] at b5
  have := b5 k (List.mem_range.2 hlt)
  simp only [Bool.and_eq_true, Bool.or_eq_true, Bool.not_eq_true'] at this
  rcases this.1.1 with q | q
  ·rw [hk] at q; cases q
  have q := q.2
  rw [Array.getD_eq_getD_getElem?] at q hkl
  rcases hx : listed[k]? with _ | b
  ·rw [hx] at hkl; cases hkl
  rw [hx] at hkl q
  simp only [Option.getD_some] at hkl q
  rw [hkl] at q; cases q
 refine wpT_lex b1 m l 0 listed a (fun j => by simp) b2 (fun j hj => ?_) (fun j hj => ?_) h1
 ·rw [Nat.zero_add, List.getD_eq_getElem?_getD, hj]
  rfl
 left
 refine ⟨j, by omega, ?_⟩
 rw [List.getD_eq_getElem?_getD] at hj
 rcases hx : m[j]? with _ | b
 ·rw [hx] at hj; cases hj
 rw [hx] at hj
 simp only [Option.getD_some] at hj
 rw [hj]
end
section
variable {cx : Cx} {env : Env} {S : St} {o : Oper} {ops : Array Oper} {l : List Oper} {K : Env → St → Prop} {d : Nat}
def evL (env : Env) : List Operand → Option (List T)
 | [] => some []
 | x :: r => match ev env x, plainConst x, evL env r with
  | some (true, t), true, some ts => some (t :: ts)
  | _, _, _ => none
theorem evs_of {env : Env} : ∀ {xs : List Operand} {ts : List T}, evL env xs = some ts → Evs env true xs ts
 | [], ts, h => by
  obtain rfl : [] = ts := Option.some.inj h
  exact evs0
 | x :: r, ts, h => by
  unfold evL at h
  split at h
  ·rename_i t ts' h1 h2 h3
   obtain rfl := Option.some.inj h
   exact evsC (E h1 h2) (evs_of h3)
  ·cases h
theorem cE {f : FuncId} {xf : Operand} {xs : Array Operand} {ats : Array TypeId} {fst cap : Array Value} {ts : List T} {R : T → St → Prop} (hf : calleeB cx.P f = true) (F1 S1 : St) (ho : o.op = .call { callee := .value xf, args := xs, argTypes := ats }) (hxf : ev env xf = some (true, .v (.func (.func f) fst cap))) (hx : evL env xs.toList = some ts)
    (hc : ACalls cx.P f (fst.toList.map T.v ++ (ts ++ cap.toList.map T.v)) S1 R) (hr : ∀ t S', R t S' → AWL cx ops l K ((d, true, t) :: env) (F1 ++ S')) (hS : S = F1 ++ S1 := by rfl) (hpf : plainConst xf = true := by rfl) (hg : o.guard = none := by rfl) (hd : o.dst = some d := by rfl) (hN : d < cx.N := by exact B rfl) : AWL cx ops (o :: l) K env S := AWL.callE hg hd hN ho hf (E hxf hpf) (evs_of hx) hS hc hr
theorem cA {f : FuncId} {xf : Operand} {xs : Array Operand} {ats : Array TypeId} {fst cap : Array Value} {ts : List T} {R : T → St → Prop} (hf : calleeB cx.P f = true) (ho : o.op = .call { callee := .value xf, args := xs, argTypes := ats }) (hxf : ev env xf = some (true, .v (.func (.func f) fst cap))) (hx : evL env xs.toList = some ts)
    (hc : ACalls cx.P f (fst.toList.map T.v ++ (ts ++ cap.toList.map T.v)) S R) (hr : ∀ t S', R t S' → AWL cx ops l K ((d, true, t) :: env) S') (hpf : plainConst xf = true := by rfl) (hg : o.guard = none := by rfl) (hd : o.dst = some d := by rfl) (hN : d < cx.N := by exact B rfl) : AWL cx ops (o :: l) K env S := AWL.callAll hg hd hN ho hf (E hxf hpf) (evs_of hx) hc hr
end
section
variable {cx : Cx} {env : Env} {S : St} {o : Oper} {g : Bool} {x y z : Operand} {ops : Array Oper} {l : List Oper} {K : Env → St → Prop} {Q : Exit → Env → St → Prop} {d : Nat}
/-! ### arguments seen as trees for one call that writes nothing -/
def Sees (cx : Cx) (env : Env) (S : St) (g : Bool) (x : Operand) (t : T) : Prop := ∀ a w, Sim cx env S a w → g = true → VRep w [] t (a.eval x)
def Seens (cx : Cx) (env : Env) (S : St) (g : Bool) : List Operand → List T → Prop
 | [], [] => True
 | x :: r, t :: r' => Sees cx env S g x t ∧ Seens cx env S g r r'
 | _, _ => False
theorem Sees.ev {t : T} (h : Ev env g x t) : Sees cx env S g x t := fun a w hs hg => (h.rep hs hg).mono (Nat.le_refl _) (fun _ _ _ => rfl) (fun _ _ hm => by cases hm)
theorem Seens.one {t : T} (h1 : Sees cx env S g x t) : Seens cx env S g [x] [t] := ⟨h1, trivial⟩
end
open Go.ChangeMaps (setBlock)
section
variable {cx : Cx} {env : Env} {S : St} {o : Oper} {g : Bool} {x y z : Operand} {ops : Array Oper} {l : List Oper} {c : Code} {K : Env → St → Prop} {Q : Exit → Env → St → Prop} {d : Nat}
end
section
variable {cx : Cx} {env : Env} {S : St} {o : Oper} {x y z : Operand} {ops : Array Oper} {l : List Oper} {K : Env → St → Prop} {d : Nat}
end
theorem ACalls.less {P : Program} {f : FuncId} {ts : List T} {S0 : St} {R R' : T → St → Prop} (h : ACalls P f ts S0 R) (hr : ∀ t S', R t S' → ∃ S'', S''.Sublist S' ∧ R' t S'') : ACalls P f ts S0 R' := fun X w args h1 h2 h3 h4 h5 =>
 (h X w args h1 h2 h3 h4 h5).mono fun e w' ⟨v, t, S', a, b, c, d, e', f', r⟩ => by
  obtain ⟨S'', hs, r'⟩ := hr t S' r
  have hM : (M S'').Sublist (M S') := hs.filterMap _
  have hL : ∀ b, b < w'.heap.size → b ∈ X ++ M S'' → b ∈ X ++ M S' := fun b _ hb => by
   rcases List.mem_append.1 hb with hb | hb
   ·exact List.mem_append.2 (.inl hb)
   ·exact List.mem_append.2 (.inr (hM.subset hb))
  exact ⟨v, t, S'', a, b, hM.nodup c, fun b hb => d b (hM.subset hb), fun e he => (e' e (hs.subset he)).mono (Nat.le_refl _) (fun _ _ => rfl) (fun _ _ _ => rfl) hL, f'.mono (Nat.le_refl _) (fun _ _ _ => rfl) hL, r'⟩
theorem ACalls.keep1 {P : Program} {f : FuncId} {ts : List T} {S0 : St} {r : T} {e : Ent} (h : ACalls P f ts S0 (fun t S => t = r ∧ e ∈ S)) : ACalls P f ts S0 (fun t S => t = r ∧ S = [e]) :=
 h.less fun t S' ⟨h1, h2⟩ => ⟨[e], List.singleton_sublist.2 h2, h1, rfl⟩
structure Came (ms : Array MapEntry) (L : List MapEntry) : Prop where
 sub : ∀ e ∈ L, e ∈ ms.toList
 nd : (L.map (·.born)).Nodup
theorem Came.nil {ms : Array MapEntry} : Came ms [] := ⟨fun _ h => (by cases h), .nil⟩
theorem nodup_frm {α β : Type} {f : α → β} {l : List α} (h : (l.map f).Nodup) : l.Nodup := by
 induction l with
 | nil => exact .nil
 | cons x r ih =>
  rw [List.map_cons, List.nodup_cons] at h
  rw [List.nodup_cons]
  exact ⟨fun hx => h.1 (List.mem_map.2 ⟨x, hx, rfl⟩), ih h.2⟩
theorem Came.len {ms : Array MapEntry} {L : List MapEntry} {clock : Nat} (h : Came ms L) : L.length ≤ ms.toList.length := (nodup_frm h.nd).length_le_of_subset h.sub
section
variable {cx : Cx} {env : Env} {S : St} {o : Oper} {g : Bool} {x y z : Operand} {ops : Array Oper} {l : List Oper} {K : Env → St → Prop} {Q : Exit → Env → St → Prop} {d : Nat}
theorem run_append_rowS {P : Program} {w : World} {t tx ty e : TypeId} {k b n c m : Nat} {zs us news : List Value} {A : Option Addr} {v : Value} (he : elemOf P t = some (e, k, b, zs)) (hk : 0 < k) (hrow : RowIs w e k A n c us) (hs : Src P k tx v m news w) (h63 : n + m ≤ maxLen) (hb : (n + m) * b ≤ 140737488355328) :
    ∃ A' c' w', (Builtin.append_ #[t, tx] ty #[.slice A n c, v]).run P w = .ok (.slice A' (n + m) c') w' ∧ RowIs w' e k A' (n + m) c' (us ++ news) ∧ (∀ g, A'.map (·.block) = some g → A.map (·.block) = some g ∨ g = w.heap.size) ∧
     (∀ g, g < w.heap.size → A.map (·.block) ≠ some g → w'.heap[g]? = w.heap[g]?) ∧ w.heap.size ≤ w'.heap.size ∧ w'.os = w.os ∧ w'.tape = w.tape ∧ w'.output = w.output ∧ (A.isSome = true → A'.isSome = true) := by
 obtain ⟨h1, i, z, h2, h3, rfl, rfl, h6, h7, h8⟩ := elemOf_spec he
 obtain ⟨r1, r2, r3, r4⟩ := hrow
 by_cases hroom : n + m ≤ c
 ·rcases r4 with ⟨rfl, rfl, rfl⟩ | ⟨gb, cur, fr, rfl, hh, hfr, hsz, htk⟩
  ·obtain rfl : m = 0 := by omega
   obtain rfl : us = [] := List.eq_nil_of_length_eq_zero (by simpa using r1)
   obtain rfl : news = [] := List.eq_nil_of_length_eq_zero (by simpa using hs.newsLen)
   exact ⟨none, 0, w, run_append_nil0 w t tx ty e i h1 h2 v [] hs, ⟨by simp, by unfold maxLen; omega, Nat.le_refl _, .inl ⟨rfl, rfl, rfl⟩⟩, (fun g hg => by cases hg), fun _ _ _ => rfl, Nat.le_refl _, rfl, rfl, rfl, fun h => h⟩
  have hfit : n * i.size + news.length ≤ cur.size := by
   rw [hs.newsLen, hsz, ← Nat.add_mul]
   exact Nat.mul_le_mul_right _ hroom
  have hcell : ∀ j, j < news.length → (w.cell? ⟨gb, 0 + n * i.size + j, none⟩).isSome = true := fun j hj => by
   rw [cell_of_row w gb _ cur e fr hh, Array.getElem?_eq_getElem (by omega)]
   rfl
  have hfro : ∀ j, j < news.length → w.frozen? ⟨gb, 0 + n * i.size + j, none⟩ = false := fun j hj => by
   obtain ⟨lo, hi'⟩ := fr
   simp only [World.frozen?, hh]
   simp only at hfr
   rcases hfr with h | h <;> (simp; intro h'; omega)
  have hrun := run_append_room_src (P := P) w t tx ty e i h1 h2 gb 0 n c v m news hs hroom hcell hfro
  obtain ⟨cur', c1, c2⟩ := setCells_heap gb news (0 + n * i.size) w cur hh (by omega)
  obtain ⟨s1, s2, s3, s4, s5⟩ := setCells_rest gb news (0 + n * i.size) w
  refine ⟨_, _, _, hrun, ⟨by simp [r1, hs.newsLen, Nat.add_mul], r2, hroom, .inr ⟨gb, cur', fr, rfl, c1, ?_, ?_, ?_⟩⟩, fun g hg => .inl hg, fun g _ hne => s5 g (fun e => hne (by subst e; rfl)), Nat.le_of_eq s1.symm, s2, s3, s4, fun _ => rfl⟩
  ·have : cur'.size = cur.size := by
    have := congrArg List.length c2
    simp at this
    omega
   rw [this]; exact hfr
  ·have := congrArg List.length c2
   simp at this
   omega
  rw [c2, Nat.zero_add, htk]
  have : us.length + news.length = (n + m) * i.size := by rw [r1, hs.newsLen, Nat.add_mul]
  rw [← this]
  rw [← List.length_append, List.take_left]
 have hn' : c < n + m := by omega
 have hold : (Builtin.firstCells i.size n (.slice A n c)).run P w.drew = .ok us.toArray w.drew := by
  rcases r4 with ⟨rfl, rfl, rfl⟩ | ⟨gb, cur, fr, rfl, hh, hfr, hsz, htk⟩
  ·obtain rfl : us = [] := List.eq_nil_of_length_eq_zero (by simpa using r1)
   exact run_firstCells_none w.drew _ _ _ _
  ·refine run_firstCells_some w.drew _ _ _ _ _ us r1 (fun j u hu => ?_)
   rw [add_lit', Nat.zero_add]
   exact RowIs.cell (w := w) (e := e) (size := i.size) (n := n) (c := c) ⟨r1, r2, r3, .inr ⟨gb, cur, fr, rfl, hh, hfr, hsz, htk⟩⟩ hu
 have hfit := growslice_fits hn' hb
 unfold maxLen at h63
 have hrun := run_append_grow_src (P := P) w t tx ty e i z h1 h2 h3 A n c us hold v m news hs hn' (by omega) hfit
 have hcap1 := grownCap_ge w (n + m) c e
 have hcap2 := grownCap_le_maxLen w (n + m) c e (by unfold maxLen; omega)
 have hlen : us.length + news.length = (n + m) * i.size := by rw [r1, hs.newsLen, Nat.add_mul]
 refine ⟨_, _, _, hrun, ⟨by simp [hlen], hcap2, hcap1, .inr ⟨w.heap.size, _, (0, 0), rfl, heap_alloc_new w.drew _, .inl rfl, ?_, ?_⟩⟩, fun g hg => .inr (by simpa using hg.symm), fun g hg _ => Below.heap_alloc w.drew _ g hg, by simp, rfl, rfl, rfl, fun _ => rfl⟩
 ·have hz : z.cells.size = i.size := by rw [h6]; simpa using h7
  simp only [Array.size_append, List.size_toArray, List.length_append, hlen, size_zeroCells, hz]
  rw [← Nat.add_mul]
  congr 1
  omega
 simp only [Array.toList_append]
 have e1 : (us ++ news).length = (n + m) * i.size := by simp [hlen]
 rw [← e1, List.take_left]

theorem AWL.appendRowS {t tx e : TypeId} {k b n c m i : Nat} {zs : List Value} {A : Option Addr} {cs news : List T} (hg : o.guard = none) (hd : o.dst = some d) (hN : d < cx.N)
    (ho : o.op = .call { callee := .builtin .append, args := #[x, y], argTypes := #[t, tx] }) (he : elemOf cx.P t = some (e, k, b, zs)) (hk : 0 < k) (hi : S[i]? = some (.row A n c e k cs)) (hx : Ev env true x (.v (.slice A n c))) (hy : SrcT cx env S y tx k m news)
    (h63 : n + m ≤ maxLen) (hb : (n + m) * b ≤ 140737488355328)
    (hA : A.isSome = true) (hr : ∀ A' c', A'.isSome = true → AWL cx ops l K ((d, true, .v (.slice A' (n + m) c')) :: env) (S.set i (.row A' (n + m) c' e k (cs ++ news)))) : AWL cx ops (o :: l) K env S := by
 refine AWL.eff hg hd hN fun a w hs => ?_
 obtain ⟨us, hrow, hV⟩ := hs.row hi
 obtain ⟨ns, hVn, hsrc⟩ := hy a w hs
 obtain ⟨A', c', w', hrun, hrow', hblk, hkeep, hsz, hos, htp, hou, hSo⟩ := run_append_rowS (ty := o.type) he hk hrow hsrc h63 hb
 refine ⟨_, w', _, _, ?_, ?_, .v _, hr A' c' (hSo hA)⟩
 ·simp only [execOp, ho, resolve, invoke, builtin, Sem.run_bind, Sem.run_pure, Result.andThen_ok, List.map_toArray, List.map_cons, List.map_nil, hx.val hs rfl, hrun]
 refine hs.swap hi hblk hkeep hsz hos htp hou (fun L hL => ⟨us ++ ns, hrow', ?_⟩)
 have hb' : ∀ b, b < w.heap.size → b ∉ cx.X ++ M S → w'.heap[b]? = w.heap[b]? := fun b hlt hm => hkeep b hlt (fun h => hm (List.mem_append.2 (.inr (mem_M.2 ⟨_, List.mem_of_getElem? hi, h⟩))))
 exact (hV.append hVn).mono hsz hb' hL

theorem AWL.makeRowS {t e : TypeId} {n c k b : Nat} {zs : List Value} {kl kc : IntKind} (hg : o.guard = none) (hd : o.dst = some d) (hN : d < cx.N) (ho : o.op = .makeSlice t x y) (he : elemOf cx.P t = some (e, k, b, zs))
    (hx : Ev env true x (.v (.int kl (n : Int)))) (hy : Ev env true y (.v (.int kc (c : Int)))) (hnc : n ≤ c) (hb : b * c ≤ 281474976710656) (hc : c ≤ maxLen)
    (hr : ∀ A, A.isSome = true → AWL cx ops l K ((d, true, .v (.slice A n c)) :: env) (S ++ [.row A n c e k (List.replicate n (zs.map T.v)).flatten])) : AWL cx ops (o :: l) K env S := by
 refine AWL.eff hg hd hN fun a w hs => ?_
 obtain ⟨h1, i, z, h2, h3, h4, h5, h6, h7, h8⟩ := elemOf_spec he
 have hka := keeps_alloc w (.cells ((List.replicate c zs).flatten).toArray e)
 refine ⟨_, _, _, _, run_mk ho he (hx.val hs rfl) (hy.val hs rfl) hnc hb hc w, ?_, .v _, hr _ rfl⟩
 refine hs.add rfl hka ⟨(List.replicate n zs).flatten, ⟨flat_len n k zs h7, hc, hnc, .inr ⟨w.heap.size, _, (0, 0), rfl, heap_alloc_new w _, .inl rfl, by simpa using flat_len c k zs h7, flat_take n c k zs h7 hnc⟩⟩, hs.repsAdd rfl hka (vreps_flat n zs h8)⟩

theorem AWL.buildSliceRowS {t e : TypeId} {n k b : Nat} {zs : List Value} {parts : Array (Nat × Operand)} {ts : List T} (hg : o.guard = none) (hd : o.dst = some d) (hN : d < cx.N) (ho : o.op = .buildSlice t n parts)
    (he : elemOf cx.P t = some (e, k, b, zs)) (hk : 0 < k) (hi : idxOk 0 parts.toList = true) (hp : Evs env true (parts.toList.map (·.2)) ts) (hn : n * k ≤ 16777216) (hl : ts.length = n) (hall : (ts.all fun t => t.cellish && ((cellsT t).length == k)) = true)
    (hr : ∀ A, A.isSome = true → AWL cx ops l K ((d, true, .v (.slice A n n)) :: env) (S ++ [.row A n n e k (ts.flatMap cellsT)])) : AWL cx ops (o :: l) K env S := by
 refine AWL.eff hg hd hN fun a w hs => ?_
 obtain ⟨h1, i, z, h2, h3, h4, h5, h6, h7, h8⟩ := elemOf_spec he
 have hall' : ∀ t ∈ ts, t.cellish = true ∧ (cellsT t).length = k := fun t ht => by
  have := List.all_eq_true.1 hall t ht
  simpa using this
 have hfl : ((List.replicate n (zs.map T.v)).flatten).length = n * k := flat_len n k _ (by simpa using h7)
 have hf := fill_enum ts 0 ((List.replicate n (zs.map T.v)).flatten) hall' (by rw [hfl, hl, Nat.zero_add]; exact Nat.le_refl _)
 rw [Nat.zero_add, hl, Nat.zero_mul, List.take_zero, List.nil_append, List.drop_of_length_le (by rw [hfl]; exact Nat.le_refl _), List.append_nil] at hf
 obtain ⟨e1, e2⟩ := (evParts_enum hi hp).spec hs rfl
 have hz : VReps w (cx.X ++ M S) ((List.replicate n (zs.map T.v)).flatten) ((Array.range (n * k)).map (zs.toArray[· % zs.toArray.size]!)).toList := by rw [rep_range h7]; exact vreps_flat n zs h8
 obtain ⟨cells, c1, c2⟩ := fill_spec _ _ _ _ _ hz e1 e2 hf
 have hlen : (ts.flatMap cellsT).length = n * k := by
  rw [← hl]
  clear c2 hf hfl hl hp hall hr c1 e1 e2
  induction ts with
  | nil => simp
  | cons t r ih =>
   rw [List.flatMap_cons, List.length_append, (hall' t List.mem_cons_self).2, ih (fun t ht => hall' t (List.mem_cons_of_mem _ ht)), List.length_cons, Nat.succ_mul, Nat.add_comm]
 have hka := keeps_alloc w (.cells cells e)
 refine ⟨.slice (some ⟨w.heap.size, 0, none⟩) n n, w.alloc (.cells cells e), _, _, ?_, ?_, .v _, hr _ rfl⟩
 ·have hlim : ¬ (n * k > 2 ^ 24) := by omega
  simp only [execOp, ho, Instr.buildSlice, Sem.run_bind, run_underlying h1, Result.andThen_ok, sizeOf, typeInfo, run_program, h2, h4, Sem.run_pure]
  rw [if_neg hlim]
  have hl' : (Array.map (fun p : Nat × Operand => (p.1, a.eval p.2)) parts).toList = parts.toList.map fun p => (p.1, a.eval p.2) := by simp
  by_cases h0 : n * k = 0
  ·rw [if_pos h0]
   rw [h0, show Array.range 0 = #[] from rfl, Array.map_empty] at c1
   have hfill : Instr.fill (fun i => some (i * k, k)) ((Array.range (n * k)).map fun x => (#[] : Array Value)[x % (#[] : Array Value).size]!) (Array.map (fun p : Nat × Operand => (p.1, a.eval p.2)) parts).toList = some cells := by
    rw [h0, show Array.range 0 = #[] from rfl, Array.map_empty, hl']
    exact c1
   simp only [Sem.run_bind, Sem.run_pure, Result.andThen_ok, hfill, newRow, run_newObj]
   rfl
  rw [if_neg h0]
  have hfill : Instr.fill (fun i => some (i * k, k)) ((Array.range (n * k)).map fun x => zs.toArray[x % zs.toArray.size]!) (Array.map (fun p : Nat × Operand => (p.1, a.eval p.2)) parts).toList = some cells := by
   rw [hl']
   exact c1
  simp only [Sem.run_bind, Sem.run_pure, Result.andThen_ok, zeroValue, typeInfo, run_program, h2, h3, h6, hfill, newRow, run_newObj]
  rfl
 have hm : n ≤ maxLen := by
  unfold maxLen
  have : n ≤ n * k := Nat.le_mul_of_pos_right n hk
  omega
 refine hs.add rfl hka ⟨cells.toList, ⟨by rw [← c2.len, hlen], hm, Nat.le_refl _, .inr ⟨w.heap.size, cells, (0, 0), rfl, heap_alloc_new w _, .inl rfl, ?_, ?_⟩⟩, hs.repsAdd rfl hka c2⟩
 ·have := c2.len
  rw [hlen] at this
  simpa using this.symm
 have := c2.len
 rw [hlen] at this
 rw [this]
 exact List.take_length
end
abbrev Wd64 := BitVec 64
def zw (a : Wd64) : T := .v (.int .u64 (a.toNat : Int))
theorem wrap_u64 (z : Int) : IntKind.u64.wrap z = z % 18446744073709551616 := by
 unfold IntKind.wrap
 simp [IntKind.signed, IntKind.bits]
theorem wrap_nat (a : Wd64) : IntKind.u64.wrap (a.toNat : Int) = a.toNat := by
 rw [wrap_u64]
 have := a.isLt
 omega
theorem ofInt_word (a : Wd64) : BitVec.ofInt 64 (a.toNat : Int) = a := by
 apply BitVec.eq_of_toNat_eq
 rw [BitVec.toNat_ofInt]
 have := a.isLt
 omega
theorem bits_and (a b : Wd64) : bitsOf .and .u64 (a.toNat : Int) (b.toNat : Int) = ((a &&& b).toNat : Int) := by
 show IntKind.u64.wrap ((BitVec.ofInt 64 (a.toNat : Int) &&& BitVec.ofInt 64 (b.toNat : Int)).toNat : Int) = _
 rw [ofInt_word, ofInt_word, wrap_nat]
theorem bits_or (a b : Wd64) : bitsOf .or .u64 (a.toNat : Int) (b.toNat : Int) = ((a ||| b).toNat : Int) := by
 show IntKind.u64.wrap ((BitVec.ofInt 64 (a.toNat : Int) ||| BitVec.ofInt 64 (b.toNat : Int)).toNat : Int) = _
 rw [ofInt_word, ofInt_word, wrap_nat]
theorem bits_xor (a b : Wd64) : bitsOf .xor .u64 (a.toNat : Int) (b.toNat : Int) = ((a ^^^ b).toNat : Int) := by
 show IntKind.u64.wrap ((BitVec.ofInt 64 (a.toNat : Int) ^^^ BitVec.ofInt 64 (b.toNat : Int)).toNat : Int) = _
 rw [ofInt_word, ofInt_word, wrap_nat]
theorem bits_andNot (a b : Wd64) : bitsOf .andNot .u64 (a.toNat : Int) (b.toNat : Int) = ((a &&& ~~~b).toNat : Int) := by
 show IntKind.u64.wrap ((BitVec.ofInt 64 (a.toNat : Int) &&& ~~~BitVec.ofInt 64 (b.toNat : Int)).toNat : Int) = _
 rw [ofInt_word, ofInt_word, wrap_nat]
theorem shl_word (a : Wd64) {n : Nat} (hn : n < 64) : shlOf .u64 (a.toNat : Int) (n : Int) = ((a <<< n).toNat : Int) := by
 unfold shlOf
 rw [wrap_u64, BitVec.toNat_shiftLeft, Nat.shiftLeft_eq, show min (n : Int).toNat IntKind.u64.bits = n from by show min n 64 = n; omega, Int.natCast_emod, Int.natCast_mul, Int.natCast_pow]
 rfl
theorem shr_word (a : Wd64) {n : Nat} (hn : n < 64) : shrOf .u64 (a.toNat : Int) (n : Int) = ((a >>> n).toNat : Int) := by
 unfold shrOf
 rw [BitVec.toNat_ushiftRight, Nat.shiftRight_eq_div_pow, show min (n : Int).toNat IntKind.u64.bits = n from by show min n 64 = n; omega]
 rw [Int.fdiv_eq_ediv_of_nonneg _ (by have : (0 : Int) < 2 ^ n := Int.pow_pos (by decide); omega), Int.natCast_ediv, Int.natCast_pow]
 rfl
theorem word_inj (a b : Wd64) : decide ((a.toNat : Int) = (b.toNat : Int)) = decide (a = b) := by
 apply decide_eq_decide.2
 constructor
 ·intro h; exact BitVec.eq_of_toNat_eq (by omega)
 intro h; rw [h]
theorem word_lt (a b : Wd64) : decide ((a.toNat : Int) < (b.toNat : Int)) = decide (a < b) := by
 apply decide_eq_decide.2
 rw [BitVec.lt_def]
 omega
theorem word_le (a b : Wd64) : decide ((a.toNat : Int) ≤ (b.toNat : Int)) = decide (a ≤ b) := by
 apply decide_eq_decide.2
 rw [BitVec.le_def]
 omega
theorem add_word (a b : Wd64) : IntKind.u64.wrap ((a.toNat : Int) + (b.toNat : Int)) = ((a + b).toNat : Int) := by
 rw [wrap_u64, BitVec.toNat_add, Int.natCast_emod, Int.natCast_add]; rfl
theorem mul_word (a b : Wd64) : IntKind.u64.wrap ((a.toNat : Int) * (b.toNat : Int)) = ((a * b).toNat : Int) := by
 rw [wrap_u64, BitVec.toNat_mul, Int.natCast_emod, Int.natCast_mul]; rfl
theorem sub_word (a b : Wd64) : IntKind.u64.wrap ((a.toNat : Int) - (b.toNat : Int)) = ((a - b).toNat : Int) := by
 rw [wrap_u64, BitVec.toNat_sub]
 have := a.isLt
 have := b.isLt
 omega
section
variable {cx : Cx} {env : Env} {S : St} {o : Oper} {g : Bool} {x y z : Operand} {d : Nat}
theorem Yv.andW {ty yt : TypeId} {a b : Wd64} (ho : o.op = .binOp .and ty x y yt) (hx : Ev env g x (zw a)) (hy : Ev env g y (zw b)) : Yv cx o env S g (zw (a &&& b)) := by
 have h := Yv.bits (cx := cx) (S := S) ho rfl hx hy; rw [bits_and] at h; exact h
theorem Yv.orW {ty yt : TypeId} {a b : Wd64} (ho : o.op = .binOp .or ty x y yt) (hx : Ev env g x (zw a)) (hy : Ev env g y (zw b)) : Yv cx o env S g (zw (a ||| b)) := by
 have h := Yv.bits (cx := cx) (S := S) ho rfl hx hy; rw [bits_or] at h; exact h
theorem Yv.xorW {ty yt : TypeId} {a b : Wd64} (ho : o.op = .binOp .xor ty x y yt) (hx : Ev env g x (zw a)) (hy : Ev env g y (zw b)) : Yv cx o env S g (zw (a ^^^ b)) := by
 have h := Yv.bits (cx := cx) (S := S) ho rfl hx hy; rw [bits_xor] at h; exact h
theorem Yv.andNotW {ty yt : TypeId} {a b : Wd64} (ho : o.op = .binOp .andNot ty x y yt) (hx : Ev env g x (zw a)) (hy : Ev env g y (zw b)) : Yv cx o env S g (zw (a &&& ~~~b)) := by
 have h := Yv.bits (cx := cx) (S := S) ho rfl hx hy; rw [bits_andNot] at h; exact h
theorem Yv.shlW {ty yt : TypeId} {k : IntKind} {a : Wd64} {n : Nat} (ho : o.op = .binOp .shl ty x y yt) (hx : Ev env g x (zw a)) (hy : Ev env g y (.v (.int k (n : Int)))) (hn : n < 64) : Yv cx o env S g (zw (a <<< n)) := by
 have h := Yv.shl (cx := cx) (S := S) ho hx hy (fun _ => by omega); rw [shl_word a hn] at h; exact h
theorem Yv.shrW {ty yt : TypeId} {k : IntKind} {a : Wd64} {n : Nat} (ho : o.op = .binOp .shr ty x y yt) (hx : Ev env g x (zw a)) (hy : Ev env g y (.v (.int k (n : Int)))) (hn : n < 64) : Yv cx o env S g (zw (a >>> n)) := by
 have h := Yv.shr (cx := cx) (S := S) ho hx hy (fun _ => by omega); rw [shr_word a hn] at h; exact h
theorem Yv.eqlW {ty yt : TypeId} {a b : Wd64} (ho : o.op = .binOp .eql ty x y yt) (hx : Ev env g x (zw a)) (hy : Ev env g y (zw b)) : Yv cx o env S g (.v (.bool (decide (a = b)))) := by
 have h := Yv.eql (cx := cx) (S := S) ho hx hy; rw [word_inj] at h; exact h
theorem Yv.neqW {ty yt : TypeId} {a b : Wd64} (ho : o.op = .binOp .neq ty x y yt) (hx : Ev env g x (zw a)) (hy : Ev env g y (zw b)) : Yv cx o env S g (.v (.bool (!decide (a = b)))) := by
 have h := Yv.neq (cx := cx) (S := S) ho hx hy; rw [word_inj] at h; exact h
theorem Yv.lssW {ty yt : TypeId} {a b : Wd64} (ho : o.op = .binOp .lss ty x y yt) (hx : Ev env g x (zw a)) (hy : Ev env g y (zw b)) : Yv cx o env S g (.v (.bool (decide (a < b)))) := by
 have h := Yv.lss (cx := cx) (S := S) ho hx hy; rw [word_lt] at h; exact h
theorem Yv.leqW {ty yt : TypeId} {a b : Wd64} (ho : o.op = .binOp .leq ty x y yt) (hx : Ev env g x (zw a)) (hy : Ev env g y (zw b)) : Yv cx o env S g (.v (.bool (decide (a ≤ b)))) := by
 have h := Yv.leq (cx := cx) (S := S) ho hx hy; rw [word_le] at h; exact h
theorem Yv.gtrW {ty yt : TypeId} {a b : Wd64} (ho : o.op = .binOp .gtr ty x y yt) (hx : Ev env g x (zw a)) (hy : Ev env g y (zw b)) : Yv cx o env S g (.v (.bool (decide (b < a)))) := by
 have h := Yv.gtr (cx := cx) (S := S) ho hx hy; rw [word_lt] at h; exact h
theorem Yv.geqW {ty yt : TypeId} {a b : Wd64} (ho : o.op = .binOp .geq ty x y yt) (hx : Ev env g x (zw a)) (hy : Ev env g y (zw b)) : Yv cx o env S g (.v (.bool (decide (b ≤ a)))) := by
 have h := Yv.geq (cx := cx) (S := S) ho hx hy; rw [word_le] at h; exact h
theorem Yv.addW {ty yt : TypeId} {a b : Wd64} (ho : o.op = .binOp .add ty x y yt) (hx : Ev env g x (zw a)) (hy : Ev env g y (zw b)) : Yv cx o env S g (zw (a + b)) := by
 have h := Yv.add (cx := cx) (S := S) ho hx hy; rw [add_word] at h; exact h
theorem Yv.subW {ty yt : TypeId} {a b : Wd64} (ho : o.op = .binOp .sub ty x y yt) (hx : Ev env g x (zw a)) (hy : Ev env g y (zw b)) : Yv cx o env S g (zw (a - b)) := by
 have h := Yv.sub (cx := cx) (S := S) ho hx hy; rw [sub_word] at h; exact h
theorem Yv.mulW {ty yt : TypeId} {a b : Wd64} (ho : o.op = .binOp .mul ty x y yt) (hx : Ev env g x (zw a)) (hy : Ev env g y (zw b)) : Yv cx o env S g (zw (a * b)) := by
 have h := Yv.mul (cx := cx) (S := S) ho hx hy; rw [mul_word] at h; exact h
end
/-! ### a region that draws its order, gone through by what is done -/
section
variable {cx : Cx} {env : Env} {S : St} {ops : Array Oper} {K : Env → St → Prop}
theorem AWP.to {fuel : Nat} {listed listed' : Array Bool} {env' : Env} {S' : St} (h : AWP cx ops fuel listed' K env' S') (hl : listed = listed') (hs : S = S') (hsub : Sub env' env) : AWP cx ops fuel listed K env S := by
 subst hl; subst hs
 exact fun a w hs => h a w (hs.weaken hsub)
end
section
variable {cx : Cx} {env : Env} {S : St} {o : Oper} {x : Operand} {ops : Array Oper} {l : List Oper} {K : Env → St → Prop} {d : Nat} {t : T} {Hd : World → Prop}
theorem to' {fuel : Nat} {listed listed' : Array Bool} {env' : Env} {S' : St} (h : AWP cx ops fuel listed' K env' S') (hsub : Sub env' env) (hl : listed = listed' := by kernel_rfl) (hs : S = S' := by rfl) : AWP cx ops fuel listed K env S := AWP.to h hl hs hsub
end
section
variable {cx : Cx} {env : Env} {S : St} {o : Oper} {ops : Array Oper} {l : List Oper} {K : Env → St → Prop} {Q : Exit → Env → St → Prop}
theorem Sim.freezeRow {a : Act} {w : World} (hs : Sim cx env S a w) {i j p n c k n2 c2 k2 : Nat} {A A2 : Option Addr} {e e2 : TypeId} {cs bs : List T} (hi : S[i]? = some (.row A n c e k cs)) (hk : 0 < k) (hj : (S.eraseIdx i)[j]? = some (.row A2 n2 c2 e2 k2 bs)) (hp : bs[p]? = some (.v (.slice A n c))) :
    Sim cx env ((S.eraseIdx i).set j (.row A2 n2 c2 e2 k2 (bs.set p (.sl k cs)))) a w := by
 obtain ⟨h1, h2⟩ := hs.freeze hi hk
 obtain ⟨us, hh, hV⟩ := h1.row hj
 refine h1.setEnt hj rfl (fun _ _ _ => rfl) rfl rfl rfl rfl ⟨us, hh, ?_⟩
 obtain ⟨u, e1, e2, e3⟩ := hV.get hp
 obtain rfl := e2.v_inv
 have := hV.set p h2 e3
 have hu : us.set p (.slice A n c) = us := by
  apply List.ext_getElem?
  intro q
  rw [List.getElem?_set]
  split
  ·rename_i hq
   subst hq
   rw [e1]
   split
   ·rfl
   ·rename_i hn
    rw [List.getElem?_eq_none (by omega)] at e1
    cases e1
  ·rfl
 rwa [hu] at this
theorem AW.freezeRow {code : Code} {n c k n2 c2 k2 : Nat} {A A2 : Option Addr} {e e2 : TypeId} {cs bs : List T} (i j p : Nat) (hi : S[i]? = some (.row A n c e k cs)) (hk : 0 < k) (hj : (S.eraseIdx i)[j]? = some (.row A2 n2 c2 e2 k2 bs)) (hp : bs[p]? = some (.v (.slice A n c))) (h : AW cx code Q env ((S.eraseIdx i).set j (.row A2 n2 c2 e2 k2 (bs.set p (.sl k cs))))) : AW cx code Q env S := fun a w hs => h a w (hs.freezeRow hi hk hj hp)
end
/-! ### cells that a region does not write: their loads are taken first -/
def HeldCs (l : List (Nat × Nat × Value)) (w : World) : Prop := ∀ q ∈ l, w.cell? ⟨q.1, q.2.1, none⟩ = some q.2.2
def Pin (t : T) (u : Value) : Prop := ∀ w L v, VRep w L t v → v = u
theorem pinV {u : Value} : Pin (.v u) u := fun _ _ _ h => h.v_inv
theorem pinE {g n c off : Nat} : Pin (.ep (.slice (some ⟨g, 0, none⟩) n c) off) (.pointer (some ⟨g, off, none⟩)) := fun _ _ _ h => by
 cases h with
 | ep => rfl
def tellE (e : Ent) (q : Nat × Nat × Value) : Prop :=
 match e with
 | .box b _ cs => b = q.1 ∧ ∃ t, cs[q.2.1]? = some t ∧ Pin t q.2.2
 | .row A _ _ _ _ cs => A = some ⟨q.1, 0, none⟩ ∧ ∃ t, cs[q.2.1]? = some t ∧ Pin t q.2.2
 | _ => False
def TellsC (S : St) (l : List (Nat × Nat × Value)) : Prop := ∀ q ∈ l, ∃ e ∈ S, tellE e q
theorem tc0 {S : St} : TellsC S [] := fun _ h => by cases h
theorem tcB {S : St} {l : List (Nat × Nat × Value)} {b p : Nat} {ty : TypeId} {cs : List T} {t : T} {u : Value} (k : Nat) (hk : S[k]? = some (.box b ty cs)) (hp : cs[p]? = some t) (hu : Pin t u) (h : TellsC S l) : TellsC S ((b, p, u) :: l) := fun q hq => by
 rcases List.mem_cons.1 hq with rfl | hq
 ·exact ⟨_, List.mem_of_getElem? hk, rfl, t, hp, hu⟩
 ·exact h q hq
theorem tcR {S : St} {l : List (Nat × Nat × Value)} {g n c k p : Nat} {e : TypeId} {cs : List T} {t : T} {u : Value} (i : Nat) (hk : S[i]? = some (.row (some ⟨g, 0, none⟩) n c e k cs)) (hp : cs[p]? = some t) (hu : Pin t u) (h : TellsC S l) : TellsC S ((g, p, u) :: l) := fun q hq => by
 rcases List.mem_cons.1 hq with rfl | hq
 ·exact ⟨_, List.mem_of_getElem? hk, rfl, t, hp, hu⟩
 ·exact h q hq
section
variable {cx : Cx} {env : Env} {S : St} {o : Oper} {x : Operand} {ops : Array Oper} {K : Env → St → Prop} {Hd : World → Prop} {d : Nat}
theorem tells_cs {l : List (Nat × Nat × Value)} (h : TellsC S l) : Tells cx (HeldCs l) env S := fun a w hs q hq => by
 obtain ⟨e, he, ht⟩ := h q hq
 obtain ⟨i, hi⟩ := List.getElem?_of_mem he
 cases e with
 | box b ty cs =>
  obtain ⟨rfl, t, h1, h2⟩ := ht
  obtain ⟨us, hh, hV⟩ := hs.box hi
  obtain ⟨u, g1, g2, _⟩ := hV.get h1
  rw [cell_of_heap hh, g1, h2 _ _ _ g2]
 | row A n c e k cs =>
  obtain ⟨rfl, t, h1, h2⟩ := ht
  obtain ⟨us, hr, hV⟩ := hs.row hi
  obtain ⟨u, g1, g2, _⟩ := hV.get h1
  rw [hr.cell g1, h2 _ _ _ g2]
 | _ => exact ht.elim
theorem heldB {l : List (Nat × Nat × Value)} {b p n : Nat} {t : TypeId} {u : Value} {r : T} (j : Nat) (ho : o.op = .load t x) (h : aggSize cx.P t = some (false, n)) (hx : Ev env true x (.v (.pointer (some ⟨b, p, none⟩)))) (hu : l[j]? = some (b, p, u)) (ht : ∀ w L, VRep w L r u) :
    ∀ a w, Sim cx env S a w → ∃ u', VRep w (cx.X ++ M S) r u' ∧ ∀ w', HeldCs l w' → (execOp a.eval o).run cx.P w' = .ok (.value u') w' := fun a w hs =>
 ⟨u, ht _ _, fun w' hd => exec_load ho w' (by rw [hx.val hs rfl]; exact run_loadAt_one h w' (hd _ (List.mem_of_getElem? hu)))⟩
theorem heldE {l : List (Nat × Nat × Value)} {g m c p n : Nat} {t : TypeId} {u : Value} {r : T} (j : Nat) (ho : o.op = .load t x) (h : aggSize cx.P t = some (false, n)) (hx : Ev env true x (.ep (.slice (some ⟨g, 0, none⟩) m c) p)) (hu : l[j]? = some (g, p, u)) (ht : ∀ w L, VRep w L r u) :
    ∀ a w, Sim cx env S a w → ∃ u', VRep w (cx.X ++ M S) r u' ∧ ∀ w', HeldCs l w' → (execOp a.eval o).run cx.P w' = .ok (.value u') w' := fun a w hs =>
 ⟨u, ht _ _, fun w' hd => exec_load ho w' (by
  have hv := hx.rep hs rfl
  generalize a.eval x = v at hv
  rw [pinE _ _ _ hv]
  exact run_loadAt_one h w' (hd _ (List.mem_of_getElem? hu)))⟩
theorem AWH.tkN {fuel i : Nat} {listed : Array Bool} {t : T} (hi : ops[i]? = some o) (hs : Region.noSelect ops = true) (hf : Region.free .any ops listed i = true) (hr : (Region.ready .any ops listed).contains i = true) (hg : o.guard = none) (hd : o.dst = some d) (hN : d < cx.N)
    (hy : ∀ a w, Sim cx env S a w → ∃ u, VRep w (cx.X ++ M S) t u ∧ ∀ w', (execOp a.eval o).run cx.P w' = .ok (.value u) w') (h : AWH cx ops Hd fuel (listed.setIfInBounds i true) K ((d, true, t) :: env) S) : AWH cx ops Hd (fuel + 1) listed K env S := AWH.take hi hs hf hr hg hd hN (heldAll hy) h
theorem AWH.to {fuel : Nat} {listed listed' : Array Bool} {env' : Env} {S' : St} (h : AWH cx ops Hd fuel listed' K env' S') (hl : listed = listed') (hs : S = S') (hsub : Sub env' env) : AWH cx ops Hd fuel listed K env S := by
 subst hl; subst hs
 exact fun a w hs => h a w (hs.weaken hsub)
theorem kpH {fuel i : Nat} {listed : Array Bool} {l : List (Nat × Nat × Value)} (h1 : TellsC S l) (h : AWH cx ops (HeldCs l) fuel (listed.setIfInBounds i true) K env S) : Tells cx (HeldCs l) env S ∧ AWH cx ops (HeldCs l) fuel (listed.setIfInBounds i true) K env S := ⟨tells_cs h1, h⟩
end
section
variable {cx : Cx} {env : Env} {S : St} {ops : Array Oper} {l : List Oper} {K : Env → St → Prop} {Q : Exit → Env → St → Prop}
theorem AW.rowSome {code : Code} {n c k : Nat} {A : Option Addr} {e : TypeId} {cs : List T} (i : Nat) (hi : S[i]? = some (.row A n c e k cs)) (hn : 0 < n * k) (h : ∀ g, A = some ⟨g, 0, none⟩ → AW cx code Q env S) : AW cx code Q env S := fun a w hs => by
 obtain ⟨us, hr, hV⟩ := hs.row hi
 obtain ⟨gb, e⟩ := hr.some (by rw [hr.1]; exact hn)
 exact h gb e a w hs
theorem AWL.rowSome {n c k : Nat} {A : Option Addr} {e : TypeId} {cs : List T} (i : Nat) (hi : S[i]? = some (.row A n c e k cs)) (hn : 0 < n * k) (h : ∀ g, A = some ⟨g, 0, none⟩ → AWL cx ops l K env S) : AWL cx ops l K env S := fun a w hs => by
 obtain ⟨us, hr, hV⟩ := hs.row hi
 obtain ⟨gb, e⟩ := hr.some (by rw [hr.1]; exact hn)
 exact h gb e a w hs
theorem AWL.eqLast {n c k : Nat} {A : Option Addr} {e : TypeId} {cs cs' : List T} (h : cs = cs') (hr : AWL cx ops l K env (S ++ [.row A n c e k cs'])) : AWL cx ops l K env (S ++ [.row A n c e k cs]) := h ▸ hr
end
section
variable {cx : Cx} {env : Env} {S : St} {o : Oper} {g : Bool} {x y : Operand}
theorem Yv.nilChkEp {b n c p : Nat} (ho : o.op = .nilCheck x) (hx : Ev env g x (.ep (.slice (some ⟨b, 0, none⟩) n c) p)) : Yv cx o env S g (.ep (.slice (some ⟨b, 0, none⟩) n c) p) := fun a w hs hg => by
 have hv := hx.rep hs hg
 refine ⟨_, hv, fun w' _ => ?_⟩
 have e := pinE _ _ _ hv
 simp [execOp, ho, e, Sem.run_pure]
theorem freeNilEp {b n c p : Nat} (ho : o.op = .nilCheck x) (hx : Ev env true x (.ep (.slice (some ⟨b, 0, none⟩) n c) p)) : ∀ a w, Sim cx env S a w → ∃ u, VRep w (cx.X ++ M S) (.ep (.slice (some ⟨b, 0, none⟩) n c) p) u ∧ ∀ w', (execOp a.eval o).run cx.P w' = .ok (.value u) w' := fun a w hs => by
 have hv := hx.rep hs rfl
 refine ⟨_, hv, fun w' => ?_⟩
 have e := pinE _ _ _ hv
 simp [execOp, ho, e, Sem.run_pure]
end
theorem ACalls.le {P : Program} {f : FuncId} {ts ts' : List T} {S0 : St} {R : T → St → Prop} (h : ACalls P f ts' S0 R) (hl : Les ts ts') : ACalls P f ts S0 R :=
 fun X w args h1 h2 h3 h4 h5 => h X w args h1 h2 h3 (h4.trans hl.len) fun j t' u ht hu => by
  have hj : j < ts.length := by
   rw [hl.len]
   exact (List.getElem?_eq_some_iff.1 ht).1
  exact hl.at_ j _ _ (List.getElem?_eq_getElem hj) ht _ _ _ (h5 j _ u (List.getElem?_eq_getElem hj) hu)
section
variable {cx : Cx} {env : Env} {S : St} {o : Oper} {x : Operand} {ops : Array Oper} {l : List Oper} {K : Env → St → Prop} {d : Nat} {t : T} {Hd : World → Prop}
theorem th {fuel : Nat} {listed listed' : Array Bool} {env' : Env} {S' : St} (h : AWH cx ops Hd fuel listed' K env' S') (hsub : Sub env' env) (hl : listed = listed' := by kernel_rfl) (hs : S = S' := by rfl) : AWH cx ops Hd fuel listed K env S := AWH.to h hl hs hsub
theorem T2 {i fuel : Nat} {listed : Array Bool} (hi : ops[i]? = some o) (hy : ∀ a w, Sim cx env S a w → ∃ u, VRep w (cx.X ++ M S) t u ∧ ∀ w', Hd w' → (execOp a.eval o).run cx.P w' = .ok (.value u) w') (h : AWH cx ops Hd fuel (listed.setIfInBounds i true) K ((d, true, t) :: env) S) (hs : Region.noSelect ops = true := by kernel_rfl) (hf : Region.free .any ops listed i = true := by kernel_rfl) (hr : (Region.ready .any ops listed).contains i = true := by kernel_rfl) (hg : o.guard = none := by rfl) (hd : o.dst = some d := by rfl) (hN : d < cx.N := by exact B rfl) : AWH cx ops Hd (fuel + 1) listed K env S := AWH.take hi hs hf hr hg hd hN hy h
end
theorem simOf {P : Program} {X : List Nat} {w : World} {S0 : St} (h1 : ∀ b ∈ X, b < w.heap.size ∧ b ∉ M S0) (h2 : (M S0).Nodup) (h3 : ∀ e ∈ S0, e.holds w (X ++ M S0)) : Sim ⟨P, X, M S0, w, 0, []⟩ [] S0 { tmps := #[], defers := [] } w :=
 ⟨Keeps.refl _ _, h2, fun b hb => .inl hb, h1, h3, rfl, rfl, fun k c t hk => by simp [get] at hk⟩
theorem ACalls.frame {P : Program} {f : FuncId} {ts : List T} {S1 : St} {R : T → St → Prop} (h : ACalls P f ts S1 R) (F : St) : ACalls P f ts (S1 ++ F) (fun t S => ∃ S', R t S' ∧ S = S' ++ F) := by
 intro X w args h1 h2 h3 h4 h5
 have hs := simOf (P := P) h1 h2 h3
 obtain ⟨c1, c2, c3, c4⟩ := hs.forCall
 refine (h (X ++ M F) w args c1 c2 c3 h4 (fun j t u e1 e2 => c4 t u (h5 j t u e1 e2))).mono ?_
 rintro e w' ⟨v, t, S', rfl, hk, hnd, hfr, hent, hv, hR⟩
 have hs' := hs.called hk hnd hfr hent
 refine ⟨v, t, S' ++ F, rfl, hs'.keeps, hs'.nd, hs'.fresh, hs'.ents, ?_, S', hR, rfl⟩
 refine hv.mono (Nat.le_refl _) (fun _ _ _ => rfl) (fun b _ hm => ?_)
 rw [M_append] at hm
 simp only [List.mem_append] at hm ⊢
 rcases hm with h | h | h
 ·exact .inl (.inl h)
 ·exact .inr h
 exact .inl (.inr h)
theorem M_perm {S S' : St} (h : S.Perm S') : (M S).Perm (M S') := h.filterMap _
theorem VRep.permL {w : World} {X : List Nat} {S S' : St} {t : T} {u : Value} (h : S.Perm S') (hv : VRep w (X ++ M S) t u) : VRep w (X ++ M S') t u :=
 hv.mono (Nat.le_refl _) (fun _ _ _ => rfl) (fun b _ hm => by
  rcases List.mem_append.1 hm with q | q
  ·exact List.mem_append.2 (.inl q)
  ·exact List.mem_append.2 (.inr ((M_perm h).symm.subset q)))
theorem Ent.permL {w : World} {X : List Nat} {S S' : St} {e : Ent} (h : S.Perm S') (hv : e.holds w (X ++ M S)) : e.holds w (X ++ M S') :=
 hv.mono (Nat.le_refl _) (fun _ _ => rfl) (fun _ _ _ => rfl) (fun b _ hm => by
  rcases List.mem_append.1 hm with q | q
  ·exact List.mem_append.2 (.inl q)
  ·exact List.mem_append.2 (.inr ((M_perm h).symm.subset q)))
theorem ACalls.perm {P : Program} {f : FuncId} {ts : List T} {S0 S1 : St} {R : T → St → Prop} (h : ACalls P f ts S1 R) (hp : S0.Perm S1) : ACalls P f ts S0 R := by
 intro X w args h1 h2 h3 h4 h5
 refine (h X w args (fun b hb => ⟨(h1 b hb).1, fun q => (h1 b hb).2 ((M_perm hp).symm.subset q)⟩) ((M_perm hp).nodup_iff.1 h2) (fun e he => Ent.permL hp (h3 e (hp.symm.subset he))) h4 (fun j t u e1 e2 => VRep.permL hp (h5 j t u e1 e2))).mono ?_
 rintro e w' ⟨v, t, S', rfl, hk, hnd, hfr, hent, hv, hR⟩
 refine ⟨v, t, S', rfl, hk.mono (fun b hb _ => (M_perm hp).symm.subset hb), hnd, fun b hb => ?_, hent, hv, hR⟩
 rcases hfr b hb with q | q
 ·exact .inl ((M_perm hp).symm.subset q)
 exact .inr q
theorem ACalls.permR {P : Program} {f : FuncId} {ts : List T} {S0 : St} {R R' : T → St → Prop} (h : ACalls P f ts S0 R) (hr : ∀ t S', R t S' → ∃ S'', S''.Perm S' ∧ R' t S'') : ACalls P f ts S0 R' := fun X w args h1 h2 h3 h4 h5 =>
 (h X w args h1 h2 h3 h4 h5).mono fun e w' ⟨v, t, S', a, b, c, d, e', f', r⟩ => by
  obtain ⟨S'', hp, r'⟩ := hr t S' r
  exact ⟨v, t, S'', a, b, (M_perm hp).nodup_iff.2 c, fun b hb => d b ((M_perm hp).subset hb), fun e he => Ent.permL hp.symm (e' e (hp.subset he)), VRep.permL hp.symm f', r'⟩
theorem ACalls.lessR {P : Program} {f : FuncId} {ts : List T} {S0 : St} {R R' : T → St → Prop} (h : ACalls P f ts S0 R) (hr : ∀ t S', R t S' → ∃ S'' l, l.Sublist S' ∧ S''.Perm l ∧ R' t S'') : ACalls P f ts S0 R' :=
 (h.less (R' := fun t S => ∃ S'', S''.Perm S ∧ R' t S'') fun t S' r => by
  obtain ⟨S'', l, hs, hl, r'⟩ := hr t S' r
  exact ⟨l, hs, S'', hl, r'⟩).permR fun t S' r => r
theorem ACalls.part {P : Program} {f : FuncId} {ts : List T} {S0 S1 : St} {R R' : T → St → Prop} (F : St) (h : ACalls P f ts S1 R) (hp : S0.Perm (S1 ++ F)) (hr : ∀ t S', R t S' → ∃ S'', S''.Perm (S' ++ F) ∧ R' t S'') : ACalls P f ts S0 R' :=
 ((h.frame F).perm hp).permR fun t S' ⟨S1', r, e⟩ => by
  obtain ⟨S'', q, r'⟩ := hr t S1' r
  exact ⟨S'', e ▸ q, r'⟩
theorem ACalls.keepIn {P : Program} {f : FuncId} {ts : List T} {S0 S1 : St} {r : T} (F : St) (h : ACalls P f ts S1 (fun t S => t = r ∧ S = S1)) (hp : S0.Perm (S1 ++ F)) : ACalls P f ts S0 (fun t S => t = r ∧ S = S0) :=
 ACalls.part F h hp (fun t S' ⟨e1, e2⟩ => ⟨S0, by rw [e2]; exact hp, e1, rfl⟩)
section
variable {cx : Cx} {env : Env} {S : St} {o : Oper} {x y z : Operand} {ops : Array Oper} {l : List Oper} {K : Env → St → Prop} {d : Nat}
theorem AWL.effV (hg : o.guard = none) (hd : o.dst = none)
    (h : ∀ a w, Sim cx env S a w → ∃ u w' S', (execOp a.eval o).run cx.P w = .ok (.value u) w' ∧ Sim cx env S' a w' ∧ AWL cx ops l K env S') : AWL cx ops (o :: l) K env S := by
 intro a w hs
 unfold wpList
 rw [if_pos (wanted_none hg)]
 obtain ⟨u, w', S', h1, h2, h4⟩ := h a w hs
 refine .inl ?_
 unfold Oper.wp
 rw [h1, Oper.upon_value, hd]
 exact h4 _ _ (h2.putNone _)
theorem AWL.clearRow {t e : TypeId} {b n c i : Nat} {z0 : Value} {A : Option Addr} {cs : List T} (hg : o.guard = none) (hd : o.dst = none)
    (ho : o.op = .call { callee := .builtin .clear, args := #[x], argTypes := #[t] }) (he : elemOf cx.P t = some (e, 1, b, [z0])) (hi : S[i]? = some (.row A n c e 1 cs)) (hx : Ev env true x (.v (.slice A n c)))
    (hr : AWL cx ops l K env (S.set i (.row A n c e 1 (List.replicate n (.v z0))))) : AWL cx ops (o :: l) K env S := by
 refine AWL.effV hg hd fun a w hs => ?_
 obtain ⟨us, hrow, hV⟩ := hs.row hi
 obtain ⟨h1, i', z', h2, hz', h3, _, hzc, _, hz1⟩ := elemOf_spec he
 have hul : us.length = n := by rw [hrow.1, Nat.mul_one]
 have hcl : cs.length = n := by rw [hV.len, hul]
 have hzv : ∀ w : World, (zeroValue e).run cx.P w = .ok z' w := fun w => by simp [zeroValue, typeInfo, h2, hz', Sem.run_bind, Sem.run_pure]
 rcases Nat.eq_zero_or_pos n with h0 | h0
 ·subst h0
  have hcs : cs = [] := List.eq_nil_of_length_eq_zero hcl
  refine ⟨.tuple #[], w, S, ?_, hs, ?_⟩
  ·cases A <;> simp [execOp, ho, resolve, invoke, builtin, Sem.run_bind, Sem.run_pure, hx.val hs rfl, Builtin.clear_, run_underlying h1]
  have e1 : S.set i (.row A 0 c e 1 (List.replicate 0 (.v z0))) = S := by
   apply List.ext_getElem?
   intro q
   rw [List.getElem?_set]
   split
   ·rename_i hq
    subst hq
    rw [hi]
    have := (List.getElem?_eq_some_iff.1 hi).1
    rw [if_pos this, hcs]; rfl
   ·rfl
  rw [e1] at hr
  exact hr
 obtain ⟨gb, rfl⟩ := hrow.some (by omega)
 have hone : ∀ u ∈ List.replicate n z0, u.oneCell' = true := fun u hu => by rw [List.eq_of_mem_replicate hu]; exact hz1 z0 (by simp)
 have hv : VReps w (cx.X ++ M S) (List.replicate n (.v z0)) (List.replicate n z0) := by
  have := vreps_vals (w := w) (L := cx.X ++ M S) (List.replicate n z0) hone
  rwa [List.map_replicate] at this
 obtain ⟨hst, hrow'⟩ := hrow.write (P := cx.P) hone (p := 0) (by rw [List.length_replicate]; omega)
 have hsim := hs.wrote hi hV hv hrow'
 refine ⟨.tuple #[], w.setCells gb 0 (List.replicate n z0), _, ?_, hsim, ?_⟩
 ·have hzl : (Builtin.zeroCells z'.cells n).toList = List.replicate n z0 := by
   rw [hzc]
   simp [Builtin.zeroCells]
   apply List.ext_getElem
   ·simp
   ·intro i h1 h2
    simp [Nat.mod_one]
  obtain ⟨m, rfl⟩ : ∃ m, n = m + 1 := ⟨n - 1, by omega⟩
  simp [execOp, ho, resolve, invoke, builtin, Sem.run_bind, Sem.run_pure, hx.val hs rfl, Builtin.clear_, run_underlying h1, hzv, hzl, hst]
 rw [List.take_zero, List.nil_append, Nat.zero_add, List.drop_of_length_le (by rw [List.length_replicate]; omega), List.append_nil]
 exact hr
end
def zf (n : Nat) : T := .v (.float .f64 n)
def FOut (o : Option Nat) (r : Nat) : Prop :=
 match o with
 | some v => r = v ∧ r < 18446744073709551616
 | none => r < 18446744073709551616 ∧ Ieee.double.order r r = none
theorem nan_order (t : Nat) : (t % 2) * 2 ^ 63 + 0x7ff0000000000000 + 1 + (t / 2) % (2 ^ 52 - 1) < 18446744073709551616 ∧ Ieee.double.order ((t % 2) * 2 ^ 63 + 0x7ff0000000000000 + 1 + (t / 2) % (2 ^ 52 - 1)) ((t % 2) * 2 ^ 63 + 0x7ff0000000000000 + 1 + (t / 2) % (2 ^ 52 - 1)) = none := by
 have h1 : t / 2 % 4503599627370495 < 4503599627370495 := Nat.mod_lt _ (by decide)
 have h2 : t % 2 < 2 := Nat.mod_lt _ (by decide)
 have e1 : (2 : Nat) ^ 52 - 1 = 4503599627370495 := by decide
 have e2 : (2 : Nat) ^ 63 = 9223372036854775808 := by decide
 rw [e1, e2]
 generalize ht : t / 2 % 4503599627370495 = q at *
 generalize hb : t % 2 = b at *
 refine ⟨by omega, ?_⟩
 unfold Ieee.Format.order
 have hr : ∃ n f, Ieee.double.read (b * 9223372036854775808 + 9218868437227405312 + 1 + q) = .nan n f := by
  unfold Ieee.Format.read
  have s1 : Ieee.double.signWeight = 9223372036854775808 := by decide
  have s2 : Ieee.double.binade = 4503599627370496 := by decide
  have s3 : Ieee.double.infRung = 9218868437227405312 := by decide
  simp only [s1, s2, s3]
  have e : (b * 9223372036854775808 + 9218868437227405312 + 1 + q) % 9223372036854775808 = 9218868437227405312 + 1 + q := by omega
  rw [e, if_neg (by omega), if_neg (by omega), if_neg (by omega)]
  exact ⟨_, _, rfl⟩
 obtain ⟨n, f, hr⟩ := hr
 rw [hr]
 rfl
theorem write64 (d : Ieee.Datum) : Ieee.double.write d < 18446744073709551616 := Ieee.double.write_lt d
theorem map_write {o : Option Ieee.Datum} {v : Nat} (h : o.map Ieee.double.write = some v) : v < 18446744073709551616 := by
 cases o with
 | none => cases h
 | some d => cases h; exact write64 d
def fopF (op : BinOp) (x y : Nat) : Option Nat :=
 match op with
 | .add => Ieee.double.add x y
 | .sub => Ieee.double.sub x y
 | .mul => Ieee.double.mul x y
 | .quo => Ieee.double.div x y
 | _ => none
theorem fop_lt {op : BinOp} {x y v : Nat} (h : fopF op x y = some v) : v < 18446744073709551616 := by
 cases op <;> first | exact map_write h | cases h
section
variable {cx : Cx} {env : Env} {S : St} {o : Oper} {g : Bool} {x y z : Operand} {ops : Array Oper} {l : List Oper} {K : Env → St → Prop} {d : Nat}
theorem exec_binOp_float {ρ : Operand → Value} {P : Program} {op : BinOp} {ty yt : TypeId} {p q : Nat} (ho : o.op = .binOp op ty x y yt) (hx : ρ x = .float .f64 p) (hy : ρ y = .float .f64 q) (w : World) :
    (execOp ρ o).run P w = ((binOp op ty (.float .f64 p) (.float .f64 q)).run P w).andThen fun v w => .ok (.value v) w := by
 have h : eqGuard op ty x y (.float .f64 p) (.float .f64 q) = pure () := by
  unfold eqGuard
  split <;> rfl
 simp only [execOp, ho, hx, hy, h, Sem.run_bind, Sem.run_pure, pure_bind]
theorem floatArith_none {op : BinOp} {p q : Nat} (hop : op = .add ∨ op = .sub ∨ op = .mul ∨ op = .quo) (hf : fopF op p q = none) : Op.floatArith op .f64 p q = (choose (.nanBits .f64 p q)).bind fun b => .pure (.float .f64 b) := by
 rcases hop with rfl | rfl | rfl | rfl
 ·have h : Ieee.double.add p q = none := hf
  unfold Op.floatArith
  show (match (FloatKind.f64.format.add p q) with | some r => _ | none => _) = _
  rw [show FloatKind.f64.format.add p q = none from h]; rfl
 ·have h : Ieee.double.sub p q = none := hf
  unfold Op.floatArith
  show (match (FloatKind.f64.format.sub p q) with | some r => _ | none => _) = _
  rw [show FloatKind.f64.format.sub p q = none from h]; rfl
 ·have h : Ieee.double.mul p q = none := hf
  unfold Op.floatArith
  show (match (FloatKind.f64.format.mul p q) with | some r => _ | none => _) = _
  rw [show FloatKind.f64.format.mul p q = none from h]; rfl
 have h : Ieee.double.div p q = none := hf
 unfold Op.floatArith
 show (match (FloatKind.f64.format.div p q) with | some r => _ | none => _) = _
 rw [show FloatKind.f64.format.div p q = none from h]; rfl
theorem AWL.fArith {op : BinOp} {ty yt : TypeId} {p q : Nat} (hop : op = .add ∨ op = .sub ∨ op = .mul ∨ op = .quo) (hg : o.guard = none) (hd : o.dst = some d) (hN : d < cx.N) (ho : o.op = .binOp op ty x y yt) (hx : Ev env true x (zf p)) (hy : Ev env true y (zf q))
    (hr : ∀ r, FOut (fopF op p q) r → AWL cx ops l K ((d, true, zf r) :: env) S) : AWL cx ops (o :: l) K env S := by
 refine AWL.eff hg hd hN fun a w hs => ?_
 have hb : (binOp op ty (.float .f64 p) (.float .f64 q)) = Op.floatArith op .f64 p q := by
  rcases hop with rfl | rfl | rfl | rfl <;> rfl
 have hrun := exec_binOp_float (P := cx.P) ho (hx.val hs rfl) (hy.val hs rfl) w
 cases hf : fopF op p q with
 | some v =>
  refine ⟨.float .f64 v, w, zf v, S, ?_, hs, .v _, hr v (by rw [hf]; exact ⟨rfl, fop_lt hf⟩)⟩
  rw [hrun, run_float_arith w op ty .f64 p q v (by rcases hop with rfl | rfl | rfl | rfl <;> exact hf)]
  rfl
 | none =>
  have hk : Keeps [] w w.drew := Keeps.drew [] w
  refine ⟨.float .f64 ((Question.nanBits .f64 p q).cut (w.tape w.drawn (.nanBits .f64 p q))), w.drew, zf _, S, ?_, hs.more hk, .v _, hr _ (by rw [hf]; exact nan_order _)⟩
  rw [hrun, hb, floatArith_none hop hf]
  rfl
theorem Yv.fEql {ty yt : TypeId} {p q : Nat} (ho : o.op = .binOp .eql ty x y yt) (hx : Ev env g x (zf p)) (hy : Ev env g y (zf q)) : Yv cx o env S g (.v (.bool (Ieee.double.order p q == some .eq))) :=
 Yv.plain fun a w hs hg w' => by rw [exec_binOp_float ho (hx.val hs hg) (hy.val hs hg)]; simp [binOp_float_cmp_eql, Sem.run_pure]; rfl
theorem Yv.fNeq {ty yt : TypeId} {p q : Nat} (ho : o.op = .binOp .neq ty x y yt) (hx : Ev env g x (zf p)) (hy : Ev env g y (zf q)) : Yv cx o env S g (.v (.bool (Ieee.double.order p q != some .eq))) :=
 Yv.plain fun a w hs hg w' => by rw [exec_binOp_float ho (hx.val hs hg) (hy.val hs hg)]; simp [binOp_float_cmp_neq, Sem.run_pure]; rfl
theorem Yv.fLss {ty yt : TypeId} {p q : Nat} (ho : o.op = .binOp .lss ty x y yt) (hx : Ev env g x (zf p)) (hy : Ev env g y (zf q)) : Yv cx o env S g (.v (.bool (Ieee.double.order p q == some .lt))) :=
 Yv.plain fun a w hs hg w' => by rw [exec_binOp_float ho (hx.val hs hg) (hy.val hs hg)]; simp [binOp_float_cmp_lss, Sem.run_pure]; rfl
theorem Yv.fLeq {ty yt : TypeId} {p q : Nat} (ho : o.op = .binOp .leq ty x y yt) (hx : Ev env g x (zf p)) (hy : Ev env g y (zf q)) : Yv cx o env S g (.v (.bool (Ieee.double.order p q == some .lt || Ieee.double.order p q == some .eq))) :=
 Yv.plain fun a w hs hg w' => by rw [exec_binOp_float ho (hx.val hs hg) (hy.val hs hg)]; simp [binOp_float_cmp_leq, Sem.run_pure]; rfl
theorem Yv.convIF {src dst : TypeId} {k : IntKind} {p : Int} (ho : o.op = .convert src dst x) (hs' : (cx.P.underlying src).isSome = true) (hd' : cx.P.underlying dst = some (.float .f64)) (hx : Ev env g x (.v (.int k p))) : Yv cx o env S g (zf (floatOfInt .f64 p)) :=
 Yv.plain fun a w hs hg w' => by
  simp only [execOp, ho, hx.val hs hg, Sem.run_bind, run_convert_int_float w' src dst k .f64 p hs' hd', Result.andThen_ok, Sem.run_pure]
theorem Yv.fromBits {f : FuncId} {fn : Func} {xf : Operand} {ats : Array TypeId} {a : Wd64} (hf : cx.P.funcs[f]? = some fn) (hn : (fn.name == "runtime.NumGoroutine") = false) (hb : fn.body.isNone = true) (h1 : Extern.findNext fn = none) (h2 : Extern.find fn = some Extern.MathFloatBits.float64frombits)
    (ho : o.op = .call { callee := .value xf, args := #[x], argTypes := ats }) (hxf : Ev env g xf (.v (.func (.func f) #[] #[]))) (hx : Ev env g x (zw a)) : Yv cx o env S g (zf a.toNat) := by
 refine Yv.extern ho hxf fun ac w hs hg w' => ?_
 have e := hx.val hs hg
 rw [run_callFunc_extern hf hn hb h1 h2]
 have : (#[] ++ #[x].map ac.eval ++ #[] : Array Value) = #[.int .u64 (a.toNat : Int)] := by simp [e]
 rw [this]
 rw [show Extern.MathFloatBits.float64frombits #[.int .u64 (a.toNat : Int)] = pure (.float .f64 a.toNat) from rfl]
 rfl
theorem Yv.toBits {f : FuncId} {fn : Func} {xf : Operand} {ats : Array TypeId} {r : Nat} (hf : cx.P.funcs[f]? = some fn) (hn : (fn.name == "runtime.NumGoroutine") = false) (hb : fn.body.isNone = true) (h1 : Extern.findNext fn = none) (h2 : Extern.find fn = some Extern.MathFloatBits.float64bits)
    (ho : o.op = .call { callee := .value xf, args := #[x], argTypes := ats }) (hxf : Ev env g xf (.v (.func (.func f) #[] #[]))) (hx : Ev env g x (zf r)) (hr : r < 18446744073709551616) : Yv cx o env S g (zw (BitVec.ofNat 64 r)) := by
 have e0 : zw (BitVec.ofNat 64 r) = .v (.int .u64 (r : Int)) := by
  unfold zw
  rw [BitVec.toNat_ofNat, Nat.mod_eq_of_lt hr]
 rw [e0]
 refine Yv.extern ho hxf fun ac w hs hg w' => ?_
 have e := hx.val hs hg
 rw [run_callFunc_extern hf hn hb h1 h2]
 have : (#[] ++ #[x].map ac.eval ++ #[] : Array Value) = #[.float .f64 r] := by simp [e]
 rw [this]
 rw [show Extern.MathFloatBits.float64bits #[.float .f64 r] = pure (.int .u64 r) from rfl]
 rfl
end
def frF (o : Option Nat) : Wd64 :=
 match o with
 | some r => if (Ieee.double.order r r != some .eq) = true then 9221120237041090560#64 else BitVec.ofNat 64 r
 | none => 9221120237041090560#64
theorem fr_nan {o : Option Nat} {r : Nat} (h : FOut o r) (hn : (Ieee.double.order r r != some .eq) = true) : frF o = 9221120237041090560#64 := by
 cases o with
 | none => rfl
 | some v =>
  obtain ⟨rfl, _⟩ := h
  rw [frF, if_pos hn]
theorem fr_num {o : Option Nat} {r : Nat} (h : FOut o r) (hn : (Ieee.double.order r r != some .eq) = false) : frF o = BitVec.ofNat 64 r := by
 cases o with
 | none =>
  rw [h.2] at hn
  cases hn
 | some v =>
  obtain ⟨rfl, _⟩ := h
  rw [frF, if_neg (by rw [hn]; decide)]
theorem FOut.lt {o : Option Nat} {r : Nat} (h : FOut o r) : r < 18446744073709551616 := by
 cases o with
 | none => exact h.1
 | some v => exact h.2
abbrev Gh := Option Addr × Nat
structure FKey where
 c : Nat
 u1 : List Nat
 e1 : List Gh → Ent
 s : Nat
 u2 : List Nat
 e2 : List Gh → Ent
structure FOp where
 i : Nat
 d : Option Nat
 deps : List Nat
 us : List Nat
 t : List Gh → T
 inv : Gh → Prop
instance : Inhabited FOp := ⟨⟨0, none, [], [], fun _ => .v (.bool false), fun _ => True⟩⟩
def updG (γ : Nat → Gh) (i : Nat) (g : Gh) : Nat → Gh := fun j => if j = i then g else γ j
theorem updG_map {γ : Nat → Gh} {i : Nat} {g : Gh} : ∀ {l : List Nat}, i ∉ l → l.map (updG γ i g) = l.map γ
 | [], _ => rfl
 | a :: l, h => by
  rw [List.map_cons, List.map_cons, updG_map (fun q => h (List.mem_cons_of_mem _ q)), updG, if_neg (fun e => h (by rw [e]; exact List.mem_cons_self))]
def curK (dn : Nat → Bool) (γ : Nat → Gh) (k : FKey) : St := bif dn k.s then [k.e2 (k.u2.map γ)] else bif dn k.c then [k.e1 (k.u1.map γ)] else []
def preK (γ : Nat → Gh) (i : Nat) : List FKey → St
 | [] => []
 | k :: r => bif Nat.beq k.s i then k.e1 (k.u1.map γ) :: preK γ i r else preK γ i r
def postK (γ : Nat → Gh) (i : Nat) : List FKey → St
 | [] => []
 | k :: r => bif Nat.beq k.s i then k.e2 (k.u2.map γ) :: postK γ i r else bif Nat.beq k.c i then k.e1 (k.u1.map γ) :: postK γ i r else postK γ i r
theorem beqF {a b : Nat} (h : a ≠ b) : Nat.beq a b = false := by
 cases hb : Nat.beq a b with
 | false => rfl
 | true => exact absurd (Nat.eq_of_beq_eq_true hb) h
theorem cur_step {γ γ' : Nat → Gh} {dn dn' : Nat → Bool} {i : Nat} (hd : ∀ j, dn' j = (dn j || Nat.beq i j)) (hi : dn i = false) : ∀ (ks : List FKey), (∀ k ∈ ks, (k.s = i → dn k.c = true) ∧ (dn k.s = true → dn k.c = true) ∧ (dn k.c = true → k.u1.map γ' = k.u1.map γ) ∧ (dn k.s = true → k.u2.map γ' = k.u2.map γ)) →
    ∃ X, (ks.flatMap (curK dn γ)).Perm (preK γ i ks ++ X) ∧ (ks.flatMap (curK dn' γ')).Perm (postK γ' i ks ++ X)
 | [], _ => ⟨[], .refl _, .refl _⟩
 | k :: r, h => by
  obtain ⟨X, p1, p2⟩ := cur_step (γ := γ) (γ' := γ') hd hi r (fun q hq => h q (List.mem_cons_of_mem _ hq))
  obtain ⟨h1, h2, h3, h4⟩ := h k List.mem_cons_self
  rw [List.flatMap_cons, List.flatMap_cons, preK, postK]
  by_cases hs : k.s = i
  ·have hc := h1 hs
   have e1 : curK dn γ k = [k.e1 (k.u1.map γ)] := by unfold curK; rw [hs, hi, hc]; rfl
   have e2 : curK dn' γ' k = [k.e2 (k.u2.map γ')] := by unfold curK; rw [hd, hs, Nat.beq_refl, Bool.or_true]; rfl
   rw [e1, e2, hs, Nat.beq_refl]
   exact ⟨X, p1.cons _, p2.cons _⟩
  ·have es : dn' k.s = dn k.s := by rw [hd, beqF (fun e => hs e.symm), Bool.or_false]
   rw [beqF hs]
   by_cases hc : k.c = i
   ·have hcf : dn k.c = false := by rw [hc]; exact hi
    have hsf : dn k.s = false := by
     cases q : dn k.s with
     | false => rfl
     | true => rw [h2 q] at hcf; cases hcf
    have e1 : curK dn γ k = [] := by unfold curK; rw [hsf, hcf]; rfl
    have e2 : curK dn' γ' k = [k.e1 (k.u1.map γ')] := by unfold curK; rw [es, hsf, hd, hc, Nat.beq_refl, Bool.or_true]; rfl
    rw [e1, e2, hc, Nat.beq_refl]
    exact ⟨X, p1, p2.cons _⟩
   ·have ec : dn' k.c = dn k.c := by rw [hd, beqF (fun e => hc e.symm), Bool.or_false]
    have e2 : curK dn' γ' k = curK dn γ k := by
     unfold curK
     rw [es, ec]
     cases q : dn k.s with
     | true => exact congrArg (fun z => [k.e2 z]) (h4 q)
     | false =>
      cases q' : dn k.c with
      | true => exact congrArg (fun z => [k.e1 z]) (h3 q')
      | false => rfl
    rw [e2, beqF hc]
    exact ⟨curK dn γ k ++ X, ((p1.append_left _).trans (List.perm_append_comm_assoc _ _ _)), ((p2.append_left _).trans (List.perm_append_comm_assoc _ _ _))⟩
def dnF : List FOp → List Bool → Nat → Bool
 | f :: F, b :: M, j => (b && Nat.beq f.i j) || dnF F M j
 | _, _, _ => false
def lstF : List FOp → List Bool → Array Bool → Array Bool
 | f :: F, b :: M, L => lstF F M (bif b then L.setIfInBounds f.i true else L)
 | _, _, L => L
theorem dnF_set : ∀ {F : List FOp} {M : List Bool} {p : Nat} {j : Nat}, M.length = F.length → p < F.length → dnF F (M.set p true) j = (dnF F M j || Nat.beq (F.getD p default).i j)
 | [], _, _, _, _, hp => absurd hp (Nat.not_lt_zero _)
 | f :: F, [], _, _, h, _ => by cases h
 | f :: F, b :: M, 0, j, h, hp => by
  show ((true && Nat.beq f.i j) || dnF F M j) = (((b && Nat.beq f.i j) || dnF F M j) || Nat.beq f.i j)
  cases b <;> cases Nat.beq f.i j <;> cases dnF F M j <;> rfl
 | f :: F, b :: M, p + 1, j, h, hp => by
  show ((b && Nat.beq f.i j) || dnF F (M.set p true) j) = (((b && Nat.beq f.i j) || dnF F M j) || Nat.beq (F.getD p default).i j)
  rw [dnF_set (Nat.succ.inj h) (Nat.lt_of_succ_lt_succ hp), Bool.or_assoc]
def dclB (F : List FOp) (ks : List FKey) (M : List Bool) : Bool :=
 F.all (fun f => !dnF F M f.i || (f.deps.all (dnF F M) && f.us.all (dnF F M))) && ks.all (fun k => (!dnF F M k.c || k.u1.all (dnF F M)) && (!dnF F M k.s || (dnF F M k.c && k.u2.all (dnF F M))))
def chkAt (ops : Array Oper) (F : List FOp) (ks : List FKey) (L0 L1 : Array Bool) (M : List Bool) : Bool :=
 !dclB F ks M || (bif M.all id then (lstF F M L0).toList == L1.toList else
  let r := Region.ready .any ops (lstF F M L0)
  !r.isEmpty && r.all (fun i => (List.range F.length).any (fun p => Nat.beq (F.getD p default).i i && !dnF F M i && (F.getD p default).deps.all (dnF F M) && ks.all (fun k => !Nat.beq k.s i || dnF F M k.c) && dclB F ks (M.set p true) && ((lstF F (M.set p true) L0).toList == ((lstF F M L0).setIfInBounds i true).toList) && !M.getD p true)))
def masks : Nat → List (List Bool)
 | 0 => [[]]
 | n + 1 => (masks n).flatMap fun m => [false :: m, true :: m]
theorem mem_masks : ∀ (m : List Bool), m ∈ masks m.length
 | [] => List.mem_singleton.2 rfl
 | b :: m => by
  rw [List.length_cons, masks, List.mem_flatMap]
  exact ⟨m, mem_masks m, by cases b <;> simp⟩
def opQ (F : List FOp) (j : Nat) : FOp := (F.find? (fun f => Nat.beq f.i j)).getD default
def envF (F : List FOp) (γ : Nat → Gh) : List Nat → Env
 | [] => []
 | j :: r => match (opQ F j).d with
  | some d => (d, true, (opQ F j).t ((opQ F j).us.map γ)) :: envF F γ r
  | none => envF F γ r
def postF (ks : List FKey) (f : FOp) (γ : Nat → Gh) (env : Env) (S : St) (env' : Env) (S' : St) : Prop :=
 ∃ g, f.inv g ∧ env' = (match f.d with | some d => (d, true, f.t (f.us.map (updG γ f.i g))) :: env | none => env) ∧ S'.Perm (postK (updG γ f.i g) f.i ks ++ S)
def ObF (cx : Cx) (ops : Array Oper) (F : List FOp) (ks : List FKey) (env0 : Env) (base : St) (f : FOp) (o : Oper) : Prop :=
 ∀ γ env X, Sub (envF F γ f.deps ++ env0) env → (∀ j ∈ f.deps, (opQ F j).inv (γ j)) → AWL cx ops [o] (postF ks f γ env (base ++ X)) env (preK γ f.i ks ++ (base ++ X))
def ObsF (cx : Cx) (ops : Array Oper) (F : List FOp) (ks : List FKey) (env0 : Env) (base : St) : List FOp → Prop
 | [] => True
 | f :: r => (∃ o, ops[f.i]? = some o ∧ ObF cx ops F ks env0 base f o) ∧ ObsF cx ops F ks env0 base r
section
variable {cx : Cx} {env env0 : Env} {S base : St} {ops : Array Oper} {K : Env → St → Prop} {F : List FOp} {ks : List FKey}
theorem obC {f : FOp} {o : Oper} {r : List FOp} (h : ops[f.i]? = some o) (ho : ObF cx ops F ks env0 base f o) (hr : ObsF cx ops F ks env0 base r) : ObsF cx ops F ks env0 base (f :: r) := ⟨⟨o, h, ho⟩, hr⟩
theorem ObsF.mem {f : FOp} : ∀ {l : List FOp}, ObsF cx ops F ks env0 base l → f ∈ l → ∃ o, ops[f.i]? = some o ∧ ObF cx ops F ks env0 base f o
 | [], _, h => by cases h
 | a :: l, h, hm => by
  rcases List.mem_cons.1 hm with rfl | hm
  ·exact h.1
  ·exact ObsF.mem h.2 hm
theorem get_app {A B : Env} : ∀ {A : Env} {k : Nat} {q : Bool × T}, get k (A ++ B) = some q → get k A = some q ∨ get k B = some q
 | [], _, _, h => .inr h
 | (j, c, t) :: A, k, q, h => by
  rw [List.cons_append, get_cons] at h
  rw [get_cons]
  split at h
  ·rename_i e; left; rw [if_pos e]; exact h
  ·rename_i e; rw [if_neg e]; exact get_app (A := A) h
theorem get_mem : ∀ {A : Env} {k : Nat} {c : Bool} {t : T}, get k A = some (c, t) → (k, c, t) ∈ A
 | [], _, _, _, h => by cases h
 | (j, c', t') :: A, k, c, t, h => by
  rw [get_cons] at h
  split at h
  ·rename_i e; subst e; simp only [Option.some.injEq, Prod.mk.injEq] at h; obtain ⟨rfl, rfl⟩ := h; exact List.mem_cons_self
  ·exact List.mem_cons_of_mem _ (get_mem h)
theorem Sub.app {A B : Env} (hA : ∀ k c t, (k, c, t) ∈ A → get k env = some (c, t)) (hB : Sub B env) : Sub (A ++ B) env := fun k c t h => by
 rcases get_app (B := B) (A := A) h with h | h
 ·exact hA _ _ _ (get_mem h)
 ·exact hB _ _ _ h
theorem envF_mem {γ : Nat → Gh} {k : Nat} {c : Bool} {t : T} : ∀ {l : List Nat}, (k, c, t) ∈ envF F γ l → ∃ j ∈ l, (opQ F j).d = some k ∧ c = true ∧ t = (opQ F j).t ((opQ F j).us.map γ)
 | [], h => by cases h
 | j :: l, h => by
  rw [envF] at h
  split at h
  ·rename_i d hd
   rcases List.mem_cons.1 h with h | h
   ·simp only [Prod.mk.injEq] at h
    obtain ⟨rfl, rfl, rfl⟩ := h
    exact ⟨j, List.mem_cons_self, hd, rfl, rfl⟩
   ·obtain ⟨i, h1, h2⟩ := envF_mem h
    exact ⟨i, List.mem_cons_of_mem _ h1, h2⟩
  ·obtain ⟨i, h1, h2⟩ := envF_mem h
   exact ⟨i, List.mem_cons_of_mem _ h1, h2⟩
theorem dnF_mem {j : Nat} : ∀ {F : List FOp} {M : List Bool}, dnF F M j = true → ∃ f ∈ F, f.i = j
 | [], _, h => by cases h
 | f :: F, [], h => by cases h
 | f :: F, b :: M, h => by
  rw [dnF, Bool.or_eq_true, Bool.and_eq_true] at h
  rcases h with h | h
  ·exact ⟨f, List.mem_cons_self, Nat.eq_of_beq_eq_true h.2⟩
  ·obtain ⟨q, h1, h2⟩ := dnF_mem h
   exact ⟨q, List.mem_cons_of_mem _ h1, h2⟩
theorem opF_spec {j : Nat} : ∀ {F : List FOp}, (∃ f ∈ F, f.i = j) → opQ F j ∈ F ∧ (opQ F j).i = j
 | [], h => by obtain ⟨f, h, _⟩ := h; cases h
 | f :: F, h => by
  unfold opQ
  rw [List.find?_cons]
  by_cases e : f.i = j
  ·rw [e, Nat.beq_refl]
   exact ⟨List.mem_cons_self, e⟩
  ·rw [beqF e]
   obtain ⟨q, h1, h2⟩ := h
   rcases List.mem_cons.1 h1 with rfl | h1
   ·exact absurd h2 e
   ·obtain ⟨a, b⟩ := opF_spec ⟨q, h1, h2⟩
    exact ⟨List.mem_cons_of_mem _ a, b⟩
structure InvF (F : List FOp) (ks : List FKey) (env0 : Env) (base : St) (M : List Bool) (env : Env) (S : St) : Prop where
 out : ∃ γ : Nat → Gh, Sub env0 env ∧ (∀ f ∈ F, dnF F M f.i = true → f.inv (γ f.i) ∧ ∀ d, f.d = some d → get d env = some (true, f.t (f.us.map γ))) ∧ S.Perm (base ++ ks.flatMap (curK (dnF F M) γ))
theorem getD_at {l : List FOp} {p : Nat} (h : p < l.length) : l.getD p default = l[p] := by rw [List.getD_eq_getElem?_getD, List.getElem?_eq_getElem h]; rfl
theorem getD_inF {l : List FOp} {p : Nat} (h : p < l.length) : l.getD p default ∈ l := by rw [getD_at h]; exact List.getElem_mem h
theorem cnt_false : ∀ {F : List FOp}, (F.map fun _ => false).count false = F.length
 | [] => rfl
 | f :: F => by rw [List.map_cons, List.count_cons_self, cnt_false, List.length_cons]
theorem get_other {k d : Nat} {q : Bool × T} {c : Bool} {t : T} (hk : k ≠ d) (h : get k env = some q) : get k ((d, c, t) :: env) = some q := by rw [get_cons, if_neg hk]; exact h
theorem cnt_all : ∀ {M : List Bool}, M.count false = 0 → M.all id = true
 | [], _ => rfl
 | true :: M, h => by
  rw [List.all_cons]
  simpa using cnt_all (M := M) (by simpa using h)
 | false :: M, h => by simp at h
theorem cnt_some : ∀ {M : List Bool}, M.count false ≠ 0 → M.all id = false
 | [], h => absurd rfl h
 | true :: M, h => by
  rw [List.all_cons]
  simpa using cnt_some (M := M) (by simpa using h)
 | false :: M, _ => rfl
theorem cnt_set : ∀ {M : List Bool} {p n : Nat}, M.count false = n + 1 → M.getD p true = false → (M.set p true).count false = n
 | [], _, _, h, _ => by simp at h
 | b :: M, 0, n, h, hp => by
  obtain rfl : b = false := hp
  rw [List.set_cons_zero]
  simpa using h
 | b :: M, p + 1, n, h, hp => by
  rw [List.set_cons_succ]
  have hp' : M.getD p true = false := hp
  cases b with
  | false =>
   rw [List.count_cons_self] at h ⊢
   cases n with
   | zero =>
    have h0 : M.count false = 0 := by omega
    exfalso
    have : ∀ {M : List Bool} {p : Nat}, M.count false = 0 → M.getD p true = false → False := by
     intro M
     induction M with
     | nil => intro p _ h2; simp at h2
     | cons a M ih =>
      intro p h1 h2
      cases a with
      | false => simp at h1
      | true =>
       cases p with
       | zero => cases h2
       | succ p => exact ih (by simpa using h1) h2
    exact this h0 hp'
   | succ n =>
    have := cnt_set (n := n) (M := M) (by omega) hp'
    omega
  | true =>
   rw [List.count_cons_of_ne (by decide)] at h ⊢
   exact cnt_set h hp'
theorem tells_app {l : List (Nat × Nat × Value)} {S' : St} (h : TellsC S l) (hs : ∀ e ∈ S, e ∈ S') : TellsC S' l := fun q hq => (h q hq).imp fun e he => ⟨hs e he.1, he.2⟩
theorem AWH.free_ {l : List (Nat × Nat × Value)} {L0 L1 : Array Bool} {fuel' : Nat} (hdd : ∀ f ∈ F, ∀ g ∈ F, ∀ d, f.d = some d → g.d = some d → f.i = g.i) (hii : ∀ f ∈ F, ∀ g ∈ F, f.i = g.i → f = g) (he0 : ∀ f ∈ F, ∀ d, f.d = some d → get d env0 = none)
    (hchk : ∀ M : List Bool, M.length = F.length → chkAt ops F ks L0 L1 M = true) (hT : TellsC base l) (hob : ObsF cx ops F ks env0 base F)
    (hend : ∀ γ, (∀ f ∈ F, f.inv (γ f.i)) → ∀ env S, Sub env0 env → (∀ f ∈ F, ∀ d, f.d = some d → get d env = some (true, f.t (f.us.map γ))) → S.Perm (base ++ ks.flatMap (curK (dnF F (F.map fun _ => true)) γ)) → AWH cx ops (HeldCs l) fuel' L1 K env S) :
    ∀ n (M : List Bool) env S, M.length = F.length → M.count false = n → dclB F ks M = true → InvF F ks env0 base M env S → AWH cx ops (HeldCs l) (fuel' + n) (lstF F M L0) K env S
 | 0, M, env, S, hl, hc, hdc, hin => by
  obtain ⟨γ, h1, h2, h3⟩ := hin.out
  have hall := cnt_all hc
  have hck := hchk M hl
  unfold chkAt at hck
  rw [hdc, hall] at hck
  have e : lstF F M L0 = L1 := by
   have : (lstF F M L0).toList = L1.toList := by simpa using hck
   exact Array.ext' this
  rw [e]
  have hM : M = F.map fun _ => true := by
   apply List.ext_getElem (by simpa using hl)
   intro j a b
   rw [List.getElem_map]
   exact List.all_eq_true.1 hall _ (List.getElem_mem a)
  have hdn : ∀ {F : List FOp} {f : FOp}, f ∈ F → dnF F (F.map fun _ => true) f.i = true := by
   intro F
   induction F with
   | nil => intro f h; cases h
   | cons a F ih =>
    intro f h
    rw [List.map_cons, dnF]
    rcases List.mem_cons.1 h with rfl | h
    ·rw [Nat.beq_refl]; rfl
    ·rw [ih h, Bool.or_true]
  refine hend γ (fun f hf => (h2 f hf (by rw [hM]; exact hdn hf)).1) env S h1 (fun f hf => (h2 f hf (by rw [hM]; exact hdn hf)).2) ?_
  rw [← hM]; exact h3
 | n + 1, M, env, S, hl, hc, hdc, hin => by
  obtain ⟨γ, h1, h2, h3⟩ := hin.out
  have hall := cnt_some (M := M) (by omega)
  have hck := hchk M hl
  unfold chkAt at hck
  rw [hdc, hall] at hck
  simp only [Bool.not_true, Bool.false_or, cond_false, Bool.and_eq_true, List.all_eq_true, List.any_eq_true, List.mem_range] at hck
  obtain ⟨hne, hr⟩ := hck
  intro a w hs hd
  refine wpAnyH_all rfl (by intro e; rw [e] at hne; cases hne) fun i hi => ?_
  obtain ⟨p, hp, ⟨⟨⟨⟨⟨⟨q1, q2⟩, q3⟩, q4⟩, q5⟩, q6⟩, q7⟩⟩ := hr i hi
  have hfm : F.getD p default ∈ F := getD_inF hp
  obtain rfl : (F.getD p default).i = i := Nat.eq_of_beq_eq_true q1
  generalize hf : F.getD p default = f at *
  have hdi : dnF F M f.i = false := by simpa using q2
  obtain ⟨o, ho, hO⟩ := hob.mem hfm
  have hdcl := hdc
  unfold dclB at hdcl
  simp only [Bool.and_eq_true, List.all_eq_true, Bool.or_eq_true, Bool.not_eq_true'] at hdcl
  obtain ⟨dF, dK⟩ := hdcl
  have hdep : ∀ j ∈ f.deps, dnF F M j = true := q3
  have hsub : Sub (envF F γ f.deps ++ env0) env := Sub.app (fun k c t hm => by
   obtain ⟨j, hj, e1, e2, e3⟩ := envF_mem hm
   obtain ⟨m1, m2⟩ := opF_spec (dnF_mem (hdep j hj))
   subst e2; subst e3
   exact (h2 _ m1 (by rw [m2]; exact hdep j hj)).2 k e1) h1
  have hinv : ∀ j ∈ f.deps, (opQ F j).inv (γ j) := fun j hj => by
   obtain ⟨m1, m2⟩ := opF_spec (dnF_mem (hdep j hj))
   have := (h2 _ m1 (by rw [m2]; exact hdep j hj)).1
   rw [m2] at this; exact this
  have hdd' : ∀ j, dnF F (M.set p true) j = (dnF F M j || Nat.beq f.i j) := fun j => by rw [dnF_set hl hp, hf]
  have hnot : ∀ {us : List Nat}, (∀ j ∈ us, dnF F M j = true) → f.i ∉ us := fun h hm => by rw [h _ hm] at hdi; cases hdi
  have hkey : ∀ g, ∀ k ∈ ks, (k.s = f.i → dnF F M k.c = true) ∧ (dnF F M k.s = true → dnF F M k.c = true) ∧ (dnF F M k.c = true → k.u1.map (updG γ f.i g) = k.u1.map γ) ∧ (dnF F M k.s = true → k.u2.map (updG γ f.i g) = k.u2.map γ) := fun g k hk => by
   obtain ⟨d1, d2⟩ := dK k hk
   refine ⟨fun e => ?_, fun e => ?_, fun e => ?_, fun e => ?_⟩
   ·have := q4 k hk
    rw [e, Nat.beq_refl] at this
    simpa using this
   ·rcases d2 with d2 | d2
    ·rw [e] at d2; cases d2
    ·exact d2.1
   ·rcases d1 with d1 | d1
    ·rw [e] at d1; cases d1
    ·exact updG_map (hnot d1)
   ·rcases d2 with d2 | d2
    ·rw [e] at d2; cases d2
    ·exact updG_map (hnot d2.2)
  obtain ⟨X0, p1, _⟩ := cur_step (γ := γ) (γ' := γ) hdd' hdi ks (fun k hk => by
   obtain ⟨a1, a2, _, _⟩ := hkey (γ f.i) k hk
   exact ⟨a1, a2, fun _ => rfl, fun _ => rfl⟩)
  have hSp : (preK γ f.i ks ++ (base ++ X0)).Perm S := ((List.perm_append_comm_assoc _ _ _).trans ((p1.symm.append_left base).trans h3.symm))
  have hA := AWL.perm hSp (hO γ env X0 hsub hinv)
  refine wpOp_of_AWL ho hA (fun env' S' a' w' hq hs' => ?_) hs
  obtain ⟨g, hg, henv, hS'⟩ := hq
  obtain ⟨X1, r1, r2⟩ := cur_step (γ := γ) (γ' := updG γ f.i g) hdd' hdi ks (hkey g)
  have hX : X0.Perm X1 := (List.perm_append_left_iff _).1 (p1.symm.trans r1)
  have hT' : Tells cx (HeldCs l) env' S' := tells_cs (tells_app hT (fun e he => hS'.mem_iff.2 (List.mem_append.2 (.inr (List.mem_append.2 (.inl he))))))
  refine ⟨hT' a' w' hs', ?_⟩
  have e6 : (lstF F M L0).setIfInBounds f.i true = lstF F (M.set p true) L0 := Array.ext' (by simpa using (eq_of_beq q6).symm)
  rw [e6]
  refine AWH.free_ hdd hii he0 hchk hT hob hend n (M.set p true) env' S' (by rw [List.length_set]; exact hl) (cnt_set hc (by simpa using q7)) q5 ⟨updG γ f.i g, ?_, ?_, ?_⟩ a' w' hs' (hT' a' w' hs')
  ·cases hfd : f.d with
   | none => rw [hfd] at henv; rw [henv]; exact h1
   | some d =>
    rw [hfd] at henv
    rw [henv]
    intro k c t hk
    refine get_other (fun e => ?_) (h1 k c t hk)
    subst e
    rw [he0 f hfm _ hfd] at hk
    cases hk
  ·intro f2 hf2 hdn
   rw [hdd', Bool.or_eq_true] at hdn
   by_cases hfi : f2.i = f.i
   ·obtain rfl := hii _ hf2 _ hfm hfi
    refine ⟨by rw [updG, if_pos rfl]; exact hg, fun d hd => ?_⟩
    rw [hd] at henv
    rw [henv, get_cons, if_pos rfl]
   ·have hold : dnF F M f2.i = true := by
     rcases hdn with h | h
     ·exact h
     ·exact absurd (Nat.eq_of_beq_eq_true h).symm hfi
    obtain ⟨i1, i2⟩ := h2 f2 hf2 hold
    refine ⟨by rw [updG, if_neg hfi]; exact i1, fun d hd => ?_⟩
    have hus : f2.us.map (updG γ f.i g) = f2.us.map γ := by
     rcases dF f2 hf2 with h | h
     ·rw [hold] at h; cases h
     ·exact updG_map (hnot h.2)
    rw [hus]
    cases hfd : f.d with
    | none => rw [hfd] at henv; rw [henv]; exact i2 d hd
    | some d' =>
     rw [hfd] at henv
     rw [henv]
     refine get_other (fun e => ?_) (i2 d hd)
     subst e
     exact hfi (hdd _ hf2 _ hfm _ hd hfd)
  ·exact hS'.trans ((List.perm_append_comm_assoc _ _ _).trans (((hX.append_left _).trans r2.symm).append_left base))
def stB (F : List FOp) (ks : List FKey) (env0 : Env) (L0 : Array Bool) : Bool :=
 (List.range F.length).all (fun p => (List.range F.length).all fun q => Nat.beq p q || (!Nat.beq (F.getD p default).i (F.getD q default).i && (match (F.getD p default).d, (F.getD q default).d with | some a, some b => !Nat.beq a b | _, _ => true))) &&
 F.all (fun f => match f.d with | some d => env0.all (fun e => !Nat.beq e.1 d) | none => true) && dclB F ks (F.map fun _ => false) && ((lstF F (F.map fun _ => false) L0).toList == L0.toList)
def finK (F : List FOp) (ks : List FKey) (γ : Nat → Gh) : St := ks.flatMap (curK (dnF F (F.map fun _ => true)) γ)
theorem get_none {d : Nat} : ∀ {A : Env}, (A.all fun e => !Nat.beq e.1 d) = true → get d A = none
 | [], _ => rfl
 | (j, c, t) :: A, h => by
  rw [List.all_cons, Bool.and_eq_true] at h
  rw [get_cons, if_neg (fun e => by subst e; simp at h)]
  exact get_none h.2
theorem dnF_none {j : Nat} : ∀ {F : List FOp}, dnF F (F.map fun _ => false) j = false
 | [] => rfl
 | f :: F => by rw [List.map_cons, dnF, dnF_none]; rfl
theorem AWH.free {l : List (Nat × Nat × Value)} {L0 : Array Bool} {fuel : Nat} {ι : Type} (F : List FOp) (ks : List FKey) (fuel' : Nat) (L1 : Array Bool) (E : ι → Env) (H : ι → St) (inv : ι → Prop) (hfu : fuel = fuel' + F.length) (hst : stB F ks env0 L0 = true) (hck : (masks F.length).all (chkAt ops F ks L0 L1) = true) (hT : TellsC base l) (hob : ObsF cx ops F ks env0 base F)
    (h1 : ∀ γ, (∀ f ∈ F, f.inv (γ f.i)) → ∃ y, inv y ∧ Sub (E y) (envF F γ (F.map (·.i)) ++ env0) ∧ H y = finK F ks γ ++ base) (h2 : ∀ y, inv y → AWH cx ops (HeldCs l) fuel' L1 K (E y) (H y)) : AWH cx ops (HeldCs l) fuel L0 K env0 base := by
 subst hfu
 unfold stB at hst
 simp only [Bool.and_eq_true] at hst
 obtain ⟨⟨⟨s1, s2⟩, s3⟩, s4⟩ := hst
 have hpq : ∀ f ∈ F, ∀ g ∈ F, f = g ∨ (f.i ≠ g.i ∧ ∀ d, f.d = some d → g.d = some d → False) := fun f hf g hg => by
  obtain ⟨p, hp, rfl⟩ := List.getElem_of_mem hf
  obtain ⟨q, hq, rfl⟩ := List.getElem_of_mem hg
  have h := List.all_eq_true.1 (List.all_eq_true.1 s1 p (List.mem_range.2 hp)) q (List.mem_range.2 hq)
  rw [getD_at hp, getD_at hq, Bool.or_eq_true] at h
  rcases h with h | h
  ·have := Nat.eq_of_beq_eq_true h
   subst this
   exact .inl rfl
  ·rw [Bool.and_eq_true] at h
   refine .inr ⟨fun e => (by rw [e, Nat.beq_refl] at h; cases h.1), fun d e1 e2 => ?_⟩
   have h3 := h.2
   rw [e1, e2] at h3
   simp at h3
 have hs := AWH.free_ (K := K) (l := l) (fuel' := fuel') (L0 := L0) (L1 := L1) (fun f hf g hg d e1 e2 => by
     rcases hpq f hf g hg with h | h
     ·rw [h]
     ·exact (h.2 d e1 e2).elim) (fun f hf g hg e => (hpq f hf g hg).elim id (fun h => absurd e h.1))
  (fun f hf d hd => by
   have := List.all_eq_true.1 s2 f hf
   rw [hd] at this
   exact get_none this) (fun M hM => List.all_eq_true.1 hck M (by rw [← hM]; exact mem_masks M)) hT hob
  (fun γ hi env S g1 g2 g3 => by
   obtain ⟨y, y1, y2, y3⟩ := h1 γ hi
   have hsub : Sub (E y) env := fun k c t hk => Sub.app (A := envF F γ (F.map (·.i))) (B := env0) (fun k c t hm => by
    obtain ⟨j, hj, e1, e2, e3⟩ := envF_mem hm
    obtain ⟨f, hf, rfl⟩ := List.mem_map.1 hj
    obtain ⟨m1, m2⟩ := opF_spec (F := F) ⟨f, hf, rfl⟩
    subst e2; subst e3
    exact g2 _ m1 k e1) g1 k c t (y2 k c t hk)
   intro a w hs hd
   refine h2 y y1 a w ((hs.weaken hsub).perm ?_) hd
   rw [y3]
   exact List.perm_append_comm.trans g3.symm) F.length (F.map fun _ => false) env0 base (by simp) cnt_false s3
  ⟨fun _ => default, Sub.refl, fun f hf h => (by rw [dnF_none] at h; cases h), by
   have : ks.flatMap (curK (dnF F (F.map fun _ => false)) fun _ => default) = [] := by
    rw [List.flatMap_eq_nil_iff]
    intro k _
    unfold curK
    rw [dnF_none, dnF_none]
    rfl
   rw [this, List.append_nil]⟩
 have e : lstF F (F.map fun _ => false) L0 = L0 := Array.ext' (by simpa using s4)
 rw [e] at hs
 exact hs
theorem frA {f : FOp} {γ : Nat → Gh} {env' : Env} {S' : St} (g : Gh) (hi : f.inv g) (he : env' = (match f.d with | some d => (d, true, f.t (f.us.map (updG γ f.i g))) :: env | none => env)) (hS : S'.Perm (postK (updG γ f.i g) f.i ks ++ S)) : postF ks f γ env S env' S' := ⟨g, hi, he, hS⟩
theorem appS {α : Type} {l r : List α} {i : Nat} {a : α} (h : l[i]? = some a) : (l ++ r)[i]? = some a := by
 rw [List.getElem?_append_left (List.getElem?_eq_some_iff.1 h).1]; exact h
theorem Yv.ofFree {o : Oper} {t : T} (h : ∀ a w, Sim cx env S a w → ∃ u, VRep w (cx.X ++ M S) t u ∧ ∀ w', (execOp a.eval o).run cx.P w' = .ok (.value u) w') : Yv cx o env S true t := fun a w hs _ => (h a w hs).imp fun _ q => ⟨q.1, fun w' _ => q.2 w'⟩
theorem Es {env' : Env} {g : Bool} {x : Operand} {t : T} (h : Sub env' env) (hx : Ev env' g x t) : Ev env g x t := by
 obtain ⟨c, h1, h2, h3⟩ := hx
 refine ⟨c, ?_, h2, h3⟩
 cases x with
 | tmp k => exact h k c t h1
 | _ => exact h1
end
section
variable {cx : Cx} {env : Env} {S : St} {o : Oper} {ops : Array Oper} {K : Env → St → Prop} {d : Nat} {Hd : World → Prop}
theorem wanted_known {a : Act} {w : World} {j dj : Nat} {b want : Bool} (hg : o.guard = some (j, want)) (hj : (ops[j]?).bind (·.dst) = some dj) (hk : get dj env = some (true, .v (.bool b))) (hb : b = want) (hs : Sim cx env S a w) : Region.wanted o (yielded ops a.tmps) = true := by
 have h2 := yielded_slot (ops := ops) (a := a) hj ((hs.slots dj true _ hk).1 rfl).v_inv
 simp only [Region.wanted, hg, h2, boolOf, hb]
 simp
theorem AWH.takeG {fuel i j dj : Nat} {b want : Bool} {listed : Array Bool} {t : T} (hi : ops[i]? = some o) (hs : Region.noSelect ops = true) (hf : Region.free .any ops listed i = true) (hr : (Region.ready .any ops listed).contains i = true) (hg : o.guard = some (j, want)) (hj : (ops[j]?).bind (·.dst) = some dj) (hk : get dj env = some (true, .v (.bool b))) (hb : b = want) (hd : o.dst = some d) (hN : d < cx.N)
    (hy : ∀ a w, Sim cx env S a w → ∃ u, VRep w (cx.X ++ M S) t u ∧ ∀ w', Hd w' → (execOp a.eval o).run cx.P w' = .ok (.value u) w') (h : AWH cx ops Hd fuel (listed.setIfInBounds i true) K ((d, true, t) :: env) S) : AWH cx ops Hd (fuel + 1) listed K env S := by
 intro a w hsim hdw
 obtain ⟨u, h1, h2⟩ := hy a w hsim
 refine wpAnyH_take (v := u) hi hs hf hr (fun c a w hq => absurd hq.1 (by simp)) (.inl ⟨wanted_known hg hj hk hb hsim, h2⟩) hdw ?_
 rw [hd]
 exact h _ _ (hsim.put hN (fun _ => h1) (by simp)) hdw
end
end Go.Proofs.YtlfklgganokgdaaGreat
