/-
  STRUCTS LOADED FIRST, more that may be taken first in regions that draw their order; equality of structs that hold structs. Generic: no program is named here.
-/
import Derived.Test.YtjndpakhmgapjaaDoorAw21
namespace Go.Proofs.YtjndpakhmgapjaaDoor
open Go Go.RowKit
set_option linter.unusedVariables false
set_option linter.unusedSectionVars false
section
variable {cx : Cx} {env : Env} {S : St} {o : Oper} {x : Operand}
/-- A struct that lies whole in a box. -/
theorem heldLoadA {b p n : Nat} {t : TypeId} {us vs : List Value} {l' : List T} (ho : o.op = .load t x) (h : aggSize cx.P t = some (true, n)) (hx : Ev env true x (.v (.pointer (some ⟨b, p, none⟩)))) (hv : (us.drop p).take n = vs) (hn : vs.length = n) (h1 : vs.all (fun u => u.oneCell') = true) (hl : vs.map T.v = l') :
    ∀ a w, Sim cx env S a w → ∃ u', VRep w (cx.X ++ M S) (.agg l') u' ∧ ∀ w', HeldBox b us w' → (execOp a.eval o).run cx.P w' = .ok (.value u') w' := by
  intro a w hs
  have hvx := hx.val hs rfl
  have hV := vreps_vals (w := w) (L := cx.X ++ M S) vs (fun u hu => List.all_eq_true.1 h1 u hu)
  rw [hl] at hV
  refine ⟨.agg vs.toArray, .agg hV.len hV.at_ hV.one, fun w' hd => exec_load ho w' ?_⟩
  obtain ⟨ty, hh⟩ := hd
  rw [hvx]
  refine run_loadAt_agg h hn w' (fun j v hj => ?_)
  rw [← hv, List.getElem?_take] at hj
  split at hj
  · rw [List.getElem?_drop] at hj
    rw [add_lit', cell_of_heap hh, hj]
  · cases hj
end

set_option linter.unusedVariables false
set_option linter.unusedSectionVars false
section
variable {cx : Cx} {env : Env} {S : St} {o : Oper} {x y : Operand}
theorem freeAssign {t : T} (ho : o.op = .assign x) (hx : Ev env true x t) : ∀ a w, Sim cx env S a w → ∃ u, VRep w (cx.X ++ M S) t u ∧ ∀ w', (execOp a.eval o).run cx.P w' = .ok (.value u) w' :=
  fun a w hs => ⟨a.eval x, hx.rep hs rfl, fun w' => by simp [execOp, ho, Sem.run_pure]⟩
theorem freeAdd_i64 {ty yt : TypeId} {p q : Int} (ho : o.op = .binOp .add ty x y yt) (hx : Ev env true x (.v (.int .i64 p))) (hy : Ev env true y (.v (.int .i64 q))) (hb : -9223372036854775808 ≤ p + q ∧ p + q ≤ 9223372036854775807) : ∀ a w, Sim cx env S a w → ∃ u, VRep w (cx.X ++ M S) (.v (.int .i64 (p + q))) u ∧ ∀ w', (execOp a.eval o).run cx.P w' = .ok (.value u) w' :=
  fun a w hs => ⟨_, .v _, fun w' => by rw [exec_binOp_int ho (hx.val hs rfl) (hy.val hs rfl)]; simp [binOp, Op.intArith, Sem.run_pure, IntWalk.i64_in _ hb]⟩
theorem freeIdxSl {t e : TypeId} {k j : Nat} {kd : IntKind} {p : Int} {l : List T} (ho : o.op = .indexAddr t x y) (h : sliceSz cx.P t = some (e, k)) (hk : 0 < k) (hy : Ev env true y (.v (.int kd p))) (hx : Ev env true x (.sl k l)) (hj : p = (j : Int) ∧ j * k < l.length) : ∀ a w, Sim cx env S a w → ∃ u, VRep w (cx.X ++ M S) (.rp l (j * k)) u ∧ ∀ w', (execOp a.eval o).run cx.P w' = .ok (.value u) w' := by
  intro a w hs
  have hv := hx.rep hs rfl
  obtain ⟨rfl, hjl⟩ := hj
  generalize hu : a.eval x = u at hv
  cases hv with
  | sl0 hc => simp at hjl
  | sl hn hkl hl hnc hc hb hL hcell hh h1 =>
    refine ⟨_, .rp hl hb hL hcell hh h1, fun w' => ?_⟩
    refine exec_indexAddr ho h hu (hy.val hs rfl) ?_ w'
    rw [hkl] at hjl
    exact Nat.lt_of_mul_lt_mul_right hjl
theorem freeIdxRow {t e e' : TypeId} {k j i n c : Nat} {kd : IntKind} {p : Int} {A : Option Addr} {cs : List T} (ho : o.op = .indexAddr t x y) (h : sliceSz cx.P t = some (e, k)) (hi : S[i]? = some (.row A n c e' k cs)) (hy : Ev env true y (.v (.int kd p))) (hx : Ev env true x (.v (.slice A n c))) (hj : p = (j : Int) ∧ j < n) : ∀ a w, Sim cx env S a w → ∃ u, VRep w (cx.X ++ M S) (.ep (.slice A n c) (j * k)) u ∧ ∀ w', (execOp a.eval o).run cx.P w' = .ok (.value u) w' := by
  intro a w hs
  have hv := hx.val hs rfl
  obtain ⟨rfl, hjl⟩ := hj
  obtain ⟨us, hr, _⟩ := hs.row hi
  rcases hr.2.2.2 with ⟨_, h0, _⟩ | ⟨gb, cur, fr, rfl, _⟩
  · omega
  · refine ⟨_, .ep, fun w' => ?_⟩
    have := exec_indexAddr ho h hv (hy.val hs rfl) hjl w'
    rw [add_lit', Nat.zero_add] at this
    exact this
theorem freeExtract {i : Nat} {l : List T} {r : T} (ho : o.op = .extract x i) (hx : Ev env true x (.tup l)) (hr : l[i]? = some r) : ∀ a w, Sim cx env S a w → ∃ u, VRep w (cx.X ++ M S) r u ∧ ∀ w', (execOp a.eval o).run cx.P w' = .ok (.value u) w' := by
  intro a w hs
  have hv := hx.rep hs rfl
  generalize hu : a.eval x = u at hv
  cases hv with
  | tup hl hh =>
    rename_i ys
    have hi : i < ys.length := hl ▸ (List.getElem?_eq_some_iff.1 hr).1
    refine ⟨ys[i], hh i r _ hr (List.getElem?_eq_getElem hi), fun w' => ?_⟩
    simp [execOp, ho, hu, Instr.extract, Sem.run_pure, List.getElem?_eq_getElem hi]
end

set_option linter.unusedVariables false
set_option linter.unusedSectionVars false
set_option linter.unusedSimpArgs false
section
variable {cx : Cx} {env : Env} {S : St} {o : Oper} {g : Bool} {x y : Operand}
inductive FK2 where
  | c (k : FK)
  | st (n : Nat) (l : List (Nat × FK))
def flatF2 (P : Program) : List Field → Option (List (Nat × FK2))
  | [] => some []
  | f :: r => if f.name = "_" then none else match aggSize P f.type with
    | some (false, _) => match fkOf P f.type, flatF2 P r with
      | some k, some l => some ((f.offset, .c k) :: l)
      | _, _ => none
    | some (true, n) => match P.underlying f.type with
      | some (.struct fs) => if P.stoodInHeld f.type then none else match flatF P fs.toList, flatF2 P r with
        | some l1, some l => some ((f.offset, .st n l1) :: l)
        | _, _ => none
      | _ => none
    | none => none
def flatOf2 (P : Program) (t : TypeId) : Option (List (Nat × FK2)) :=
  match P.underlying t with
  | some (.struct fs) => if P.stoodInHeld t || P.eqGuardType P.depth t then none else flatF2 P fs.toList
  | _ => none
def eqCells2 (us vs : List Value) : List (Nat × FK2) → Option Bool
  | [] => some true
  | (off, .c k) :: r => match us[off]?, vs[off]? with
    | some u, some v => match eqCell k u v, eqCells2 us vs r with
      | some b, some c => some (b && c)
      | _, _ => none
    | _, _ => none
  | (off, .st n l) :: r => match eqCells ((us.drop off).take n) ((vs.drop off).take n) l, eqCells2 us vs r with
    | some b, some c => some (b && c)
    | _, _ => none
theorem run_part_agg {P : Program} {t : TypeId} {n : Nat} (h : aggSize P t = some (true, n)) (us : List Value) (off : Nat) (w : World) : (part t us.toArray off).run P w = .ok (.agg ((us.drop off).take n).toArray) w := by
  obtain ⟨h1, h2⟩ := aggSize_spec h w
  have e : us.toArray.extract off (off + n) = ((us.drop off).take n).toArray := by
    rw [List.extract_toArray, List.extract_eq_take_drop, Nat.add_sub_cancel_left]
  simp only [part, Sem.run_bind, h1, h2, Result.andThen_ok, if_true, Sem.run_pure, e]
theorem run_eqFlat2 {P : Program} {us vs : List Value} (dd : Nat) (w : World) : ∀ {fs : List Field} {l : List (Nat × FK2)} {b : Bool}, flatF2 P fs = some l → eqCells2 us vs l = some b → (Op.eqFields (dd + 2) us.toArray vs.toArray fs).run P w = .ok b w
  | [], l, b, h, hb => by
    simp only [flatF2, Option.some.injEq] at h; subst h
    simp only [eqCells2, Option.some.injEq] at hb; subst hb
    simp [Op.eqFields, Sem.run_pure]
  | f :: r, l, b, h, hb => by
    simp only [flatF2] at h
    split at h
    · cases h
    · rename_i hn
      split at h
      · rename_i m h1
        split at h
        · rename_i k l' h2 h3
          simp only [Option.some.injEq] at h; subst h
          simp only [eqCells2] at hb
          split at hb
          · rename_i u v hu hv
            split at hb
            · rename_i b1 b2 hb1 hb2
              simp only [Option.some.injEq] at hb; subst hb
              have ih := run_eqFlat2 dd w h3 hb2
              simp only [Op.eqFields, ne_eq, hn, not_false_eq_true, if_true, Sem.run_bind, run_part_one h1 hu, run_part_one h1 hv, run_eqCell h2 hb1, Result.andThen_ok]
              cases b1
              · simp [Sem.run_pure]
              · simp [ih]
            · cases hb
          · cases hb
        · cases h
      · rename_i m h1
        split at h
        · rename_i fs' hu'
          split at h
          · cases h
          · rename_i hst
            split at h
            · rename_i l1 l' h2 h3
              simp only [Option.some.injEq] at h; subst h
              simp only [eqCells2] at hb
              split at hb
              · rename_i b1 b2 hb1 hb2
                simp only [Option.some.injEq] at hb; subst hb
                have ih := run_eqFlat2 dd w h3 hb2
                have hfo : P.fieldsOf f.type = fs' := by simp [Program.fieldsOf, hu']
                have hin : (Op.equalIn (dd + 2) f.type (.agg ((us.drop f.offset).take m).toArray) (.agg ((vs.drop f.offset).take m).toArray)).run P w = .ok b1 w := by
                  rw [run_equalIn_struct w (dd + 1) f.type _ _ (by rw [hfo]; exact hu') (by simpa using hst), hfo]
                  exact run_eqFlat dd w h2 hb1
                simp only [Op.eqFields, ne_eq, hn, not_false_eq_true, if_true, Sem.run_bind, run_part_agg h1, hin, Result.andThen_ok]
                cases b1
                · simp [Sem.run_pure]
                · simp [ih]
              · cases hb
            · cases h
        · cases h
      · cases h
theorem run_eqA2 {P : Program} {t : TypeId} {us vs : List Value} {l : List (Nat × FK2)} {b : Bool} (ht : flatOf2 P t = some l) (hb : eqCells2 us vs l = some b) (w : World) :
    (Op.equalIn 10000 t (.agg us.toArray) (.agg vs.toArray)).run P w = .ok b w ∧ P.eqGuardType P.depth t = false := by
  unfold flatOf2 at ht
  split at ht
  · rename_i fs hu
    split at ht
    · cases ht
    · rename_i hn
      simp only [Bool.or_eq_true, not_or, Bool.not_eq_true] at hn
      have hf : P.fieldsOf t = fs := by simp [Program.fieldsOf, hu]
      exact ⟨by rw [run_equalIn_struct w 9999 t _ _ (by rw [hf]; exact hu) hn.1, hf]; exact run_eqFlat2 9997 w ht hb, hn.2⟩
  · cases ht
theorem Yv.neqA2 {ty yt : TypeId} {l l' : List T} {us vs : List Value} {fl : List (Nat × FK2)} {b : Bool} (ho : o.op = .binOp .neq ty x y yt) (ht : flatOf2 cx.P ty = some fl) (hx : Ev env g x (.agg l)) (hy : Ev env g y (.agg l')) (hu : valsOf l = some us) (hv : valsOf l' = some vs) (hb : eqCells2 us vs fl = some b) :
    Yv cx o env S g (.v (.bool (!b))) :=
  Yv.plain fun a w hs hg w' => by
    have e1 := hx.rep hs hg
    have e2 := hy.rep hs hg
    rw [valsOf_spec hu] at e1
    rw [valsOf_spec hv] at e2
    obtain ⟨e3, e4⟩ := run_eqA2 ht hb w'
    rw [exec_binOp_agg ho e1.vals e2.vals e4, run_neq_struct, e3]
    rfl
end
end Go.Proofs.YtjndpakhmgapjaaDoor
