/-
  MAPS OF THE CALL'S OWN, with keys that are strings or integers. Generic: no program is named here.
-/
import Derived.Test.YtjndpakhmgapjaaDoorAw15
import Derived.Laws.StructEq
import Derived.Laws.Strings
import Derived.MapKept
namespace Go.Proofs.YtjndpakhmgapjaaDoor
open Go Go.RowKit
set_option linter.unusedVariables false

def getK (k : Key) : List (Key × T) → Option T
  | [] => none
  | e :: r => if e.1 = k then some e.2 else getK k r
def putK (k : Key) (x : T) : List (Key × T) → List (Key × T)
  | [] => [(k, x)]
  | e :: r => if e.1 = k then (k, x) :: r else e :: putK k x r
/-- A key of a kind. -/
def goodK : TypeDesc → Key → Bool
  | .string, .s _ => true
  | .int q, .i k _ => decide (q = k)
  | _, _ => false
def mapOf (P : Program) (t : TypeId) : Option (TypeDesc × TypeId × TypeId × Value) :=
  match P.underlying t with
  | some (.map kt et) => match P.underlying kt, P.info? et with
    | some d, some i => match i.zero with
      | some z => if z.oneCell' then some (d, kt, et, z) else none
      | none => none
    | _, _ => none
  | _ => none
theorem mapOf_spec {P : Program} {t kt et : TypeId} {d : TypeDesc} {z : Value} (h : mapOf P t = some (d, kt, et, z)) : P.underlying t = some (.map kt et) ∧ P.underlying kt = some d ∧ z.oneCell' = true ∧ ∃ i, P.info? et = some i ∧ i.zero = some z := by
  unfold mapOf at h
  split at h
  · split at h
    · split at h
      · split at h
        · simp only [Option.some.injEq, Prod.mk.injEq] at h
          obtain ⟨rfl, rfl, rfl, rfl⟩ := h
          exact ⟨by assumption, by assumption, by assumption, _, by assumption, by assumption⟩
        · cases h
      · cases h
    · cases h
  · cases h
theorem bytes_beq (l l' : List UInt8) : ((⟨l.toArray⟩ : ByteArray) == ⟨l'.toArray⟩) = decide (l' = l) := by
  rw [beq_toListBytes, ByteArray.toList_eq, ByteArray.toList_eq]
  rw [Bool.eq_iff_iff]
  simp only [beq_iff_eq, decide_eq_true_eq]
  exact ⟨fun e => e.symm, fun e => e.symm⟩
theorem sameNow_key {d : TypeDesc} {k k' : Key} (h : goodK d k = true) (h' : goodK d k' = true) : Instr.sameNow d k.val k'.val = some (decide (k' = k)) := by
  cases k with
  | s l =>
    cases k' with
    | s l' =>
      cases d <;> simp [goodK] at h
      simp only [Key.val, Instr.sameNow, Key.s.injEq, bytes_beq]
    | i q z => cases d <;> simp [goodK] at h h'
  | i q z =>
    cases k' with
    | s l' => cases d <;> simp [goodK] at h h'
    | i q' z' =>
      cases d <;> simp [goodK] at h h'
      subst h; subst h'
      simp only [Key.val, Instr.sameNow, if_true, Key.i.injEq, true_and, Option.some.injEq]
      rw [Bool.eq_iff_iff]
      simp only [beq_iff_eq, decide_eq_true_eq]
      exact ⟨fun e => e.symm, fun e => e.symm⟩
/-- Where a key stands. -/
def idxK (k : Key) : List (Key × T) → Option Nat
  | [] => none
  | e :: r => if e.1 = k then some 0 else (idxK k r).map (· + 1)
theorem findNow_key {d : TypeDesc} {k : Key} (h : goodK d k = true) : ∀ (ms : List MapEntry) (es : List (Key × T)) (i : Nat), ms.map (·.key) = es.map (·.1.val) → (∀ e ∈ es, goodK d e.1 = true) →
    Instr.findNow d k.val ms i = some ((idxK k es).map fun j => (i + j, (ms.getD j default).val))
  | [], [], i, _, _ => rfl
  | [], e :: es, i, h1, _ => by simp at h1
  | m :: ms, [], i, h1, _ => by simp at h1
  | m :: ms, e :: es, i, h1, h2 => by
    simp only [List.map_cons, List.cons.injEq] at h1
    obtain ⟨h3, h4⟩ := h1
    have hs := sameNow_key (k' := e.1) h (h2 e (List.mem_cons_self ..))
    rw [Instr.findNow, h3, hs]
    by_cases he : e.1 = k
    · simp [idxK, he]
    · simp only [idxK, he, decide_false, if_false]
      rw [findNow_key h ms es (i + 1) h4 (fun x hx => h2 x (List.mem_cons_of_mem _ hx))]
      cases idxK k es with
      | none => rfl
      | some j => simp only [Option.map_some, List.getD_cons_succ, Option.some.injEq, Prod.mk.injEq, and_true]; omega
theorem getK_idx {k : Key} : ∀ (es : List (Key × T)), getK k es = (idxK k es).bind fun j => (es.map (·.2))[j]?
  | [] => rfl
  | e :: r => by
    rw [getK, idxK]
    split
    · rfl
    · rw [getK_idx r]
      cases idxK k r <;> simp
theorem idxK_lt {k : Key} : ∀ {es : List (Key × T)} {j : Nat}, idxK k es = some j → j < es.length ∧ (es.map (·.1))[j]? = some k
  | [], j, h => by cases h
  | e :: r, j, h => by
    rw [idxK] at h
    split at h
    · rename_i he
      cases h
      exact ⟨by simp, by simp [he]⟩
    · cases hq : idxK k r with
      | none => rw [hq] at h; cases h
      | some q =>
        rw [hq] at h
        simp only [Option.map_some, Option.some.injEq] at h
        subst h
        have := idxK_lt hq
        exact ⟨by simp only [List.length_cons]; omega, by simpa using this.2⟩
theorem putK_some {k : Key} {x : T} : ∀ {es : List (Key × T)} {j : Nat}, idxK k es = some j → putK k x es = es.set j (k, x)
  | [], j, h => by cases h
  | e :: r, j, h => by
    rw [idxK] at h
    rw [putK]
    split at h
    · rename_i he
      cases h
      rw [if_pos he]; rfl
    · rename_i he
      rw [if_neg he]
      cases hq : idxK k r with
      | none => rw [hq] at h; cases h
      | some q =>
        rw [hq] at h
        simp only [Option.map_some, Option.some.injEq] at h
        subst h
        rw [putK_some hq]; rfl
theorem putK_none {k : Key} {x : T} : ∀ {es : List (Key × T)}, idxK k es = none → putK k x es = es ++ [(k, x)]
  | [], _ => rfl
  | e :: r, h => by
    rw [idxK] at h
    rw [putK]
    split at h
    · cases h
    · rename_i he
      rw [if_neg he]
      cases hq : idxK k r with
      | none => rw [putK_none hq]; rfl
      | some q => rw [hq] at h; cases h
theorem run_checkKey {P : Program} {kt : TypeId} {d : TypeDesc} {k : Key} (hk : P.underlying kt = some d) (h : goodK d k = true) (em : Bool) (w : World) : (Instr.checkKey em 10000 kt k.val).run P w = .ok () w := by
  rw [show (10000 : Nat) = 9999 + 1 from rfl]
  unfold Instr.checkKey
  simp only [Sem.run_bind, run_underlying hk, Result.andThen]
  cases d <;> cases k <;> simp_all [goodK, Key.val]
theorem run_findKey {P : Program} {kt : TypeId} {d : TypeDesc} {k : Key} {ms : Array MapEntry} {es : List (Key × T)} (hk : P.underlying kt = some d) (h : goodK d k = true) (h1 : ms.toList.map (·.key) = es.map (·.1.val)) (h2 : ∀ e ∈ es, goodK d e.1 = true) (w : World) :
    (Instr.findKey kt k.val ms.toList).run P w = .ok ((idxK k es).map fun j => (j, (ms.toList.getD j default).val)) w := by
  have hf := findNow_key h ms.toList es 0 h1 h2
  simp only [Nat.zero_add] at hf
  simp only [Instr.findKey, Sem.run_bind, run_underlying hk, Result.andThen_ok, hf, Sem.run_pure]
theorem run_getMap {P : Program} {w : World} {b : Nat} {ms : Array MapEntry} {c : Nat} (h : w.heap[b]? = some (.map ms c)) : (getObj b).run P w = .ok (.map ms c) w := by
  simp [getObj, Sem.run, h]
theorem run_setMap {P : Program} {w : World} {b : Nat} {ms : Array MapEntry} {c : Nat} (h : w.heap[b]? = some (.map ms c)) (ob : Obj) : (setObj b ob).run P w = .ok () { w with heap := w.heap.setIfInBounds b ob } := by
  have hb := (Array.getElem?_eq_some_iff.1 h).1
  simp [setObj, Sem.run, h]
theorem sameBits_key (k : Key) : Instr.sameBits 10000 k.val k.val = true := by
  cases k with
  | s l => simp only [Key.val, Instr.sameBits, bytes_beq, decide_true]
  | i q z => simp [Key.val, Instr.sameBits]

section
variable {cx : Cx} {env : Env} {S : St} {o : Oper} {g : Bool} {x y z : Operand} {ops : Array Oper} {l : List Oper} {K : Env → St → Prop} {Q : Exit → Env → St → Prop} {d : Nat}

theorem Sim.map {a : Act} {w : World} (hs : Sim cx env S a w) {i b : Nat} {es : List (Key × T)} (hi : S[i]? = some (.map b es)) :
    ∃ (ms : Array MapEntry) (clock : Nat), w.heap[b]? = some (.map ms clock) ∧ ms.toList.map (·.key) = es.map (·.1.val) ∧ VReps w (cx.X ++ M S) (es.map (·.2)) (ms.toList.map (·.val)) := hs.ents _ (List.mem_of_getElem? hi)
theorem AWL.makeMapOp {t : TypeId} (hg : o.guard = none) (hd : o.dst = some d) (hN : d < cx.N) (ho : o.op = .makeMap t none) (hr : ∀ b, AWL cx ops l K ((d, true, .v (.map (some b))) :: env) (S ++ [.map b []])) : AWL cx ops (o :: l) K env S := by
  refine AWL.eff hg hd hN fun a w hs => ?_
  have hka := keeps_alloc w (.map #[] 0)
  refine ⟨.map (some w.heap.size), w.alloc (.map #[] 0), _, _, ?_, hs.add (e := .map w.heap.size []) rfl hka ⟨#[], 0, heap_alloc_new w _, rfl, .nil⟩, .v _, hr _⟩
  simp [execOp, ho, Instr.makeMap, Sem.run_bind, Sem.run_pure, run_newObj]

theorem lookup_run {P : Program} {w : World} {t kt et : TypeId} {dd : TypeDesc} {zv : Value} {k : Key} {b c : Nat} {ms : Array MapEntry} {es : List (Key × T)} (ht : mapOf P t = some (dd, kt, et, zv)) (hk : goodK dd k = true) (h : w.heap[b]? = some (.map ms c)) (h1 : ms.toList.map (·.key) = es.map (·.1.val))
    (h2 : ∀ e ∈ es, goodK dd e.1 = true) (cm : Bool) :
    (Instr.lookup t (.map (some b)) k.val cm).run P w = .ok (let r : Value × Bool := match idxK k es with | some j => ((ms.toList.getD j default).val, true) | none => (zv, false); if cm then .tuple #[r.1, .bool r.2] else r.1) w := by
  obtain ⟨e1, e2, _, i, e3, e4⟩ := mapOf_spec ht
  have hf := fun w => run_findKey (P := P) (ms := ms) (es := es) e2 hk h1 h2 w
  have hz : ∀ w : World, (zeroValue et).run P w = .ok zv w := fun w => by simp [zeroValue, typeInfo, e3, e4, Sem.run_bind, Sem.run_pure]
  have hc := fun em w => run_checkKey (P := P) e2 hk em w
  cases hj : idxK k es with
  | none =>
    have hf' := hf w
    rw [hj] at hf'
    simp only [Instr.lookup, Sem.run_bind, run_underlying e1, Result.andThen_ok, run_getMap h, hc, Sem.run_pure, hf', Option.map_none, hz]
  | some j =>
    have hf' := hf w
    rw [hj] at hf'
    simp only [Instr.lookup, Sem.run_bind, run_underlying e1, Result.andThen_ok, run_getMap h, hc, Sem.run_pure, hf', Option.map_some]
theorem lookup_rep {w : World} {L : List Nat} {k : Key} {ms : Array MapEntry} {es : List (Key × T)} {zv : Value} (hV : VReps w L (es.map (·.2)) (ms.toList.map (·.val))) :
    VRep w L ((getK k es).getD (.v zv)) (match idxK k es with | some j => (ms.toList.getD j default).val | none => zv) ∧ (getK k es).isSome = (idxK k es).isSome := by
  rw [getK_idx]
  cases hj : idxK k es with
  | none => exact ⟨.v _, rfl⟩
  | some j =>
    have hl := (idxK_lt hj).1
    have hml : j < ms.toList.length := by
      have := hV.len
      simp only [List.length_map] at this
      omega
    have e1 : (es.map (·.2))[j]? = some es[j].2 := by simp [hl]
    have e3 : ms.toList.getD j default = ms.toList[j] := by simp only [List.getD, List.getElem?_eq_getElem hml, Option.getD_some]
    have e2 : (ms.toList.map (·.val))[j]? = some (ms.toList.getD j default).val := by rw [List.getElem?_map, List.getElem?_eq_getElem hml, e3]; rfl
    refine ⟨?_, ?_⟩
    · simp only [Option.bind_some, e1, Option.getD_some]
      exact hV.at_ j _ _ e1 e2
    · simp only [Option.bind_some, e1]; rfl
theorem Yv.lookup2 {t kt et : TypeId} {dd : TypeDesc} {zv : Value} {k : Key} {i b : Nat} {es : List (Key × T)} (ho : o.op = .lookup t x y true) (ht : mapOf cx.P t = some (dd, kt, et, zv)) (hi : S[i]? = some (.map b es)) (hx : Ev env g x (.v (.map (some b)))) (hy : Ev env g y (.v k.val))
    (hk : goodK dd k = true) (h2 : ∀ e ∈ es, goodK dd e.1 = true) : Yv cx o env S g (.tup [(getK k es).getD (.v zv), .v (.bool (getK k es).isSome)]) := by
  intro a w hs hg
  obtain ⟨ms, c, hh, h1, hV⟩ := hs.map hi
  obtain ⟨r1, r2⟩ := lookup_rep (zv := zv) (k := k) hV
  have hb : b < w.heap.size := lt_of_heap hh
  refine ⟨.tuple #[(match idxK k es with | some j => (ms.toList.getD j default).val | none => zv), .bool (idxK k es).isSome], ?_, fun w' hkp => ?_⟩
  · have : VRep w (cx.X ++ M S) (.tup [(getK k es).getD (.v zv), .v (.bool (getK k es).isSome)]) (.tuple [(match idxK k es with | some j => (ms.toList.getD j default).val | none => zv), .bool (idxK k es).isSome].toArray) := by
      refine .tup rfl (fun j t u e1 e2 => ?_)
      rcases j with _ | _ | j
      · simp only [List.getElem?_cons_zero, Option.some.injEq] at e1 e2
        subst e1; subst e2; exact r1
      · simp only [List.getElem?_cons_succ, List.getElem?_cons_zero, Option.some.injEq] at e1 e2
        subst e1; subst e2
        rw [r2]; exact .v _
      · simp at e1
    exact this
  · have hh' : w'.heap[b]? = some (.map ms c) := (hkp.block b hb (by simp)).trans hh
    have hrun := lookup_run (P := cx.P) ht hk hh' h1 h2 true
    simp only [execOp, ho, hx.val hs hg, hy.val hs hg, Sem.run_bind, hrun, Sem.run_pure, Result.andThen_ok]
    cases idxK k es <;> rfl
theorem Yv.lookup1 {t kt et : TypeId} {dd : TypeDesc} {zv : Value} {k : Key} {i b : Nat} {es : List (Key × T)} (ho : o.op = .lookup t x y false) (ht : mapOf cx.P t = some (dd, kt, et, zv)) (hi : S[i]? = some (.map b es)) (hx : Ev env g x (.v (.map (some b)))) (hy : Ev env g y (.v k.val))
    (hk : goodK dd k = true) (h2 : ∀ e ∈ es, goodK dd e.1 = true) : Yv cx o env S g ((getK k es).getD (.v zv)) := by
  intro a w hs hg
  obtain ⟨ms, c, hh, h1, hV⟩ := hs.map hi
  obtain ⟨r1, r2⟩ := lookup_rep (zv := zv) (k := k) hV
  have hb : b < w.heap.size := lt_of_heap hh
  refine ⟨_, r1, fun w' hkp => ?_⟩
  have hh' : w'.heap[b]? = some (.map ms c) := (hkp.block b hb (by simp)).trans hh
  have hrun := lookup_run (P := cx.P) ht hk hh' h1 h2 false
  simp only [execOp, ho, hx.val hs hg, hy.val hs hg, Sem.run_bind, hrun, Sem.run_pure, Result.andThen_ok]
  cases idxK k es <;> rfl
theorem Yv.eqT {t t' : T} (h : Yv cx o env S g t) (e : t = t') : Yv cx o env S g t' := e ▸ h
theorem map_modify_key {k : Key} {v : Value} {ms : Array MapEntry} {es : List (Key × T)} {j : Nat} (h1 : ms.toList.map (·.key) = es.map (·.1.val)) (hj : idxK k es = some j) (r : T) :
    (ms.modify j fun e => { e with key := k.val, val := v }).toList.map (·.key) = (putK k r es).map (·.1.val) ∧ (ms.modify j fun e => { e with key := k.val, val := v }).toList.map (·.val) = (ms.toList.map (·.val)).set j v := by
  obtain ⟨hl, hk⟩ := idxK_lt hj
  have hml : j < ms.size := by
    have := congrArg List.length h1
    simp at this
    omega
  rw [putK_some hj]
  simp only [Array.toList_modify]
  refine ⟨?_, ?_⟩
  · apply List.ext_getElem?
    intro q
    have hq := congrArg (fun l : List Value => l[q]?) h1
    simp only [List.getElem?_map] at hq
    simp only [List.getElem?_map, List.getElem?_modify, List.getElem?_set]
    by_cases e : j = q
    · subst e
      simp [hl, hml]
    · simp only [e, if_false]
      cases hm : ms.toList[q]? with
      | none => rw [hm] at hq; simpa using hq
      | some m => rw [hm] at hq; simpa using hq
  · apply List.ext_getElem?
    intro q
    simp only [List.getElem?_map, List.getElem?_modify, List.getElem?_set, List.length_map]
    by_cases e : j = q
    · subst e
      simp [hml]
    · simp only [e, if_false]
      cases ms.toList[q]? <;> rfl
/-- m[k] = v. -/
theorem AWL.mapUpd {t kt et : TypeId} {dd : TypeDesc} {zv : Value} {k : Key} {i b : Nat} {es : List (Key × T)} {r : T} (hg : o.guard = none) (hd : o.dst = none) (ho : o.op = .mapUpdate t x y z ∨ o.op = .insert t x y z) (ht : mapOf cx.P t = some (dd, kt, et, zv)) (hi : S[i]? = some (.map b es))
    (hx : Ev env true x (.v (.map (some b)))) (hy : Ev env true y (.v k.val)) (hz : Ev env true z r) (hr1 : r.one = true) (hk : goodK dd k = true) (h2 : ∀ e ∈ es, goodK dd e.1 = true)
    (hr : AWL cx ops l K env (S.set i (.map b (putK k r es)))) : AWL cx ops (o :: l) K env S := by
  refine AWL.eff0 hg hd fun a w hs => ?_
  obtain ⟨ms, c, hh, h1, hV⟩ := hs.map hi
  obtain ⟨e1, e2, _, _⟩ := mapOf_spec ht
  have hv := hz.rep hs rfl
  have hv1 := hv.one hr1
  have hf := run_findKey (P := cx.P) (ms := ms) (es := es) e2 hk h1 h2 w
  have hc := run_checkKey (P := cx.P) e2 hk false w
  have hb : b < w.heap.size := lt_of_heap hh
  have hbM : b ∈ cx.X ++ M S := List.mem_append.2 (.inr (mem_M.2 ⟨_, List.mem_of_getElem? hi, rfl⟩))
  have main : ∃ (ms' : Array MapEntry) (c' : Nat), (Instr.mapUpdate t (.map (some b)) k.val (a.eval z)).run cx.P w = .ok () { w with heap := w.heap.setIfInBounds b (.map ms' c') } ∧ ms'.toList.map (·.key) = (putK k r es).map (·.1.val) ∧ VReps w (cx.X ++ M S) ((putK k r es).map (·.2)) (ms'.toList.map (·.val)) := by
    cases hj : idxK k es with
    | none =>
      refine ⟨ms.push { key := k.val, val := a.eval z, born := c }, c + 1, ?_, ?_, ?_⟩
      · rw [hj] at hf
        simp only [Instr.mapUpdate, Sem.run_bind, run_underlying e1, Result.andThen_ok, run_getMap hh, hc, hf, Option.map_none, run_setMap hh]
      · rw [putK_none hj]
        simp [h1]
      · rw [putK_none hj]
        simp only [Array.toList_push, List.map_append, List.map_cons, List.map_nil]
        exact hV.append (.cons hv hv1 .nil)
    | some j =>
      obtain ⟨hl, hkj⟩ := idxK_lt hj
      have hml : j < ms.size := by
        have := congrArg List.length h1
        simp at this
        omega
      have hkey : (((ms[j]?).map (·.key)).getD k.val) = k.val := by
        have := congrArg (fun l : List Value => l[j]?) h1
        simp only [List.getElem?_map] at this
        rw [List.getElem?_map] at hkj
        obtain ⟨e, he, hek⟩ := Option.map_eq_some_iff.1 hkj
        rw [he] at this
        simp only [Option.map_some, hek] at this
        rw [← Array.getElem?_toList, this]
        rfl
      refine ⟨ms.modify j fun e => { e with key := k.val, val := a.eval z }, c, ?_, (map_modify_key h1 hj r).1, ?_⟩
      · rw [hj] at hf
        simp only [Instr.mapUpdate, Sem.run_bind, run_underlying e1, Result.andThen_ok, run_getMap hh, hc, hf, Option.map_some, Instr.keyThatStays, hkey, sameBits_key, if_true, Sem.run_pure, run_setMap hh]
      · rw [(map_modify_key (v := a.eval z) h1 hj r).2, putK_some hj, List.map_set]
        exact hV.set j hv hv1
  obtain ⟨ms', c', hrun, h3, h4⟩ := main
  refine ⟨{ w with heap := w.heap.setIfInBounds b (.map ms' c') }, _, ?_, ?_, hr⟩
  · rcases ho with ho | ho <;> simp only [execOp, ho, hx.val hs rfl, hy.val hs rfl, Sem.run_bind, hrun, Sem.run_pure, Result.andThen_ok]
  · have hother : ∀ q, q ≠ b → ({ w with heap := w.heap.setIfInBounds b (.map ms' c') } : World).heap[q]? = w.heap[q]? := fun q hq => by simp [Array.getElem?_setIfInBounds, Ne.symm hq]
    refine hs.setEnt hi rfl (fun q _ hne => hother q (fun e => hne (by rw [e]; rfl))) (by simp) rfl rfl rfl ⟨ms', c', by simp [hb], h3, ?_⟩
    exact h4.mono (by simp) (fun q _ hm => hother q (fun e => hm (e ▸ hbM))) (fun _ _ hm => hm)
end
end Go.Proofs.YtjndpakhmgapjaaDoor
