/-
  MORE READ-ONLY OPERATIONS: indexing, slicing, parts of structs and tuples, bytes as a string. Generic: no program is named here.
-/
import Derived.Test.YtjndpakhmgapjaaDoorAw3
namespace Go.Proofs.YtjndpakhmgapjaaDoor
open Go Go.RowKit
set_option linter.unusedVariables false

/-- A slice type's element type and the cells of an element. -/
def sliceSz (P : Program) (t : TypeId) : Option (TypeId × Nat) :=
  match P.underlying t with
  | some (.slice e) => match P.info? e with
    | some i => some (e, i.size)
    | none => none
  | _ => none
theorem sliceSz_spec {P : Program} {t e : TypeId} {k : Nat} (h : sliceSz P t = some (e, k)) : P.underlying t = some (.slice e) ∧ ∃ i, P.info? e = some i ∧ i.size = k := by
  unfold sliceSz at h
  split at h
  · rename_i e' he
    split at h
    · rename_i i hi
      simp only [Option.some.injEq, Prod.mk.injEq] at h
      obtain ⟨rfl, rfl⟩ := h
      exact ⟨he, i, hi, rfl⟩
    · cases h
  · cases h

section
variable {cx : Cx} {env : Env} {S : St} {o : Oper} {g : Bool} {x y z : Operand}

theorem exec_indexAddr {ρ : Operand → Value} {P : Program} {t e : TypeId} {k : Nat} {kd : IntKind} {j n c : Nat} {ad : Addr} (ho : o.op = .indexAddr t x y) (h : sliceSz P t = some (e, k)) (hx : ρ x = .slice (some ad) n c) (hy : ρ y = .int kd (j : Int)) (hj : j < n) (w : World) :
    (execOp ρ o).run P w = .ok (.value (.pointer (some (ad.add (j * k))))) w := by
  obtain ⟨h1, i, h2, h3⟩ := sliceSz_spec h
  have e1 : ((j : Int) < (n : Int)) := by omega
  simp [execOp, ho, hx, hy, Instr.indexAt, asIntOf, Sem.run_bind, Sem.run_pure, run_underlying h1, sizeOf, typeInfo, h2, h3, e1]
  intro h'
  omega
theorem Yv.indexSl {t e : TypeId} {k j : Nat} {kd : IntKind} {p : Int} {l : List T} (ho : o.op = .indexAddr t x y) (h : sliceSz cx.P t = some (e, k)) (hk : 0 < k) (hy : Ev env g y (.v (.int kd p))) (hx : Ev env g x (.sl k l)) (hj : g = true → p = (j : Int) ∧ j * k < l.length) : Yv cx o env S g (.rp l (j * k)) := by
  intro a w hs hg
  have hv := hx.rep hs hg
  obtain ⟨rfl, hjl⟩ := hj hg
  generalize hu : a.eval x = u at hv
  cases hv with
  | sl0 hc => simp at hjl
  | sl hn hkl hl hnc hc hb hL hcell hh h1 =>
    refine ⟨_, .rp hl hb hL hcell hh h1, fun w' _ => ?_⟩
    refine exec_indexAddr ho h hu (hy.val hs hg) ?_ w'
    rw [hkl] at hjl
    exact Nat.lt_of_mul_lt_mul_right hjl
theorem Sim.row {a : Act} {w : World} (hs : Sim cx env S a w) {i n c size : Nat} {A : Option Addr} {e : TypeId} {cs : List T} (hi : S[i]? = some (.row A n c e size cs)) : ∃ us : List Value, RowIs w e size A n c us ∧ VReps w (cx.X ++ M S) cs us :=
  hs.ents _ (List.mem_of_getElem? hi)
theorem Yv.indexRow {t e e' : TypeId} {k j i n c : Nat} {kd : IntKind} {p : Int} {A : Option Addr} {cs : List T} (ho : o.op = .indexAddr t x y) (h : sliceSz cx.P t = some (e, k)) (hi : S[i]? = some (.row A n c e' k cs)) (hy : Ev env g y (.v (.int kd p))) (hx : Ev env g x (.v (.slice A n c))) (hj : g = true → p = (j : Int) ∧ j < n) : Yv cx o env S g (.ep (.slice A n c) (j * k)) := by
  intro a w hs hg
  have hv := hx.val hs hg
  obtain ⟨rfl, hjl⟩ := hj hg
  obtain ⟨us, hr, _⟩ := hs.row hi
  rcases hr.2.2.2 with ⟨_, h0, _⟩ | ⟨gb, cur, fr, rfl, _⟩
  · omega
  · refine ⟨_, .ep, fun w' _ => ?_⟩
    have := exec_indexAddr ho h hv (hy.val hs hg) hjl w'
    rw [add_lit', Nat.zero_add] at this
    exact this
theorem RowIs.cell {w : World} {e : TypeId} {size n c gb : Nat} {us : List Value} (h : RowIs w e size (some ⟨gb, 0, none⟩) n c us) {j : Nat} {u : Value} (hu : us[j]? = some u) : w.cell? ⟨gb, j, none⟩ = some u := by
  rcases h.2.2.2 with ⟨h0, _⟩ | ⟨g', cur, fr, hA, hh, _, hsz, ht⟩
  · cases h0
  · simp only [Option.some.injEq, Addr.mk.injEq, and_true] at hA
    subst hA
    rw [cell_of_row w gb j cur e fr hh]
    rw [← ht] at hu
    rw [List.getElem?_take] at hu
    split at hu
    · simpa using hu
    · cases hu
theorem Yv.loadEp {t e : TypeId} {n m p i c size : Nat} {A : Option Addr} {cs : List T} {r : T} (ho : o.op = .load t x) (h : aggSize cx.P t = some (false, m)) (hi : S[i]? = some (.row A n c e size cs)) (hx : Ev env g x (.ep (.slice A n c) p)) (hr : g = true → cs[p]? = some r) : Yv cx o env S g r := by
  intro a w hs hg
  have hv := hx.rep hs hg
  generalize hu : a.eval x = u at hv
  cases hv with
  | ep =>
    obtain ⟨us, hrow, hV⟩ := hs.row hi
    obtain ⟨u, h1, h2, _⟩ := hV.get (hr hg)
    refine ⟨u, h2, fun w' hk => exec_load ho w' ?_⟩
    rw [hu]
    refine run_loadAt_one h w' ?_
    exact (World.cell?_of_block (w := w) (a := ⟨_, p, none⟩) (hk.block _ (hrow.lt rfl) (by simp))).trans (hrow.cell h1)
theorem Yv.loadEpA {t e : TypeId} {n m p i c size : Nat} {A : Option Addr} {cs l' : List T} (ho : o.op = .load t x) (h : aggSize cx.P t = some (true, m)) (hi : S[i]? = some (.row A n c e size cs)) (hx : Ev env g x (.ep (.slice A n c) p)) (hr : g = true → (cs.drop p).take m = l' ∧ l'.length = m) : Yv cx o env S g (.agg l') := by
  intro a w hs hg
  have hv := hx.rep hs hg
  generalize hu : a.eval x = u at hv
  cases hv with
  | ep =>
    obtain ⟨us, hrow, hV⟩ := hs.row hi
    obtain ⟨e1, e2⟩ := hr hg
    have hV' : VReps w (cx.X ++ M S) l' ((us.drop p).take m) := by rw [← e1]; exact (hV.drop p).take m
    refine ⟨.agg ((us.drop p).take m).toArray, .agg hV'.len hV'.at_ hV'.one, fun w' hk => exec_load ho w' ?_⟩
    rw [hu]
    refine run_loadAt_agg h (by rw [← hV'.len, e2]) w' (fun j v hj => ?_)
    rw [List.getElem?_take] at hj
    split at hj
    · rw [List.getElem?_drop] at hj
      rw [add_lit']
      exact (World.cell?_of_block (w := w) (a := ⟨_, p + j, none⟩) (hk.block _ (hrow.lt rfl) (by simp))).trans (hrow.cell hj)
    · cases hj

/-- A byte of a string. -/
theorem Yv.indexS {t : TypeId} {j : Nat} {kd : IntKind} {p : Int} {s : ByteArray} {b : UInt8} (ho : o.op = .index t x y) (h : isStr cx.P t = true) (hx : Ev env g x (.v (.string s))) (hy : Ev env g y (.v (.int kd p))) (hj : g = true → p = (j : Int) ∧ s.data.toList[j]? = some b) : Yv cx o env S g (.v (.int .u8 b.toNat)) :=
  Yv.plain fun a w hs hg w' => by
    obtain ⟨rfl, h1⟩ := hj hg
    have h2 : s[j]? = some b := by
      have hlt : j < s.size := by
        have := (List.getElem?_eq_some_iff.1 h1).1
        simpa using this
      rw [ByteArray.getElem?_lt' s j hlt]
      simp only [Array.getElem?_toList] at h1
      rw [Array.getElem?_eq_getElem hlt] at h1
      exact h1
    simp [execOp, ho, hx.val hs hg, hy.val hs hg, Instr.index, asIntOf, Sem.run_bind, Sem.run_pure, run_underlying (isStr_spec h), h2]

/-! ### Parts -/
def fieldPart (P : Program) (s : TypeId) (i : Nat) : Option (Nat × Bool × Nat) :=
  match P.underlying s with
  | some (.struct fs) => match fs[i]? with
    | some f => match aggSize P f.type with
      | some (b, n) => some (f.offset, b, n)
      | none => none
    | none => none
  | _ => none
theorem aggSize_spec {P : Program} {t : TypeId} {b : Bool} {n : Nat} (h : aggSize P t = some (b, n)) (w : World) : (isAgg t).run P w = .ok b w ∧ (sizeOf t).run P w = .ok n w := by
  unfold aggSize at h
  split at h
  · rename_i d i hd hi
    simp only [Option.some.injEq, Prod.mk.injEq] at h
    obtain ⟨h1, rfl⟩ := h
    refine ⟨?_, by simp [sizeOf, typeInfo, hi]⟩
    unfold isAgg
    simp only [Sem.run_bind, run_underlying hd, Result.andThen_ok]
    cases d <;> first | (subst h1; rfl) | (cases h1; rfl)
  · cases h
theorem fieldPart_spec {P : Program} {s : TypeId} {i off n : Nat} {b : Bool} (h : fieldPart P s i = some (off, b, n)) : ∃ (fs : Array Field) (f : Field), P.underlying s = some (.struct fs) ∧ fs[i]? = some f ∧ f.offset = off ∧ aggSize P f.type = some (b, n) := by
  unfold fieldPart at h
  split at h
  · rename_i fs hfs
    split at h
    · rename_i f hf
      split at h
      · rename_i b' n' ha
        simp only [Option.some.injEq, Prod.mk.injEq] at h
        obtain ⟨rfl, rfl, rfl⟩ := h
        exact ⟨fs, f, hfs, hf, rfl, ha⟩
      · cases h
    · cases h
  · cases h
theorem Yv.field {s : TypeId} {i off n : Nat} {l : List T} {r : T} (ho : o.op = .field s x i) (h : fieldPart cx.P s i = some (off, false, n)) (hx : Ev env g x (.agg l)) (hr : g = true → l[off]? = some r) : Yv cx o env S g r := by
  intro a w hs hg
  have hv := hx.rep hs hg
  generalize hu : a.eval x = u at hv
  obtain ⟨fs, f, h1, h2, rfl, h4⟩ := fieldPart_spec h
  cases hv with
  | agg hl hh h1' =>
    obtain ⟨u, e1, e2, _⟩ := (VReps.mk hl hh h1').get (hr hg)
    refine ⟨u, e2, fun w' _ => ?_⟩
    simp [execOp, ho, hu, Instr.field, Sem.run_bind, Sem.run_pure, run_underlying h1, h2, asAgg, part, (aggSize_spec h4 w').1, e1]
theorem Yv.fieldA {s : TypeId} {i off n : Nat} {l l' : List T} (ho : o.op = .field s x i) (h : fieldPart cx.P s i = some (off, true, n)) (hx : Ev env g x (.agg l)) (hr : g = true → (l.drop off).take n = l') : Yv cx o env S g (.agg l') := by
  intro a w hs hg
  have hv := hx.rep hs hg
  generalize hu : a.eval x = u at hv
  obtain ⟨fs, f, h1, h2, rfl, h4⟩ := fieldPart_spec h
  cases hv with
  | agg hl hh h1' =>
    rename_i ys
    have hV : VReps w (cx.X ++ M S) l' ((ys.drop f.offset).take n) := by rw [← hr hg]; exact ((VReps.mk hl hh h1').drop _).take _
    refine ⟨.agg ((ys.drop f.offset).take n).toArray, .agg hV.len hV.at_ hV.one, fun w' _ => ?_⟩
    simp [execOp, ho, hu, Instr.field, Sem.run_bind, Sem.run_pure, run_underlying h1, h2, asAgg, part, (aggSize_spec h4 w').1, (aggSize_spec h4 w').2]
theorem Yv.extract {i : Nat} {l : List T} {r : T} (ho : o.op = .extract x i) (hx : Ev env g x (.tup l)) (hr : l[i]? = some r) : Yv cx o env S g r := by
  intro a w hs hg
  have hv := hx.rep hs hg
  generalize hu : a.eval x = u at hv
  cases hv with
  | tup hl hh =>
    rename_i ys
    have hi : i < ys.length := hl ▸ (List.getElem?_eq_some_iff.1 hr).1
    refine ⟨ys[i], hh i r _ hr (List.getElem?_eq_getElem hi), fun w' _ => ?_⟩
    simp [execOp, ho, hu, Instr.extract, Sem.run_bind, Sem.run_pure, List.getElem?_eq_getElem hi]

/-! ### Slicing -/
/-- A bound of a slice expression, if there is one. -/
def Bound (env : Env) (g : Bool) (x : Option Operand) (d j : Nat) : Prop :=
  match x with
  | none => j = d
  | some y => ∃ (k : IntKind) (p : Int), Ev env g y (.v (.int k p)) ∧ (g = true → p = (j : Int))
theorem Bound.some_ {y : Operand} {d j : Nat} {k : IntKind} {p : Int} (h : Ev env g y (.v (.int k p))) (hp : g = true → p = (j : Int)) : Bound env g (some y) d j := ⟨k, p, h, hp⟩
theorem Bound.none_ {d : Nat} : Bound env g none d d := rfl
theorem run_bounds {P : Program} {a : Act} {w : World} (hs : Sim cx env S a w) (hg : g = true) {isS : Bool} {len cap lo hi : Nat} {xl xh : Option Operand} (hl : Bound env g xl 0 lo) (hh : Bound env g xh len hi) (h1 : lo ≤ hi) (h2 : hi ≤ cap) (w' : World) :
    (Instr.sliceBounds isS len cap (xl.map a.eval) (xh.map a.eval) none).run P w' = .ok (lo, hi, cap) w' := by
  have hh' : (match xh.map a.eval with | some v => Instr.sliceBound v cap (if isS then .sliceAcap else .sliceAlen) | none => pure len).run P w' = .ok hi w' := by
    cases xh with
    | none => simp only [Bound] at hh; subst hh; rfl
    | some y =>
      obtain ⟨k, p, e1, e2⟩ := hh
      have e2 := e2 hg
      subst e2
      simp only [Option.map_some, e1.val hs hg]
      rw [run_sliceBound _ k (hi : Int) cap _ (by omega) (by omega)]
      simp
  have hl' : (match xl.map a.eval with | some v => Instr.sliceBound v hi .sliceB | none => pure 0).run P w' = .ok lo w' := by
    cases xl with
    | none => simp only [Bound] at hl; subst hl; rfl
    | some y =>
      obtain ⟨k, p, e1, e2⟩ := hl
      have e2 := e2 hg
      subst e2
      simp only [Option.map_some, e1.val hs hg]
      rw [run_sliceBound _ k (lo : Int) hi _ (by omega) (by omega)]
      simp
  cases xl <;> cases xh <;> simp_all [Instr.sliceBounds, Sem.run_bind, Sem.run_pure]
theorem Yv.sliceSl {t e : TypeId} {k n lo hi : Nat} {l : List T} {xl xh : Option Operand} (ho : o.op = .slice t x xl xh none) (h : sliceSz cx.P t = some (e, k)) (hk : 0 < k) (hx : Ev env g x (.sl k l)) (hn : l.length = n * k)
    (hl : Bound env g xl 0 lo) (hh : Bound env g xh n hi) (hb : g = true → lo ≤ hi ∧ hi ≤ n) : Yv cx o env S g (.sl k ((l.drop (lo * k)).take ((hi - lo) * k))) := by
  intro a w hs hg
  have hv := hx.rep hs hg
  obtain ⟨hlo, hhi⟩ := hb hg
  generalize hu : a.eval x = u at hv
  obtain ⟨h1, i, h2, h3⟩ := sliceSz_spec h
  have hmap : ∀ (q : Option Operand), (none : Option Operand).map a.eval = none := fun _ => rfl
  have hrun : ∀ (A : Option Addr) (c : Nat) (hc : n ≤ c) (w' : World), a.eval x = .slice A n c → (execOp a.eval o).run cx.P w' = .ok (.value (.slice (if c = lo then A else A.map (·.add (lo * k))) (hi - lo) (c - lo))) w' := by
    intro A c hc w' hA
    have hbnd := run_bounds (P := cx.P) hs hg (isS := true) (cap := c) hl hh hlo (by omega) w'
    simp only [execOp, ho, hA, Instr.sliceAt, Sem.run_bind, run_underlying h1, Result.andThen_ok, Instr.slice, Option.map_none, hbnd, sizeOf, typeInfo, run_program, h2, Sem.run_pure, h3]
  cases hv with
  | sl0 hc =>
    have h0 : n = 0 := by
      have := hn.symm
      simp only [List.length_nil] at this
      rcases Nat.mul_eq_zero.1 this with h | h <;> omega
    subst h0
    obtain rfl : hi = 0 := by omega
    obtain rfl : lo = 0 := by omega
    refine ⟨_, ?_, fun w' _ => hrun _ _ (Nat.zero_le _) w' hu⟩
    simp only [List.drop_nil, List.take_nil, Nat.sub_zero]
    exact .sl0 hc
  | sl hn0 hkl hl' hnc hc hbb hL hcell hh' h1' =>
    rename_i n' c us ad
    have e : n' = n := Nat.eq_of_mul_eq_mul_right hk (hkl.symm.trans hn)
    subst e
    refine ⟨_, ?_, fun w' _ => hrun _ _ hnc w' hu⟩
    by_cases hz : hi - lo = 0
    · rw [hz]
      simp only [Nat.zero_mul, List.take_zero]
      exact .sl0 (by omega)
    · have hne : ¬ (c = lo) := by omega
      rw [if_neg hne]
      have hV := ((VReps.mk hl' hh' h1').drop (lo * k)).take ((hi - lo) * k)
      refine .sl (us := (us.drop (lo * k)).take ((hi - lo) * k)) (by omega) ?_ hV.len (by omega) (by omega) (by rw [block_add]; exact hbb) (by rw [block_add]; exact hL) (fun j v hj => ?_) hV.at_ hV.one
      · rw [List.length_take, List.length_drop, hkl, ← Nat.sub_mul]
        exact Nat.min_eq_left (Nat.mul_le_mul_right k (by omega))
      · rw [List.getElem?_take] at hj
        split at hj
        · rw [List.getElem?_drop] at hj
          rw [add_add']
          exact hcell _ _ hj
        · cases hj
theorem Yv.sliceS {t : TypeId} {lo hi : Nat} {s : ByteArray} {xl xh : Option Operand} (ho : o.op = .slice t x xl xh none) (h : isStr cx.P t = true) (hx : Ev env g x (.v (.string s))) (hl : Bound env g xl 0 lo) (hh : Bound env g xh s.size hi) (hb : g = true → lo ≤ hi ∧ hi ≤ s.size) :
    Yv cx o env S g (.v (.string (s.extract lo hi))) :=
  Yv.plain fun a w hs hg w' => by
    obtain ⟨hlo, hhi⟩ := hb hg
    have hbnd := run_bounds (P := cx.P) hs hg (isS := false) (cap := s.size) hl hh hlo hhi w'
    have hh2 : (if (none : Option Value).isSome = true then stuck "Slice: full slice of a string" else pure ⟨⟩ : Sem PUnit).run cx.P w' = .ok ⟨⟩ w' := rfl
    simp [execOp, ho, hx.val hs hg, Instr.sliceAt, Sem.run_bind, run_underlying (isStr_spec h), Instr.slice, hbnd, Sem.run_pure]

/-! ### Bytes as a string -/
def isBytes (P : Program) (t : TypeId) : Bool :=
  match P.underlying t with
  | some (.slice e) => match P.underlying e with | some (.int .u8) => true | _ => false
  | _ => false
theorem isBytes_spec {P : Program} {t : TypeId} (h : isBytes P t = true) : ∃ e, P.underlying t = some (.slice e) ∧ P.underlying e = some (.int .u8) := by
  unfold isBytes at h
  split at h
  · rename_i e he
    split at h
    · exact ⟨e, he, by assumption⟩
    · cases h
  · cases h
/-- A byte as a tree; bytes. -/
def u8 (b : UInt8) : T := .v (.int .u8 b.toNat)
def u8s (l : List UInt8) : T := .sl 1 (l.map u8)
theorem vreps_u8s {w : World} {L : List Nat} {l : List UInt8} {us : List Value} (h : VReps w L (l.map u8) us) : us = l.map fun b => Value.int .u8 b.toNat := by
  apply List.ext_getElem?
  intro j
  by_cases hj : j < l.length
  · have e1 : (l.map u8)[j]? = some (u8 l[j]) := by simp [List.getElem?_map, List.getElem?_eq_getElem hj]
    obtain ⟨u, e2, e3, _⟩ := h.get e1
    rw [e2, e3.v_inv, List.getElem?_map, List.getElem?_eq_getElem hj]
    rfl
  · have : us.length = l.length := by rw [← h.len]; simp
    rw [List.getElem?_eq_none (by omega), List.getElem?_map, List.getElem?_eq_none (by omega)]
    rfl
theorem bytes_fold (l : List UInt8) : ((l.map fun b => ((b.toNat : Nat) : Int)).foldl (fun r n => r.push (UInt8.ofNat n.toNat)) ByteArray.empty) = ⟨l.toArray⟩ := by
  rw [foldl_push_bytes]
  have h0 : ByteArray.empty.data = #[] := rfl
  rw [h0]
  congr 1
  apply Array.ext'
  simp [List.map_map, Function.comp_def]
theorem run_bytes_string {P : Program} {ρ : Operand → Value} {src dst : TypeId} {A : Option Addr} {n c : Nat} {l : List UInt8} (ho : o.op = .convert src dst x) (hs : isBytes P src = true) (hd : isStr P dst = true) (hx : ρ x = .slice A n c) (w : World)
    (h : (n = 0 ∧ l = []) ∨ ∃ ad, A = some ad ∧ l.length = n ∧ ∀ j u, (l.map fun b => Value.int .u8 b.toNat)[j]? = some u → w.cell? (ad.add j) = some u) :
    (execOp ρ o).run P w = .ok (.value (.string ⟨l.toArray⟩)) w := by
  obtain ⟨e, h1, h2⟩ := isBytes_spec hs
  simp only [execOp, ho, hx, Sem.run_bind, run_convert_bytes_string w src dst e A n c h1 h2 (isStr_spec hd)]
  rcases h with ⟨rfl, rfl⟩ | ⟨ad, rfl, hl, hc⟩
  · cases A with
    | none => rfl
    | some ad =>
      rw [run_bytesToString w ad 0 c [] (run_loadCells_list (P := P) w ad [] (by simp))]
      rfl
  · have := run_loadCells_list (P := P) w ad (l.map fun b => Value.int .u8 b.toNat) hc
    rw [List.length_map, hl] at this
    rw [run_bytesToString w ad n c (l.map fun b => ((b.toNat : Nat) : Int)) (by rw [this]; simp [List.map_map, Function.comp_def])]
    rw [bytes_fold]
    rfl
theorem Yv.bytesStr {src dst : TypeId} {l : List UInt8} (ho : o.op = .convert src dst x) (hs : isBytes cx.P src = true) (hd : isStr cx.P dst = true) (hx : Ev env g x (.sl 1 (l.map u8))) : Yv cx o env S g (.v (.string ⟨l.toArray⟩)) := by
  intro a w hsim hg
  refine ⟨_, .v _, fun w' hk => ?_⟩
  have hv := hx.rep hsim hg
  generalize hu : a.eval x = u at hv
  generalize hl0 : l.map u8 = l0 at hv
  cases hv with
  | sl0 hc => exact run_bytes_string ho hs hd hu w' (.inl ⟨rfl, by simpa using hl0⟩)
  | sl hn hkl hl hnc hc hb hL hcell hh h1 =>
    subst hl0
    have hus := vreps_u8s (VReps.mk hl hh h1)
    subst hus
    refine run_bytes_string ho hs hd hu w' (.inr ⟨_, rfl, by simpa using hkl, fun j u hj => ?_⟩)
    exact (World.cell?_of_block (w := w) (by rw [block_add]; exact hk.block _ hb (by simp))).trans (hcell j u hj)
end
end Go.Proofs.YtjndpakhmgapjaaDoor
