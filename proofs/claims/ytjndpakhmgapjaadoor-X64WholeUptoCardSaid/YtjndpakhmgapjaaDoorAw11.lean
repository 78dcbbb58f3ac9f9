/-
  MORE RULES: a slice held against nil; a slice written out that is then appended to; bits of numbers that do not meet. Generic: no program is named here.
-/
import Derived.Test.YtjndpakhmgapjaaDoorAw10
namespace Go.Proofs.YtjndpakhmgapjaaDoor
open Go Go.RowKit
set_option linter.unusedVariables false

section
variable {cx : Cx} {env : Env} {S : St} {o : Oper} {g : Bool} {x y z : Operand} {ops : Array Oper} {l : List Oper} {K : Env → St → Prop} {Q : Exit → Env → St → Prop} {d : Nat}

theorem Yv.shlCN_i8 {ty yt : TypeId} {k' : IntKind} {p q : Int} (D : Int) (hD : (2 : Int) ^ (min q.toNat IntKind.i8.bits) = D) (hq : 0 ≤ q) (ho : o.op = .binOp .shl ty x y yt) (hx : Ev env g x (.v (.int .i8 p))) (hy : Ev env g y (.v (.int k' q))) (hb : g = true → -128 ≤ p * D ∧ p * D ≤ 127) : Yv cx o env S g (.v (.int .i8 (p * D))) := by
  intro a w hs hg
  have h := Yv.shlC (cx := cx) D hD hq ho hx hy a w hs hg
  rwa [IntWalk.i8_in _ (hb hg)] at h

theorem Yv.shlCN_i16 {ty yt : TypeId} {k' : IntKind} {p q : Int} (D : Int) (hD : (2 : Int) ^ (min q.toNat IntKind.i16.bits) = D) (hq : 0 ≤ q) (ho : o.op = .binOp .shl ty x y yt) (hx : Ev env g x (.v (.int .i16 p))) (hy : Ev env g y (.v (.int k' q))) (hb : g = true → -32768 ≤ p * D ∧ p * D ≤ 32767) : Yv cx o env S g (.v (.int .i16 (p * D))) := by
  intro a w hs hg
  have h := Yv.shlC (cx := cx) D hD hq ho hx hy a w hs hg
  rwa [IntWalk.i16_in _ (hb hg)] at h

theorem Yv.shlCN_i32 {ty yt : TypeId} {k' : IntKind} {p q : Int} (D : Int) (hD : (2 : Int) ^ (min q.toNat IntKind.i32.bits) = D) (hq : 0 ≤ q) (ho : o.op = .binOp .shl ty x y yt) (hx : Ev env g x (.v (.int .i32 p))) (hy : Ev env g y (.v (.int k' q))) (hb : g = true → -2147483648 ≤ p * D ∧ p * D ≤ 2147483647) : Yv cx o env S g (.v (.int .i32 (p * D))) := by
  intro a w hs hg
  have h := Yv.shlC (cx := cx) D hD hq ho hx hy a w hs hg
  rwa [IntWalk.i32_in _ (hb hg)] at h

theorem Yv.shlCN_i64 {ty yt : TypeId} {k' : IntKind} {p q : Int} (D : Int) (hD : (2 : Int) ^ (min q.toNat IntKind.i64.bits) = D) (hq : 0 ≤ q) (ho : o.op = .binOp .shl ty x y yt) (hx : Ev env g x (.v (.int .i64 p))) (hy : Ev env g y (.v (.int k' q))) (hb : g = true → -9223372036854775808 ≤ p * D ∧ p * D ≤ 9223372036854775807) : Yv cx o env S g (.v (.int .i64 (p * D))) := by
  intro a w hs hg
  have h := Yv.shlC (cx := cx) D hD hq ho hx hy a w hs hg
  rwa [IntWalk.i64_in _ (hb hg)] at h

theorem Yv.shlCN_u8 {ty yt : TypeId} {k' : IntKind} {p q : Int} (D : Int) (hD : (2 : Int) ^ (min q.toNat IntKind.u8.bits) = D) (hq : 0 ≤ q) (ho : o.op = .binOp .shl ty x y yt) (hx : Ev env g x (.v (.int .u8 p))) (hy : Ev env g y (.v (.int k' q))) (hb : g = true → 0 ≤ p * D ∧ p * D ≤ 255) : Yv cx o env S g (.v (.int .u8 (p * D))) := by
  intro a w hs hg
  have h := Yv.shlC (cx := cx) D hD hq ho hx hy a w hs hg
  rwa [IntWalk.u8_in _ (hb hg)] at h

theorem Yv.shlCN_u16 {ty yt : TypeId} {k' : IntKind} {p q : Int} (D : Int) (hD : (2 : Int) ^ (min q.toNat IntKind.u16.bits) = D) (hq : 0 ≤ q) (ho : o.op = .binOp .shl ty x y yt) (hx : Ev env g x (.v (.int .u16 p))) (hy : Ev env g y (.v (.int k' q))) (hb : g = true → 0 ≤ p * D ∧ p * D ≤ 65535) : Yv cx o env S g (.v (.int .u16 (p * D))) := by
  intro a w hs hg
  have h := Yv.shlC (cx := cx) D hD hq ho hx hy a w hs hg
  rwa [IntWalk.u16_in _ (hb hg)] at h

theorem Yv.shlCN_u32 {ty yt : TypeId} {k' : IntKind} {p q : Int} (D : Int) (hD : (2 : Int) ^ (min q.toNat IntKind.u32.bits) = D) (hq : 0 ≤ q) (ho : o.op = .binOp .shl ty x y yt) (hx : Ev env g x (.v (.int .u32 p))) (hy : Ev env g y (.v (.int k' q))) (hb : g = true → 0 ≤ p * D ∧ p * D ≤ 4294967295) : Yv cx o env S g (.v (.int .u32 (p * D))) := by
  intro a w hs hg
  have h := Yv.shlC (cx := cx) D hD hq ho hx hy a w hs hg
  rwa [IntWalk.u32_in _ (hb hg)] at h

theorem Yv.shlCN_u64 {ty yt : TypeId} {k' : IntKind} {p q : Int} (D : Int) (hD : (2 : Int) ^ (min q.toNat IntKind.u64.bits) = D) (hq : 0 ≤ q) (ho : o.op = .binOp .shl ty x y yt) (hx : Ev env g x (.v (.int .u64 p))) (hy : Ev env g y (.v (.int k' q))) (hb : g = true → 0 ≤ p * D ∧ p * D ≤ 18446744073709551615) : Yv cx o env S g (.v (.int .u64 (p * D))) := by
  intro a w hs hg
  have h := Yv.shlC (cx := cx) D hD hq ho hx hy a w hs hg
  rwa [IntWalk.u64_in _ (hb hg)] at h

/-- A byte as an integer of another kind. -/
def wide : IntKind → Bool
  | .i8 => false
  | _ => true
theorem Yv.convU8 {src dst : TypeId} {k' : IntKind} {b : UInt8} {d : TypeDesc} (ho : o.op = .convert src dst x) (hs : cx.P.underlying src = some d) (hd : kindOf cx.P dst = some k') (hk : wide k' = true) (hx : Ev env g x (u8 b)) : Yv cx o env S g (.v (.int k' b.toNat)) := by
  intro a w hsim hg
  have h := Yv.conv (cx := cx) (k := .u8) (p := b.toNat) ho hs hd hx a w hsim hg
  have hb := b.toNat_lt
  have e : k'.wrap (b.toNat : Int) = b.toNat := by
    cases k' with
    | i8 => cases hk
    | i16 => exact IntWalk.i16_in _ ⟨by omega, by omega⟩
    | i32 => exact IntWalk.i32_in _ ⟨by omega, by omega⟩
    | i64 => exact IntWalk.i64_in _ ⟨by omega, by omega⟩
    | u8 => exact IntWalk.u8_in _ ⟨by omega, by omega⟩
    | u16 => exact IntWalk.u16_in _ ⟨by omega, by omega⟩
    | u32 => exact IntWalk.u32_in _ ⟨by omega, by omega⟩
    | u64 => exact IntWalk.u64_in _ ⟨by omega, by omega⟩
  rwa [e] at h

/-- An operation that yields one of some trees. -/
def Yx (cx : Cx) (o : Oper) (env : Env) (S : St) (p : T → Prop) : Prop :=
  ∀ a w, Sim cx env S a w → ∃ t u, p t ∧ VRep w (cx.X ++ M S) t u ∧ ∀ w', Keeps [] w w' → (execOp a.eval o).run cx.P w' = .ok (.value u) w'
theorem AWL.yx {p : T → Prop} (hg : o.guard = none) (hd : o.dst = some d) (hN : d < cx.N) (h : Yx cx o env S p) (hr : ∀ t, p t → AWL cx ops l K ((d, true, t) :: env) S) : AWL cx ops (o :: l) K env S := by
  intro a w hs
  unfold wpList
  rw [if_pos (wanted_none hg)]
  obtain ⟨t, u, hp, h1, h2⟩ := h a w hs
  refine .inl ?_
  unfold Oper.wp
  rw [h2 w (Keeps.refl _ _), Oper.upon_value, hd]
  exact hr t hp _ _ (hs.put hN (fun _ => h1) (by simp))

/-- A slice against nil. -/
theorem Yx.eqNil {ty yt e : TypeId} {k : Nat} {cs : List T} (ho : o.op = .binOp .eql ty x (.const (.slice none 0 0)) yt) (ht : sliceOf cx.P ty = some e) (hx : Ev env true x (.sl k cs)) : Yx cx o env S (fun t => ∃ b : Bool, t = .v (.bool b) ∧ (b = true → cs = [])) := by
  intro a w hs
  have hv := hx.rep hs rfl
  have hrun : ∀ (A : Option Addr) (n c : Nat) (w' : World), a.eval x = .slice A n c → (execOp a.eval o).run cx.P w' = .ok (.value (.bool A.isNone)) w' := by
    intro A n c w' hA
    have hgd : eqGuard .eql ty x (.const (.slice none 0 0)) (.slice A n c) (.slice none 0 0) = pure () := by unfold eqGuard; split <;> rfl
    have h2 := Lib.run_eql_slice_nil (P := cx.P) (w := w') ty e A n c 0 0 (sliceOf_spec ht)
    have h3 : a.eval (.const (.slice none 0 0)) = .slice none 0 0 := rfl
    simp only [execOp, ho, hA, h3, hgd, Sem.run_bind, Sem.run_pure, Result.andThen_ok, h2]
  generalize hu : a.eval x = u at hv
  cases hv with
  | sl0 hc => rename_i c A; exact ⟨_, _, ⟨A.isNone, rfl, fun _ => rfl⟩, .v _, fun w' _ => hrun A 0 c w' hu⟩
  | sl hn hkl hl hnc hc hb hL hcell hh h1 => rename_i n c us ad; exact ⟨_, _, ⟨false, rfl, fun h => by cases h⟩, .v _, fun w' _ => hrun (some ad) n c w' hu⟩

/-- A slice written out that the call may append to. -/
theorem AWL.buildSliceRow {t e : TypeId} {n k b : Nat} {zs : List Value} {parts : Array (Nat × Operand)} {ts : List T} (hg : o.guard = none) (hd : o.dst = some d) (hN : d < cx.N) (ho : o.op = .buildSlice t n parts)
    (he : elemOf cx.P t = some (e, k, b, zs)) (hk : 0 < k) (hi : idxOk 0 parts.toList = true) (hp : Evs env true (parts.toList.map (·.2)) ts) (hn : n * k ≤ 16777216) (hl : ts.length = n) (hall : (ts.all fun t => t.cellish && ((cellsT t).length == k)) = true)
    (hr : ∀ A, AWL cx ops l K ((d, true, .v (.slice A n n)) :: env) (S ++ [.row A n n e k (ts.flatMap cellsT)])) : AWL cx ops (o :: l) K env S := by
  refine AWL.eff hg hd hN fun a w hs => ?_
  obtain ⟨h1, i, z, h2, h3, h4, h5, h6, h7, h8⟩ := elemOf_spec he
  have hall' : ∀ t ∈ ts, t.cellish = true ∧ (cellsT t).length = k := fun t ht => by
    have := List.all_eq_true.1 hall t ht
    simpa using this
  have hfl : ((List.replicate n (zs.map T.v)).flatten).length = n * k := flat_len n k _ (by simpa using h7)
  have hf := fill_enum ts 0 ((List.replicate n (zs.map T.v)).flatten) hall' (by rw [hfl, hl, Nat.zero_add]; exact Nat.le_refl _)
  rw [Nat.zero_add, hl, Nat.zero_mul, List.take_zero, List.nil_append, List.drop_of_length_le (by rw [hfl]; exact Nat.le_refl _), List.append_nil] at hf
  obtain ⟨e1, e2⟩ := (evParts_enum hi hp).spec hs rfl
  have hz : VReps w (cx.X ++ M S) ((List.replicate n (zs.map T.v)).flatten) ((Array.range (n * k)).map (zs.toArray[· % zs.toArray.size]!)).toList := by rw [rep_range h7]; exact vreps_flat n zs h8
  obtain ⟨cells, c1, c2⟩ := fill_spec _ _ _ _ _ hz e1 e2 hf
  have hlen : (ts.flatMap cellsT).length = n * k := by
    rw [← hl]
    clear c2 hf hfl hl hp hall hr c1 e1 e2
    induction ts with
    | nil => simp
    | cons t r ih =>
      rw [List.flatMap_cons, List.length_append, (hall' t List.mem_cons_self).2, ih (fun t ht => hall' t (List.mem_cons_of_mem _ ht)), List.length_cons, Nat.succ_mul, Nat.add_comm]
  have hka := keeps_alloc w (.cells cells e)
  refine ⟨.slice (some ⟨w.heap.size, 0, none⟩) n n, w.alloc (.cells cells e), _, _, ?_, ?_, .v _, hr _⟩
  · have hlim : ¬ (n * k > 2 ^ 24) := by omega
    simp only [execOp, ho, Instr.buildSlice, Sem.run_bind, run_underlying h1, Result.andThen_ok, sizeOf, typeInfo, run_program, h2, h4, Sem.run_pure]
    rw [if_neg hlim]
    have hl' : (Array.map (fun p : Nat × Operand => (p.1, a.eval p.2)) parts).toList = parts.toList.map fun p => (p.1, a.eval p.2) := by simp
    by_cases h0 : n * k = 0
    · rw [if_pos h0]
      rw [h0, show Array.range 0 = #[] from rfl, Array.map_empty] at c1
      have hfill : Instr.fill (fun i => some (i * k, k)) ((Array.range (n * k)).map fun x => (#[] : Array Value)[x % (#[] : Array Value).size]!) (Array.map (fun p : Nat × Operand => (p.1, a.eval p.2)) parts).toList = some cells := by
        rw [h0, show Array.range 0 = #[] from rfl, Array.map_empty, hl']
        exact c1
      simp only [Sem.run_bind, Sem.run_pure, Result.andThen_ok, hfill, newRow, run_newObj]
      rfl
    · rw [if_neg h0]
      have hfill : Instr.fill (fun i => some (i * k, k)) ((Array.range (n * k)).map fun x => zs.toArray[x % zs.toArray.size]!) (Array.map (fun p : Nat × Operand => (p.1, a.eval p.2)) parts).toList = some cells := by
        rw [hl']
        exact c1
      simp only [Sem.run_bind, Sem.run_pure, Result.andThen_ok, zeroValue, typeInfo, run_program, h2, h3, h6, hfill, newRow, run_newObj]
      rfl
  · have hm : n ≤ maxLen := by
      unfold maxLen
      have : n ≤ n * k := Nat.le_mul_of_pos_right n hk
      omega
    refine hs.add rfl hka ⟨cells.toList, ⟨by rw [← c2.len, hlen], hm, Nat.le_refl _, .inr ⟨w.heap.size, cells, (0, 0), rfl, heap_alloc_new w _, .inl rfl, ?_, ?_⟩⟩, hs.repsAdd rfl hka c2⟩
    · have := c2.len
      rw [hlen] at this
      simpa using this.symm
    · have := c2.len
      rw [hlen] at this
      rw [this]
      exact List.take_length
end

/-! ### Bits -/
theorem ofInt_nat (b : Nat) (p : Nat) : (BitVec.ofInt b (p : Int)).toNat = p % 2 ^ b := by simp
theorem bits_and_mask {k : IntKind} {n : Nat} (p : Nat) (hp : (p : Int) ≤ k.max) (hn : n < k.bits) (hk : k.wrap ((p % 2 ^ n : Nat) : Int) = ((p % 2 ^ n : Nat) : Int)) (hpb : p < 2 ^ k.bits) : bitsOf .and k (p : Int) ((2 ^ n - 1 : Nat) : Int) = ((p % 2 ^ n : Nat) : Int) := by
  have h1 : 2 ^ n - 1 < 2 ^ k.bits := by
    have : 2 ^ n ≤ 2 ^ k.bits := Nat.pow_le_pow_right (by decide) (by omega)
    have : 0 < 2 ^ n := Nat.pow_pos (by decide)
    omega
  simp only [bitsOf, BitVec.toNat_and, ofInt_nat]
  rw [Nat.mod_eq_of_lt hpb, Nat.mod_eq_of_lt h1, Nat.and_two_pow_sub_one_eq_mod, hk]
theorem bits_or_add {k : IntKind} {m D Bd : Nat} (p q : Nat) (hD : 2 ^ m = D) (hB : 2 ^ k.bits = Bd) (hq : q < D) (hpq : p * D + q < Bd) (hk : k.wrap ((p * D + q : Nat) : Int) = ((p * D + q : Nat) : Int)) : bitsOf .or k ((p * D : Nat) : Int) (q : Int) = ((p * D + q : Nat) : Int) := by
  subst hD
  simp only [bitsOf, BitVec.toNat_or, ofInt_nat, hB]
  rw [Nat.mod_eq_of_lt (by omega), Nat.mod_eq_of_lt (by omega)]
  have h := Nat.shiftLeft_add_eq_or_of_lt hq p
  rw [Nat.shiftLeft_eq] at h
  rw [← h, hk]
end Go.Proofs.YtjndpakhmgapjaaDoor
