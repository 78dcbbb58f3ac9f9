/-
  MORE RULES: masks; a slice in a box's cell that is no more appended to. Generic: no program is named here.
-/
import Derived.Test.YtjndpakhmgapjaaDoorAw11
namespace Go.Proofs.YtjndpakhmgapjaaDoor
open Go Go.RowKit
set_option linter.unusedVariables false

theorem bits_and_mod {k : IntKind} {n D : Nat} (p : Nat) (hD : 2 ^ n = D) (hDk : D ≤ 2 ^ k.bits) (hpb : p < 2 ^ k.bits) (hk : k.wrap ((p % D : Nat) : Int) = ((p % D : Nat) : Int)) : bitsOf .and k (p : Int) ((D - 1 : Nat) : Int) = ((p % D : Nat) : Int) := by
  subst hD
  have h1 : 2 ^ n - 1 < 2 ^ k.bits := by
    have : 0 < 2 ^ n := Nat.pow_pos (by decide)
    omega
  simp only [bitsOf, BitVec.toNat_and, ofInt_nat]
  rw [Nat.mod_eq_of_lt hpb, Nat.mod_eq_of_lt h1, Nat.and_two_pow_sub_one_eq_mod, hk]

section
variable {cx : Cx} {env : Env} {S : St} {o : Oper} {g : Bool} {x y z : Operand} {ops : Array Oper} {l : List Oper} {K : Env → St → Prop} {Q : Exit → Env → St → Prop} {d : Nat}

theorem Yv.andN_i8 {ty yt : TypeId} {p q : Int} (n : Nat) (D : Nat) (hD : 2 ^ n = D) (hDk : D ≤ 256) (hq : q = ((D - 1 : Nat) : Int)) (ho : o.op = .binOp .and ty x y yt) (hx : Ev env g x (.v (.int .i8 p))) (hy : Ev env g y (.v (.int .i8 q))) (hb : g = true → 0 ≤ p ∧ p ≤ 127) : Yv cx o env S g (.v (.int .i8 (p % (D : Int)))) := by
  intro a w hs hg
  obtain ⟨h0, h1⟩ := hb hg
  have h := Yv.bits (cx := cx) ho rfl hx hy a w hs hg
  obtain ⟨p, rfl⟩ := Int.eq_ofNat_of_zero_le h0
  have hB : (2 : Nat) ^ IntKind.i8.bits = 256 := by decide
  have hm : p % D ≤ p := Nat.mod_le p D
  have e := bits_and_mod (k := .i8) p hD (hB ▸ hDk) (by rw [hB]; omega) (IntWalk.i8_in _ ⟨by omega, by omega⟩)
  rw [hq, e, Int.natCast_emod] at h
  exact h

theorem Yv.andN_i16 {ty yt : TypeId} {p q : Int} (n : Nat) (D : Nat) (hD : 2 ^ n = D) (hDk : D ≤ 65536) (hq : q = ((D - 1 : Nat) : Int)) (ho : o.op = .binOp .and ty x y yt) (hx : Ev env g x (.v (.int .i16 p))) (hy : Ev env g y (.v (.int .i16 q))) (hb : g = true → 0 ≤ p ∧ p ≤ 32767) : Yv cx o env S g (.v (.int .i16 (p % (D : Int)))) := by
  intro a w hs hg
  obtain ⟨h0, h1⟩ := hb hg
  have h := Yv.bits (cx := cx) ho rfl hx hy a w hs hg
  obtain ⟨p, rfl⟩ := Int.eq_ofNat_of_zero_le h0
  have hB : (2 : Nat) ^ IntKind.i16.bits = 65536 := by decide
  have hm : p % D ≤ p := Nat.mod_le p D
  have e := bits_and_mod (k := .i16) p hD (hB ▸ hDk) (by rw [hB]; omega) (IntWalk.i16_in _ ⟨by omega, by omega⟩)
  rw [hq, e, Int.natCast_emod] at h
  exact h

theorem Yv.andN_i32 {ty yt : TypeId} {p q : Int} (n : Nat) (D : Nat) (hD : 2 ^ n = D) (hDk : D ≤ 4294967296) (hq : q = ((D - 1 : Nat) : Int)) (ho : o.op = .binOp .and ty x y yt) (hx : Ev env g x (.v (.int .i32 p))) (hy : Ev env g y (.v (.int .i32 q))) (hb : g = true → 0 ≤ p ∧ p ≤ 2147483647) : Yv cx o env S g (.v (.int .i32 (p % (D : Int)))) := by
  intro a w hs hg
  obtain ⟨h0, h1⟩ := hb hg
  have h := Yv.bits (cx := cx) ho rfl hx hy a w hs hg
  obtain ⟨p, rfl⟩ := Int.eq_ofNat_of_zero_le h0
  have hB : (2 : Nat) ^ IntKind.i32.bits = 4294967296 := by decide
  have hm : p % D ≤ p := Nat.mod_le p D
  have e := bits_and_mod (k := .i32) p hD (hB ▸ hDk) (by rw [hB]; omega) (IntWalk.i32_in _ ⟨by omega, by omega⟩)
  rw [hq, e, Int.natCast_emod] at h
  exact h

theorem Yv.andN_i64 {ty yt : TypeId} {p q : Int} (n : Nat) (D : Nat) (hD : 2 ^ n = D) (hDk : D ≤ 18446744073709551616) (hq : q = ((D - 1 : Nat) : Int)) (ho : o.op = .binOp .and ty x y yt) (hx : Ev env g x (.v (.int .i64 p))) (hy : Ev env g y (.v (.int .i64 q))) (hb : g = true → 0 ≤ p ∧ p ≤ 9223372036854775807) : Yv cx o env S g (.v (.int .i64 (p % (D : Int)))) := by
  intro a w hs hg
  obtain ⟨h0, h1⟩ := hb hg
  have h := Yv.bits (cx := cx) ho rfl hx hy a w hs hg
  obtain ⟨p, rfl⟩ := Int.eq_ofNat_of_zero_le h0
  have hB : (2 : Nat) ^ IntKind.i64.bits = 18446744073709551616 := by decide
  have hm : p % D ≤ p := Nat.mod_le p D
  have e := bits_and_mod (k := .i64) p hD (hB ▸ hDk) (by rw [hB]; omega) (IntWalk.i64_in _ ⟨by omega, by omega⟩)
  rw [hq, e, Int.natCast_emod] at h
  exact h

theorem Yv.andN_u8 {ty yt : TypeId} {p q : Int} (n : Nat) (D : Nat) (hD : 2 ^ n = D) (hDk : D ≤ 256) (hq : q = ((D - 1 : Nat) : Int)) (ho : o.op = .binOp .and ty x y yt) (hx : Ev env g x (.v (.int .u8 p))) (hy : Ev env g y (.v (.int .u8 q))) (hb : g = true → 0 ≤ p ∧ p ≤ 255) : Yv cx o env S g (.v (.int .u8 (p % (D : Int)))) := by
  intro a w hs hg
  obtain ⟨h0, h1⟩ := hb hg
  have h := Yv.bits (cx := cx) ho rfl hx hy a w hs hg
  obtain ⟨p, rfl⟩ := Int.eq_ofNat_of_zero_le h0
  have hB : (2 : Nat) ^ IntKind.u8.bits = 256 := by decide
  have hm : p % D ≤ p := Nat.mod_le p D
  have e := bits_and_mod (k := .u8) p hD (hB ▸ hDk) (by rw [hB]; omega) (IntWalk.u8_in _ ⟨by omega, by omega⟩)
  rw [hq, e, Int.natCast_emod] at h
  exact h

theorem Yv.andN_u16 {ty yt : TypeId} {p q : Int} (n : Nat) (D : Nat) (hD : 2 ^ n = D) (hDk : D ≤ 65536) (hq : q = ((D - 1 : Nat) : Int)) (ho : o.op = .binOp .and ty x y yt) (hx : Ev env g x (.v (.int .u16 p))) (hy : Ev env g y (.v (.int .u16 q))) (hb : g = true → 0 ≤ p ∧ p ≤ 65535) : Yv cx o env S g (.v (.int .u16 (p % (D : Int)))) := by
  intro a w hs hg
  obtain ⟨h0, h1⟩ := hb hg
  have h := Yv.bits (cx := cx) ho rfl hx hy a w hs hg
  obtain ⟨p, rfl⟩ := Int.eq_ofNat_of_zero_le h0
  have hB : (2 : Nat) ^ IntKind.u16.bits = 65536 := by decide
  have hm : p % D ≤ p := Nat.mod_le p D
  have e := bits_and_mod (k := .u16) p hD (hB ▸ hDk) (by rw [hB]; omega) (IntWalk.u16_in _ ⟨by omega, by omega⟩)
  rw [hq, e, Int.natCast_emod] at h
  exact h

theorem Yv.andN_u32 {ty yt : TypeId} {p q : Int} (n : Nat) (D : Nat) (hD : 2 ^ n = D) (hDk : D ≤ 4294967296) (hq : q = ((D - 1 : Nat) : Int)) (ho : o.op = .binOp .and ty x y yt) (hx : Ev env g x (.v (.int .u32 p))) (hy : Ev env g y (.v (.int .u32 q))) (hb : g = true → 0 ≤ p ∧ p ≤ 4294967295) : Yv cx o env S g (.v (.int .u32 (p % (D : Int)))) := by
  intro a w hs hg
  obtain ⟨h0, h1⟩ := hb hg
  have h := Yv.bits (cx := cx) ho rfl hx hy a w hs hg
  obtain ⟨p, rfl⟩ := Int.eq_ofNat_of_zero_le h0
  have hB : (2 : Nat) ^ IntKind.u32.bits = 4294967296 := by decide
  have hm : p % D ≤ p := Nat.mod_le p D
  have e := bits_and_mod (k := .u32) p hD (hB ▸ hDk) (by rw [hB]; omega) (IntWalk.u32_in _ ⟨by omega, by omega⟩)
  rw [hq, e, Int.natCast_emod] at h
  exact h

theorem Yv.andN_u64 {ty yt : TypeId} {p q : Int} (n : Nat) (D : Nat) (hD : 2 ^ n = D) (hDk : D ≤ 18446744073709551616) (hq : q = ((D - 1 : Nat) : Int)) (ho : o.op = .binOp .and ty x y yt) (hx : Ev env g x (.v (.int .u64 p))) (hy : Ev env g y (.v (.int .u64 q))) (hb : g = true → 0 ≤ p ∧ p ≤ 18446744073709551615) : Yv cx o env S g (.v (.int .u64 (p % (D : Int)))) := by
  intro a w hs hg
  obtain ⟨h0, h1⟩ := hb hg
  have h := Yv.bits (cx := cx) ho rfl hx hy a w hs hg
  obtain ⟨p, rfl⟩ := Int.eq_ofNat_of_zero_le h0
  have hB : (2 : Nat) ^ IntKind.u64.bits = 18446744073709551616 := by decide
  have hm : p % D ≤ p := Nat.mod_le p D
  have e := bits_and_mod (k := .u64) p hD (hB ▸ hDk) (by rw [hB]; omega) (IntWalk.u64_in _ ⟨by omega, by omega⟩)
  rw [hq, e, Int.natCast_emod] at h
  exact h


theorem Yv.sliceMap {α : Type} {t e : TypeId} {lo hi : Nat} {xs : List α} {f : α → T} {xl xh : Option Operand} (ho : o.op = .slice t x xl xh none) (h : sliceSz cx.P t = some (e, 1)) (hx : Ev env g x (.sl 1 (xs.map f)))
    (hl : Bound env g xl 0 lo) (hh : Bound env g xh xs.length hi) (hb : g = true → lo ≤ hi ∧ hi ≤ xs.length) : Yv cx o env S g (.sl 1 (((xs.drop lo).take (hi - lo)).map f)) := by
  have := Yv.sliceSl (cx := cx) (S := S) (n := xs.length) ho h (by decide) hx (by simp) hl hh hb
  simp only [Nat.mul_one] at this
  rw [← List.map_drop, ← List.map_take] at this
  exact this
/-- A call that hands back a tree and makes at most memory of its own: what else it leaves is forgotten. -/
theorem AWL.callT {f : FuncId} {xf : Operand} {xs : Array Operand} {ats : Array TypeId} {fst cap : Array Value} {ts : List T} {R : T → St → Prop} (hg : o.guard = none) (hd : o.dst = some d) (hN : d < cx.N)
    (ho : o.op = .call { callee := .value xf, args := xs, argTypes := ats }) (hf : calleeB cx.P f = true) (hxf : Ev env true xf (.v (.func (.func f) fst cap))) (hx : Evs env true xs.toList ts)
    (hc : ACalls cx.P f (fst.toList.map T.v ++ (ts ++ cap.toList.map T.v)) [] R) (hr : ∀ t S', R t S' → AWL cx ops l K ((d, true, t) :: env) S) : AWL cx ops (o :: l) K env S :=
  AWL.call hg hd hN ho hf hxf hx (S1 := []) (S2 := S) rfl hc fun t S' hR => AWL.drop (List.sublist_append_right S' S) (hr t S' hR)
theorem AW.dropAt {code : Code} (i : Nat) (h : AW cx code Q env (S.eraseIdx i)) : AW cx code Q env S := AW.drop (List.eraseIdx_sublist S i) h
theorem AWL.dropAt (i : Nat) (h : AWL cx ops l K env (S.eraseIdx i)) : AWL cx ops l K env S := AWL.drop (List.eraseIdx_sublist S i) h
theorem Sim.freezeCell {a : Act} {w : World} (hs : Sim cx env S a w) {i j p n c k b ty : Nat} {A : Option Addr} {e : TypeId} {cs bs : List T} (hi : S[i]? = some (.row A n c e k cs)) (hk : 0 < k) (hj : (S.eraseIdx i)[j]? = some (.box b ty bs)) (hp : bs[p]? = some (.v (.slice A n c))) :
    Sim cx env ((S.eraseIdx i).set j (.box b ty (bs.set p (.sl k cs)))) a w := by
  obtain ⟨h1, h2⟩ := hs.freeze hi hk
  obtain ⟨us, hh, hV⟩ := h1.box hj
  refine h1.setEnt hj rfl (fun _ _ _ => rfl) rfl rfl rfl rfl ⟨us, hh, ?_⟩
  obtain ⟨u, e1, e2, e3⟩ := hV.get hp
  obtain rfl := e2.v_inv
  have := hV.set p h2 e3
  have hu : us.set p (.slice A n c) = us := by
    apply List.ext_getElem?
    intro q
    rw [List.getElem?_set]
    split
    · rename_i hq
      subst hq
      rw [e1]
      split
      · rfl
      · rename_i hn
        rw [List.getElem?_eq_none (by omega)] at e1
        cases e1
    · rfl
  rwa [hu] at this
theorem AW.freezeCell {code : Code} {n c k b ty : Nat} {A : Option Addr} {e : TypeId} {cs bs : List T} (i j p : Nat) (hi : S[i]? = some (.row A n c e k cs)) (hk : 0 < k) (hj : (S.eraseIdx i)[j]? = some (.box b ty bs)) (hp : bs[p]? = some (.v (.slice A n c))) (h : AW cx code Q env ((S.eraseIdx i).set j (.box b ty (bs.set p (.sl k cs))))) : AW cx code Q env S := fun a w hs => h a w (hs.freezeCell hi hk hj hp)
theorem AWL.freezeCell {n c k b ty : Nat} {A : Option Addr} {e : TypeId} {cs bs : List T} (i j p : Nat) (hi : S[i]? = some (.row A n c e k cs)) (hk : 0 < k) (hj : (S.eraseIdx i)[j]? = some (.box b ty bs)) (hp : bs[p]? = some (.v (.slice A n c))) (h : AWL cx ops l K env ((S.eraseIdx i).set j (.box b ty (bs.set p (.sl k cs))))) : AWL cx ops l K env S := fun a w hs => h a w (hs.freezeCell hi hk hj hp)
end
end Go.Proofs.YtjndpakhmgapjaaDoor
