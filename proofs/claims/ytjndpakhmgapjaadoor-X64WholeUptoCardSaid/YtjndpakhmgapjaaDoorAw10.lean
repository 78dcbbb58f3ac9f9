/-
  SHORT FORMS of the rules, for walks that are printed by program; arithmetic that does not overflow. Generic: no program is named here.
-/
import Derived.Test.YtjndpakhmgapjaaDoorAw9
namespace Go.Proofs.YtjndpakhmgapjaaDoor
open Go Go.RowKit
set_option linter.unusedVariables false

theorem B {a b : Nat} (h : Nat.ble (a + 1) b = true) : a < b := Nat.le_of_ble_eq_true h
theorem al {a b : Bool} (h : (a && b) = true) : a = true := (Bool.and_eq_true_iff.1 h).1
theorem ar {a b : Bool} (h : (a && b) = true) : b = true := (Bool.and_eq_true_iff.1 h).2

section
variable {cx : Cx} {env : Env} {S : St} {o : Oper} {g : Bool} {x y z : Operand} {ops : Array Oper} {l : List Oper} {K : Env → St → Prop} {Q : Exit → Env → St → Prop} {d : Nat}

theorem evs0 : Evs env g [] [] := trivial
theorem evsC {t : T} {xs : List Operand} {ts : List T} (h : Ev env g x t) (hr : Evs env g xs ts) : Evs env g (x :: xs) (t :: ts) := ⟨h, hr⟩
theorem evp0 : EvParts env g [] [] := trivial
theorem evpC {t : T} {i : Nat} {xs : List (Nat × Operand)} {ts : List (Nat × T)} (h : Ev env g x t) (hr : EvParts env g xs ts) : EvParts env g ((i, x) :: xs) ((i, t) :: ts) := ⟨rfl, h, hr⟩
theorem E {t : T} (h : ev env x = some (true, t)) (hp : plainConst x = true) : Ev env g x t := ⟨true, h, hp, fun _ => rfl⟩
theorem Eg {c : Bool} {t : T} (h : ev env x = some (c, t)) (hp : plainConst x = true) (hc : g = true → c = true) : Ev env g x t := ⟨c, h, hp, hc⟩

theorem AWL.ygT {j dj : Nat} {t : T} {c b : Bool} (hg : o.guard = some (j, true)) (hj : (ops[j]?).bind (·.dst) = some dj) (hk : get dj env = some (c, .v (.bool b)))
    (hd : o.dst = some d) (hN : d < cx.N) (h : Yv cx o env S (c && b) t) (hr : AWL cx ops l K ((d, (c && b), t) :: env) S) : AWL cx ops (o :: l) K env S := by
  have e : (c && (b == true)) = (c && b) := by cases b <;> rfl
  exact AWL.yg hg hj hk hd hN (e ▸ h) (e ▸ hr)
theorem AWL.ygF {j dj : Nat} {t : T} {c b : Bool} (hg : o.guard = some (j, false)) (hj : (ops[j]?).bind (·.dst) = some dj) (hk : get dj env = some (c, .v (.bool b)))
    (hd : o.dst = some d) (hN : d < cx.N) (h : Yv cx o env S (c && !b) t) (hr : AWL cx ops l K ((d, (c && !b), t) :: env) S) : AWL cx ops (o :: l) K env S := by
  have e : (c && (b == false)) = (c && !b) := by cases b <;> rfl
  exact AWL.yg hg hj hk hd hN (e ▸ h) (e ▸ hr)
theorem AWQ.ygT {j dj : Nat} {t : T} {c b : Bool} (hg : o.guard = some (j, true)) (hj : (ops[j]?).bind (·.dst) = some dj) (hk : get dj env = some (c, .v (.bool b)))
    (hd : o.dst = some d) (hN : d < cx.N) (h : Yv cx o env S (c && b) t) (hr : AWQ cx ops l K ((d, (c && b), t) :: env) S) : AWQ cx ops (o :: l) K env S := by
  have e : (c && (b == true)) = (c && b) := by cases b <;> rfl
  exact AWQ.yg hg hj hk hd hN (e ▸ h) (e ▸ hr)
theorem AWQ.ygF {j dj : Nat} {t : T} {c b : Bool} (hg : o.guard = some (j, false)) (hj : (ops[j]?).bind (·.dst) = some dj) (hk : get dj env = some (c, .v (.bool b)))
    (hd : o.dst = some d) (hN : d < cx.N) (h : Yv cx o env S (c && !b) t) (hr : AWQ cx ops l K ((d, (c && !b), t) :: env) S) : AWQ cx ops (o :: l) K env S := by
  have e : (c && (b == false)) = (c && !b) := by cases b <;> rfl
  exact AWQ.yg hg hj hk hd hN (e ▸ h) (e ▸ hr)

theorem AWL.callPgT {f : FuncId} {xf : Operand} {xs : Array Operand} {ats : Array TypeId} {fst cap : Array Value} {ts : List T} {R : T → St → Prop} {r : Value} {j dj : Nat} {c b : Bool} (hg : o.guard = some (j, true)) (hj : (ops[j]?).bind (·.dst) = some dj) (hk : get dj env = some (c, .v (.bool b)))
    (hd : o.dst = some d) (hN : d < cx.N) (ho : o.op = .call { callee := .value xf, args := xs, argTypes := ats }) (hf : calleeB cx.P f = true) (hxf : Ev env (c && b) xf (.v (.func (.func f) fst cap))) (hx : Evs env (c && b) xs.toList ts)
    (hc : (c && b) = true → ACalls cx.P f (fst.toList.map T.v ++ (ts ++ cap.toList.map T.v)) [] R) (hq : ∀ t S', R t S' → t = .v r) (hr : AWL cx ops l K ((d, (c && b), .v r) :: env) S) : AWL cx ops (o :: l) K env S := by
  have e : (c && (b == true)) = (c && b) := by cases b <;> rfl
  exact AWL.callPg hg hj hk hd hN ho hf (e ▸ hxf) (e ▸ hx) (fun h => hc (e ▸ h)) hq (e ▸ hr)

theorem AWL.callPgF {f : FuncId} {xf : Operand} {xs : Array Operand} {ats : Array TypeId} {fst cap : Array Value} {ts : List T} {R : T → St → Prop} {r : Value} {j dj : Nat} {c b : Bool} (hg : o.guard = some (j, false)) (hj : (ops[j]?).bind (·.dst) = some dj) (hk : get dj env = some (c, .v (.bool b)))
    (hd : o.dst = some d) (hN : d < cx.N) (ho : o.op = .call { callee := .value xf, args := xs, argTypes := ats }) (hf : calleeB cx.P f = true) (hxf : Ev env (c && !b) xf (.v (.func (.func f) fst cap))) (hx : Evs env (c && !b) xs.toList ts)
    (hc : (c && !b) = true → ACalls cx.P f (fst.toList.map T.v ++ (ts ++ cap.toList.map T.v)) [] R) (hq : ∀ t S', R t S' → t = .v r) (hr : AWL cx ops l K ((d, (c && !b), .v r) :: env) S) : AWL cx ops (o :: l) K env S := by
  have e : (c && (b == false)) = (c && !b) := by cases b <;> rfl
  exact AWL.callPg hg hj hk hd hN ho hf (e ▸ hxf) (e ▸ hx) (fun h => hc (e ▸ h)) hq (e ▸ hr)

theorem AWQ.callPgT {f : FuncId} {xf : Operand} {xs : Array Operand} {ats : Array TypeId} {fst cap : Array Value} {ts : List T} {R : T → St → Prop} {r : Value} {j dj : Nat} {c b : Bool} (hg : o.guard = some (j, true)) (hj : (ops[j]?).bind (·.dst) = some dj) (hk : get dj env = some (c, .v (.bool b)))
    (hd : o.dst = some d) (hN : d < cx.N) (ho : o.op = .call { callee := .value xf, args := xs, argTypes := ats }) (hf : calleeB cx.P f = true) (hxf : Ev env (c && b) xf (.v (.func (.func f) fst cap))) (hx : Evs env (c && b) xs.toList ts)
    (hc : (c && b) = true → ACalls cx.P f (fst.toList.map T.v ++ (ts ++ cap.toList.map T.v)) [] R) (hq : ∀ t S', R t S' → t = .v r) (hr : AWQ cx ops l K ((d, (c && b), .v r) :: env) S) : AWQ cx ops (o :: l) K env S := by
  have e : (c && (b == true)) = (c && b) := by cases b <;> rfl
  exact AWQ.callPg hg hj hk hd hN ho hf (e ▸ hxf) (e ▸ hx) (fun h => hc (e ▸ h)) hq (e ▸ hr)

theorem AWQ.callPgF {f : FuncId} {xf : Operand} {xs : Array Operand} {ats : Array TypeId} {fst cap : Array Value} {ts : List T} {R : T → St → Prop} {r : Value} {j dj : Nat} {c b : Bool} (hg : o.guard = some (j, false)) (hj : (ops[j]?).bind (·.dst) = some dj) (hk : get dj env = some (c, .v (.bool b)))
    (hd : o.dst = some d) (hN : d < cx.N) (ho : o.op = .call { callee := .value xf, args := xs, argTypes := ats }) (hf : calleeB cx.P f = true) (hxf : Ev env (c && !b) xf (.v (.func (.func f) fst cap))) (hx : Evs env (c && !b) xs.toList ts)
    (hc : (c && !b) = true → ACalls cx.P f (fst.toList.map T.v ++ (ts ++ cap.toList.map T.v)) [] R) (hq : ∀ t S', R t S' → t = .v r) (hr : AWQ cx ops l K ((d, (c && !b), .v r) :: env) S) : AWQ cx ops (o :: l) K env S := by
  have e : (c && (b == false)) = (c && !b) := by cases b <;> rfl
  exact AWQ.callPg hg hj hk hd hN ho hf (e ▸ hxf) (e ▸ hx) (fun h => hc (e ▸ h)) hq (e ▸ hr)

theorem Yv.addN_i8 {ty yt : TypeId} {p q : Int} (ho : o.op = .binOp .add ty x y yt) (hx : Ev env g x (.v (.int .i8 p))) (hy : Ev env g y (.v (.int .i8 q))) (hb : g = true → -128 ≤ p + q ∧ p + q ≤ 127) : Yv cx o env S g (.v (.int .i8 (p + q))) := by
  intro a w hs hg
  have h := Yv.add (cx := cx) ho hx hy a w hs hg
  rwa [IntWalk.i8_in _ (hb hg)] at h

theorem Yv.subN_i8 {ty yt : TypeId} {p q : Int} (ho : o.op = .binOp .sub ty x y yt) (hx : Ev env g x (.v (.int .i8 p))) (hy : Ev env g y (.v (.int .i8 q))) (hb : g = true → -128 ≤ p - q ∧ p - q ≤ 127) : Yv cx o env S g (.v (.int .i8 (p - q))) := by
  intro a w hs hg
  have h := Yv.sub (cx := cx) ho hx hy a w hs hg
  rwa [IntWalk.i8_in _ (hb hg)] at h

theorem Yv.mulN_i8 {ty yt : TypeId} {p q : Int} (ho : o.op = .binOp .mul ty x y yt) (hx : Ev env g x (.v (.int .i8 p))) (hy : Ev env g y (.v (.int .i8 q))) (hb : g = true → -128 ≤ p * q ∧ p * q ≤ 127) : Yv cx o env S g (.v (.int .i8 (p * q))) := by
  intro a w hs hg
  have h := Yv.mul (cx := cx) ho hx hy a w hs hg
  rwa [IntWalk.i8_in _ (hb hg)] at h

theorem Yv.convN_i8 {src dst : TypeId} {k : IntKind} {p : Int} {d : TypeDesc} (ho : o.op = .convert src dst x) (hs : cx.P.underlying src = some d) (hd : kindOf cx.P dst = some .i8) (hx : Ev env g x (.v (.int k p))) (hb : g = true → -128 ≤ p ∧ p ≤ 127) : Yv cx o env S g (.v (.int .i8 p)) := by
  intro a w hsim hg
  have h := Yv.conv (cx := cx) ho hs hd hx a w hsim hg
  rwa [IntWalk.i8_in _ (hb hg)] at h
theorem Yv.quoN_i8 {ty yt : TypeId} {p q : Int} (ho : o.op = .binOp .quo ty x y yt) (hx : Ev env g x (.v (.int .i8 p))) (hy : Ev env g y (.v (.int .i8 q))) (hb : g = true → 0 ≤ p ∧ p ≤ 127 ∧ 0 < q) : Yv cx o env S g (.v (.int .i8 (p / q))) := by
  intro a w hs hg
  obtain ⟨h0, h1, h2⟩ := hb hg
  have h := Yv.quo (cx := cx) ho hx hy (fun _ => by omega) a w hs hg
  have h3 : p / q ≤ p := Int.ediv_le_self q h0
  have h4 : 0 ≤ p / q := Int.ediv_nonneg h0 (by omega)
  rwa [Int.tdiv_eq_ediv_of_nonneg h0, IntWalk.i8_in _ ⟨by omega, by omega⟩] at h

theorem Yv.addN_i16 {ty yt : TypeId} {p q : Int} (ho : o.op = .binOp .add ty x y yt) (hx : Ev env g x (.v (.int .i16 p))) (hy : Ev env g y (.v (.int .i16 q))) (hb : g = true → -32768 ≤ p + q ∧ p + q ≤ 32767) : Yv cx o env S g (.v (.int .i16 (p + q))) := by
  intro a w hs hg
  have h := Yv.add (cx := cx) ho hx hy a w hs hg
  rwa [IntWalk.i16_in _ (hb hg)] at h

theorem Yv.subN_i16 {ty yt : TypeId} {p q : Int} (ho : o.op = .binOp .sub ty x y yt) (hx : Ev env g x (.v (.int .i16 p))) (hy : Ev env g y (.v (.int .i16 q))) (hb : g = true → -32768 ≤ p - q ∧ p - q ≤ 32767) : Yv cx o env S g (.v (.int .i16 (p - q))) := by
  intro a w hs hg
  have h := Yv.sub (cx := cx) ho hx hy a w hs hg
  rwa [IntWalk.i16_in _ (hb hg)] at h

theorem Yv.mulN_i16 {ty yt : TypeId} {p q : Int} (ho : o.op = .binOp .mul ty x y yt) (hx : Ev env g x (.v (.int .i16 p))) (hy : Ev env g y (.v (.int .i16 q))) (hb : g = true → -32768 ≤ p * q ∧ p * q ≤ 32767) : Yv cx o env S g (.v (.int .i16 (p * q))) := by
  intro a w hs hg
  have h := Yv.mul (cx := cx) ho hx hy a w hs hg
  rwa [IntWalk.i16_in _ (hb hg)] at h

theorem Yv.convN_i16 {src dst : TypeId} {k : IntKind} {p : Int} {d : TypeDesc} (ho : o.op = .convert src dst x) (hs : cx.P.underlying src = some d) (hd : kindOf cx.P dst = some .i16) (hx : Ev env g x (.v (.int k p))) (hb : g = true → -32768 ≤ p ∧ p ≤ 32767) : Yv cx o env S g (.v (.int .i16 p)) := by
  intro a w hsim hg
  have h := Yv.conv (cx := cx) ho hs hd hx a w hsim hg
  rwa [IntWalk.i16_in _ (hb hg)] at h
theorem Yv.quoN_i16 {ty yt : TypeId} {p q : Int} (ho : o.op = .binOp .quo ty x y yt) (hx : Ev env g x (.v (.int .i16 p))) (hy : Ev env g y (.v (.int .i16 q))) (hb : g = true → 0 ≤ p ∧ p ≤ 32767 ∧ 0 < q) : Yv cx o env S g (.v (.int .i16 (p / q))) := by
  intro a w hs hg
  obtain ⟨h0, h1, h2⟩ := hb hg
  have h := Yv.quo (cx := cx) ho hx hy (fun _ => by omega) a w hs hg
  have h3 : p / q ≤ p := Int.ediv_le_self q h0
  have h4 : 0 ≤ p / q := Int.ediv_nonneg h0 (by omega)
  rwa [Int.tdiv_eq_ediv_of_nonneg h0, IntWalk.i16_in _ ⟨by omega, by omega⟩] at h

theorem Yv.addN_i32 {ty yt : TypeId} {p q : Int} (ho : o.op = .binOp .add ty x y yt) (hx : Ev env g x (.v (.int .i32 p))) (hy : Ev env g y (.v (.int .i32 q))) (hb : g = true → -2147483648 ≤ p + q ∧ p + q ≤ 2147483647) : Yv cx o env S g (.v (.int .i32 (p + q))) := by
  intro a w hs hg
  have h := Yv.add (cx := cx) ho hx hy a w hs hg
  rwa [IntWalk.i32_in _ (hb hg)] at h

theorem Yv.subN_i32 {ty yt : TypeId} {p q : Int} (ho : o.op = .binOp .sub ty x y yt) (hx : Ev env g x (.v (.int .i32 p))) (hy : Ev env g y (.v (.int .i32 q))) (hb : g = true → -2147483648 ≤ p - q ∧ p - q ≤ 2147483647) : Yv cx o env S g (.v (.int .i32 (p - q))) := by
  intro a w hs hg
  have h := Yv.sub (cx := cx) ho hx hy a w hs hg
  rwa [IntWalk.i32_in _ (hb hg)] at h

theorem Yv.mulN_i32 {ty yt : TypeId} {p q : Int} (ho : o.op = .binOp .mul ty x y yt) (hx : Ev env g x (.v (.int .i32 p))) (hy : Ev env g y (.v (.int .i32 q))) (hb : g = true → -2147483648 ≤ p * q ∧ p * q ≤ 2147483647) : Yv cx o env S g (.v (.int .i32 (p * q))) := by
  intro a w hs hg
  have h := Yv.mul (cx := cx) ho hx hy a w hs hg
  rwa [IntWalk.i32_in _ (hb hg)] at h

theorem Yv.convN_i32 {src dst : TypeId} {k : IntKind} {p : Int} {d : TypeDesc} (ho : o.op = .convert src dst x) (hs : cx.P.underlying src = some d) (hd : kindOf cx.P dst = some .i32) (hx : Ev env g x (.v (.int k p))) (hb : g = true → -2147483648 ≤ p ∧ p ≤ 2147483647) : Yv cx o env S g (.v (.int .i32 p)) := by
  intro a w hsim hg
  have h := Yv.conv (cx := cx) ho hs hd hx a w hsim hg
  rwa [IntWalk.i32_in _ (hb hg)] at h
theorem Yv.quoN_i32 {ty yt : TypeId} {p q : Int} (ho : o.op = .binOp .quo ty x y yt) (hx : Ev env g x (.v (.int .i32 p))) (hy : Ev env g y (.v (.int .i32 q))) (hb : g = true → 0 ≤ p ∧ p ≤ 2147483647 ∧ 0 < q) : Yv cx o env S g (.v (.int .i32 (p / q))) := by
  intro a w hs hg
  obtain ⟨h0, h1, h2⟩ := hb hg
  have h := Yv.quo (cx := cx) ho hx hy (fun _ => by omega) a w hs hg
  have h3 : p / q ≤ p := Int.ediv_le_self q h0
  have h4 : 0 ≤ p / q := Int.ediv_nonneg h0 (by omega)
  rwa [Int.tdiv_eq_ediv_of_nonneg h0, IntWalk.i32_in _ ⟨by omega, by omega⟩] at h

theorem Yv.addN_i64 {ty yt : TypeId} {p q : Int} (ho : o.op = .binOp .add ty x y yt) (hx : Ev env g x (.v (.int .i64 p))) (hy : Ev env g y (.v (.int .i64 q))) (hb : g = true → -9223372036854775808 ≤ p + q ∧ p + q ≤ 9223372036854775807) : Yv cx o env S g (.v (.int .i64 (p + q))) := by
  intro a w hs hg
  have h := Yv.add (cx := cx) ho hx hy a w hs hg
  rwa [IntWalk.i64_in _ (hb hg)] at h

theorem Yv.subN_i64 {ty yt : TypeId} {p q : Int} (ho : o.op = .binOp .sub ty x y yt) (hx : Ev env g x (.v (.int .i64 p))) (hy : Ev env g y (.v (.int .i64 q))) (hb : g = true → -9223372036854775808 ≤ p - q ∧ p - q ≤ 9223372036854775807) : Yv cx o env S g (.v (.int .i64 (p - q))) := by
  intro a w hs hg
  have h := Yv.sub (cx := cx) ho hx hy a w hs hg
  rwa [IntWalk.i64_in _ (hb hg)] at h

theorem Yv.mulN_i64 {ty yt : TypeId} {p q : Int} (ho : o.op = .binOp .mul ty x y yt) (hx : Ev env g x (.v (.int .i64 p))) (hy : Ev env g y (.v (.int .i64 q))) (hb : g = true → -9223372036854775808 ≤ p * q ∧ p * q ≤ 9223372036854775807) : Yv cx o env S g (.v (.int .i64 (p * q))) := by
  intro a w hs hg
  have h := Yv.mul (cx := cx) ho hx hy a w hs hg
  rwa [IntWalk.i64_in _ (hb hg)] at h

theorem Yv.convN_i64 {src dst : TypeId} {k : IntKind} {p : Int} {d : TypeDesc} (ho : o.op = .convert src dst x) (hs : cx.P.underlying src = some d) (hd : kindOf cx.P dst = some .i64) (hx : Ev env g x (.v (.int k p))) (hb : g = true → -9223372036854775808 ≤ p ∧ p ≤ 9223372036854775807) : Yv cx o env S g (.v (.int .i64 p)) := by
  intro a w hsim hg
  have h := Yv.conv (cx := cx) ho hs hd hx a w hsim hg
  rwa [IntWalk.i64_in _ (hb hg)] at h
theorem Yv.quoN_i64 {ty yt : TypeId} {p q : Int} (ho : o.op = .binOp .quo ty x y yt) (hx : Ev env g x (.v (.int .i64 p))) (hy : Ev env g y (.v (.int .i64 q))) (hb : g = true → 0 ≤ p ∧ p ≤ 9223372036854775807 ∧ 0 < q) : Yv cx o env S g (.v (.int .i64 (p / q))) := by
  intro a w hs hg
  obtain ⟨h0, h1, h2⟩ := hb hg
  have h := Yv.quo (cx := cx) ho hx hy (fun _ => by omega) a w hs hg
  have h3 : p / q ≤ p := Int.ediv_le_self q h0
  have h4 : 0 ≤ p / q := Int.ediv_nonneg h0 (by omega)
  rwa [Int.tdiv_eq_ediv_of_nonneg h0, IntWalk.i64_in _ ⟨by omega, by omega⟩] at h

theorem Yv.addN_u8 {ty yt : TypeId} {p q : Int} (ho : o.op = .binOp .add ty x y yt) (hx : Ev env g x (.v (.int .u8 p))) (hy : Ev env g y (.v (.int .u8 q))) (hb : g = true → 0 ≤ p + q ∧ p + q ≤ 255) : Yv cx o env S g (.v (.int .u8 (p + q))) := by
  intro a w hs hg
  have h := Yv.add (cx := cx) ho hx hy a w hs hg
  rwa [IntWalk.u8_in _ (hb hg)] at h

theorem Yv.subN_u8 {ty yt : TypeId} {p q : Int} (ho : o.op = .binOp .sub ty x y yt) (hx : Ev env g x (.v (.int .u8 p))) (hy : Ev env g y (.v (.int .u8 q))) (hb : g = true → 0 ≤ p - q ∧ p - q ≤ 255) : Yv cx o env S g (.v (.int .u8 (p - q))) := by
  intro a w hs hg
  have h := Yv.sub (cx := cx) ho hx hy a w hs hg
  rwa [IntWalk.u8_in _ (hb hg)] at h

theorem Yv.mulN_u8 {ty yt : TypeId} {p q : Int} (ho : o.op = .binOp .mul ty x y yt) (hx : Ev env g x (.v (.int .u8 p))) (hy : Ev env g y (.v (.int .u8 q))) (hb : g = true → 0 ≤ p * q ∧ p * q ≤ 255) : Yv cx o env S g (.v (.int .u8 (p * q))) := by
  intro a w hs hg
  have h := Yv.mul (cx := cx) ho hx hy a w hs hg
  rwa [IntWalk.u8_in _ (hb hg)] at h

theorem Yv.convN_u8 {src dst : TypeId} {k : IntKind} {p : Int} {d : TypeDesc} (ho : o.op = .convert src dst x) (hs : cx.P.underlying src = some d) (hd : kindOf cx.P dst = some .u8) (hx : Ev env g x (.v (.int k p))) (hb : g = true → 0 ≤ p ∧ p ≤ 255) : Yv cx o env S g (.v (.int .u8 p)) := by
  intro a w hsim hg
  have h := Yv.conv (cx := cx) ho hs hd hx a w hsim hg
  rwa [IntWalk.u8_in _ (hb hg)] at h
theorem Yv.quoN_u8 {ty yt : TypeId} {p q : Int} (ho : o.op = .binOp .quo ty x y yt) (hx : Ev env g x (.v (.int .u8 p))) (hy : Ev env g y (.v (.int .u8 q))) (hb : g = true → 0 ≤ p ∧ p ≤ 255 ∧ 0 < q) : Yv cx o env S g (.v (.int .u8 (p / q))) := by
  intro a w hs hg
  obtain ⟨h0, h1, h2⟩ := hb hg
  have h := Yv.quo (cx := cx) ho hx hy (fun _ => by omega) a w hs hg
  have h3 : p / q ≤ p := Int.ediv_le_self q h0
  have h4 : 0 ≤ p / q := Int.ediv_nonneg h0 (by omega)
  rwa [Int.tdiv_eq_ediv_of_nonneg h0, IntWalk.u8_in _ ⟨by omega, by omega⟩] at h

theorem Yv.addN_u16 {ty yt : TypeId} {p q : Int} (ho : o.op = .binOp .add ty x y yt) (hx : Ev env g x (.v (.int .u16 p))) (hy : Ev env g y (.v (.int .u16 q))) (hb : g = true → 0 ≤ p + q ∧ p + q ≤ 65535) : Yv cx o env S g (.v (.int .u16 (p + q))) := by
  intro a w hs hg
  have h := Yv.add (cx := cx) ho hx hy a w hs hg
  rwa [IntWalk.u16_in _ (hb hg)] at h

theorem Yv.subN_u16 {ty yt : TypeId} {p q : Int} (ho : o.op = .binOp .sub ty x y yt) (hx : Ev env g x (.v (.int .u16 p))) (hy : Ev env g y (.v (.int .u16 q))) (hb : g = true → 0 ≤ p - q ∧ p - q ≤ 65535) : Yv cx o env S g (.v (.int .u16 (p - q))) := by
  intro a w hs hg
  have h := Yv.sub (cx := cx) ho hx hy a w hs hg
  rwa [IntWalk.u16_in _ (hb hg)] at h

theorem Yv.mulN_u16 {ty yt : TypeId} {p q : Int} (ho : o.op = .binOp .mul ty x y yt) (hx : Ev env g x (.v (.int .u16 p))) (hy : Ev env g y (.v (.int .u16 q))) (hb : g = true → 0 ≤ p * q ∧ p * q ≤ 65535) : Yv cx o env S g (.v (.int .u16 (p * q))) := by
  intro a w hs hg
  have h := Yv.mul (cx := cx) ho hx hy a w hs hg
  rwa [IntWalk.u16_in _ (hb hg)] at h

theorem Yv.convN_u16 {src dst : TypeId} {k : IntKind} {p : Int} {d : TypeDesc} (ho : o.op = .convert src dst x) (hs : cx.P.underlying src = some d) (hd : kindOf cx.P dst = some .u16) (hx : Ev env g x (.v (.int k p))) (hb : g = true → 0 ≤ p ∧ p ≤ 65535) : Yv cx o env S g (.v (.int .u16 p)) := by
  intro a w hsim hg
  have h := Yv.conv (cx := cx) ho hs hd hx a w hsim hg
  rwa [IntWalk.u16_in _ (hb hg)] at h
theorem Yv.quoN_u16 {ty yt : TypeId} {p q : Int} (ho : o.op = .binOp .quo ty x y yt) (hx : Ev env g x (.v (.int .u16 p))) (hy : Ev env g y (.v (.int .u16 q))) (hb : g = true → 0 ≤ p ∧ p ≤ 65535 ∧ 0 < q) : Yv cx o env S g (.v (.int .u16 (p / q))) := by
  intro a w hs hg
  obtain ⟨h0, h1, h2⟩ := hb hg
  have h := Yv.quo (cx := cx) ho hx hy (fun _ => by omega) a w hs hg
  have h3 : p / q ≤ p := Int.ediv_le_self q h0
  have h4 : 0 ≤ p / q := Int.ediv_nonneg h0 (by omega)
  rwa [Int.tdiv_eq_ediv_of_nonneg h0, IntWalk.u16_in _ ⟨by omega, by omega⟩] at h

theorem Yv.addN_u32 {ty yt : TypeId} {p q : Int} (ho : o.op = .binOp .add ty x y yt) (hx : Ev env g x (.v (.int .u32 p))) (hy : Ev env g y (.v (.int .u32 q))) (hb : g = true → 0 ≤ p + q ∧ p + q ≤ 4294967295) : Yv cx o env S g (.v (.int .u32 (p + q))) := by
  intro a w hs hg
  have h := Yv.add (cx := cx) ho hx hy a w hs hg
  rwa [IntWalk.u32_in _ (hb hg)] at h

theorem Yv.subN_u32 {ty yt : TypeId} {p q : Int} (ho : o.op = .binOp .sub ty x y yt) (hx : Ev env g x (.v (.int .u32 p))) (hy : Ev env g y (.v (.int .u32 q))) (hb : g = true → 0 ≤ p - q ∧ p - q ≤ 4294967295) : Yv cx o env S g (.v (.int .u32 (p - q))) := by
  intro a w hs hg
  have h := Yv.sub (cx := cx) ho hx hy a w hs hg
  rwa [IntWalk.u32_in _ (hb hg)] at h

theorem Yv.mulN_u32 {ty yt : TypeId} {p q : Int} (ho : o.op = .binOp .mul ty x y yt) (hx : Ev env g x (.v (.int .u32 p))) (hy : Ev env g y (.v (.int .u32 q))) (hb : g = true → 0 ≤ p * q ∧ p * q ≤ 4294967295) : Yv cx o env S g (.v (.int .u32 (p * q))) := by
  intro a w hs hg
  have h := Yv.mul (cx := cx) ho hx hy a w hs hg
  rwa [IntWalk.u32_in _ (hb hg)] at h

theorem Yv.convN_u32 {src dst : TypeId} {k : IntKind} {p : Int} {d : TypeDesc} (ho : o.op = .convert src dst x) (hs : cx.P.underlying src = some d) (hd : kindOf cx.P dst = some .u32) (hx : Ev env g x (.v (.int k p))) (hb : g = true → 0 ≤ p ∧ p ≤ 4294967295) : Yv cx o env S g (.v (.int .u32 p)) := by
  intro a w hsim hg
  have h := Yv.conv (cx := cx) ho hs hd hx a w hsim hg
  rwa [IntWalk.u32_in _ (hb hg)] at h
theorem Yv.quoN_u32 {ty yt : TypeId} {p q : Int} (ho : o.op = .binOp .quo ty x y yt) (hx : Ev env g x (.v (.int .u32 p))) (hy : Ev env g y (.v (.int .u32 q))) (hb : g = true → 0 ≤ p ∧ p ≤ 4294967295 ∧ 0 < q) : Yv cx o env S g (.v (.int .u32 (p / q))) := by
  intro a w hs hg
  obtain ⟨h0, h1, h2⟩ := hb hg
  have h := Yv.quo (cx := cx) ho hx hy (fun _ => by omega) a w hs hg
  have h3 : p / q ≤ p := Int.ediv_le_self q h0
  have h4 : 0 ≤ p / q := Int.ediv_nonneg h0 (by omega)
  rwa [Int.tdiv_eq_ediv_of_nonneg h0, IntWalk.u32_in _ ⟨by omega, by omega⟩] at h

theorem Yv.addN_u64 {ty yt : TypeId} {p q : Int} (ho : o.op = .binOp .add ty x y yt) (hx : Ev env g x (.v (.int .u64 p))) (hy : Ev env g y (.v (.int .u64 q))) (hb : g = true → 0 ≤ p + q ∧ p + q ≤ 18446744073709551615) : Yv cx o env S g (.v (.int .u64 (p + q))) := by
  intro a w hs hg
  have h := Yv.add (cx := cx) ho hx hy a w hs hg
  rwa [IntWalk.u64_in _ (hb hg)] at h

theorem Yv.subN_u64 {ty yt : TypeId} {p q : Int} (ho : o.op = .binOp .sub ty x y yt) (hx : Ev env g x (.v (.int .u64 p))) (hy : Ev env g y (.v (.int .u64 q))) (hb : g = true → 0 ≤ p - q ∧ p - q ≤ 18446744073709551615) : Yv cx o env S g (.v (.int .u64 (p - q))) := by
  intro a w hs hg
  have h := Yv.sub (cx := cx) ho hx hy a w hs hg
  rwa [IntWalk.u64_in _ (hb hg)] at h

theorem Yv.mulN_u64 {ty yt : TypeId} {p q : Int} (ho : o.op = .binOp .mul ty x y yt) (hx : Ev env g x (.v (.int .u64 p))) (hy : Ev env g y (.v (.int .u64 q))) (hb : g = true → 0 ≤ p * q ∧ p * q ≤ 18446744073709551615) : Yv cx o env S g (.v (.int .u64 (p * q))) := by
  intro a w hs hg
  have h := Yv.mul (cx := cx) ho hx hy a w hs hg
  rwa [IntWalk.u64_in _ (hb hg)] at h

theorem Yv.convN_u64 {src dst : TypeId} {k : IntKind} {p : Int} {d : TypeDesc} (ho : o.op = .convert src dst x) (hs : cx.P.underlying src = some d) (hd : kindOf cx.P dst = some .u64) (hx : Ev env g x (.v (.int k p))) (hb : g = true → 0 ≤ p ∧ p ≤ 18446744073709551615) : Yv cx o env S g (.v (.int .u64 p)) := by
  intro a w hsim hg
  have h := Yv.conv (cx := cx) ho hs hd hx a w hsim hg
  rwa [IntWalk.u64_in _ (hb hg)] at h
theorem Yv.quoN_u64 {ty yt : TypeId} {p q : Int} (ho : o.op = .binOp .quo ty x y yt) (hx : Ev env g x (.v (.int .u64 p))) (hy : Ev env g y (.v (.int .u64 q))) (hb : g = true → 0 ≤ p ∧ p ≤ 18446744073709551615 ∧ 0 < q) : Yv cx o env S g (.v (.int .u64 (p / q))) := by
  intro a w hs hg
  obtain ⟨h0, h1, h2⟩ := hb hg
  have h := Yv.quo (cx := cx) ho hx hy (fun _ => by omega) a w hs hg
  have h3 : p / q ≤ p := Int.ediv_le_self q h0
  have h4 : 0 ≤ p / q := Int.ediv_nonneg h0 (by omega)
  rwa [Int.tdiv_eq_ediv_of_nonneg h0, IntWalk.u64_in _ ⟨by omega, by omega⟩] at h

theorem Yv.remN {ty yt : TypeId} {k : IntKind} {p q : Int} (ho : o.op = .binOp .rem ty x y yt) (hx : Ev env g x (.v (.int k p))) (hy : Ev env g y (.v (.int k q))) (hb : g = true → 0 ≤ p ∧ 0 < q) : Yv cx o env S g (.v (.int k (p % q))) := by
  intro a w hs hg
  obtain ⟨h0, h2⟩ := hb hg
  have h := Yv.rem (cx := cx) ho hx hy (fun _ => by omega) a w hs hg
  rwa [Int.tmod_eq_emod_of_nonneg h0] at h
/-- Shifts by a known count. -/
theorem Yv.shrC {ty yt : TypeId} {k k' : IntKind} {p q : Int} (D : Int) (hD : (2 : Int) ^ (min q.toNat k.bits) = D) (h0 : 0 ≤ D) (hq : 0 ≤ q) (ho : o.op = .binOp .shr ty x y yt) (hx : Ev env g x (.v (.int k p))) (hy : Ev env g y (.v (.int k' q))) : Yv cx o env S g (.v (.int k (p / D))) := by
  intro a w hs hg
  have h := Yv.shr (cx := cx) ho hx hy (fun _ => hq) a w hs hg
  unfold shrOf at h
  rwa [hD, Int.fdiv_eq_ediv_of_nonneg p h0] at h
theorem Yv.shlC {ty yt : TypeId} {k k' : IntKind} {p q : Int} (D : Int) (hD : (2 : Int) ^ (min q.toNat k.bits) = D) (hq : 0 ≤ q) (ho : o.op = .binOp .shl ty x y yt) (hx : Ev env g x (.v (.int k p))) (hy : Ev env g y (.v (.int k' q))) : Yv cx o env S g (.v (.int k (k.wrap (p * D)))) := by
  intro a w hs hg
  have h := Yv.shl (cx := cx) ho hx hy (fun _ => hq) a w hs hg
  unfold shlOf at h
  rwa [hD] at h
/-! ### Slices written out, all elements in order -/
def enumT (i : Nat) : List T → List (Nat × T)
  | [] => []
  | t :: r => (i, t) :: enumT (i + 1) r
def idxOk (i : Nat) : List (Nat × Operand) → Bool
  | [] => true
  | (j, _) :: r => Nat.beq i j && idxOk (i + 1) r
theorem evParts_enum : ∀ {ps : List (Nat × Operand)} {ts : List T} {i : Nat}, idxOk i ps = true → Evs env g (ps.map (·.2)) ts → EvParts env g ps (enumT i ts)
  | [], [], _, _, _ => trivial
  | [], _ :: _, _, _, h => h.elim
  | _ :: _, [], _, _, h => h.elim
  | (j, x) :: r, t :: r', i, h1, h2 => by
    simp only [idxOk, Bool.and_eq_true] at h1
    obtain rfl := Nat.eq_of_beq_eq_true h1.1
    exact ⟨rfl, h2.1, evParts_enum h1.2 h2.2⟩
theorem fill_enum {k : Nat} : ∀ (ts : List T) (i : Nat) (cs : List T), (∀ t ∈ ts, t.cellish = true ∧ (cellsT t).length = k) → (i + ts.length) * k ≤ cs.length →
    fillT (fun i => some (i * k, k)) cs (enumT i ts) = some (cs.take (i * k) ++ ts.flatMap cellsT ++ cs.drop ((i + ts.length) * k))
  | [], i, cs, _, _ => by simp [enumT, fillT]
  | t :: r, i, cs, h, hl => by
    obtain ⟨h1, h2⟩ := h t List.mem_cons_self
    simp only [List.length_cons] at hl
    have e1 : (i + (r.length + 1)) * k = i * k + k + r.length * k := by rw [Nat.add_mul, Nat.add_mul, Nat.one_mul]; omega
    have e2 : (i + 1 + r.length) * k = i * k + k + r.length * k := by rw [Nat.add_mul, Nat.add_mul, Nat.one_mul]
    have e3 : (i + 1) * k = i * k + k := by rw [Nat.add_mul, Nat.one_mul]
    rw [e1] at hl
    have hlen : (cs.take (i * k) ++ cellsT t ++ cs.drop (i * k + k)).length = cs.length := by simp [h2]; omega
    have ht : (cs.take (i * k) ++ cellsT t).length = (i + 1) * k := by simp [h2, e3]; omega
    simp only [enumT, fillT]
    rw [if_pos (by simp [h1, h2]; omega), fill_enum r (i + 1) _ (fun t ht => h t (List.mem_cons_of_mem _ ht)) (by rw [hlen, e2]; exact hl)]
    congr 1
    rw [← ht, List.take_left]
    simp only [List.length_cons, e1, e2, List.flatMap_cons]
    have e4 : (cs.take (i * k) ++ cellsT t ++ cs.drop (i * k + k)).drop (i * k + k + r.length * k) = cs.drop (i * k + k + r.length * k) := by
      rw [List.drop_append, ht, e3, List.drop_of_length_le (by rw [ht, e3]; omega), List.nil_append, List.drop_drop]
      congr 1
      omega
    rw [e4]
    simp
theorem AWL.buildSliceE {t e : TypeId} {n k b : Nat} {zs : List Value} {parts : Array (Nat × Operand)} {ts : List T} (hg : o.guard = none) (hd : o.dst = some d) (hN : d < cx.N) (ho : o.op = .buildSlice t n parts)
    (he : elemOf cx.P t = some (e, k, b, zs)) (hk : 0 < k) (hi : idxOk 0 parts.toList = true) (hp : Evs env true (parts.toList.map (·.2)) ts) (hn : n * k ≤ 16777216) (hl : ts.length = n) (hall : (ts.all fun t => t.cellish && ((cellsT t).length == k)) = true)
    (hr : AWL cx ops l K ((d, true, .sl k (ts.flatMap cellsT)) :: env) S) : AWL cx ops (o :: l) K env S := by
  have hz := (elemOf_spec he).2
  obtain ⟨i, z, _, _, _, _, _, h7, _⟩ := hz
  have hall' : ∀ t ∈ ts, t.cellish = true ∧ (cellsT t).length = k := fun t ht => by
    have := List.all_eq_true.1 hall t ht
    simpa using this
  have hfl : ((List.replicate n (zs.map T.v)).flatten).length = n * k := flat_len n k _ (by simpa using h7)
  have hf := fill_enum ts 0 ((List.replicate n (zs.map T.v)).flatten) hall' (by rw [hfl, hl, Nat.zero_add]; exact Nat.le_refl _)
  rw [Nat.zero_add, hl, Nat.zero_mul, List.take_zero, List.nil_append, List.drop_of_length_le (by rw [hfl]; exact Nat.le_refl _), List.append_nil] at hf
  refine AWL.buildSliceOp hg hd hN ho he hk (evParts_enum hi hp) hn hf ?_ hr
  rw [← hl]
  clear hf hfl hl hp hall hr
  induction ts with
  | nil => simp
  | cons t r ih =>
    rw [List.flatMap_cons, List.length_append, (hall' t List.mem_cons_self).2, ih (fun t ht => hall' t (List.mem_cons_of_mem _ ht)), List.length_cons, Nat.succ_mul, Nat.add_comm]
theorem flatMap_one : ∀ (ts : List T), ts.all T.one = true → ts.flatMap cellsT = ts
  | [], _ => rfl
  | t :: r, h => by
    simp only [List.all_cons, Bool.and_eq_true] at h
    rw [List.flatMap_cons, flatMap_one r h.2]
    cases t <;> first | rfl | (cases h.1)
theorem AWL.buildSlice1 {t e : TypeId} {n b : Nat} {zs : List Value} {parts : Array (Nat × Operand)} {ts : List T} (hg : o.guard = none) (hd : o.dst = some d) (hN : d < cx.N) (ho : o.op = .buildSlice t n parts)
    (he : elemOf cx.P t = some (e, 1, b, zs)) (hi : idxOk 0 parts.toList = true) (hp : Evs env true (parts.toList.map (·.2)) ts) (hn : n ≤ 16777216) (hl : ts.length = n) (hall : ts.all T.one = true)
    (hr : AWL cx ops l K ((d, true, .sl 1 ts) :: env) S) : AWL cx ops (o :: l) K env S := by
  have hall' : (ts.all fun t => t.cellish && ((cellsT t).length == 1)) = true := by
    rw [List.all_eq_true] at hall ⊢
    intro t ht
    have := hall t ht
    cases t <;> first | (simp_all [T.cellish, cellsT, T.one]; done) | (cases this; done)
  have h := AWL.buildSliceE (K := K) (ops := ops) (l := l) (S := S) hg hd hN ho he (Nat.zero_lt_one) hi hp (by omega) hl hall'
  rw [flatMap_one ts hall] at h
  exact h hr
/-! ### Loops whose state is several variables -/
theorem AW.loop2 {α β : Type} {c : Code} (E : α → β → Env) (H : α → β → St) (inv : α → β → Prop) (μ : α → β → Nat) (x₀ : α) (y₀ : β) (h₀ : inv x₀ y₀) (he : Sub (E x₀ y₀) env) (hS : S = H x₀ y₀)
    (round : ∀ x y, inv x y → AW cx c (thenQ (fun env' S' => ∃ x' y', inv x' y' ∧ μ x' y' < μ x y ∧ Sub (E x' y') env' ∧ S' = H x' y') Q) (E x y) (H x y)) : AW cx (.loop c) Q env S := by
  refine AW.loop (α := α × β) (fun q => E q.1 q.2) (fun q => H q.1 q.2) (fun q => inv q.1 q.2) (fun q => μ q.1 q.2) (x₀, y₀) h₀ he hS fun q hq => (round q.1 q.2 hq).mono ?_
  intro e env' S' h
  cases e with
  | normal => obtain ⟨x', y', h⟩ := h; exact ⟨(x', y'), h⟩
  | _ => exact h
theorem AW.loop3 {α β γ : Type} {c : Code} (E : α → β → γ → Env) (H : α → β → γ → St) (inv : α → β → γ → Prop) (μ : α → β → γ → Nat) (x₀ : α) (y₀ : β) (z₀ : γ) (h₀ : inv x₀ y₀ z₀) (he : Sub (E x₀ y₀ z₀) env) (hS : S = H x₀ y₀ z₀)
    (round : ∀ x y z, inv x y z → AW cx c (thenQ (fun env' S' => ∃ x' y' z', inv x' y' z' ∧ μ x' y' z' < μ x y z ∧ Sub (E x' y' z') env' ∧ S' = H x' y' z') Q) (E x y z) (H x y z)) : AW cx (.loop c) Q env S := by
  refine AW.loop2 (α := α × β) (fun q => E q.1 q.2) (fun q => H q.1 q.2) (fun q => inv q.1 q.2) (fun q => μ q.1 q.2) (x₀, y₀) z₀ h₀ he hS fun q z hq => (round q.1 q.2 z hq).mono ?_
  intro e env' S' h
  cases e with
  | normal => obtain ⟨x', y', z', h⟩ := h; exact ⟨(x', y'), z', h⟩
  | _ => exact h
theorem AW.loop4 {α β γ δ : Type} {c : Code} (E : α → β → γ → δ → Env) (H : α → β → γ → δ → St) (inv : α → β → γ → δ → Prop) (μ : α → β → γ → δ → Nat) (x₀ : α) (y₀ : β) (z₀ : γ) (u₀ : δ) (h₀ : inv x₀ y₀ z₀ u₀) (he : Sub (E x₀ y₀ z₀ u₀) env) (hS : S = H x₀ y₀ z₀ u₀)
    (round : ∀ x y z u, inv x y z u → AW cx c (thenQ (fun env' S' => ∃ x' y' z' u', inv x' y' z' u' ∧ μ x' y' z' u' < μ x y z u ∧ Sub (E x' y' z' u') env' ∧ S' = H x' y' z' u') Q) (E x y z u) (H x y z u)) : AW cx (.loop c) Q env S := by
  refine AW.loop3 (α := α × β) (fun q => E q.1 q.2) (fun q => H q.1 q.2) (fun q => inv q.1 q.2) (fun q => μ q.1 q.2) (x₀, y₀) z₀ u₀ h₀ he hS fun q z u hq => (round q.1 q.2 z u hq).mono ?_
  intro e env' S' h
  cases e with
  | normal => obtain ⟨x', y', z', u', h⟩ := h; exact ⟨(x', y'), z', u', h⟩
  | _ => exact h
/-- A struct type's zero cells and its fields' places. -/
def structShape (P : Program) (t : TypeId) : Option (List Value × List (Nat × Nat)) :=
  match P.info? t, P.underlying t with
  | some it, some (.struct fields) =>
    match it.zero, fields.toList.mapM (fun f => (P.info? f.type).map fun i => (f.offset, i.size)) with
    | some z, some places => if z.cells.toList.all Value.oneCell' then some (z.cells.toList, places) else none
    | _, _ => none
  | _, _ => none
theorem structShape_spec {P : Program} {t : TypeId} {zs : List Value} {places : List (Nat × Nat)} {pt : List (Nat × T)} (h : structShape P t = some (zs, places)) : builtOf P t pt = fillT (fun i => places[i]?) (zs.map .v) pt := by
  unfold structShape at h
  unfold builtOf
  split at h
  · rename_i it fs h1 h2
    rw [h1, h2]
    split at h
    · rename_i z pl h3 h4
      split at h
      · rename_i hall
        simp only [Option.some.injEq, Prod.mk.injEq] at h
        obtain ⟨rfl, rfl⟩ := h
        simp only [h3, h4, hall, if_true]
        congr 1
        funext i
        simp
      · cases h
    · cases h
  · cases h
theorem Yv.buildS {t : TypeId} {parts : Array (Nat × Operand)} {pt : List (Nat × T)} {cs : List T} {zs : List Value} {places : List (Nat × Nat)} (ho : o.op = .build t parts) (hz : structShape cx.P t = some (zs, places)) (hp : EvParts env g parts.toList pt)
    (h : g = true → fillT (fun i => places[i]?) (zs.map .v) pt = some cs) : Yv cx o env S g (.agg cs) := Yv.build ho hp (fun hg => (structShape_spec hz).trans (h hg))
/-- What is known where two ways meet. -/
theorem AW.mid {α : Type} {c c' : Code} (E' : α → Env) (H : α → St) (inv : α → Prop) (h : AW cx c (thenQ (fun env' S' => ∃ y, inv y ∧ Sub (E' y) env' ∧ S' = H y) Q) env S) (hr : ∀ y, inv y → AW cx c' Q (E' y) (H y)) : AW cx (.seq c c') Q env S := by
  refine AW.seq (h.mono fun e env' S' hq => ?_)
  cases e with
  | normal =>
    obtain ⟨y, h1, h2, rfl⟩ := hq
    exact AW.weaken h2 (hr y h1)
  | _ => exact hq
end
end Go.Proofs.YtjndpakhmgapjaaDoor
