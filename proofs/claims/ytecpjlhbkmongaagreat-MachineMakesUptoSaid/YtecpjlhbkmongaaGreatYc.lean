/-
  TEXTS JOINED: MMa, MMb, MMc, MMd, SortL, MMt, Mm2, Mm3, Mm1, Mm4, MMe, Mm5.
-/
import Derived.Shelf.SlSortCmp.WholeK
import Derived.Shelf.SlGeneric
import Derived.Ground.SlsfProg
import Derived.Test.YtecpjlhbkmongaaGreatProg
import Derived.Shelf.SlSortCmp.NoneTotal
import Derived.Test.YtecpjlhbkmongaaGreatYb
set_option linter.unusedSimpArgs false
set_option linter.unusedVariables false
set_option linter.unusedSectionVars false
set_option linter.unnecessarySimpa false
namespace Go.Proofs.YtecpjlhbkmongaaGreat.M
open Go Go.RowKit
def zi (z : Int) : T := .v (.int .i64 z)
def bv (b : Bool) : T := .v (.bool b)
theorem gd {α : Type} [Inhabited α] {l : List α} {j : Nat} (h : j < l.length) : l.getD j default = l[j] := by simp [h]
def wI (z : Int) : Wd64 := BitVec.ofInt 64 z
theorem wI_nat (z : Int) : ((wI z).toNat : Int) = IntKind.u64.wrap z := by
 rw [wrap_u64, wI, BitVec.toNat_ofInt]
 omega
end Go.Proofs.YtecpjlhbkmongaaGreat.M
namespace Go.Proofs.YtecpjlhbkmongaaGreat
open Go Go.RowKit M
section
variable {cx : Cx} {env : Env} {S : St} {o : Oper} {g : Bool} {x y : Operand}
theorem Yv.convW {src dst : TypeId} {k : IntKind} {p : Int} {d : TypeDesc} (ho : o.op = .convert src dst x) (hs : cx.P.underlying src = some d) (hd : kindOf cx.P dst = some .u64) (hx : Ev env g x (.v (.int k p))) : Yv cx o env S g (zw (wI p)) := by
 have h := Yv.conv (cx := cx) (S := S) ho hs hd hx
 rw [← wI_nat] at h; exact h
theorem Yv.quoW {ty yt : TypeId} {a b : Wd64} (ho : o.op = .binOp .quo ty x y yt) (hx : Ev env g x (zw a)) (hy : Ev env g y (zw b)) (hb : b ≠ 0#64) : Yv cx o env S g (zw (a / b)) := by
 have hb' : (b.toNat : Int) ≠ 0 := fun h => hb (BitVec.eq_of_toNat_eq (by simpa using h))
 have h := Yv.quo (cx := cx) (S := S) ho hx hy (fun _ => hb')
 rw [show (a.toNat : Int).tdiv (b.toNat : Int) = ((a / b).toNat : Int) by rw [BitVec.toNat_udiv]; exact Int.natCast_ediv _ _ ▸ (Int.tdiv_eq_ediv_of_nonneg (Int.natCast_nonneg _)), wrap_nat] at h
 exact h
theorem Yv.remW {ty yt : TypeId} {a b : Wd64} (ho : o.op = .binOp .rem ty x y yt) (hx : Ev env g x (zw a)) (hy : Ev env g y (zw b)) (hb : b ≠ 0#64) : Yv cx o env S g (zw (a % b)) := by
 have hb' : (b.toNat : Int) ≠ 0 := fun h => hb (BitVec.eq_of_toNat_eq (by simpa using h))
 have h := Yv.rem (cx := cx) (S := S) ho hx hy (fun _ => hb')
 rw [show (a.toNat : Int).tmod (b.toNat : Int) = ((a % b).toNat : Int) by rw [BitVec.toNat_umod]; exact Int.natCast_emod _ _ ▸ (Int.tmod_eq_emod_of_nonneg (Int.natCast_nonneg _))] at h
 exact h
end
end Go.Proofs.YtecpjlhbkmongaaGreat
namespace Go.Proofs.YtecpjlhbkmongaaGreat.M
open Go Go.RowKit
def mapT (b : Nat) : T := .v (.map (some b))
structure Pg where
 n : Wd64
 b : Nat
 bs : List UInt8
deriving Inhabited
def wk (n : Wd64) : Key := .i .u64 (n.toNat : Int)
theorem wk_inj {n m : Wd64} (h : wk n = wk m) : n = m := by
 unfold wk at h
 injection h with _ h
 exact BitVec.eq_of_toNat_eq (by omega)
def pgT (l : List Pg) : List (Key × T) := l.map fun p => (wk p.n, .v (.pointer (some ⟨p.b, 0, none⟩)))
def pgI (n : Wd64) : List Pg → Option Nat
 | [] => none
 | p :: r => if p.n = n then some 0 else (pgI n r).map (· + 1)
theorem pgI_lt {n : Wd64} : ∀ {l : List Pg} {j : Nat}, pgI n l = some j → j < l.length ∧ (l.getD j default).n = n
 | [], j, h => by cases h
 | p :: r, j, h => by
  rw [pgI] at h
  split at h
  ·rename_i he
   cases h
   exact ⟨by simp, he⟩
  ·cases hq : pgI n r with
   | none => rw [hq] at h; cases h
   | some q =>
    rw [hq] at h
    simp only [Option.map_some, Option.some.injEq] at h
    subst h
    have := pgI_lt hq
    exact ⟨by simp only [List.length_cons]; omega, this.2⟩
theorem getK_pg (n : Wd64) : ∀ l : List Pg, getK (wk n) (pgT l) = (pgI n l).map fun j => .v (.pointer (some ⟨(l.getD j default).b, 0, none⟩))
 | [] => rfl
 | p :: r => by
  show getK (wk n) ((wk p.n, _) :: pgT r) = _
  rw [getK, pgI]
  by_cases h : p.n = n
  ·rw [if_pos (by rw [h]), if_pos h]; rfl
  ·rw [if_neg (fun e => h (wk_inj e)), if_neg h, getK_pg n r]
   cases pgI n r <;> rfl
theorem putK_pg (n : Wd64) (b : Nat) (bs : List UInt8) : ∀ l : List Pg, pgI n l = none → putK (wk n) (.v (.pointer (some ⟨b, 0, none⟩))) (pgT l) = pgT (l ++ [⟨n, b, bs⟩])
 | [], _ => rfl
 | p :: r, h => by
  rw [pgI] at h
  split at h
  ·cases h
  ·rename_i he
   have h' : pgI n r = none := by
    cases hq : pgI n r with
    | none => rfl
    | some q => rw [hq] at h; cases h
   show putK (wk n) _ ((wk p.n, _) :: pgT r) = _
   rw [putK, if_neg (fun e => he (wk_inj e)), putK_pg n b bs r h']
   rfl
theorem good_pg (l : List Pg) : ∀ e ∈ pgT l, goodK (.int .u64) e.1 = true := fun e he => by
 obtain ⟨p, _, rfl⟩ := List.mem_map.1 he
 rfl
def pgE (ty : TypeId) (l : List Pg) : St := l.map fun p => .box p.b ty (p.bs.map u8)
theorem pgE_at {ty : TypeId} {l : List Pg} {j : Nat} (h : j < l.length) : (pgE ty l)[j]? = some (.box (l.getD j default).b ty ((l.getD j default).bs.map u8)) := by
 rw [pgE, List.getElem?_map, List.getElem?_eq_getElem h, gd h]; rfl
theorem pgE_app (ty : TypeId) (l l' : List Pg) : pgE ty (l ++ l') = pgE ty l ++ pgE ty l' := List.map_append
def pgSet (l : List Pg) (j : Nat) (k : Nat) (x : UInt8) : List Pg := l.set j { l.getD j default with bs := (l.getD j default).bs.set k x }
theorem pgT_set {l : List Pg} {j : Nat} (h : j < l.length) (k : Nat) (x : UInt8) : pgT (pgSet l j k x) = pgT l := by
 unfold pgT pgSet
 apply List.ext_getElem?
 intro i
 rw [List.getElem?_map, List.getElem?_map, List.getElem?_set]
 split
 ·rename_i e
  subst e
  rw [List.getElem?_eq_getElem h, gd h]; rfl
 rfl
theorem pgE_set {ty : TypeId} {l : List Pg} {j : Nat} (h : j < l.length) (k : Nat) (x : UInt8) : (pgE ty l).set j (.box (l.getD j default).b ty (((l.getD j default).bs.map u8).set k (u8 x))) = pgE ty (pgSet l j k x) := by
 unfold pgE pgSet
 rw [← List.map_set, List.map_set (f := fun p : Pg => Ent.box p.b ty (p.bs.map u8))]
theorem pgI_set (n : Wd64) {l : List Pg} {j : Nat} (h : j < l.length) (k : Nat) (x : UInt8) : pgI n (pgSet l j k x) = pgI n l := by
 induction l generalizing j with
 | nil => exact absurd h (Nat.not_lt_zero j)
 | cons p r ih =>
  cases j with
  | zero => rfl
  | succ j =>
   have e : pgSet (p :: r) (j + 1) k x = p :: pgSet r j k x := rfl
   rw [e, pgI, pgI, ih (Nat.lt_of_succ_lt_succ h)]
theorem pgI_app (n : Wd64) (l : List Pg) (p : Pg) : pgI n (l ++ [p]) = match pgI n l with | some j => some j | none => if p.n = n then some l.length else none := by
 induction l with
 | nil => simp only [List.nil_append, pgI]; split <;> rfl
 | cons q r ih =>
  rw [List.cons_append, pgI, pgI, ih]
  by_cases h : q.n = n
  ·rw [if_pos h, if_pos h]
  ·rw [if_neg h, if_neg h]
   cases pgI n r with
   | some j => rfl
   | none =>
    by_cases hp : p.n = n
    ·simp only [if_pos hp, Option.map_none, Option.map_some, List.length_cons]
    ·simp only [if_neg hp, Option.map_none]
abbrev Mf := Wd64 → UInt8
def getM (l : List Pg) : Mf := fun at_ => match pgI (at_ / 4096#64) l with | some j => (l.getD j default).bs.getD (at_ % 4096#64).toNat 0 | none => 0
def updM (m : Mf) (a : Wd64) (x : UInt8) : Mf := fun z => if z = a then x else m z
def PgOk (l : List Pg) : Prop := ∀ j, j < l.length → (l.getD j default).bs.length = 4096
theorem PgOk.set {l : List Pg} (h : PgOk l) (j k : Nat) (x : UInt8) : PgOk (pgSet l j k x) := by
 intro i hi
 unfold pgSet at hi ⊢
 rw [List.length_set] at hi
 rw [List.getD_eq_getElem?_getD, List.getElem?_set]
 split
 ·rename_i e
  subst e
  rw [if_pos hi]
  show ((l.getD j default).bs.set k x).length = 4096
  rw [List.length_set]; exact h j hi
 rw [← List.getD_eq_getElem?_getD]; exact h i hi
theorem PgOk.app {l : List Pg} (h : PgOk l) {p : Pg} (hp : p.bs.length = 4096) : PgOk (l ++ [p]) := by
 intro i hi
 rw [List.length_append, List.length_singleton] at hi
 rw [List.getD_eq_getElem?_getD]
 rcases Nat.lt_or_ge i l.length with h1 | h1
 ·rw [List.getElem?_append_left h1, ← List.getD_eq_getElem?_getD]; exact h i h1
 rw [List.getElem?_append_right h1, show i - l.length = 0 by omega]; exact hp
theorem lt4096 (a : Wd64) : (a % 4096#64).toNat < 4096 := by
 rw [BitVec.toNat_umod]; exact Nat.mod_lt _ (by decide)
theorem split_eq {a z : Wd64} (h1 : z / 4096#64 = a / 4096#64) (h2 : (z % 4096#64).toNat = (a % 4096#64).toNat) : z = a := by
 apply BitVec.eq_of_toNat_eq
 have e1 := congrArg BitVec.toNat h1
 rw [BitVec.toNat_udiv, BitVec.toNat_udiv] at e1
 rw [BitVec.toNat_umod, BitVec.toNat_umod] at h2
 have n4 : (4096#64 : Wd64).toNat = 4096 := rfl
 rw [n4] at e1 h2
 have := Nat.div_add_mod z.toNat 4096
 have := Nat.div_add_mod a.toNat 4096
 omega
theorem get_set {l : List Pg} {a : Wd64} {j : Nat} (hj : pgI (a / 4096#64) l = some j) (hl : PgOk l) (x : UInt8) : getM (pgSet l j (a % 4096#64).toNat x) = updM (getM l) a x := by
 obtain ⟨hlt, hn⟩ := pgI_lt hj
 have hlen := hl j hlt
 funext z
 unfold getM updM
 rw [pgI_set _ hlt]
 by_cases hz : z = a
 ·subst hz
  rw [if_pos rfl, hj]
  show ((pgSet l j _ x).getD j default).bs.getD _ 0 = x
  unfold pgSet
  rw [List.getD_eq_getElem?_getD (l := l.set j _), List.getElem?_set_self hlt]
  show ((l.getD j default).bs.set _ x).getD _ 0 = x
  rw [List.getD_eq_getElem?_getD, List.getElem?_set_self (by rw [hlen]; exact lt4096 z)]; rfl
 rw [if_neg hz]
 cases hq : pgI (z / 4096#64) l with
 | none => simp only [hq]
 | some i =>
  simp only [hq]
  obtain ⟨hi, hin⟩ := pgI_lt hq
  show ((pgSet l j _ x).getD i default).bs.getD _ 0 = (l.getD i default).bs.getD _ 0
  unfold pgSet
  rw [List.getD_eq_getElem?_getD (l := l.set j _), List.getElem?_set]
  split
  ·rename_i e
   subst e
   show ((l.getD j default).bs.set _ x).getD _ 0 = _
   rw [List.getD_eq_getElem?_getD, List.getElem?_set_ne, ← List.getD_eq_getElem?_getD]
   intro e2
   exact hz (split_eq (hin.symm.trans hn) e2.symm)
  ·rw [← List.getD_eq_getElem?_getD]
def zeros4 : List UInt8 := List.replicate 4096 0
theorem get_new {l : List Pg} {a : Wd64} (b : Nat) (hj : pgI (a / 4096#64) l = none) : getM (l ++ [⟨a / 4096#64, b, zeros4⟩]) = getM l := by
 funext z
 unfold getM
 rw [pgI_app]
 cases hq : pgI (z / 4096#64) l with
 | some j =>
  have := (pgI_lt hq).1
  show ((l ++ [_]).getD j default).bs.getD _ 0 = (l.getD j default).bs.getD _ 0
  rw [List.getD_eq_getElem?_getD (l := l ++ _), List.getElem?_append_left this, ← List.getD_eq_getElem?_getD]
 | none =>
  by_cases h : a / 4096#64 = z / 4096#64
  ·simp only [if_pos h]
   rw [List.getD_eq_getElem?_getD (l := l ++ _), List.getElem?_append_right (Nat.le_refl _), Nat.sub_self]
   show zeros4.getD _ 0 = 0
   unfold zeros4
   rw [List.getD_eq_getElem?_getD, List.getElem?_replicate]
   split <;> rfl
  ·simp only [if_neg h]
theorem new_I {l : List Pg} {a : Wd64} (b : Nat) (hj : pgI (a / 4096#64) l = none) : pgI (a / 4096#64) (l ++ [⟨a / 4096#64, b, zeros4⟩]) = some l.length := by
 rw [pgI_app, hj]; simp
def memE (ty : TypeId) (pg : Nat) (l : List Pg) : St := .map pg (pgT l) :: pgE ty l
def pgP (n : Wd64) (l : List Pg) : Option Addr := (pgI n l).map fun j => ⟨(l.getD j default).b, 0, none⟩
theorem lk_pg (n : Wd64) (l : List Pg) : (getK (wk n) (pgT l)).getD (.v (.pointer none)) = .v (.pointer (pgP n l)) := by
 rw [getK_pg, pgP]
 cases pgI n l <;> rfl
theorem pgP_none {n : Wd64} {l : List Pg} (h : (pgP n l).isNone = true) : pgI n l = none := by
 unfold pgP at h
 cases hq : pgI n l with
 | none => rfl
 | some j => rw [hq] at h; cases h
theorem pgP_ne {n : Wd64} {l : List Pg} (h : (pgP n l).isNone = false) : ∃ j, pgI n l = some j := by
 unfold pgP at h
 cases hq : pgI n l with
 | none => rw [hq] at h; cases h
 | some j => exact ⟨j, rfl⟩
theorem pgP_some {n : Wd64} {l : List Pg} {j : Nat} (h : pgI n l = some j) : pgP n l = some ⟨(l.getD j default).b, 0, none⟩ := by rw [pgP, h]; rfl
theorem new_b {l : List Pg} {p : Pg} : ((l ++ [p]).getD l.length default) = p := by
 rw [List.getD_eq_getElem?_getD, List.getElem?_append_right (Nat.le_refl _), Nat.sub_self]; rfl
theorem zeros_len : zeros4.length = 4096 := by unfold zeros4; exact List.length_replicate ..
theorem pgE_new (ty : TypeId) (n : Wd64) (b : Nat) : pgE ty [⟨n, b, zeros4⟩] = [Ent.box b ty (List.replicate 4096 (u8 0))] := by
 unfold pgE zeros4
 simp only [List.map_cons, List.map_nil, List.map_replicate]
theorem mem_new {ty : TypeId} {X : Ent} {pg : Nat} {l : List Pg} {n : Wd64} {b : Nat} (h : pgI n l = none) : (((X :: memE ty pg l) ++ [Ent.box b ty (List.replicate 4096 (u8 0))]).set 1 (Ent.map pg (putK (wk n) (.v (.pointer (some ⟨b, 0, none⟩))) (pgT l)))) = X :: memE ty pg (l ++ [⟨n, b, zeros4⟩]) := by
 rw [putK_pg n b zeros4 l h]
 show X :: Ent.map pg (pgT (l ++ [⟨n, b, zeros4⟩])) :: (pgE ty l ++ [Ent.box b ty (List.replicate 4096 (u8 0))]) = X :: Ent.map pg (pgT (l ++ [⟨n, b, zeros4⟩])) :: pgE ty (l ++ [⟨n, b, zeros4⟩])
 rw [pgE_app, pgE_new]
theorem set_take {l : List T} {p : Nat} {r : T} (h : p < l.length) : l.take p ++ [r] ++ l.drop (p + 1) = l.set p r := by
 rw [List.set_eq_take_append_cons_drop, if_pos h, List.append_assoc]; rfl
theorem mem_put {ty : TypeId} {X : Ent} {pg : Nat} {l : List Pg} {j : Nat} {a : Wd64} {x : UInt8} (h : j < l.length) (hl : (l.getD j default).bs.length = 4096) : ((X :: memE ty pg l).set (j + 2) (Ent.box (l.getD j default).b ty (((l.getD j default).bs.map u8).take (0 + (a % 4096#64).toNat * 1) ++ cellsT (u8 x) ++ ((l.getD j default).bs.map u8).drop (0 + (a % 4096#64).toNat * 1 + 1)))) = X :: memE ty pg (pgSet l j (a % 4096#64).toNat x) := by
 rw [Nat.zero_add, Nat.mul_one]
 show X :: Ent.map pg (pgT l) :: (pgE ty l).set j _ = X :: Ent.map pg (pgT (pgSet l j _ x)) :: pgE ty (pgSet l j _ x)
 rw [pgT_set h, ← pgE_set h, show cellsT (u8 x) = [u8 x] from rfl, set_take (by rw [List.length_map, hl]; exact lt4096 a)]
theorem byte_at {l : List Pg} {j : Nat} {a : Wd64} (h : pgI (a / 4096#64) l = some j) (hl : PgOk l) : ((l.getD j default).bs.map u8)[0 + (a % 4096#64).toNat * 1]? = some (u8 (getM l a)) := by
 have hj := (pgI_lt h).1
 rw [Nat.zero_add, Nat.mul_one, List.getElem?_map, List.getElem?_eq_getElem (by rw [hl j hj]; exact lt4096 a)]
 unfold getM
 rw [h]
 show some (u8 _) = some (u8 ((l.getD j default).bs.getD _ 0))
 rw [List.getD_eq_getElem?_getD (l := (l.getD j default).bs), List.getElem?_eq_getElem (by rw [hl j hj]; exact lt4096 a)]; rfl
theorem byte_none {l : List Pg} {a : Wd64} (h : pgI (a / 4096#64) l = none) : getM l a = 0 := by
 unfold getM; rw [h]
theorem mem_put' {ty : TypeId} {X : Ent} {pg : Nat} {l : List Pg} {j : Nat} {a : Wd64} {x : UInt8} (h : j < l.length) (hl : (l.getD j default).bs.length = 4096) : ((X :: memE ty pg l).set (j + 2) (Ent.box (l.getD j default).b ty (((l.getD j default).bs.map u8).take (0 + 0 + (a % 4096#64).toNat * 1) ++ cellsT (u8 x) ++ ((l.getD j default).bs.map u8).drop (0 + 0 + (a % 4096#64).toNat * 1 + 1)))) = X :: memE ty pg (pgSet l j (a % 4096#64).toNat x) := by
 rw [Nat.zero_add, Nat.mul_one]
 show X :: Ent.map pg (pgT l) :: (pgE ty l).set j _ = X :: Ent.map pg (pgT (pgSet l j _ x)) :: pgE ty (pgSet l j _ x)
 rw [pgT_set h, ← pgE_set h, show cellsT (u8 x) = [u8 x] from rfl, set_take (by rw [List.length_map, hl]; exact lt4096 a)]
theorem byte_at' {l : List Pg} {j : Nat} {a : Wd64} (h : pgI (a / 4096#64) l = some j) (hl : PgOk l) : ((l.getD j default).bs.map u8)[0 + 0 + (a % 4096#64).toNat * 1]? = some (u8 (getM l a)) := by
 rw [Nat.add_zero]
 exact byte_at h hl
end Go.Proofs.YtecpjlhbkmongaaGreat.M

namespace Go.Proofs.YtecpjlhbkmongaaGreat.M
open Go Go.RowKit
structure Ms where
 r : Nat → Wd64
 x : Nat → Wd64
 fC : Bool
 fP : Bool
 fZ : Bool
 fS : Bool
 fO : Bool
 rip : Wd64
 stop : Int
 code : Int
 steps : Int
def updR (r : Nat → Wd64) (i : Nat) (v : Wd64) : Nat → Wd64 := fun j => bif Nat.beq j i then v else r j
def mcC (s : Ms) (mm w kn : T) : List T := [zw (s.r 0), zw (s.r 1), zw (s.r 2), zw (s.r 3), zw (s.r 4), zw (s.r 5), zw (s.r 6), zw (s.r 7), zw (s.r 8), zw (s.r 9), zw (s.r 10), zw (s.r 11), zw (s.r 12), zw (s.r 13), zw (s.r 14), zw (s.r 15), zw (s.x 0), zw (s.x 1), zw (s.x 2), zw (s.x 3), zw (s.x 4), zw (s.x 5), zw (s.x 6), zw (s.x 7), zw (s.x 8), zw (s.x 9), zw (s.x 10), zw (s.x 11), zw (s.x 12), zw (s.x 13), zw (s.x 14), zw (s.x 15), bv s.fC, bv s.fP, bv s.fZ, bv s.fS, bv s.fO, zw s.rip, zi s.stop, zi s.code, mm, w, zi s.steps, kn]
theorem mc_r (s : Ms) (mm w kn : T) {i : Nat} (h : i < 16) : (mcC s mm w kn)[0 + 0 + i * 1]? = some (zw (s.r i)) := match i, h with
 | 0, _ => rfl
 | 1, _ => rfl
 | 2, _ => rfl
 | 3, _ => rfl
 | 4, _ => rfl
 | 5, _ => rfl
 | 6, _ => rfl
 | 7, _ => rfl
 | 8, _ => rfl
 | 9, _ => rfl
 | 10, _ => rfl
 | 11, _ => rfl
 | 12, _ => rfl
 | 13, _ => rfl
 | 14, _ => rfl
 | 15, _ => rfl
 | n + 16, h => absurd h (by omega)
theorem mc_x (s : Ms) (mm w kn : T) {i : Nat} (h : i < 16) : (mcC s mm w kn)[0 + 16 + i * 1]? = some (zw (s.x i)) := match i, h with
 | 0, _ => rfl
 | 1, _ => rfl
 | 2, _ => rfl
 | 3, _ => rfl
 | 4, _ => rfl
 | 5, _ => rfl
 | 6, _ => rfl
 | 7, _ => rfl
 | 8, _ => rfl
 | 9, _ => rfl
 | 10, _ => rfl
 | 11, _ => rfl
 | 12, _ => rfl
 | 13, _ => rfl
 | 14, _ => rfl
 | 15, _ => rfl
 | n + 16, h => absurd h (by omega)
theorem mc_set (s : Ms) (mm w kn : T) (v : Wd64) {i : Nat} (h : i < 16) : (mcC s mm w kn).take (0 + 0 + i * 1) ++ cellsT (zw v) ++ (mcC s mm w kn).drop (0 + 0 + i * 1 + 1) = mcC { s with r := updR s.r i v } mm w kn := match i, h with
 | 0, _ => rfl
 | 1, _ => rfl
 | 2, _ => rfl
 | 3, _ => rfl
 | 4, _ => rfl
 | 5, _ => rfl
 | 6, _ => rfl
 | 7, _ => rfl
 | 8, _ => rfl
 | 9, _ => rfl
 | 10, _ => rfl
 | 11, _ => rfl
 | 12, _ => rfl
 | 13, _ => rfl
 | 14, _ => rfl
 | 15, _ => rfl
 | n + 16, h => absurd h (by omega)
theorem mc_len (s : Ms) (mm w kn : T) : (mcC s mm w kn).length = 44 := rfl
end Go.Proofs.YtecpjlhbkmongaaGreat.M

namespace Go.Proofs.YtecpjlhbkmongaaGreat.M
open Go Go.RowKit
structure Seg where
 a : Wd64
 z : Wd64
 may : Int
 data : List UInt8
deriving Inhabited
def segC (s : Seg) : List T := [zw s.a, zw s.z, zi s.may, .sl 1 (s.data.map u8)]
def seg0 (s : Seg) : List T := [zw s.a, zw s.z, zi s.may, .v (.slice none 0 0)]
theorem len_flatM {α : Type} {f : α → List T} {k : Nat} (h : ∀ a, (f a).length = k) : ∀ l : List α, (l.flatMap f).length = l.length * k
 | [] => by simp
 | a :: l => by rw [List.flatMap_cons, List.length_append, h, len_flatM h l, List.length_cons, Nat.add_mul]; omega
theorem get_flatM {α : Type} [Inhabited α] {f : α → List T} {k : Nat} (h : ∀ a, (f a).length = k) : ∀ {l : List α} {j : Nat}, j < l.length → ((l.flatMap f).drop (j * k)).take k = f (l.getD j default)
 | [], j, hj => absurd hj (Nat.not_lt_zero j)
 | a :: l, 0, _ => by rw [List.flatMap_cons, Nat.zero_mul, List.drop_zero, List.take_append_of_le_length (by rw [h]; exact Nat.le_refl _), List.take_of_length_le (by rw [h]; exact Nat.le_refl _)]; rfl
 | a :: l, j + 1, hj => by
  rw [List.flatMap_cons, Nat.add_mul, Nat.one_mul, List.drop_append, h, List.drop_of_length_le (by rw [h]; omega), List.nil_append, show j * k + k - k = j * k by omega]
  exact get_flatM h (Nat.lt_of_succ_lt_succ hj)
theorem at_flatM {α : Type} [Inhabited α] {f : α → List T} {k : Nat} (h : ∀ a, (f a).length = k) {l : List α} {j o : Nat} (hj : j < l.length) (ho : o < k) : (l.flatMap f)[j * k + o]? = (f (l.getD j default))[o]? := by
 rw [← get_flatM h hj, List.getElem?_take_of_lt ho, List.getElem?_drop]
theorem len_segC {l : List Seg} : (l.flatMap segC).length = l.length * 4 := len_flatM (f := segC) (k := 4) (fun _ => rfl) l
theorem len_seg0 {l : List Seg} : (l.flatMap seg0).length = l.length * 4 := len_flatM (f := seg0) (k := 4) (fun _ => rfl) l
theorem segC_get {l : List Seg} {j : Nat} (h : j < l.length) : ((l.flatMap segC).drop (j * 4)).take 4 = segC (l.getD j default) := get_flatM (f := segC) (k := 4) (fun _ => rfl) h
theorem seg0_get {l : List Seg} {j : Nat} (h : j < l.length) : ((l.flatMap seg0).drop (j * 4)).take 4 = seg0 (l.getD j default) := get_flatM (f := seg0) (k := 4) (fun _ => rfl) h
theorem seg0_at0 {l : List Seg} {j : Nat} (h : j < l.length) : (l.flatMap seg0)[j * 4 + 0]? = some (zw (l.getD j default).a) := at_flatM (f := seg0) (k := 4) (fun _ => rfl) h (by decide)
theorem seg0_at1 {l : List Seg} {j : Nat} (h : j < l.length) : (l.flatMap seg0)[j * 4 + 1]? = some (zw (l.getD j default).z) := at_flatM (f := seg0) (k := 4) (fun _ => rfl) h (by decide)
theorem seg0_at2 {l : List Seg} {j : Nat} (h : j < l.length) : (l.flatMap seg0)[j * 4 + 2]? = some (zi (l.getD j default).may) := at_flatM (f := seg0) (k := 4) (fun _ => rfl) h (by decide)
theorem segC_at0 {l : List Seg} {j : Nat} (h : j < l.length) : (l.flatMap segC)[j * 4 + 0]? = some (zw (l.getD j default).a) := at_flatM (f := segC) (k := 4) (fun _ => rfl) h (by decide)
theorem segC_at1 {l : List Seg} {j : Nat} (h : j < l.length) : (l.flatMap segC)[j * 4 + 1]? = some (zw (l.getD j default).z) := at_flatM (f := segC) (k := 4) (fun _ => rfl) h (by decide)
theorem segC_at3 {l : List Seg} {j : Nat} (h : j < l.length) : (l.flatMap segC)[j * 4 + 3]? = some (.sl 1 ((l.getD j default).data.map u8)) := at_flatM (f := segC) (k := 4) (fun _ => rfl) h (by decide)
def cmF (s : Seg) (a : Wd64) : Int := if a < s.a then 1 else if s.z ≤ a - s.a then -1 else 0
def inS (s : Seg) (a : Nat) : Prop := s.a.toNat ≤ a ∧ a < s.a.toNat + s.z.toNat
def Srt (l : List Seg) : Prop := (∀ j, j < l.length → (l.getD j default).a.toNat + (l.getD j default).z.toNat ≤ 18446744073709551615) ∧ ∀ i j, i < j → j < l.length → (l.getD i default).a.toNat + (l.getD i default).z.toNat ≤ (l.getD j default).a.toNat
section
variable {l : List Seg} {a : Wd64}
theorem sub_w {a d : Wd64} (h : d.toNat ≤ a.toNat) : (a - d).toNat = a.toNat - d.toNat := BitVec.toNat_sub_of_le (by rw [BitVec.le_def]; exact h)
theorem add_w {a d : Wd64} (h : a.toNat + d.toNat < 18446744073709551616) : (a + d).toNat = a.toNat + d.toNat := by
 rw [BitVec.toNat_add]; exact Nat.mod_eq_of_lt h
theorem cm_lt {s : Seg} (h : cmF s a < 0) : s.a.toNat + s.z.toNat ≤ a.toNat := by
 unfold cmF at h
 split at h
 ·exact absurd h (by decide)
 rename_i h1
 rw [BitVec.lt_def] at h1
 split at h
 ·rename_i h2
  rw [BitVec.le_def, sub_w (by omega)] at h2
  omega
 exact absurd h (by decide)
theorem cm_0 {s : Seg} : cmF s a = 0 ↔ inS s a.toNat := by
 unfold cmF inS
 split
 ·rename_i h1
  rw [BitVec.lt_def] at h1
  constructor
  ·intro h; exact absurd h (by decide)
  intro h; omega
 rename_i h1
 rw [BitVec.lt_def] at h1
 split
 ·rename_i h2
  rw [BitVec.le_def, sub_w (by omega)] at h2
  constructor
  ·intro h; exact absurd h (by decide)
  intro h; omega
 rename_i h2
 rw [BitVec.le_def, sub_w (by omega)] at h2
 constructor
 ·intro _; omega
 intro _; rfl
theorem cm_of {s : Seg} (h : s.a.toNat + s.z.toNat ≤ a.toNat) : cmF s a < 0 := by
 unfold cmF
 rw [if_neg (by rw [BitVec.lt_def]; omega), if_pos (by rw [BitVec.le_def, sub_w (by omega)]; omega)]
 decide
theorem srt_lo (hs : Srt l) {m : Nat} (hm : m < l.length) (h : cmF (l.getD m default) a < 0) : ∀ k, k ≤ m → cmF (l.getD k default) a < 0 := fun k hk => by
 rcases Nat.lt_or_ge k m with q | q
 ·have h1 := cm_lt h
  have h2 := hs.2 k m q hm
  exact cm_of (by omega)
 ·rw [show k = m by omega]; exact h
theorem srt_hi (hs : Srt l) {m : Nat} (h : ¬ cmF (l.getD m default) a < 0) : ∀ k, m ≤ k → k < l.length → ¬ cmF (l.getD k default) a < 0 := fun k hk hl q => h (srt_lo hs hl q m hk)
structure Found (l : List Seg) (a : Wd64) (i : Nat) : Prop where
 le : i ≤ l.length
 lo : ∀ k, k < i → cmF (l.getD k default) a < 0
 hi : ∀ k, i ≤ k → k < l.length → ¬ cmF (l.getD k default) a < 0
theorem Found.is (hs : Srt l) {i : Nat} (h : Found l a i) {k : Nat} (hk : k < l.length) (hin : inS (l.getD k default) a.toNat) : k = i := by
 have h0 := cm_0.2 hin
 have hik : i ≤ k := by
  rcases Nat.lt_or_ge k i with q | q
  ·exact absurd (h.lo k q) (by omega)
  ·exact q
 rcases Nat.lt_or_ge i k with q | q
 ·exfalso
  have h1 := hs.2 i k q hk
  have h2 := h.hi i (Nat.le_refl _) (by omega)
  exact h2 (cm_of (by have := hin.1; omega))
 omega
end
end Go.Proofs.YtecpjlhbkmongaaGreat.M

namespace Go.Proofs.YtecpjlhbkmongaaGreat.M
open Go Go.RowKit
def mayA (x m : Int) : Bool := decide (bitsOf .and .i64 x m = m)
def okB (l : List Seg) (may : Int) (a : Nat) : Prop := ∃ k, k < l.length ∧ inS (l.getD k default) a ∧ mayA (l.getD k default).may may = true
structure RoomI (l : List Seg) (a n : Nat) (may : Int) (g : Wd64) : Prop where
 le : g.toNat ≤ n
 top : a + g.toNat ≤ 18446744073709551616
 ok : ∀ j, j < g.toNat → okB l may (a + j)
def Room (l : List Seg) (a n : Nat) (may : Int) (g : Wd64) : Prop := RoomI l a n may g ∧ (g.toNat < n → 18446744073709551616 ≤ a + g.toNat ∨ ¬ okB l may (a + g.toNat))
def minW (u v : Wd64) : Wd64 := if u.toNat ≤ v.toNat then u else v
theorem minW_n (u v : Wd64) : (minW u v).toNat = min u.toNat v.toNat := by
 unfold minW
 split <;> omega
section
variable {l : List Seg} {a n b g : Wd64} {may : Int} {i : Nat}
theorem RoomI.init : RoomI l a.toNat n.toNat may 0#64 := ⟨Nat.zero_le _, by have := a.isLt; show a.toNat + 0 ≤ _; omega, fun j hj => absurd hj (Nat.not_lt_zero j)⟩
theorem RoomI.step (h : RoomI l a.toNat n.toNat may g) (hs : Srt l) (hg : g.toNat < n.toNat) (hb : b.toNat = a.toNat + g.toNat) (hi : i < l.length) (hin : inS (l.getD i default) b.toNat) (hok : mayA (l.getD i default).may may = true) :
    RoomI l a.toNat n.toNat may (g + minW (n - g) ((l.getD i default).z - (b - (l.getD i default).a))) ∧ g.toNat < (g + minW (n - g) ((l.getD i default).z - (b - (l.getD i default).a))).toNat := by
 have h1 := hs.1 i hi
 obtain ⟨h2, h3⟩ := hin
 have e1 : (n - g).toNat = n.toNat - g.toNat := sub_w (by omega)
 have e2 : (b - (l.getD i default).a).toNat = b.toNat - (l.getD i default).a.toNat := sub_w h2
 have e3 : ((l.getD i default).z - (b - (l.getD i default).a)).toNat = (l.getD i default).z.toNat - (b.toNat - (l.getD i default).a.toNat) := by rw [sub_w (by omega), e2]
 have e4 := minW_n (n - g) ((l.getD i default).z - (b - (l.getD i default).a))
 rw [e1, e3] at e4
 have hn := n.isLt
 have e5 : (g + minW (n - g) ((l.getD i default).z - (b - (l.getD i default).a))).toNat = g.toNat + min (n.toNat - g.toNat) ((l.getD i default).z.toNat - (b.toNat - (l.getD i default).a.toNat)) := by rw [add_w (by omega), e4]
 refine ⟨⟨by omega, by omega, fun j hj => ?_⟩, by omega⟩
 rw [e5] at hj
 rcases Nat.lt_or_ge j g.toNat with q | q
 ·exact h.ok j q
 exact ⟨i, hi, ⟨by omega, by omega⟩, hok⟩
theorem Found.ok (hs : Srt l) (h : Found l b i) (hn : ¬ (i < l.length ∧ cmF (l.getD i default) b = 0 ∧ mayA (l.getD i default).may may = true)) : ¬ okB l may b.toNat := by
 rintro ⟨k, hk, h1, h2⟩
 obtain rfl := h.is hs hk h1
 exact hn ⟨hk, cm_0.2 h1, h2⟩
theorem Room.end1 (h : RoomI l a.toNat n.toNat may g) (hg : ¬ g < n) : Room l a.toNat n.toNat may g := ⟨h, fun q => absurd q (by rw [BitVec.lt_def] at hg; exact hg)⟩
theorem Room.end2 (h : RoomI l a.toNat n.toNat may g) (hg : 18446744073709551615#64 - g < a) : Room l a.toNat n.toNat may g := ⟨h, fun _ => .inl (by
 rw [BitVec.lt_def, sub_w (by have := g.isLt; show g.toNat ≤ 18446744073709551615; omega)] at hg
 have e : (18446744073709551615#64 : Wd64).toNat = 18446744073709551615 := rfl
 omega)⟩
theorem room_b (hg : ¬ 18446744073709551615#64 - g < a) : (a + g).toNat = a.toNat + g.toNat := by
 rw [BitVec.lt_def, sub_w (by have := g.isLt; show g.toNat ≤ 18446744073709551615; omega)] at hg
 have e : (18446744073709551615#64 : Wd64).toNat = 18446744073709551615 := rfl
 have := g.isLt
 exact add_w (by omega)
theorem Room.end3 (h : RoomI l a.toNat n.toNat may g) (hs : Srt l) (hf : Found l b i) (hb : b.toNat = a.toNat + g.toNat) (hn : ¬ (i < l.length ∧ cmF (l.getD i default) b = 0 ∧ mayA (l.getD i default).may may = true)) : Room l a.toNat n.toNat may g := ⟨h, fun _ => .inr (by rw [← hb]; exact hf.ok hs hn)⟩
theorem room_c : ((!(decide (i < l.length) && decide (cmF (l.getD i default) b = 0))) || (!decide (bitsOf .and .i64 (l.getD i default).may may = may))) = true ↔ ¬ (i < l.length ∧ cmF (l.getD i default) b = 0 ∧ mayA (l.getD i default).may may = true) := by
 unfold mayA
 simp only [Bool.or_eq_true, Bool.not_eq_true', Bool.and_eq_false_iff, decide_eq_false_iff_not, decide_eq_true_eq]
 constructor
 ·rintro ((h | h) | h) ⟨q1, q2, q3⟩
  ·exact h q1
  ·exact h q2
  exact h q3
 intro h
 by_cases q1 : i < l.length
 ·by_cases q2 : cmF (l.getD i default) b = 0
  ·exact .inr fun q3 => h ⟨q1, q2, q3⟩
  exact .inl (.inr q2)
 exact .inl (.inl q1)
theorem Room.all (h : Room l a.toNat n.toNat may g) : g = n ↔ (∀ j, j < n.toNat → okB l may (a.toNat + j)) ∧ a.toNat + n.toNat ≤ 18446744073709551616 := by
 constructor
 ·rintro rfl
  exact ⟨h.1.ok, h.1.top⟩
 rintro ⟨q1, q2⟩
 apply BitVec.eq_of_toNat_eq
 have := h.1.le
 rcases Nat.lt_or_ge g.toNat n.toNat with z | z
 ·rcases h.2 z with e | e
  ·omega
  exact absurd (q1 _ z) e
 omega
end
end Go.Proofs.YtecpjlhbkmongaaGreat.M

namespace Go.Proofs
open Go.Shelf
def Tryz.sort30_ren : Go.Shelf.Ren := ⟨fun | 6 => 30 | 15 => 43 | 14 => 42 | 28 => 71 | 29 => 72 | 20 => 63 | 21 => 64 | 22 => 65 | 23 => 66 | 24 => 67 | 25 => 68 | 26 => 69 | 27 => 70 | 46 => 93 | 47 => 94 | 48 => 95 | 49 => 96 | 50 => 97 | 57 => 112 | n => n, fun | 22 => 23 | 24 => 29 | 25 => 104 | 3 => 3 | 39 => 122 | 0 => 0 | 53 => 150 | 55 => 22 | 4 => 4 | 46 => 144 | 45 => 143 | 50 => 106 | 5 => 5 | 9 => 9 | 66 => 175 | 70 => 178 | 76 => 196 | 77 => 42 | n => n, fun | n => n⟩
theorem Tryz.sort30 : Go.Proofs.SlLaysF0.n6 Tryz.prog Tryz.sort30_ren := {
 mixed := by kernel_rfl
 f6 := ⟨Tryz.f30.name, by decide, Tryz.func30.trans (congrArg some (by kernel_rfl))⟩
 f14 := ⟨Tryz.f42.name, by decide, Tryz.func42.trans (congrArg some (by kernel_rfl))⟩
 f15 := Tryz.func43.trans (congrArg some (by kernel_rfl))
 f20 := ⟨Tryz.f63.name, by decide, Tryz.func63.trans (congrArg some (by kernel_rfl))⟩
 f21 := ⟨Tryz.f64.name, by decide, Tryz.func64.trans (congrArg some (by kernel_rfl))⟩
 f22 := ⟨Tryz.f65.name, by decide, Tryz.func65.trans (congrArg some (by kernel_rfl))⟩
 f23 := ⟨Tryz.f66.name, by decide, Tryz.func66.trans (congrArg some (by kernel_rfl))⟩
 f24 := ⟨Tryz.f67.name, by decide, Tryz.func67.trans (congrArg some (by kernel_rfl))⟩
 f25 := ⟨Tryz.f68.name, by decide, Tryz.func68.trans (congrArg some (by kernel_rfl))⟩
 f26 := ⟨Tryz.f69.name, by decide, Tryz.func69.trans (congrArg some (by kernel_rfl))⟩
 f27 := ⟨Tryz.f70.name, by decide, Tryz.func70.trans (congrArg some (by kernel_rfl))⟩
 f28 := Tryz.func71.trans (congrArg some (by kernel_rfl))
 f29 := Tryz.func72.trans (congrArg some (by kernel_rfl))
 f46 := ⟨Tryz.f93.name, by decide, Tryz.func93.trans (congrArg some (by kernel_rfl))⟩
 f47 := Tryz.func94.trans (congrArg some (by kernel_rfl))
 f48 := Tryz.func95.trans (congrArg some (by kernel_rfl))
 f49 := ⟨Tryz.f96.name, by decide, Tryz.func96.trans (congrArg some (by kernel_rfl))⟩
 f50 := ⟨Tryz.f97.name, by decide, Tryz.func97.trans (congrArg some (by kernel_rfl))⟩
 f57 := ⟨Tryz.f112.name, by decide, Tryz.func112.trans (congrArg some (by kernel_rfl))⟩
 t0 := Tryz.underlying0
 a0 := Tryz.isAgg0
 z0 := Tryz.sizeOf0
 v0 := Tryz.zeroValue0
 t3 := Tryz.underlying3
 a3 := Tryz.isAgg3
 z3 := Tryz.sizeOf3
 v3 := Tryz.zeroValue3
 t4 := Tryz.underlying4
 a4 := Tryz.isAgg4
 z4 := Tryz.sizeOf4
 v4 := Tryz.zeroValue4
 t5 := Tryz.underlying5
 a5 := Tryz.isAgg5
 z5 := Tryz.sizeOf5
 v5 := Tryz.zeroValue5
 t9 := Tryz.underlying9
 a9 := Tryz.isAgg9
 z9 := Tryz.sizeOf9
 v9 := Tryz.zeroValue9
 t22 := Tryz.underlying23
 a22 := Tryz.isAgg23
 z22 := Tryz.sizeOf23
 v22 := Tryz.zeroValue23
 t25 := Tryz.underlying104
 a25 := Tryz.isAgg104
 z25 := Tryz.sizeOf104
 v25 := Tryz.zeroValue104
 t39 := Tryz.underlying122
 a39 := Tryz.isAgg122
 z39 := Tryz.sizeOf122
 v39 := Tryz.zeroValue122
 t45 := Tryz.underlying143
 a45 := Tryz.isAgg143
 z45 := Tryz.sizeOf143
 v45 := Tryz.zeroValue143
 t46 := Tryz.underlying144
 a46 := Tryz.isAgg144
 z46 := Tryz.sizeOf144
 v46 := Tryz.zeroValue144
 t50 := Tryz.underlying106
 a50 := Tryz.isAgg106
 z50 := Tryz.sizeOf106
 v50 := Tryz.zeroValue106
 t53 := Tryz.underlying150
 a53 := Tryz.isAgg150
 z53 := Tryz.sizeOf150
 v53 := Tryz.zeroValue150
 t55 := Tryz.underlying22
 a55 := Tryz.isAgg22
 z55 := Tryz.sizeOf22
 v55 := Tryz.zeroValue22
 t66 := Tryz.underlying175
 a66 := Tryz.isAgg175
 z66 := Tryz.sizeOf175
 v66 := Tryz.zeroValue175
 t70 := Tryz.underlying178
 a70 := Tryz.isAgg178
 z70 := Tryz.sizeOf178
 v70 := Tryz.zeroValue178
 t76 := Tryz.underlying196
 a76 := Tryz.isAgg196
 z76 := Tryz.sizeOf196
 v76 := Tryz.zeroValue196
 t77 := Tryz.underlying42
 a77 := Tryz.isAgg42
 z77 := Tryz.sizeOf42
 v77 := Tryz.zeroValue42 }
end Go.Proofs

namespace Go.Proofs.YtecpjlhbkmongaaGreat.M
open Go Go.RowKit Go.Sort Go.Shelf
def encG (s : Seg) : List Value := [.int .u64 (s.a.toNat : Int), .int .u64 (s.z.toNat : Int), .int .i64 s.may, .slice none 0 0]
theorem seg0_enc : ∀ l : List Seg, l.flatMap seg0 = (l.flatMap encG).map T.v
 | [] => rfl
 | s :: l => by rw [List.flatMap_cons, List.flatMap_cons, List.map_append, seg0_enc l]; rfl
def cfG (x y : Seg) : Int := if x.a < y.a then -1 else 1
theorem lt_cfG (x y : Seg) : ltOf cfG x y = decide (x.a < y.a) := by
 unfold ltOf cfG
 split <;> simp_all
theorem swoG : SWO (ltOf cfG) := by
 refine ⟨fun x => ?_, fun x y z => ?_, fun x y z => ?_⟩ <;> simp only [lt_cfG, decide_eq_true_eq, decide_eq_false_iff_not, BitVec.lt_def] <;> omega
set_option maxHeartbeats 2000000 in
theorem closure31 (x y : Seg) (W : World) : Calls Tryz.prog 31 #[.agg (encG x).toArray, .agg (encG y).toArray] W fun e w' => e = .returned (.int .i64 (cfG x y)) ∧ ∃ q os', w' = grow (W.drewN q) os' := by
 unfold encG
 go_enter Tryz.func31, Tryz.ntmps31
 go_wp2
 ·go_ret
  rename_i h
  refine ⟨by rw [cfG, if_pos (by rw [BitVec.lt_def]; exact h)]; rfl, 0, _, by rw [alloc_eq_grow, alloc_eq_grow, grow_grow]; rfl⟩
 go_ret
 rename_i h
 refine ⟨by rw [cfG, if_neg (by rw [BitVec.lt_def]; exact h)]; rfl, 0, _, by rw [alloc_eq_grow, alloc_eq_grow, grow_grow]; rfl⟩
theorem cmpLays31 (blk off size : Nat) (w : World) : CmpLays Tryz.prog 31 #[] encG 4 cfG blk off size w :=
 fun _ _ _ _ x y => closure31 x y _
theorem get_flatV {α β : Type} [Inhabited α] {f : α → List β} {k : Nat} (h : ∀ a, (f a).length = k) : ∀ {l : List α} {j o : Nat}, j < l.length → o < k → (l.flatMap f)[j * k + o]? = (f (l.getD j default))[o]?
 | [], j, o, hj, _ => absurd hj (Nat.not_lt_zero j)
 | a :: l, 0, o, _, ho => by rw [List.flatMap_cons, Nat.zero_mul, Nat.zero_add, List.getElem?_append_left (by rw [h]; exact ho)]; rfl
 | a :: l, j + 1, o, hj, ho => by
  rw [List.flatMap_cons, List.getElem?_append_right (by rw [h, Nat.add_mul]; omega), h, show (j + 1) * k + o - k = j * k + o by rw [Nat.add_mul]; omega]
  exact get_flatV h (Nat.lt_of_succ_lt_succ hj) ho
theorem len_flatV {α β : Type} {f : α → List β} {k : Nat} (h : ∀ a, (f a).length = k) : ∀ l : List α, (l.flatMap f).length = l.length * k
 | [] => by simp
 | a :: l => by rw [List.flatMap_cons, List.length_append, h, len_flatV h l, List.length_cons, Nat.add_mul]; omega
theorem flatG (d : Array Seg) : (flatK encG 4 d).toList = d.toList.flatMap encG := by
 have hl : (d.toList.flatMap encG).length = d.toList.length * 4 := len_flatV (f := encG) (k := 4) (fun _ => rfl) _
 refine List.ext_getElem? fun t => ?_
 by_cases ht : t < d.size * 4
 ·have e : t = t / 4 * 4 + t % 4 := by omega
  have h1 := getElem!_pos (flatK encG 4 d) t (by rw [size_flatK]; exact ht)
  have h2 := get_flatK encG 4 d t ht
  rw [h1] at h2
  have hm : t % 4 < (encG (d[t / 4]!)).length := Nat.mod_lt t (by decide)
  have h3 := get_flatV (f := encG) (k := 4) (fun _ => rfl) (l := d.toList) (j := t / 4) (o := t % 4) (by rw [Array.length_toList]; omega) (by omega)
  rw [← e] at h3
  rw [h3, Array.getElem?_toList, Array.getElem?_eq_getElem (by rw [size_flatK]; exact ht), h2]
  have e4 : d.toList.getD (t / 4) default = d[t / 4]! := by
   rw [getElem!_pos d (t / 4) (by omega)]
   simp [List.getD, show t / 4 < d.size by omega]
  rw [e4, List.getElem?_eq_getElem hm, getElem!_pos (encG d[t / 4]!) (t % 4) hm]
 rw [List.getElem?_eq_none (by rw [Array.length_toList, size_flatK]; omega), List.getElem?_eq_none (by rw [hl, Array.length_toList]; omega)]
theorem vals_inv {w : World} {L : List Nat} {zs us : List Value} (h : VReps w L (zs.map T.v) us) : us = zs := by
 refine List.ext_getElem? fun j => ?_
 have hl := h.len
 rw [List.length_map] at hl
 by_cases hj : j < zs.length
 ·obtain ⟨u, e1, e2, _⟩ := h.get (i := j) (t := .v zs[j]) (by rw [List.getElem?_map, List.getElem?_eq_getElem hj]; rfl)
  rw [e1, e2.v_inv, List.getElem?_eq_getElem hj]
 rw [List.getElem?_eq_none (by omega), List.getElem?_eq_none (by omega)]
def ByAt (l : List Seg) : Prop := ∀ i j, i < j → j < l.length → ¬ (l.getD j default).a < (l.getD i default).a
set_option maxHeartbeats 1000000 in
theorem sort30 {A : Option Addr} {c : Nat} {l : List Seg} (hl : l.length < 274877906944) :
    ACalls Tryz.prog 30 [.v (.slice A l.length c), .v (.func (.func 31) #[] #[])] [.row A l.length c 29 4 (l.flatMap seg0)]
     (fun t S => t = .tup [] ∧ ∃ l' : List Seg, l'.Perm l ∧ ByAt l' ∧ S = [.row A l.length c 29 4 (l'.flatMap seg0)]) := by
 intro X w args hX hnd hent hlen hargs
 have ha : args = [.slice A l.length c, .func (.func 31) #[] #[]] := by
  match args, hlen, hargs with
  | [u, v], _, hargs =>
   have h1 := hargs 0 _ u rfl rfl
   have h2 := hargs 1 _ v rfl rfl
   rw [h1.v_inv, h2.v_inv]
 subst ha
 have hent0 := hent
 obtain ⟨us, ⟨hr1, hr2, hr3, hr4⟩, hreps⟩ := hent (.row A l.length c 29 4 (l.flatMap seg0)) (by simp)
 have hus : us = l.flatMap encG := by rw [seg0_enc] at hreps; exact vals_inv hreps
 subst hus
 rcases hr4 with ⟨rfl, hn0, rfl⟩ | ⟨g, cur, fr, rfl, hh, hfr, hcs, htk⟩
 ·have hl0 : l = [] := List.eq_nil_of_length_eq_zero hn0
  subst hl0
  refine (AnyF.slices_SortFunc_none Tryz.sort30 none 0 (.func (.func 31) #[] #[]) w).mono fun e w' hq => ?_
  obtain ⟨rfl, rfl⟩ := hq
  refine ⟨_, .tup [], [.row none 0 0 29 4 (([] : List Seg).flatMap seg0)], rfl, Keeps.refl _ _, hnd, fun b hb => .inl hb, hent0, ?_, rfl, [], List.Perm.refl _, fun i j _ hj => absurd hj (Nat.not_lt_zero _), rfl⟩
  exact .tup (ys := []) rfl (fun j t u h => by simp at h)
 have hg : g < w.heap.size := lt_of_heap hh
 have hfl : (l.toArray.size * 4) ≤ cur.size := by rw [List.size_toArray, hcs]; omega
 have hget : ∀ j, j < l.length * 4 → cur[j]? = (flatK encG 4 l.toArray)[j]? := fun j hj => by
  rw [← Array.getElem?_toList, ← Array.getElem?_toList, flatG]
  rw [show l.toArray.toList = l from rfl, ← htk, List.getElem?_take_of_lt hj]
 have hH : HoldsK encG 4 w g 0 l.toArray := by
  intro j hj
  rw [size_flatK, List.size_toArray] at hj
  refine ⟨?_, ?_⟩
  ·rw [cell_of_row w g _ cur 29 fr hh, Nat.zero_add, hget j hj, Array.getElem?_eq_getElem (by rw [size_flatK, List.size_toArray]; exact hj), getElem!_pos (flatK encG 4 l.toArray) j (by rw [size_flatK, List.size_toArray]; exact hj)]
   rfl
  ·obtain ⟨lo, hi'⟩ := fr
   simp only [World.frozen?, hh]
   simp only at hfr
   rcases hfr with h | h <;> (simp; intro h'; omega)
 have hc := AnyQ.slices_SortFunc Tryz.sort30 4 Tryz.isAgg29 Tryz.sizeOf29 encG (fun _ => rfl) (fun x v hv => by simp [encG] at hv; rcases hv with rfl | rfl | rfl | rfl <;> rfl) cfG swoG 31 #[] g 0 c l.toArray w (enters_of Tryz.func31 (by kernel_rfl) rfl) (cmpLays31 g 0 l.toArray.size w) hH hg (by rw [List.size_toArray]; omega)
 refine hc.mono fun e w' hq => ?_
 obtain ⟨rfl, d', n, os, hp, hs, rfl⟩ := hq
 obtain ⟨hp1, -, hp3⟩ := hp
 have hlen' : d'.toList.length = l.length := by rw [Array.length_toList, hp1, List.size_toArray]
 have hperm : d'.toList.Perm l := by
  have e1 : (d'.extract 0 l.toArray.size).toList = d'.toList := by rw [← hp1, Array.extract_size]
  have e2 : (l.toArray.extract 0 l.toArray.size).toList = l := by rw [Array.extract_size]
  rw [e1, e2] at hp3
  exact hp3
 have hcells : (sortWorldK encG 4 w g 0 n d' os).heap[g]? = some (.cells (putCells id 0 (flatK encG 4 d') cur) 29 fr) := by
  show ((w.heap.modify g (onCells (putCells id 0 (flatK encG 4 d')))) ++ os)[g]? = _
  rw [Array.getElem?_append_left (by simpa using hg), Array.getElem?_modify, if_pos rfl, hh]
  rfl
 have hother : ∀ k, k < w.heap.size → k ∉ M [.row (some ⟨g, 0, none⟩) l.length c 29 4 (l.flatMap seg0)] → (sortWorldK encG 4 w g 0 n d' os).heap[k]? = w.heap[k]? := fun k hk hkn => by
  have hne : g ≠ k := fun q => hkn (by subst q; simp [M, Ent.blk])
  show ((w.heap.modify g (onCells (putCells id 0 (flatK encG 4 d')))) ++ os)[k]? = _
  rw [Array.getElem?_append_left (by simpa using hk), Array.getElem?_modify, if_neg hne]
 have hsz : w.heap.size ≤ (sortWorldK encG 4 w g 0 n d' os).heap.size := by
  show w.heap.size ≤ ((w.heap.modify g (onCells (putCells id 0 (flatK encG 4 d')))) ++ os).size
  simp
 have htl : (putCells id 0 (flatK encG 4 d') cur).toList.take (l.length * 4) = d'.toList.flatMap encG := by
  have hl2 : (d'.toList.flatMap encG).length = l.length * 4 := by rw [len_flatV (f := encG) (k := 4) (fun _ => rfl), hlen']
  refine List.ext_getElem? fun t => ?_
  by_cases ht : t < l.length * 4
  ·rw [List.getElem?_take_of_lt ht, ← flatG, Array.getElem?_toList, Array.getElem?_toList]
   have hts : t < (flatK encG 4 d').size := by rw [size_flatK, ← Array.length_toList, hlen']; exact ht
   unfold putCells
   rw [Array.getElem?_mapIdx, Array.getElem?_eq_getElem (by rw [List.size_toArray] at hfl; omega), Array.getElem?_eq_getElem hts]
   simp only [Option.map_some, Nat.zero_add, Nat.zero_le, true_and, Nat.sub_zero, id]
   rw [if_pos hts, getElem!_pos (flatK encG 4 d') t hts]
  ·rw [List.getElem?_eq_none (by rw [List.length_take]; omega), List.getElem?_eq_none (by omega)]
 refine ⟨_, .tup [], [.row (some ⟨g, 0, none⟩) l.length c 29 4 (d'.toList.flatMap seg0)], rfl, ⟨rfl, rfl, rfl, hsz, hother⟩, hnd, fun b hb => .inl hb, fun e he => ?_, .tup (ys := []) rfl (fun j t u h => by simp at h), rfl, d'.toList, hperm, fun i j hij hj => ?_, rfl⟩
 ·rw [List.mem_singleton] at he
  subst he
  refine ⟨d'.toList.flatMap encG, ⟨by rw [len_flatV (f := encG) (k := 4) (fun _ => rfl), hlen'], hr2, hr3, .inr ⟨g, _, fr, rfl, hcells, ?_, ?_, htl⟩⟩, ?_⟩
  ·unfold putCells; rw [Array.size_mapIdx]; exact hfr
  ·unfold putCells; rw [Array.size_mapIdx]; exact hcs
  rw [seg0_enc]
  refine vreps_vals _ fun u hu => ?_
  obtain ⟨s, _, hu⟩ := List.mem_flatMap.1 hu
  simp [encG] at hu
  rcases hu with rfl | rfl | rfl | rfl <;> rfl
 have hj' : j < d'.size := by rw [← Array.length_toList]; exact hj
 have := hs i j (Nat.zero_le _) hij (by rw [← hp1]; exact hj')
 rw [lt_cfG, decide_eq_false_iff_not, getElem!_pos d' j hj', getElem!_pos d' i (by omega)] at this
 rw [gd (by rw [Array.length_toList]; omega), gd (by rw [Array.length_toList]; omega)]
 simpa using this
end Go.Proofs.YtecpjlhbkmongaaGreat.M

namespace Go.Proofs.YtecpjlhbkmongaaGreat.M
open Go Go.RowKit

set_option maxHeartbeats 2000000 in
theorem Stop9 (mb : Nat) (s : Ms) (mm w kn : T) :
    ACalls Tryz.prog 9 [.v (.pointer (some ⟨mb, 0, none⟩))] [Ent.box mb 73 (mcC s mm w kn)] (fun t S => t = .tup [zi s.stop, zi s.code] ∧ S = [Ent.box mb 73 (mcC s mm w kn)]) := by
 refine ACalls.intro Tryz.func9 rfl Tryz.ntmps9 (Nat.le_of_ble_eq_true rfl) rfl fun X w0 => ?_
 refine AW.rseq ?_
 refine AWL.y rfl rfl (B rfl) (Yv.assign rfl (E rfl rfl)) ?_
 refine AWL.y rfl rfl (B rfl) (Yv.assign rfl (E rfl rfl)) ?_
 refine AWL.nil ?_
 refine AW.seq ?_
 refine AW.rseq ?_
 refine AWL.y rfl rfl (B rfl) (Yv.move rfl (E rfl rfl)) ?_
 refine AWL.y rfl rfl (B rfl) (Yv.eqlNilP rfl pn_30 (E rfl rfl)) ?_
 refine AWL.nil ?_
 refine AW.cond rfl (fun h0t => ?_) (fun h0f => ?_)
 ·try replace h0t := of_decide_eq_true h0t
  cases h0t
 try replace h0f := of_decide_eq_false h0f
 refine AW.skip ?_
 refine AW.rseqQ rfl (by kernel_rfl) ?_
 refine AWQ.y rfl rfl (B rfl) (Yv.move rfl (E rfl rfl)) ?_
 refine AWQ.y rfl rfl (B rfl) (Yv.nilChk rfl (E rfl rfl)) ?_
 refine AWQ.y rfl rfl (B rfl) (Yv.fieldBox rfl fo_73_0 (E rfl rfl)) ?_
 refine AWQ.y rfl rfl (B rfl) (Yv.fieldBox rfl fo_71_4 (E rfl rfl)) ?_
 refine AWQ.y rfl rfl (B rfl) (Yv.loadBox rfl ag_3 (i := 0) rfl (E rfl rfl) rfl) ?_
 refine AWQ.y rfl rfl (B rfl) (Yv.move rfl (E rfl rfl)) ?_
 refine AWQ.y rfl rfl (B rfl) (Yv.nilChk rfl (E rfl rfl)) ?_
 refine AWQ.y rfl rfl (B rfl) (Yv.fieldBox rfl fo_73_0 (E rfl rfl)) ?_
 refine AWQ.y rfl rfl (B rfl) (Yv.fieldBox rfl fo_71_5 (E rfl rfl)) ?_
 refine AWQ.y rfl rfl (B rfl) (Yv.loadBox rfl ag_3 (i := 0) rfl (E rfl rfl) rfl) ?_
 refine AWQ.y rfl rfl (B rfl) (Yv.assign rfl (E rfl rfl)) ?_
 refine AWQ.y rfl rfl (B rfl) (Yv.assign rfl (E rfl rfl)) ?_
 refine AWQ.nil ?_
 refine AW.ret (retI (.tmp rfl (.tmp rfl .nil)) ?_)
 exact ⟨rfl, rfl⟩

set_option maxHeartbeats 2000000 in
theorem At10 (mb : Nat) (s : Ms) (mm w kn : T) :
    ACalls Tryz.prog 10 [.v (.pointer (some ⟨mb, 0, none⟩))] [Ent.box mb 73 (mcC s mm w kn)] (fun t S => t = zw s.rip ∧ S = [Ent.box mb 73 (mcC s mm w kn)]) := by
 refine ACalls.intro Tryz.func10 rfl Tryz.ntmps10 (Nat.le_of_ble_eq_true rfl) rfl fun X w0 => ?_
 refine AW.rseq ?_
 refine AWL.y rfl rfl (B rfl) (Yv.assign rfl (E rfl rfl)) ?_
 refine AWL.nil ?_
 refine AW.seq ?_
 refine AW.rseq ?_
 refine AWL.y rfl rfl (B rfl) (Yv.move rfl (E rfl rfl)) ?_
 refine AWL.y rfl rfl (B rfl) (Yv.eqlNilP rfl pn_30 (E rfl rfl)) ?_
 refine AWL.nil ?_
 refine AW.cond rfl (fun h0t => ?_) (fun h0f => ?_)
 ·try replace h0t := of_decide_eq_true h0t
  cases h0t
 try replace h0f := of_decide_eq_false h0f
 refine AW.skip ?_
 refine AW.rseq ?_
 refine AWL.y rfl rfl (B rfl) (Yv.move rfl (E rfl rfl)) ?_
 refine AWL.y rfl rfl (B rfl) (Yv.nilChk rfl (E rfl rfl)) ?_
 refine AWL.y rfl rfl (B rfl) (Yv.fieldBox rfl fo_73_0 (E rfl rfl)) ?_
 refine AWL.y rfl rfl (B rfl) (Yv.fieldBox rfl fo_71_3 (E rfl rfl)) ?_
 refine AWL.y rfl rfl (B rfl) (Yv.loadBox rfl ag_22 (i := 0) rfl (E rfl rfl) rfl) ?_
 refine AWL.y rfl rfl (B rfl) (Yv.assign rfl (E rfl rfl)) ?_
 refine AWL.nil ?_
 refine AW.ret (retI (.tmp rfl .nil) ?_)
 exact ⟨rfl, rfl⟩

set_option maxHeartbeats 2000000 in
theorem Steps11 (mb : Nat) (s : Ms) (mm w kn : T) :
    ACalls Tryz.prog 11 [.v (.pointer (some ⟨mb, 0, none⟩))] [Ent.box mb 73 (mcC s mm w kn)] (fun t S => t = zi s.steps ∧ S = [Ent.box mb 73 (mcC s mm w kn)]) := by
 refine ACalls.intro Tryz.func11 rfl Tryz.ntmps11 (Nat.le_of_ble_eq_true rfl) rfl fun X w0 => ?_
 refine AW.rseq ?_
 refine AWL.y rfl rfl (B rfl) (Yv.assign rfl (E rfl rfl)) ?_
 refine AWL.nil ?_
 refine AW.seq ?_
 refine AW.rseq ?_
 refine AWL.y rfl rfl (B rfl) (Yv.move rfl (E rfl rfl)) ?_
 refine AWL.y rfl rfl (B rfl) (Yv.eqlNilP rfl pn_30 (E rfl rfl)) ?_
 refine AWL.nil ?_
 refine AW.cond rfl (fun h0t => ?_) (fun h0f => ?_)
 ·try replace h0t := of_decide_eq_true h0t
  cases h0t
 try replace h0f := of_decide_eq_false h0f
 refine AW.skip ?_
 refine AW.rseq ?_
 refine AWL.y rfl rfl (B rfl) (Yv.move rfl (E rfl rfl)) ?_
 refine AWL.y rfl rfl (B rfl) (Yv.nilChk rfl (E rfl rfl)) ?_
 refine AWL.y rfl rfl (B rfl) (Yv.fieldBox rfl fo_73_3 (E rfl rfl)) ?_
 refine AWL.y rfl rfl (B rfl) (Yv.loadBox rfl ag_3 (i := 0) rfl (E rfl rfl) rfl) ?_
 refine AWL.y rfl rfl (B rfl) (Yv.assign rfl (E rfl rfl)) ?_
 refine AWL.nil ?_
 refine AW.ret (retI (.tmp rfl .nil) ?_)
 exact ⟨rfl, rfl⟩

def regF (r : Nat → Wd64) (i : Int) : Wd64 := if 0 ≤ i ∧ i < 16 then r i.toNat else 0#64
theorem reg_out {r : Nat → Wd64} {i : Int} (h : ¬ (0 ≤ i ∧ i < 16)) : regF r i = 0#64 := if_neg h
theorem reg_in {r : Nat → Wd64} {j : Nat} (h : j < 16) : regF r (j : Int) = r j := by
 unfold regF
 rw [if_pos (by omega), Int.toNat_natCast]
set_option maxHeartbeats 2000000 in
theorem Reg12 (mb : Nat) (s : Ms) (mm w kn : T) (i : Int) :
    ACalls Tryz.prog 12 [.v (.pointer (some ⟨mb, 0, none⟩)), zi i] [Ent.box mb 73 (mcC s mm w kn)] (fun t S => t = zw (regF s.r i) ∧ S = [Ent.box mb 73 (mcC s mm w kn)]) := by
 refine ACalls.intro Tryz.func12 rfl Tryz.ntmps12 (Nat.le_of_ble_eq_true rfl) rfl fun X w0 => ?_
 refine AW.rseq ?_
 refine AWL.y rfl rfl (B rfl) (Yv.assign rfl (E rfl rfl)) ?_
 refine AWL.nil ?_
 refine AW.seq ?_
 refine AW.rseq ?_
 refine AWL.y rfl rfl (B rfl) (Yv.move rfl (E rfl rfl)) ?_
 refine AWL.y rfl rfl (B rfl) (Yv.eqlNilP rfl pn_30 (E rfl rfl)) ?_
 refine AWL.y rfl rfl (B rfl) (Yv.move rfl (E rfl rfl)) ?_
 refine AWL.ygF rfl rfl rfl rfl (B rfl) (Yv.move rfl (E rfl rfl)) ?_
 refine AWL.ygF rfl rfl rfl rfl (B rfl) (Yv.lss rfl (Eg rfl rfl id) (E rfl rfl)) ?_
 refine AWL.y rfl rfl (B rfl) (Yv.pickOr (t := .const (.bool true)) rfl (E rfl rfl) (Eg rfl rfl id)) ?_
 refine AWL.y rfl rfl (B rfl) (Yv.move rfl (E rfl rfl)) ?_
 refine AWL.ygF rfl rfl rfl rfl (B rfl) (Yv.move rfl (E rfl rfl)) ?_
 refine AWL.ygF rfl rfl rfl rfl (B rfl) (Yv.gtr rfl (Eg rfl rfl id) (E rfl rfl)) ?_
 refine AWL.y rfl rfl (B rfl) (Yv.pickOr (t := .const (.bool true)) rfl (E rfl rfl) (Eg rfl rfl id)) ?_
 refine AWL.nil ?_
 refine AW.cond rfl (fun h0t => ?_) (fun h0f => ?_)
 ·try replace h0t := of_decide_eq_true h0t
  have hi : ¬ (0 ≤ i ∧ i < 16) := by simp at h0t; omega
  refine AW.rseq ?_
  refine AWL.y rfl rfl (B rfl) (Yv.assign rfl (E rfl rfl)) ?_
  refine AWL.nil ?_
  refine AW.ret (retI (.tmp rfl .nil) ?_)
  rw [reg_out hi]
  exact ⟨rfl, rfl⟩
 try replace h0f := of_decide_eq_false h0f
 have hi : 0 ≤ i ∧ i < 16 := by simp at h0f; omega
 obtain ⟨j, rfl⟩ : ∃ j : Nat, i = (j : Int) := ⟨i.toNat, by omega⟩
 have hj : j < 16 := by omega
 refine AW.skip ?_
 refine AW.rseq ?_
 refine AWL.y rfl rfl (B rfl) (Yv.move rfl (E rfl rfl)) ?_
 refine AWL.y rfl rfl (B rfl) (Yv.move rfl (E rfl rfl)) ?_
 refine AWL.y rfl rfl (B rfl) (Yv.nilChk rfl (E rfl rfl)) ?_
 refine AWL.y rfl rfl (B rfl) (Yv.fieldBox rfl fo_73_0 (E rfl rfl)) ?_
 refine AWL.y rfl rfl (B rfl) (Yv.fieldBox rfl fo_71_0 (E rfl rfl)) ?_
 refine AWL.y rfl rfl (B rfl) (Yv.indexArr (j := j) rfl ar_69 (E rfl rfl) (E rfl rfl) (fun hg => ⟨rfl, hj⟩)) ?_
 refine AWL.y rfl rfl (B rfl) (Yv.loadBox (i := 0) rfl ag_22 rfl (E rfl rfl) (mc_r s mm w kn hj)) ?_
 refine AWL.y rfl rfl (B rfl) (Yv.assign rfl (E rfl rfl)) ?_
 refine AWL.nil ?_
 refine AW.ret (retI (.tmp rfl .nil) ?_)
 rw [reg_in hj]
 exact ⟨rfl, rfl⟩

set_option maxHeartbeats 2000000 in
theorem Xmm18 (mb : Nat) (s : Ms) (mm w kn : T) (i : Int) :
    ACalls Tryz.prog 18 [.v (.pointer (some ⟨mb, 0, none⟩)), zi i] [Ent.box mb 73 (mcC s mm w kn)] (fun t S => t = zw (regF s.x i) ∧ S = [Ent.box mb 73 (mcC s mm w kn)]) := by
 refine ACalls.intro Tryz.func18 rfl Tryz.ntmps18 (Nat.le_of_ble_eq_true rfl) rfl fun X w0 => ?_
 refine AW.rseq ?_
 refine AWL.y rfl rfl (B rfl) (Yv.assign rfl (E rfl rfl)) ?_
 refine AWL.nil ?_
 refine AW.seq ?_
 refine AW.rseq ?_
 refine AWL.y rfl rfl (B rfl) (Yv.move rfl (E rfl rfl)) ?_
 refine AWL.y rfl rfl (B rfl) (Yv.eqlNilP rfl pn_30 (E rfl rfl)) ?_
 refine AWL.y rfl rfl (B rfl) (Yv.move rfl (E rfl rfl)) ?_
 refine AWL.ygF rfl rfl rfl rfl (B rfl) (Yv.move rfl (E rfl rfl)) ?_
 refine AWL.ygF rfl rfl rfl rfl (B rfl) (Yv.lss rfl (Eg rfl rfl id) (E rfl rfl)) ?_
 refine AWL.y rfl rfl (B rfl) (Yv.pickOr (t := .const (.bool true)) rfl (E rfl rfl) (Eg rfl rfl id)) ?_
 refine AWL.y rfl rfl (B rfl) (Yv.move rfl (E rfl rfl)) ?_
 refine AWL.ygF rfl rfl rfl rfl (B rfl) (Yv.move rfl (E rfl rfl)) ?_
 refine AWL.ygF rfl rfl rfl rfl (B rfl) (Yv.gtr rfl (Eg rfl rfl id) (E rfl rfl)) ?_
 refine AWL.y rfl rfl (B rfl) (Yv.pickOr (t := .const (.bool true)) rfl (E rfl rfl) (Eg rfl rfl id)) ?_
 refine AWL.nil ?_
 refine AW.cond rfl (fun h0t => ?_) (fun h0f => ?_)
 ·try replace h0t := of_decide_eq_true h0t
  have hi : ¬ (0 ≤ i ∧ i < 16) := by simp at h0t; omega
  refine AW.rseq ?_
  refine AWL.y rfl rfl (B rfl) (Yv.assign rfl (E rfl rfl)) ?_
  refine AWL.nil ?_
  refine AW.ret (retI (.tmp rfl .nil) ?_)
  rw [reg_out hi]
  exact ⟨rfl, rfl⟩
 try replace h0f := of_decide_eq_false h0f
 have hi : 0 ≤ i ∧ i < 16 := by simp at h0f; omega
 obtain ⟨j, rfl⟩ : ∃ j : Nat, i = (j : Int) := ⟨i.toNat, by omega⟩
 have hj : j < 16 := by omega
 refine AW.skip ?_
 refine AW.rseq ?_
 refine AWL.y rfl rfl (B rfl) (Yv.move rfl (E rfl rfl)) ?_
 refine AWL.y rfl rfl (B rfl) (Yv.move rfl (E rfl rfl)) ?_
 refine AWL.y rfl rfl (B rfl) (Yv.nilChk rfl (E rfl rfl)) ?_
 refine AWL.y rfl rfl (B rfl) (Yv.fieldBox rfl fo_73_0 (E rfl rfl)) ?_
 refine AWL.y rfl rfl (B rfl) (Yv.fieldBox rfl fo_71_1 (E rfl rfl)) ?_
 refine AWL.y rfl rfl (B rfl) (Yv.indexArr (j := j) rfl ar_69 (E rfl rfl) (E rfl rfl) (fun hg => ⟨rfl, hj⟩)) ?_
 refine AWL.y rfl rfl (B rfl) (Yv.loadBox (i := 0) rfl ag_22 rfl (E rfl rfl) (mc_x s mm w kn hj)) ?_
 refine AWL.y rfl rfl (B rfl) (Yv.assign rfl (E rfl rfl)) ?_
 refine AWL.nil ?_
 refine AW.ret (retI (.tmp rfl .nil) ?_)
 rw [reg_in hj]
 exact ⟨rfl, rfl⟩

set_option maxHeartbeats 2000000 in
theorem Flags13 (mb : Nat) (s : Ms) (mm w kn : T) :
    ACalls Tryz.prog 13 [.v (.pointer (some ⟨mb, 0, none⟩))] [Ent.box mb 73 (mcC s mm w kn)] (fun t S => t = .agg [bv s.fC, bv s.fP, bv s.fZ, bv s.fS, bv s.fO] ∧ ∃ E, S = [Ent.box mb 73 (mcC s mm w kn)] ++ [E]) := by
 refine ACalls.intro Tryz.func13 rfl Tryz.ntmps13 (Nat.le_of_ble_eq_true rfl) rfl fun X w0 => ?_
 refine AW.rseq ?_
 refine AWL.allocOp rfl rfl (B rfl) rfl zc_48 (fun b2 => ?_)
 refine AWL.nil ?_
 refine AW.seq ?_
 refine AW.rseq ?_
 refine AWL.y rfl rfl (B rfl) (Yv.move rfl (E rfl rfl)) ?_
 refine AWL.y rfl rfl (B rfl) (Yv.eqlNilP rfl pn_30 (E rfl rfl)) ?_
 refine AWL.nil ?_
 refine AW.cond rfl (fun h0t => ?_) (fun h0f => ?_)
 ·try replace h0t := of_decide_eq_true h0t
  cases h0t
 try replace h0f := of_decide_eq_false h0f
 refine AW.skip ?_
 refine AW.rseq ?_
 refine AWL.y rfl rfl (B rfl) (Yv.move rfl (E rfl rfl)) ?_
 refine AWL.y rfl rfl (B rfl) (Yv.nilChk rfl (E rfl rfl)) ?_
 refine AWL.y rfl rfl (B rfl) (Yv.fieldBox rfl fo_73_0 (E rfl rfl)) ?_
 refine AWL.y rfl rfl (B rfl) (Yv.fieldBox rfl fo_71_2 (E rfl rfl)) ?_
 refine AWL.y rfl rfl (B rfl) (Yv.loadBoxA rfl ag_48 (i := 0) rfl (E rfl rfl) rfl rfl) ?_
 refine AWL.storeBox (i := 1) rfl rfl rfl ag_48 rfl (E rfl rfl) (E rfl rfl) rfl rfl (Nat.le_of_ble_eq_true rfl) ?_
 refine AWL.nil ?_
 refine AW.ret (retI (.cellA (i := 1) rfl ag_48 rfl rfl rfl .nil) ?_)
 exact ⟨rfl, _, rfl⟩

set_option maxHeartbeats 2000000 in
theorem SetReg17 (mb : Nat) (s : Ms) (mm w kn : T) (i : Int) (v : Wd64) :
    ACalls Tryz.prog 17 [.v (.pointer (some ⟨mb, 0, none⟩)), zi i, zw v] [Ent.box mb 73 (mcC s mm w kn)] (fun t S => (0 ≤ i ∧ i < 16 → t = zi 0 ∧ S = [Ent.box mb 73 (mcC { s with r := updR s.r i.toNat v } mm w kn)]) ∧ (¬ (0 ≤ i ∧ i < 16) → t = zi 1 ∧ S = [Ent.box mb 73 (mcC s mm w kn)])) := by
 refine ACalls.intro Tryz.func17 rfl Tryz.ntmps17 (Nat.le_of_ble_eq_true rfl) rfl fun X w0 => ?_
 refine AW.rseq ?_
 refine AWL.y rfl rfl (B rfl) (Yv.assign rfl (E rfl rfl)) ?_
 refine AWL.nil ?_
 refine AW.seq ?_
 refine AW.rseq ?_
 refine AWL.y rfl rfl (B rfl) (Yv.move rfl (E rfl rfl)) ?_
 refine AWL.y rfl rfl (B rfl) (Yv.eqlNilP rfl pn_30 (E rfl rfl)) ?_
 refine AWL.y rfl rfl (B rfl) (Yv.move rfl (E rfl rfl)) ?_
 refine AWL.ygF rfl rfl rfl rfl (B rfl) (Yv.move rfl (E rfl rfl)) ?_
 refine AWL.ygF rfl rfl rfl rfl (B rfl) (Yv.lss rfl (Eg rfl rfl id) (E rfl rfl)) ?_
 refine AWL.y rfl rfl (B rfl) (Yv.pickOr (t := .const (.bool true)) rfl (E rfl rfl) (Eg rfl rfl id)) ?_
 refine AWL.y rfl rfl (B rfl) (Yv.move rfl (E rfl rfl)) ?_
 refine AWL.ygF rfl rfl rfl rfl (B rfl) (Yv.move rfl (E rfl rfl)) ?_
 refine AWL.ygF rfl rfl rfl rfl (B rfl) (Yv.gtr rfl (Eg rfl rfl id) (E rfl rfl)) ?_
 refine AWL.y rfl rfl (B rfl) (Yv.pickOr (t := .const (.bool true)) rfl (E rfl rfl) (Eg rfl rfl id)) ?_
 refine AWL.nil ?_
 refine AW.cond rfl (fun h0t => ?_) (fun h0f => ?_)
 ·try replace h0t := of_decide_eq_true h0t
  have hi : ¬ (0 ≤ i ∧ i < 16) := by simp at h0t; omega
  refine AW.rseq ?_
  refine AWL.y rfl rfl (B rfl) (Yv.assign rfl (E rfl rfl)) ?_
  refine AWL.nil ?_
  refine AW.ret (retI (.tmp rfl .nil) ?_)
  exact ⟨fun h => absurd h hi, fun _ => ⟨rfl, rfl⟩⟩
 try replace h0f := of_decide_eq_false h0f
 have hi : 0 ≤ i ∧ i < 16 := by simp at h0f; omega
 obtain ⟨j, rfl⟩ : ∃ j : Nat, i = (j : Int) := ⟨i.toNat, by omega⟩
 have hj : j < 16 := by omega
 refine AW.skip ?_
 refine AW.rseq ?_
 refine AWL.y rfl rfl (B rfl) (Yv.move rfl (E rfl rfl)) ?_
 refine AWL.y rfl rfl (B rfl) (Yv.move rfl (E rfl rfl)) ?_
 refine AWL.y rfl rfl (B rfl) (Yv.move rfl (E rfl rfl)) ?_
 refine AWL.y rfl rfl (B rfl) (Yv.nilChk rfl (E rfl rfl)) ?_
 refine AWL.y rfl rfl (B rfl) (Yv.fieldBox rfl fo_73_0 (E rfl rfl)) ?_
 refine AWL.y rfl rfl (B rfl) (Yv.fieldBox rfl fo_71_0 (E rfl rfl)) ?_
 refine AWL.y rfl rfl (B rfl) (Yv.indexArr (j := j) rfl ar_69 (E rfl rfl) (E rfl rfl) (fun hg => ⟨rfl, hj⟩)) ?_
 refine AWL.storeBox (i := 0) rfl rfl rfl ag_22 rfl (E rfl rfl) (E rfl rfl) rfl rfl (by rw [mc_len]; omega) ?_
 refine AWL.nil ?_
 rw [mc_set s mm w kn v hj]
 refine AW.eqS (S' := [Ent.box mb 73 (mcC { s with r := updR s.r j v } mm w kn)]) rfl ?_
 refine AW.rseq ?_
 refine AWL.y rfl rfl (B rfl) (Yv.assign rfl (E rfl rfl)) ?_
 refine AWL.nil ?_
 refine AW.ret (retI (.tmp rfl .nil) ?_)
 exact ⟨fun _ => ⟨rfl, by rw [Int.toNat_natCast]⟩, fun h => absurd hi h⟩

end Go.Proofs.YtecpjlhbkmongaaGreat.M

namespace Go.Proofs.YtecpjlhbkmongaaGreat.M
open Go Go.RowKit

set_option maxHeartbeats 400000 in
theorem cm36 (s : Seg) (a : Wd64) :
    ACalls Tryz.prog 36 [.agg (seg0 s), zw a] [] (fun t S => t = zi (cmF s a)) := by
 refine ACalls.intro Tryz.func36 rfl Tryz.ntmps36 (Nat.le_of_ble_eq_true rfl) rfl fun X w0 => ?_
 refine AW.rseq ?_
 refine AWL.boxOp rfl rfl (B rfl) rfl (E rfl rfl) rfl (fun b2 => ?_)
 refine AWL.y rfl rfl (B rfl) (Yv.assign rfl (E rfl rfl)) ?_
 refine AWL.nil ?_
 refine AW.seq ?_
 refine AW.block ?_
 refine AW.rseq ?_
 refine AWL.y rfl rfl (B rfl) (Yv.fieldBox rfl fo_29_0 (E rfl rfl)) ?_
 refine AWL.y rfl rfl (B rfl) (Yv.loadBox rfl ag_22 (i := 0) rfl (E rfl rfl) rfl) ?_
 refine AWL.y rfl rfl (B rfl) (Yv.move rfl (E rfl rfl)) ?_
 refine AWL.y rfl rfl (B rfl) (Yv.gtrW rfl (E rfl rfl) (E rfl rfl)) ?_
 refine AWL.y rfl rfl (B rfl) (Yv.assign rfl (E rfl rfl)) ?_
 refine AWL.nil ?_
 refine AW.cond rfl (fun h0t => ?_) (fun h0f => ?_)
 ·try replace h0t := of_decide_eq_true h0t
  refine AW.rseq ?_
  refine AWL.y rfl rfl (B rfl) (Yv.assign rfl (E rfl rfl)) ?_
  refine AWL.nil ?_
  refine AW.ret (retI (.tmp rfl .nil) ?_)
  unfold cmF; rw [if_pos h0t]; rfl
 try replace h0f := of_decide_eq_false h0f
 refine AW.rseq ?_
 refine AWL.y rfl rfl (B rfl) (Yv.move rfl (E rfl rfl)) ?_
 refine AWL.y rfl rfl (B rfl) (Yv.fieldBox rfl fo_29_0 (E rfl rfl)) ?_
 refine AWL.y rfl rfl (B rfl) (Yv.loadBox rfl ag_22 (i := 0) rfl (E rfl rfl) rfl) ?_
 refine AWL.y rfl rfl (B rfl) (Yv.subW rfl (E rfl rfl) (E rfl rfl)) ?_
 refine AWL.y rfl rfl (B rfl) (Yv.fieldBox rfl fo_29_1 (E rfl rfl)) ?_
 refine AWL.y rfl rfl (B rfl) (Yv.loadBox rfl ag_22 (i := 0) rfl (E rfl rfl) rfl) ?_
 refine AWL.y rfl rfl (B rfl) (Yv.geqW rfl (E rfl rfl) (E rfl rfl)) ?_
 refine AWL.y rfl rfl (B rfl) (Yv.assign rfl (E rfl rfl)) ?_
 refine AWL.nil ?_
 refine AW.cond rfl (fun h1t => ?_) (fun h1f => ?_)
 ·try replace h1t := of_decide_eq_true h1t
  refine AW.rseq ?_
  refine AWL.y rfl rfl (B rfl) (Yv.assign rfl (E rfl rfl)) ?_
  refine AWL.nil ?_
  refine AW.ret (retI (.tmp rfl .nil) ?_)
  unfold cmF; rw [if_neg h0f, if_pos h1t]; rfl
 try replace h1f := of_decide_eq_false h1f
 refine AW.skip ?_
 refine AW.rseq ?_
 refine AWL.y rfl rfl (B rfl) (Yv.assign rfl (E rfl rfl)) ?_
 refine AWL.nil ?_
 refine AW.ret (retI (.tmp rfl .nil) ?_)
 unfold cmF; rw [if_neg h0f, if_neg h1f]; rfl

theorem dec_nat (a b : Nat) : decide ((a : Int) < (b : Int)) = decide (a < b) := decide_eq_decide.2 (by omega)
theorem mid_w {n : Nat} (h : n ≤ 4194304) : IntKind.i64.wrap ((wI (n : Int) >>> 1).toNat : Int) = ((n / 2 : Nat) : Int) := by
 have e := wI_nat (n : Int)
 rw [wrap_u64] at e
 rw [BitVec.toNat_ushiftRight, Nat.shiftRight_eq_div_pow, IntWalk.i64_in _ (by omega)]
 omega
set_option maxHeartbeats 2000000 in
theorem find35 (l : List Seg) (a : Wd64) (hs : Srt l) (hl : l.length ≤ 1048576) :
    ACalls Tryz.prog 35 [.sl 4 (l.flatMap seg0), zw a, .v (.func (.func 36) #[] #[])] [] (fun t S => ∃ i, Found l a i ∧ t = .tup [zi (i : Int), bv (decide (i < l.length) && decide (cmF (l.getD i default) a = 0))]) := by
 refine ACalls.intro Tryz.func35 rfl Tryz.ntmps35 (Nat.le_of_ble_eq_true rfl) rfl fun X w0 => ?_
 refine AW.rseq ?_
 refine AWL.y rfl rfl (B rfl) (Yv.assign rfl (E rfl rfl)) ?_
 refine AWL.y rfl rfl (B rfl) (Yv.assign rfl (E rfl rfl)) ?_
 refine AWL.nil ?_
 refine AW.rseq ?_
 refine AWL.y rfl rfl (B rfl) (Yv.move rfl (E rfl rfl)) ?_
 refine AWL.y rfl rfl (B rfl) (Yv.lenSl rfl so_23 (B rfl) (E rfl rfl) len_seg0) ?_
 refine AWL.y rfl rfl (B rfl) (Yv.assign rfl (E rfl rfl)) ?_
 refine AWL.nil ?_
 refine AW.rseq ?_
 refine AWL.y rfl rfl (B rfl) (Yv.move rfl (E rfl rfl)) ?_
 refine AWL.y rfl rfl (B rfl) (Yv.assign rfl (E rfl rfl)) ?_
 refine AWL.y rfl rfl (B rfl) (Yv.assign rfl (E rfl rfl)) ?_
 refine AWL.nil ?_
 refine AW.seq ?_
 refine AW.block ?_
 refine AW.loop2 (fun (lo : Nat) (up : Nat) => [(0, true, .sl 4 (l.flatMap seg0)), (1, true, zw a), (2, true, .v (.func (.func 36) #[] #[])), (8, true, zi (l.length : Int)), (9, true, zi (lo : Int)), (10, true, zi (up : Int))]) (fun (lo : Nat) (up : Nat) => []) (fun (lo : Nat) (up : Nat) => lo ≤ up ∧ up ≤ l.length ∧ (∀ k, k < lo → cmF (l.getD k default) a < 0) ∧ ∀ k, up ≤ k → k < l.length → ¬ cmF (l.getD k default) a < 0) (fun (lo : Nat) (up : Nat) => up - lo) 0 l.length ?_ ?_ ?_ ?_
 ·exact ⟨Nat.zero_le _, Nat.le_refl _, fun k h => by omega, fun k h1 h2 => by omega⟩
 ·exact (Sub.cons rfl rfl (Sub.cons rfl rfl (Sub.cons rfl rfl (Sub.cons rfl rfl (Sub.cons rfl rfl (Sub.cons rfl rfl Sub.nil))))))
 ·rfl
 intro lo up ⟨h1, h2, h3, h4⟩
 refine AW.seq ?_
 refine AW.rseq ?_
 refine AWL.y rfl rfl (B rfl) (Yv.move rfl (E rfl rfl)) ?_
 refine AWL.y rfl rfl (B rfl) (Yv.move rfl (E rfl rfl)) ?_
 refine AWL.y rfl rfl (B rfl) (Yv.lss rfl (E rfl rfl) (E rfl rfl)) ?_
 refine AWL.nil ?_
 refine AW.cond rfl (fun h0t => ?_) (fun h0f => ?_)
 ·try replace h0t := of_decide_eq_true h0t
  have hlh : lo < up := by omega
  refine AW.skip ?_
  refine AW.block ?_
  refine AW.rseq ?_
  refine AWL.y rfl rfl (B rfl) (Yv.move rfl (E rfl rfl)) ?_
  refine AWL.y rfl rfl (B rfl) (Yv.move rfl (E rfl rfl)) ?_
  refine AWL.y rfl rfl (B rfl) (Yv.addN_i64 rfl (E rfl rfl) (E rfl rfl) (fun hg => by omega)) ?_
  refine AWL.y rfl rfl (B rfl) (Yv.convW rfl Tryz.underlying3 kd_122 (E rfl rfl)) ?_
  refine AWL.y rfl rfl (B rfl) (Yv.shrW (n := 1) rfl (E rfl rfl) (E rfl rfl) (by decide)) ?_
  refine AWL.y rfl rfl (B rfl) (Yv.conv rfl Tryz.underlying122 kd_3 (E rfl rfl)) ?_
  refine AWL.y rfl rfl (B rfl) (Yv.assign rfl (E rfl rfl)) ?_
  refine AWL.nil ?_
  obtain ⟨mid, hmd⟩ : ∃ mid : Nat, (lo + up) / 2 = mid := ⟨_, rfl⟩
  have hmid : mid < l.length := by omega
  refine AW.retype (k := 11) (t' := zi (mid : Int)) rfl (fun w L u h => by rw [← hmd, ← mid_w (by omega)]; exact h) ?_
  refine AW.rseq ?_
  refine AWL.y rfl rfl (B rfl) (Yv.move rfl (E rfl rfl)) ?_
  refine AWL.y rfl rfl (B rfl) (Yv.move rfl (E rfl rfl)) ?_
  refine AWL.y rfl rfl (B rfl) (Yv.move rfl (E rfl rfl)) ?_
  refine AWL.y rfl rfl (B rfl) (Yv.indexSl (j := mid) rfl ss_23 (B rfl) (E rfl rfl) (E rfl rfl) (fun hg => ⟨rfl, by simp only [len_seg0]; omega⟩)) ?_
  refine AWL.y rfl rfl (B rfl) (Yv.loadRpA rfl ag_29 (E rfl rfl) (fun hg => ⟨seg0_get hmid, rfl⟩)) ?_
  refine AWL.y rfl rfl (B rfl) (Yv.move rfl (E rfl rfl)) ?_
  refine AWL.callT rfl rfl (B rfl) rfl ce_36 (E rfl rfl) (evsC (E rfl rfl) (evsC (E rfl rfl) evs0)) (cm36 (l.getD mid default) a) ?_
  rintro t30 S30 rfl
  refine AWL.y rfl rfl (B rfl) (Yv.lss rfl (E rfl rfl) (E rfl rfl)) ?_
  refine AWL.nil ?_
  refine AW.cond rfl (fun h1t => ?_) (fun h1f => ?_)
  ·try replace h1t := of_decide_eq_true h1t
   refine AW.region ?_
   refine AWL.y rfl rfl (B rfl) (Yv.move rfl (E rfl rfl)) ?_
   refine AWL.y rfl rfl (B rfl) (Yv.addN_i64 rfl (E rfl rfl) (E rfl rfl) (fun hg => by omega)) ?_
   refine AWL.y rfl rfl (B rfl) (Yv.assign rfl (E rfl rfl)) ?_
   refine AWL.nil ?_
   exact ⟨mid + 1, up, ⟨by omega, h2, fun k hk => srt_lo hs hmid h1t k (by omega), h4⟩, by omega, (Sub.cons rfl rfl (Sub.cons rfl rfl (Sub.cons rfl rfl (Sub.cons rfl rfl (Sub.cons rfl rfl (Sub.cons rfl rfl Sub.nil)))))), rfl⟩
  try replace h1f := of_decide_eq_false h1f
  refine AW.region ?_
  refine AWL.y rfl rfl (B rfl) (Yv.move rfl (E rfl rfl)) ?_
  refine AWL.y rfl rfl (B rfl) (Yv.assign rfl (E rfl rfl)) ?_
  refine AWL.nil ?_
  exact ⟨lo, mid, ⟨by omega, by omega, h3, fun k hk hl => srt_hi hs h1f k hk hl⟩, by omega, (Sub.cons rfl rfl (Sub.cons rfl rfl (Sub.cons rfl rfl (Sub.cons rfl rfl (Sub.cons rfl rfl (Sub.cons rfl rfl Sub.nil)))))), rfl⟩
 try replace h0f := of_decide_eq_false h0f
 obtain rfl : lo = up := by omega
 refine AW.exit ?_
 refine AW.rseq ?_
 refine AWL.y rfl rfl (B rfl) (Yv.move rfl (E rfl rfl)) ?_
 refine AWL.y rfl rfl (B rfl) (Yv.move rfl (E rfl rfl)) ?_
 refine AWL.y rfl rfl (B rfl) (Yv.move rfl (E rfl rfl)) ?_
 refine AWL.y rfl rfl (B rfl) (Yv.lss rfl (E rfl rfl) (E rfl rfl)) ?_
 refine AWL.y rfl rfl (B rfl) (Yv.move rfl (E rfl rfl)) ?_
 refine AWL.ygT rfl rfl rfl rfl (B rfl) (Yv.move rfl (E rfl rfl)) ?_
 refine AWL.ygT rfl rfl rfl rfl (B rfl) (Yv.move rfl (E rfl rfl)) ?_
 refine AWL.ygT rfl rfl rfl rfl (B rfl) (Yv.move rfl (E rfl rfl)) ?_
 refine AWL.ygT rfl rfl rfl rfl (B rfl) (Yv.indexSl (j := lo) rfl ss_23 (B rfl) (Eg rfl rfl id) (Eg rfl rfl id) (fun hg => ⟨rfl, by simp only [len_seg0]; simp at hg; omega⟩)) ?_
 refine AWL.ygT rfl rfl rfl rfl (B rfl) (Yv.loadRpA rfl ag_29 (Eg rfl rfl id) (fun hg => ⟨seg0_get (by simp at hg; omega), rfl⟩)) ?_
 refine AWL.ygT rfl rfl rfl rfl (B rfl) (Yv.move rfl (E rfl rfl)) ?_
 refine AWL.callPgT rfl rfl rfl rfl (B rfl) rfl ce_36 (Eg rfl rfl id) (evsC (Eg rfl rfl id) (evsC (Eg rfl rfl id) evs0)) (fun hg => cm36 (l.getD lo default) a) (fun t S h => h) ?_
 refine AWL.ygT rfl rfl rfl rfl (B rfl) (Yv.eql rfl (Eg rfl rfl id) (E rfl rfl)) ?_
 refine AWL.y rfl rfl (B rfl) (Yv.pickAnd rfl (E rfl rfl) (Eg rfl rfl id)) ?_
 refine AWL.y rfl rfl (B rfl) (Yv.assign rfl (E rfl rfl)) ?_
 refine AWL.y rfl rfl (B rfl) (Yv.assign rfl (E rfl rfl)) ?_
 refine AWL.nil ?_
 refine AW.ret (retI (.tmp rfl (.tmp rfl .nil)) ?_)
 exact ⟨lo, ⟨by omega, h3, h4⟩, by rw [dec_nat]; rfl⟩

theorem min_w (u v : Wd64) : T.v (.int .u64 (if (v.toNat : Int) < (u.toNat : Int) then (v.toNat : Int) else (u.toNat : Int))) = zw (minW u v) := by
 unfold zw
 rw [minW_n]
 congr 2
 split <;> omega
set_option maxHeartbeats 4000000 in
theorem room26 (mm : Nat) (P : T) (l : List Seg) (a n : Wd64) (may : Int) (hs : Srt l) (hl : l.length ≤ 1048576) :
    ACalls Tryz.prog 26 [.v (.pointer (some ⟨mm, 0, none⟩)), zw a, zw n, zi may] [Ent.box mm 102 [.sl 4 (l.flatMap seg0), P]] (fun t S => (∃ g, Room l a.toNat n.toNat may g ∧ t = zw g) ∧ S = [Ent.box mm 102 [.sl 4 (l.flatMap seg0), P]]) := by
 refine ACalls.intro Tryz.func26 rfl Tryz.ntmps26 (Nat.le_of_ble_eq_true rfl) rfl fun X w0 => ?_
 refine AW.rseq ?_
 refine AWL.y rfl rfl (B rfl) (Yv.assign rfl (E rfl rfl)) ?_
 refine AWL.nil ?_
 refine AW.rseq ?_
 refine AWL.y rfl rfl (B rfl) (Yv.assign rfl (E rfl rfl)) ?_
 refine AWL.nil ?_
 refine AW.seq ?_
 refine AW.block ?_
 refine AW.loop (fun (g : Wd64) => [(0, true, .v (.pointer (some ⟨mm, 0, none⟩))), (1, true, zw a), (2, true, zw n), (3, true, zi may), (9, true, zw g)]) (fun (g : Wd64) => [Ent.box mm 102 [.sl 4 (l.flatMap seg0), P]]) (fun (g : Wd64) => RoomI l a.toNat n.toNat may g) (fun (g : Wd64) => n.toNat - g.toNat) (0#64) ?_ ?_ ?_ ?_
 ·exact RoomI.init
 ·exact (Sub.cons rfl rfl (Sub.cons rfl rfl (Sub.cons rfl rfl (Sub.cons rfl rfl (Sub.cons rfl rfl Sub.nil)))))
 ·rfl
 intro g hinv
 refine AW.seq ?_
 refine AW.rseq ?_
 refine AWL.y rfl rfl (B rfl) (Yv.move rfl (E rfl rfl)) ?_
 refine AWL.y rfl rfl (B rfl) (Yv.move rfl (E rfl rfl)) ?_
 refine AWL.y rfl rfl (B rfl) (Yv.lssW rfl (E rfl rfl) (E rfl rfl)) ?_
 refine AWL.nil ?_
 refine AW.cond rfl (fun h0t => ?_) (fun h0f => ?_)
 ·try replace h0t := of_decide_eq_true h0t
  have hgn : g.toNat < n.toNat := h0t
  refine AW.skip ?_
  refine AW.block ?_
  refine AW.seq ?_
  refine AW.rseq ?_
  refine AWL.y rfl rfl (B rfl) (Yv.move rfl (E rfl rfl)) ?_
  refine AWL.y rfl rfl (B rfl) (Yv.move rfl (E rfl rfl)) ?_
  refine AWL.y rfl rfl (B rfl) (Yv.subW (a := 18446744073709551615#64) rfl (E rfl rfl) (E rfl rfl)) ?_
  refine AWL.y rfl rfl (B rfl) (Yv.gtrW rfl (E rfl rfl) (E rfl rfl)) ?_
  refine AWL.nil ?_
  refine AW.cond rfl (fun h1t => ?_) (fun h1f => ?_)
  ·try replace h1t := of_decide_eq_true h1t
   refine AW.exit ?_
   refine AW.rseq ?_
   refine AWL.y rfl rfl (B rfl) (Yv.move rfl (E rfl rfl)) ?_
   refine AWL.y rfl rfl (B rfl) (Yv.assign rfl (E rfl rfl)) ?_
   refine AWL.nil ?_
   refine AW.ret (retI (.tmp rfl .nil) ?_)
   exact ⟨⟨g, Room.end2 hinv h1t, rfl⟩, rfl⟩
  try replace h1f := of_decide_eq_false h1f
  refine AW.skip ?_
  refine AW.rseq ?_
  refine AWL.y rfl rfl (B rfl) (Yv.move rfl (E rfl rfl)) ?_
  refine AWL.y rfl rfl (B rfl) (Yv.move rfl (E rfl rfl)) ?_
  refine AWL.y rfl rfl (B rfl) (Yv.addW rfl (E rfl rfl) (E rfl rfl)) ?_
  refine AWL.y rfl rfl (B rfl) (Yv.assign rfl (E rfl rfl)) ?_
  refine AWL.nil ?_
  have hbn := room_b (a := a) h1f
  obtain ⟨b, hb⟩ : ∃ b : Wd64, a + g = b := ⟨_, rfl⟩
  rw [hb] at hbn
  refine AW.retype (k := 10) (t' := zw b) rfl (fun w L u h => by rw [← hb]; exact h) ?_
  refine AW.rseq ?_
  refine AWL.y rfl rfl (B rfl) (Yv.move rfl (E rfl rfl)) ?_
  refine AWL.y rfl rfl (B rfl) (Yv.nilChk rfl (E rfl rfl)) ?_
  refine AWL.y rfl rfl (B rfl) (Yv.fieldBox rfl fo_102_0 (E rfl rfl)) ?_
  refine AWL.y rfl rfl (B rfl) (Yv.loadBox rfl ag_23 (i := 0) rfl (E rfl rfl) rfl) ?_
  refine AWL.y rfl rfl (B rfl) (Yv.move rfl (E rfl rfl)) ?_
  refine AWL.callT rfl rfl (B rfl) rfl ce_35 (E rfl rfl) (evsC (E rfl rfl) (evsC (E rfl rfl) (evsC (E rfl rfl) evs0))) (find35 l b hs hl) ?_
  rintro t29 S29 ⟨i, hfd, rfl⟩
  refine AWL.y rfl rfl (B rfl) (Yv.move rfl (E rfl rfl)) ?_
  refine AWL.y rfl rfl (B rfl) (Yv.extract rfl (E rfl rfl) rfl) ?_
  refine AWL.y rfl rfl (B rfl) (Yv.extract rfl (E rfl rfl) rfl) ?_
  refine AWL.y rfl rfl (B rfl) (Yv.assign rfl (E rfl rfl)) ?_
  refine AWL.y rfl rfl (B rfl) (Yv.assign rfl (E rfl rfl)) ?_
  refine AWL.nil ?_
  refine AW.seq ?_
  refine AW.rseq ?_
  refine AWL.y rfl rfl (B rfl) (Yv.move rfl (E rfl rfl)) ?_
  refine AWL.y rfl rfl (B rfl) (Yv.not rfl (E rfl rfl)) ?_
  refine AWL.y rfl rfl (B rfl) (Yv.move rfl (E rfl rfl)) ?_
  refine AWL.ygF rfl rfl rfl rfl (B rfl) (Yv.move rfl (E rfl rfl)) ?_
  refine AWL.ygF rfl rfl rfl rfl (B rfl) (Yv.nilChk rfl (Eg rfl rfl id)) ?_
  refine AWL.ygF rfl rfl rfl rfl (B rfl) (Yv.fieldBox rfl fo_102_0 (Eg rfl rfl id)) ?_
  refine AWL.ygF rfl rfl rfl rfl (B rfl) (Yv.loadBox rfl ag_23 (i := 0) rfl (Eg rfl rfl id) rfl) ?_
  refine AWL.ygF rfl rfl rfl rfl (B rfl) (Yv.move rfl (E rfl rfl)) ?_
  refine AWL.ygF rfl rfl rfl rfl (B rfl) (Yv.indexSl (j := i) rfl ss_23 (B rfl) (Eg rfl rfl id) (Eg rfl rfl id) (fun hg => ⟨rfl, by simp only [len_seg0]; simp at hg; omega⟩)) ?_
  refine AWL.ygF rfl rfl rfl rfl (B rfl) (Yv.fieldRp rfl fo_29_2 (Eg rfl rfl id)) ?_
  refine AWL.ygF rfl rfl rfl rfl (B rfl) (Yv.loadRp rfl ag_3 (Eg rfl rfl id) (fun hg => seg0_at2 (by simp at hg; omega))) ?_
  refine AWL.ygF rfl rfl rfl rfl (B rfl) (Yv.move rfl (E rfl rfl)) ?_
  refine AWL.ygF rfl rfl rfl rfl (B rfl) (Yv.bits rfl rfl (Eg rfl rfl id) (Eg rfl rfl id)) ?_
  refine AWL.ygF rfl rfl rfl rfl (B rfl) (Yv.move rfl (E rfl rfl)) ?_
  refine AWL.ygF rfl rfl rfl rfl (B rfl) (Yv.neq rfl (Eg rfl rfl id) (Eg rfl rfl id)) ?_
  refine AWL.y rfl rfl (B rfl) (Yv.pickOr (t := .const (.bool true)) rfl (E rfl rfl) (Eg rfl rfl id)) ?_
  refine AWL.nil ?_
  refine AW.cond rfl (fun h2t => ?_) (fun h2f => ?_)
  ·try replace h2t := of_decide_eq_true h2t
   have hno := room_c.1 h2t
   refine AW.exit ?_
   refine AW.rseq ?_
   refine AWL.y rfl rfl (B rfl) (Yv.move rfl (E rfl rfl)) ?_
   refine AWL.y rfl rfl (B rfl) (Yv.assign rfl (E rfl rfl)) ?_
   refine AWL.nil ?_
   refine AW.ret (retI (.tmp rfl .nil) ?_)
   exact ⟨⟨g, Room.end3 hinv hs hfd hbn hno, rfl⟩, rfl⟩
  try replace h2f := of_decide_eq_false h2f
  obtain ⟨hi, hc, hok⟩ : i < l.length ∧ cmF (l.getD i default) b = 0 ∧ mayA (l.getD i default).may may = true := Decidable.not_not.1 (fun q => by rw [room_c.2 q] at h2f; cases h2f)
  have hin := (cm_0 (a := b)).1 hc
  refine AW.skip ?_
  refine AW.regionQ rfl (by kernel_rfl) ?_
  refine AWQ.y rfl rfl (B rfl) (Yv.move rfl (E rfl rfl)) ?_
  refine AWQ.y rfl rfl (B rfl) (Yv.move rfl (E rfl rfl)) ?_
  refine AWQ.y rfl rfl (B rfl) (Yv.move rfl (E rfl rfl)) ?_
  refine AWQ.y rfl rfl (B rfl) (Yv.subW rfl (E rfl rfl) (E rfl rfl)) ?_
  refine AWQ.y rfl rfl (B rfl) (Yv.move rfl (E rfl rfl)) ?_
  refine AWQ.y rfl rfl (B rfl) (Yv.nilChk rfl (E rfl rfl)) ?_
  refine AWQ.y rfl rfl (B rfl) (Yv.fieldBox rfl fo_102_0 (E rfl rfl)) ?_
  refine AWQ.y rfl rfl (B rfl) (Yv.loadBox rfl ag_23 (i := 0) rfl (E rfl rfl) rfl) ?_
  refine AWQ.y rfl rfl (B rfl) (Yv.move rfl (E rfl rfl)) ?_
  refine AWQ.y rfl rfl (B rfl) (Yv.indexSl (j := i) rfl ss_23 (B rfl) (E rfl rfl) (E rfl rfl) (fun hg => ⟨rfl, by simp only [len_seg0]; omega⟩)) ?_
  refine AWQ.y rfl rfl (B rfl) (Yv.fieldRp rfl fo_29_1 (E rfl rfl)) ?_
  refine AWQ.y rfl rfl (B rfl) (Yv.loadRp rfl ag_22 (E rfl rfl) (fun hg => seg0_at1 hi)) ?_
  refine AWQ.y rfl rfl (B rfl) (Yv.move rfl (E rfl rfl)) ?_
  refine AWQ.y rfl rfl (B rfl) (Yv.move rfl (E rfl rfl)) ?_
  refine AWQ.y rfl rfl (B rfl) (Yv.nilChk rfl (E rfl rfl)) ?_
  refine AWQ.y rfl rfl (B rfl) (Yv.fieldBox rfl fo_102_0 (E rfl rfl)) ?_
  refine AWQ.y rfl rfl (B rfl) (Yv.loadBox rfl ag_23 (i := 0) rfl (E rfl rfl) rfl) ?_
  refine AWQ.y rfl rfl (B rfl) (Yv.move rfl (E rfl rfl)) ?_
  refine AWQ.y rfl rfl (B rfl) (Yv.indexSl (j := i) rfl ss_23 (B rfl) (E rfl rfl) (E rfl rfl) (fun hg => ⟨rfl, by simp only [len_seg0]; omega⟩)) ?_
  refine AWQ.y rfl rfl (B rfl) (Yv.fieldRp rfl fo_29_0 (E rfl rfl)) ?_
  refine AWQ.y rfl rfl (B rfl) (Yv.loadRp rfl ag_22 (E rfl rfl) (fun hg => seg0_at0 hi)) ?_
  refine AWQ.y rfl rfl (B rfl) (Yv.subW rfl (E rfl rfl) (E rfl rfl)) ?_
  refine AWQ.y rfl rfl (B rfl) (Yv.subW rfl (E rfl rfl) (E rfl rfl)) ?_
  refine AWQ.y rfl rfl (B rfl) (Yv.eqT (Yv.min2 rfl (E rfl rfl) (E rfl rfl)) (min_w _ _)) ?_
  refine AWQ.y rfl rfl (B rfl) (Yv.addW rfl (E rfl rfl) (E rfl rfl)) ?_
  refine AWQ.y rfl rfl (B rfl) (Yv.assign rfl (E rfl rfl)) ?_
  refine AWQ.nil ?_
  obtain ⟨hs1, hs2⟩ := hinv.step hs hgn hbn hi hin hok
  exact ⟨_, hs1, by have := hs1.le; omega, (Sub.cons rfl rfl (Sub.cons rfl rfl (Sub.cons rfl rfl (Sub.cons rfl rfl (Sub.cons rfl rfl Sub.nil))))), rfl⟩
 try replace h0f := of_decide_eq_false h0f
 refine AW.exit ?_
 refine AW.rseq ?_
 refine AWL.y rfl rfl (B rfl) (Yv.move rfl (E rfl rfl)) ?_
 refine AWL.y rfl rfl (B rfl) (Yv.assign rfl (E rfl rfl)) ?_
 refine AWL.nil ?_
 refine AW.ret (retI (.tmp rfl .nil) ?_)
 exact ⟨⟨g, Room.end1 hinv h0f, rfl⟩, rfl⟩

end Go.Proofs.YtecpjlhbkmongaaGreat.M

namespace Go.Proofs.YtecpjlhbkmongaaGreat.M
open Go Go.RowKit

theorem zero_page : builtOf Tryz.prog 95 [] = some (List.replicate 4096 (u8 0)) := by kernel_rfl
theorem u8_0 {x : UInt8} (h : (x.toNat : Int) = 0) : x = 0 := by
 apply UInt8.toNat_inj.1
 show x.toNat = 0
 omega
theorem upd_0 {l : List Pg} {a : Wd64} {x : UInt8} (h : pgI (a / 4096#64) l = none) (hx : x = 0) : updM (getM l) a x = getM l := by
 funext z
 unfold updM
 split
 ·rename_i e
  rw [e, byte_none h, hx]
 rfl
set_option maxHeartbeats 4000000 in
theorem put32 (s pg : Nat) (L : T) (l : List Pg) (hl : PgOk l) (a : Wd64) (x : UInt8) :
    ACalls Tryz.prog 32 [.v (.pointer (some ⟨s, 0, none⟩)), zw a, u8 x] (Ent.box s 102 [L, mapT pg] :: memE 95 pg l) (fun t S => t = .tup [] ∧ ∃ l', S = (Ent.box s 102 [L, mapT pg] :: memE 95 pg l') ∧ PgOk l' ∧ getM l' = updM (getM l) a x) := by
 refine ACalls.intro Tryz.func32 rfl Tryz.ntmps32 (Nat.le_of_ble_eq_true rfl) rfl fun X w0 => ?_
 refine AW.rseq ?_
 refine AWL.y rfl rfl (B rfl) (Yv.move rfl (E rfl rfl)) ?_
 refine AWL.y rfl rfl (B rfl) (Yv.nilChk rfl (E rfl rfl)) ?_
 refine AWL.y rfl rfl (B rfl) (Yv.fieldBox rfl fo_102_1 (E rfl rfl)) ?_
 refine AWL.y rfl rfl (B rfl) (Yv.loadBox rfl ag_100 (i := 0) rfl (E rfl rfl) rfl) ?_
 refine AWL.y rfl rfl (B rfl) (Yv.move rfl (E rfl rfl)) ?_
 refine AWL.y rfl rfl (B rfl) (Yv.quoW (b := 4096#64) rfl (E rfl rfl) (E rfl rfl) (by decide)) ?_
 refine AWL.y rfl rfl (B rfl) (Yv.eqT (Yv.lookup1 (k := wk (a / 4096#64)) (i := 1) rfl mp_100 rfl (E rfl rfl) (E rfl rfl) rfl (good_pg l)) (lk_pg _ _)) ?_
 refine AWL.y rfl rfl (B rfl) (Yv.assign rfl (E rfl rfl)) ?_
 refine AWL.nil ?_
 refine AW.mid (α := List Pg × Nat) (fun y => [(0, true, .v (.pointer (some ⟨s, 0, none⟩))), (1, true, zw a), (2, true, u8 x), (6, true, .v (.pointer (some ⟨(y.1.getD y.2 default).b, 0, none⟩)))]) (fun y => (Ent.box s 102 [L, mapT pg] :: memE 95 pg y.1)) (fun y => pgI (a / 4096#64) y.1 = some y.2 ∧ PgOk y.1 ∧ getM y.1 = getM l) ?_ ?_
 ·refine AW.rseq ?_
  refine AWL.y rfl rfl (B rfl) (Yv.move rfl (E rfl rfl)) ?_
  refine AWL.y rfl rfl (B rfl) (Yv.eqlNilP rfl pn_109 (E rfl rfl)) ?_
  refine AWL.nil ?_
  refine AW.cond rfl (fun h0t => ?_) (fun h0f => ?_)
  ·try replace h0t := of_decide_eq_true h0t
   have hq := pgP_none h0t
   refine AW.seq ?_
   refine AW.rseq ?_
   refine AWL.y rfl rfl (B rfl) (Yv.move rfl (E rfl rfl)) ?_
   refine AWL.y rfl rfl (B rfl) (Yv.eql rfl (E rfl rfl) (E rfl rfl)) ?_
   refine AWL.nil ?_
   refine AW.cond rfl (fun h1t => ?_) (fun h1f => ?_)
   ·try replace h1t := of_decide_eq_true h1t
    have hx0 : x = 0 := u8_0 h1t
    refine AW.ret (retI .nil ?_)
    exact ⟨rfl, l, rfl, hl, (upd_0 hq hx0).symm⟩
   try replace h1f := of_decide_eq_false h1f
   refine AW.skip ?_
   refine AW.rseq ?_
   refine AWL.y rfl rfl (B rfl) (Yv.build (cs := List.replicate 4096 (u8 0)) rfl evp0 (fun _ => zero_page)) ?_
   refine AWL.boxOp rfl rfl (B rfl) rfl (E rfl rfl) rfl (fun b19 => ?_)
   refine AWL.y rfl rfl (B rfl) (Yv.assign rfl (E rfl rfl)) ?_
   refine AWL.nil ?_
   refine AW.region ?_
   refine AWL.y rfl rfl (B rfl) (Yv.move rfl (E rfl rfl)) ?_
   refine AWL.y rfl rfl (B rfl) (Yv.nilChk rfl (E rfl rfl)) ?_
   refine AWL.y rfl rfl (B rfl) (Yv.fieldBox rfl fo_102_1 (E rfl rfl)) ?_
   refine AWL.y rfl rfl (B rfl) (Yv.loadBox rfl ag_100 (i := 0) rfl (E rfl rfl) rfl) ?_
   refine AWL.y rfl rfl (B rfl) (Yv.move rfl (E rfl rfl)) ?_
   refine AWL.y rfl rfl (B rfl) (Yv.quoW (b := 4096#64) rfl (E rfl rfl) (E rfl rfl) (by decide)) ?_
   refine AWL.y rfl rfl (B rfl) (Yv.move rfl (E rfl rfl)) ?_
   refine AWL.mapUpd (k := wk (a / 4096#64)) (i := 1) rfl rfl (.inl rfl) mp_100 rfl (E rfl rfl) (E rfl rfl) (E rfl rfl) rfl rfl (good_pg l) ?_
   refine AWL.nil ?_
   refine ⟨(l ++ [⟨a / 4096#64, b19, zeros4⟩], l.length), ⟨new_I b19 hq, hl.app zeros_len, get_new b19 hq⟩, (Sub.cons rfl rfl (Sub.cons rfl rfl (Sub.cons rfl rfl (Sub.cons rfl (by rw [new_b]) Sub.nil)))), mem_new hq⟩
  try replace h0f := of_decide_eq_false h0f
  obtain ⟨j, hq⟩ := pgP_ne h0f
  refine AW.skip ?_
  refine ⟨(l, j), ⟨hq, hl, rfl⟩, (Sub.cons rfl rfl (Sub.cons rfl rfl (Sub.cons rfl rfl (Sub.cons rfl (by rw [pgP_some hq]) Sub.nil)))), rfl⟩
 rintro ⟨l2, j⟩ ⟨h1, h2, h3⟩
 dsimp only at h1 h2 h3
 have hj := pgI_lt h1
 refine AW.region ?_
 refine AWL.y rfl rfl (B rfl) (Yv.move rfl (E rfl rfl)) ?_
 refine AWL.y rfl rfl (B rfl) (Yv.move rfl (E rfl rfl)) ?_
 refine AWL.y rfl rfl (B rfl) (Yv.remW (b := 4096#64) rfl (E rfl rfl) (E rfl rfl) (by decide)) ?_
 refine AWL.y rfl rfl (B rfl) (Yv.move rfl (E rfl rfl)) ?_
 refine AWL.y rfl rfl (B rfl) (Yv.nilChk rfl (E rfl rfl)) ?_
 refine AWL.y rfl rfl (B rfl) (Yv.indexArr (j := (a % 4096#64).toNat) rfl ar_95 (E rfl rfl) (E rfl rfl) (fun hg => ⟨rfl, lt4096 a⟩)) ?_
 refine AWL.storeBox (i := j + 2) rfl rfl rfl ag_5 (pgE_at (l := l2) hj.1) (E rfl rfl) (E rfl rfl) rfl rfl (by rw [List.length_map, h2 _ hj.1]; have := lt4096 a; omega) ?_
 refine AWL.nil ?_
 refine retN .nil ?_
 exact ⟨rfl, _, mem_put hj.1 (h2 _ hj.1), h2.set _ _ _, (get_set h1 h2 x).trans (by rw [h3])⟩

set_option maxHeartbeats 2000000 in
theorem get27 (s pg : Nat) (L : T) (l : List Pg) (hl : PgOk l) (a : Wd64) :
    ACalls Tryz.prog 27 [.v (.pointer (some ⟨s, 0, none⟩)), zw a] (Ent.box s 102 [L, mapT pg] :: memE 95 pg l) (fun t S => t = u8 (getM l a) ∧ S = (Ent.box s 102 [L, mapT pg] :: memE 95 pg l)) := by
 refine ACalls.intro Tryz.func27 rfl Tryz.ntmps27 (Nat.le_of_ble_eq_true rfl) rfl fun X w0 => ?_
 refine AW.rseq ?_
 refine AWL.y rfl rfl (B rfl) (Yv.assign rfl (E rfl rfl)) ?_
 refine AWL.nil ?_
 refine AW.seq ?_
 refine AW.rseq ?_
 refine AWL.y rfl rfl (B rfl) (Yv.move rfl (E rfl rfl)) ?_
 refine AWL.y rfl rfl (B rfl) (Yv.nilChk rfl (E rfl rfl)) ?_
 refine AWL.y rfl rfl (B rfl) (Yv.fieldBox rfl fo_102_1 (E rfl rfl)) ?_
 refine AWL.y rfl rfl (B rfl) (Yv.loadBox rfl ag_100 (i := 0) rfl (E rfl rfl) rfl) ?_
 refine AWL.y rfl rfl (B rfl) (Yv.move rfl (E rfl rfl)) ?_
 refine AWL.y rfl rfl (B rfl) (Yv.quoW (b := 4096#64) rfl (E rfl rfl) (E rfl rfl) (by decide)) ?_
 refine AWL.y rfl rfl (B rfl) (Yv.eqT (Yv.lookup1 (k := wk (a / 4096#64)) (i := 1) rfl mp_100 rfl (E rfl rfl) (E rfl rfl) rfl (good_pg l)) (lk_pg _ _)) ?_
 refine AWL.y rfl rfl (B rfl) (Yv.assign rfl (E rfl rfl)) ?_
 refine AWL.nil ?_
 refine AW.rseq ?_
 refine AWL.y rfl rfl (B rfl) (Yv.move rfl (E rfl rfl)) ?_
 refine AWL.y rfl rfl (B rfl) (Yv.neqNilP rfl pn_109 (E rfl rfl)) ?_
 refine AWL.nil ?_
 refine AW.cond rfl (fun h0t => ?_) (fun h0f => ?_)
 ·try replace h0t := of_decide_eq_true h0t
  obtain ⟨j, hq⟩ := pgP_ne (n := a / 4096#64) (l := l) (by simpa using h0t)
  have hj := pgI_lt hq
  rw [pgP_some hq]
  refine AW.rseq ?_
  refine AWL.y rfl rfl (B rfl) (Yv.move rfl (E rfl rfl)) ?_
  refine AWL.y rfl rfl (B rfl) (Yv.move rfl (E rfl rfl)) ?_
  refine AWL.y rfl rfl (B rfl) (Yv.remW (b := 4096#64) rfl (E rfl rfl) (E rfl rfl) (by decide)) ?_
  refine AWL.y rfl rfl (B rfl) (Yv.nilChk rfl (E rfl rfl)) ?_
  refine AWL.y rfl rfl (B rfl) (Yv.indexArr (j := (a % 4096#64).toNat) rfl ar_95 (E rfl rfl) (E rfl rfl) (fun hg => ⟨rfl, lt4096 a⟩)) ?_
  refine AWL.y rfl rfl (B rfl) (Yv.loadBox (i := j + 2) rfl ag_5 (pgE_at (l := l) hj.1) (E rfl rfl) (byte_at hq hl)) ?_
  refine AWL.y rfl rfl (B rfl) (Yv.assign rfl (E rfl rfl)) ?_
  refine AWL.nil ?_
  refine AW.ret (retI (.tmp rfl .nil) ?_)
  exact ⟨rfl, rfl⟩
 try replace h0f := of_decide_eq_false h0f
 have hq := pgP_none (n := a / 4096#64) (l := l) (by simpa using h0f)
 refine AW.skip ?_
 refine AW.rseq ?_
 refine AWL.y rfl rfl (B rfl) (Yv.assign rfl (E rfl rfl)) ?_
 refine AWL.nil ?_
 refine AW.ret (retI (.tmp rfl .nil) ?_)
 rw [byte_none hq]
 exact ⟨rfl, rfl⟩

theorem zero_pageD : builtOf Tryz.prog 97 [] = some (List.replicate 4096 (u8 0)) := by kernel_rfl
set_option maxHeartbeats 4000000 in
theorem Dput25 (s pg : Nat) (C : List T) (hC : C[39]? = some (mapT pg)) (l : List Pg) (hl : PgOk l) (a : Wd64) (x : UInt8) :
    ACalls Tryz.prog 25 [.v (.pointer (some ⟨s, 0, none⟩)), zw a, u8 x] (Ent.box s 91 C :: memE 97 pg l) (fun t S => t = .tup [] ∧ ∃ l', S = (Ent.box s 91 C :: memE 97 pg l') ∧ PgOk l' ∧ getM l' = updM (getM l) a x) := by
 refine ACalls.intro Tryz.func25 rfl Tryz.ntmps25 (Nat.le_of_ble_eq_true rfl) rfl fun X w0 => ?_
 refine AW.rseq ?_
 refine AWL.y rfl rfl (B rfl) (Yv.move rfl (E rfl rfl)) ?_
 refine AWL.y rfl rfl (B rfl) (Yv.nilChk rfl (E rfl rfl)) ?_
 refine AWL.y rfl rfl (B rfl) (Yv.fieldBox rfl fo_91_2 (E rfl rfl)) ?_
 refine AWL.y rfl rfl (B rfl) (Yv.loadBox (i := 0) rfl ag_86 rfl (E rfl rfl) hC) ?_
 refine AWL.y rfl rfl (B rfl) (Yv.move rfl (E rfl rfl)) ?_
 refine AWL.y rfl rfl (B rfl) (Yv.quoW (b := 4096#64) rfl (E rfl rfl) (E rfl rfl) (by decide)) ?_
 refine AWL.y rfl rfl (B rfl) (Yv.eqT (Yv.lookup1 (k := wk (a / 4096#64)) (i := 1) rfl mp_86 rfl (E rfl rfl) (E rfl rfl) rfl (good_pg l)) (lk_pg _ _)) ?_
 refine AWL.y rfl rfl (B rfl) (Yv.assign rfl (E rfl rfl)) ?_
 refine AWL.nil ?_
 refine AW.mid (α := List Pg × Nat) (fun y => [(0, true, .v (.pointer (some ⟨s, 0, none⟩))), (1, true, zw a), (2, true, u8 x), (6, true, .v (.pointer (some ⟨(y.1.getD y.2 default).b, 0, none⟩)))]) (fun y => (Ent.box s 91 C :: memE 97 pg y.1)) (fun y => pgI (a / 4096#64) y.1 = some y.2 ∧ PgOk y.1 ∧ getM y.1 = getM l) ?_ ?_
 ·refine AW.rseq ?_
  refine AWL.y rfl rfl (B rfl) (Yv.move rfl (E rfl rfl)) ?_
  refine AWL.y rfl rfl (B rfl) (Yv.eqlNilP rfl pn_94 (E rfl rfl)) ?_
  refine AWL.nil ?_
  refine AW.cond rfl (fun h0t => ?_) (fun h0f => ?_)
  ·try replace h0t := of_decide_eq_true h0t
   have hq := pgP_none h0t
   refine AW.rseq ?_
   refine AWL.y rfl rfl (B rfl) (Yv.build (cs := List.replicate 4096 (u8 0)) rfl evp0 (fun _ => zero_pageD)) ?_
   refine AWL.boxOp rfl rfl (B rfl) rfl (E rfl rfl) rfl (fun b17 => ?_)
   refine AWL.y rfl rfl (B rfl) (Yv.assign rfl (E rfl rfl)) ?_
   refine AWL.nil ?_
   refine AW.region ?_
   refine AWL.y rfl rfl (B rfl) (Yv.move rfl (E rfl rfl)) ?_
   refine AWL.y rfl rfl (B rfl) (Yv.nilChk rfl (E rfl rfl)) ?_
   refine AWL.y rfl rfl (B rfl) (Yv.fieldBox rfl fo_91_2 (E rfl rfl)) ?_
   refine AWL.y rfl rfl (B rfl) (Yv.loadBox (i := 0) rfl ag_86 rfl (E rfl rfl) hC) ?_
   refine AWL.y rfl rfl (B rfl) (Yv.move rfl (E rfl rfl)) ?_
   refine AWL.y rfl rfl (B rfl) (Yv.quoW (b := 4096#64) rfl (E rfl rfl) (E rfl rfl) (by decide)) ?_
   refine AWL.y rfl rfl (B rfl) (Yv.move rfl (E rfl rfl)) ?_
   refine AWL.mapUpd (k := wk (a / 4096#64)) (i := 1) rfl rfl (.inl rfl) mp_86 rfl (E rfl rfl) (E rfl rfl) (E rfl rfl) rfl rfl (good_pg l) ?_
   refine AWL.nil ?_
   refine ⟨(l ++ [⟨a / 4096#64, b17, zeros4⟩], l.length), ⟨new_I b17 hq, hl.app zeros_len, get_new b17 hq⟩, (Sub.cons rfl rfl (Sub.cons rfl rfl (Sub.cons rfl rfl (Sub.cons rfl (by rw [new_b]) Sub.nil)))), mem_new hq⟩
  try replace h0f := of_decide_eq_false h0f
  obtain ⟨j, hq⟩ := pgP_ne h0f
  refine AW.skip ?_
  refine ⟨(l, j), ⟨hq, hl, rfl⟩, (Sub.cons rfl rfl (Sub.cons rfl rfl (Sub.cons rfl rfl (Sub.cons rfl (by rw [pgP_some hq]) Sub.nil)))), rfl⟩
 rintro ⟨l2, j⟩ ⟨h1, h2, h3⟩
 dsimp only at h1 h2 h3
 have hj := pgI_lt h1
 refine AW.region ?_
 refine AWL.y rfl rfl (B rfl) (Yv.move rfl (E rfl rfl)) ?_
 refine AWL.y rfl rfl (B rfl) (Yv.move rfl (E rfl rfl)) ?_
 refine AWL.y rfl rfl (B rfl) (Yv.remW (b := 4096#64) rfl (E rfl rfl) (E rfl rfl) (by decide)) ?_
 refine AWL.y rfl rfl (B rfl) (Yv.move rfl (E rfl rfl)) ?_
 refine AWL.y rfl rfl (B rfl) (Yv.nilChk rfl (E rfl rfl)) ?_
 refine AWL.y rfl rfl (B rfl) (Yv.fieldBox rfl fo_97_0 (E rfl rfl)) ?_
 refine AWL.y rfl rfl (B rfl) (Yv.indexArr (j := (a % 4096#64).toNat) rfl ar_95 (E rfl rfl) (E rfl rfl) (fun hg => ⟨rfl, lt4096 a⟩)) ?_
 refine AWL.storeBox (i := j + 2) rfl rfl rfl ag_5 (pgE_at (l := l2) hj.1) (E rfl rfl) (E rfl rfl) rfl rfl (by rw [List.length_map, h2 _ hj.1]; have := lt4096 a; omega) ?_
 refine AWL.nil ?_
 refine retN .nil ?_
 exact ⟨rfl, _, mem_put' hj.1 (h2 _ hj.1), h2.set _ _ _, (get_set h1 h2 x).trans (by rw [h3])⟩

set_option maxHeartbeats 2000000 in
theorem Dget16 (s pg : Nat) (C : List T) (hC : C[39]? = some (mapT pg)) (l : List Pg) (hl : PgOk l) (a : Wd64) :
    ACalls Tryz.prog 16 [.v (.pointer (some ⟨s, 0, none⟩)), zw a] (Ent.box s 91 C :: memE 97 pg l) (fun t S => t = u8 (getM l a) ∧ S = (Ent.box s 91 C :: memE 97 pg l)) := by
 refine ACalls.intro Tryz.func16 rfl Tryz.ntmps16 (Nat.le_of_ble_eq_true rfl) rfl fun X w0 => ?_
 refine AW.rseq ?_
 refine AWL.y rfl rfl (B rfl) (Yv.assign rfl (E rfl rfl)) ?_
 refine AWL.nil ?_
 refine AW.rseq ?_
 refine AWL.y rfl rfl (B rfl) (Yv.move rfl (E rfl rfl)) ?_
 refine AWL.y rfl rfl (B rfl) (Yv.nilChk rfl (E rfl rfl)) ?_
 refine AWL.y rfl rfl (B rfl) (Yv.fieldBox rfl fo_91_2 (E rfl rfl)) ?_
 refine AWL.y rfl rfl (B rfl) (Yv.loadBox (i := 0) rfl ag_86 rfl (E rfl rfl) hC) ?_
 refine AWL.y rfl rfl (B rfl) (Yv.move rfl (E rfl rfl)) ?_
 refine AWL.y rfl rfl (B rfl) (Yv.quoW (b := 4096#64) rfl (E rfl rfl) (E rfl rfl) (by decide)) ?_
 refine AWL.y rfl rfl (B rfl) (Yv.eqT (Yv.lookup1 (k := wk (a / 4096#64)) (i := 1) rfl mp_86 rfl (E rfl rfl) (E rfl rfl) rfl (good_pg l)) (lk_pg _ _)) ?_
 refine AWL.y rfl rfl (B rfl) (Yv.assign rfl (E rfl rfl)) ?_
 refine AWL.nil ?_
 refine AW.seq ?_
 refine AW.rseq ?_
 refine AWL.y rfl rfl (B rfl) (Yv.move rfl (E rfl rfl)) ?_
 refine AWL.y rfl rfl (B rfl) (Yv.eqlNilP rfl pn_94 (E rfl rfl)) ?_
 refine AWL.nil ?_
 refine AW.cond rfl (fun h0t => ?_) (fun h0f => ?_)
 ·try replace h0t := of_decide_eq_true h0t
  have hq := pgP_none (n := a / 4096#64) (l := l) h0t
  refine AW.rseq ?_
  refine AWL.y rfl rfl (B rfl) (Yv.assign rfl (E rfl rfl)) ?_
  refine AWL.nil ?_
  refine AW.ret (retI (.tmp rfl .nil) ?_)
  rw [byte_none hq]
  exact ⟨rfl, rfl⟩
 try replace h0f := of_decide_eq_false h0f
 obtain ⟨j, hq⟩ := pgP_ne (n := a / 4096#64) (l := l) h0f
 have hj := pgI_lt hq
 rw [pgP_some hq]
 refine AW.skip ?_
 refine AW.rseq ?_
 refine AWL.y rfl rfl (B rfl) (Yv.move rfl (E rfl rfl)) ?_
 refine AWL.y rfl rfl (B rfl) (Yv.move rfl (E rfl rfl)) ?_
 refine AWL.y rfl rfl (B rfl) (Yv.remW (b := 4096#64) rfl (E rfl rfl) (E rfl rfl) (by decide)) ?_
 refine AWL.y rfl rfl (B rfl) (Yv.nilChk rfl (E rfl rfl)) ?_
 refine AWL.y rfl rfl (B rfl) (Yv.fieldBox rfl fo_97_0 (E rfl rfl)) ?_
 refine AWL.y rfl rfl (B rfl) (Yv.indexArr (j := (a % 4096#64).toNat) rfl ar_95 (E rfl rfl) (E rfl rfl) (fun hg => ⟨rfl, lt4096 a⟩)) ?_
 refine AWL.y rfl rfl (B rfl) (Yv.loadBox (i := j + 2) rfl ag_5 (pgE_at (l := l) hj.1) (E rfl rfl) (byte_at' hq hl)) ?_
 refine AWL.y rfl rfl (B rfl) (Yv.assign rfl (E rfl rfl)) ?_
 refine AWL.nil ?_
 refine AW.ret (retI (.tmp rfl .nil) ?_)
 exact ⟨rfl, rfl⟩

end Go.Proofs.YtecpjlhbkmongaaGreat.M

namespace Go.Proofs.YtecpjlhbkmongaaGreat.M
open Go Go.RowKit

def rdOk (l : List Seg) (a : Wd64) (n : Nat) : Prop := a.toNat + n ≤ 18446744073709551616 ∧ ∀ j, j < n → okB l 0 (a.toNat + j)
theorem wI_n {n : Nat} (h : n ≤ 4611686018427387904) : (wI (n : Int)).toNat = n := by
 have e := wI_nat (n : Int)
 rw [wrap_u64] at e
 omega
theorem rd_no {l : List Seg} {a g : Wd64} {n : Nat} (hn : n ≤ 300) (h : Room l a.toNat (wI (n : Int)).toNat 0 g) (hg : g < wI (n : Int)) : ¬ rdOk l a n := fun q => by
 have e := h.all.2 (by rw [wI_n (by omega)]; exact ⟨q.2, q.1⟩)
 rw [e, BitVec.lt_def] at hg
 omega
theorem rd_yes {l : List Seg} {a g : Wd64} {n : Nat} (hn : n ≤ 300) (h : Room l a.toNat (wI (n : Int)).toNat 0 g) (hg : ¬ g < wI (n : Int)) : rdOk l a n := by
 have e : g = wI (n : Int) := by
  apply BitVec.eq_of_toNat_eq
  rw [BitVec.lt_def] at hg
  have := h.1.le
  omega
 have e2 := h.all.1 e
 rw [wI_n (by omega)] at e2
 exact ⟨e2.2, e2.1⟩
def bytesR (pgs : List Pg) (a : Wd64) (n : Nat) : List UInt8 := (List.range n).map fun (k : Nat) => getM pgs (a + wI (k : Int))
def rowR (pgs : List Pg) (a : Wd64) (n j : Nat) : List T := (List.range n).map fun (k : Nat) => if k < j then u8 (getM pgs (a + wI (k : Int))) else u8 0
theorem row_lenR (pgs : List Pg) (a : Wd64) (n j : Nat) : (rowR pgs a n j).length = n * 1 := by unfold rowR; simp
theorem flat_1 {α : Type} (x : α) : ∀ n : Nat, (List.replicate n [x]).flatten = List.replicate n x
 | 0 => rfl
 | n + 1 => by rw [List.replicate_succ, List.flatten_cons, flat_1 x n]; rfl
theorem row_0 (pgs : List Pg) (a : Wd64) (n : Nat) : (List.replicate n (List.map T.v [Value.int .u8 0])).flatten = rowR pgs a n 0 := by
 refine (flat_1 (u8 0) n).trans ?_
 unfold rowR
 symm
 refine List.eq_replicate_iff.2 ⟨by simp, fun b hb => ?_⟩
 obtain ⟨k, _, rfl⟩ := List.mem_map.1 hb
 rfl
theorem row_stp (pgs : List Pg) (a : Wd64) {n j : Nat} (h : j < n) : (rowR pgs a n j).set (j * 1) (u8 (getM pgs (a + wI (j : Int)))) = rowR pgs a n (j + 1) := by
 rw [Nat.mul_one]
 unfold rowR
 apply List.ext_getElem?
 intro i
 rw [List.getElem?_set, List.getElem?_map]
 by_cases e : j = i
 ·subst e
  rw [if_pos rfl, if_pos (by simpa using h), List.getElem?_map, List.getElem?_range h]
  simp
 rw [if_neg e, List.getElem?_map]
 by_cases hi : i < n
 ·rw [List.getElem?_range hi]
  simp only [Option.map_some, Option.some.injEq]
  by_cases q : i < j
  ·rw [if_pos q, if_pos (by omega)]
  rw [if_neg q, if_neg (by omega)]
 rw [List.getElem?_eq_none (by simp; omega)]; rfl
theorem row_ix (X Y : Ent) (L : St) (r : Ent) : ((X :: Y :: L) ++ [r])[2 + L.length]? = some r := by
 rw [List.getElem?_append_right (by simp; omega), show 2 + L.length - (X :: Y :: L).length = 0 by simp; omega]; rfl
theorem row_set (X Y : Ent) (L : St) (r r' : Ent) : ((X :: Y :: L) ++ [r]).set (2 + L.length) r' = (X :: Y :: L) ++ [r'] := by
 rw [List.set_append_right _ _ (by simp; omega), show 2 + L.length - (X :: Y :: L).length = 0 by simp; omega]; rfl
theorem row_er (X Y : Ent) (L : St) (r : Ent) : ((X :: Y :: L) ++ [r]).eraseIdx (2 + L.length) = X :: Y :: L := by
 rw [List.eraseIdx_append_of_length_le (by simp; omega), show 2 + L.length - (X :: Y :: L).length = 0 by simp; omega]
 exact List.append_nil _
theorem row_n (pgs : List Pg) (a : Wd64) (n : Nat) : rowR pgs a n n = (bytesR pgs a n).map u8 := by
 unfold rowR bytesR
 rw [List.map_map]
 apply List.map_congr_left
 intro k hk
 rw [if_pos (List.mem_range.1 hk)]; rfl
set_option maxHeartbeats 4000000 in
theorem Read14p (mb mm pg : Nat) (s : Ms) (w kn : T) (l : List Seg) (pgs : List Pg) (a : Wd64) (hs : Srt l) (hl : l.length ≤ 1048576) (hpg : PgOk pgs) (n : Nat) (hn : n ≤ 300) :
    ACalls Tryz.prog 14 [.v (.pointer (some ⟨mb, 0, none⟩)), zw a, zi (n : Int)] (Ent.box mb 73 (mcC s (.v (.pointer (some ⟨mm, 0, none⟩))) w kn) :: Ent.box mm 102 [.sl 4 (l.flatMap seg0), mapT pg] :: memE 95 pg pgs) (fun t S => ((rdOk l a n ∧ t = .tup [.sl 1 ((bytesR pgs a n).map u8), bv true]) ∨ (¬ rdOk l a n ∧ t = .tup [.v (.slice none 0 0), bv false])) ∧ S = (Ent.box mb 73 (mcC s (.v (.pointer (some ⟨mm, 0, none⟩))) w kn) :: Ent.box mm 102 [.sl 4 (l.flatMap seg0), mapT pg] :: memE 95 pg pgs)) := by
 refine ACalls.intro Tryz.func14 rfl Tryz.ntmps14 (Nat.le_of_ble_eq_true rfl) rfl fun X w0 => ?_
 refine AW.rseq ?_
 refine AWL.y rfl rfl (B rfl) (Yv.assign rfl (E rfl rfl)) ?_
 refine AWL.y rfl rfl (B rfl) (Yv.assign rfl (E rfl rfl)) ?_
 refine AWL.nil ?_
 refine AW.seq ?_
 refine AW.rseq ?_
 refine AWL.y rfl rfl (B rfl) (Yv.move rfl (E rfl rfl)) ?_
 refine AWL.y rfl rfl (B rfl) (Yv.eqlNilP rfl pn_30 (E rfl rfl)) ?_
 refine AWL.y rfl rfl (B rfl) (Yv.move rfl (E rfl rfl)) ?_
 refine AWL.ygF rfl rfl rfl rfl (B rfl) (Yv.move rfl (E rfl rfl)) ?_
 refine AWL.ygF rfl rfl rfl rfl (B rfl) (Yv.lss rfl (Eg rfl rfl id) (E rfl rfl)) ?_
 refine AWL.y rfl rfl (B rfl) (Yv.pickOr (t := .const (.bool true)) rfl (E rfl rfl) (Eg rfl rfl id)) ?_
 refine AWL.y rfl rfl (B rfl) (Yv.move rfl (E rfl rfl)) ?_
 refine AWL.unguard rfl rfl rfl (by simp) ?_
 refine AWL.y rfl rfl (B rfl) (Yv.move rfl (E rfl rfl)) ?_
 refine AWL.unguard rfl rfl rfl (by simp) ?_
 refine AWL.y rfl rfl (B rfl) (Yv.nilChk rfl (E rfl rfl)) ?_
 refine AWL.unguard rfl rfl rfl (by simp) ?_
 refine AWL.y rfl rfl (B rfl) (Yv.fieldBox rfl fo_73_1 (E rfl rfl)) ?_
 refine AWL.unguard rfl rfl rfl (by simp) ?_
 refine AWL.y rfl rfl (B rfl) (Yv.loadBox rfl ag_65 (i := 0) rfl (E rfl rfl) rfl) ?_
 refine AWL.unguard rfl rfl rfl (by simp) ?_
 refine AWL.y rfl rfl (B rfl) (Yv.move rfl (E rfl rfl)) ?_
 refine AWL.unguard rfl rfl rfl (by simp) ?_
 refine AWL.y rfl rfl (B rfl) (Yv.move rfl (E rfl rfl)) ?_
 refine AWL.unguard rfl rfl rfl (by simp) ?_
 refine AWL.y rfl rfl (B rfl) (Yv.convW rfl Tryz.underlying3 kd_22 (E rfl rfl)) ?_
 refine AWL.unguard rfl rfl rfl (by simp) ?_
 refine AWL.callF rfl rfl (B rfl) rfl ce_26 (E rfl rfl) (evsC (E rfl rfl) (evsC (E rfl rfl) (evsC (E rfl rfl) (evsC (E rfl rfl) evs0)))) (F1 := [Ent.box mb 73 (mcC s (.v (.pointer (some ⟨mm, 0, none⟩))) w kn)]) (S1 := [Ent.box mm 102 [.sl 4 (l.flatMap seg0), mapT pg]]) (F2 := memE 95 pg pgs) rfl (room26 mm (mapT pg) l a (wI (n : Int)) 0 hs hl) ?_
 rintro t24 S24 ⟨⟨g, hroom, rfl⟩, rfl⟩
 refine AWL.unguard rfl rfl rfl (by simp) ?_
 refine AWL.y rfl rfl (B rfl) (Yv.move rfl (E rfl rfl)) ?_
 refine AWL.unguard rfl rfl rfl (by simp) ?_
 refine AWL.y rfl rfl (B rfl) (Yv.convW rfl Tryz.underlying3 kd_22 (E rfl rfl)) ?_
 refine AWL.unguard rfl rfl rfl (by simp) ?_
 refine AWL.y rfl rfl (B rfl) (Yv.lssW rfl (E rfl rfl) (E rfl rfl)) ?_
 refine AWL.y rfl rfl (B rfl) (Yv.pickOr (t := .const (.bool true)) rfl (E rfl rfl) (E rfl rfl)) ?_
 refine AWL.nil ?_
 refine AW.cond rfl (fun h0t => ?_) (fun h0f => ?_)
 ·try replace h0t := of_decide_eq_true h0t
  have hno : ¬ rdOk l a n := rd_no hn hroom (by simpa using h0t)
  refine AW.rseq ?_
  refine AWL.y rfl rfl (B rfl) (Yv.assign rfl (E rfl rfl)) ?_
  refine AWL.y rfl rfl (B rfl) (Yv.assign rfl (E rfl rfl)) ?_
  refine AWL.nil ?_
  refine AW.ret (retI (.tmp rfl (.tmp rfl .nil)) ?_)
  exact ⟨.inr ⟨hno, rfl⟩, rfl⟩
 try replace h0f := of_decide_eq_false h0f
 have hok : rdOk l a n := rd_yes hn hroom (by simpa using h0f)
 refine AW.skip ?_
 refine AW.rseq ?_
 refine AWL.y rfl rfl (B rfl) (Yv.move rfl (E rfl rfl)) ?_
 refine AWL.makeRow  rfl rfl (B rfl) rfl el_27 (E rfl rfl) (E rfl rfl) (by omega) (by omega) (by unfold maxLen; omega) (fun A30 => ?_)
 refine AWL.y rfl rfl (B rfl) (Yv.assign rfl (E rfl rfl)) ?_
 refine AWL.nil ?_
 rw [row_0 pgs a n]
 refine AW.eqS (S' := ((Ent.box mb 73 (mcC s (.v (.pointer (some ⟨mm, 0, none⟩))) w kn) :: Ent.box mm 102 [.sl 4 (l.flatMap seg0), mapT pg] :: memE 95 pg pgs)) ++ [Ent.row A30 n n 5 1 (rowR pgs a n 0)]) rfl ?_
 refine AW.seq ?_
 refine AW.rseq ?_
 refine AWL.y rfl rfl (B rfl) (Yv.move rfl (E rfl rfl)) ?_
 refine AWL.y rfl rfl (B rfl) (Yv.lenV rfl so_27 (E rfl rfl)) ?_
 refine AWL.y rfl rfl (B rfl) (Yv.move rfl (E rfl rfl)) ?_
 refine AWL.nil ?_
 refine AW.block ?_
 refine AW.loop (fun (j : Nat) => [(0, true, .v (.pointer (some ⟨mb, 0, none⟩))), (1, true, zw a), (2, true, zi (n : Int)), (8, true, .v (.slice A30 n n)), (32, true, zi (n : Int)), (33, true, zi (j : Int))]) (fun (j : Nat) => (((Ent.box mb 73 (mcC s (.v (.pointer (some ⟨mm, 0, none⟩))) w kn) :: Ent.box mm 102 [.sl 4 (l.flatMap seg0), mapT pg] :: memE 95 pg pgs)) ++ [Ent.row A30 n n 5 1 (rowR pgs a n j)])) (fun (j : Nat) => j ≤ n) (fun (j : Nat) => n - j) 0 ?_ ?_ ?_ ?_
 ·exact Nat.zero_le _
 ·exact (Sub.cons rfl rfl (Sub.cons rfl rfl (Sub.cons rfl rfl (Sub.cons rfl rfl (Sub.cons rfl rfl (Sub.cons rfl rfl Sub.nil))))))
 ·rfl
 intro j hinv
 refine AW.rseq ?_
 refine AWL.y rfl rfl (B rfl) (Yv.lss rfl (E rfl rfl) (E rfl rfl)) ?_
 refine AWL.nil ?_
 refine AW.seq ?_
 refine AW.cond rfl (fun h1t => ?_) (fun h1f => ?_)
 ·try replace h1t := of_decide_eq_true h1t
  have hj : j < n := by omega
  refine AW.skip ?_
  refine AW.seq ?_
  refine AW.block ?_
  refine AW.rseq ?_
  refine AWL.y rfl rfl (B rfl) (Yv.move rfl (E rfl rfl)) ?_
  refine AWL.y rfl rfl (B rfl) (Yv.assign rfl (E rfl rfl)) ?_
  refine AWL.nil ?_
  refine AW.region ?_
  refine AWL.y rfl rfl (B rfl) (Yv.move rfl (E rfl rfl)) ?_
  refine AWL.y rfl rfl (B rfl) (Yv.move rfl (E rfl rfl)) ?_
  refine AWL.y rfl rfl (B rfl) (Yv.move rfl (E rfl rfl)) ?_
  refine AWL.y rfl rfl (B rfl) (Yv.nilChk rfl (E rfl rfl)) ?_
  refine AWL.y rfl rfl (B rfl) (Yv.fieldBox rfl fo_73_1 (E rfl rfl)) ?_
  refine AWL.y rfl rfl (B rfl) (Yv.loadBox rfl ag_65 (i := 0) rfl (E rfl rfl) rfl) ?_
  refine AWL.y rfl rfl (B rfl) (Yv.move rfl (E rfl rfl)) ?_
  refine AWL.y rfl rfl (B rfl) (Yv.move rfl (E rfl rfl)) ?_
  refine AWL.y rfl rfl (B rfl) (Yv.convW rfl Tryz.underlying3 kd_22 (E rfl rfl)) ?_
  refine AWL.y rfl rfl (B rfl) (Yv.addW rfl (E rfl rfl) (E rfl rfl)) ?_
  refine AWL.callF rfl rfl (B rfl) rfl ce_27 (E rfl rfl) (evsC (E rfl rfl) (evsC (E rfl rfl) evs0)) (F1 := [Ent.box mb 73 (mcC s (.v (.pointer (some ⟨mm, 0, none⟩))) w kn)]) (S1 := (Ent.box mm 102 [.sl 4 (l.flatMap seg0), mapT pg] :: memE 95 pg pgs)) (F2 := [Ent.row A30 n n 5 1 (rowR pgs a n j)]) rfl (get27 mm pg (.sl 4 (l.flatMap seg0)) pgs hpg (a + wI (j : Int))) ?_
  rintro t46 S46 ⟨rfl, rfl⟩
  refine AWL.y rfl rfl (B rfl) (Yv.indexRow (j := j) rfl ss_27 (i := 2 + (memE 95 pg pgs).length) (row_ix (Ent.box mb 73 (mcC s (.v (.pointer (some ⟨mm, 0, none⟩))) w kn)) (Ent.box mm 102 [.sl 4 (l.flatMap seg0), mapT pg]) (memE 95 pg pgs) (Ent.row A30 n n 5 1 (rowR pgs a n j))) (E rfl rfl) (E rfl rfl) (fun hg => ⟨rfl, hj⟩)) ?_
  refine AWL.storeEp1 (i := 2 + (memE 95 pg pgs).length) rfl rfl rfl ag_5 (row_ix (Ent.box mb 73 (mcC s (.v (.pointer (some ⟨mm, 0, none⟩))) w kn)) (Ent.box mm 102 [.sl 4 (l.flatMap seg0), mapT pg]) (memE 95 pg pgs) (Ent.row A30 n n 5 1 (rowR pgs a n j))) (E rfl rfl) (E rfl rfl) rfl rfl (by rw [row_lenR]; omega) ?_
  refine AWL.nil ?_
  refine AW.region ?_
  refine AWL.y rfl rfl (B rfl) (Yv.addN_i64 rfl (E rfl rfl) (E rfl rfl) (fun hg => by omega)) ?_
  refine AWL.y rfl rfl (B rfl) (Yv.move rfl (E rfl rfl)) ?_
  refine AWL.nil ?_
  refine ⟨j + 1, by omega, by omega, (Sub.cons rfl rfl (Sub.cons rfl rfl (Sub.cons rfl rfl (Sub.cons rfl rfl (Sub.cons rfl rfl (Sub.cons rfl rfl Sub.nil)))))), ?_⟩
  refine Eq.trans (row_set (Ent.box mb 73 (mcC s (.v (.pointer (some ⟨mm, 0, none⟩))) w kn)) (Ent.box mm 102 [.sl 4 (l.flatMap seg0), mapT pg]) (memE 95 pg pgs) (Ent.row A30 n n 5 1 (rowR pgs a n j)) _) ?_
  rw [row_stp pgs a hj]
 try replace h1f := of_decide_eq_false h1f
 obtain rfl : j = n := by omega
 refine AW.exit ?_
 rw [row_n]
 refine AW.freeze (2 + (memE 95 pg pgs).length) 8 (row_ix _ _ _ _) (B rfl) rfl ?_
 refine AW.rseq ?_
 refine AWL.y rfl rfl (B rfl) (Yv.move rfl (E rfl rfl)) ?_
 refine AWL.y rfl rfl (B rfl) (Yv.assign rfl (E rfl rfl)) ?_
 refine AWL.y rfl rfl (B rfl) (Yv.assign rfl (E rfl rfl)) ?_
 refine AWL.nil ?_
 refine AW.ret (retI (.tmp rfl (.tmp rfl .nil)) ?_)
 exact ⟨.inl ⟨hok, rfl⟩, row_er _ _ _ _⟩

set_option maxHeartbeats 4000000 in
theorem Read14n (mb mm pg : Nat) (s : Ms) (w kn : T) (l : List Seg) (pgs : List Pg) (a : Wd64)  (n : Int) (hn : n < 0) :
    ACalls Tryz.prog 14 [.v (.pointer (some ⟨mb, 0, none⟩)), zw a, zi n] (Ent.box mb 73 (mcC s (.v (.pointer (some ⟨mm, 0, none⟩))) w kn) :: Ent.box mm 102 [.sl 4 (l.flatMap seg0), mapT pg] :: memE 95 pg pgs) (fun t S => t = .tup [.v (.slice none 0 0), bv false] ∧ S = (Ent.box mb 73 (mcC s (.v (.pointer (some ⟨mm, 0, none⟩))) w kn) :: Ent.box mm 102 [.sl 4 (l.flatMap seg0), mapT pg] :: memE 95 pg pgs)) := by
 refine ACalls.intro Tryz.func14 rfl Tryz.ntmps14 (Nat.le_of_ble_eq_true rfl) rfl fun X w0 => ?_
 refine AW.rseq ?_
 refine AWL.y rfl rfl (B rfl) (Yv.assign rfl (E rfl rfl)) ?_
 refine AWL.y rfl rfl (B rfl) (Yv.assign rfl (E rfl rfl)) ?_
 refine AWL.nil ?_
 refine AW.seq ?_
 refine AW.rseq ?_
 refine AWL.y rfl rfl (B rfl) (Yv.move rfl (E rfl rfl)) ?_
 refine AWL.y rfl rfl (B rfl) (Yv.eqlNilP rfl pn_30 (E rfl rfl)) ?_
 refine AWL.y rfl rfl (B rfl) (Yv.move rfl (E rfl rfl)) ?_
 refine AWL.ygF rfl rfl rfl rfl (B rfl) (Yv.move rfl (E rfl rfl)) ?_
 refine AWL.ygF rfl rfl rfl rfl (B rfl) (Yv.lss rfl (Eg rfl rfl id) (E rfl rfl)) ?_
 refine AWL.y rfl rfl (B rfl) (Yv.pickOr (t := .const (.bool true)) rfl (E rfl rfl) (Eg rfl rfl id)) ?_
 refine AWL.y rfl rfl (B rfl) (Yv.move rfl (E rfl rfl)) ?_
 refine AWL.ygF rfl rfl rfl rfl (B rfl) (Yv.move rfl (E rfl rfl)) ?_
 refine AWL.ygF rfl rfl rfl rfl (B rfl) (Yv.nilChk rfl (Eg rfl rfl id)) ?_
 refine AWL.ygF rfl rfl rfl rfl (B rfl) (Yv.fieldBox rfl fo_73_1 (Eg rfl rfl id)) ?_
 refine AWL.ygF rfl rfl rfl rfl (B rfl) (Yv.loadBox rfl ag_65 (i := 0) rfl (Eg rfl rfl id) rfl) ?_
 refine AWL.ygF rfl rfl rfl rfl (B rfl) (Yv.move rfl (E rfl rfl)) ?_
 refine AWL.ygF rfl rfl rfl rfl (B rfl) (Yv.move rfl (E rfl rfl)) ?_
 refine AWL.ygF rfl rfl rfl rfl (B rfl) (Yv.convW rfl Tryz.underlying3 kd_22 (Eg rfl rfl id)) ?_
 refine AWL.callPgF rfl rfl rfl rfl (B rfl) rfl ce_26 (E rfl rfl) (evsC (Eg rfl rfl id) (evsC (Eg rfl rfl id) (evsC (Eg rfl rfl id) (evsC (E rfl rfl) evs0)))) (fun hg => (show ACalls Tryz.prog 26 [.v (.pointer (some ⟨mm, 0, none⟩)), zw a, zw (wI n), zi 0] [] (fun t S => t = zw 0#64) from absurd hg (by simp; omega))) (fun t S h => h) ?_
 refine AWL.ygF rfl rfl rfl rfl (B rfl) (Yv.move rfl (E rfl rfl)) ?_
 refine AWL.ygF rfl rfl rfl rfl (B rfl) (Yv.convW rfl Tryz.underlying3 kd_22 (Eg rfl rfl id)) ?_
 refine AWL.ygF rfl rfl rfl rfl (B rfl) (Yv.lssW rfl (Eg rfl rfl id) (Eg rfl rfl id)) ?_
 refine AWL.y rfl rfl (B rfl) (Yv.pickOr (t := .const (.bool true)) rfl (E rfl rfl) (Eg rfl rfl id)) ?_
 refine AWL.nil ?_
 refine AW.cond rfl (fun h0t => ?_) (fun h0f => ?_)
 ·try replace h0t := of_decide_eq_true h0t
  refine AW.rseq ?_
  refine AWL.y rfl rfl (B rfl) (Yv.assign rfl (E rfl rfl)) ?_
  refine AWL.y rfl rfl (B rfl) (Yv.assign rfl (E rfl rfl)) ?_
  refine AWL.nil ?_
  refine AW.ret (retI (.tmp rfl (.tmp rfl .nil)) ?_)
  exact ⟨rfl, rfl⟩
 try replace h0f := of_decide_eq_false h0f
 exfalso
 simp at h0f
 omega

end Go.Proofs.YtecpjlhbkmongaaGreat.M

namespace Go.Proofs.YtecpjlhbkmongaaGreat.M
open Go Go.RowKit
theorem len_u8t {bs : List UInt8} : (bs.map u8).length = bs.length * 1 := by simp
theorem u8_gett {bs : List UInt8} {j : Nat} (h : j < bs.length) : (bs.map u8)[j * 1]? = some (u8 (bs.getD j 0)) := by
 rw [Nat.mul_one, List.getElem?_map, List.getElem?_eq_getElem h]
 simp [h]
def okS (s : Seg) : Prop := s.z.toNat ≠ 0 ∧ s.data.length ≤ s.z.toNat ∧ s.a.toNat + s.z.toNat ≤ 18446744073709551615 ∧ 1 ≤ s.may ∧ s.may ≤ 7
def apartS (s t : Seg) : Prop := s.a.toNat + s.z.toNat ≤ t.a.toNat ∨ t.a.toNat + t.z.toNat ≤ s.a.toNat
theorem apartS.symm {s t : Seg} (h : apartS s t) : apartS t s := Or.symm h
def MayP (l : List Seg) : Prop := (∀ j, j < l.length → okS (l.getD j default)) ∧ ∀ i j, i < j → j < l.length → apartS (l.getD i default) (l.getD j default)
def NextP (l : List Seg) (n : Nat) : Prop := ∀ j, 1 ≤ j → j < n → (l.getD (j - 1) default).a.toNat + (l.getD (j - 1) default).z.toNat ≤ (l.getD j default).a.toNat
theorem mem_getD {l : List Seg} {s : Seg} : s ∈ l ↔ ∃ j, j < l.length ∧ l.getD j default = s := by
 rw [List.mem_iff_getElem]
 constructor
 ·rintro ⟨j, hj, h⟩; exact ⟨j, hj, by rw [gd hj]; exact h⟩
 rintro ⟨j, hj, h⟩; exact ⟨j, hj, by rw [gd hj] at h; exact h⟩
theorem ok_all {l : List Seg} : (∀ j, j < l.length → okS (l.getD j default)) ↔ ∀ s ∈ l, okS s := by
 constructor
 ·intro h s hs
  obtain ⟨j, hj, rfl⟩ := mem_getD.1 hs
  exact h j hj
 intro h j hj
 exact h _ (mem_getD.2 ⟨j, hj, rfl⟩)
theorem ap_all {l : List Seg} : (∀ i j, i < j → j < l.length → apartS (l.getD i default) (l.getD j default)) ↔ l.Pairwise apartS := by
 rw [List.pairwise_iff_getElem]
 constructor
 ·intro h i j hi hj hij
  have := h i j hij hj
  rwa [gd hi, gd hj] at this
 intro h i j hij hj
 rw [gd (by omega), gd hj]
 exact h i j (by omega) hj hij
theorem MayP.perm {l l' : List Seg} (hp : l'.Perm l) (h : MayP l) : MayP l' :=
 ⟨ok_all.2 fun s hs => ok_all.1 h.1 s (hp.mem_iff.1 hs), ap_all.2 ((hp.pairwise_iff (fun {a b} h => apartS.symm h)).2 (ap_all.1 h.2))⟩
theorem Srt.of_next {l : List Seg} (h : ∀ j, j < l.length → okS (l.getD j default)) (hn : NextP l l.length) : Srt l := by
 refine ⟨fun j hj => (h j hj).2.2.1, fun i j hij hj => ?_⟩
 induction j with
 | zero => omega
 | succ j ih =>
  have h1 := hn (j + 1) (by omega) hj
  rw [Nat.add_sub_cancel] at h1
  rcases Nat.lt_or_ge i j with q | q
  ·have := ih q (by omega)
   omega
  ·obtain rfl : i = j := by omega
   exact h1
theorem Srt.may {l : List Seg} (h : ∀ j, j < l.length → okS (l.getD j default)) (hs : Srt l) : MayP l := ⟨h, fun i j hij hj => .inl (hs.2 i j hij hj)⟩
theorem MayP.next {l : List Seg} (h : MayP l) (hb : ByAt l) : NextP l l.length := by
 intro j h1 hj
 have hok := h.1 j hj
 have h2 := h.2 (j - 1) j (by omega) hj
 have h3 := hb (j - 1) j (by omega) hj
 rw [BitVec.lt_def] at h3
 unfold okS at hok
 unfold apartS at h2
 omega
theorem okB_mem {l : List Seg} {may : Int} {a : Nat} : okB l may a ↔ ∃ s ∈ l, inS s a ∧ mayA s.may may = true := by
 constructor
 ·rintro ⟨k, hk, h⟩; exact ⟨_, mem_getD.2 ⟨k, hk, rfl⟩, h⟩
 rintro ⟨s, hs, h⟩
 obtain ⟨k, hk, rfl⟩ := mem_getD.1 hs
 exact ⟨k, hk, h⟩
theorem okB_perm {l l' : List Seg} (hp : l'.Perm l) {may : Int} {a : Nat} : okB l' may a ↔ okB l may a := by
 rw [okB_mem, okB_mem]
 constructor <;> rintro ⟨s, hs, h⟩
 ·exact ⟨s, hp.mem_iff.1 hs, h⟩
 exact ⟨s, hp.mem_iff.2 hs, h⟩
theorem rdOk_perm {l l' : List Seg} (hp : l'.Perm l) {a : Wd64} {n : Nat} : rdOk l' a n ↔ rdOk l a n := by
 unfold rdOk
 constructor <;> rintro ⟨h1, h2⟩ <;> refine ⟨h1, fun j hj => ?_⟩
 ·exact (okB_perm hp).1 (h2 j hj)
 exact (okB_perm hp).2 (h2 j hj)
def putN (m : Mf) (a : Wd64) (d : List UInt8) : Nat → Mf
 | 0 => m
 | k + 1 => updM (putN m a d k) (a + wI (k : Int)) (d.getD k 0)
def memN (l : List Seg) : Nat → Mf
 | 0 => fun _ => 0
 | i + 1 => putN (memN l i) (l.getD i default).a (l.getD i default).data (l.getD i default).data.length
def memF (l : List Seg) : Mf := memN l l.length
theorem ok_iff {s : Seg} (hd : s.data.length ≤ 1048576) : okS s ↔ ¬ ((((s.z = 0#64 ∨ s.z < wI (s.data.length : Int)) ∨ 18446744073709551615#64 - s.z < s.a) ∨ s.may < 1) ∨ 7 < s.may) := by
 have e := wI_n (n := s.data.length) (by omega)
 have e2 : (18446744073709551615#64 - s.z).toNat = 18446744073709551615 - s.z.toNat := sub_w (by have := s.z.isLt; show s.z.toNat ≤ 18446744073709551615; omega)
 have e3 : s.z = 0#64 ↔ s.z.toNat = 0 := ⟨fun h => by rw [h]; rfl, fun h => BitVec.eq_of_toNat_eq h⟩
 have := s.z.isLt
 unfold okS
 rw [BitVec.lt_def, BitVec.lt_def, e, e2, e3]
 omega
theorem next_iff {s t : Seg} (h : ¬ t.a < s.a) : s.a.toNat + s.z.toNat ≤ t.a.toNat ↔ ¬ (t.a - s.a < s.z) := by
 rw [BitVec.lt_def] at h ⊢
 rw [sub_w (by omega)]
 omega
end Go.Proofs.YtecpjlhbkmongaaGreat.M

namespace Go.Proofs.YtecpjlhbkmongaaGreat.M
open Go Go.RowKit

theorem take_seg {l : List Seg} {j : Nat} (h : j < l.length) : (l.take j).flatMap seg0 ++ seg0 (l.getD j default) = (l.take (j + 1)).flatMap seg0 := by
 rw [gd h, List.take_succ_eq_append_getElem h, List.flatMap_append]
 simp
set_option maxHeartbeats 4000000 in
theorem remember22 (l0 : List Seg) (hl : l0.length ≤ 1048576) (hd : ∀ s ∈ l0, s.data.length ≤ 1048576) :
    ACalls Tryz.prog 22 [.sl 4 (l0.flatMap segC)] [] (fun t S => (¬ MayP l0 ∧ t = .tup [.v (.pointer none), bv false]) ∨ (MayP l0 ∧ ∃ (mm pg : Nat) (l : List Seg) (pgs : List Pg), l.Perm l0 ∧ Srt l ∧ PgOk pgs ∧ getM pgs = memF l0 ∧ t = .tup [.v (.pointer (some ⟨mm, 0, none⟩)), bv true] ∧ S = (Ent.box mm 102 [.sl 4 (l.flatMap seg0), mapT pg] :: memE 95 pg pgs))) := by
 refine ACalls.intro Tryz.func22 rfl Tryz.ntmps22 (Nat.le_of_ble_eq_true rfl) rfl fun X w0 => ?_
 refine AW.rseq ?_
 refine AWL.y rfl rfl (B rfl) (Yv.assign rfl (E rfl rfl)) ?_
 refine AWL.y rfl rfl (B rfl) (Yv.assign rfl (E rfl rfl)) ?_
 refine AWL.nil ?_
 refine AW.rseq ?_
 refine AWL.makeMapOp rfl rfl (B rfl) rfl (fun b12 => ?_)
 refine AWL.y rfl rfl (B rfl) (Yv.buildS rfl sh_102 (evpC (E rfl rfl) evp0) (fun _ => rfl)) ?_
 refine AWL.boxOp rfl rfl (B rfl) rfl (E rfl rfl) rfl (fun b14 => ?_)
 refine AWL.y rfl rfl (B rfl) (Yv.assign rfl (E rfl rfl)) ?_
 refine AWL.nil ?_
 refine AW.rowNil 29 4 ?_
 refine AW.perm (S' := [Ent.row none 0 0 29 4 ((l0.take 0).flatMap seg0), Ent.box b14 102 [.v (.slice none 0 0), mapT b12], .map b12 (pgT [])]) (List.reverse_perm [_, _, _]) ?_
 refine AW.seq ?_
 refine AW.rseq ?_
 refine AWL.y rfl rfl (B rfl) (Yv.move rfl (E rfl rfl)) ?_
 refine AWL.y rfl rfl (B rfl) (Yv.lenSl rfl so_23 (B rfl) (E rfl rfl) len_segC) ?_
 refine AWL.y rfl rfl (B rfl) (Yv.move rfl (E rfl rfl)) ?_
 refine AWL.nil ?_
 refine AW.block ?_
 refine AW.loop3 (fun (j : Nat) (A : Option Addr) (c : Nat) => [(0, true, .sl 4 (l0.flatMap segC)), (2, true, .v (.pointer none)), (3, true, bv false), (4, true, .v (.pointer (some ⟨b14, 0, none⟩))), (15, true, .sl 4 (l0.flatMap segC)), (16, true, zi (l0.length : Int)), (17, true, zi (j : Int))]) (fun (j : Nat) (A : Option Addr) (c : Nat) => [Ent.row A j c 29 4 ((l0.take j).flatMap seg0), Ent.box b14 102 [.v (.slice A j c), mapT b12], .map b12 (pgT [])]) (fun (j : Nat) (A : Option Addr) (c : Nat) => j ≤ l0.length ∧ ∀ k, k < j → okS (l0.getD k default)) (fun (j : Nat) (A : Option Addr) (c : Nat) => l0.length - j) 0 none 0 ?_ ?_ ?_ ?_
 ·exact ⟨Nat.zero_le _, fun k hk => absurd hk (Nat.not_lt_zero _)⟩
 ·exact (Sub.cons rfl rfl (Sub.cons rfl rfl (Sub.cons rfl rfl (Sub.cons rfl rfl (Sub.cons rfl rfl (Sub.cons rfl rfl (Sub.cons rfl rfl Sub.nil)))))))
 ·rfl
 intro j A c ⟨hjl, hoks⟩
 refine AW.rseq ?_
 refine AWL.y rfl rfl (B rfl) (Yv.lss rfl (E rfl rfl) (E rfl rfl)) ?_
 refine AWL.nil ?_
 refine AW.seq ?_
 refine AW.cond rfl (fun h0t => ?_) (fun h0f => ?_)
 ·try replace h0t := of_decide_eq_true h0t
  have hj : j < l0.length := by omega
  have hdj := hd _ (mem_getD.2 ⟨j, hj, rfl⟩)
  refine AW.skip ?_
  refine AW.seq ?_
  refine AW.block ?_
  refine AW.rseq ?_
  refine AWL.y rfl rfl (B rfl) (Yv.indexSl rfl ss_23 (B rfl) (E rfl rfl) (E rfl rfl) (fun hg => ⟨rfl, (by first | omega | (simp only [len_segC, len_seg0, len_u8t]; omega))⟩)) ?_
  refine AWL.y rfl rfl (B rfl) (Yv.loadRpA rfl ag_29 (E rfl rfl) (fun hg => ⟨segC_get hj, rfl⟩)) ?_
  refine AWL.allocOp rfl rfl (B rfl) rfl zc_29 (fun b6 => ?_)
  refine AWL.storeBox (i := 3) rfl rfl rfl ag_29 rfl (E rfl rfl) (E rfl rfl) rfl rfl (Nat.le_of_ble_eq_true rfl) ?_
  refine AWL.nil ?_
  refine AW.seq ?_
  refine AW.rseq ?_
  refine AWL.y rfl rfl (B rfl) (Yv.fieldBox rfl fo_29_1 (E rfl rfl)) ?_
  refine AWL.y rfl rfl (B rfl) (Yv.loadBox rfl ag_22 (i := 3) rfl (E rfl rfl) rfl) ?_
  refine AWL.y rfl rfl (B rfl) (Yv.eqlW (b := 0#64) rfl (E rfl rfl) (E rfl rfl)) ?_
  refine AWL.y rfl rfl (B rfl) (Yv.move rfl (E rfl rfl)) ?_
  refine AWL.ygF rfl rfl rfl rfl (B rfl) (Yv.fieldBox rfl fo_29_3 (E rfl rfl)) ?_
  refine AWL.ygF rfl rfl rfl rfl (B rfl) (Yv.loadBox rfl ag_27 (i := 3) rfl (Eg rfl rfl id) rfl) ?_
  refine AWL.ygF rfl rfl rfl rfl (B rfl) (Yv.lenSl rfl so_27 (B rfl) (Eg rfl rfl id) len_u8t) ?_
  refine AWL.ygF rfl rfl rfl rfl (B rfl) (Yv.convW rfl Tryz.underlying3 kd_22 (Eg rfl rfl id)) ?_
  refine AWL.ygF rfl rfl rfl rfl (B rfl) (Yv.fieldBox rfl fo_29_1 (E rfl rfl)) ?_
  refine AWL.ygF rfl rfl rfl rfl (B rfl) (Yv.loadBox rfl ag_22 (i := 3) rfl (Eg rfl rfl id) rfl) ?_
  refine AWL.ygF rfl rfl rfl rfl (B rfl) (Yv.gtrW rfl (Eg rfl rfl id) (Eg rfl rfl id)) ?_
  refine AWL.y rfl rfl (B rfl) (Yv.pickOr (t := .const (.bool true)) rfl (E rfl rfl) (Eg rfl rfl id)) ?_
  refine AWL.y rfl rfl (B rfl) (Yv.move rfl (E rfl rfl)) ?_
  refine AWL.ygF rfl rfl rfl rfl (B rfl) (Yv.fieldBox rfl fo_29_0 (E rfl rfl)) ?_
  refine AWL.ygF rfl rfl rfl rfl (B rfl) (Yv.loadBox rfl ag_22 (i := 3) rfl (Eg rfl rfl id) rfl) ?_
  refine AWL.ygF rfl rfl rfl rfl (B rfl) (Yv.fieldBox rfl fo_29_1 (E rfl rfl)) ?_
  refine AWL.ygF rfl rfl rfl rfl (B rfl) (Yv.loadBox rfl ag_22 (i := 3) rfl (Eg rfl rfl id) rfl) ?_
  refine AWL.ygF rfl rfl rfl rfl (B rfl) (Yv.subW (a := 18446744073709551615#64) rfl (E rfl rfl) (Eg rfl rfl id)) ?_
  refine AWL.ygF rfl rfl rfl rfl (B rfl) (Yv.gtrW rfl (Eg rfl rfl id) (Eg rfl rfl id)) ?_
  refine AWL.y rfl rfl (B rfl) (Yv.pickOr (t := .const (.bool true)) rfl (E rfl rfl) (Eg rfl rfl id)) ?_
  refine AWL.y rfl rfl (B rfl) (Yv.move rfl (E rfl rfl)) ?_
  refine AWL.ygF rfl rfl rfl rfl (B rfl) (Yv.fieldBox rfl fo_29_2 (E rfl rfl)) ?_
  refine AWL.ygF rfl rfl rfl rfl (B rfl) (Yv.loadBox rfl ag_3 (i := 3) rfl (Eg rfl rfl id) rfl) ?_
  refine AWL.ygF rfl rfl rfl rfl (B rfl) (Yv.lss rfl (Eg rfl rfl id) (E rfl rfl)) ?_
  refine AWL.y rfl rfl (B rfl) (Yv.pickOr (t := .const (.bool true)) rfl (E rfl rfl) (Eg rfl rfl id)) ?_
  refine AWL.y rfl rfl (B rfl) (Yv.move rfl (E rfl rfl)) ?_
  refine AWL.ygF rfl rfl rfl rfl (B rfl) (Yv.fieldBox rfl fo_29_2 (E rfl rfl)) ?_
  refine AWL.ygF rfl rfl rfl rfl (B rfl) (Yv.loadBox rfl ag_3 (i := 3) rfl (Eg rfl rfl id) rfl) ?_
  refine AWL.ygF rfl rfl rfl rfl (B rfl) (Yv.gtr rfl (Eg rfl rfl id) (E rfl rfl)) ?_
  refine AWL.y rfl rfl (B rfl) (Yv.pickOr (t := .const (.bool true)) rfl (E rfl rfl) (Eg rfl rfl id)) ?_
  refine AWL.nil ?_
  refine AW.cond rfl (fun h1t => ?_) (fun h1f => ?_)
  ·try replace h1t := of_decide_eq_true h1t
   have hno : ¬ okS (l0.getD j default) := fun q => (ok_iff hdj).1 q (by simpa using h1t)
   refine AW.rseq ?_
   refine AWL.y rfl rfl (B rfl) (Yv.assign rfl (E rfl rfl)) ?_
   refine AWL.y rfl rfl (B rfl) (Yv.assign rfl (E rfl rfl)) ?_
   refine AWL.nil ?_
   refine AW.ret (retI (.tmp rfl (.tmp rfl .nil)) ?_)
   exact .inl ⟨fun q => hno (q.1 j hj), rfl⟩
  try replace h1f := of_decide_eq_false h1f
  have hok : okS (l0.getD j default) := (ok_iff hdj).2 (by simpa using h1f)
  refine AW.skip ?_
  refine AW.regionH (HeldCs [(b6, 0, .int .u64 ((l0.getD j default).a.toNat : Int)), (b6, 1, .int .u64 ((l0.getD j default).z.toNat : Int)), (b6, 2, .int .i64 (l0.getD j default).may)]) rfl (tells_cs (tcB 3 rfl rfl pinV (tcB 3 rfl rfl pinV (tcB 3 rfl rfl pinV tc0)))) ?_
  refine AWH.take (i := 0) rfl (by kernel_rfl) (by kernel_rfl) (by kernel_rfl) rfl rfl (B rfl) (heldAll (freeMove rfl (E rfl rfl))) ?_
  refine AWH.take (i := 1) rfl (by kernel_rfl) (by kernel_rfl) (by kernel_rfl) rfl rfl (B rfl) (heldAll (freeMove rfl (E rfl rfl))) ?_
  refine AWH.take (i := 2) rfl (by kernel_rfl) (by kernel_rfl) (by kernel_rfl) rfl rfl (B rfl) (heldAll (freeNil rfl (E rfl rfl))) ?_
  refine AWH.take (i := 3) rfl (by kernel_rfl) (by kernel_rfl) (by kernel_rfl) rfl rfl (B rfl) (heldAll (freeField rfl fo_102_0 (E rfl rfl))) ?_
  refine AWH.take (i := 5) rfl (by kernel_rfl) (by kernel_rfl) (by kernel_rfl) rfl rfl (B rfl) (heldAll (freeField rfl fo_29_0 (E rfl rfl))) ?_
  refine AWH.take (i := 6) rfl (by kernel_rfl) (by kernel_rfl) (by kernel_rfl) rfl rfl (B rfl) (heldB (r := zw (l0.getD j default).a) 0 rfl ag_22 (E rfl rfl) rfl (fun _ _ => .v _)) ?_
  refine AWH.take (i := 7) rfl (by kernel_rfl) (by kernel_rfl) (by kernel_rfl) rfl rfl (B rfl) (heldAll (freeField rfl fo_29_1 (E rfl rfl))) ?_
  refine AWH.take (i := 8) rfl (by kernel_rfl) (by kernel_rfl) (by kernel_rfl) rfl rfl (B rfl) (heldB (r := zw (l0.getD j default).z) 1 rfl ag_22 (E rfl rfl) rfl (fun _ _ => .v _)) ?_
  refine AWH.take (i := 9) rfl (by kernel_rfl) (by kernel_rfl) (by kernel_rfl) rfl rfl (B rfl) (heldAll (freeField rfl fo_29_2 (E rfl rfl))) ?_
  refine AWH.take (i := 10) rfl (by kernel_rfl) (by kernel_rfl) (by kernel_rfl) rfl rfl (B rfl) (heldB (r := zi (l0.getD j default).may) 2 rfl ag_3 (E rfl rfl) rfl (fun _ _ => .v _)) ?_
  refine AWH.two (i := 4) (j := 11) (by kernel_rfl) rfl rfl ?_ ?_
  ·refine AWL.y rfl rfl (B rfl) (Yv.loadBox rfl ag_23 (i := 1) rfl (E rfl rfl) rfl) ?_
   refine AWL.nil (kpH (tcB 3 rfl rfl pinV (tcB 3 rfl rfl pinV (tcB 3 rfl rfl pinV tc0))) ?_)
   refine AWH.one (i := 11) (by kernel_rfl) rfl ?_
   refine AWL.y rfl rfl (B rfl) (Yv.buildS rfl sh_29 (evpC (E rfl rfl) (evpC (E rfl rfl) (evpC (E rfl rfl) evp0))) (fun _ => rfl)) ?_
   refine AWL.nil (kpH (tcB 3 rfl rfl pinV (tcB 3 rfl rfl pinV (tcB 3 rfl rfl pinV tc0))) ?_)
   refine AWH.one (i := 12) (by kernel_rfl) rfl ?_
   refine AWL.buildSliceE rfl rfl (B rfl) rfl el_23 (B rfl) rfl (evsC (E rfl rfl) evs0) (Nat.le_of_ble_eq_true rfl) rfl rfl ?_
   refine AWL.nil (kpH (tcB 3 rfl rfl pinV (tcB 3 rfl rfl pinV (tcB 3 rfl rfl pinV tc0))) ?_)
   refine AWH.one (i := 13) (by kernel_rfl) rfl ?_
   refine AWL.appendRow (i := 0) rfl rfl (B rfl) rfl el_23 (B rfl) rfl (E rfl rfl) (SrcT.sl so_23 (B rfl) (E rfl rfl) rfl) (by unfold maxLen; omega) (by omega) (fun A64 c64 => ?_)
   refine AWL.nil (kpH (tcB 3 rfl rfl pinV (tcB 3 rfl rfl pinV (tcB 3 rfl rfl pinV tc0))) ?_)
   refine AWH.one (i := 14) (by kernel_rfl) rfl ?_
   refine AWL.y rfl rfl (B rfl) (Yv.nilChk rfl (E rfl rfl)) ?_
   refine AWL.nil (kpH (tcB 3 rfl rfl pinV (tcB 3 rfl rfl pinV (tcB 3 rfl rfl pinV tc0))) ?_)
   refine AWH.one (i := 15) (by kernel_rfl) rfl ?_
   refine AWL.y rfl rfl (B rfl) (Yv.fieldBox rfl fo_102_0 (E rfl rfl)) ?_
   refine AWL.nil (kpH (tcB 3 rfl rfl pinV (tcB 3 rfl rfl pinV (tcB 3 rfl rfl pinV tc0))) ?_)
   refine AWH.one (i := 16) (by kernel_rfl) rfl ?_
   refine AWL.storeBox (i := 1) rfl rfl rfl ag_23 rfl (E rfl rfl) (E rfl rfl) rfl rfl (Nat.le_of_ble_eq_true rfl) ?_
   refine AWL.nil (kpH (tcB 3 rfl rfl pinV (tcB 3 rfl rfl pinV (tcB 3 rfl rfl pinV tc0))) ?_)
   refine AWH.done (by kernel_rfl) ?_
   refine AW.dropAt 3 ?_
   refine AW.eqS (S' := [Ent.row A64 (j + 1) c64 29 4 ((l0.take (j + 1)).flatMap seg0), Ent.box b14 102 [.v (.slice A64 (j + 1) c64), mapT b12], .map b12 (pgT [])]) (by rw [← take_seg hj]; rfl) ?_
   refine AW.region ?_
   refine AWL.y rfl rfl (B rfl) (Yv.addN_i64 rfl (E rfl rfl) (E rfl rfl) (fun hg => by omega)) ?_
   refine AWL.y rfl rfl (B rfl) (Yv.move rfl (E rfl rfl)) ?_
   refine AWL.nil ?_
   exact ⟨j + 1, A64, c64, ⟨by omega, fun k hk => (Nat.lt_succ_iff_lt_or_eq.1 hk).elim (hoks k) (fun e => e ▸ hok)⟩, by omega, (Sub.cons rfl rfl (Sub.cons rfl rfl (Sub.cons rfl rfl (Sub.cons rfl rfl (Sub.cons rfl rfl (Sub.cons rfl rfl (Sub.cons rfl rfl Sub.nil))))))), rfl⟩
  refine AWL.y rfl rfl (B rfl) (Yv.buildS rfl sh_29 (evpC (E rfl rfl) (evpC (E rfl rfl) (evpC (E rfl rfl) evp0))) (fun _ => rfl)) ?_
  refine AWL.nil (kpH (tcB 3 rfl rfl pinV (tcB 3 rfl rfl pinV (tcB 3 rfl rfl pinV tc0))) ?_)
  refine AWH.two (i := 4) (j := 12) (by kernel_rfl) rfl rfl ?_ ?_
  ·refine AWL.y rfl rfl (B rfl) (Yv.loadBox rfl ag_23 (i := 1) rfl (E rfl rfl) rfl) ?_
   refine AWL.nil (kpH (tcB 3 rfl rfl pinV (tcB 3 rfl rfl pinV (tcB 3 rfl rfl pinV tc0))) ?_)
   refine AWH.one (i := 12) (by kernel_rfl) rfl ?_
   refine AWL.buildSliceE rfl rfl (B rfl) rfl el_23 (B rfl) rfl (evsC (E rfl rfl) evs0) (Nat.le_of_ble_eq_true rfl) rfl rfl ?_
   refine AWL.nil (kpH (tcB 3 rfl rfl pinV (tcB 3 rfl rfl pinV (tcB 3 rfl rfl pinV tc0))) ?_)
   refine AWH.one (i := 13) (by kernel_rfl) rfl ?_
   refine AWL.appendRow (i := 0) rfl rfl (B rfl) rfl el_23 (B rfl) rfl (E rfl rfl) (SrcT.sl so_23 (B rfl) (E rfl rfl) rfl) (by unfold maxLen; omega) (by omega) (fun A64 c64 => ?_)
   refine AWL.nil (kpH (tcB 3 rfl rfl pinV (tcB 3 rfl rfl pinV (tcB 3 rfl rfl pinV tc0))) ?_)
   refine AWH.one (i := 14) (by kernel_rfl) rfl ?_
   refine AWL.y rfl rfl (B rfl) (Yv.nilChk rfl (E rfl rfl)) ?_
   refine AWL.nil (kpH (tcB 3 rfl rfl pinV (tcB 3 rfl rfl pinV (tcB 3 rfl rfl pinV tc0))) ?_)
   refine AWH.one (i := 15) (by kernel_rfl) rfl ?_
   refine AWL.y rfl rfl (B rfl) (Yv.fieldBox rfl fo_102_0 (E rfl rfl)) ?_
   refine AWL.nil (kpH (tcB 3 rfl rfl pinV (tcB 3 rfl rfl pinV (tcB 3 rfl rfl pinV tc0))) ?_)
   refine AWH.one (i := 16) (by kernel_rfl) rfl ?_
   refine AWL.storeBox (i := 1) rfl rfl rfl ag_23 rfl (E rfl rfl) (E rfl rfl) rfl rfl (Nat.le_of_ble_eq_true rfl) ?_
   refine AWL.nil (kpH (tcB 3 rfl rfl pinV (tcB 3 rfl rfl pinV (tcB 3 rfl rfl pinV tc0))) ?_)
   refine AWH.done (by kernel_rfl) ?_
   refine AW.dropAt 3 ?_
   refine AW.eqS (S' := [Ent.row A64 (j + 1) c64 29 4 ((l0.take (j + 1)).flatMap seg0), Ent.box b14 102 [.v (.slice A64 (j + 1) c64), mapT b12], .map b12 (pgT [])]) (by rw [← take_seg hj]; rfl) ?_
   refine AW.region ?_
   refine AWL.y rfl rfl (B rfl) (Yv.addN_i64 rfl (E rfl rfl) (E rfl rfl) (fun hg => by omega)) ?_
   refine AWL.y rfl rfl (B rfl) (Yv.move rfl (E rfl rfl)) ?_
   refine AWL.nil ?_
   exact ⟨j + 1, A64, c64, ⟨by omega, fun k hk => (Nat.lt_succ_iff_lt_or_eq.1 hk).elim (hoks k) (fun e => e ▸ hok)⟩, by omega, (Sub.cons rfl rfl (Sub.cons rfl rfl (Sub.cons rfl rfl (Sub.cons rfl rfl (Sub.cons rfl rfl (Sub.cons rfl rfl (Sub.cons rfl rfl Sub.nil))))))), rfl⟩
  refine AWL.buildSliceE rfl rfl (B rfl) rfl el_23 (B rfl) rfl (evsC (E rfl rfl) evs0) (Nat.le_of_ble_eq_true rfl) rfl rfl ?_
  refine AWL.nil (kpH (tcB 3 rfl rfl pinV (tcB 3 rfl rfl pinV (tcB 3 rfl rfl pinV tc0))) ?_)
  refine AWH.one (i := 4) (by kernel_rfl) rfl ?_
  refine AWL.y rfl rfl (B rfl) (Yv.loadBox rfl ag_23 (i := 1) rfl (E rfl rfl) rfl) ?_
  refine AWL.nil (kpH (tcB 3 rfl rfl pinV (tcB 3 rfl rfl pinV (tcB 3 rfl rfl pinV tc0))) ?_)
  refine AWH.one (i := 13) (by kernel_rfl) rfl ?_
  refine AWL.appendRow (i := 0) rfl rfl (B rfl) rfl el_23 (B rfl) rfl (E rfl rfl) (SrcT.sl so_23 (B rfl) (E rfl rfl) rfl) (by unfold maxLen; omega) (by omega) (fun A64 c64 => ?_)
  refine AWL.nil (kpH (tcB 3 rfl rfl pinV (tcB 3 rfl rfl pinV (tcB 3 rfl rfl pinV tc0))) ?_)
  refine AWH.one (i := 14) (by kernel_rfl) rfl ?_
  refine AWL.y rfl rfl (B rfl) (Yv.nilChk rfl (E rfl rfl)) ?_
  refine AWL.nil (kpH (tcB 3 rfl rfl pinV (tcB 3 rfl rfl pinV (tcB 3 rfl rfl pinV tc0))) ?_)
  refine AWH.one (i := 15) (by kernel_rfl) rfl ?_
  refine AWL.y rfl rfl (B rfl) (Yv.fieldBox rfl fo_102_0 (E rfl rfl)) ?_
  refine AWL.nil (kpH (tcB 3 rfl rfl pinV (tcB 3 rfl rfl pinV (tcB 3 rfl rfl pinV tc0))) ?_)
  refine AWH.one (i := 16) (by kernel_rfl) rfl ?_
  refine AWL.storeBox (i := 1) rfl rfl rfl ag_23 rfl (E rfl rfl) (E rfl rfl) rfl rfl (Nat.le_of_ble_eq_true rfl) ?_
  refine AWL.nil (kpH (tcB 3 rfl rfl pinV (tcB 3 rfl rfl pinV (tcB 3 rfl rfl pinV tc0))) ?_)
  refine AWH.done (by kernel_rfl) ?_
  refine AW.dropAt 3 ?_
  refine AW.eqS (S' := [Ent.row A64 (j + 1) c64 29 4 ((l0.take (j + 1)).flatMap seg0), Ent.box b14 102 [.v (.slice A64 (j + 1) c64), mapT b12], .map b12 (pgT [])]) (by rw [← take_seg hj]; rfl) ?_
  refine AW.region ?_
  refine AWL.y rfl rfl (B rfl) (Yv.addN_i64 rfl (E rfl rfl) (E rfl rfl) (fun hg => by omega)) ?_
  refine AWL.y rfl rfl (B rfl) (Yv.move rfl (E rfl rfl)) ?_
  refine AWL.nil ?_
  exact ⟨j + 1, A64, c64, ⟨by omega, fun k hk => (Nat.lt_succ_iff_lt_or_eq.1 hk).elim (hoks k) (fun e => e ▸ hok)⟩, by omega, (Sub.cons rfl rfl (Sub.cons rfl rfl (Sub.cons rfl rfl (Sub.cons rfl rfl (Sub.cons rfl rfl (Sub.cons rfl rfl (Sub.cons rfl rfl Sub.nil))))))), rfl⟩
 try replace h0f := of_decide_eq_false h0f
 obtain rfl : j = l0.length := by omega
 rw [List.take_length]
 refine AW.exit ?_
 refine AW.rseq ?_
 refine AWL.y rfl rfl (B rfl) (Yv.move rfl (E rfl rfl)) ?_
 refine AWL.y rfl rfl (B rfl) (Yv.nilChk rfl (E rfl rfl)) ?_
 refine AWL.y rfl rfl (B rfl) (Yv.fieldBox rfl fo_102_0 (E rfl rfl)) ?_
 refine AWL.y rfl rfl (B rfl) (Yv.loadBox rfl ag_23 (i := 1) rfl (E rfl rfl) rfl) ?_
 refine AWL.callF rfl rfl (B rfl) rfl ce_30 (E rfl rfl) (evsC (E rfl rfl) (evsC (E rfl rfl) evs0)) (F1 := []) (S1 := [Ent.row A l0.length c 29 4 (l0.flatMap seg0)]) (F2 := [Ent.box b14 102 [.v (.slice A l0.length c), mapT b12], .map b12 (pgT [])]) rfl (sort30 (by omega)) ?_
 rintro t72 S72 ⟨rfl, l, hpm, hby, rfl⟩
 refine AWL.nil ?_
 have hll := hpm.length_eq
 refine AW.freezeCell 0 0 0 rfl (B rfl) rfl rfl ?_
 refine AW.seq ?_
 refine AW.rseq ?_
 refine AWL.y rfl rfl (B rfl) (Yv.assign rfl (E rfl rfl)) ?_
 refine AWL.nil ?_
 refine AW.block ?_
 refine AW.loop (fun (j : Nat) => [(0, true, .sl 4 (l0.flatMap segC)), (2, true, .v (.pointer none)), (3, true, bv false), (4, true, .v (.pointer (some ⟨b14, 0, none⟩))), (7, true, zi (j : Int))]) (fun (j : Nat) => [Ent.box b14 102 [.sl 4 (l.flatMap seg0), mapT b12], .map b12 (pgT [])]) (fun (j : Nat) => 1 ≤ j ∧ NextP l j) (fun (j : Nat) => l.length - j) 1 ?_ ?_ ?_ ?_
 ·exact ⟨Nat.le_refl _, fun j h1 h2 => by omega⟩
 ·exact (Sub.cons rfl rfl (Sub.cons rfl rfl (Sub.cons rfl rfl (Sub.cons rfl rfl (Sub.cons rfl rfl Sub.nil)))))
 ·rfl
 intro j ⟨hj1, hnx⟩
 refine AW.seq ?_
 refine AW.rseq ?_
 refine AWL.y rfl rfl (B rfl) (Yv.move rfl (E rfl rfl)) ?_
 refine AWL.y rfl rfl (B rfl) (Yv.move rfl (E rfl rfl)) ?_
 refine AWL.y rfl rfl (B rfl) (Yv.nilChk rfl (E rfl rfl)) ?_
 refine AWL.y rfl rfl (B rfl) (Yv.fieldBox rfl fo_102_0 (E rfl rfl)) ?_
 refine AWL.y rfl rfl (B rfl) (Yv.loadBox rfl ag_23 (i := 0) rfl (E rfl rfl) rfl) ?_
 refine AWL.y rfl rfl (B rfl) (Yv.lenSl rfl so_23 (B rfl) (E rfl rfl) len_seg0) ?_
 refine AWL.y rfl rfl (B rfl) (Yv.lss rfl (E rfl rfl) (E rfl rfl)) ?_
 refine AWL.nil ?_
 refine AW.cond rfl (fun h2t => ?_) (fun h2f => ?_)
 ·try replace h2t := of_decide_eq_true h2t
  have hj : j < l.length := by omega
  refine AW.skip ?_
  refine AW.seq ?_
  refine AW.block ?_
  refine AW.rseqQ rfl (by kernel_rfl) ?_
  refine AWQ.y rfl rfl (B rfl) (Yv.move rfl (E rfl rfl)) ?_
  refine AWQ.y rfl rfl (B rfl) (Yv.nilChk rfl (E rfl rfl)) ?_
  refine AWQ.y rfl rfl (B rfl) (Yv.fieldBox rfl fo_102_0 (E rfl rfl)) ?_
  refine AWQ.y rfl rfl (B rfl) (Yv.loadBox rfl ag_23 (i := 0) rfl (E rfl rfl) rfl) ?_
  refine AWQ.y rfl rfl (B rfl) (Yv.move rfl (E rfl rfl)) ?_
  refine AWQ.y rfl rfl (B rfl) (Yv.indexSl rfl ss_23 (B rfl) (E rfl rfl) (E rfl rfl) (fun hg => ⟨rfl, (by first | omega | (simp only [len_segC, len_seg0, len_u8t]; omega))⟩)) ?_
  refine AWQ.y rfl rfl (B rfl) (Yv.fieldRp rfl fo_29_0 (E rfl rfl)) ?_
  refine AWQ.y rfl rfl (B rfl) (Yv.loadRp rfl ag_22 (E rfl rfl) (fun hg => seg0_at0 hj)) ?_
  refine AWQ.y rfl rfl (B rfl) (Yv.move rfl (E rfl rfl)) ?_
  refine AWQ.y rfl rfl (B rfl) (Yv.nilChk rfl (E rfl rfl)) ?_
  refine AWQ.y rfl rfl (B rfl) (Yv.fieldBox rfl fo_102_0 (E rfl rfl)) ?_
  refine AWQ.y rfl rfl (B rfl) (Yv.loadBox rfl ag_23 (i := 0) rfl (E rfl rfl) rfl) ?_
  refine AWQ.y rfl rfl (B rfl) (Yv.move rfl (E rfl rfl)) ?_
  refine AWQ.y rfl rfl (B rfl) (Yv.subN_i64 rfl (E rfl rfl) (E rfl rfl) (fun hg => by omega)) ?_
  refine AWQ.y rfl rfl (B rfl) (Yv.indexSl (j := (j - 1)) rfl ss_23 (B rfl) (E rfl rfl) (E rfl rfl) (fun hg => ⟨by omega, by rw [len_seg0]; omega⟩)) ?_
  refine AWQ.y rfl rfl (B rfl) (Yv.fieldRp rfl fo_29_0 (E rfl rfl)) ?_
  refine AWQ.y rfl rfl (B rfl) (Yv.loadRp rfl ag_22 (E rfl rfl) (fun hg => seg0_at0 (by omega))) ?_
  refine AWQ.y rfl rfl (B rfl) (Yv.subW rfl (E rfl rfl) (E rfl rfl)) ?_
  refine AWQ.y rfl rfl (B rfl) (Yv.move rfl (E rfl rfl)) ?_
  refine AWQ.y rfl rfl (B rfl) (Yv.nilChk rfl (E rfl rfl)) ?_
  refine AWQ.y rfl rfl (B rfl) (Yv.fieldBox rfl fo_102_0 (E rfl rfl)) ?_
  refine AWQ.y rfl rfl (B rfl) (Yv.loadBox rfl ag_23 (i := 0) rfl (E rfl rfl) rfl) ?_
  refine AWQ.y rfl rfl (B rfl) (Yv.move rfl (E rfl rfl)) ?_
  refine AWQ.y rfl rfl (B rfl) (Yv.subN_i64 rfl (E rfl rfl) (E rfl rfl) (fun hg => by omega)) ?_
  refine AWQ.y rfl rfl (B rfl) (Yv.indexSl (j := (j - 1)) rfl ss_23 (B rfl) (E rfl rfl) (E rfl rfl) (fun hg => ⟨by omega, by rw [len_seg0]; omega⟩)) ?_
  refine AWQ.y rfl rfl (B rfl) (Yv.fieldRp rfl fo_29_1 (E rfl rfl)) ?_
  refine AWQ.y rfl rfl (B rfl) (Yv.loadRp rfl ag_22 (E rfl rfl) (fun hg => seg0_at1 (by omega))) ?_
  refine AWQ.y rfl rfl (B rfl) (Yv.lssW rfl (E rfl rfl) (E rfl rfl)) ?_
  refine AWQ.nil ?_
  refine AW.cond rfl (fun h3t => ?_) (fun h3f => ?_)
  ·try replace h3t := of_decide_eq_true h3t
   have hno := fun q => (next_iff (hby (j - 1) j (by omega) hj)).1 q h3t
   refine AW.rseq ?_
   refine AWL.y rfl rfl (B rfl) (Yv.assign rfl (E rfl rfl)) ?_
   refine AWL.y rfl rfl (B rfl) (Yv.assign rfl (E rfl rfl)) ?_
   refine AWL.nil ?_
   refine AW.ret (retI (.tmp rfl (.tmp rfl .nil)) ?_)
   exact .inl ⟨fun q => hno ((q.perm hpm).next hby j hj1 hj), rfl⟩
  try replace h3f := of_decide_eq_false h3f
  have hnj := (next_iff (hby (j - 1) j (by omega) hj)).2 h3f
  refine AW.skip ?_
  refine AW.region ?_
  refine AWL.y rfl rfl (B rfl) (Yv.move rfl (E rfl rfl)) ?_
  refine AWL.y rfl rfl (B rfl) (Yv.addN_i64 rfl (E rfl rfl) (E rfl rfl) (fun hg => by omega)) ?_
  refine AWL.y rfl rfl (B rfl) (Yv.assign rfl (E rfl rfl)) ?_
  refine AWL.nil ?_
  exact ⟨j + 1, ⟨by omega, fun k h1 h2 => (Nat.lt_succ_iff_lt_or_eq.1 h2).elim (hnx k h1) (fun e => e ▸ hnj)⟩, by omega, (Sub.cons rfl rfl (Sub.cons rfl rfl (Sub.cons rfl rfl (Sub.cons rfl rfl (Sub.cons rfl rfl Sub.nil))))), rfl⟩
 try replace h2f := of_decide_eq_false h2f
 have hje : l.length ≤ j := by omega
 replace hnx : NextP l l.length := fun k h1 h2 => hnx k h1 (by omega)
 refine AW.exit ?_
 refine AW.seq ?_
 refine AW.rseq ?_
 refine AWL.y rfl rfl (B rfl) (Yv.move rfl (E rfl rfl)) ?_
 refine AWL.y rfl rfl (B rfl) (Yv.lenSl rfl so_23 (B rfl) (E rfl rfl) len_segC) ?_
 refine AWL.y rfl rfl (B rfl) (Yv.move rfl (E rfl rfl)) ?_
 refine AWL.nil ?_
 refine AW.block ?_
 refine AW.loop2 (fun (j : Nat) (p : List Pg) => [(0, true, .sl 4 (l0.flatMap segC)), (2, true, .v (.pointer none)), (3, true, bv false), (4, true, .v (.pointer (some ⟨b14, 0, none⟩))), (110, true, .sl 4 (l0.flatMap segC)), (111, true, zi (l0.length : Int)), (112, true, zi (j : Int))]) (fun (j : Nat) (p : List Pg) => (Ent.box b14 102 [.sl 4 (l.flatMap seg0), mapT b12] :: memE 95 b12 p)) (fun (j : Nat) (p : List Pg) => j ≤ l0.length ∧ PgOk p ∧ getM p = memN l0 j) (fun (j : Nat) (p : List Pg) => l0.length - j) 0 ([]) ?_ ?_ ?_ ?_
 ·exact ⟨Nat.zero_le _, fun j hj => absurd hj (Nat.not_lt_zero _), rfl⟩
 ·exact (Sub.cons rfl rfl (Sub.cons rfl rfl (Sub.cons rfl rfl (Sub.cons rfl rfl (Sub.cons rfl rfl (Sub.cons rfl rfl (Sub.cons rfl rfl Sub.nil)))))))
 ·rfl
 intro j p ⟨hjl, hpo, hme⟩
 refine AW.rseq ?_
 refine AWL.y rfl rfl (B rfl) (Yv.lss rfl (E rfl rfl) (E rfl rfl)) ?_
 refine AWL.nil ?_
 refine AW.seq ?_
 refine AW.cond rfl (fun h4t => ?_) (fun h4f => ?_)
 ·try replace h4t := of_decide_eq_true h4t
  have hj : j < l0.length := by omega
  have hdj := hd _ (mem_getD.2 ⟨j, hj, rfl⟩)
  refine AW.skip ?_
  refine AW.seq ?_
  refine AW.block ?_
  refine AW.rseq ?_
  refine AWL.y rfl rfl (B rfl) (Yv.indexSl rfl ss_23 (B rfl) (E rfl rfl) (E rfl rfl) (fun hg => ⟨rfl, (by first | omega | (simp only [len_segC, len_seg0, len_u8t]; omega))⟩)) ?_
  refine AWL.y rfl rfl (B rfl) (Yv.loadRpA rfl ag_29 (E rfl rfl) (fun hg => ⟨segC_get hj, rfl⟩)) ?_
  refine AWL.allocOp rfl rfl (B rfl) rfl zc_29 (fun b9 => ?_)
  refine AWL.perm (List.perm_append_singleton _ _).symm ?_
  refine AWL.storeBox (i := 0) rfl rfl rfl ag_29 rfl (E rfl rfl) (E rfl rfl) rfl rfl (Nat.le_of_ble_eq_true rfl) ?_
  refine AWL.nil ?_
  refine AW.rseq ?_
  refine AWL.y rfl rfl (B rfl) (Yv.fieldBox rfl fo_29_3 (E rfl rfl)) ?_
  refine AWL.y rfl rfl (B rfl) (Yv.loadBox rfl ag_27 (i := 0) rfl (E rfl rfl) rfl) ?_
  refine AWL.y rfl rfl (B rfl) (Yv.lenSl rfl so_27 (B rfl) (E rfl rfl) len_u8t) ?_
  refine AWL.y rfl rfl (B rfl) (Yv.move rfl (E rfl rfl)) ?_
  refine AWL.nil ?_
  refine AW.block ?_
  refine AW.loop2 (fun (k : Nat) (p : List Pg) => [(0, true, .sl 4 (l0.flatMap segC)), (2, true, .v (.pointer none)), (3, true, bv false), (4, true, .v (.pointer (some ⟨b14, 0, none⟩))), (9, true, .v (.pointer (some ⟨b9, 0, none⟩))), (110, true, .sl 4 (l0.flatMap segC)), (111, true, zi (l0.length : Int)), (112, true, zi (j : Int)), (117, true, .sl 1 ((l0.getD j default).data.map u8)), (118, true, zi ((l0.getD j default).data.length : Int)), (119, true, zi (k : Int))]) (fun (k : Nat) (p : List Pg) => (Ent.box b9 29 (segC (l0.getD j default)) :: (Ent.box b14 102 [.sl 4 (l.flatMap seg0), mapT b12] :: memE 95 b12 p))) (fun (k : Nat) (p : List Pg) => k ≤ (l0.getD j default).data.length ∧ PgOk p ∧ getM p = putN (memN l0 j) (l0.getD j default).a (l0.getD j default).data k) (fun (k : Nat) (p : List Pg) => (l0.getD j default).data.length - k) 0 p ?_ ?_ ?_ ?_
  ·exact ⟨Nat.zero_le _, hpo, hme⟩
  ·exact (Sub.cons rfl rfl (Sub.cons rfl rfl (Sub.cons rfl rfl (Sub.cons rfl rfl (Sub.cons rfl rfl (Sub.cons rfl rfl (Sub.cons rfl rfl (Sub.cons rfl rfl (Sub.cons rfl rfl (Sub.cons rfl rfl (Sub.cons rfl rfl Sub.nil)))))))))))
  ·rfl
  intro k p ⟨hkl, hpo, hme⟩
  refine AW.rseq ?_
  refine AWL.y rfl rfl (B rfl) (Yv.lss rfl (E rfl rfl) (E rfl rfl)) ?_
  refine AWL.nil ?_
  refine AW.seq ?_
  refine AW.cond rfl (fun h5t => ?_) (fun h5f => ?_)
  ·try replace h5t := of_decide_eq_true h5t
   have hk : k < (l0.getD j default).data.length := by omega
   refine AW.skip ?_
   refine AW.seq ?_
   refine AW.block ?_
   refine AW.rseq ?_
   refine AWL.y rfl rfl (B rfl) (Yv.move rfl (E rfl rfl)) ?_
   refine AWL.y rfl rfl (B rfl) (Yv.indexSl rfl ss_27 (B rfl) (E rfl rfl) (E rfl rfl) (fun hg => ⟨rfl, (by first | omega | (simp only [len_segC, len_seg0, len_u8t]; omega))⟩)) ?_
   refine AWL.y rfl rfl (B rfl) (Yv.loadRp rfl ag_5 (E rfl rfl) (fun hg => u8_gett hk)) ?_
   refine AWL.y rfl rfl (B rfl) (Yv.assign rfl (E rfl rfl)) ?_
   refine AWL.y rfl rfl (B rfl) (Yv.assign rfl (E rfl rfl)) ?_
   refine AWL.nil ?_
   refine AW.region ?_
   refine AWL.y rfl rfl (B rfl) (Yv.move rfl (E rfl rfl)) ?_
   refine AWL.y rfl rfl (B rfl) (Yv.fieldBox rfl fo_29_0 (E rfl rfl)) ?_
   refine AWL.y rfl rfl (B rfl) (Yv.loadBox rfl ag_22 (i := 0) rfl (E rfl rfl) rfl) ?_
   refine AWL.y rfl rfl (B rfl) (Yv.move rfl (E rfl rfl)) ?_
   refine AWL.y rfl rfl (B rfl) (Yv.convW rfl Tryz.underlying3 kd_22 (E rfl rfl)) ?_
   refine AWL.y rfl rfl (B rfl) (Yv.addW rfl (E rfl rfl) (E rfl rfl)) ?_
   refine AWL.y rfl rfl (B rfl) (Yv.move rfl (E rfl rfl)) ?_
   refine AWL.callE rfl rfl (B rfl) rfl ce_32 (E rfl rfl) (evsC (E rfl rfl) (evsC (E rfl rfl) (evsC (E rfl rfl) evs0))) (F1 := [Ent.box b9 29 (segC (l0.getD j default))]) (S1 := (Ent.box b14 102 [.sl 4 (l.flatMap seg0), mapT b12] :: memE 95 b12 p)) rfl (put32 b14 b12 (.sl 4 (l.flatMap seg0)) p hpo _ _) ?_
   rintro t131 S131 ⟨rfl, p2, rfl, hpo2, hm2⟩
   refine AWL.nil ?_
   refine AW.region ?_
   refine AWL.y rfl rfl (B rfl) (Yv.addN_i64 rfl (E rfl rfl) (E rfl rfl) (fun hg => by omega)) ?_
   refine AWL.y rfl rfl (B rfl) (Yv.move rfl (E rfl rfl)) ?_
   refine AWL.nil ?_
   exact ⟨k + 1, p2, ⟨by omega, hpo2, hm2.trans (by rw [hme]; rfl)⟩, by omega, (Sub.cons rfl rfl (Sub.cons rfl rfl (Sub.cons rfl rfl (Sub.cons rfl rfl (Sub.cons rfl rfl (Sub.cons rfl rfl (Sub.cons rfl rfl (Sub.cons rfl rfl (Sub.cons rfl rfl (Sub.cons rfl rfl (Sub.cons rfl rfl Sub.nil))))))))))), rfl⟩
  try replace h5f := of_decide_eq_false h5f
  obtain rfl : k = (l0.getD j default).data.length := by omega
  refine AW.exit ?_
  refine AW.dropAt 0 ?_
  refine AW.region ?_
  refine AWL.y rfl rfl (B rfl) (Yv.addN_i64 rfl (E rfl rfl) (E rfl rfl) (fun hg => by omega)) ?_
  refine AWL.y rfl rfl (B rfl) (Yv.move rfl (E rfl rfl)) ?_
  refine AWL.nil ?_
  exact ⟨j + 1, p, ⟨by omega, hpo, hme⟩, by omega, (Sub.cons rfl rfl (Sub.cons rfl rfl (Sub.cons rfl rfl (Sub.cons rfl rfl (Sub.cons rfl rfl (Sub.cons rfl rfl (Sub.cons rfl rfl Sub.nil))))))), rfl⟩
 try replace h4f := of_decide_eq_false h4f
 obtain rfl : j = l0.length := by omega
 refine AW.exit ?_
 refine AW.rseq ?_
 refine AWL.y rfl rfl (B rfl) (Yv.move rfl (E rfl rfl)) ?_
 refine AWL.y rfl rfl (B rfl) (Yv.assign rfl (E rfl rfl)) ?_
 refine AWL.y rfl rfl (B rfl) (Yv.assign rfl (E rfl rfl)) ?_
 refine AWL.nil ?_
 refine AW.ret (retI (.tmp rfl (.tmp rfl .nil)) ?_)
 have hsr : Srt l := Srt.of_next (ok_all.2 fun s hs => ok_all.1 hoks s (hpm.mem_iff.1 hs)) hnx
 exact .inr ⟨(Srt.may (ok_all.2 fun s hs => ok_all.1 hoks s (hpm.mem_iff.1 hs)) hsr).perm hpm.symm, b14, b12, l, p, hpm, hsr, hpo, hme, rfl, rfl⟩

end Go.Proofs.YtecpjlhbkmongaaGreat.M
