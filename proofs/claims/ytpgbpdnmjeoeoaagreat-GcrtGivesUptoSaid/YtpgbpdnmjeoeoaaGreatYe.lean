/-
  TEXTS JOINED: Wm, Wk23, Wk24, Za, Zk1, Zk2, VFacts, VPlain, VSay, VFile, VOpenF, VNew, VPw, VDs, VWk13, VDl, VWk14, VDo, VDf, VDn.
-/
import Derived.Test.YtpgbpdnmjeoeoaaGreatRows
import Derived.Test.YtpgbpdnmjeoeoaaGreatYd
set_option linter.unusedSimpArgs false
set_option linter.unusedVariables false
set_option linter.unusedSectionVars false
set_option linter.unnecessarySimpa false
namespace Go.Proofs.YtpgbpdnmjeoeoaaGreat
open Go Go.RowKit
structure Pg where
 n : Wd64
 b : Nat
 bs : List UInt8
deriving Inhabited
def wk (n : Wd64) : Key := .i .u64 (n.toNat : Int)
theorem wk_inj {n m : Wd64} (h : wk n = wk m) : n = m := by
 unfold wk at h
 injection h with _ h
 exact BitVec.eq_of_toNat_eq (by omega)
def pgT (l : List Pg) : List (Key × T) := l.map fun p => (wk p.n, .v (.pointer (some ⟨p.b, 0, none⟩)))
def pgI (n : Wd64) : List Pg → Option Nat
 | [] => none
 | p :: r => if p.n = n then some 0 else (pgI n r).map (· + 1)
theorem pgI_lt {n : Wd64} : ∀ {l : List Pg} {j : Nat}, pgI n l = some j → j < l.length ∧ (l.getD j default).n = n
 | [], j, h => by cases h
 | p :: r, j, h => by
  rw [pgI] at h
  split at h
  ·rename_i he
   cases h
   exact ⟨by simp, he⟩
  ·cases hq : pgI n r with
   | none => rw [hq] at h; cases h
   | some q =>
    rw [hq] at h
    simp only [Option.map_some, Option.some.injEq] at h
    subst h
    have := pgI_lt hq
    exact ⟨by simp only [List.length_cons]; omega, this.2⟩
theorem getK_pg (n : Wd64) : ∀ l : List Pg, getK (wk n) (pgT l) = (pgI n l).map fun j => .v (.pointer (some ⟨(l.getD j default).b, 0, none⟩))
 | [] => rfl
 | p :: r => by
  show getK (wk n) ((wk p.n, _) :: pgT r) = _
  rw [getK, pgI]
  by_cases h : p.n = n
  ·rw [if_pos (by rw [h]), if_pos h]; rfl
  ·rw [if_neg (fun e => h (wk_inj e)), if_neg h, getK_pg n r]
   cases pgI n r <;> rfl
theorem putK_pg (n : Wd64) (b : Nat) (bs : List UInt8) : ∀ l : List Pg, pgI n l = none → putK (wk n) (.v (.pointer (some ⟨b, 0, none⟩))) (pgT l) = pgT (l ++ [⟨n, b, bs⟩])
 | [], _ => rfl
 | p :: r, h => by
  rw [pgI] at h
  split at h
  ·cases h
  ·rename_i he
   have h' : pgI n r = none := by
    cases hq : pgI n r with
    | none => rfl
    | some q => rw [hq] at h; cases h
   show putK (wk n) _ ((wk p.n, _) :: pgT r) = _
   rw [putK, if_neg (fun e => he (wk_inj e)), putK_pg n b bs r h']
   rfl
theorem good_pg (l : List Pg) : ∀ e ∈ pgT l, goodK (.int .u64) e.1 = true := fun e he => by
 obtain ⟨p, _, rfl⟩ := List.mem_map.1 he
 rfl
def pgE (ty : TypeId) (l : List Pg) : St := l.map fun p => .box p.b ty (p.bs.map u8)
theorem pgE_at {ty : TypeId} {l : List Pg} {j : Nat} (h : j < l.length) : (pgE ty l)[j]? = some (.box (l.getD j default).b ty ((l.getD j default).bs.map u8)) := by
 rw [pgE, List.getElem?_map, List.getElem?_eq_getElem h, gd h]; rfl
theorem pgE_app (ty : TypeId) (l l' : List Pg) : pgE ty (l ++ l') = pgE ty l ++ pgE ty l' := List.map_append
def pgSet (l : List Pg) (j : Nat) (k : Nat) (x : UInt8) : List Pg := l.set j { l.getD j default with bs := (l.getD j default).bs.set k x }
theorem pgT_set {l : List Pg} {j : Nat} (h : j < l.length) (k : Nat) (x : UInt8) : pgT (pgSet l j k x) = pgT l := by
 unfold pgT pgSet
 apply List.ext_getElem?
 intro i
 rw [List.getElem?_map, List.getElem?_map, List.getElem?_set]
 split
 ·rename_i e
  subst e
  rw [List.getElem?_eq_getElem h, gd h]; rfl
 rfl
theorem pgE_set {ty : TypeId} {l : List Pg} {j : Nat} (h : j < l.length) (k : Nat) (x : UInt8) : (pgE ty l).set j (.box (l.getD j default).b ty (((l.getD j default).bs.map u8).set k (u8 x))) = pgE ty (pgSet l j k x) := by
 unfold pgE pgSet
 rw [← List.map_set, List.map_set (f := fun p : Pg => Ent.box p.b ty (p.bs.map u8))]
theorem pgI_set (n : Wd64) {l : List Pg} {j : Nat} (h : j < l.length) (k : Nat) (x : UInt8) : pgI n (pgSet l j k x) = pgI n l := by
 induction l generalizing j with
 | nil => exact absurd h (Nat.not_lt_zero j)
 | cons p r ih =>
  cases j with
  | zero => rfl
  | succ j =>
   have e : pgSet (p :: r) (j + 1) k x = p :: pgSet r j k x := rfl
   rw [e, pgI, pgI, ih (Nat.lt_of_succ_lt_succ h)]
theorem pgI_app (n : Wd64) (l : List Pg) (p : Pg) : pgI n (l ++ [p]) = match pgI n l with | some j => some j | none => if p.n = n then some l.length else none := by
 induction l with
 | nil => simp only [List.nil_append, pgI]; split <;> rfl
 | cons q r ih =>
  rw [List.cons_append, pgI, pgI, ih]
  by_cases h : q.n = n
  ·rw [if_pos h, if_pos h]
  ·rw [if_neg h, if_neg h]
   cases pgI n r with
   | some j => rfl
   | none =>
    by_cases hp : p.n = n
    ·simp only [if_pos hp, Option.map_none, Option.map_some, List.length_cons]
    ·simp only [if_neg hp, Option.map_none]
abbrev Mf := Wd64 → UInt8
def getM (l : List Pg) : Mf := fun at_ => match pgI (at_ / 4096#64) l with | some j => (l.getD j default).bs.getD (at_ % 4096#64).toNat 0 | none => 0
def updM (m : Mf) (a : Wd64) (x : UInt8) : Mf := fun z => if z = a then x else m z
def PgOk (l : List Pg) : Prop := ∀ j, j < l.length → (l.getD j default).bs.length = 4096
theorem PgOk.set {l : List Pg} (h : PgOk l) (j k : Nat) (x : UInt8) : PgOk (pgSet l j k x) := by
 intro i hi
 unfold pgSet at hi ⊢
 rw [List.length_set] at hi
 rw [List.getD_eq_getElem?_getD, List.getElem?_set]
 split
 ·rename_i e
  subst e
  rw [if_pos hi]
  show ((l.getD j default).bs.set k x).length = 4096
  rw [List.length_set]; exact h j hi
 rw [← List.getD_eq_getElem?_getD]; exact h i hi
theorem PgOk.app {l : List Pg} (h : PgOk l) {p : Pg} (hp : p.bs.length = 4096) : PgOk (l ++ [p]) := by
 intro i hi
 rw [List.length_append, List.length_singleton] at hi
 rw [List.getD_eq_getElem?_getD]
 rcases Nat.lt_or_ge i l.length with h1 | h1
 ·rw [List.getElem?_append_left h1, ← List.getD_eq_getElem?_getD]; exact h i h1
 rw [List.getElem?_append_right h1, show i - l.length = 0 by omega]; exact hp
theorem lt4096 (a : Wd64) : (a % 4096#64).toNat < 4096 := by
 rw [BitVec.toNat_umod]; exact Nat.mod_lt _ (by decide)
theorem split_eq {a z : Wd64} (h1 : z / 4096#64 = a / 4096#64) (h2 : (z % 4096#64).toNat = (a % 4096#64).toNat) : z = a := by
 apply BitVec.eq_of_toNat_eq
 have e1 := congrArg BitVec.toNat h1
 rw [BitVec.toNat_udiv, BitVec.toNat_udiv] at e1
 rw [BitVec.toNat_umod, BitVec.toNat_umod] at h2
 have n4 : (4096#64 : Wd64).toNat = 4096 := rfl
 rw [n4] at e1 h2
 have := Nat.div_add_mod z.toNat 4096
 have := Nat.div_add_mod a.toNat 4096
 omega
theorem get_set {l : List Pg} {a : Wd64} {j : Nat} (hj : pgI (a / 4096#64) l = some j) (hl : PgOk l) (x : UInt8) : getM (pgSet l j (a % 4096#64).toNat x) = updM (getM l) a x := by
 obtain ⟨hlt, hn⟩ := pgI_lt hj
 have hlen := hl j hlt
 funext z
 unfold getM updM
 rw [pgI_set _ hlt]
 by_cases hz : z = a
 ·subst hz
  rw [if_pos rfl, hj]
  show ((pgSet l j _ x).getD j default).bs.getD _ 0 = x
  unfold pgSet
  rw [List.getD_eq_getElem?_getD (l := l.set j _), List.getElem?_set_self hlt]
  show ((l.getD j default).bs.set _ x).getD _ 0 = x
  rw [List.getD_eq_getElem?_getD, List.getElem?_set_self (by rw [hlen]; exact lt4096 z)]; rfl
 rw [if_neg hz]
 cases hq : pgI (z / 4096#64) l with
 | none => simp only [hq]
 | some i =>
  simp only [hq]
  obtain ⟨hi, hin⟩ := pgI_lt hq
  show ((pgSet l j _ x).getD i default).bs.getD _ 0 = (l.getD i default).bs.getD _ 0
  unfold pgSet
  rw [List.getD_eq_getElem?_getD (l := l.set j _), List.getElem?_set]
  split
  ·rename_i e
   subst e
   show ((l.getD j default).bs.set _ x).getD _ 0 = _
   rw [List.getD_eq_getElem?_getD, List.getElem?_set_ne, ← List.getD_eq_getElem?_getD]
   intro e2
   exact hz (split_eq (hin.symm.trans hn) e2.symm)
  ·rw [← List.getD_eq_getElem?_getD]
def zeros4 : List UInt8 := List.replicate 4096 0
theorem get_new {l : List Pg} {a : Wd64} (b : Nat) (hj : pgI (a / 4096#64) l = none) : getM (l ++ [⟨a / 4096#64, b, zeros4⟩]) = getM l := by
 funext z
 unfold getM
 rw [pgI_app]
 cases hq : pgI (z / 4096#64) l with
 | some j =>
  have := (pgI_lt hq).1
  show ((l ++ [_]).getD j default).bs.getD _ 0 = (l.getD j default).bs.getD _ 0
  rw [List.getD_eq_getElem?_getD (l := l ++ _), List.getElem?_append_left this, ← List.getD_eq_getElem?_getD]
 | none =>
  by_cases h : a / 4096#64 = z / 4096#64
  ·simp only [if_pos h]
   rw [List.getD_eq_getElem?_getD (l := l ++ _), List.getElem?_append_right (Nat.le_refl _), Nat.sub_self]
   show zeros4.getD _ 0 = 0
   unfold zeros4
   rw [List.getD_eq_getElem?_getD, List.getElem?_replicate]
   split <;> rfl
  ·simp only [if_neg h]
theorem new_I {l : List Pg} {a : Wd64} (b : Nat) (hj : pgI (a / 4096#64) l = none) : pgI (a / 4096#64) (l ++ [⟨a / 4096#64, b, zeros4⟩]) = some l.length := by
 rw [pgI_app, hj]; simp
def memE (ty : TypeId) (pg : Nat) (l : List Pg) : St := .map pg (pgT l) :: pgE ty l
def bw (x : UInt8) : Wd64 := wI (x.toNat : Int)
def lowB (x : Wd64) : UInt8 := UInt8.ofNat x.toNat
def leF (m : Mf) (a : Wd64) : Nat → Wd64
 | 0 => 0#64
 | n + 1 => leF m a n ||| (bw (m (a + wI (n : Int))) <<< (8 * n))
def putsF (m : Mf) (a x : Wd64) : Nat → Mf
 | 0 => m
 | n + 1 => updM (putsF m a x n) (a + wI (n : Int)) (lowB (x >>> (8 * n)))
theorem low_u8 (x : Wd64) : T.v (.int .u8 (IntKind.u8.wrap (x.toNat : Int))) = u8 (lowB x) := by
 unfold u8 lowB
 congr 2
def inF (at_ n base size : Wd64) : Bool := (decide (base ≤ at_) && decide (at_ - base ≤ size)) && decide (n ≤ size - (at_ - base))
def thereF (data heap at_ n : Wd64) : Bool := inF at_ n 268435456#64 data || inF at_ n 1073741824#64 heap
def sizeOk (z : Int) : Bool := decide (z = 1) || decide (z = 4) || decide (z = 8)
def psData (p : Prog) : Wd64 := wI ((p.data.length : Int) + p.zero)
end Go.Proofs.YtpgbpdnmjeoeoaaGreat

namespace Go.Proofs.YtpgbpdnmjeoeoaaGreat
open Go Go.RowKit

def pgP (n : Wd64) (l : List Pg) : Option Addr := (pgI n l).map fun j => ⟨(l.getD j default).b, 0, none⟩
theorem lk_pg (n : Wd64) (l : List Pg) : (getK (wk n) (pgT l)).getD (.v (.pointer none)) = .v (.pointer (pgP n l)) := by
 rw [getK_pg, pgP]
 cases pgI n l <;> rfl
theorem pgP_none {n : Wd64} {l : List Pg} (h : (pgP n l).isNone = true) : pgI n l = none := by
 unfold pgP at h
 cases hq : pgI n l with
 | none => rfl
 | some j => rw [hq] at h; cases h
theorem pgP_ne {n : Wd64} {l : List Pg} (h : (pgP n l).isNone = false) : ∃ j, pgI n l = some j := by
 unfold pgP at h
 cases hq : pgI n l with
 | none => rw [hq] at h; cases h
 | some j => exact ⟨j, rfl⟩
theorem pgP_some {n : Wd64} {l : List Pg} {j : Nat} (h : pgI n l = some j) : pgP n l = some ⟨(l.getD j default).b, 0, none⟩ := by rw [pgP, h]; rfl
theorem new_b {l : List Pg} {p : Pg} : ((l ++ [p]).getD l.length default) = p := by
 rw [List.getD_eq_getElem?_getD, List.getElem?_append_right (Nat.le_refl _), Nat.sub_self]; rfl
theorem zeros_len : zeros4.length = 4096 := by unfold zeros4; exact List.length_replicate ..
theorem set_take {l : List T} {p : Nat} {r : T} (h : p < l.length) : l.take p ++ [r] ++ l.drop (p + 1) = l.set p r := by
 rw [List.set_eq_take_append_cons_drop, if_pos h, List.append_assoc]; rfl
theorem byte_at {l : List Pg} {j : Nat} {a : Wd64} (h : pgI (a / 4096#64) l = some j) (hl : PgOk l) : ((l.getD j default).bs.map u8)[0 + (a % 4096#64).toNat * 1]? = some (u8 (getM l a)) := by
 have hj := (pgI_lt h).1
 rw [Nat.zero_add, Nat.mul_one, List.getElem?_map, List.getElem?_eq_getElem (by rw [hl j hj]; exact lt4096 a)]
 unfold getM
 rw [h]
 show some (u8 _) = some (u8 ((l.getD j default).bs.getD _ 0))
 rw [List.getD_eq_getElem?_getD (l := (l.getD j default).bs), List.getElem?_eq_getElem (by rw [hl j hj]; exact lt4096 a)]; rfl
theorem byte_none {l : List Pg} {a : Wd64} (h : pgI (a / 4096#64) l = none) : getM l a = 0 := by
 unfold getM; rw [h]

end Go.Proofs.YtpgbpdnmjeoeoaaGreat

namespace Go.Proofs.YtpgbpdnmjeoeoaaGreat
open Go Go.RowKit

theorem size_in {z : Int} (h : sizeOk z = true) : z = 1 ∨ z = 4 ∨ z = 8 := by
 unfold sizeOk at h
 simp only [Bool.or_eq_true, decide_eq_true_eq] at h
 omega

end Go.Proofs.YtpgbpdnmjeoeoaaGreat

namespace Go.Proofs.YtpgbpdnmjeoeoaaGreat
open Go Go.RowKit
def psD (x : PS) (o : Bool) (cl : T) : List T := psC x cl ++ [bv o]
theorem mul256 (x : Wd64) : 256#64 * x = x <<< 8 := by
 apply BitVec.eq_of_toNat_eq
 rw [BitVec.toNat_mul, BitVec.toNat_shiftLeft, Nat.shiftLeft_eq]
 show 256 * x.toNat % _ = x.toNat * 2 ^ 8 % _
 rw [Nat.mul_comm]
theorem bw_nat (b : UInt8) : (bw b).toNat = b.toNat := by
 have h := b.toNat_lt
 have h2 := wI_nat (b.toNat : Int)
 rw [wrap_u64] at h2
 unfold bw
 omega
theorem bw_bit (b : UInt8) {i : Nat} (h : 8 ≤ i) : (bw b).getLsbD i = false := by
 rw [← BitVec.testBit_toNat, bw_nat]
 refine Nat.testBit_lt_two_pow (Nat.lt_of_lt_of_le b.toNat_lt ?_)
 exact Nat.pow_le_pow_right (by decide) h
theorem add_byte (x : Wd64) (b : UInt8) : x <<< 8 + bw b = (x <<< 8) ||| bw b := by
 refine BitVec.add_eq_or_of_and_eq_zero _ _ ?_
 apply BitVec.eq_of_getLsbD_eq
 intro i hi
 rw [BitVec.getLsbD_and, BitVec.getLsbD_zero]
 by_cases h : 8 ≤ i
 ·rw [bw_bit b h, Bool.and_false]
 rw [BitVec.getLsbD_shiftLeft]
 simp [show i < 8 by omega]
def hlF (m : Mf) (a : Wd64) (z : Nat) : Nat → Wd64
 | 0 => 0#64
 | j + 1 => 256#64 * hlF m a z j + bw (m (a + wI ((z - (j + 1) : Nat) : Int)))
theorem hl_le (m : Mf) (a : Wd64) (z : Nat) : ∀ j, j ≤ z → leF m a z = leF m a (z - j) ||| (hlF m a z j <<< (8 * (z - j)))
 | 0, _ => by rw [hlF, BitVec.zero_shiftLeft, BitVec.or_zero]; rfl
 | j + 1, h => by
  rw [hl_le m a z j (by omega), show z - j = (z - (j + 1)) + 1 by omega, leF, hlF, mul256, add_byte, BitVec.shiftLeft_or_distrib, ← BitVec.shiftLeft_add, show 8 + 8 * (z - (j + 1)) = 8 * (z - (j + 1) + 1) by omega, BitVec.or_assoc]
  congr 1
  exact BitVec.or_comm _ _
theorem hl_all (m : Mf) (a : Wd64) (z : Nat) : hlF m a z z = leF m a z := by
 have h := hl_le m a z z (Nat.le_refl z)
 rw [Nat.sub_self, leF] at h
 rw [h]
 simp
theorem div256 (x : Wd64) (k : Nat) : (x >>> (8 * k)) / 256#64 = x >>> (8 * (k + 1)) := by
 apply BitVec.eq_of_toNat_eq
 rw [BitVec.toNat_udiv, BitVec.toNat_ushiftRight, BitVec.toNat_ushiftRight, Nat.shiftRight_eq_div_pow, Nat.shiftRight_eq_div_pow, Nat.div_div_eq_div_mul]
 show x.toNat / (2 ^ (8 * k) * 2 ^ 8) = _
 rw [← Nat.pow_add]
 rfl
theorem mod_low (x : Wd64) : lowB (x % 256#64) = lowB x := by
 unfold lowB
 apply UInt8.toNat_inj.1
 rw [UInt8.toNat_ofNat', UInt8.toNat_ofNat', BitVec.toNat_umod]
 show x.toNat % 256 % 256 = x.toNat % 256
 omega
theorem pgE_new' (ty : TypeId) (n : Wd64) (b : Nat) : pgE ty [⟨n, b, zeros4⟩] = [Ent.box b ty (List.replicate 4096 (u8 0))] := by
 unfold pgE zeros4
 simp only [List.map_cons, List.map_nil, List.map_replicate]
theorem mem_new' {ty : TypeId} {X : Ent} {pg : Nat} {l : List Pg} {n : Wd64} {b : Nat} (h : pgI n l = none) : (((X :: memE ty pg l) ++ [Ent.box b ty (List.replicate 4096 (u8 0))]).set 1 (Ent.map pg (putK (wk n) (.v (.pointer (some ⟨b, 0, none⟩))) (pgT l)))) = X :: memE ty pg (l ++ [⟨n, b, zeros4⟩]) := by
 rw [putK_pg n b zeros4 l h]
 show X :: Ent.map pg (pgT (l ++ [⟨n, b, zeros4⟩])) :: (pgE ty l ++ [Ent.box b ty (List.replicate 4096 (u8 0))]) = X :: Ent.map pg (pgT (l ++ [⟨n, b, zeros4⟩])) :: pgE ty (l ++ [⟨n, b, zeros4⟩])
 rw [pgE_app, pgE_new']
theorem mem_put' {ty : TypeId} {X : Ent} {pg : Nat} {l : List Pg} {j : Nat} {a : Wd64} {x : UInt8} (h : j < l.length) (hl : (l.getD j default).bs.length = 4096) : ((X :: memE ty pg l).set (j + 2) (Ent.box (l.getD j default).b ty (((l.getD j default).bs.map u8).take (0 + 0 + (a % 4096#64).toNat * 1) ++ cellsT (u8 x) ++ ((l.getD j default).bs.map u8).drop (0 + 0 + (a % 4096#64).toNat * 1 + 1)))) = X :: memE ty pg (pgSet l j (a % 4096#64).toNat x) := by
 rw [Nat.zero_add, Nat.mul_one]
 show X :: Ent.map pg (pgT l) :: (pgE ty l).set j _ = X :: Ent.map pg (pgT (pgSet l j _ x)) :: pgE ty (pgSet l j _ x)
 rw [pgT_set h, ← pgE_set h, show cellsT (u8 x) = [u8 x] from rfl, set_take (by rw [List.length_map, hl]; exact lt4096 a)]
theorem byte_at' {l : List Pg} {j : Nat} {a : Wd64} (h : pgI (a / 4096#64) l = some j) (hl : PgOk l) : ((l.getD j default).bs.map u8)[0 + 0 + (a % 4096#64).toNat * 1]? = some (u8 (getM l a)) := by
 rw [Nat.add_zero]
 exact byte_at h hl
end Go.Proofs.YtpgbpdnmjeoeoaaGreat

namespace Go.Proofs.YtpgbpdnmjeoeoaaGreat
open Go Go.RowKit

theorem zero_pageD : builtOf Tryz.prog 121 [] = some (List.replicate 4096 (u8 0)) := by kernel_rfl
set_option maxHeartbeats 4000000 in
theorem Dput46 (s pg : Nat) (ps : PS) (ob : Bool) (cl : T) (l : List Pg) (hpg : ps.pages = mapT pg) (hl : PgOk l) (a : Wd64) (x : UInt8) :
    ACalls Tryz.prog 29 [pv s, zw a, u8 x] (Ent.box s 75 (psD ps ob cl) :: memE 121 pg l) (fun t S => t = .tup [] ∧ ∃ l', S = (Ent.box s 75 (psD ps ob cl) :: memE 121 pg l') ∧ PgOk l' ∧ getM l' = updM (getM l) a x) := by
 obtain ⟨prog, lab, heap, strict, w, pages, ent, st, ans, code, steps⟩ := ps
 obtain rfl : pages = mapT pg := hpg
 refine ACalls.intro Tryz.func29 rfl Tryz.ntmps29 nB rfl fun X w0 => ?_
 refine rs (ym ?_)
 refine Y1 (Yv.nilChk rfl eV) ?_
 refine yf fo_75_5 ?_
 refine yl ag_72 0 ?_
 refine ym ?_
 refine Y1 (Yv.quoW (b := 4096#64) rfl (E rfl rfl) (E rfl rfl) (by decide)) ?_
 refine Y1 (Yv.eqT (Yv.lookup1 (k := wk (a / 4096#64)) (i := 1) rfl mp_72 rfl eV eV rfl (good_pg l)) (lk_pg _ _)) ?_
 refine ya ?_
 refine AW.mid (α := List Pg × Nat) (fun y => [(0, true, pv s), (1, true, zw a), (2, true, u8 x), (6, true, .v (.pointer (some ⟨(y.1.getD y.2 default).b, 0, none⟩)))]) (fun y => (Ent.box s 75 (psD ⟨prog, lab, heap, strict, w, mapT pg, ent, st, ans, code, steps⟩ ob cl) :: memE 121 pg y.1)) (fun y => pgI (a / 4096#64) y.1 = some y.2 ∧ PgOk y.1 ∧ getM y.1 = getM l) ?_ ?_
 ·refine rs (ym ?_)
  refine Y1 (Yv.eqlNilP rfl pn_118 eV) (nl ?_)
  refine AW.cond rfl (fun h0t => ?_) (fun h0f => ?_)
  ·try replace h0t := odt h0t
   have hq := pgP_none h0t
   refine rs (Y1 (Yv.build (cs := List.replicate 4096 (u8 0)) rfl evp0 (fun _ => zero_pageD)) ?_)
   refine AWL.boxOp rfl rfl (B rfl) rfl (E rfl rfl) rfl (fun b17 => ?_)
   refine ya ?_
   refine AW.region ?_
   refine ym ?_
   refine Y1 (Yv.nilChk rfl eV) ?_
   refine yf fo_75_5 ?_
   refine yl ag_72 0 ?_
   refine ym ?_
   refine Y1 (Yv.quoW (b := 4096#64) rfl (E rfl rfl) (E rfl rfl) (by decide)) ?_
   refine ym ?_
   refine AWL.mapUpd (k := wk (a / 4096#64)) (i := 1) rfl rfl (.inl rfl) mp_72 rfl (E rfl rfl) (E rfl rfl) (E rfl rfl) rfl rfl (good_pg l) (nl ?_)
   refine ⟨(l ++ [⟨a / 4096#64, b17, zeros4⟩], l.length), ⟨new_I b17 hq, hl.app zeros_len, get_new b17 hq⟩, (su (su (su (Sub.cons rfl (by rw [new_b]) Sub.nil)))), mem_new' hq⟩
  try replace h0f := odf h0f
  obtain ⟨j, hq⟩ := pgP_ne h0f
  refine AW.skip ?_
  refine ⟨(l, j), ⟨hq, hl, rfl⟩, (su (su (su (Sub.cons rfl (by rw [pgP_some hq]) Sub.nil)))), rfl⟩
 rintro ⟨l2, j⟩ ⟨h1, h2, h3⟩
 dsimp only at h1 h2 h3
 have hj := pgI_lt h1
 refine AW.region ?_
 refine ym ?_
 refine ym ?_
 refine Y1 (Yv.remW (b := 4096#64) rfl (E rfl rfl) (E rfl rfl) (by decide)) ?_
 refine ym ?_
 refine Y1 (Yv.nilChk rfl eV) ?_
 refine yf fo_121_0 ?_
 refine Y1 (Yv.indexArr (j := (a % 4096#64).toNat) rfl ar_119 eV eV (fun hg => ⟨rfl, lt4096 a⟩)) ?_
 refine AWL.storeBox (i := j + 2) rfl rfl rfl ag_5 (pgE_at (l := l2) hj.1) (E rfl rfl) (E rfl rfl) rfl rfl (by rw [List.length_map, h2 _ hj.1]; have := lt4096 a; omega) (nl ?_)
 refine retN .nil ?_
 exact ⟨rfl, _, mem_put' hj.1 (h2 _ hj.1), h2.set _ _ _, (get_set h1 h2 x).trans (by rw [h3])⟩

set_option maxHeartbeats 2000000 in
theorem Dget48 (s pg : Nat) (ps : PS) (ob : Bool) (cl : T) (l : List Pg) (hpg : ps.pages = mapT pg) (hl : PgOk l) (a : Wd64) :
    ACalls Tryz.prog 44 [pv s, zw a] (Ent.box s 75 (psD ps ob cl) :: memE 121 pg l) (fun t S => t = u8 (getM l a) ∧ S = (Ent.box s 75 (psD ps ob cl) :: memE 121 pg l)) := by
 obtain ⟨prog, lab, heap, strict, w, pages, ent, st, ans, code, steps⟩ := ps
 obtain rfl : pages = mapT pg := hpg
 refine ACalls.intro Tryz.func44 rfl Tryz.ntmps44 nB rfl fun X w0 => ?_
 refine ra ?_
 refine rs (ym ?_)
 refine Y1 (Yv.nilChk rfl eV) ?_
 refine yf fo_75_5 ?_
 refine yl ag_72 0 ?_
 refine ym ?_
 refine Y1 (Yv.quoW (b := 4096#64) rfl (E rfl rfl) (E rfl rfl) (by decide)) ?_
 refine Y1 (Yv.eqT (Yv.lookup1 (k := wk (a / 4096#64)) (i := 1) rfl mp_72 rfl eV eV rfl (good_pg l)) (lk_pg _ _)) ?_
 refine ya ?_
 refine AW.seq ?_
 refine rs (ym ?_)
 refine Y1 (Yv.eqlNilP rfl pn_118 eV) (nl ?_)
 refine AW.cond rfl (fun h0t => ?_) (fun h0f => ?_)
 ·try replace h0t := odt h0t
  have hq := pgP_none (n := a / 4096#64) (l := l) h0t
  refine ra ?_
  refine AW.ret (retI (.tmp rfl .nil) ?_)
  rw [byte_none hq]
  exact ⟨rfl, rfl⟩
 try replace h0f := odf h0f
 obtain ⟨j, hq⟩ := pgP_ne (n := a / 4096#64) (l := l) h0f
 have hj := pgI_lt hq
 rw [pgP_some hq]
 refine AW.skip ?_
 refine rs (ym ?_)
 refine ym ?_
 refine Y1 (Yv.remW (b := 4096#64) rfl (E rfl rfl) (E rfl rfl) (by decide)) ?_
 refine Y1 (Yv.nilChk rfl eV) ?_
 refine yf fo_121_0 ?_
 refine Y1 (Yv.indexArr (j := (a % 4096#64).toNat) rfl ar_119 eV eV (fun hg => ⟨rfl, lt4096 a⟩)) ?_
 refine Y1 (Yv.loadBox (i := j + 2) rfl ag_5 (pgE_at (l := l) hj.1) eV (byte_at' hq hl)) ?_
 refine ya ?_
 refine AW.ret (retI (.tmp rfl .nil) ?_)
 exact ⟨rfl, rfl⟩

set_option maxHeartbeats 4000000 in
theorem DThere45 (s : Nat) (ps : PS) (ob : Bool) (cl : T) (a n : Wd64) (hd : ps.prog.data.length ≤ 1048576) (hz0 : 0 ≤ ps.prog.zero) (hz1 : ps.prog.zero ≤ 268435456) :
    ACalls Tryz.prog 28 [pv s, zw a, zw n] [Ent.box s 75 (psD ps ob cl)] (fun t S => t = bv (thereF (psData ps.prog) ps.heap a n) ∧ S = [Ent.box s 75 (psD ps ob cl)]) := by
 refine ACalls.intro Tryz.func28 rfl Tryz.ntmps28 nB rfl fun X w0 => ?_
 refine ra ?_
 refine AW.rseqQ rfl (by kernel_rfl) ?_
 refine qm ?_
 refine Q1 (Yv.nilChk rfl eV) ?_
 refine qf fo_75_0 ?_
 refine qf fo_56_1 ?_
 refine ql ag_54 0 ?_
 refine Q1 (Yv.lenSl rfl so_54 (B rfl) eV len_data) ?_
 refine qm ?_
 refine Q1 (Yv.nilChk rfl eV) ?_
 refine qf fo_75_0 ?_
 refine qf fo_56_2 ?_
 refine ql ag_3 0 ?_
 refine Q1 (Yv.addN_i64 rfl eV eV (fun hg => by omega)) ?_
 refine Q1 (Yv.convW rfl Tryz.underlying3 kd_22 eV) ?_
 refine Q1 (Yv.assign rfl eV) ?_
 refine AWQ.nil ?_
 refine AW.seq ?_
 refine rs (ym ?_)
 refine Y1 (Yv.geqW (b := 268435456#64) rfl eV eV) ?_
 refine ym ?_
 refine gT (Yv.move rfl eV) ?_
 refine gT (Yv.subW (b := 268435456#64) rfl (Eg rfl rfl id) eV) ?_
 refine gT (Yv.move rfl eV) ?_
 refine gT (Yv.leqW rfl (Eg rfl rfl id) (Eg rfl rfl id)) ?_
 refine Y1 (Yv.pickAnd rfl eV (Eg rfl rfl id)) ?_
 refine ym ?_
 refine gT (Yv.move rfl eV) ?_
 refine gT (Yv.move rfl eV) ?_
 refine gT (Yv.move rfl eV) ?_
 refine gT (Yv.subW (b := 268435456#64) rfl (Eg rfl rfl id) eV) ?_
 refine gT (Yv.subW rfl (Eg rfl rfl id) (Eg rfl rfl id)) ?_
 refine gT (Yv.leqW rfl (Eg rfl rfl id) (Eg rfl rfl id)) ?_
 refine Y1 (Yv.pickAnd rfl eV (Eg rfl rfl id)) (nl ?_)
 refine AW.cond rfl (fun h0t => ?_) (fun h0f => ?_)
 ·try replace h0t := odt h0t
  refine ra ?_
  refine AW.ret (retI (.tmp rfl .nil) ?_)
  refine ⟨?_, rfl⟩
  have h1 : inF a n 268435456#64 (psData ps.prog) = true := h0t
  unfold thereF
  rw [h1]
  rfl
 try replace h0f := odf h0f
 refine AW.skip ?_
 refine rs (ym ?_)
 refine Y1 (Yv.geqW (b := 1073741824#64) rfl eV eV) ?_
 refine ym ?_
 refine gT (Yv.move rfl eV) ?_
 refine gT (Yv.subW (b := 1073741824#64) rfl (Eg rfl rfl id) eV) ?_
 refine gT (Yv.move rfl eV) ?_
 refine gT (Yv.nilChk rfl (Eg rfl rfl id)) ?_
 refine gT (Yv.fieldBox rfl fo_75_2 (Eg rfl rfl id)) ?_
 refine gT (Yv.loadBox rfl ag_22 (i := 0) rfl (Eg rfl rfl id) rfl) ?_
 refine gT (Yv.leqW rfl (Eg rfl rfl id) (Eg rfl rfl id)) ?_
 refine Y1 (Yv.pickAnd rfl eV (Eg rfl rfl id)) ?_
 refine ym ?_
 refine gT (Yv.move rfl eV) ?_
 refine gT (Yv.move rfl eV) ?_
 refine gT (Yv.nilChk rfl (Eg rfl rfl id)) ?_
 refine gT (Yv.fieldBox rfl fo_75_2 (Eg rfl rfl id)) ?_
 refine gT (Yv.loadBox rfl ag_22 (i := 0) rfl (Eg rfl rfl id) rfl) ?_
 refine gT (Yv.move rfl eV) ?_
 refine gT (Yv.subW (b := 1073741824#64) rfl (Eg rfl rfl id) eV) ?_
 refine gT (Yv.subW rfl (Eg rfl rfl id) (Eg rfl rfl id)) ?_
 refine gT (Yv.leqW rfl (Eg rfl rfl id) (Eg rfl rfl id)) ?_
 refine Y1 (Yv.pickAnd rfl eV (Eg rfl rfl id)) ?_
 refine ya ?_
 refine AW.ret (retI (.tmp rfl .nil) ?_)
 refine ⟨?_, rfl⟩
 have h1 : inF a n 268435456#64 (psData ps.prog) = false := h0f
 unfold thereF
 rw [h1]
 rfl

end Go.Proofs.YtpgbpdnmjeoeoaaGreat

namespace Go.Proofs.YtpgbpdnmjeoeoaaGreat
open Go Go.RowKit

set_option maxHeartbeats 4000000 in
theorem DLoad20 (s pg : Nat) (ps : PS) (ob : Bool) (cl : T) (l : List Pg) (hpg : ps.pages = mapT pg) (hl : PgOk l) (hd : ps.prog.data.length ≤ 1048576) (hz0 : 0 ≤ ps.prog.zero) (hz1 : ps.prog.zero ≤ 268435456) (a : Wd64) (z : Int) :
    ACalls Tryz.prog 22 [pv s, zw a, zi z] (Ent.box s 75 (psD ps ob cl) :: memE 121 pg l) (fun t S => t = .tup [zw (if (sizeOk z && thereF (psData ps.prog) ps.heap a (wI z)) = true then leF (getM l) a z.toNat else 0#64), bv (sizeOk z && thereF (psData ps.prog) ps.heap a (wI z))] ∧ S = (Ent.box s 75 (psD ps ob cl) :: memE 121 pg l)) := by
 refine ACalls.intro Tryz.func22 rfl Tryz.ntmps22 nB rfl fun X w0 => ?_
 refine rs (Y1 (Yv.assign rfl eV) ?_)
 refine ya ?_
 refine AW.seq ?_
 refine rs (ym ?_)
 refine Y1 (Yv.neq rfl eV eV) ?_
 refine ym ?_
 refine gT (Yv.move rfl eV) ?_
 refine gT (Yv.neq rfl (Eg rfl rfl id) eV) ?_
 refine Y1 (Yv.pickAnd rfl eV (Eg rfl rfl id)) ?_
 refine ym ?_
 refine gT (Yv.move rfl eV) ?_
 refine gT (Yv.neq rfl (Eg rfl rfl id) eV) ?_
 refine Y1 (Yv.pickAnd rfl eV (Eg rfl rfl id)) (nl ?_)
 refine AW.cond rfl (fun h0t => ?_) (fun h0f => ?_)
 ·try replace h0t := odt h0t
  have hz : (sizeOk z && thereF (psData ps.prog) ps.heap a (wI z)) = false := by
   have h1 : sizeOk z = false := by
    unfold sizeOk
    by_cases e1 : z = 1 <;> by_cases e4 : z = 4 <;> by_cases e8 : z = 8 <;> simp_all
   rw [h1]; rfl
  rw [hz]
  refine rs (Y1 (Yv.assign rfl eV) ?_)
  refine ya ?_
  refine AW.ret (retI (.tmp rfl (.tmp rfl .nil)) ?_)
  exact ⟨rfl, rfl⟩
 try replace h0f := odf h0f
 have hz0k : sizeOk z = true := by
  unfold sizeOk
  by_cases e1 : z = 1 <;> by_cases e4 : z = 4 <;> by_cases e8 : z = 8 <;> simp_all
 have hzk := size_in hz0k
 refine AW.skip ?_
 refine rs (ym ?_)
 refine ym ?_
 refine ym ?_
 refine Y1 (Yv.convW rfl Tryz.underlying3 kd_22 eV) ?_
 refine AWL.callK rfl rfl (B rfl) rfl ce_28 (E rfl rfl) (evsC (E rfl rfl) (evsC (E rfl rfl) (evsC (E rfl rfl) evs0))) (S1 := [Ent.box s 75 (psD ps ob cl)]) (S2 := _) rfl (DThere45 s ps ob cl a (wI z) hd hz0 hz1) (fun t S h => h) ?_
 refine ya ?_
 refine AW.seq ?_
 refine rs (ym ?_)
 refine Y1 (Yv.not rfl eV) (nl ?_)
 refine AW.cond rfl (fun h1t => ?_) (fun h1f => ?_)
 ·try replace h1t := odt h1t
  have hz : (sizeOk z && thereF (psData ps.prog) ps.heap a (wI z)) = false := by
   rw [hz0k, Bool.true_and]
   simpa using h1t
  rw [hz]
  refine rs (Y1 (Yv.assign rfl eV) ?_)
  refine ya ?_
  refine AW.ret (retI (.tmp rfl (.tmp rfl .nil)) ?_)
  exact ⟨rfl, rfl⟩
 try replace h1f := odf h1f
 have hth : thereF (psData ps.prog) ps.heap a (wI z) = true := by simpa using h1f
 rw [hz0k, hth]
 refine AW.skip ?_
 refine ra ?_
 refine AW.seq ?_
 refine rs (ym ?_)
 refine Y1 (Yv.subN_i64 rfl eV eV (fun hg => by omega)) ?_
 refine ya ?_
 refine AW.block ?_
 refine AW.loop (fun (j : Nat) => [(0, true, pv s), (1, true, zw a), (2, true, zi z), (9, true, zw (hlF (getM l) a z.toNat j)), (10, true, zi (z - 1 - (j : Int)))]) (fun (j : Nat) => (Ent.box s 75 (psD ps ob cl) :: memE 121 pg l)) (fun (j : Nat) => (j : Int) ≤ z) (fun (j : Nat) => z.toNat - j) 0 ?_ ?_ ?_ ?_
 ·exact (by omega : ((0 : Nat) : Int) ≤ z)
 ·exact (su (su (su (su (Sub.cons rfl (congrArg zi (by omega)) Sub.nil)))))
 ·rfl
 intro j hinv
 refine AW.seq ?_
 refine rs (ym ?_)
 refine Y1 (Yv.geq rfl eV eV) (nl ?_)
 refine AW.cond rfl (fun h2t => ?_) (fun h2f => ?_)
 ·try replace h2t := odt h2t
  refine AW.skip ?_
  refine AW.seq ?_
  refine AW.block ?_
  refine AW.region ?_
  refine ym ?_
  refine Y1 (Yv.mulW (a := 256#64) rfl eV eV) ?_
  refine ym ?_
  refine ym ?_
  refine ym ?_
  refine Y1 (Yv.convW rfl Tryz.underlying3 kd_22 eV) ?_
  refine Y1 (Yv.addW rfl eV eV) ?_
  refine AWL.callK rfl rfl (B rfl) rfl ce_44 (E rfl rfl) (evsC (E rfl rfl) (evsC (E rfl rfl) evs0)) (S1 := (Ent.box s 75 (psD ps ob cl) :: memE 121 pg l)) (S2 := []) (List.append_nil _).symm (Dget48 s pg ps ob cl l hpg hl (a + wI (z - 1 - (j : Int)))) (fun t S h => h) ?_
  refine Y1 (Yv.convW rfl Tryz.underlying5 kd_22 eV) ?_
  refine Y1 (Yv.addW rfl eV eV) ?_
  refine ya ?_
  refine AW.region ?_
  refine ym ?_
  refine Y1 (Yv.subN_i64 rfl eV eV (fun hg => by omega)) ?_
  refine ya ?_
  refine ⟨j + 1, by omega, by omega, (su (su (su (Sub.cons rfl (by rw [hlF, show ((z.toNat - (j + 1) : Nat) : Int) = z - 1 - (j : Int) by omega]; rfl) (Sub.cons rfl (congrArg zi (by omega)) Sub.nil))))), rfl⟩
 try replace h2f := odf h2f
 obtain rfl : z = (j : Int) := by omega
 have hla := hl_all (getM l) a j
 refine AW.exit ?_
 refine rs (ym ?_)
 refine Y1 (Yv.assign rfl eV) ?_
 refine ya ?_
 refine AW.ret (retI (.tmp rfl (.tmp rfl .nil)) ?_)
 refine ⟨?_, rfl⟩
 show T.tup [zw (hlF (getM l) a j j), bv true] = T.tup [zw (leF (getM l) a j), bv true]
 rw [hla]

set_option maxHeartbeats 4000000 in
theorem DStore18 (s pg : Nat) (ps : PS) (ob : Bool) (cl : T) (l : List Pg) (hpg : ps.pages = mapT pg) (hl : PgOk l) (hd : ps.prog.data.length ≤ 1048576) (hz0 : 0 ≤ ps.prog.zero) (hz1 : ps.prog.zero ≤ 268435456) (a : Wd64) (z : Int) (x : Wd64) :
    ACalls Tryz.prog 15 [pv s, zw a, zi z, zw x] (Ent.box s 75 (psD ps ob cl) :: memE 121 pg l) (fun t S => t = bv (sizeOk z && thereF (psData ps.prog) ps.heap a (wI z)) ∧ ∃ l', S = (Ent.box s 75 (psD ps ob cl) :: memE 121 pg l') ∧ PgOk l' ∧ getM l' = if (sizeOk z && thereF (psData ps.prog) ps.heap a (wI z)) = true then putsF (getM l) a x z.toNat else getM l) := by
 refine ACalls.intro Tryz.func15 rfl Tryz.ntmps15 nB rfl fun X w0 => ?_
 refine ra ?_
 refine AW.seq ?_
 refine rs (ym ?_)
 refine Y1 (Yv.neq rfl eV eV) ?_
 refine ym ?_
 refine gT (Yv.move rfl eV) ?_
 refine gT (Yv.neq rfl (Eg rfl rfl id) eV) ?_
 refine Y1 (Yv.pickAnd rfl eV (Eg rfl rfl id)) ?_
 refine ym ?_
 refine gT (Yv.move rfl eV) ?_
 refine gT (Yv.neq rfl (Eg rfl rfl id) eV) ?_
 refine Y1 (Yv.pickAnd rfl eV (Eg rfl rfl id)) (nl ?_)
 refine AW.cond rfl (fun h0t => ?_) (fun h0f => ?_)
 ·try replace h0t := odt h0t
  have hz : (sizeOk z && thereF (psData ps.prog) ps.heap a (wI z)) = false := by
   have h1 : sizeOk z = false := by
    unfold sizeOk
    by_cases e1 : z = 1 <;> by_cases e4 : z = 4 <;> by_cases e8 : z = 8 <;> simp_all
   rw [h1]; rfl
  rw [hz]
  refine ra ?_
  refine AW.ret (retI (.tmp rfl .nil) ?_)
  exact ⟨rfl, l, rfl, hl, rfl⟩
 try replace h0f := odf h0f
 have hz0k : sizeOk z = true := by
  unfold sizeOk
  by_cases e1 : z = 1 <;> by_cases e4 : z = 4 <;> by_cases e8 : z = 8 <;> simp_all
 have hzk := size_in hz0k
 refine AW.skip ?_
 refine rs (ym ?_)
 refine ym ?_
 refine ym ?_
 refine Y1 (Yv.convW rfl Tryz.underlying3 kd_22 eV) ?_
 refine AWL.callK rfl rfl (B rfl) rfl ce_28 (E rfl rfl) (evsC (E rfl rfl) (evsC (E rfl rfl) (evsC (E rfl rfl) evs0))) (S1 := [Ent.box s 75 (psD ps ob cl)]) (S2 := _) rfl (DThere45 s ps ob cl a (wI z) hd hz0 hz1) (fun t S h => h) ?_
 refine ya ?_
 refine AW.seq ?_
 refine rs (ym ?_)
 refine Y1 (Yv.not rfl eV) (nl ?_)
 refine AW.cond rfl (fun h1t => ?_) (fun h1f => ?_)
 ·try replace h1t := odt h1t
  have hz : (sizeOk z && thereF (psData ps.prog) ps.heap a (wI z)) = false := by
   rw [hz0k, Bool.true_and]
   simpa using h1t
  rw [hz]
  refine ra ?_
  refine AW.ret (retI (.tmp rfl .nil) ?_)
  exact ⟨rfl, l, rfl, hl, rfl⟩
 try replace h1f := odf h1f
 have hth : thereF (psData ps.prog) ps.heap a (wI z) = true := by simpa using h1f
 rw [hz0k, hth]
 refine AW.skip ?_
 refine AW.seq ?_
 refine ra ?_
 refine AW.block ?_
 refine AW.loop2 (fun (k : Nat) (l2 : List Pg) => [(0, true, pv s), (1, true, zw a), (2, true, zi z), (3, true, zw (x >>> (8 * k))), (10, true, .v (.int .i64 (k : Int)))]) (fun (k : Nat) (l2 : List Pg) => (Ent.box s 75 (psD ps ob cl) :: memE 121 pg l2)) (fun (k : Nat) (l2 : List Pg) => (k : Int) ≤ z ∧ PgOk l2 ∧ getM l2 = putsF (getM l) a x k) (fun (k : Nat) (l2 : List Pg) => z.toNat - k) 0 l ?_ ?_ ?_ ?_
 ·exact ⟨(by show ((0 : Nat) : Int) ≤ z; omega), hl, rfl⟩
 ·exact (su (su (su (Sub.cons rfl (congrArg zw (show x >>> (8 * 0) = x from BitVec.ushiftRight_zero x)) (su sn)))))
 ·rfl
 intro k l2 ⟨hk0, hl2, hg2⟩
 refine AW.seq ?_
 refine rs (ym ?_)
 refine ym ?_
 refine Y1 (Yv.lss rfl eV eV) (nl ?_)
 refine AW.cond rfl (fun h2t => ?_) (fun h2f => ?_)
 ·try replace h2t := odt h2t
  refine AW.skip ?_
  refine AW.seq ?_
  refine AW.block ?_
  refine rs ?_
  refine AWL.perm (S' := (Ent.box s 75 (psD ps ob cl) :: memE 121 pg l2) ++ []) (by rw [List.append_nil]) ?_
  refine ym ?_
  refine ym ?_
  refine ym ?_
  refine Y1 (Yv.convW rfl Tryz.underlying3 kd_22 eV) ?_
  refine Y1 (Yv.addW rfl eV eV) ?_
  refine ym ?_
  refine Y1 (Yv.remW (b := 256#64) rfl (E rfl rfl) (E rfl rfl) (by decide)) ?_
  refine Y1 (Yv.eqT (Yv.conv rfl Tryz.underlying22 kd_5 eV) ((low_u8 _).trans (congrArg u8 (mod_low _)))) ?_
  refine C1 rfl ce_29 (E rfl rfl) (evsC (E rfl rfl) (evsC (E rfl rfl) (evsC (E rfl rfl) evs0))) (S1 := (Ent.box s 75 (psD ps ob cl) :: memE 121 pg l2)) (S2 := []) rfl (Dput46 s pg ps ob cl l2 hpg hl2 (a + wI (k : Int)) (lowB (x >>> (8 * k)))) ?_
  rintro t41 S41 ⟨rfl, l3, rfl, hl3, hg3⟩
  refine nl ?_
  rw [List.append_nil]
  refine AW.region ?_
  refine ym ?_
  refine Y1 (Yv.quoW (b := 256#64) rfl (E rfl rfl) (E rfl rfl) (by decide)) ?_
  refine ya ?_
  refine AW.region ?_
  refine ym ?_
  refine Y1 (Yv.addN_i64 rfl eV eV (fun hg => by omega)) ?_
  refine ya ?_
  refine ⟨k + 1, l3, ⟨by omega, hl3, by rw [hg3, hg2]; rfl⟩, by omega, (su (su (su (Sub.cons rfl (congrArg zw (div256 x k).symm) (Sub.cons rfl (by simp) Sub.nil))))), rfl⟩
 try replace h2f := odf h2f
 obtain rfl : z = (k : Int) := by omega
 refine AW.exit ?_
 refine ra ?_
 refine AW.ret (retI (.tmp rfl .nil) ?_)
 exact ⟨rfl, l2, rfl, hl2, hg2⟩

end Go.Proofs.YtpgbpdnmjeoeoaaGreat

namespace Go.Proofs.YtpgbpdnmjeoeoaaGreat.V
open Go
theorem ag_141 : aggSize Tryz.prog 141 = some (true, 2) := by kernel_rfl
theorem ag_3 : aggSize Tryz.prog 3 = some (false, 1) := by kernel_rfl
theorem ag_62 : aggSize Tryz.prog 62 = some (false, 1) := by kernel_rfl
theorem ag_80 : aggSize Tryz.prog 80 = some (false, 1) := by kernel_rfl
theorem ag_81 : aggSize Tryz.prog 81 = some (false, 1) := by kernel_rfl
theorem ag_82 : aggSize Tryz.prog 82 = some (false, 1) := by kernel_rfl
theorem ag_9 : aggSize Tryz.prog 9 = some (false, 1) := by kernel_rfl
theorem ce_41 : calleeB Tryz.prog 41 = true := by kernel_rfl
theorem ce_42 : calleeB Tryz.prog 42 = true := by kernel_rfl
theorem ce_43 : calleeB Tryz.prog 43 = true := by kernel_rfl
theorem ce_66 : calleeB Tryz.prog 66 = true := by kernel_rfl
theorem el_80 : elemOf Tryz.prog 80 = some (141, 2, 40, [.string ⟨#[]⟩, .slice none 0 0]) := by kernel_rfl
theorem el_81 : elemOf Tryz.prog 81 = some (110, 3, 32, [.int .i64 0, .string ⟨#[]⟩, .int .i64 0]) := by kernel_rfl
theorem el_82 : elemOf Tryz.prog 82 = some (86, 3, 40, [.int .i64 0, .string ⟨#[]⟩, .string ⟨#[]⟩]) := by kernel_rfl
theorem fo_106_0 : fieldOff Tryz.prog 106 0 = some 0 := by kernel_rfl
theorem fo_106_1 : fieldOff Tryz.prog 106 1 = some 1 := by kernel_rfl
theorem fo_110_0 : fieldOff Tryz.prog 110 0 = some 0 := by kernel_rfl
theorem fo_141_0 : fieldOff Tryz.prog 141 0 = some 0 := by kernel_rfl
theorem fo_64_0 : fieldOff Tryz.prog 64 0 = some 0 := by kernel_rfl
theorem fo_64_1 : fieldOff Tryz.prog 64 1 = some 1 := by kernel_rfl
theorem fo_84_0 : fieldOff Tryz.prog 84 0 = some 0 := by kernel_rfl
theorem fo_84_2 : fieldOff Tryz.prog 84 2 = some 2 := by kernel_rfl
theorem fo_84_3 : fieldOff Tryz.prog 84 3 = some 3 := by kernel_rfl
theorem fo_86_0 : fieldOff Tryz.prog 86 0 = some 0 := by kernel_rfl
theorem fo_86_1 : fieldOff Tryz.prog 86 1 = some 1 := by kernel_rfl
theorem fo_86_2 : fieldOff Tryz.prog 86 2 = some 2 := by kernel_rfl
theorem kd_5 : kindOf Tryz.prog 5 = some .u8 := by kernel_rfl
theorem sh_141 : structShape Tryz.prog 141 = some ([.string ⟨#[]⟩, .slice none 0 0], [(0, 1), (1, 1)]) := by kernel_rfl
theorem sh_84 : structShape Tryz.prog 84 = some ([.slice none 0 0, .string ⟨#[]⟩, .slice none 0 0, .slice none 0 0], [(0, 1), (1, 1), (2, 1), (3, 1)]) := by kernel_rfl
theorem sh_86 : structShape Tryz.prog 86 = some ([.int .i64 0, .string ⟨#[]⟩, .string ⟨#[]⟩], [(0, 1), (1, 1), (2, 1)]) := by kernel_rfl
theorem so_54 : sliceOf Tryz.prog 54 = some 5 := by kernel_rfl
theorem so_62 : sliceOf Tryz.prog 62 = some 106 := by kernel_rfl
theorem so_80 : sliceOf Tryz.prog 80 = some 141 := by kernel_rfl
theorem so_82 : sliceOf Tryz.prog 82 = some 86 := by kernel_rfl
theorem ss_62 : sliceSz Tryz.prog 62 = some (106, 2) := by kernel_rfl
theorem ss_80 : sliceSz Tryz.prog 80 = some (141, 2) := by kernel_rfl
theorem ss_81 : sliceSz Tryz.prog 81 = some (110, 3) := by kernel_rfl
theorem ss_82 : sliceSz Tryz.prog 82 = some (86, 3) := by kernel_rfl
theorem st_9 : isStr Tryz.prog 9 = true := by kernel_rfl
end Go.Proofs.YtpgbpdnmjeoeoaaGreat.V

namespace Go.Proofs.YtpgbpdnmjeoeoaaGreat.V
open Go Go.RowKit
structure Desc where
 kind : Int
 name : List UInt8
 place : Nat
 deriving Inhabited, DecidableEq
structure Evt where
 kind : Int
 name : List UInt8
 text : List UInt8
 deriving Inhabited, DecidableEq
structure FileR where
 name : List UInt8
 bytes : List UInt8
 A : Option Addr
 c : Nat
 deriving Inhabited
def descCells (d : Desc) : List T := [.v (.int .i64 d.kind), sv d.name, .v (.int .i64 (d.place : Int))]
def evCells (e : Evt) : List T := [.v (.int .i64 e.kind), sv e.name, sv e.text]
def fileRow (f : FileR) : Ent := .row f.A f.bytes.length f.c 5 1 (f.bytes.map u8)
def wp (b : Nat) : T := .v (.pointer (some ⟨b, 0, none⟩))

theorem len_flat {α : Type} {f : α → List T} {k : Nat} (hk : ∀ a, (f a).length = k) : ∀ (l : List α), (l.flatMap f).length = l.length * k
 | [] => by simp
 | a :: r => by rw [List.flatMap_cons, List.length_append, hk, len_flat hk r, List.length_cons, Nat.add_mul]; omega
theorem drop_flat {α : Type} {f : α → List T} {k : Nat} (hk : ∀ a, (f a).length = k) : ∀ (l : List α) (j : Nat), (l.flatMap f).drop (j * k) = (l.drop j).flatMap f
 | [], j => by simp
 | a :: r, 0 => by simp
 | a :: r, j + 1 => by
  rw [List.flatMap_cons, Nat.add_mul, Nat.one_mul, Nat.add_comm, List.drop_append, List.drop_of_length_le (by rw [hk]; omega), hk, List.nil_append, Nat.add_sub_cancel_left, drop_flat hk r j]
  rfl
theorem getD_eq' {α : Type} [Inhabited α] {l : List α} {j : Nat} (h : j < l.length) : l.getD j default = l[j] := by simp [h]
theorem flat_at {α : Type} [Inhabited α] {f : α → List T} {k : Nat} (hk : ∀ a, (f a).length = k) {l : List α} {j : Nat} (h : j < l.length) (i : Nat) (hi : i < k) : (l.flatMap f)[j * k + i]? = (f (l.getD j default))[i]? := by
 rw [← List.getElem?_drop, drop_flat hk, List.drop_eq_getElem_cons h, List.flatMap_cons, getD_eq' h, List.getElem?_append_left (by rw [hk]; exact hi)]
theorem mid_set {X F Y new : List T} {p i n : Nat} (hX : X.length = p) (hF : i + n ≤ F.length) : (X ++ (F ++ Y)).take (p + i) ++ new ++ (X ++ (F ++ Y)).drop (p + i + n) = X ++ ((F.take i ++ new ++ F.drop (i + n)) ++ Y) := by
 subst hX
 rw [List.take_append, List.drop_append, List.take_of_length_le (l := X) (by omega), List.drop_of_length_le (l := X) (by omega), Nat.add_sub_cancel_left, show X.length + i + n - X.length = i + n by omega, List.nil_append]
 rw [List.take_append_of_le_length (by omega), List.drop_append_of_le_length hF]
 simp only [List.append_assoc]
theorem flat_set {α : Type} [Inhabited α] {f : α → List T} {k : Nat} (hk : ∀ a, (f a).length = k) {l : List α} {j : Nat} (h : j < l.length) (i n : Nat) (new : List T) (a' : α) (hin : i + n ≤ k) (he : f a' = (f (l.getD j default)).take i ++ new ++ (f (l.getD j default)).drop (i + n)) :
    (l.flatMap f).take (j * k + i) ++ new ++ (l.flatMap f).drop (j * k + i + n) = (l.set j a').flatMap f := by
 have e0 : l = l.take j ++ l[j] :: l.drop (j + 1) := by rw [← List.drop_eq_getElem_cons h, List.take_append_drop]
 have e1 : l.set j a' = l.take j ++ a' :: l.drop (j + 1) := by rw [List.set_eq_take_append_cons_drop, if_pos h]
 have hL : ((l.take j).flatMap f).length = j * k := by rw [len_flat hk, List.length_take, Nat.min_eq_left (by omega)]
 have e2 : l.flatMap f = (l.take j).flatMap f ++ (f l[j] ++ (l.drop (j + 1)).flatMap f) := by
  conv => lhs; rw [e0]
  rw [List.flatMap_append, List.flatMap_cons]
 rw [e1, List.flatMap_append, List.flatMap_cons, he, e2, getD_eq' h]
 exact mid_set hL (by rw [hk]; exact hin)
theorem ek (e : Evt) : (evCells e).length = 3 := rfl
theorem len_ev {l : List Evt} : (l.flatMap evCells).length = l.length * 3 := len_flat ek l
theorem ev_at {l : List Evt} {j : Nat} (h : j < l.length) (i : Nat) (hi : i < 3) : (l.flatMap evCells)[j * 3 + i]? = (evCells (l.getD j default))[i]? := flat_at ek h i hi
theorem evk_at {l : List Evt} {j : Nat} (h : j < l.length) : (l.flatMap evCells)[j * 3 + 0]? = some (.v (.int .i64 (l.getD j default).kind)) := ev_at h 0 (by decide)
theorem evn_at {l : List Evt} {j : Nat} (h : j < l.length) : (l.flatMap evCells)[j * 3 + 1]? = some (sv (l.getD j default).name) := ev_at h 1 (by decide)
theorem evt_at {l : List Evt} {j : Nat} (h : j < l.length) : (l.flatMap evCells)[j * 3 + 2]? = some (sv (l.getD j default).text) := ev_at h 2 (by decide)
theorem set_ev {l : List Evt} {j : Nat} (h : j < l.length) (t : List UInt8) : (l.flatMap evCells).set (j * 3 + 2) (sv t) = (l.set j { l.getD j default with text := t }).flatMap evCells := by
 have e := flat_set ek h 2 1 [sv t] { l.getD j default with text := t } (by decide) rfl
 rw [← e, List.set_eq_take_append_cons_drop, if_pos (by rw [len_ev]; omega), List.append_assoc]
 rfl
end Go.Proofs.YtpgbpdnmjeoeoaaGreat.V

namespace Go.Proofs.YtpgbpdnmjeoeoaaGreat.V
open Go Go.RowKit
def lastE (l : List Evt) : Evt := l.getD (l.length - 1) default
def sayF (k : Int) (name text : List UInt8) (l : List Evt) : List Evt :=
 if text = [] then l else if 0 < l.length ∧ (lastE l).kind = k ∧ (lastE l).name = name then l.set (l.length - 1) { lastE l with text := (lastE l).text ++ text } else l ++ [⟨k, name, text⟩]
theorem last_mem {l : List Evt} (h : 0 < l.length) : lastE l ∈ l := by
 unfold lastE
 rw [getD_eq' (by omega)]
 exact List.getElem_mem _
theorem sayF_nil {k : Int} {name : List UInt8} {l : List Evt} : sayF k name [] l = l := by simp [sayF]
theorem sayF_more {k : Int} {name text : List UInt8} {l : List Evt} (h0 : text ≠ []) (h : 0 < l.length ∧ (lastE l).kind = k ∧ (lastE l).name = name) : sayF k name text l = l.set (l.length - 1) { lastE l with text := (lastE l).text ++ text } := by
 unfold sayF; rw [if_neg h0, if_pos h]
theorem sayF_new {k : Int} {name text : List UInt8} {l : List Evt} (h0 : text ≠ []) (h : ¬ (0 < l.length ∧ (lastE l).kind = k ∧ (lastE l).name = name)) : sayF k name text l = l ++ [⟨k, name, text⟩] := by
 unfold sayF; rw [if_neg h0, if_neg h]
end Go.Proofs.YtpgbpdnmjeoeoaaGreat.V

namespace Go.Proofs.YtpgbpdnmjeoeoaaGreat.V
open Go Go.RowKit
def padTo (l : List UInt8) (n : Nat) : List UInt8 := l ++ List.replicate (n - l.length) 0
def writeAt (l : List UInt8) (p : Nat) (s : List UInt8) : List UInt8 := (padTo l (p + s.length)).take p ++ s ++ (padTo l (p + s.length)).drop (p + s.length)
theorem padTo_len (l : List UInt8) (n : Nat) : (padTo l n).length = max l.length n := by simp [padTo]; omega
theorem writeAt_len (l : List UInt8) (p : Nat) (s : List UInt8) : (writeAt l p s).length = max l.length (p + s.length) := by
 have := padTo_len l (p + s.length)
 simp only [writeAt, List.length_append, List.length_take, List.length_drop]
 omega
theorem getD_mem' {α : Type} [Inhabited α] {l : List α} {j : Nat} (h : j < l.length) : l.getD j default ∈ l := by
 rw [getD_eq' h]; exact List.getElem_mem h
end Go.Proofs.YtpgbpdnmjeoeoaaGreat.V

namespace Go.Proofs.YtpgbpdnmjeoeoaaGreat.V
open Go Go.RowKit
def freeIx (o : List Desc) : Nat := o.findIdx fun d => decide (d.kind = 0)
section
variable {cx : Cx} {env : Env} {S : St} {Q : Exit → Env → St → Prop}
end
end Go.Proofs.YtpgbpdnmjeoeoaaGreat.V

namespace Go.Proofs.YtpgbpdnmjeoeoaaGreat.V
open Go Go.RowKit
def fCells (x : List UInt8 × List UInt8) : List T := [sv x.1, sv x.2]
def worldT (s : List UInt8) (l : List (List UInt8 × List UInt8)) : T := .agg [sv s, .sl 2 (l.flatMap fCells)]
theorem fk (x : List UInt8 × List UInt8) : (fCells x).length = 2 := rfl
theorem len_fc {l : List (List UInt8 × List UInt8)} : (l.flatMap fCells).length = l.length * 2 := len_flat fk l
def fitsB (n : List UInt8) : Bool := !decide (n = []) && decide ((n.length : Int) ≤ 255) && decide (Lib.indexByte n 0 < 0)
def stepN (acc : List (List UInt8 × List UInt8)) (x : List UInt8 × List UInt8) : List (List UInt8 × List UInt8) := if !(acc.any fun y => decide (y.1 = x.1)) && fitsB x.1 then acc ++ [x] else acc
def nF (l : List (List UInt8 × List UInt8)) : List (List UInt8 × List UInt8) := l.foldl stepN []
theorem nF_succ {l : List (List UInt8 × List UInt8)} {j : Nat} (h : j < l.length) : nF (l.take (j + 1)) = stepN (nF (l.take j)) (l.getD j default) := by
 rw [List.take_succ_eq_append_getElem h, nF, List.foldl_append, getD_eq' h]; rfl
def nb (f : FileR) : List UInt8 × List UInt8 := (f.name, f.bytes)
def zd : Desc := ⟨0, [], 0⟩
def opnZ : List Desc := [zd, zd, zd, zd, zd, zd, zd, zd, zd, zd, zd, zd, zd, zd, zd, zd, zd, zd, zd]
def opn0 : List Desc := [⟨1, [], 0⟩, ⟨2, [], 0⟩, ⟨3, [], 0⟩, zd, zd, zd, zd, zd, zd, zd, zd, zd, zd, zd, zd, zd, zd, zd, zd]
end Go.Proofs.YtpgbpdnmjeoeoaaGreat.V

namespace Go.Proofs.YtpgbpdnmjeoeoaaGreat.V
open Go Go.RowKit
abbrev Nm := List UInt8
abbrev Fl := List (Nm × List UInt8)
structure PW where
 files : Fl
 stdin : List UInt8
 opn : List Desc
 trace : List Evt
 deriving Inhabited
def bl (a b : Nm) : Bool := Op.bytesLess a b
/-! ### the order of names -/
theorem bl_irrefl : ∀ a : Nm, bl a a = false
 | [] => rfl
 | x :: a => by
  show (decide (x < x) || ((x == x) && bl a a)) = false
  rw [bl_irrefl a]
  simp
theorem bl_trans : ∀ {a b c : Nm}, bl a b = true → bl b c = true → bl a c = true
 | [], [], c, h, _ => by cases h
 | [], y :: b, [], _, h => by cases h
 | [], y :: b, z :: c, _, _ => rfl
 | x :: a, [], c, h, _ => by cases h
 | x :: a, y :: b, [], _, h => by cases h
 | x :: a, y :: b, z :: c, h1, h2 => by
  have h1 : (decide (x < y) || ((x == y) && bl a b)) = true := h1
  have h2 : (decide (y < z) || ((y == z) && bl b c)) = true := h2
  show (decide (x < z) || ((x == z) && bl a c)) = true
  rw [Bool.or_eq_true, Bool.and_eq_true, decide_eq_true_eq, beq_iff_eq] at h1 h2 ⊢
  rcases h1 with h1 | ⟨h1, h3⟩ <;> rcases h2 with h2 | ⟨h2, h4⟩
  ·exact .inl (UInt8.lt_trans h1 h2)
  ·exact .inl (h2 ▸ h1)
  ·exact .inl (h1 ▸ h2)
  ·exact .inr ⟨h1.trans h2, bl_trans h3 h4⟩
theorem bl_total : ∀ {a b : Nm}, bl a b = false → bl b a = false → a = b
 | [], [], _, _ => rfl
 | [], y :: b, h, _ => by cases h
 | x :: a, [], _, h => by cases h
 | x :: a, y :: b, h1, h2 => by
  have h1 : (decide (x < y) || ((x == y) && bl a b)) = false := h1
  have h2 : (decide (y < x) || ((y == x) && bl b a)) = false := h2
  rw [Bool.or_eq_false_iff, decide_eq_false_iff_not] at h1 h2
  have hxy : x = y := by
   have a1 := h1.1
   have a2 := h2.1
   rw [UInt8.lt_iff_toNat_lt] at a1 a2
   exact UInt8.toNat_inj.1 (by omega)
  subst hxy
  have e1 : bl a b = false := by simpa using h1.2
  have e2 : bl b a = false := by simpa using h2.2
  rw [bl_total e1 e2]
theorem bl_not {a b : Nm} (h : bl a b = false) : a = b ∨ bl b a = true := by
 cases h2 : bl b a
 ·exact .inl (bl_total h h2)
 exact .inr rfl
def Srt (l : Fl) : Prop := l.Pairwise fun a b => bl a.1 b.1 = true
theorem Srt.nodup {l : Fl} (h : Srt l) : (l.map (·.1)).Nodup := by
 rw [List.Nodup, List.pairwise_map]
 exact h.imp fun {a b} hab e => by rw [e, bl_irrefl] at hab; cases hab
/-! ### files by name -/
def getP (name : Nm) : Fl → Option (List UInt8)
 | [] => none
 | x :: r => if x.1 = name then some x.2 else getP name r
def putP (name : Nm) (b : List UInt8) : Fl → Fl
 | [] => [(name, b)]
 | x :: r => if x.1 = name then (name, b) :: r else x :: putP name b r
theorem getP_none {name : Nm} : ∀ {l : Fl}, getP name l = none ↔ ∀ x ∈ l, ¬ x.1 = name
 | [] => by simp [getP]
 | x :: r => by
  rw [getP]
  by_cases h : x.1 = name
  ·rw [if_pos h]
   simp [h]
  ·rw [if_neg h, getP_none (l := r)]
   simp [h]
theorem getP_mem {name : Nm} {b : List UInt8} : ∀ {l : Fl}, getP name l = some b → (name, b) ∈ l
 | [], h => by cases h
 | x :: r, h => by
  rw [getP] at h
  by_cases hx : x.1 = name
  ·rw [if_pos hx, Option.some.injEq] at h
   rw [← h, ← hx]
   exact List.mem_cons_self ..
  ·rw [if_neg hx] at h
   exact List.mem_cons_of_mem _ (getP_mem h)
theorem mem_getP {name : Nm} {b : List UInt8} : ∀ {l : Fl}, (l.map (·.1)).Nodup → (name, b) ∈ l → getP name l = some b
 | [], _, h => by cases h
 | x :: r, hn, h => by
  rw [List.map_cons, List.nodup_cons] at hn
  rw [getP]
  rcases List.mem_cons.1 h with h | h
  ·rw [← h, if_pos rfl]
  ·rw [if_neg (fun e => hn.1 (by rw [e]; exact List.mem_map.2 ⟨_, h, rfl⟩)), mem_getP hn.2 h]
theorem getP_perm {name : Nm} {l l' : Fl} (hn : (l.map (·.1)).Nodup) (h : l.Perm l') : getP name l = getP name l' := by
 have hn' : (l'.map (·.1)).Nodup := (h.map (·.1)).nodup_iff.1 hn
 cases e : getP name l with
 | some b => exact (mem_getP hn' (h.subset (getP_mem e))).symm
 | none =>
  symm
  rw [getP_none] at e ⊢
  exact fun x hx => e x (h.symm.subset hx)
theorem putP_names {name : Nm} {b b' : List UInt8} : ∀ {l : Fl}, getP name l = some b' → (putP name b l).map (·.1) = l.map (·.1)
 | [], h => by cases h
 | x :: r, h => by
  rw [getP] at h
  rw [putP]
  by_cases hx : x.1 = name
  ·rw [if_pos hx, List.map_cons, List.map_cons, hx]
  ·rw [if_neg hx] at h
   rw [if_neg hx, List.map_cons, List.map_cons, putP_names h]
theorem putP_new {name : Nm} {b : List UInt8} : ∀ {l : Fl}, getP name l = none → putP name b l = l ++ [(name, b)]
 | [], _ => rfl
 | x :: r, h => by
  rw [getP] at h
  by_cases hx : x.1 = name
  ·rw [if_pos hx] at h; cases h
  ·rw [if_neg hx] at h
   rw [putP, if_neg hx, putP_new h]
   rfl
theorem mem_putP {name : Nm} {b : List UInt8} {x : Nm × List UInt8} : ∀ {l : Fl}, (l.map (·.1)).Nodup → (x ∈ putP name b l ↔ x = (name, b) ∨ (x ∈ l ∧ ¬ x.1 = name))
 | [], _ => by simp [putP]
 | y :: r, hn => by
  rw [List.map_cons, List.nodup_cons] at hn
  rw [putP]
  by_cases hy : y.1 = name
  ·rw [if_pos hy]
   constructor
   ·intro h
    rcases List.mem_cons.1 h with h | h
    ·exact .inl h
    ·exact .inr ⟨List.mem_cons_of_mem _ h, fun e => hn.1 (by rw [hy, ← e]; exact List.mem_map.2 ⟨x, h, rfl⟩)⟩
   ·rintro (h | ⟨h1, h2⟩)
    ·rw [h]; exact List.mem_cons_self ..
    ·rcases List.mem_cons.1 h1 with h | h
     ·exact absurd (h ▸ hy) h2
     ·exact List.mem_cons_of_mem _ h
  ·rw [if_neg hy, List.mem_cons, mem_putP hn.2, List.mem_cons]
   constructor
   ·rintro (h | h | ⟨h1, h2⟩)
    ·exact .inr ⟨.inl h, h ▸ hy⟩
    ·exact .inl h
    ·exact .inr ⟨.inr h1, h2⟩
   ·rintro (h | ⟨h1 | h1, h2⟩)
    ·exact .inr (.inl h)
    ·exact .inl h1
    ·exact .inr (.inr ⟨h1, h2⟩)
theorem putP_nodup {name : Nm} {b : List UInt8} {l : Fl} (hn : (l.map (·.1)).Nodup) : ((putP name b l).map (·.1)).Nodup := by
 cases e : getP name l with
 | some b' => rw [putP_names e]; exact hn
 | none =>
  rw [putP_new e, List.map_append, List.nodup_append]
  refine ⟨hn, by simp, fun p hp q hq => ?_⟩
  rw [getP_none] at e
  obtain ⟨x, hx, rfl⟩ := List.mem_map.1 hp
  simp only [List.map_cons, List.map_nil, List.mem_singleton] at hq
  rw [hq]
  exact e x hx
theorem nodup_of_map {l : Fl} (h : (l.map (·.1)).Nodup) : l.Nodup := by
 rw [List.Nodup, List.pairwise_map] at h
 exact h.imp fun {a b} hab e => hab (by rw [e])
theorem putP_perm {name : Nm} {b : List UInt8} {l l' : Fl} (hn : (l.map (·.1)).Nodup) (h : l.Perm l') : (putP name b l).Perm (putP name b l') := by
 have hn' : (l'.map (·.1)).Nodup := (h.map (·.1)).nodup_iff.1 hn
 rw [List.perm_ext_iff_of_nodup (nodup_of_map (putP_nodup hn)) (nodup_of_map (putP_nodup hn'))]
 intro x
 rw [mem_putP hn, mem_putP hn']
 constructor
 ·rintro (h1 | ⟨h1, h2⟩)
  ·exact .inl h1
  exact .inr ⟨h.subset h1, h2⟩
 rintro (h1 | ⟨h1, h2⟩)
 ·exact .inl h1
 exact .inr ⟨h.symm.subset h1, h2⟩
theorem putP_srt {name : Nm} {b b' : List UInt8} {l : Fl} (hs : Srt l) (h : getP name l = some b') : Srt (putP name b l) := by
 have e := putP_names (b := b) h
 have : (l.map (·.1)).Pairwise fun a b => bl a b = true := by rw [List.pairwise_map]; exact hs
 rw [← e, List.pairwise_map] at this
 exact this
structure Laid (x : Nm × List UInt8) (l l' : Fl) : Prop where
 is : ∃ i, i ≤ l.length ∧ l' = l.take i ++ x :: l.drop i ∧ (∀ y ∈ l.drop i, bl x.1 y.1 = true) ∧ (i = 0 ∨ bl x.1 (l.getD (i - 1) default).1 = false)
theorem laid_srt {x : Nm × List UInt8} {l l' : Fl} (hs : Srt l) (hx : getP x.1 l = none) (h : Laid x l l') : Srt l' ∧ (putP x.1 x.2 l).Perm l' := by
 obtain ⟨i, hi, rfl, h1, h2⟩ := h.is
 rw [getP_none] at hx
 have hsp : Srt (l.take i ++ l.drop i) := by rw [List.take_append_drop]; exact hs
 rw [Srt, List.pairwise_append] at hsp
 refine ⟨?_, ?_⟩
 ·rw [Srt, List.pairwise_append, List.pairwise_cons]
  have hb : ∀ a ∈ l.take i, bl a.1 x.1 = true := by
   intro a ha
   rcases h2 with h2 | h2
   ·rw [h2] at ha; simp at ha
   ·have hpos : 0 < i := by
     rcases Nat.eq_zero_or_pos i with e | e
     ·rw [e] at ha; simp at ha
     ·exact e
    have hlast : (l.getD (i - 1) default) ∈ l := by rw [getD_eq' (by omega)]; exact List.getElem_mem _
    have hl : bl (l.getD (i - 1) default).1 x.1 = true := (bl_not h2).resolve_left (fun e => hx _ hlast e.symm)
    obtain ⟨k, hk, rfl⟩ := List.mem_iff_getElem.1 ha
    rw [List.length_take] at hk
    rw [List.getElem_take]
    rcases Nat.lt_or_ge k (i - 1) with hlt | hge
    ·have := List.pairwise_iff_getElem.1 hs k (i - 1) (by omega) (by omega) hlt
     rw [getD_eq' (by omega)] at hl
     exact bl_trans this hl
    ·have : k = i - 1 := by omega
     subst this
     rw [getD_eq' (by omega)] at hl
     exact hl
  refine ⟨hsp.1, ⟨h1, hsp.2.1⟩, fun a ha c hc => ?_⟩
  rcases List.mem_cons.1 hc with hc | hc
  ·rw [hc]; exact hb a ha
  exact hsp.2.2 a ha c hc
 rw [putP_new (getP_none.2 hx)]
 have e : (l.take i ++ x :: l.drop i).Perm (l.take i ++ (l.drop i ++ [x])) := List.Perm.append_left _ (List.perm_append_singleton x _).symm
 rw [← List.append_assoc, List.take_append_drop] at e
 exact e.symm
/-! ### what the calls do -/
def badN (name : Nm) : Bool := name.any fun c => decide (c = 0)
theorem idx_bad : ∀ name : Nm, (0 ≤ Lib.indexByte name 0) ↔ badN name = true
 | [] => by simp [Lib.indexByte, badN]
 | c :: r => by
  have ih := idx_bad r
  have hge := Lib.indexByte_ge r 0
  unfold badN at ih ⊢
  rw [List.any_cons, Bool.or_eq_true, decide_eq_true_eq, ← ih]
  rw [Lib.indexByte]
  simp only [beq_iff_eq]
  by_cases hc : c = 0
  ·rw [if_pos hc]
   exact ⟨fun _ => .inl hc, fun _ => Int.le_refl _⟩
  ·rw [if_neg hc]
   constructor
   ·intro h
    right
    split at h
    ·omega
    ·omega
   ·rintro (h | h)
    ·exact absurd h hc
    ·rw [if_neg (by omega)]
     omega
def openV (name : Nm) (flags : Int) (p : PW) : Int :=
 if 255 < name.length then -36 else if (flags ≠ 0 ∧ flags ≠ 577) ∨ badN name = true then -22 else if name = [] then -2 else if flags = 0 ∧ getP name p.files = none then -2 else if freeIx p.opn < 19 then freeIx p.opn else -24
def openP (name : Nm) (flags : Int) (p : PW) : PW :=
 if openV name flags p < 0 then p else if flags = 577 then
  { p with opn := p.opn.set (freeIx p.opn) ⟨5, name, 0⟩, files := putP name [] p.files, trace := p.trace ++ [⟨3, name, []⟩] }
 else { p with opn := p.opn.set (freeIx p.opn) ⟨4, name, 0⟩ }
def kindP (fd : Int) (p : PW) : Int := if fd < 0 ∨ 19 ≤ fd then 0 else (p.opn.getD fd.toNat default).kind
def readV (fd : Int) (n : Int) (p : PW) : List UInt8 × Int :=
 if kindP fd p = 1 then (p.stdin.take n.toNat, ((p.stdin.take n.toNat).length : Int))
 else if kindP fd p = 4 then
  let b := (((getP (p.opn.getD fd.toNat default).name p.files).getD []).drop (p.opn.getD fd.toNat default).place).take n.toNat
  (b, (b.length : Int))
 else ([], -9)
def readP (fd : Int) (n : Int) (p : PW) : PW :=
 if kindP fd p = 1 then { p with stdin := p.stdin.drop n.toNat }
 else if kindP fd p = 4 then { p with opn := p.opn.set fd.toNat { p.opn.getD fd.toNat default with place := (p.opn.getD fd.toNat default).place + ((((getP (p.opn.getD fd.toNat default).name p.files).getD []).drop (p.opn.getD fd.toNat default).place).take n.toNat).length } }
 else p
def writeV (fd : Int) (s : List UInt8) (p : PW) : Int := if kindP fd p = 2 ∨ kindP fd p = 3 ∨ kindP fd p = 5 then (s.length : Int) else -9
def writeP (fd : Int) (s : List UInt8) (p : PW) : PW :=
 if kindP fd p = 2 then { p with trace := sayF 1 [] s p.trace }
 else if kindP fd p = 3 then { p with trace := sayF 2 [] s p.trace }
 else if kindP fd p = 5 then
  (if s = [] then p else { p with
   files := putP (p.opn.getD fd.toNat default).name (writeAt ((getP (p.opn.getD fd.toNat default).name p.files).getD []) (p.opn.getD fd.toNat default).place s) p.files,
   opn := p.opn.set fd.toNat { p.opn.getD fd.toNat default with place := (p.opn.getD fd.toNat default).place + s.length },
   trace := sayF 3 (p.opn.getD fd.toNat default).name s p.trace })
 else p
def closeV (fd : Int) (p : PW) : Int := if kindP fd p = 0 then -9 else 0
def closeP (fd : Int) (p : PW) : PW := if kindP fd p = 0 then p else { p with opn := p.opn.set fd.toNat ⟨0, [], 0⟩ }
/-! ### side by side -/
structure Side (r d : PW) : Prop where
 stdin : d.stdin = r.stdin
 opn : d.opn = r.opn
 trace : d.trace = r.trace
 files : r.files.Perm d.files
 srt : Srt d.files
theorem Side.nodup {r d : PW} (h : Side r d) : (r.files.map (·.1)).Nodup := (h.files.map (·.1)).nodup_iff.2 h.srt.nodup
theorem Side.get {r d : PW} (h : Side r d) (name : Nm) : getP name d.files = getP name r.files := (getP_perm h.nodup h.files).symm
theorem Side.kind {r d : PW} (h : Side r d) (fd : Int) : kindP fd d = kindP fd r := by unfold kindP; rw [h.opn]
theorem Side.openV {r d : PW} (h : Side r d) (name : Nm) (flags : Int) : openV name flags d = openV name flags r := by unfold Go.Proofs.YtpgbpdnmjeoeoaaGreat.V.openV; rw [h.opn, h.get]
theorem Side.close {r d : PW} (h : Side r d) (fd : Int) : Side (closeP fd r) (closeP fd d) := by
 unfold closeP
 rw [h.kind, h.opn]
 split
 ·exact h
 exact ⟨h.stdin, rfl, h.trace, h.files, h.srt⟩
def Named (p : PW) : Prop := p.opn.length = 19 ∧ ∀ d ∈ p.opn, (d.kind = 4 ∨ d.kind = 5) → (getP d.name p.files).isSome = true
theorem Side.write {r d : PW} (h : Side r d) (hn : Named r) (fd : Int) (s : List UInt8) : Side (writeP fd s r) (writeP fd s d) := by
 unfold writeP
 rw [h.kind, h.trace, h.opn, h.get]
 split
 ·exact ⟨h.stdin, rfl, rfl, h.files, h.srt⟩
 split
 ·exact ⟨h.stdin, rfl, rfl, h.files, h.srt⟩
 split
 ·rename_i hk
  split
  ·exact h
  have hi : ¬ (fd < 0 ∨ 19 ≤ fd) := by
   intro q
   unfold kindP at hk
   rw [if_pos q] at hk
   exact absurd hk (by decide)
  have hlt : fd.toNat < r.opn.length := by have := hn.1; omega
  have hd : (r.opn.getD fd.toNat default).kind = 5 := by unfold kindP at hk; rwa [if_neg hi] at hk
  have hm : r.opn.getD fd.toNat default ∈ r.opn := by rw [getD_eq' hlt]; exact List.getElem_mem _
  obtain ⟨b, hb⟩ := Option.isSome_iff_exists.1 (hn.2 _ hm (.inr hd))
  exact ⟨h.stdin, rfl, rfl, putP_perm h.nodup h.files, putP_srt h.srt (by rw [h.get]; exact hb)⟩
 exact h
/-! ### names stay named -/
theorem getP_put {name m : Nm} {b : List UInt8} : ∀ {l : Fl}, (getP m (putP name b l)).isSome = ((getP m l).isSome || decide (m = name))
 | [] => by
  unfold putP getP getP
  by_cases h : name = m
  ·simp [h, getP]
  ·simp [h, getP, Ne.symm h]
 | x :: r => by
  rw [putP]
  by_cases hx : x.1 = name
  ·rw [if_pos hx, getP, getP]
   by_cases h : name = m
   ·simp [h, hx]
   ·have : ¬ x.1 = m := fun e => h (hx ▸ e)
    simp [h, this, Ne.symm h]
  ·rw [if_neg hx, getP, getP]
   by_cases h : x.1 = m
   ·simp [h]
   ·rw [if_neg h, if_neg h, getP_put]
theorem named_set {p : PW} (h : Named p) {j : Nat} {d : Desc} (hd : (d.kind = 4 ∨ d.kind = 5) → (getP d.name p.files).isSome = true) : Named { p with opn := p.opn.set j d } := by
 refine ⟨by rw [List.length_set]; exact h.1, fun x hx => ?_⟩
 rcases List.mem_or_eq_of_mem_set hx with hx | rfl
 ·exact h.2 x hx
 exact hd
theorem named_close {p : PW} (h : Named p) (fd : Int) : Named (closeP fd p) := by
 unfold closeP
 split
 ·exact h
 exact named_set h (fun q => by simp at q)
theorem kind_in {p : PW} {fd : Int} (h : Named p) (hk : ¬ kindP fd p = 0) : 0 ≤ fd ∧ fd < 19 ∧ fd.toNat < p.opn.length ∧ p.opn.getD fd.toNat default ∈ p.opn ∧ kindP fd p = (p.opn.getD fd.toNat default).kind := by
 unfold kindP at hk ⊢
 by_cases q : fd < 0 ∨ 19 ≤ fd
 ·rw [if_pos q] at hk; exact absurd rfl hk
 rw [if_neg q]
 have hl := h.1
 refine ⟨by omega, by omega, by omega, ?_, rfl⟩
 rw [getD_eq' (by omega)]
 exact List.getElem_mem _
theorem named_write {p : PW} (h : Named p) (fd : Int) (s : List UInt8) : Named (writeP fd s p) := by
 unfold writeP
 split
 ·exact h
 split
 ·exact h
 split
 ·rename_i hk
  split
  ·exact h
  obtain ⟨_, _, _, hm, he⟩ := kind_in h (fd := fd) (by rw [hk]; decide)
  refine ⟨by show (p.opn.set _ _).length = 19; rw [List.length_set]; exact h.1, fun x hx q => ?_⟩
  show (getP x.name (putP _ _ p.files)).isSome = true
  rw [getP_put]
  rcases List.mem_or_eq_of_mem_set hx with hx | rfl
  ·rw [h.2 x hx q]; rfl
  simp
 exact h
theorem named_open {p : PW} (h : Named p) (name : Nm) (flags : Int) : Named (openP name flags p) := by
 unfold openP
 split
 ·exact h
 rename_i hv
 split
 ·refine ⟨by show (p.opn.set _ _).length = 19; rw [List.length_set]; exact h.1, fun x hx q => ?_⟩
  show (getP x.name (putP _ _ p.files)).isSome = true
  rw [getP_put]
  rcases List.mem_or_eq_of_mem_set hx with hx | rfl
  ·rw [h.2 x hx q]; rfl
  simp
 rename_i hf
 refine named_set h (fun _ => ?_)
 show (getP name p.files).isSome = true
 unfold openV at hv
 split at hv
 ·exact absurd (by decide) hv
 split at hv
 ·exact absurd (by decide) hv
 split at hv
 ·exact absurd (by decide) hv
 split at hv
 ·exact absurd (by decide) hv
 rename_i h1 h2 h3 h4
 cases e : getP name p.files with
 | some b => rfl
 | none => exact absurd ⟨by omega, e⟩ h4
end Go.Proofs.YtpgbpdnmjeoeoaaGreat.V

namespace Go.Proofs.YtpgbpdnmjeoeoaaGreat.V
open Go Go.RowKit
structure DS where
 files : List FileR
 lA : Option Addr
 lc : Nat
 stdin : List UInt8
 opn : List Desc
 dA : Option Addr
 dc : Nat
 trace : List Evt
 tA : Option Addr
 tc : Nat
 deriving Inhabited
def pl (ds : DS) : PW := ⟨ds.files.map nb, ds.stdin, ds.opn, ds.trace⟩
def fileCells (f : FileR) : List T := [sv f.name, .v (.slice f.A f.bytes.length f.c)]
def dCells (ds : DS) : List T := [.v (.slice ds.lA ds.files.length ds.lc), sv ds.stdin, .v (.slice ds.dA ds.opn.length ds.dc), .v (.slice ds.tA ds.trace.length ds.tc)]
def DSt (b : Nat) (ds : DS) : St := .box b 84 (dCells ds) :: .row ds.lA ds.files.length ds.lc 141 2 (ds.files.flatMap fileCells) :: .row ds.dA ds.opn.length ds.dc 110 3 (ds.opn.flatMap descCells) :: .row ds.tA ds.trace.length ds.tc 86 3 (ds.trace.flatMap evCells) :: ds.files.map fileRow
theorem fck (f : FileR) : (fileCells f).length = 2 := rfl
theorem len_files {l : List FileR} : (l.flatMap fileCells).length = l.length * 2 := len_flat fck l
theorem fnm_at {l : List FileR} {j : Nat} (h : j < l.length) : (l.flatMap fileCells)[j * 2 + 0]? = some (sv (l.getD j default).name) := flat_at fck h 0 (by decide)
theorem fset_all {l : List FileR} {j : Nat} (h : j < l.length) (f : FileR) : (l.flatMap fileCells).take (j * 2) ++ fileCells f ++ (l.flatMap fileCells).drop (j * 2 + 2) = (l.set j f).flatMap fileCells := by
 have e := flat_set fck h 0 2 (fileCells f) f (by decide) rfl
 exact e
def findP (name : Nm) (l : Fl) : Int := match l.findIdx? (fun x => decide (x.1 = name)) with | some i => (i : Int) | none => -1
theorem findP_yes {name : Nm} {l : Fl} {j : Nat} (hj : j < l.length) (hb : ∀ i, i < j → ¬ (l.getD i default).1 = name) (h : (l.getD j default).1 = name) : findP name l = (j : Int) := by
 have : l.findIdx? (fun x => decide (x.1 = name)) = some j := by
  rw [List.findIdx?_eq_some_iff_getElem]
  refine ⟨hj, ?_, fun i hi => ?_⟩
  ·rw [getD_eq' hj] at h
   simpa using h
  ·have := hb i hi
   rw [getD_eq' (by omega)] at this
   simpa using this
 unfold findP
 rw [this]
theorem findP_no {name : Nm} {l : Fl} (hb : ∀ i, i < l.length → ¬ (l.getD i default).1 = name) : findP name l = -1 ∧ getP name l = none := by
 have hm : ∀ x ∈ l, ¬ x.1 = name := by
  intro x hx
  obtain ⟨i, hi, rfl⟩ := List.mem_iff_getElem.1 hx
  have := hb i hi
  rwa [getD_eq' hi] at this
 have : l.findIdx? (fun x => decide (x.1 = name)) = none := by
  rw [List.findIdx?_eq_none_iff]
  intro x hx
  simpa using hm x hx
 refine ⟨?_, getP_none.2 hm⟩
 unfold findP
 rw [this]
theorem findP_get {name : Nm} : ∀ {l : Fl}, (findP name l = -1 ∧ getP name l = none) ∨ ∃ j : Nat, findP name l = (j : Int) ∧ j < l.length ∧ (l.getD j default).1 = name ∧ getP name l = some (l.getD j default).2 ∧ ∀ b, putP name b l = l.set j (name, b)
 | [] => .inl ⟨rfl, rfl⟩
 | x :: r => by
  by_cases h : x.1 = name
  ·refine .inr ⟨0, ?_, by simp, by simpa using h, by rw [getP, if_pos h]; rfl, fun b => by rw [putP, if_pos h]; rfl⟩
   exact findP_yes (by simp) (fun i hi => by omega) (by simpa using h)
  ·rcases findP_get (name := name) (l := r) with ⟨h1, h2⟩ | ⟨j, h1, h2, h3, h4, h5⟩
   ·left
    refine ⟨?_, by rw [getP, if_neg h]; exact h2⟩
    rw [getP_none] at h2
    refine (findP_no fun i hi => ?_).1
    cases i with
    | zero => simpa using h
    | succ i =>
     have hi' : i < r.length := by simpa using hi
     rw [List.getD_cons_succ, getD_eq' hi']
     exact h2 _ (List.getElem_mem _)
   ·right
    refine ⟨j + 1, ?_, by simpa using h2, by rw [List.getD_cons_succ]; exact h3, by rw [getP, if_neg h, List.getD_cons_succ]; exact h4, fun b => by rw [putP, if_neg h, h5]; rfl⟩
    have hn : ∀ i : Nat, i < j → ¬ (r.getD i default).1 = name := by
     intro i hi e
     unfold findP at h1
     split at h1
     ·rename_i k hk
      rw [List.findIdx?_eq_some_iff_getElem] at hk
      obtain ⟨hk1, _, hk3⟩ := hk
      have hkj : k = j := by omega
      have := hk3 i (by omega)
      rw [getD_eq' (by omega)] at e
      simp [e] at this
     ·omega
    refine findP_yes (by simpa using h2) (fun i hi => ?_) (by rw [List.getD_cons_succ]; exact h3)
    cases i with
    | zero => simpa using h
    | succ i => rw [List.getD_cons_succ]; exact hn i (by omega)
theorem nb_at {l : List FileR} {j : Nat} (h : j < l.length) : (l.map nb).getD j default = nb (l.getD j default) := by
 rw [getD_eq' (by rw [List.length_map]; exact h), getD_eq' h, List.getElem_map]
theorem bad_yes {s : Nm} {j : Nat} (hj : j < s.length) (h : s.getD j 0 = 0) : badN s = true := by
 unfold badN
 rw [List.any_eq_true]
 refine ⟨s[j], List.getElem_mem hj, ?_⟩
 rw [List.getD_eq_getElem?_getD, List.getElem?_eq_getElem hj] at h
 simpa using h
theorem bad_no {s : Nm} (h : ∀ i, i < s.length → ¬ s.getD i 0 = 0) : badN s = false := by
 unfold badN
 rw [List.any_eq_false]
 intro x hx
 obtain ⟨i, hi, rfl⟩ := List.mem_iff_getElem.1 hx
 have := h i hi
 rw [List.getD_eq_getElem?_getD, List.getElem?_eq_getElem hi] at this
 simpa using this
theorem u8z {c : UInt8} : ((c.toNat : Int) = 0) ↔ c = 0 := by
 constructor
 ·intro h; exact UInt8.toNat_inj.1 (by simpa using h)
 rintro rfl; rfl
/-! ### opening, for the document -/
structure DOpen (name : Nm) (flags : Int) (p p' : PW) : Prop where
 is : (openV name flags p < 0 ∧ p' = p) ∨ (¬ openV name flags p < 0 ∧ ¬ flags = 577 ∧ p' = openP name flags p) ∨
  (¬ openV name flags p < 0 ∧ flags = 577 ∧ p'.opn = p.opn.set (freeIx p.opn) ⟨5, name, 0⟩ ∧ p'.stdin = p.stdin ∧ p'.trace = p.trace ++ [⟨3, name, []⟩] ∧
   ((∃ b, getP name p.files = some b) ∧ p'.files = putP name [] p.files ∨ getP name p.files = none ∧ Laid (name, []) p.files p'.files))
theorem Side.openD {r d d' : PW} {name : Nm} {flags : Int} (h : Side r d) (ho : DOpen name flags d d') : Side (openP name flags r) d' := by
 have hv := h.openV name flags
 rcases ho.is with ⟨h1, rfl⟩ | ⟨h1, h2, rfl⟩ | ⟨h1, h2, h3, h4, h5, h6⟩
 ·unfold openP
  rw [if_pos (by rw [← hv]; exact h1)]
  exact h
 ·unfold openP
  rw [hv] at h1 ⊢
  rw [if_neg h1, if_neg h1, if_neg h2, if_neg h2]
  exact ⟨h.stdin, by rw [h.opn], h.trace, h.files, h.srt⟩
 unfold openP
 rw [hv] at h1
 rw [if_neg h1, if_pos h2]
 refine ⟨by rw [h4]; exact h.stdin, by rw [h3, h.opn], by rw [h5, h.trace], ?_, ?_⟩
 ·rcases h6 with ⟨⟨b, hb⟩, e⟩ | ⟨hb, hl⟩
  ·rw [e]
   exact putP_perm h.nodup h.files
  exact (putP_perm h.nodup h.files).trans (laid_srt h.srt hb hl).2
 rcases h6 with ⟨⟨b, hb⟩, e⟩ | ⟨hb, hl⟩
 ·rw [e]
  exact putP_srt h.srt hb
 exact (laid_srt h.srt hb hl).1
/-! ### bounds -/
structure PB (n : Nat) (p : PW) : Prop where
 opn : p.opn.length = 19
 tr : p.trace.length ≤ n
 txt : ∀ e ∈ p.trace, e.text.length ≤ n
 fl : ∀ f ∈ p.files, f.2.length ≤ n
 pl : ∀ d ∈ p.opn, d.place ≤ n
 sin : p.stdin.length ≤ n
 nf : p.files.length ≤ n
end Go.Proofs.YtpgbpdnmjeoeoaaGreat.V

namespace Go.Proofs.YtpgbpdnmjeoeoaaGreat.V
open Go Go.RowKit

set_option maxHeartbeats 400000 in
theorem zero55 (s : List UInt8) (hl : s.length ≤ 1099511627776) :
    ACalls Tryz.prog 66 [sv s] [] fun t S => t = .v (.bool (badN s)) := by
 refine ACalls.intro Tryz.func66 rfl Tryz.ntmps66 nB rfl fun X w0 => ?_
 refine ra ?_
 refine AW.seq ?_
 refine ra ?_
 refine AW.block ?_
 refine AW.loop (fun (j : Nat) => [(0, true, sv s), (3, true, .v (.int .i64 (j : Int)))]) (fun (j : Nat) => []) (fun (j : Nat) => j ≤ s.length ∧ ∀ i, i < j → ¬ s.getD i 0 = 0) (fun (j : Nat) => s.length - j) 0 ?_ ?_ ?_ ?_
 ·exact ⟨Nat.zero_le _, fun i hi => by omega⟩
 ·exact (su (su sn))
 ·rfl
 ·
  intro j hinv
  obtain ⟨hj, hpre⟩ := hinv
  refine AW.seq ?_
  refine rs (ym ?_)
  refine ym ?_
  refine Y1 (Yv.lenL rfl st_9 eV) ?_
  refine Y1 (Yv.lss rfl eV eV) (nl ?_)
  refine AW.cond rfl (fun h0t => ?_) (fun h0f => ?_)
  ·
   try replace h0t := odt h0t
   refine AW.skip ?_
   refine AW.seq ?_
   refine AW.block ?_
   refine rs (ym ?_)
   refine ym ?_
   refine Y1 (Yv.indexL rfl st_9 eV eV (fun hg => ⟨rfl, by omega⟩)) ?_
   refine Y1 (Yv.eql rfl eV eV) (nl ?_)
   refine AW.cond rfl (fun h1t => ?_) (fun h1f => ?_)
   ·
    try replace h1t := odt h1t
    have hz : s.getD j 0 = 0 := u8z.1 h1t
    refine ra ?_
    refine AW.ret (retI (.tmp rfl .nil) ?_)
    rw [bad_yes (by omega) hz]; rfl
   try replace h1f := odf h1f
   have hz : ¬ s.getD j 0 = 0 := fun q => h1f (u8z.2 q)
   refine AW.skip ?_
   refine AW.region ?_
   refine ym ?_
   refine Y1 (Yv.addN_i64 rfl eV eV (fun hg => by omega)) ?_
   refine ya ?_
   refine ⟨j + 1, ⟨by omega, fun i hi => ?_⟩, by omega, su (Sub.cons rfl (by simp) Sub.nil), rfl⟩
   rcases Nat.lt_or_ge i j with h | h
   ·exact hpre i h
   ·rw [show i = j by omega]; exact hz
  try replace h0f := odf h0f
  refine AW.exit ?_
  refine ra ?_
  refine AW.ret (retI (.tmp rfl .nil) ?_)
  rw [bad_no (fun i hi => hpre i (by omega))]; rfl

set_option maxHeartbeats 400000 in
theorem fits33 (s : List UInt8) (hl : s.length ≤ 1099511627776) :
    ACalls Tryz.prog 41 [sv s] [] fun t S => t = .v (.bool ((decide (1 ≤ (s.length : Int)) && decide ((s.length : Int) ≤ 255)) && !badN s)) := by
 refine ACalls.intro Tryz.func41 rfl Tryz.ntmps41 nB rfl fun X w0 => ?_
 refine ra ?_
 refine rs (ym ?_)
 refine AWL.callP rfl rfl (B rfl) rfl ce_66 (E rfl rfl) (evsC (E rfl rfl) evs0) (zero55 s hl) (fun t S h => h) ?_
 refine ya ?_
 refine rs (ym ?_)
 refine Y1 (Yv.lenL rfl st_9 eV) ?_
 refine Y1 (Yv.geq rfl eV eV) ?_
 refine ym ?_
 refine gT (Yv.move rfl eV) ?_
 refine gT (Yv.lenL rfl st_9 (Eg rfl rfl id)) ?_
 refine gT (Yv.leq rfl (Eg rfl rfl id) eV) ?_
 refine Y1 (Yv.pickAnd rfl eV (Eg rfl rfl id)) ?_
 refine ym ?_
 refine gT (Yv.move rfl eV) ?_
 refine gT (Yv.not rfl (Eg rfl rfl id)) ?_
 refine Y1 (Yv.pickAnd rfl eV (Eg rfl rfl id)) ?_
 refine ya ?_
 refine AW.ret (retI (.tmp rfl .nil) ?_)
 rfl

set_option maxHeartbeats 400000 in
theorem find34F (b : Nat) (ds : DS) (n : Nat) (hnf : ds.files.length ≤ n) (hn : n ≤ 1099511627776) (name : List UInt8) :
    ACalls Tryz.prog 42 [wp b, sv name] (DSt b ds) (fun t S => t = .v (.int .i64 (findP name (pl ds).files)) ∧ S = DSt b ds) := by
 refine ACalls.intro Tryz.func42 rfl Tryz.ntmps42 nB rfl fun X w0 => ?_
 refine ra ?_
 refine AW.seq ?_
 refine ra ?_
 refine AW.block ?_
 refine AW.loop (fun (j : Nat) => [(0, true, wp b), (1, true, sv name), (5, true, .v (.int .i64 (j : Int)))]) (fun (j : Nat) => (DSt b ds)) (fun (j : Nat) => j ≤ ds.files.length ∧ ∀ i, i < j → ¬ ((pl ds).files.getD i default).1 = name) (fun (j : Nat) => ds.files.length - j) 0 ?_ ?_ ?_ ?_
 ·exact ⟨Nat.zero_le _, fun i hi => by omega⟩
 ·exact (su (su (su sn)))
 ·rfl
 ·
  intro j hinv
  obtain ⟨hj, hpre⟩ := hinv
  refine AW.seq ?_
  refine rs (ym ?_)
  refine ym ?_
  refine Y1 (Yv.nilChk rfl eV) ?_
  refine yf fo_84_0 ?_
  refine yl ag_80 0 ?_
  refine Y1 (Yv.lenV rfl so_80 eV) ?_
  refine Y1 (Yv.lss rfl eV eV) (nl ?_)
  refine AW.cond rfl (fun h0t => ?_) (fun h0f => ?_)
  ·
   try replace h0t := odt h0t
   refine AW.skip ?_
   refine AW.seq ?_
   refine AW.block ?_
   refine rs (ym ?_)
   refine Y1 (Yv.nilChk rfl eV) ?_
   refine yf fo_84_0 ?_
   refine yl ag_80 0 ?_
   refine ym ?_
   refine Y1 (Yv.indexRow rfl ss_80 (i := 1) rfl eV eV (fun hg => ⟨rfl, by omega⟩)) ?_
   refine Y1 (Yv.fieldEp rfl fo_141_0 eV) ?_
   refine Y1 (Yv.loadEp rfl ag_9 (i := 1) rfl eV (fun hg => fnm_at (by omega))) ?_
   refine ym ?_
   refine Y1 (Yv.eqlL rfl eV eV) (nl ?_)
   refine AW.cond rfl (fun h1t => ?_) (fun h1f => ?_)
   ·
    try replace h1t := odt h1t
    have hnj : ((pl ds).files.getD j default).1 = name := by unfold pl; rw [nb_at (by omega)]; exact h1t
    refine rs (ym ?_)
    refine ya ?_
    refine AW.ret (retI (.tmp rfl .nil) ?_)
    have hjl : j < (pl ds).files.length := by unfold pl; rw [List.length_map]; omega
    rw [findP_yes hjl hpre hnj]
    exact ⟨rfl, rfl⟩
   try replace h1f := odf h1f
   have hnj : ¬ ((pl ds).files.getD j default).1 = name := by unfold pl; rw [nb_at (by omega)]; exact h1f
   refine AW.skip ?_
   refine AW.region ?_
   refine ym ?_
   refine Y1 (Yv.addN_i64 rfl eV eV (fun hg => by omega)) ?_
   refine ya ?_
   refine ⟨j + 1, ⟨by omega, fun i hi => ?_⟩, by omega, su (su (Sub.cons rfl (by simp) Sub.nil)), rfl⟩
   rcases Nat.lt_or_ge i j with h | h
   ·exact hpre i h
   ·rw [show i = j by omega]; exact hnj
  try replace h0f := odf h0f
  refine AW.exit ?_
  refine ra ?_
  refine AW.ret (retI (.tmp rfl .nil) ?_)
  rw [(findP_no (fun i hi => hpre i (by unfold pl at hi; rw [List.length_map] at hi; omega))).1]
  exact ⟨rfl, rfl⟩

end Go.Proofs.YtpgbpdnmjeoeoaaGreat.V

namespace Go.Proofs.YtpgbpdnmjeoeoaaGreat.V
open Go Go.RowKit
theorem dst_more {b : Nat} {ds : DS} {k : Int} {name text : List UInt8} (h0 : text ≠ []) (h : 0 < ds.trace.length ∧ (lastE ds.trace).kind = k ∧ (lastE ds.trace).name = name) :
    DSt b { ds with trace := sayF k name text ds.trace } = .box b 84 (dCells ds) :: .row ds.lA ds.files.length ds.lc 141 2 (ds.files.flatMap fileCells) :: .row ds.dA ds.opn.length ds.dc 110 3 (ds.opn.flatMap descCells) :: .row ds.tA ds.trace.length ds.tc 86 3 ((ds.trace.flatMap evCells).set ((ds.trace.length - 1) * 3 + 2) (sv ((lastE ds.trace).text ++ text))) :: ds.files.map fileRow := by
 rw [sayF_more h0 h]
 simp only [DSt, dCells, List.length_set]
 rw [set_ev (by omega)]
 rfl
theorem dst_new {b : Nat} {ds : DS} {k : Int} {name text : List UInt8} {A : Option Addr} {c : Nat} (h0 : text ≠ []) (h : ¬ (0 < ds.trace.length ∧ (lastE ds.trace).kind = k ∧ (lastE ds.trace).name = name)) :
    DSt b { ds with trace := sayF k name text ds.trace, tA := A, tc := c } = .box b 84 [.v (.slice ds.lA ds.files.length ds.lc), sv ds.stdin, .v (.slice ds.dA ds.opn.length ds.dc), .v (.slice A (ds.trace.length + 1) c)] :: .row ds.lA ds.files.length ds.lc 141 2 (ds.files.flatMap fileCells) :: .row ds.dA ds.opn.length ds.dc 110 3 (ds.opn.flatMap descCells) ::
     .row A (ds.trace.length + 1) c 86 3 (ds.trace.flatMap evCells ++ [.v (.int .i64 k), sv name, sv text]) :: ds.files.map fileRow := by
 rw [sayF_new h0 h]
 simp only [DSt, dCells, List.length_append, List.length_cons, List.length_nil, List.flatMap_append, List.flatMap_cons, List.flatMap_nil, List.append_nil, Nat.zero_add]
 rfl
def layL (f : FileR) (l : List FileR) (i : Nat) : List FileR := l.take i ++ f :: l.drop i
theorem layL_len {f : FileR} {l : List FileR} {i : Nat} (h : i ≤ l.length) : (layL f l i).length = l.length + 1 := by
 unfold layL
 rw [List.length_append, List.length_take, List.length_cons, List.length_drop]
 omega
theorem layL_end (f : FileR) (l : List FileR) : layL f l l.length = l ++ [f] := by
 unfold layL
 rw [List.take_length, List.drop_length]
theorem layL_at {f : FileR} {l : List FileR} {i : Nat} (h : i ≤ l.length) : (layL f l i).getD i default = f := by
 have ht : (l.take i).length = i := by rw [List.length_take]; omega
 unfold layL
 rw [List.getD_eq_getElem?_getD, List.getElem?_append_right (by omega), ht, Nat.sub_self]
 rfl
theorem layL_be {f : FileR} {l : List FileR} {i j : Nat} (h : i ≤ l.length) (hj : j < i) : (layL f l i).getD j default = l.getD j default := by
 have ht : (l.take i).length = i := by rw [List.length_take]; omega
 unfold layL
 rw [List.getD_eq_getElem?_getD, List.getD_eq_getElem?_getD, List.getElem?_append_left (by omega), List.getElem?_take, if_pos hj]
theorem layL_swap {f : FileR} {l : List FileR} {i : Nat} (h : i ≤ l.length) (h0 : 0 < i) : ((layL f l i).set i (l.getD (i - 1) default)).set (i - 1) f = layL f l (i - 1) := by
 apply List.ext_getElem?
 intro k
 have hl := layL_len (f := f) h
 have hl' := layL_len (f := f) (l := l) (i := i - 1) (by omega)
 have ht : (l.take i).length = i := by rw [List.length_take]; omega
 have ht' : (l.take (i - 1)).length = i - 1 := by rw [List.length_take]; omega
 rw [List.getElem?_set, List.getElem?_set, List.length_set, hl]
 unfold layL
 by_cases h1 : i - 1 = k
 ·rw [if_pos h1, if_pos (by omega), List.getElem?_append_right (by omega), ht', show k - (i - 1) = 0 by omega]
  rfl
 rw [if_neg h1]
 by_cases h2 : i = k
 ·rw [if_pos h2, if_pos (by omega), List.getElem?_append_right (by omega), ht', show k - (i - 1) = 0 + 1 by omega, List.getElem?_cons_succ, List.getElem?_drop, getD_eq' (by omega), show i - 1 + 0 = i - 1 by omega, List.getElem?_eq_getElem (by omega)]
 rw [if_neg h2]
 rcases Nat.lt_or_ge k (i - 1) with h3 | h3
 ·rw [List.getElem?_append_left (by omega), List.getElem?_append_left (by omega), List.getElem?_take, List.getElem?_take, if_pos (by omega), if_pos h3]
 rw [List.getElem?_append_right (by omega), List.getElem?_append_right (by omega), ht, ht', show k - i = (k - i - 1) + 1 by omega, show k - (i - 1) = (k - i) + 1 by omega, List.getElem?_cons_succ, List.getElem?_cons_succ, List.getElem?_drop, List.getElem?_drop]
 congr 1
 omega
theorem layL_perm (f : FileR) (l : List FileR) (i : Nat) : (l ++ [f]).Perm (layL f l i) := by
 have e : (layL f l i).Perm (l.take i ++ (l.drop i ++ [f])) := List.Perm.append_left _ (List.perm_append_singleton f _).symm
 rw [← List.append_assoc, List.take_append_drop] at e
 exact e.symm
def DSl (b : Nat) (ds : DS) (f : FileR) (i : Nat) (A : Option Addr) (c : Nat) : St :=
 .box b 84 [.v (.slice A (ds.files.length + 1) c), sv ds.stdin, .v (.slice ds.dA ds.opn.length ds.dc), .v (.slice ds.tA ds.trace.length ds.tc)] :: .row A (ds.files.length + 1) c 141 2 ((layL f ds.files i).flatMap fileCells) :: .row ds.dA ds.opn.length ds.dc 110 3 (ds.opn.flatMap descCells) :: .row ds.tA ds.trace.length ds.tc 86 3 (ds.trace.flatMap evCells) :: (ds.files ++ [f]).map fileRow
theorem dsl_perm {b : Nat} {ds : DS} {f : FileR} {i : Nat} {A : Option Addr} {c : Nat} (h : i ≤ ds.files.length) : (DSt b { ds with files := layL f ds.files i, lA := A, lc := c }).Perm (DSl b ds f i A c) := by
 unfold DSt DSl dCells
 simp only [layL_len h]
 exact (((((layL_perm f ds.files i).symm.map fileRow).cons _).cons _).cons _).cons _
theorem dsl_new {b : Nat} {ds : DS} {f : FileR} {A : Option Addr} {c : Nat} :
    DSl b ds f ds.files.length A c = .box b 84 [.v (.slice A (ds.files.length + 1) c), sv ds.stdin, .v (.slice ds.dA ds.opn.length ds.dc), .v (.slice ds.tA ds.trace.length ds.tc)] :: .row A (ds.files.length + 1) c 141 2 (ds.files.flatMap fileCells ++ [sv f.name, .v (.slice f.A f.bytes.length f.c)]) :: .row ds.dA ds.opn.length ds.dc 110 3 (ds.opn.flatMap descCells) :: .row ds.tA ds.trace.length ds.tc 86 3 (ds.trace.flatMap evCells) :: (ds.files.map fileRow ++ [fileRow f]) := by
 unfold DSl
 rw [layL_end, List.flatMap_append, List.map_append]
 rfl
theorem lay_nm {f : FileR} {l : List FileR} {i : Nat} (h : i ≤ l.length) : ((layL f l i).flatMap fileCells)[i * 2 + 0]? = some (sv f.name) := by
 rw [fnm_at (by rw [layL_len h]; omega), layL_at h]
theorem lay_nb {f : FileR} {l : List FileR} {i : Nat} (h : i ≤ l.length) (h0 : 0 < i) : ((layL f l i).flatMap fileCells)[(i - 1) * 2 + 0]? = some (sv (l.getD (i - 1) default).name) := by
 rw [fnm_at (by rw [layL_len h]; omega), layL_be h (by omega)]
theorem cells_at {l : List FileR} {j : Nat} (h : j < l.length) : ((l.flatMap fileCells).drop (j * 2)).take 2 = fileCells (l.getD j default) := by
 rw [drop_flat fck, List.drop_eq_getElem_cons h, List.flatMap_cons, getD_eq' h]
 rw [List.take_append_of_le_length (by rw [fck]; exact Nat.le_refl _)]
 exact List.take_of_length_le (by rw [fck]; exact Nat.le_refl _)
theorem lay_swap {f : FileR} {l : List FileR} {i : Nat} (h : i ≤ l.length) (h0 : 0 < i) :
    (((layL f l i).flatMap fileCells).take (i * 2) ++ fileCells (l.getD (i - 1) default) ++ ((layL f l i).flatMap fileCells).drop (i * 2 + 2)).take ((i - 1) * 2) ++ fileCells f ++ (((layL f l i).flatMap fileCells).take (i * 2) ++ fileCells (l.getD (i - 1) default) ++ ((layL f l i).flatMap fileCells).drop (i * 2 + 2)).drop ((i - 1) * 2 + 2) = (layL f l (i - 1)).flatMap fileCells := by
 have hl := layL_len (f := f) h
 rw [fset_all (by omega), fset_all (by rw [List.length_set]; omega), layL_swap h h0]
theorem lay_done {ds : DS} {f : FileR} {i : Nat} (h : i ≤ ds.files.length) (ha : ∀ y ∈ ds.files.drop i, bl f.name y.name = true) (hb : i = 0 ∨ bl f.name (ds.files.getD (i - 1) default).name = false) : Laid (nb f) (ds.files.map nb) ((layL f ds.files i).map nb) := by
 refine ⟨i, by rw [List.length_map]; exact h, ?_, fun y hy => ?_, ?_⟩
 ·unfold layL
  rw [List.map_append, List.map_take, List.map_cons, List.map_drop]
 ·rw [← List.map_drop] at hy
  obtain ⟨z, hz, rfl⟩ := List.mem_map.1 hy
  exact ha z hz
 rcases hb with hb | hb
 ·exact .inl hb
 rcases Nat.eq_zero_or_pos i with h0 | h0
 ·exact .inl h0
 right
 rw [nb_at (by omega)]
 exact hb
end Go.Proofs.YtpgbpdnmjeoeoaaGreat.V

namespace Go.Proofs.YtpgbpdnmjeoeoaaGreat.V
open Go Go.RowKit

set_option maxHeartbeats 1000000 in
theorem say57 (b : Nat) (ds : DS) (n : Nat) (hw : PB n (pl ds)) (hn : n ≤ 1099511627776) (k : Int) (name text : List UInt8) (ht : text.length ≤ 1099511627776) :
    ACalls Tryz.prog 138 [wp b, .v (.int .i64 k), sv name, sv text] (DSt b ds) (fun t S => t = .tup [] ∧ ∃ A c, S = DSt b { ds with trace := sayF k name text ds.trace, tA := A, tc := c }) := by
 obtain ⟨ho, htr, htx, hfl, hpl, hsi, hnf⟩ := hw
 have ho : ds.opn.length = 19 := ho
 have htr : ds.trace.length ≤ n := htr
 have hsi : ds.stdin.length ≤ n := hsi
 have hnf : ds.files.length ≤ n := by have h := hnf; unfold pl at h; rwa [List.length_map] at h
 have htxt : ∀ e ∈ ds.trace, e.text.length ≤ n := htx
 refine ACalls.intro Tryz.func138 rfl Tryz.ntmps138 nB rfl fun X w0 => ?_
 refine rs (ym ?_)
 refine Y1 (Yv.nilChk rfl eV) ?_
 refine yf fo_84_3 ?_
 refine yl ag_82 0 ?_
 refine Y1 (Yv.lenV rfl so_82 eV) ?_
 refine ya ?_
 refine AW.seq ?_
 refine rs (ym ?_)
 refine Y1 (Yv.eqlL rfl eV eV) (nl ?_)
 refine AW.cond rfl (fun h0t => ?_) (fun h0f => ?_)
 ·
  try replace h0t := odt h0t
  refine AW.ret (retI .nil ?_)
  exact ⟨rfl, ds.tA, ds.tc, by rw [h0t, sayF_nil]⟩
 try replace h0f := odf h0f
 refine AW.skip ?_
 refine AW.seq ?_
 refine rs (ym ?_)
 refine Y1 (Yv.gtr rfl eV eV) ?_
 refine ym ?_
 refine gT (Yv.move rfl eV) ?_
 refine gT (Yv.nilChk rfl (Eg rfl rfl id)) ?_
 refine gT (Yv.fieldBox rfl fo_84_3 (Eg rfl rfl id)) ?_
 refine gT (Yv.loadBox rfl ag_82 (i := 0) rfl (Eg rfl rfl id) rfl) ?_
 refine gT (Yv.move rfl eV) ?_
 refine gT (Yv.subN_i64 rfl (Eg rfl rfl id) (E rfl rfl) (fun hg => by first | omega | (simp only [Bool.and_eq_true, Bool.or_eq_false_iff, Bool.not_eq_true', Bool.not_eq_false', decide_eq_true_eq, decide_eq_false_iff_not] at hg; omega))) ?_
 refine gT (Yv.indexRow (j := ds.trace.length - 1) rfl ss_82 (i := 3) rfl (Eg rfl rfl id) (Eg rfl rfl id) (fun hg => by first | exact ⟨by omega, by omega⟩ | (simp only [Bool.or_eq_true, Bool.and_eq_true, Bool.or_eq_false_iff, Bool.and_eq_false_iff, Bool.not_eq_true', Bool.not_eq_false', decide_eq_true_eq, decide_eq_false_iff_not, Decidable.not_not] at hg; exact ⟨by omega, by omega⟩))) ?_
 refine gT (Yv.fieldEp rfl fo_86_0 (Eg rfl rfl id)) ?_
 refine gT (Yv.loadEp rfl ag_3 (i := 3) rfl (Eg rfl rfl id) (fun hg => evk_at (by first | omega | (simp only [Bool.or_eq_true, Bool.and_eq_true, Bool.or_eq_false_iff, Bool.and_eq_false_iff, Bool.not_eq_true', Bool.not_eq_false', decide_eq_true_eq, decide_eq_false_iff_not, Decidable.not_not] at hg; omega)))) ?_
 refine gT (Yv.move rfl eV) ?_
 refine gT (Yv.eql rfl (Eg rfl rfl id) (Eg rfl rfl id)) ?_
 refine Y1 (Yv.pickAnd rfl eV (Eg rfl rfl id)) ?_
 refine ym ?_
 refine gT (Yv.move rfl eV) ?_
 refine gT (Yv.nilChk rfl (Eg rfl rfl id)) ?_
 refine gT (Yv.fieldBox rfl fo_84_3 (Eg rfl rfl id)) ?_
 refine gT (Yv.loadBox rfl ag_82 (i := 0) rfl (Eg rfl rfl id) rfl) ?_
 refine gT (Yv.move rfl eV) ?_
 refine gT (Yv.subN_i64 rfl (Eg rfl rfl id) (E rfl rfl) (fun hg => by first | omega | (simp only [Bool.and_eq_true, Bool.or_eq_false_iff, Bool.not_eq_true', Bool.not_eq_false', decide_eq_true_eq, decide_eq_false_iff_not] at hg; omega))) ?_
 refine gT (Yv.indexRow (j := ds.trace.length - 1) rfl ss_82 (i := 3) rfl (Eg rfl rfl id) (Eg rfl rfl id) (fun hg => by first | exact ⟨by omega, by omega⟩ | (simp only [Bool.or_eq_true, Bool.and_eq_true, Bool.or_eq_false_iff, Bool.and_eq_false_iff, Bool.not_eq_true', Bool.not_eq_false', decide_eq_true_eq, decide_eq_false_iff_not, Decidable.not_not] at hg; exact ⟨by omega, by omega⟩))) ?_
 refine gT (Yv.fieldEp rfl fo_86_1 (Eg rfl rfl id)) ?_
 refine gT (Yv.loadEp rfl ag_9 (i := 3) rfl (Eg rfl rfl id) (fun hg => evn_at (by first | omega | (simp only [Bool.or_eq_true, Bool.and_eq_true, Bool.or_eq_false_iff, Bool.and_eq_false_iff, Bool.not_eq_true', Bool.not_eq_false', decide_eq_true_eq, decide_eq_false_iff_not, Decidable.not_not] at hg; omega)))) ?_
 refine gT (Yv.move rfl eV) ?_
 refine gT (Yv.eqlL rfl (Eg rfl rfl id) (Eg rfl rfl id)) ?_
 refine Y1 (Yv.pickAnd rfl eV (Eg rfl rfl id)) (nl ?_)
 refine AW.cond rfl (fun h1t => ?_) (fun h1f => ?_)
 ·
  try replace h1t := odt h1t
  simp only [Bool.or_eq_true, Bool.and_eq_true, Bool.or_eq_false_iff, Bool.and_eq_false_iff, Bool.not_eq_true', Bool.not_eq_false', decide_eq_true_eq, decide_eq_false_iff_not, Decidable.not_not] at h1t
  obtain ⟨⟨g1, g2⟩, g3⟩ := h1t
  have hlast := htxt _ (last_mem (l := ds.trace) (by omega))
  unfold lastE at hlast
  refine AW.rseqP rfl ?_
  refine AWP.phase [true, true, true, true, true, true, true, true, true, true, true, true, true, true, true, true, true, true, true] 1 rfl (by kernel_rfl) (by kernel_rfl) ?_
  refine qm ?_
  refine Q1 (Yv.nilChk rfl eV) ?_
  refine qf fo_84_3 ?_
  refine ql ag_82 0 ?_
  refine qm ?_
  refine Q1 (Yv.subN_i64 rfl eV eV (fun hg => by omega)) ?_
  refine qm ?_
  refine Q1 (Yv.nilChk rfl eV) ?_
  refine qf fo_84_3 ?_
  refine ql ag_82 0 ?_
  refine qm ?_
  refine Q1 (Yv.subN_i64 rfl eV eV (fun hg => by omega)) ?_
  refine Q1 (Yv.indexRow (j := ds.trace.length - 1) rfl ss_82 (i := 3) rfl (E rfl rfl) (E rfl rfl) (fun hg => by first | exact ⟨by omega, by omega⟩ | (simp only [Bool.or_eq_true, Bool.and_eq_true, Bool.or_eq_false_iff, Bool.and_eq_false_iff, Bool.not_eq_true', Bool.not_eq_false', decide_eq_true_eq, decide_eq_false_iff_not, Decidable.not_not] at hg; exact ⟨by omega, by omega⟩))) ?_
  refine Q1 (Yv.fieldEp rfl fo_86_2 eV) ?_
  refine Q1 (Yv.loadEp rfl ag_9 (i := 3) rfl (E rfl rfl) (fun hg => evt_at (by first | omega | (simp only [Bool.or_eq_true, Bool.and_eq_true, Bool.or_eq_false_iff, Bool.and_eq_false_iff, Bool.not_eq_true', Bool.not_eq_false', decide_eq_true_eq, decide_eq_false_iff_not, Decidable.not_not] at hg; omega)))) ?_
  refine qm ?_
  refine Q1 (Yv.addL rfl eV eV (fun hg => by first | omega | (simp only [List.length_append, List.length_cons, List.length_nil]; omega))) ?_
  refine Q1 (Yv.indexRow (j := ds.trace.length - 1) rfl ss_82 (i := 3) rfl (E rfl rfl) (E rfl rfl) (fun hg => by first | exact ⟨by omega, by omega⟩ | (simp only [Bool.or_eq_true, Bool.and_eq_true, Bool.or_eq_false_iff, Bool.and_eq_false_iff, Bool.not_eq_true', Bool.not_eq_false', decide_eq_true_eq, decide_eq_false_iff_not, Decidable.not_not] at hg; exact ⟨by omega, by omega⟩))) ?_
  refine Q1 (Yv.fieldEp rfl fo_86_2 eV) ?_
  refine AWQ.nil ?_
  refine p1 19 ?_
  refine AWL.storeEp1 (i := 3) rfl rfl rfl ag_9 rfl (E rfl rfl) (E rfl rfl) rfl rfl (by rw [len_ev]; omega) (nl ?_)
  refine AWP.done (by kernel_rfl) ?_
  refine AW.ret (retI .nil ?_)
  exact ⟨rfl, ds.tA, ds.tc, (dst_more h0f ⟨by omega, g2, g3⟩).symm⟩
 try replace h1f := odf h1f
 have hno : ¬ (0 < ds.trace.length ∧ (lastE ds.trace).kind = k ∧ (lastE ds.trace).name = name) := fun q => by
  obtain ⟨q1, q2, q3⟩ := q
  unfold lastE at q2 q3
  rw [decide_eq_true (show (0 : Int) < ds.trace.length by omega), decide_eq_true q2, decide_eq_true q3] at h1f
  cases h1f
 refine AW.skip ?_
 refine AW.region ?_
 refine ym ?_
 refine ym ?_
 refine Y1 (Yv.nilChk rfl eV) ?_
 refine yf fo_84_3 ?_
 refine yl ag_82 0 ?_
 refine ym ?_
 refine ym ?_
 refine ym ?_
 refine Y1 (Yv.buildS rfl sh_86 (evpC eV (evpC eV (evpC eV evp0))) (fun _ => rfl)) ?_
 refine AWL.buildSliceE rfl rfl (B rfl) rfl el_82 (B rfl) rfl (evsC (E rfl rfl) evs0) nB rfl rfl ?_
 refine AWL.appendRow (i := 3) rfl rfl (B rfl) rfl el_82 (B rfl) rfl (E rfl rfl) (SrcT.sl so_82 (B rfl) (E rfl rfl) (m := 1) rfl) (by unfold maxLen; omega) (by omega) (fun A73 c73 => ?_)
 refine Y1 (Yv.nilChk rfl eV) ?_
 refine yf fo_84_3 ?_
 refine AWL.storeBox (i := 0) rfl rfl rfl ag_82 rfl (E rfl rfl) (E rfl rfl) rfl rfl nB (nl ?_)
 refine retN .nil ?_
 exact ⟨rfl, A73, c73, (dst_new h0f hno).symm⟩

set_option maxHeartbeats 2000000 in
theorem lay35F (b : Nat) (ds : DS) (n : Nat) (hnf : ds.files.length ≤ n) (hn : n ≤ 1099511627776) (f : FileR) (hfb : f.bytes.length ≤ 1099511627776) :
    ACalls Tryz.prog 43 [wp b, sv f.name, .v (.slice f.A f.bytes.length f.c)] (DSt b ds ++ [fileRow f]) (fun t S => t = .tup [] ∧ ∃ fs A c, Laid (nb f) (ds.files.map nb) (fs.map nb) ∧ S = DSt b { ds with files := fs, lA := A, lc := c }) := by
 refine ACalls.intro Tryz.func43 rfl Tryz.ntmps43 nB rfl fun X w0 => ?_
 refine rs (ym ?_)
 refine ym ?_
 refine Y1 (Yv.nilChk rfl eV) ?_
 refine yf fo_84_0 ?_
 refine yl ag_80 0 ?_
 refine ym ?_
 refine ym ?_
 refine Y1 (Yv.buildS rfl sh_141 (evpC eV (evpC eV evp0)) (fun _ => rfl)) ?_
 refine AWL.buildSliceE rfl rfl (B rfl) rfl el_80 (B rfl) rfl (evsC (E rfl rfl) evs0) nB rfl rfl ?_
 refine AWL.appendRow (i := 1) rfl rfl (B rfl) rfl el_80 (B rfl) rfl (E rfl rfl) (SrcT.sl so_80 (B rfl) (E rfl rfl) (m := 1) rfl) (by unfold maxLen; omega) (by omega) (fun A16 c16 => ?_)
 refine Y1 (Yv.nilChk rfl eV) ?_
 refine yf fo_84_0 ?_
 refine AWL.storeBox (i := 0) rfl rfl rfl ag_80 rfl (E rfl rfl) (E rfl rfl) rfl rfl nB (nl ?_)
 refine AW.eqS (S' := DSl b ds f ds.files.length A16 c16) (dsl_new (ds := ds) (f := f) (b := b)).symm ?_
 refine rs (ym ?_)
 refine Y1 (Yv.nilChk rfl eV) ?_
 refine yf fo_84_0 ?_
 refine yl ag_80 0 ?_
 refine Y1 (Yv.lenV rfl so_80 eV) ?_
 refine Y1 (Yv.subN_i64 rfl eV eV (fun hg => by omega)) ?_
 refine ya ?_
 refine AW.block ?_
 refine AW.loop (fun (i : Nat) => [(0, true, wp b), (6, true, .v (.int .i64 (i : Int)))]) (fun (i : Nat) => (DSl b ds f i A16 c16)) (fun (i : Nat) => i ≤ ds.files.length ∧ ∀ y ∈ ds.files.drop i, bl f.name y.name = true) (fun (i : Nat) => i) ds.files.length ?_ ?_ ?_ ?_
 ·exact ⟨Nat.le_refl _, fun y hy => by rw [List.drop_length] at hy; cases hy⟩
 ·exact (su (Sub.cons rfl (by simp) Sub.nil))
 ·rfl
 ·
  intro i hinv
  obtain ⟨hi, hall⟩ := hinv
  refine AW.seq ?_
  refine AW.rseqQ rfl (by kernel_rfl) ?_
  refine qm ?_
  refine Q1 (Yv.gtr rfl eV eV) ?_
  refine qm ?_
  refine kT (Yv.move rfl eV) ?_
  refine kT (Yv.nilChk rfl (Eg rfl rfl id)) ?_
  refine kT (Yv.fieldBox rfl fo_84_0 (Eg rfl rfl id)) ?_
  refine kT (Yv.loadBox rfl ag_80 (i := 0) rfl (Eg rfl rfl id) rfl) ?_
  refine kT (Yv.move rfl eV) ?_
  refine kT (Yv.indexRow (j := i) rfl ss_80 (i := 1) rfl (Eg rfl rfl id) (Eg rfl rfl id) (fun hg => by first | exact ⟨by omega, by omega⟩ | (simp only [Bool.or_eq_true, Bool.and_eq_true, Bool.or_eq_false_iff, Bool.and_eq_false_iff, Bool.not_eq_true', Bool.not_eq_false', decide_eq_true_eq, decide_eq_false_iff_not, Decidable.not_not] at hg; exact ⟨by omega, by omega⟩))) ?_
  refine kT (Yv.fieldEp rfl fo_141_0 (Eg rfl rfl id)) ?_
  refine kT (Yv.loadEp rfl ag_9 (i := 1) rfl (Eg rfl rfl id) (fun hg => lay_nm (by first | omega | (simp only [Bool.or_eq_true, Bool.and_eq_true, Bool.or_eq_false_iff, Bool.and_eq_false_iff, Bool.not_eq_true', Bool.not_eq_false', decide_eq_true_eq, decide_eq_false_iff_not, Decidable.not_not] at hg; omega)))) ?_
  refine kT (Yv.move rfl eV) ?_
  refine kT (Yv.nilChk rfl (Eg rfl rfl id)) ?_
  refine kT (Yv.fieldBox rfl fo_84_0 (Eg rfl rfl id)) ?_
  refine kT (Yv.loadBox rfl ag_80 (i := 0) rfl (Eg rfl rfl id) rfl) ?_
  refine kT (Yv.move rfl eV) ?_
  refine kT (Yv.subN_i64 rfl (Eg rfl rfl id) (E rfl rfl) (fun hg => by first | omega | (simp only [Bool.and_eq_true, Bool.or_eq_false_iff, Bool.not_eq_true', Bool.not_eq_false', decide_eq_true_eq, decide_eq_false_iff_not] at hg; omega))) ?_
  refine kT (Yv.indexRow (j := (i - 1)) rfl ss_80 (i := 1) rfl (Eg rfl rfl id) (Eg rfl rfl id) (fun hg => by first | exact ⟨by omega, by omega⟩ | (simp only [Bool.or_eq_true, Bool.and_eq_true, Bool.or_eq_false_iff, Bool.and_eq_false_iff, Bool.not_eq_true', Bool.not_eq_false', decide_eq_true_eq, decide_eq_false_iff_not, Decidable.not_not] at hg; exact ⟨by omega, by omega⟩))) ?_
  refine kT (Yv.fieldEp rfl fo_141_0 (Eg rfl rfl id)) ?_
  refine kT (Yv.loadEp rfl ag_9 (i := 1) rfl (Eg rfl rfl id) (fun hg => lay_nb (by first | omega | (simp only [Bool.or_eq_true, Bool.and_eq_true, Bool.or_eq_false_iff, Bool.and_eq_false_iff, Bool.not_eq_true', Bool.not_eq_false', decide_eq_true_eq, decide_eq_false_iff_not, Decidable.not_not] at hg; omega)) (by first | omega | (simp only [Bool.or_eq_true, Bool.and_eq_true, Bool.or_eq_false_iff, Bool.and_eq_false_iff, Bool.not_eq_true', Bool.not_eq_false', decide_eq_true_eq, decide_eq_false_iff_not, Decidable.not_not] at hg; omega)))) ?_
  refine kT (Yv.lssS rfl (Eg rfl rfl id) (Eg rfl rfl id)) ?_
  refine Q1 (Yv.pickAnd rfl eV (Eg rfl rfl id)) ?_
  refine AWQ.nil ?_
  refine AW.cond rfl (fun h0t => ?_) (fun h0f => ?_)
  ·
   try replace h0t := odt h0t
   simp only [Bool.or_eq_true, Bool.and_eq_true, Bool.or_eq_false_iff, Bool.and_eq_false_iff, Bool.not_eq_true', Bool.not_eq_false', decide_eq_true_eq, decide_eq_false_iff_not, Decidable.not_not] at h0t
   refine AW.skip ?_
   refine AW.seq ?_
   refine AW.block ?_
   refine AW.regionP rfl ?_
   refine T1 (i := 9) rfl (freeMove rfl (E rfl rfl)) ?_
   refine T1 (i := 10) rfl (freeSub_i64 rfl (E rfl rfl) (E rfl rfl) ⟨by omega, by omega⟩) ?_
   refine AWP.phase [true, true, true, true, true, true, true, true, true, false, false, true, true, true, true, true, true, true, true, true, true, true, true, true, true, true, true] 3 rfl (by kernel_rfl) (by kernel_rfl) ?_
   refine qm ?_
   refine Q1 (Yv.nilChk rfl eV) ?_
   refine qf fo_84_0 ?_
   refine ql ag_80 0 ?_
   refine qm ?_
   refine qm ?_
   refine Q1 (Yv.nilChk rfl eV) ?_
   refine qf fo_84_0 ?_
   refine ql ag_80 0 ?_
   refine qm ?_
   refine Q1 (Yv.nilChk rfl eV) ?_
   refine qf fo_84_0 ?_
   refine ql ag_80 0 ?_
   refine qm ?_
   refine Q1 (Yv.subN_i64 rfl eV eV (fun hg => by omega)) ?_
   refine Q1 (Yv.indexRow (j := (i - 1)) rfl ss_80 (i := 1) rfl (E rfl rfl) (E rfl rfl) (fun hg => by first | exact ⟨by omega, by omega⟩ | (simp only [Bool.or_eq_true, Bool.and_eq_true, Bool.or_eq_false_iff, Bool.and_eq_false_iff, Bool.not_eq_true', Bool.not_eq_false', decide_eq_true_eq, decide_eq_false_iff_not, Decidable.not_not] at hg; exact ⟨by omega, by omega⟩))) ?_
   refine Q1 (Yv.loadEpA (l' := fileCells (ds.files.getD (i - 1) default)) rfl ag_141 (i := 1) rfl eV (fun hg => ⟨by show List.take 2 (List.drop ((i - 1) * 2) _) = _; rw [cells_at (by rw [layL_len hi]; omega), layL_be hi (by omega)], rfl⟩)) ?_
   refine qm ?_
   refine Q1 (Yv.nilChk rfl eV) ?_
   refine qf fo_84_0 ?_
   refine ql ag_80 0 ?_
   refine qm ?_
   refine Q1 (Yv.indexRow (j := i) rfl ss_80 (i := 1) rfl (E rfl rfl) (E rfl rfl) (fun hg => by first | exact ⟨by omega, by omega⟩ | (simp only [Bool.or_eq_true, Bool.and_eq_true, Bool.or_eq_false_iff, Bool.and_eq_false_iff, Bool.not_eq_true', Bool.not_eq_false', decide_eq_true_eq, decide_eq_false_iff_not, Decidable.not_not] at hg; exact ⟨by omega, by omega⟩))) ?_
   refine Q1 (Yv.loadEpA (l' := fileCells f) rfl ag_141 (i := 1) rfl eV (fun hg => ⟨by show List.take 2 (List.drop (i * 2) _) = _; rw [cells_at (by rw [layL_len hi]; omega), layL_at hi], rfl⟩)) ?_
   refine Q1 (Yv.indexRow (j := i) rfl ss_80 (i := 1) rfl (E rfl rfl) (E rfl rfl) (fun hg => by first | exact ⟨by omega, by omega⟩ | (simp only [Bool.or_eq_true, Bool.and_eq_true, Bool.or_eq_false_iff, Bool.and_eq_false_iff, Bool.not_eq_true', Bool.not_eq_false', decide_eq_true_eq, decide_eq_false_iff_not, Decidable.not_not] at hg; exact ⟨by omega, by omega⟩))) ?_
   refine AWQ.nil ?_
   refine p1 27 ?_
   refine AWL.storeEp (i := 1) (m := 2) rfl rfl rfl ag_141 rfl (E rfl rfl) (E rfl rfl) rfl rfl (by decide) (by rw [len_files, layL_len hi]; omega) (nl ?_)
   refine p1 28 ?_
   refine Y1 (Yv.indexRow (j := (i - 1)) rfl ss_80 (i := 1) rfl (E rfl rfl) (E rfl rfl) (fun hg => by first | exact ⟨by omega, by omega⟩ | (simp only [Bool.or_eq_true, Bool.and_eq_true, Bool.or_eq_false_iff, Bool.and_eq_false_iff, Bool.not_eq_true', Bool.not_eq_false', decide_eq_true_eq, decide_eq_false_iff_not, Decidable.not_not] at hg; exact ⟨by omega, by omega⟩))) (nl ?_)
   refine p1 29 ?_
   refine AWL.storeEp (i := 1) (m := 2) rfl rfl rfl ag_141 rfl (E rfl rfl) (E rfl rfl) rfl rfl (by decide) (by show (i - 1) * 2 + 2 ≤ (List.take (i * 2) ((layL f ds.files i).flatMap fileCells) ++ fileCells (ds.files.getD (i - 1) default) ++ List.drop (i * 2 + 2) ((layL f ds.files i).flatMap fileCells)).length; rw [fset_all (by rw [layL_len hi]; omega), len_files, List.length_set, layL_len hi]; omega) (nl ?_)
   refine AWP.done (by kernel_rfl) ?_
   refine AW.eqS (S' := DSl b ds f (i - 1) A16 c16) (by
    have e := lay_swap (f := f) (l := ds.files) (i := i) hi (by omega)
    unfold DSl
    rw [← e]
    rfl) ?_
   refine AW.region ?_
   refine ym ?_
   refine Y1 (Yv.subN_i64 rfl eV eV (fun hg => by omega)) ?_
   refine ya ?_
   refine ⟨i - 1, ⟨by omega, fun y hy => ?_⟩, by omega, su (Sub.cons rfl (by rw [Int.natCast_sub (by omega)]; rfl) Sub.nil), rfl⟩
   rw [List.drop_eq_getElem_cons (by omega), show i - 1 + 1 = i by omega] at hy
   rcases List.mem_cons.1 hy with rfl | hy
   ·rw [← getD_eq' (by omega)]; exact h0t.2
   ·exact hall y hy
  try replace h0f := odf h0f
  simp only [Bool.or_eq_true, Bool.and_eq_true, Bool.or_eq_false_iff, Bool.and_eq_false_iff, Bool.not_eq_true', Bool.not_eq_false', decide_eq_true_eq, decide_eq_false_iff_not, Decidable.not_not] at h0f
  have hbx : i = 0 ∨ bl f.name (ds.files.getD (i - 1) default).name = false := by
   rcases h0f with h | h
   ·exact .inl (by omega)
   ·exact .inr h
  refine AW.perm (dsl_perm hi) ?_
  refine AW.exit ?_
  refine retN .nil ?_
  exact ⟨rfl, layL f ds.files i, A16, c16, lay_done hi hall hbx, rfl⟩

end Go.Proofs.YtpgbpdnmjeoeoaaGreat.V

namespace Go.Proofs.YtpgbpdnmjeoeoaaGreat.V
open Go Go.RowKit
theorem set_rows {l : List FileR} {q : Nat} (h : q < l.length) (f : FileR) : ∃ S', List.Sublist S' (l.map fileRow ++ [fileRow f]) ∧ ((l.set q f).map fileRow).Perm S' := by
 have e0 : l = l.take q ++ l[q] :: l.drop (q + 1) := by rw [← List.drop_eq_getElem_cons h, List.take_append_drop]
 refine ⟨(l.take q).map fileRow ++ ((l.drop (q + 1)).map fileRow ++ [fileRow f]), ?_, ?_⟩
 ·conv => rhs; rw [e0]
  rw [List.map_append, List.map_cons, List.append_assoc]
  exact (List.Sublist.refl _).append ((List.Sublist.refl _).cons _)
 rw [List.set_eq_take_append_cons_drop, if_pos h, List.map_append, List.map_cons]
 exact List.Perm.append_left _ (List.perm_append_singleton _ _).symm
section
variable {cx : Cx} {Q : Exit → Env → St → Prop} {env : Env} {S : St} {ops : Array Oper} {l' : List Oper} {K : Env → St → Prop}
theorem AW.setRow {code : Code} {a b c d : Ent} {l : List FileR} {q : Nat} (f : FileR) (hq : q < l.length) (hS : S = (a :: b :: c :: d :: l.map fileRow) ++ [fileRow f]) (h : AW cx code Q env (a :: b :: c :: d :: (l.set q f).map fileRow)) : AW cx code Q env S := by
 subst hS
 obtain ⟨S', h1, h2⟩ := set_rows hq f
 exact AW.drop (S' := a :: b :: c :: d :: S') ((((h1.cons_cons d).cons_cons c).cons_cons b).cons_cons a) (AW.perm ((((h2.cons d).cons c).cons b).cons a) h)
end
theorem PB.opn_set {n j : Nat} {p : PW} {d : Desc} (h : PB n p) (hd : d.place ≤ n) : PB n { p with opn := p.opn.set j d } :=
 ⟨by show (p.opn.set j d).length = 19; rw [List.length_set]; exact h.opn, h.tr, h.txt, h.fl, fun x hx => by
  rcases List.mem_or_eq_of_mem_set hx with hx | rfl
  ·exact h.pl x hx
  ·exact hd, h.sin, h.nf⟩
end Go.Proofs.YtpgbpdnmjeoeoaaGreat.V

namespace Go.Proofs.YtpgbpdnmjeoeoaaGreat.V
open Go Go.RowKit
def wfP (name : Nm) (s : List UInt8) (p : PW) : PW := if openV name 577 p < 0 then p else closeP (openV name 577 p) (writeP (openV name 577 p) s (openP name 577 p))
def DWr (name : Nm) (s : List UInt8) (p p' : PW) : Prop := ∃ p1, DOpen name 577 p p1 ∧ p' = if openV name 577 p < 0 then p1 else closeP (openV name 577 p) (writeP (openV name 577 p) s p1)
theorem PB.mono {n m : Nat} {p : PW} (h : PB n p) (hm : n ≤ m) : PB m p := ⟨h.opn, Nat.le_trans h.tr hm, fun e he => Nat.le_trans (h.txt e he) hm, fun f hf => Nat.le_trans (h.fl f hf) hm, fun d hd => Nat.le_trans (h.pl d hd) hm, Nat.le_trans h.sin hm, Nat.le_trans h.nf hm⟩
theorem PB.close {n : Nat} {p : PW} (h : PB n p) (fd : Int) : PB n (closeP fd p) := by
 unfold closeP
 split
 ·exact h
 exact h.opn_set (Nat.zero_le n)
theorem PB.open0 {n : Nat} {p : PW} (h : PB n p) (name : Nm) (flags : Int) (hf : ¬ flags = 577) : PB n (openP name flags p) := by
 unfold openP
 split
 ·exact h
 exact h.opn_set (Nat.zero_le n)
theorem putP_fl {name : Nm} {b : List UInt8} {n : Nat} {l : Fl} (h : ∀ f ∈ l, f.2.length ≤ n) (hb : b.length ≤ n) : ∀ f ∈ putP name b l, f.2.length ≤ n := by
 intro f hf
 induction l with
 | nil => rw [putP] at hf; rw [List.mem_singleton.1 hf]; exact hb
 | cons x r ih =>
  rw [putP] at hf
  split at hf
  ·rcases List.mem_cons.1 hf with rfl | hf
   ·exact hb
   ·exact h f (List.mem_cons_of_mem _ hf)
  ·rcases List.mem_cons.1 hf with rfl | hf
   ·exact h _ (List.mem_cons_self ..)
   ·exact ih (fun g hg => h g (List.mem_cons_of_mem _ hg)) hf
theorem putP_ln {name : Nm} {b : List UInt8} : ∀ {l : Fl}, (putP name b l).length ≤ l.length + 1
 | [] => by simp [putP]
 | x :: r => by
  rw [putP]
  split
  ·simp
  ·have := putP_ln (name := name) (b := b) (l := r)
   simp only [List.length_cons]
   omega
theorem PB.opened {n : Nat} {p : PW} (h : PB n p) (name : Nm) : PB (n + 1) (openP name 577 p) := by
 unfold openP
 split
 ·exact h.mono (by omega)
 rw [if_pos rfl]
 refine ⟨?_, ?_, fun e he => ?_, putP_fl (fun f hf => Nat.le_trans (h.fl f hf) (by omega)) (Nat.zero_le _), fun d hd => ?_, Nat.le_trans h.sin (by omega), ?_⟩
 ·show (p.opn.set _ _).length = 19
  rw [List.length_set]
  exact h.opn
 ·show (p.trace ++ [_]).length ≤ n + 1
  rw [List.length_append]
  have := h.tr
  simp only [List.length_cons, List.length_nil]
  omega
 ·rcases List.mem_append.1 he with he | he
  ·have := h.txt e he; omega
  rw [List.mem_singleton.1 he]; exact Nat.zero_le _
 ·rcases List.mem_or_eq_of_mem_set hd with hd | rfl
  ·have := h.pl d hd; omega
  exact Nat.zero_le _
 have := putP_ln (name := name) (b := []) (l := p.files)
 have := h.nf
 show (putP name [] p.files).length ≤ n + 1
 omega
theorem PB.read {n : Nat} {p : PW} (h : PB n p) (fd N : Int) : PB n (readP fd N p) := by
 unfold readP
 split
 ·exact ⟨h.opn, h.tr, h.txt, h.fl, h.pl, by simp only [List.length_drop]; have := h.sin; omega, h.nf⟩
 split
 ·rename_i hk
  by_cases hin : fd < 0 ∨ 19 ≤ fd
  ·unfold kindP at hk
   rw [if_pos hin] at hk
   exact absurd hk (by decide)
  have hjl : fd.toNat < p.opn.length := by have := h.opn; omega
  have hpj := h.pl (p.opn.getD fd.toNat default) (getD_mem' hjl)
  -- what is read lies in the file
  have hle : (((getP (p.opn.getD fd.toNat default).name p.files).getD []).drop (p.opn.getD fd.toNat default).place).length ≤ n - (p.opn.getD fd.toNat default).place := by
   rw [List.length_drop]
   cases e : getP (p.opn.getD fd.toNat default).name p.files with
   | none => simp
   | some b =>
    have := h.fl _ (getP_mem e)
    simp only [Option.getD_some]
    simp only at this
    omega
  refine h.opn_set ?_
  show (p.opn.getD fd.toNat default).place + _ ≤ n
  rw [List.length_take]
  omega
 exact h
theorem sayF_pb {n : Nat} {k : Int} {name text : List UInt8} {l : List Evt} (h1 : l.length ≤ n) (h2 : ∀ e ∈ l, e.text.length ≤ n) : (sayF k name text l).length ≤ n + 1 + text.length ∧ ∀ e ∈ sayF k name text l, e.text.length ≤ n + 1 + text.length := by
 unfold sayF
 split
 ·exact ⟨by omega, fun e he => by have := h2 e he; omega⟩
 split
 ·rename_i hc
  refine ⟨by rw [List.length_set]; omega, fun e he => ?_⟩
  rcases List.mem_or_eq_of_mem_set he with he | rfl
  ·have := h2 e he; omega
  have := h2 _ (last_mem hc.1)
  simp only [List.length_append]; omega
 refine ⟨by simp; omega, fun e he => ?_⟩
 rcases List.mem_append.1 he with he | he
 ·have := h2 e he; omega
 rcases List.mem_singleton.1 he with rfl
 simp only; omega
theorem PB.write {n : Nat} {p : PW} (h : PB n p) (fd : Int) (s : List UInt8) : PB (n + 1 + s.length) (writeP fd s p) := by
 unfold writeP
 split
 ·have := sayF_pb (k := 1) (name := []) (text := s) h.tr h.txt
  exact ⟨h.opn, this.1, this.2, fun f hf => by have := h.fl f hf; omega, fun d hd => by have := h.pl d hd; omega, by have := h.sin; show p.stdin.length ≤ _; omega, by have := h.nf; show p.files.length ≤ _; omega⟩
 split
 ·have := sayF_pb (k := 2) (name := []) (text := s) h.tr h.txt
  exact ⟨h.opn, this.1, this.2, fun f hf => by have := h.fl f hf; omega, fun d hd => by have := h.pl d hd; omega, by have := h.sin; show p.stdin.length ≤ _; omega, by have := h.nf; show p.files.length ≤ _; omega⟩
 split
 ·rename_i hk
  split
  ·exact h.mono (by omega)
  by_cases hin : fd < 0 ∨ 19 ≤ fd
  ·unfold kindP at hk
   rw [if_pos hin] at hk
   exact absurd hk (by decide)
  have hjl : fd.toNat < p.opn.length := by have := h.opn; omega
  have hpj := h.pl (p.opn.getD fd.toNat default) (getD_mem' hjl)
  have ht := sayF_pb (k := 3) (name := (p.opn.getD fd.toNat default).name) (text := s) h.tr h.txt
  have hwl := writeAt_len ((getP (p.opn.getD fd.toNat default).name p.files).getD []) (p.opn.getD fd.toNat default).place s
  have hg : ((getP (p.opn.getD fd.toNat default).name p.files).getD []).length ≤ n := by
   cases e : getP (p.opn.getD fd.toNat default).name p.files with
   | none => exact Nat.zero_le _
   | some b => exact h.fl _ (getP_mem e)
  refine ⟨by show (p.opn.set _ _).length = 19; rw [List.length_set]; exact h.opn, ht.1, ht.2, putP_fl (fun f hf => by have := h.fl f hf; omega) (by rw [hwl]; omega), fun d hd => ?_, by have := h.sin; show p.stdin.length ≤ _; omega, ?_⟩
  ·rcases List.mem_or_eq_of_mem_set hd with hd | rfl
   ·have := h.pl d hd; omega
   show _ + s.length ≤ _; omega
  have := putP_ln (name := (p.opn.getD fd.toNat default).name) (b := writeAt ((getP (p.opn.getD fd.toNat default).name p.files).getD []) (p.opn.getD fd.toNat default).place s) (l := p.files)
  have := h.nf
  show (putP _ _ p.files).length ≤ _
  omega
 exact h.mono (by omega)
theorem Side.wf {r d d' : PW} {name : Nm} {s : List UInt8} (h : Side r d) (hn : Named r) (hw : DWr name s d d') : Side (wfP name s r) d' := by
 obtain ⟨d1, h1, rfl⟩ := hw
 have hs := h.openD h1
 unfold wfP
 rw [h.openV]
 by_cases hv : Go.Proofs.YtpgbpdnmjeoeoaaGreat.V.openV name 577 r < 0
 ·rw [if_pos hv, if_pos hv]
  unfold openP at hs
  rw [if_pos hv] at hs
  exact hs
 rw [if_neg hv, if_neg hv]
 exact (hs.write (named_open hn name 577) _ s).close _
theorem named_wf {p : PW} (h : Named p) (name : Nm) (s : List UInt8) : Named (wfP name s p) := by
 unfold wfP
 split
 ·exact h
 exact named_close (named_write (named_open h name 577) _ s) _
theorem PB.wf {n : Nat} {p : PW} (h : PB n p) (name : Nm) (s : List UInt8) : PB (n + 2 + s.length) (wfP name s p) := by
 unfold wfP
 split
 ·exact h.mono (by omega)
 exact (((h.opened name).write _ s).close _).mono (by omega)
end Go.Proofs.YtpgbpdnmjeoeoaaGreat.V

namespace Go.Proofs.YtpgbpdnmjeoeoaaGreat.V
open Go Go.RowKit
theorem fcn_at {l : List (List UInt8 × List UInt8)} {j : Nat} (h : j < l.length) : (l.flatMap fCells)[j * 2 + 0]? = some (sv (l.getD j default).1) := flat_at fk h 0 (by decide)
theorem fct_at {l : List (List UInt8 × List UInt8)} {j : Nat} (h : j < l.length) : (l.flatMap fCells)[j * 2 + 1]? = some (sv (l.getD j default).2) := flat_at fk h 1 (by decide)
theorem fits_eq (s : List UInt8) : fitsB s = ((decide (1 ≤ (s.length : Int)) && decide ((s.length : Int) ≤ 255)) && !badN s) := by
 unfold fitsB
 have h1 : (!decide (s = [])) = decide (1 ≤ (s.length : Int)) := by
  cases s with
  | nil => rfl
  | cons a r =>
   have : (1 : Int) ≤ ((a :: r).length : Int) := by simp only [List.length_cons]; omega
   rw [decide_eq_true this]
   simp
 have h2 : decide (Lib.indexByte s 0 < 0) = !badN s := by
  have h := idx_bad s
  cases hb : badN s
  ·rw [hb] at h
   have : Lib.indexByte s 0 < 0 := by
    rcases Int.lt_or_le (Lib.indexByte s 0) 0 with q | q
    ·exact q
    ·exact absurd (h.1 q) (by decide)
   rw [decide_eq_true this]; rfl
  ·rw [hb] at h
   have : ¬ Lib.indexByte s 0 < 0 := by have := h.2 rfl; omega
   rw [decide_eq_false this]; rfl
 rw [h1, h2]
structure NI (p fs : Fl) : Prop where
 srt : Srt fs
 perm : p.Perm fs
theorem NI.nil : NI (nF []) [] := ⟨List.Pairwise.nil, List.Perm.refl _⟩
theorem any_none {name : Nm} {l : Fl} : (l.any fun y => decide (y.1 = name)) = (getP name l).isSome := by
 induction l with
 | nil => rfl
 | cons x r ih =>
  rw [List.any_cons, getP, ih]
  by_cases h : x.1 = name <;> simp [h]
theorem perm_isSome {name : Nm} {l l' : Fl} (h : l.Perm l') : (getP name l).isSome = (getP name l').isSome := by
 rw [← any_none, ← any_none]
 apply Bool.eq_iff_iff.2
 rw [List.any_eq_true, List.any_eq_true]
 exact ⟨fun ⟨x, hx, q⟩ => ⟨x, h.subset hx, q⟩, fun ⟨x, hx, q⟩ => ⟨x, h.symm.subset hx, q⟩⟩
theorem NI.add {l : Fl} {j : Nat} {fs fs' : Fl} (h : NI (nF (l.take j)) fs) (hj : j < l.length) (hf : fitsB (l.getD j default).1 = true) (hg : getP (l.getD j default).1 fs = none) (hl : Laid (l.getD j default) fs fs') : NI (nF (l.take (j + 1))) fs' := by
 have h1 := laid_srt h.srt hg hl
 refine ⟨h1.1, ?_⟩
 have hn : ((nF (l.take j)).any fun y => decide (y.1 = (l.getD j default).1)) = false := by
  rw [any_none, perm_isSome h.perm, hg]
  rfl
 rw [nF_succ hj, stepN, hn, hf]
 refine List.Perm.trans ?_ h1.2
 rw [putP_new hg]
 exact h.perm.append_right _
theorem NI.skip {l : Fl} {j : Nat} {fs : Fl} (h : NI (nF (l.take j)) fs) (hj : j < l.length) (hf : fitsB (l.getD j default).1 = false ∨ ¬ getP (l.getD j default).1 fs = none) : NI (nF (l.take (j + 1))) fs := by
 refine ⟨h.srt, ?_⟩
 rw [nF_succ hj, stepN, if_neg ?_]
 ·exact h.perm
 rw [Bool.and_eq_true, Bool.not_eq_true', any_none, perm_isSome h.perm]
 rintro ⟨a, b⟩
 rcases hf with q | q
 ·rw [b] at q; cases q
 cases e : getP (l.getD j default).1 fs with
 | none => exact q e
 | some x => rw [e] at a; cases a
def ds0 (fs : List FileR) (lA : Option Addr) (lc : Nat) (stdin : List UInt8) : DS := ⟨fs, lA, lc, stdin, [], none, 0, [], none, 0⟩
theorem new_perm (b : Nat) (fs : List FileR) (lA : Option Addr) (lc : Nat) (stdin : List UInt8) {A : Option Addr} : (DSt b { ds0 fs lA lc stdin with opn := opnZ, dA := A, dc := 19 }).Perm
    (.box b 84 [.v (.slice lA fs.length lc), sv stdin, .v (.slice A 19 19), .v (.slice none 0 0)] :: .row lA fs.length lc 141 2 (fs.flatMap fileCells) :: .row none 0 0 86 3 [] :: (fs.map fileRow ++ [.row A 19 19 110 3 (opnZ.flatMap descCells)])) := by
 refine List.Perm.cons _ (List.Perm.cons _ ?_)
 refine List.Perm.trans (List.Perm.swap _ _ _) (List.Perm.cons _ ?_)
 exact (List.perm_append_singleton _ _).symm
theorem ni_len {p fs : Fl} (h : NI p fs) : fs.length = p.length := h.perm.length_eq.symm
theorem nF_len (l : Fl) (j : Nat) (hj : j ≤ l.length) : (nF (l.take j)).length ≤ j := by
 induction j with
 | zero => simp [nF]
 | succ j ih =>
  have h1 := ih (by omega)
  rw [nF_succ (by omega), stepN]
  split
  ·rw [List.length_append]
   simp only [List.length_cons, List.length_nil]
   omega
  ·omega
end Go.Proofs.YtpgbpdnmjeoeoaaGreat.V
