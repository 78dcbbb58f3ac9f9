/-
  TEXTS JOINED: GGe, Gk7, GGf, GGl, Zn, Zk17n, Gk2n, GGp, GGy, GGr, GGk.
-/
import Derived.Test.YtpgbpdnmjeoeoaaGreatYk
set_option linter.unusedSimpArgs false
set_option linter.unusedVariables false
set_option linter.unusedSectionVars false
set_option linter.unnecessarySimpa false
namespace Go.Proofs.YtpgbpdnmjeoeoaaGreat.G
open Go Go.RowKit B
set_option maxRecDepth 100000
section
variable {RF : Int → Wd64 → Wd64 → Wd64} {P : Prog} {h : Wd64} {e b : Bool} {w w' : V.PW} {s s' : Sy} {m : Mc} {obs : List Ob}
end
/-! ### bytes of words -/
theorem le_lt (m : Mf) (a : Wd64) : ∀ n, n ≤ 8 → (leF m a n).toNat < 2 ^ (8 * n) ∧ (n < 8 → (leF m a (n + 1)).toNat = (leF m a n).toNat + 2 ^ (8 * n) * (m (a + wI (n : Int))).toNat) := by
 have key : ∀ n, n < 8 → (leF m a n).toNat < 2 ^ (8 * n) → (leF m a (n + 1)).toNat = (leF m a n).toNat + 2 ^ (8 * n) * (m (a + wI (n : Int))).toNat := fun n hn hl => by
  have hb : (m (a + wI (n : Int))).toNat < 256 := UInt8.toNat_lt _
  have h3 : 2 ^ (8 * (n + 1)) ≤ 2 ^ 64 := Nat.pow_le_pow_right (by decide) (by omega)
  have h4 : 2 ^ (8 * (n + 1)) = 256 * 2 ^ (8 * n) := by rw [show 8 * (n + 1) = 8 + 8 * n by omega, Nat.pow_add]
  have h5 : 0 < 2 ^ (8 * n) := Nat.pow_pos (by decide)
  have h6 := Nat.mul_lt_mul_of_pos_right hb h5
  rw [leF, BitVec.toNat_or, BitVec.toNat_shiftLeft, bw_nat, Nat.shiftLeft_eq, Nat.mod_eq_of_lt (by omega), Nat.or_comm, ← Nat.shiftLeft_eq, ← Nat.shiftLeft_add_eq_or_of_lt hl, Nat.shiftLeft_eq, Nat.mul_comm (2 ^ (8 * n)), Nat.add_comm]
 intro n
 induction n with
 | zero => exact fun _ => ⟨by rw [leF]; decide, fun h => key 0 h (by rw [leF]; decide)⟩
 | succ n ih =>
  intro hn
  obtain ⟨l1, l2⟩ := ih (by omega)
  have l3 := l2 (by omega)
  have hb : (m (a + wI (n : Int))).toNat < 256 := UInt8.toNat_lt _
  have h4 : 2 ^ (8 * (n + 1)) = 2 ^ (8 * n) * 256 := by rw [show 8 * (n + 1) = 8 * n + 8 by omega, Nat.pow_add]
  have h6 : 2 ^ (8 * n) * (m (a + wI (n : Int))).toNat ≤ 2 ^ (8 * n) * 255 := Nat.mul_le_mul_left _ (by omega)
  have h7 : (leF m a (n + 1)).toNat < 2 ^ (8 * (n + 1)) := by omega
  exact ⟨h7, fun h => key (n + 1) h h7⟩
theorem le_sum (m : Mf) (a : Wd64) : (leF m a 8).toNat = (m (a + wI ((0 : Nat) : Int))).toNat + 256 * (m (a + wI ((1 : Nat) : Int))).toNat + 65536 * (m (a + wI ((2 : Nat) : Int))).toNat + 16777216 * (m (a + wI ((3 : Nat) : Int))).toNat + 4294967296 * (m (a + wI ((4 : Nat) : Int))).toNat + 1099511627776 * (m (a + wI ((5 : Nat) : Int))).toNat + 281474976710656 * (m (a + wI ((6 : Nat) : Int))).toNat + 72057594037927936 * (m (a + wI ((7 : Nat) : Int))).toNat := by
 have h0 : (leF m a 1).toNat = (leF m a 0).toNat + 1 * (m (a + wI ((0 : Nat) : Int))).toNat := (le_lt m a 0 (by omega)).2 (by omega)
 have h1 : (leF m a 2).toNat = (leF m a 1).toNat + 256 * (m (a + wI ((1 : Nat) : Int))).toNat := (le_lt m a 1 (by omega)).2 (by omega)
 have h2 : (leF m a 3).toNat = (leF m a 2).toNat + 65536 * (m (a + wI ((2 : Nat) : Int))).toNat := (le_lt m a 2 (by omega)).2 (by omega)
 have h3 : (leF m a 4).toNat = (leF m a 3).toNat + 16777216 * (m (a + wI ((3 : Nat) : Int))).toNat := (le_lt m a 3 (by omega)).2 (by omega)
 have h4 : (leF m a 5).toNat = (leF m a 4).toNat + 4294967296 * (m (a + wI ((4 : Nat) : Int))).toNat := (le_lt m a 4 (by omega)).2 (by omega)
 have h5 : (leF m a 6).toNat = (leF m a 5).toNat + 1099511627776 * (m (a + wI ((5 : Nat) : Int))).toNat := (le_lt m a 5 (by omega)).2 (by omega)
 have h6 : (leF m a 7).toNat = (leF m a 6).toNat + 281474976710656 * (m (a + wI ((6 : Nat) : Int))).toNat := (le_lt m a 6 (by omega)).2 (by omega)
 have h7 : (leF m a 8).toNat = (leF m a 7).toNat + 72057594037927936 * (m (a + wI ((7 : Nat) : Int))).toNat := (le_lt m a 7 (by omega)).2 (by omega)
 have hz : (leF m a 0).toNat = 0 := by rw [leF]; rfl
 omega
theorem le_byte (m : Mf) (a x : Wd64) (h : leF m a 8 = x) (j : Nat) (hj : j < 8) : m (a + wI (j : Int)) = UInt8.ofNat (x.toNat / 2 ^ (8 * j) % 256) := by
 have hs := le_sum m a
 rw [h] at hs
 have hb : ∀ i : Nat, (m (a + wI (i : Int))).toNat < 256 := fun i => UInt8.toNat_lt _
 have b0 := hb 0; have b1 := hb 1; have b2 := hb 2; have b3 := hb 3; have b4 := hb 4; have b5 := hb 5; have b6 := hb 6; have b7 := hb 7
 apply UInt8.toNat_inj.1
 rw [UInt8.toNat_ofNat', hs]
 match j, hj with
 | 0, _ => omega
 | 1, _ => omega
 | 2, _ => omega
 | 3, _ => omega
 | 4, _ => omega
 | 5, _ => omega
 | 6, _ => omega
 | 7, _ => omega
 | n + 8, q => exact absurd q (by omega)
/-! ### behind gc.start -/
theorem st_more (h : Wd64) (b : Bool) (c : Nat → Wd64) : (symS (stS h b c)).c 32 = 1073741824#64 ∧ (symS (stS h b c)).c 34 = 1073741824#64 + prt h * 2#64 ∧ (symS (stS h b c)).c 36 = 1073741824#64 + prt h * 2#64 ∧ (symS (stS h b c)).c 37 = 1073741824#64 + prt h * 2#64 + prt h * 4#64 ∧ (symS (stS h b c)).c 38 = 1073741824#64 + prt h * 2#64 + prt h * 4#64 ∧ (symS (stS h b c)).c 39 = 1073741824#64 + prt h * 2#64 + prt h * 4#64 + prt h * 4#64 ∧ (symS (stS h b c)).c 40 = 1073741824#64 + prt h * 2#64 + prt h * 4#64 + prt h * 4#64 ∧ (symS (stS h b c)).c 47 = prt h * 4#64 := by
 cases b <;> exact ⟨by kernel_rfl, by kernel_rfl, by kernel_rfl, by kernel_rfl, by kernel_rfl, by kernel_rfl, by kernel_rfl, by kernel_rfl⟩
theorem add_sub_l (x y : Wd64) : x + y - x = y := by rw [BitVec.add_comm]; exact BitVec.add_sub_cancel _ _
end Go.Proofs.YtpgbpdnmjeoeoaaGreat.G

namespace Go.Proofs.YtpgbpdnmjeoeoaaGreat.G
open Go Go.RowKit

def pickF (c : Int) (n : Int) : Int := (if c < 0 then -(c + 1) else c) % n
theorem pick_in (c : Int) {n : Int} (h : 0 < n) : 0 ≤ pickF c n ∧ pickF c n < n := ⟨Int.emod_nonneg _ (by omega), Int.emod_lt_of_pos _ h⟩
def sizeG (n : Int) : Wd64 := 65536#64 + wI (pickF n 40000)
theorem size_n (n : Int) : 65536 ≤ (sizeG n).toNat ∧ (sizeG n).toNat < 105536 := by
 obtain ⟨h0, h1⟩ := pick_in n (n := 40000) (by decide)
 have h := wI_nat (pickF n 40000)
 rw [wrap_u64] at h
 unfold sizeG
 rw [BitVec.toNat_add, show (65536#64 : Wd64).toNat = 65536 from rfl]
 omega
set_option maxHeartbeats 400000 in
theorem pick12 (c n : Int) (h0 : -9223372036854775808 ≤ c) (h1 : c ≤ 9223372036854775807) (h2 : 0 < n) :
    ACalls Tryz.prog 12 [zi c, zi n] [] (fun t S => t = zi (pickF c n)) := by
 refine ACalls.intro Tryz.func12 rfl Tryz.ntmps12 nB rfl fun X w0 => ?_
 refine ra ?_
 refine AW.seq ?_
 refine rs (ym ?_)
 refine Y1 (Yv.lss rfl eV eV) (nl ?_)
 refine AW.cond rfl (fun h0t => ?_) (fun h0f => ?_)
 ·try replace h0t := odt h0t
  refine AW.region ?_
  refine ym ?_
  refine Y1 (Yv.addN_i64 rfl eV eV (fun hg => by omega)) ?_
  refine Y1 (Yv.neg rfl eV) ?_
  have e9 : IntKind.i64.wrap (0 - (c + 1)) = -(c + 1) := by rw [IntWalk.i64_in _ (by omega)]; omega
  rw [e9]
  refine ya ?_
  refine rs (ym ?_)
  refine ym ?_
  refine Y1 (Yv.remN rfl eV eV (fun hg => by omega)) ?_
  refine ya ?_
  refine AW.ret (retI (.tmp rfl .nil) ?_)
  unfold pickF; rw [if_pos h0t]; rfl
 try replace h0f := odf h0f
 refine AW.skip ?_
 refine rs (ym ?_)
 refine ym ?_
 refine Y1 (Yv.remN rfl eV eV (fun hg => by omega)) ?_
 refine ya ?_
 refine AW.ret (retI (.tmp rfl .nil) ?_)
 unfold pickF; rw [if_neg h0f]; rfl

set_option maxHeartbeats 400000 in
theorem size11 (n : Int) (h0 : -9223372036854775808 ≤ n) (h1 : n ≤ 9223372036854775807) :
    ACalls Tryz.prog 11 [zi n] [] (fun t S => t = zw (sizeG n)) := by
 refine ACalls.intro Tryz.func11 rfl Tryz.ntmps11 nB rfl fun X w0 => ?_
 refine ra ?_
 refine rs (ym ?_)
 refine AWL.callT rfl rfl (B rfl) rfl ce_12 (E rfl rfl) (evsC (E rfl rfl) (evsC (E rfl rfl) evs0)) (pick12 n 40000 h0 h1 (by decide)) ?_
 rintro t4 S4 rfl
 refine Y1 (Yv.convW rfl Tryz.underlying3 kd_22 eV) ?_
 refine Y1 (Yv.addW (a := 65536#64) rfl eV eV) ?_
 refine ya ?_
 refine AW.ret (retI (.tmp rfl .nil) ?_)
 rfl

end Go.Proofs.YtpgbpdnmjeoeoaaGreat.G

namespace Go.Proofs.YtpgbpdnmjeoeoaaGreat.G
open Go Go.RowKit B
set_option maxRecDepth 100000
def nmAlloc : List UInt8 := [103, 99, 46, 97, 108, 108, 111, 99]
def nameNo (n : Nat) (nm : List UInt8) : Bool := (List.range n).all fun j => !decide ((gcP.funs.getD j default).name = nm)
theorem name_no {n : Nat} {nm : List UInt8} (h : nameNo n nm = true) : ∀ j, j < n → (gcP.funs.getD j default).name ≠ nm := fun j hj e => by
 have := List.all_eq_true.1 h j (List.mem_range.2 hj)
 rw [decide_eq_true e] at this
 cases this
section
variable {L : DLay} {m2 mR : Mc} {q2 : DQ} {y n : Wd64}
end
end Go.Proofs.YtpgbpdnmjeoeoaaGreat.G

namespace Go.Proofs.YtpgbpdnmjeoeoaaGreat.G
open Go Go.RowKit B
set_option maxRecDepth 100000
structure Live (y : Wd64) (c : Nat → Wd64) (B : Int) (m : Mc) (q : DQ) : Prop where
 prog : m.c.prog = gcP
 heap : m.c.heap = y
 strict : m.c.strict = false
 w : m.w = w00
 c : Cells c m.mem
 rel : DRel m q
 s0 : 0 ≤ m.c.steps
 s1 : m.c.steps ≤ B
theorem Live.of {y : Wd64} {c : Nat → Wd64} {v : Wd64} {B : Int} {m mR : Mc} {q : DQ} (hd : DEnd m mR) (he : Ended gcP y w00 c v mR) (hq : DRel m q) (hs : 0 ≤ m.c.steps ∧ m.c.steps ≤ B) : Live y c B m q := by
 have e : Ended gcP y w00 c v m := by
  rcases hd with rfl | ⟨_, at_, rfl⟩
  ·exact he
  ·exact ⟨he.prog, he.heap, he.strict, he.st, he.ans, he.w, he.c⟩
 exact ⟨e.prog, e.heap, e.strict, e.w, e.c, hq, hs.1, hs.2⟩
section
variable {L : DLay} {m : Mc} {q : DQ} {y : Wd64} {c c' : Nat → Wd64} {B : Int}
/-! ### stores -/
theorem th_heap {P : Prog} {a : Wd64} (ha : 1073741824 ≤ a.toNat) (hb : a.toNat + 8 ≤ 1073741824 + y.toNat) : thereF (psData P) y a (wI 8) = true := by
 have hs : (a - 1073741824#64).toNat = a.toNat - 1073741824 := by
  rw [BitVec.toNat_sub, BitVec.toNat_ofNat]
  have := a.isLt
  omega
 have h8n : (wI 8).toNat = 8 := rfl
 have hr : (y - (a - 1073741824#64)).toNat = y.toNat - (a.toNat - 1073741824) := by
  rw [BitVec.toNat_sub, hs]
  have := y.isLt
  omega
 unfold thereF inF
 simp only [Bool.or_eq_true, Bool.and_eq_true, decide_eq_true_eq, BitVec.le_def]
 right
 refine ⟨⟨?_, ?_⟩, ?_⟩
 ·rw [BitVec.toNat_ofNat]; omega
 ·rw [hs]; omega
 rw [hr, h8n]; omega
theorem Cells.far {m : Mf} (h : Cells c m) {a x : Wd64} (ha : 268435856 ≤ a.toNat) (hb : a.toNat + 8 ≤ 18446744073709551616) : Cells c (putsF m a x 8) := by
 intro j hj
 refine Eq.trans (le_ext 8 (fun i hi => puts_out _ _ _ _ _ (fun l hl q => ?_))) (h j hj)
 have := congrArg BitVec.toNat q
 have hl2 := wI_nat (l : Int)
 rw [wrap_u64] at hl2
 rw [cell_at _ _ hj hi, BitVec.toNat_add] at this
 omega
def storeM (m : Mc) (a x : Wd64) : Mc := { m with mem := putsF m.mem a x 8 }
theorem DStoreP (hL : Live y c B m q) (a x : Wd64) (ht : thereF (psData gcP) y a (wI 8) = true) :
    ACalls Tryz.prog 15 [.v (.pointer (some ⟨L.s, 0, none⟩)), zw a, zi 8, zw x] (DP L m q) (fun t S => ∃ q', t = bv true ∧ (∀ c', Cells c' (putsF m.mem a x 8) → Live y c' B (storeM m a x) q') ∧ S = DP L (storeM m a x) q') := by
 have hpr := hL.prog
 have h := DStore18 L.s L.pg (psLD L m.c) q.ob (.v (.slice (some ⟨q.g, 0, none⟩) (q.K.length + 1) q.c)) q.l rfl hL.rel.ok (by show m.c.prog.data.length ≤ _; rw [hpr]; exact gc_in.data) (by show 0 ≤ m.c.prog.zero; rw [hpr]; exact gc_ok.zero.1) (by show m.c.prog.zero ≤ _; rw [hpr]; exact gc_ok.zero.2) a 8 x
 have ht' : (sizeOk 8 && thereF (psData (psLD L m.c).prog) (psLD L m.c).heap a (wI 8)) = true := by
  show (sizeOk 8 && thereF (psData m.c.prog) m.c.heap a (wI 8)) = true
  rw [hpr, hL.heap, ht]; rfl
 refine ACalls.part _ h permL ?_
 rintro t S ⟨rfl, l', rfl, hl', hg⟩
 rw [if_pos ht', hL.rel.mem] at hg
 refine ⟨DP L (storeM m a x) ⟨q.g, q.c, q.a, q.K, l', q.ds, q.ob⟩, permL, ⟨q.g, q.c, q.a, q.K, l', q.ds, q.ob⟩, by rw [ht'], fun c' hc' => ⟨hL.prog, hL.heap, hL.strict, hL.w, hc', ⟨hL.rel.bl, hl', hg, hL.rel.w⟩, hL.s0, hL.s1⟩, rfl⟩
end
structure Idle (y u : Wd64) (c : Nat → Wd64) : Prop where
 top : c 0 = c 1
 raised : c 3 = 1#64
 exns : ∀ k, k < 8 → c (5 + 2 * k) = 1#64
 nb : c 32 = 1073741824#64
 nn : c 33 = 1073741824#64 + u
 ne : c 34 = 1073741824#64 + prt y * 2#64
 on : c 36 = c 35
 oe : c 37 = c 35 + c 47
 mke : c 40 = c 39
 hf : c 47 = prt y * 4#64
theorem ok_cons {k : Int} {u v : Wd64} {b : Bool} {l : List Ob} (h : holdsF k u v = b) (hl : ∀ o ∈ l, o.ok) : ∀ o ∈ (⟨k, u, v, b⟩ : Ob) :: l, o.ok := fun o ho => by
 rcases List.mem_cons.1 ho with e | e
 ·rw [e]; exact h
 ·exact hl o e
theorem ok_nil : ∀ o ∈ ([] : List Ob), o.ok := fun o q => by cases q
section
variable {y u n : Wd64} {c : Nat → Wd64}
theorem prt_n (hy : y.toNat < 105536) : (prt y).toNat = y.toNat / 128 * 8 := heap_n (by omega)
/-! gc.alloc of a little -/
def lsS (h n : Wd64) (c : Nat → Wd64) : Option (Sy × List Ob) := srun gcP h [false, false] 14 ⟨⟨2, 0, argsR 0 [.wd n], 0⟩, [], c⟩ []
theorem ls_some (h n : Wd64) (c : Nat → Wd64) : lsS h n c = some (symS (lsS h n c), [⟨5, c 34, c 33 + n, false⟩, ⟨5, c 34 - c 32, n, false⟩]) := by kernel_rfl
theorem ls_at (h n : Wd64) (c : Nat → Wd64) : (insS gcP (symS (lsS h n c)).top).kind = 26 ∧ kn (insS gcP (symS (lsS h n c)).top).a.toNat (symS (lsS h n c)).top.ρ = some (.wd (c 33)) ∧ (symS (lsS h n c)).bl = [] := ⟨by kernel_rfl, by kernel_rfl, by kernel_rfl⟩
theorem ls_c (h n : Wd64) (c : Nat → Wd64) : (symS (lsS h n c)).c = updC c 33 (c 33 + n) := by kernel_rfl
theorem ult_no {a b : Wd64} (h : b.toNat ≤ a.toNat) : holdsF 5 a b = false := by
 unfold holdsF
 rw [if_neg (by decide), if_neg (by decide), if_neg (by decide), if_neg (by decide), if_pos rfl]
 exact decide_eq_false (by rw [BitVec.lt_def]; omega)
theorem ule_yes {a b : Wd64} (h : a.toNat ≤ b.toNat) : holdsF 6 a b = true := by
 unfold holdsF
 rw [if_neg (by decide), if_neg (by decide), if_neg (by decide), if_neg (by decide), if_neg (by decide)]
 exact decide_eq_true (by rw [BitVec.le_def]; exact h)
theorem ls_obs (hy : 65536 ≤ y.toNat ∧ y.toNat < 105536) (h : Idle y 0#64 c) (hn : n.toNat ≤ 8192) : ∀ o ∈ ([⟨5, c 34, c 33 + n, false⟩, ⟨5, c 34 - c 32, n, false⟩] : List Ob), o.ok := by
 have e := prt_n hy.2
 refine ok_cons (ult_no ?_) (ok_cons (ult_no ?_) ok_nil)
 ·rw [h.ne, h.nn]
  simp only [BitVec.toNat_add, BitVec.toNat_mul, BitVec.toNat_ofNat, e]
  omega
 rw [h.ne, h.nb, add_sub_l]
 simp only [BitVec.toNat_mul, BitVec.toNat_ofNat, e]
 omega
end
theorem st_idle {y : Wd64} {c : Nat → Wd64} (b : Bool) : Idle y 0#64 (symS (stS y b c)).c := by
 obtain ⟨g0, g1, g2, g3, g4⟩ := st_cells y b c
 obtain ⟨f32, f34, f36, f37, f38, f39, f40, f47⟩ := st_more y b c
 refine ⟨g0.trans g1.symm, g3, fun k hk => (g4 k hk).2, f32, ?_, f34, ?_, ?_, f40.trans f39.symm, f47⟩
 ·cases b <;> kernel_rfl
 ·cases b <;> kernel_rfl
 rw [f37, f47]; cases b <;> kernel_rfl
end Go.Proofs.YtpgbpdnmjeoeoaaGreat.G

namespace Go.Proofs.YtpgbpdnmjeoeoaaGreat
open Go Go.RowKit
def NoSys (p : Prog) (m : Mc) : Prop := ∀ j, (runM realF j m).c.st = 0 → (insOf p (advM (runM realF j m)).x).kind ≠ 30
section
variable {L : DLay} {p : Prog} {m : Mc} {q : DQ}
theorem adv_lab (hp : ProgOk p) (hm : MOk p m) (hk : (insOf p m.x).kind = 19) : advM { m with x := goF m.x } = advM m := by
 unfold advM
 dsimp only
 rw [hm.prog, adv_label hp hm.top hk]
theorem Dstep38n (hm : MOk p m) (hp : ProgOk p) (hpi : ProgIn p) (hbs : L.bs.length = p.funs.length) (hq : DRel m q) (h19 : (insOf p m.x).kind ≠ 19) (h30 : (insOf p m.x).kind ≠ 30) :
    ACalls Tryz.prog 47 [.v (.pointer (some ⟨L.s, 0, none⟩)), cpD q, .agg (insCells (insOf p m.x))] (DP L m q) (DStepR L m (insOf p m.x)) := by
 have hi := isF_in (hm.top.ins hp).is
 by_cases hJ : (insOf p m.x).kind = 20 ∨ (insOf p m.x).kind = 21
 ·exact DdoJ hm hp hpi hq hbs hJ
 by_cases hB : (insOf p m.x).kind = 26
 ·exact DdoB hm hp hpi hq hB
 by_cases hC : (insOf p m.x).kind = 22 ∨ (insOf p m.x).kind = 23 ∨ (insOf p m.x).kind = 24 ∨ (insOf p m.x).kind = 25
 ·exact DdoC hm hp hpi hq hC
 by_cases hSt : (insOf p m.x).kind = 18
 ·exact DdoSt hm hp hpi hq hSt
 by_cases hLd : (insOf p m.x).kind = 17
 ·exact DdoLd hm hp hpi hq hLd
 refine DdoV hm hp hpi hq ?_
 unfold valK
 omega
end
end Go.Proofs.YtpgbpdnmjeoeoaaGreat

namespace Go.Proofs.YtpgbpdnmjeoeoaaGreat
open Go Go.RowKit

set_option maxHeartbeats 16000000 in
theorem Run13n (L : DLay) (p : Prog) (hp : ProgOk p) (hpi : ProgIn p) (hbs : L.bs.length = p.funs.length) (m0 : Mc) (q0 : DQ) (f0 : Int) (hm0 : MOk p m0) (hq0 : DRel m0 q0) (hno : NoSys p m0) (hs0 : 0 ≤ m0.c.steps ∧ m0.c.steps ≤ 4611686018427387904) (hf0 : f0 ≤ 4611686018427387903) :
    ACalls Tryz.prog 26 [pv L.s, zi f0] (DP L m0 q0) (fun t S => ∃ m' q', t = zi m'.c.st ∧ DEnd m' (runM realF f0.toNat m0) ∧ DRel m' q' ∧ S = DP L m' q') := by
 refine ACalls.intro Tryz.func26 rfl Tryz.ntmps26 nB rfl fun X w0 => ?_
 refine ra ?_
 refine AW.seq ?_
 refine ra ?_
 refine AW.block ?_
 refine AW.loop3 (fun (m : Mc) (q : DQ) (k : Nat) => [(0, true, .v (.pointer (some ⟨L.s, 0, none⟩))), (1, true, zi f0), (5, true, zn k)]) (fun (m : Mc) (q : DQ) (k : Nat) => (([Ent.box L.s 75 (psD (psLD L m.c) q.ob (.v (.slice (some ⟨q.g, 0, none⟩) (q.K.length + 1) q.c))), Ent.row (some ⟨q.g, 0, none⟩) (q.K.length + 1) q.c 116 7 (rowD q.K ++ frD m.x q.a)] ++ frE m.x q.a) ++ (memD L q.l q.ds ++ (rowsF q.K ++ labF L m.c.prog)))) (fun (m : Mc) (q : DQ) (k : Nat) => MOk p m ∧ DRel m q ∧ runM realF (f0.toNat - k) m = runM realF f0.toNat m0 ∧ (∀ N : Nat, 0 < N → runM realF N m = runM realF (k + N) m0) ∧ advM m = advM (runM realF k m0) ∧ (k = 0 ∨ (k : Int) ≤ f0) ∧ 0 ≤ m.c.steps ∧ m.c.steps ≤ 4611686018427387904 + (k : Int)) (fun (m : Mc) (q : DQ) (k : Nat) => (f0.toNat - k) * 1048578 + (1048577 - m.x.at_.toNat)) m0 q0 0 ?_ ?_ ?_ ?_
 ·exact ⟨hm0, hq0, rfl, fun N _ => by rw [Nat.zero_add], rfl, .inl rfl, hs0.1, by omega⟩
 ·exact (su (su (su sn)))
 ·rfl
 intro m q k ⟨hm, hq, hrun, hfw, hadv, hff, hs1, hs2⟩
 have hpr := hm.prog
 have hfl : m.x.f.toNat < m.c.prog.funs.length := by rw [hpr]; exact hm.top.f1
 have hcl : (m.c.prog.funs.getD m.x.f.toNat default).code = (fnOf p m.x).code := by rw [hpr]; rfl
 have hcn : (m.c.prog.funs.getD m.x.f.toNat default).code.length = (fnOf p m.x).code.length := by rw [hcl]
 have hat0 := hm.top.a0
 have hat1 := hm.top.a1
 have hcb : (fnOf p m.x).code.length ≤ 1048576 := (hpi.fn _ (getD_mem hm.top.f1)).code
 have hflp : m.x.f.toNat < (psLD L m.c).prog.funs.length := hfl
 have hatp : m.x.at_.toNat < ((psLD L m.c).prog.funs.getD m.x.f.toNat default).code.length := by
  show _ < (m.c.prog.funs.getD m.x.f.toNat default).code.length
  rw [hcn]; exact hat1
 have hIq : ((psLD L m.c).prog.funs.getD m.x.f.toNat default).code.getD m.x.at_.toNat default = insOf p m.x := by
  show (m.c.prog.funs.getD m.x.f.toNat default).code.getD m.x.at_.toNat default = _
  rw [hpr]; rfl
 have hrl := rowD_len q.K
 have hKl : q.K.length < 1048576 := by
  have := hm.dep
  rw [← hq.bl, List.length_map] at this
  exact this
 refine AW.seq ?_
 refine rs (ym ?_)
 refine ym ?_
 refine Y1 (Yv.lss rfl eV eV) ?_
 refine ym ?_
 refine gT (Yv.move rfl eV) ?_
 refine gT (Yv.nilChk rfl (Eg rfl rfl id)) ?_
 refine gT (Yv.fieldBox rfl fo_75_8 (Eg rfl rfl id)) ?_
 refine gT (Yv.loadBox rfl ag_3 (i := 0) rfl (Eg rfl rfl id) rfl) ?_
 refine gT (Yv.eql rfl (Eg rfl rfl id) eV) ?_
 refine Y1 (Yv.pickAnd rfl eV (Eg rfl rfl id)) (nl ?_)
 refine AW.cond rfl (fun h0t => ?_) (fun h0f => ?_)
 ·try replace h0t := odt h0t
  have hgo : (k : Int) < f0 ∧ m.c.st = 0 := by
   have h : (k : Int) < f0 ∧ (psLD L m.c).st = 0 := by simpa using h0t
   exact h
  refine AW.skip ?_
  refine AW.block ?_
  refine AW.rseqQ rfl (by kernel_rfl) ?_
  refine qm ?_
  refine Q1 (Yv.nilChk rfl eV) ?_
  refine qf fo_75_6 ?_
  refine ql ag_73 0 ?_
  refine qm ?_
  refine Q1 (Yv.nilChk rfl eV) ?_
  refine qf fo_75_6 ?_
  refine ql ag_73 0 ?_
  refine Q1 (Yv.lenV rfl so_73 eV) ?_
  refine Q1 (Yv.subN_i64 rfl eV eV (fun hg => by omega)) ?_
  refine Q1 (Yv.indexRow (j := q.K.length) rfl ss_73 (i := 1) rfl eV eV (fun hg => ⟨by omega, by omega⟩)) ?_
  refine Q1 (Yv.assign rfl eV) ?_
  refine AWQ.nil ?_
  rw [← rowD_len q.K]
  show AW _ _ _ _ (([Ent.box L.s 75 (psD (psLD L m.c) q.ob (.v (.slice (some ⟨q.g, 0, none⟩) (q.K.length + 1) q.c))), Ent.row (some ⟨q.g, 0, none⟩) (q.K.length + 1) q.c 116 7 (rowD q.K ++ frD m.x q.a)] ++ frE m.x q.a) ++ (memD L q.l q.ds ++ (rowsF q.K ++ labF L m.c.prog)))
  refine AW.mid (α := Nat) (fun b7 => [(0, true, .v (.pointer (some ⟨L.s, 0, none⟩))), (1, true, zi f0), (5, true, zn k), (6, true, .ep (.slice (some ⟨q.g, 0, none⟩) (q.K.length + 1) q.c) (rowD q.K).length), (7, true, pv b7)]) (fun b7 => ([Ent.box L.s 75 (psD (psLD L m.c) q.ob (.v (.slice (some ⟨q.g, 0, none⟩) (q.K.length + 1) q.c))), Ent.row (some ⟨q.g, 0, none⟩) (q.K.length + 1) q.c 116 7 (rowD q.K ++ frD m.x q.a)] ++ frE m.x q.a) ++ (Ent.box b7 98 (insCells (insOf p m.x)) :: (memD L q.l q.ds ++ (rowsF q.K ++ labF L m.c.prog)))) (fun _ => True) ?_ ?_
  ·refine AW.regionH (HeldCs [(q.g, (rowD q.K).length + 0, Value.int .i64 m.x.f), (q.g, (rowD q.K).length + 1, Value.int .i64 m.x.at_)]) rfl (tells_cs (tcR 1 rfl fd0 pinV (tcR 1 rfl fd1 pinV tc0))) ?_
   refine T2 (i := 0) rfl (heldAll (freeMove rfl (E rfl rfl))) ?_
   refine T2 (i := 1) rfl (heldAll (freeNil rfl (E rfl rfl))) ?_
   refine T2 (i := 2) rfl (heldAll (freeField rfl fo_75_0 (E rfl rfl))) ?_
   refine T2 (i := 3) rfl (heldAll (freeField rfl fo_56_0 (E rfl rfl))) ?_
   refine T2 (i := 5) rfl (heldAll (freeMove rfl (E rfl rfl))) ?_
   refine T2 (i := 6) rfl (heldAll (freeNilEp rfl (E rfl rfl))) ?_
   refine T2 (i := 7) rfl (heldAll (freeFieldEp rfl fo_116_0 (E rfl rfl))) ?_
   refine T2 (i := 8) rfl (heldE 0 rfl ag_3 (E rfl rfl) rfl (fun _ _ => .v _)) ?_
   refine T2 (i := 12) rfl (heldAll (freeMove rfl (E rfl rfl))) ?_
   refine T2 (i := 13) rfl (heldAll (freeNilEp rfl (E rfl rfl))) ?_
   refine T2 (i := 14) rfl (heldAll (freeFieldEp rfl fo_116_1 (E rfl rfl))) ?_
   refine T2 (i := 15) rfl (heldE 1 rfl ag_3 (E rfl rfl) rfl (fun _ _ => .v _)) ?_
   refine AWH.two (i := 4) (j := 18) (by kernel_rfl) rfl rfl ?_ ?_
   ·refine yl ag_53 0 ?_
    refine AWL.nil (kpH (tcR 1 rfl fd0 pinV (tcR 1 rfl fd1 pinV tc0)) ?_)
    refine T2 (i := 9) rfl (heldAll (freeIdxSl (j := m.x.f.toNat) rfl ss_53 (B rfl) (E rfl rfl) (E rfl rfl) ⟨(Int.toNat_of_nonneg hm.top.f0).symm, idxB len_funs hflp⟩)) ?_
    refine T2 (i := 10) rfl (heldAll (freeFieldRp rfl fo_93_4 (E rfl rfl))) ?_
    refine AWH.two (i := 11) (j := 18) (by kernel_rfl) rfl rfl ?_ ?_
    ·refine Y1 (Yv.loadRp rfl ag_91 eV (fun hg => fcode_at hflp)) ?_
     refine AWL.nil (kpH (tcR 1 rfl fd0 pinV (tcR 1 rfl fd1 pinV tc0)) ?_)
     refine T2 (i := 16) rfl (heldAll (freeIdxSl (j := m.x.at_.toNat) rfl ss_91 (B rfl) (E rfl rfl) (E rfl rfl) ⟨(Int.toNat_of_nonneg hat0).symm, idxB len_code hatp⟩)) ?_
     refine AWH.two (i := 17) (j := 18) (by kernel_rfl) rfl rfl ?_ ?_
     ·refine Y1 (Yv.loadRpA rfl ag_98 eV (fun hg => ins_cells hatp)) ?_
      refine AWL.nil (kpH (tcR 1 rfl fd0 pinV (tcR 1 rfl fd1 pinV tc0)) ?_)
      refine AWH.one (i := 18) (by kernel_rfl) rfl ?_
      refine AWL.allocOp rfl rfl (B rfl) rfl zc_98 (fun b7 => ?_)
      refine AWL.perm (S' := ([Ent.box L.s 75 (psD (psLD L m.c) q.ob (.v (.slice (some ⟨q.g, 0, none⟩) (q.K.length + 1) q.c))), Ent.row (some ⟨q.g, 0, none⟩) (q.K.length + 1) q.c 116 7 (rowD q.K ++ frD m.x q.a)] ++ frE m.x q.a) ++ (Ent.box b7 98 (List.map T.v [.int .i64 0, .int .i64 0, .int .i64 0, .int .i64 0, .int .i64 0, .int .i64 0, .int .i64 0, .int .i64 0, .int .i64 0, .int .i64 0, .slice none 0 0]) :: (memD L q.l q.ds ++ (rowsF q.K ++ labF L m.c.prog)))) toTen0 ?_
      refine AWL.nil (kpH (tcR 1 rfl fd0 pinV (tcR 1 rfl fd1 pinV tc0)) ?_)
      refine AWH.one (i := 19) (by kernel_rfl) rfl ?_
      refine AWL.storeBox (i := 6) rfl rfl rfl ag_98 rfl (E rfl rfl) (E rfl rfl) rfl rfl nB ?_
      refine AWL.nil (kpH (tcR 1 rfl fd0 pinV (tcR 1 rfl fd1 pinV tc0)) ?_)
      refine AWH.done (by kernel_rfl) ?_
      exact ⟨b7, trivial, (su (su (su (su (su sn))))), by rw [← hIq]; rfl⟩
     refine AWL.allocOp rfl rfl (B rfl) rfl zc_98 (fun b7 => ?_)
     refine AWL.perm (S' := ([Ent.box L.s 75 (psD (psLD L m.c) q.ob (.v (.slice (some ⟨q.g, 0, none⟩) (q.K.length + 1) q.c))), Ent.row (some ⟨q.g, 0, none⟩) (q.K.length + 1) q.c 116 7 (rowD q.K ++ frD m.x q.a)] ++ frE m.x q.a) ++ (Ent.box b7 98 (List.map T.v [.int .i64 0, .int .i64 0, .int .i64 0, .int .i64 0, .int .i64 0, .int .i64 0, .int .i64 0, .int .i64 0, .int .i64 0, .int .i64 0, .slice none 0 0]) :: (memD L q.l q.ds ++ (rowsF q.K ++ labF L m.c.prog)))) toTen0 ?_
     refine AWL.nil (kpH (tcR 1 rfl fd0 pinV (tcR 1 rfl fd1 pinV tc0)) ?_)
     refine AWH.one (i := 17) (by kernel_rfl) rfl ?_
     refine Y1 (Yv.loadRpA rfl ag_98 eV (fun hg => ins_cells hatp)) ?_
     refine AWL.nil (kpH (tcR 1 rfl fd0 pinV (tcR 1 rfl fd1 pinV tc0)) ?_)
     refine AWH.one (i := 19) (by kernel_rfl) rfl ?_
     refine AWL.storeBox (i := 6) rfl rfl rfl ag_98 rfl (E rfl rfl) (E rfl rfl) rfl rfl nB ?_
     refine AWL.nil (kpH (tcR 1 rfl fd0 pinV (tcR 1 rfl fd1 pinV tc0)) ?_)
     refine AWH.done (by kernel_rfl) ?_
     exact ⟨b7, trivial, (su (su (su (su (su sn))))), by rw [← hIq]; rfl⟩
    refine AWL.allocOp rfl rfl (B rfl) rfl zc_98 (fun b7 => ?_)
    refine AWL.perm (S' := ([Ent.box L.s 75 (psD (psLD L m.c) q.ob (.v (.slice (some ⟨q.g, 0, none⟩) (q.K.length + 1) q.c))), Ent.row (some ⟨q.g, 0, none⟩) (q.K.length + 1) q.c 116 7 (rowD q.K ++ frD m.x q.a)] ++ frE m.x q.a) ++ (Ent.box b7 98 (List.map T.v [.int .i64 0, .int .i64 0, .int .i64 0, .int .i64 0, .int .i64 0, .int .i64 0, .int .i64 0, .int .i64 0, .int .i64 0, .int .i64 0, .slice none 0 0]) :: (memD L q.l q.ds ++ (rowsF q.K ++ labF L m.c.prog)))) toTen0 ?_
    refine AWL.nil (kpH (tcR 1 rfl fd0 pinV (tcR 1 rfl fd1 pinV tc0)) ?_)
    refine AWH.one (i := 11) (by kernel_rfl) rfl ?_
    refine Y1 (Yv.loadRp rfl ag_91 eV (fun hg => fcode_at hflp)) ?_
    refine AWL.nil (kpH (tcR 1 rfl fd0 pinV (tcR 1 rfl fd1 pinV tc0)) ?_)
    refine AWH.one (i := 16) (by kernel_rfl) rfl ?_
    refine Y1 (Yv.indexSl (j := m.x.at_.toNat) rfl ss_91 (B rfl) eV eV (fun hg => ⟨(Int.toNat_of_nonneg hat0).symm, idxB len_code hatp⟩)) ?_
    refine AWL.nil (kpH (tcR 1 rfl fd0 pinV (tcR 1 rfl fd1 pinV tc0)) ?_)
    refine AWH.one (i := 17) (by kernel_rfl) rfl ?_
    refine Y1 (Yv.loadRpA rfl ag_98 eV (fun hg => ins_cells hatp)) ?_
    refine AWL.nil (kpH (tcR 1 rfl fd0 pinV (tcR 1 rfl fd1 pinV tc0)) ?_)
    refine AWH.one (i := 19) (by kernel_rfl) rfl ?_
    refine AWL.storeBox (i := 6) rfl rfl rfl ag_98 rfl (E rfl rfl) (E rfl rfl) rfl rfl nB ?_
    refine AWL.nil (kpH (tcR 1 rfl fd0 pinV (tcR 1 rfl fd1 pinV tc0)) ?_)
    refine AWH.done (by kernel_rfl) ?_
    exact ⟨b7, trivial, (su (su (su (su (su sn))))), by rw [← hIq]; rfl⟩
   refine AWL.allocOp rfl rfl (B rfl) rfl zc_98 (fun b7 => ?_)
   refine AWL.perm (S' := ([Ent.box L.s 75 (psD (psLD L m.c) q.ob (.v (.slice (some ⟨q.g, 0, none⟩) (q.K.length + 1) q.c))), Ent.row (some ⟨q.g, 0, none⟩) (q.K.length + 1) q.c 116 7 (rowD q.K ++ frD m.x q.a)] ++ frE m.x q.a) ++ (Ent.box b7 98 (List.map T.v [.int .i64 0, .int .i64 0, .int .i64 0, .int .i64 0, .int .i64 0, .int .i64 0, .int .i64 0, .int .i64 0, .int .i64 0, .int .i64 0, .slice none 0 0]) :: (memD L q.l q.ds ++ (rowsF q.K ++ labF L m.c.prog)))) toTen0 ?_
   refine AWL.nil (kpH (tcR 1 rfl fd0 pinV (tcR 1 rfl fd1 pinV tc0)) ?_)
   refine AWH.one (i := 4) (by kernel_rfl) rfl ?_
   refine yl ag_53 0 ?_
   refine AWL.nil (kpH (tcR 1 rfl fd0 pinV (tcR 1 rfl fd1 pinV tc0)) ?_)
   refine AWH.one (i := 9) (by kernel_rfl) rfl ?_
   refine Y1 (Yv.indexSl (j := m.x.f.toNat) rfl ss_53 (B rfl) eV eV (fun hg => ⟨(Int.toNat_of_nonneg hm.top.f0).symm, idxB len_funs hflp⟩)) ?_
   refine AWL.nil (kpH (tcR 1 rfl fd0 pinV (tcR 1 rfl fd1 pinV tc0)) ?_)
   refine AWH.one (i := 10) (by kernel_rfl) rfl ?_
   refine Y1 (Yv.fieldRp rfl fo_93_4 eV) ?_
   refine AWL.nil (kpH (tcR 1 rfl fd0 pinV (tcR 1 rfl fd1 pinV tc0)) ?_)
   refine AWH.one (i := 11) (by kernel_rfl) rfl ?_
   refine Y1 (Yv.loadRp rfl ag_91 eV (fun hg => fcode_at hflp)) ?_
   refine AWL.nil (kpH (tcR 1 rfl fd0 pinV (tcR 1 rfl fd1 pinV tc0)) ?_)
   refine AWH.one (i := 16) (by kernel_rfl) rfl ?_
   refine Y1 (Yv.indexSl (j := m.x.at_.toNat) rfl ss_91 (B rfl) eV eV (fun hg => ⟨(Int.toNat_of_nonneg hat0).symm, idxB len_code hatp⟩)) ?_
   refine AWL.nil (kpH (tcR 1 rfl fd0 pinV (tcR 1 rfl fd1 pinV tc0)) ?_)
   refine AWH.one (i := 17) (by kernel_rfl) rfl ?_
   refine Y1 (Yv.loadRpA rfl ag_98 eV (fun hg => ins_cells hatp)) ?_
   refine AWL.nil (kpH (tcR 1 rfl fd0 pinV (tcR 1 rfl fd1 pinV tc0)) ?_)
   refine AWH.one (i := 19) (by kernel_rfl) rfl ?_
   refine AWL.storeBox (i := 6) rfl rfl rfl ag_98 rfl (E rfl rfl) (E rfl rfl) rfl rfl nB ?_
   refine AWL.nil (kpH (tcR 1 rfl fd0 pinV (tcR 1 rfl fd1 pinV tc0)) ?_)
   refine AWH.done (by kernel_rfl) ?_
   exact ⟨b7, trivial, (su (su (su (su (su sn))))), by rw [← hIq]; rfl⟩
  rintro b7 hmid
  refine AW.seq ?_
  refine rs (yf fo_98_0 ?_)
  refine yl ag_3 6 ?_
  refine Y1 (Yv.eql rfl eV eV) (nl ?_)
  refine AW.cond rfl (fun h1t => ?_) (fun h1f => ?_)
  ·try replace h1t := odt h1t
   have hk19 : (insOf p m.x).kind = 19 := h1t
   refine rs (ym ?_)
   refine Y1 (Yv.nilChkEp rfl eV) ?_
   refine Y1 (Yv.fieldEp rfl fo_116_1 eV) ?_
   refine Y1 (Yv.loadEp rfl ag_3 (i := 1) rfl eV (fun hg => fd1)) ?_
   refine Y1 (Yv.addN_i64 rfl eV eV (fun hg => by omega)) ?_
   refine Y1 (Yv.nilChkEp rfl eV) ?_
   refine Y1 (Yv.fieldEp rfl fo_116_1 eV) ?_
   refine AWL.storeEp1 (i := 1) rfl rfl rfl ag_3 rfl (E rfl rfl) (E rfl rfl) rfl rfl (by rw [fd_len]; omega) (nl ?_)
   refine AW.dropAt 6 ?_
   refine AW.exit ?_
   have hmore := hm.top.more hp (by rw [hk19]; rfl)
   refine ⟨{ m with x := goF m.x }, q, k, ⟨⟨hm.prog, hm.top.go hp (by rw [hk19]; rfl), hm.bl, hm.ch.top rfl, hm.dep⟩, ⟨hq.bl, hq.ok, hq.mem, hq.w⟩, ?_, fun N hN => by rw [runM_label hp hm hgo.2 hk19 hN]; exact hfw N hN, (adv_lab hp hm hk19).trans hadv, hff, hs1, hs2⟩, ?_, (su (su (su sn))), ?_⟩
   ·rw [← hrun, runM_label hp hm hgo.2 hk19 (by omega)]
   ·show (f0.toNat - k) * 1048578 + (1048577 - (m.x.at_ + 1).toNat) < _
    omega
   rw [show frE ({ m with x := goF m.x } : Mc).x q.a = frE m.x q.a from rfl, show (rowD q.K ++ frD ({ m with x := goF m.x } : Mc).x q.a) = (rowD q.K ++ frD m.x q.a).set ((rowD q.K).length + 1) (zi (m.x.at_ + 1)) from (fd_jump (pre := rowD q.K) (x := m.x) (a := q.a) _).symm]
   rfl
  try replace h1f := odf h1f
  have hk19 : ¬ (insOf p m.x).kind = 19 := h1f
  have hk30 : (insOf p m.x).kind ≠ 30 := by
   have h30 := hno k ((congrArg (fun z : Mc => z.c.st) hadv).symm.trans hgo.2)
   rw [← hadv, adv_self hp hm hk19] at h30
   exact h30
  refine AW.skip ?_
  refine rs (ym ?_)
  refine ym ?_
  refine Y1 (Yv.loadBoxA rfl ag_98 (i := 6) rfl eV rfl rfl) ?_
  refine AWL.perm (S' := (([Ent.box L.s 75 (psD (psLD L m.c) q.ob (.v (.slice (some ⟨q.g, 0, none⟩) (q.K.length + 1) q.c))), Ent.row (some ⟨q.g, 0, none⟩) (q.K.length + 1) q.c 116 7 (rowD q.K ++ frD m.x q.a)] ++ frE m.x q.a) ++ (memD L q.l q.ds ++ (rowsF q.K ++ labF L m.c.prog))) ++ [Ent.box b7 98 (insCells (insOf p m.x))]) toEnd ?_
  refine C1 rfl ce_47 (E rfl rfl) (evsC (E rfl rfl) (evsC (E rfl rfl) (evsC (E rfl rfl) evs0))) (S1 := (([Ent.box L.s 75 (psD (psLD L m.c) q.ob (.v (.slice (some ⟨q.g, 0, none⟩) (q.K.length + 1) q.c))), Ent.row (some ⟨q.g, 0, none⟩) (q.K.length + 1) q.c 116 7 (rowD q.K ++ frD m.x q.a)] ++ frE m.x q.a) ++ (memD L q.l q.ds ++ (rowsF q.K ++ labF L m.c.prog)))) (S2 := _) rfl (Dstep38n (L := L) (q := q) hm hp hpi hbs hq hk19 hk30) ?_
  rintro t61 S61 ⟨m2, q2, rfl, hm2, hst2, hq2, rfl⟩
  refine ya ?_
  refine AW.seq ?_
  refine rs (ym ?_)
  refine Y1 (Yv.not rfl eV) (nl ?_)
  refine AW.cond rfl (fun h2t => ?_) (fun h2f => ?_)
  ·try replace h2t := odt h2t
   have hnone : stepM realF m (insOf p m.x) = none := by simpa using h2t
   obtain ⟨at9, rfl⟩ := hst2 hnone
   refine rs (ym ?_)
   refine Y1 (Yv.nilChk rfl eV) ?_
   refine yf fo_75_8 ?_
   refine AWL.storeBox (i := 0) rfl rfl rfl ag_3 rfl (E rfl rfl) (E rfl rfl) rfl rfl nB (nl ?_)
   refine AW.eqS (S' := DP L (stuckC { m with x := { m.x with at_ := at9 } }) q2 ++ [_]) rfl ?_
   refine AW.drop (List.sublist_append_left _ _) ?_
   refine AW.exit ?_
   refine rs (ym ?_)
   refine Y1 (Yv.nilChk rfl eV) ?_
   refine yf fo_75_8 ?_
   refine yl ag_3 0 ?_
   refine ya ?_
   refine AW.ret (retI (.tmp rfl .nil) ?_)
   refine ⟨_, q2, rfl, .inr ?_, ⟨hq2.bl, hq2.ok, hq2.mem, hq2.w⟩, rfl⟩
   rw [← hrun, show f0.toNat - k = (f0.toNat - k - 1) + 1 by omega, runM_stuck hp hm hgo.2 hk19 hnone]
   exact ⟨(by decide : (2 : Int) ≠ 0), at9, rfl⟩
  try replace h2f := odf h2f
  have hsome : stepM realF m (insOf p m.x) = some m2 := by
   cases hs : stepM realF m (insOf p m.x) with
   | none => rw [hs] at h2f; cases h2f
   | some y => rw [hm2 y hs]
  have hst3 : (psLD L m2.c).steps = m.c.steps := (step_ok hp hpi.funs hm hk19 hsome).2.steps
  refine AW.skip ?_
  refine rs (ym ?_)
  refine Y1 (Yv.nilChk rfl eV) ?_
  refine yf fo_75_11 ?_
  refine yl ag_3 0 ?_
  refine Y1 (Yv.addN_i64 rfl eV eV (fun hg => by omega)) ?_
  refine Y1 (Yv.nilChk rfl eV) ?_
  refine yf fo_75_11 ?_
  refine AWL.storeBox (i := 0) rfl rfl rfl ag_3 rfl (E rfl rfl) (E rfl rfl) rfl rfl nB (nl ?_)
  refine AW.eqS (S' := DP L (tickC m2) q2 ++ [_]) rfl ?_
  refine AW.drop (List.sublist_append_left _ _) ?_
  refine AW.region ?_
  refine ym ?_
  refine Y1 (Yv.addN_i64 rfl eV eV (fun hg => by omega)) ?_
  refine ya ?_
  obtain ⟨h1, h2⟩ := step_ok hp hpi.funs hm hk19 hsome
  refine ⟨tickC m2, q2, k + 1, ⟨h1.tick, ⟨hq2.bl, hq2.ok, hq2.mem, hq2.w⟩, ?_, fun N _ => by rw [← runM_step hp hm hgo.2 hk19 hsome, hfw (N + 1) (Nat.succ_pos N), show k + (N + 1) = k + 1 + N by omega], by rw [← hfw 1 (by decide), runM_step hp hm hgo.2 hk19 hsome]; rfl, by omega, by show 0 ≤ m2.c.steps + 1; rw [h2.steps]; omega, by show m2.c.steps + 1 ≤ _; rw [h2.steps]; omega⟩, ?_, (su (su (su sn))), ?_⟩
  ·rw [← hrun, show f0.toNat - k = (f0.toNat - (k + 1)) + 1 by omega, runM_step hp hm hgo.2 hk19 hsome]
  ·omega
  rfl
 try replace h0f := odf h0f
 have hgo : ¬ ((k : Int) < f0 ∧ m.c.st = 0) := by
  have h : ¬ ((k : Int) < f0 ∧ (psLD L m.c).st = 0) := by simpa using h0f
  exact h
 refine AW.exit ?_
 refine rs (ym ?_)
 refine Y1 (Yv.nilChk rfl eV) ?_
 refine yf fo_75_8 ?_
 refine yl ag_3 0 ?_
 refine ya ?_
 refine AW.ret (retI (.tmp rfl .nil) ?_)
 refine ⟨m, q, rfl, .inl ?_, hq, rfl⟩
 rw [← hrun, dend hgo]

end Go.Proofs.YtpgbpdnmjeoeoaaGreat

namespace Go.Proofs.YtpgbpdnmjeoeoaaGreat.G
open Go Go.RowKit

set_option maxHeartbeats 4000000 in
theorem Call13n (L : DLay) (p : Prog) (hp : ProgOk p) (hpi : ProgIn p) (m : Mc) (q : DQ) (hpr : m.c.prog = p) (hq : DRel m q) (hbs : L.bs.length = p.funs.length) (name : List UInt8) (args : List Wd64) (n : Nat) (hn : n < p.funs.length) (hnm : (p.funs.getD n default).name = name) (hnn : ∀ j, j < n → (p.funs.getD j default).name ≠ name) (ha : (args.length : Int) = (p.funs.getD n default).params) (hal : args.length ≤ 65536) (hh : m.c.heap.toNat ≤ 1099511627776) (hs0 : 0 ≤ m.c.steps ∧ m.c.steps ≤ 4611686018427387904) (hno : NoSys p (entM m n args)) :
    ACalls Tryz.prog 13 [pv L.s, sv name, .sl 1 (args.map zw)] (DP L m q) (fun t S => ∃ m2 q2, t = .tup [zw m2.c.ans, bv (decide (m2.c.st = 3))] ∧ DEnd m2 (runM realF (mostF m.c.heap).toNat (entM m n args)) ∧ DRel m2 q2 ∧ S = DP L m2 q2) := by
 have hb := most_b hh
 refine ACalls.intro Tryz.func13 rfl Tryz.ntmps13 nB rfl fun X w0 => ?_
 refine rs (Y1 (Yv.assign rfl eV) ?_)
 refine ya ?_
 refine rs (ym ?_)
 refine ym ?_
 refine ym ?_
 refine cA ce_25 rfl rfl rfl (Enter25_ L p hp hpi m q hpr name args n hn hnm hnn ha hal) ?_
 rintro t13 S13 ⟨rfl, g, c, a, rfl⟩
 refine ya ?_
 refine AW.seq ?_
 refine rs (ym ?_)
 refine Y1 (Yv.neq rfl eV eV) (nl ?_)
 refine AW.cond rfl (fun h0t => ?_) (fun h0f => ?_)
 ·try replace h0t := odt h0t
  cases h0t
 try replace h0f := odf h0f
 refine AW.skip ?_
 refine rs (ym ?_)
 refine ym ?_
 refine Y1 (Yv.nilChk rfl eV) ?_
 refine yf fo_75_2 ?_
 refine yl ag_22 0 ?_
 refine AWL.callT rfl rfl (B rfl) rfl ce_27 (E rfl rfl) (evsC (E rfl rfl) evs0) (Most27 m.c.heap hh) ?_
 rintro t21 S21 rfl
 refine cA ce_26 rfl rfl rfl (Run13n L p hp hpi hbs (entM m n args) ⟨g, c, a, [], q.l, q.ds, q.ob⟩ (mostF m.c.heap) (entM_ok hp hpr hn ha) ⟨rfl, hq.ok, hq.mem, hq.w⟩ hno hs0 (by unfold mostF; omega)) ?_
 rintro t22 S22 ⟨m2, q2, rfl, hde, hq2, rfl⟩
 refine ya ?_
 refine rs (ym ?_)
 refine Y1 (Yv.nilChk rfl eV) ?_
 refine yf fo_75_9 ?_
 refine yl ag_22 0 ?_
 refine ym ?_
 refine Y1 (Yv.eql rfl eV eV) ?_
 refine Y1 (Yv.assign rfl eV) ?_
 refine ya ?_
 refine AW.ret (retI (.tmp rfl (.tmp rfl .nil)) ?_)
 exact ⟨m2, q2, rfl, hde, hq2, rfl⟩

end Go.Proofs.YtpgbpdnmjeoeoaaGreat.G

namespace Go.Proofs.YtpgbpdnmjeoeoaaGreat.G
open Go Go.RowKit B
set_option maxRecDepth 100000
section
variable {RF : Int → Wd64 → Wd64 → Wd64} {P : Prog} {h : Wd64} {e b : Bool} {w : V.PW} {s s' : Sy} {m : Mc} {obs : List Ob}
theorem s30 {r : Sy × List Ob} (hs : sstep P h b s = some r) : (insS P s.top).kind ≠ 30 := fun q => by
 unfold sstep at hs
 rw [if_neg (by omega), if_neg (by omega), if_neg (by omega), if_neg (by omega), if_neg (by omega), if_neg (by omega), if_neg (by omega), if_neg (by omega), if_neg (by omega), if_neg (by omega), if_neg (by omega)] at hs
 split at hs
 ·rename_i u v hu hv
  unfold opW at hs
  rw [if_neg (by omega), if_neg (by omega), if_neg (by omega), if_neg (by omega), if_neg (by omega), if_neg (by omega), if_neg (by omega)] at hs
  cases hs
 ·cases hs
theorem srun_no (hz : psData P = 400#64) : ∀ {n : Nat} {bs : List Bool} {s s' : Sy} {acc obs : List Ob} {m : Mc}, Is P h e w s m → srun P h bs n s acc = some (s', obs) → (∀ o ∈ obs, o.ok) → ∀ j, j < n → (insOf P (advM (runM RF j m)).x).kind ≠ 30
 | 0, _, _, _, _, _, m, hm, _, _, j, hj => absurd hj (Nat.not_lt_zero j)
 | n + 1, bs, s, s', acc, obs, m, hm, hr, ho, j, hj => by
  have hI := (adv_is hm).2
  rw [hm.prog] at hI
  rw [srun] at hr
  split at hr
  ·rename_i s2 h2
   obtain ⟨m1, r1, i1⟩ := sstep_ok (RF := RF) hz hm h2 (fun _ q => by cases q)
   cases j with
   | zero => show (insOf P (advM m).x).kind ≠ 30; rw [hI]; exact s30 h2
   | succ j => rw [r1]; exact srun_no hz i1 hr ho j (by omega)
  ·rename_i s2 obs2 _ h2
   obtain ⟨m1, r1, i1⟩ := sstep_ok (RF := RF) hz hm h2 (fun o q => ho o (srun_acc hr o (List.mem_append.2 (.inl q))))
   cases j with
   | zero => show (insOf P (advM m).x).kind ≠ 30; rw [hI]; exact s30 h2
   | succ j => rw [r1]; exact srun_no hz i1 hr ho j (by omega)
  ·cases hr
end
theorem start_no {h : Wd64} {w : V.PW} {m : Mc} {c : Nat → Wd64} (hp : m.c.prog = gcP) (hh : m.c.heap = h) (hs : m.c.strict = false) (hw : m.w = w) (hc : Cells c m.mem) : NoSys gcP (entM m 1 []) := by
 have hi : Is gcP h true w ⟨⟨1, 0, [], 0⟩, [], c⟩ (entM m 1 []) := ent_is (vs := []) hp hh hs hw hc (Nat.zero_le _)
 have hr := st_some h (smallB h) c
 have ho : ∀ o ∈ ([⟨4, held h, 16777216#64, smallB h⟩] : List Ob), o.ok := fun o q => by
  rw [List.mem_singleton.1 q]; rfl
 obtain ⟨m1, r1, i1⟩ := srun_ok (RF := realF) gc_z hi hr ho
 obtain ⟨k1, k2, k3⟩ := st_kind h (smallB h) c
 obtain ⟨mR, r2, e2⟩ := ret_end (RF := realF) i1 k1 k2 k3
 intro j hst
 rcases Nat.lt_trichotomy j (bif smallB h then 89 else 90 : Nat) with q | q | q
 ·exact srun_no gc_z hi hr ho j q
 ·have e := r1 0
  rw [Nat.zero_add] at e
  rw [q, e]
  have hI := (adv_is i1).2
  rw [i1.prog] at hI
  show (insOf gcP (advM m1).x).kind ≠ 30
  rw [hI, k1]
  decide
 rw [show j = (j - (bif smallB h then 89 else 90 : Nat) - 1 + 1) + (bif smallB h then 89 else 90 : Nat) by omega, r1, r2, e2.st] at hst
 cases hst
end Go.Proofs.YtpgbpdnmjeoeoaaGreat.G

namespace Go.Proofs.YtpgbpdnmjeoeoaaGreat.B
open Go Go.RowKit
inductive YV where
 | lit (n : Nat)
 | hp (i o : Nat)
 | sv (v : SV)
def YV.s (b : Nat → Wd64) : YV → SV
 | .lit n => .wd (BitVec.ofNat 64 n)
 | .hp i o => .wd (b i + wI (o : Int))
 | .sv v => v
def YV.w (b : Nat → Wd64) (v : YV) : Wd64 := (v.s b).val
def YV.nd : YV → YV
 | .sv v => .sv (.wd v.val)
 | v => v
abbrev YR := List (Nat × YV)
def yk (r : Nat) : YR → Option YV
 | [] => none
 | (k, v) :: l => bif Nat.beq r k then some v else yk r l
def ykL (ρ : YR) : List Int → Option (List YV)
 | [] => some []
 | r :: l => match yk r.toNat ρ, ykL ρ l with
  | some v, some vs => some (v :: vs)
  | _, _ => none
def argsY : Nat → List YV → YR
 | _, [] => []
 | k, v :: l => (k, v) :: argsY (k + 1) l
structure YK where
 f : Nat
 a : Nat
 ρ : YR
 d : Int
abbrev YKey := Nat × Nat
abbrev YH := List (YKey × YV)
def ybeq (x y : YKey) : Bool := Nat.beq x.1 y.1 && Nat.beq x.2 y.2
def yget (k : YKey) : YH → Option YV
 | [] => none
 | (j, v) :: l => bif ybeq k j then some v else yget k l
structure YS where
 top : YK
 bl : List YK
 c : Nat → YV
 h : YH
structure YO where
 cond : Int
 u : YV
 v : YV
 b : Bool
def YO.ok (b : Nat → Wd64) (o : YO) : Prop := holdsF o.cond (o.u.w b) (o.v.w b) = o.b
def updY (c : Nat → YV) (k : Nat) (v : YV) : Nat → YV := fun j => bif Nat.beq j k then v else c j
def YK.m (b : Nat → Wd64) (k : YK) : Fk := ⟨k.f, k.a, k.ρ.map fun q => (q.1, q.2.s b), k.d⟩
def YS.m (b : Nat → Wd64) (s : YS) : Sy := ⟨s.top.m b, s.bl.map (YK.m b), fun k => (s.c k).w b⟩
def yW (b : Nat → Wd64) (k : Int) (u v : YV) : Option YV := (opW k (u.w b) (v.w b)).map fun x => .sv (.wd x)
def yop (b : Nat → Wd64) (k : Int) (u v : YV) : Option YV :=
 match u, v with
 | .lit x, .lit y => (opW k (BitVec.ofNat 64 x) (BitVec.ofNat 64 y)).map fun w => .lit w.toNat
 | .hp i o, .lit y => if k = 3 then some (.hp i (o + y)) else yW b k (.hp i o) (.lit y)
 | u, v => yW b k u v
section
variable (P : Prog) (h : Wd64) (b : Nat → Wd64) (K : List YKey) (s : YS)
abbrev yI : Ins := insS P (s.top.m b)
abbrev yA : Nat := atS P (s.top.m b)
def yput (v : YV) : Option (YS × List YO) :=
 if 0 ≤ (yI P b s).d ∧ (yI P b s).d < (fnS P s.top.f).regs then some ({ s with top := { s.top with a := yA P b s + 1, ρ := ((yI P b s).d.toNat, v) :: s.top.ρ } }, []) else none
def ygo (a : Nat) : YS := { s with top := { s.top with a := a } }
def ystep (g : Bool) : Option (YS × List YO) :=
 if (yI P b s).kind = 1 then yput P b s (.lit (wI (yI P b s).imm).toNat)
 else if (yI P b s).kind = 27 then (if 0 ≤ (yI P b s).imm then yput P b s (.sv (.dt (yI P b s).imm.toNat)) else none)
 else if (yI P b s).kind = 29 then yput P b s (.sv (.wd h))
 else if (yI P b s).kind = 2 then (yk (yI P b s).a.toNat s.top.ρ).bind (yput P b s)
 else if (yI P b s).kind = 17 then (match yk (yI P b s).a.toNat s.top.ρ with
  | some (.sv (.dt o)) => if ((yI P b s).size = 8 ∧ (yI P b s).imm = 0) ∧ o % 8 = 0 ∧ o < 400 then yput P b s (s.c (o / 8)).nd else none
  | some (.hp i o) => if (yI P b s).size = 8 ∧ (yI P b s).imm = 0 then (yget (i, o) s.h).bind (yput P b s) else none
  | _ => none)
 else if (yI P b s).kind = 18 then (match yk (yI P b s).a.toNat s.top.ρ, yk (yI P b s).b.toNat s.top.ρ with
  | some (.sv (.dt o)), some v => if ((yI P b s).size = 8 ∧ (yI P b s).imm = 0) ∧ o % 8 = 0 ∧ o < 400 then some ({ ygo s (yA P b s + 1) with c := updY s.c (o / 8) v }, []) else none
  | some (.hp i o), some v => if ((yI P b s).size = 8 ∧ (yI P b s).imm = 0) ∧ K.any (ybeq (i, o)) = true then some ({ ygo s (yA P b s + 1) with h := ((i, o), v) :: s.h }, []) else none
  | _, _ => none)
 else if (yI P b s).kind = 20 then (if 0 ≤ whS P (s.top.m b) then some (ygo s (whS P (s.top.m b)).toNat, []) else none)
 else if (yI P b s).kind = 21 then (match yk (yI P b s).a.toNat s.top.ρ, yk (yI P b s).b.toNat s.top.ρ with
  | some (.lit x), some (.lit y) => if 0 ≤ whS P (s.top.m b) then some (ygo s (if holdsF (yI P b s).cond (BitVec.ofNat 64 x) (BitVec.ofNat 64 y) = true then (whS P (s.top.m b)).toNat else yA P b s + 1), []) else none
  | some u, some v => if 0 ≤ whS P (s.top.m b) then some (ygo s (if g = true then (whS P (s.top.m b)).toNat else yA P b s + 1), [⟨(yI P b s).cond, u, v, g⟩]) else none
  | _, _ => none)
 else if (yI P b s).kind = 22 then (match ykL s.top.ρ (yI P b s).args with
  | some vs => if vs.length ≤ (fnS P (yI P b s).f.toNat).regs.toNat ∧ s.bl.length < 1000 then some ({ s with top := ⟨(yI P b s).f.toNat, 0, argsY 0 vs, (yI P b s).d⟩, bl := { s.top with a := yA P b s + 1 } :: s.bl }, []) else none
  | none => none)
 else if (yI P b s).kind = 24 then (match ykL s.top.ρ (yI P b s).args with
  | some vs => if vs.length ≤ (fnS P (yI P b s).f.toNat).regs.toNat then some ({ s with top := ⟨(yI P b s).f.toNat, 0, argsY 0 vs, s.top.d⟩ }, []) else none
  | none => none)
 else if (yI P b s).kind = 26 then (match yk (yI P b s).a.toNat s.top.ρ, s.bl with
  | some v, y :: r => if 0 ≤ s.top.d ∧ s.top.d < (fnS P y.f).regs then some ({ s with top := { y with ρ := (s.top.d.toNat, v) :: y.ρ }, bl := r }, []) else none
  | _, _ => none)
 else match yk (yI P b s).a.toNat s.top.ρ, yk (yI P b s).b.toNat s.top.ρ with
  | some u, some v => (yop b (yI P b s).kind u v).bind (yput P b s)
  | _, _ => none
end
/-! ### as the machine without heap sees it -/
theorem yk_m (b : Nat → Wd64) (r : Nat) : ∀ ρ : YR, kn r (ρ.map fun q => (q.1, q.2.s b)) = (yk r ρ).map (YV.s b)
 | [] => rfl
 | (k, v) :: l => by
  rw [List.map_cons, kn, yk]
  cases Nat.beq r k with
  | true => rfl
  | false => exact yk_m b r l
theorem ykL_m (b : Nat → Wd64) (ρ : YR) : ∀ l : List Int, knL (ρ.map fun q => (q.1, q.2.s b)) l = (ykL ρ l).map (List.map (YV.s b))
 | [] => rfl
 | r :: l => by
  rw [knL, ykL, yk_m, ykL_m b ρ l]
  cases yk r.toNat ρ with
  | none => rfl
  | some v => cases ykL ρ l with
   | none => rfl
   | some vs => rfl
theorem args_m (b : Nat → Wd64) : ∀ (k : Nat) (vs : List YV), argsR k (vs.map (YV.s b)) = (argsY k vs).map fun q => (q.1, q.2.s b)
 | _, [] => rfl
 | k, v :: l => by rw [List.map_cons, argsR, argsY, List.map_cons, args_m b (k + 1) l]
theorem wI_ofNat (n : Nat) : wI (n : Int) = BitVec.ofNat 64 n := by
 apply BitVec.eq_of_toNat_eq
 have h := wI_nat (n : Int)
 rw [wrap_u64] at h
 rw [BitVec.toNat_ofNat]
 omega
theorem yop_m {b : Nat → Wd64} {k : Int} {u v x : YV} (h : yop b k u v = some x) : opW k (u.w b) (v.w b) = some (x.w b) := by
 have hW : ∀ {u v x : YV}, yW b k u v = some x → opW k (u.w b) (v.w b) = some (x.w b) := fun {u v x} h => by
  unfold yW at h
  cases q : opW k (u.w b) (v.w b) with
  | none => rw [q] at h; cases h
  | some z => rw [q] at h; cases h; rfl
 unfold yop at h
 split at h
 ·rename_i x1 y1
  show opW k (BitVec.ofNat 64 x1) (BitVec.ofNat 64 y1) = _
  cases q : opW k (BitVec.ofNat 64 x1) (BitVec.ofNat 64 y1) with
  | none => rw [q] at h; cases h
  | some z =>
   rw [q] at h
   obtain rfl := Option.some.inj h
   show some z = some (BitVec.ofNat 64 z.toNat)
   rw [BitVec.ofNat_toNat, BitVec.setWidth_eq]
 ·rename_i i o y1
  split at h
  ·rename_i hk
   obtain rfl := Option.some.inj h
   show opW k (b i + wI (o : Int)) (BitVec.ofNat 64 y1) = some (b i + wI ((o + y1 : Nat) : Int))
   rw [hk]
   show some (b i + wI (o : Int) + BitVec.ofNat 64 y1) = _
   rw [wI_ofNat, wI_ofNat, BitVec.ofNat_add, BitVec.add_assoc]
  exact hW h
 exact hW h
section
variable {RF : Int → Wd64 → Wd64 → Wd64} {P : Prog} {h : Wd64} {e g : Bool} {w : V.PW} {b : Nat → Wd64} {K : List YKey} {s s' : YS} {m m' : Mc} {obs : List YO}
theorem yput_m {v : YV} (hs : yput P b s v = some (s', obs)) {x : SV} (hx : x = v.s b) : putS P (s.m b) x = some (s'.m b, []) ∧ s'.h = s.h := by
 subst hx
 unfold yput at hs
 split at hs
 ·rename_i hd
  simp only [Option.some.injEq, Prod.mk.injEq] at hs
  obtain ⟨rfl, _⟩ := hs
  unfold putS
  rw [if_pos (show 0 ≤ (insS P (s.m b).top).d ∧ (insS P (s.m b).top).d < (fnS P (s.m b).top.f).regs from hd)]
  exact ⟨rfl, rfl⟩
 cases hs
theorem bind_put {o : Option YV} {f : YV → Option (YS × List YO)} {r : YS × List YO} (h : o.bind f = some r) : ∃ v, o = some v ∧ f v = some r := by
 cases o with
 | none => cases h
 | some v => exact ⟨v, rfl, h⟩
theorem ytop {r : Int} {v : YV} (hv : yk r.toNat s.top.ρ = some v) : kn r.toNat (s.m b).top.ρ = some (v.s b) := by
 show kn r.toNat (s.top.ρ.map fun q => (q.1, q.2.s b)) = _
 rw [yk_m, hv]; rfl
theorem ystep_s (hs : ystep P h b K s g = some (s', obs)) (h17 : (yI P b s).kind = 17 → ∃ o, yk (yI P b s).a.toNat s.top.ρ = some (.sv (.dt o))) (h18 : (yI P b s).kind = 18 → ∃ o, yk (yI P b s).a.toNat s.top.ρ = some (.sv (.dt o))) (ho : ∀ o ∈ obs, o.ok b) :
    ∃ g' obs', sstep P h g' (s.m b) = some (s'.m b, obs') ∧ (∀ o ∈ obs', o.ok) ∧ s'.h = s.h := by
 have nil : ∀ o ∈ ([] : List Ob), o.ok := fun o q => by cases q
 have put : ∀ {v : YV} {x : SV}, yput P b s v = some (s', obs) → x = v.s b → sstep P h g (s.m b) = putS P (s.m b) x → ∃ g' obs', sstep P h g' (s.m b) = some (s'.m b, obs') ∧ (∀ o ∈ obs', o.ok) ∧ s'.h = s.h := fun hp hx e => ⟨g, [], e.trans (yput_m hp hx).1, nil, (yput_m hp hx).2⟩
 have hI : insS P (s.m b).top = yI P b s := rfl
 unfold ystep at hs
 by_cases k1 : (yI P b s).kind = 1
 ·rw [if_pos k1] at hs
  refine put hs (x := .wd (wI (yI P b s).imm)) (by show _ = SV.wd (BitVec.ofNat 64 (wI (yI P b s).imm).toNat); rw [BitVec.ofNat_toNat, BitVec.setWidth_eq]) ?_
  unfold sstep; rw [hI, if_pos k1]
 rw [if_neg k1] at hs
 by_cases k27 : (yI P b s).kind = 27
 ·rw [if_pos k27] at hs
  split at hs
  ·rename_i hi
   refine put hs rfl ?_
   unfold sstep; rw [hI, if_neg k1, if_pos k27, if_pos hi]; rfl
  cases hs
 rw [if_neg k27] at hs
 by_cases k29 : (yI P b s).kind = 29
 ·rw [if_pos k29] at hs
  refine put hs rfl ?_
  unfold sstep; rw [hI, if_neg k1, if_neg k27, if_pos k29]; rfl
 rw [if_neg k29] at hs
 by_cases k2 : (yI P b s).kind = 2
 ·rw [if_pos k2] at hs
  obtain ⟨v, hv, hp⟩ := bind_put hs
  refine put hp rfl ?_
  unfold sstep; rw [hI, if_neg k1, if_neg k27, if_neg k29, if_pos k2, ytop hv]
 rw [if_neg k2] at hs
 by_cases k17 : (yI P b s).kind = 17
 ·rw [if_pos k17] at hs
  obtain ⟨o, hv⟩ := h17 k17
  rw [hv] at hs
  dsimp only at hs
  split at hs
  ·rename_i hc
   refine put hs (x := .wd ((s.c (o / 8)).w b)) (by cases s.c (o / 8) <;> rfl) ?_
   have e := ytop (b := b) hv
   unfold sstep
   rw [hI]
   rw [if_neg k1, if_neg k27, if_neg k29, if_neg k2, if_pos k17]
   show (match kn (yI P b s).a.toNat (s.m b).top.ρ with
    | some (.dt o) => if ((yI P b s).size = 8 ∧ (yI P b s).imm = 0) ∧ o % 8 = 0 ∧ o < 400 then putS P (s.m b) (.wd ((s.m b).c (o / 8))) else none
    | _ => none) = _
   rw [e]
   exact if_pos hc
  cases hs
 rw [if_neg k17] at hs
 by_cases k18 : (yI P b s).kind = 18
 ·rw [if_pos k18] at hs
  obtain ⟨o, hv⟩ := h18 k18
  rw [hv] at hs
  cases hu : yk (yI P b s).b.toNat s.top.ρ with
  | none => rw [hu] at hs; cases hs
  | some v =>
   rw [hu] at hs
   dsimp only at hs
   split at hs
   ·rename_i hc
    simp only [Option.some.injEq, Prod.mk.injEq] at hs
    obtain ⟨rfl, _⟩ := hs
    refine ⟨g, [], ?_, nil, rfl⟩
    have e := ytop (b := b) hv
    have e2 := ytop (b := b) hu
    unfold sstep
    rw [hI]
    rw [if_neg k1, if_neg k27, if_neg k29, if_neg k2, if_neg k17, if_pos k18]
    show (match kn (yI P b s).a.toNat (s.m b).top.ρ, kn (yI P b s).b.toNat (s.m b).top.ρ with
     | some (.dt o), some v => if ((yI P b s).size = 8 ∧ (yI P b s).imm = 0) ∧ o % 8 = 0 ∧ o < 400 then some ({ s.m b with top := { (s.m b).top with a := yA P b s + 1 }, c := updC (s.m b).c (o / 8) v.val }, ([] : List Ob)) else none
     | _, _ => none) = _
    rw [e, e2]
    refine (if_pos hc).trans ?_
    have hcf : updC (s.m b).c (o / 8) (v.s b).val = fun k => (updY s.c (o / 8) v k).w b := by
     funext k
     unfold updC updY
     cases Nat.beq k (o / 8) <;> rfl
    rw [hcf]; rfl
   ·cases hs
 rw [if_neg k18] at hs
 by_cases k20 : (yI P b s).kind = 20
 ·rw [if_pos k20] at hs
  split at hs
  ·rename_i hw
   simp only [Option.some.injEq, Prod.mk.injEq] at hs
   obtain ⟨rfl, _⟩ := hs
   refine ⟨g, [], ?_, nil, rfl⟩
   unfold sstep
   rw [hI]
   rw [if_neg k1, if_neg k27, if_neg k29, if_neg k2, if_neg k17, if_neg k18, if_pos k20]
   exact if_pos hw
  cases hs
 rw [if_neg k20] at hs
 by_cases k21 : (yI P b s).kind = 21
 ·rw [if_pos k21] at hs
  have br : ∀ {u v : YV} {g' : Bool} {a : Nat}, yk (yI P b s).a.toNat s.top.ρ = some u → yk (yI P b s).b.toNat s.top.ρ = some v → 0 ≤ whS P (s.top.m b) → a = (if g' = true then (whS P (s.top.m b)).toNat else yA P b s + 1) → sstep P h g' (s.m b) = some ((ygo s a).m b, [⟨(yI P b s).cond, u.w b, v.w b, g'⟩]) := fun {u v g' a} hu hv hw ha => by
   have e := ytop (b := b) hu
   have e2 := ytop (b := b) hv
   unfold sstep
   rw [hI]
   rw [if_neg k1, if_neg k27, if_neg k29, if_neg k2, if_neg k17, if_neg k18, if_neg k20, if_pos k21]
   show (match kn (yI P b s).a.toNat (s.m b).top.ρ, kn (yI P b s).b.toNat (s.m b).top.ρ with
    | some u, some v => if 0 ≤ whS P (s.top.m b) then some ({ s.m b with top := { (s.m b).top with a := if g' = true then (whS P (s.top.m b)).toNat else yA P b s + 1 } }, [(⟨(yI P b s).cond, u.val, v.val, g'⟩ : Ob)]) else none
    | _, _ => none) = _
   rw [e, e2]
   refine (if_pos hw).trans ?_
   rw [ha]; rfl
  split at hs
  ·rename_i x y hu hv
   split at hs
   ·rename_i hw
    simp only [Option.some.injEq, Prod.mk.injEq] at hs
    obtain ⟨rfl, _⟩ := hs
    exact ⟨holdsF (yI P b s).cond (BitVec.ofNat 64 x) (BitVec.ofNat 64 y), _, br hu hv hw rfl, fun o q => by rw [List.mem_singleton.1 q]; rfl, rfl⟩
   cases hs
  ·rename_i u v _ hu hv
   split at hs
   ·rename_i hw
    simp only [Option.some.injEq, Prod.mk.injEq] at hs
    obtain ⟨rfl, rfl⟩ := hs
    exact ⟨g, _, br hu hv hw rfl, fun o q => by rw [List.mem_singleton.1 q]; exact ho _ (List.mem_singleton.2 rfl), rfl⟩
   cases hs
  cases hs
 rw [if_neg k21] at hs
 by_cases k22 : (yI P b s).kind = 22
 ·rw [if_pos k22] at hs
  split at hs
  ·rename_i vs hv
   split at hs
   ·rename_i hc
    simp only [Option.some.injEq, Prod.mk.injEq] at hs
    obtain ⟨rfl, _⟩ := hs
    refine ⟨g, [], ?_, nil, rfl⟩
    unfold sstep
    rw [hI]
    rw [if_neg k1, if_neg k27, if_neg k29, if_neg k2, if_neg k17, if_neg k18, if_neg k20, if_neg k21, if_pos k22]
    show (match knL (s.top.ρ.map fun q => (q.1, q.2.s b)) (yI P b s).args with
     | some vs => if vs.length ≤ (fnS P (yI P b s).f.toNat).regs.toNat ∧ (s.m b).bl.length < 1000 then some ((⟨⟨(yI P b s).f.toNat, 0, argsR 0 vs, (yI P b s).d⟩, { (s.m b).top with a := yA P b s + 1 } :: (s.m b).bl, (s.m b).c⟩ : Sy), ([] : List Ob)) else none
     | none => none) = _
    rw [ykL_m, hv]
    refine (if_pos ⟨by rw [List.length_map]; exact hc.1, by show (s.bl.map (YK.m b)).length < 1000; rw [List.length_map]; exact hc.2⟩).trans ?_
    rw [args_m]; rfl
   cases hs
  cases hs
 rw [if_neg k22] at hs
 by_cases k24 : (yI P b s).kind = 24
 ·rw [if_pos k24] at hs
  split at hs
  ·rename_i vs hv
   split at hs
   ·rename_i hc
    simp only [Option.some.injEq, Prod.mk.injEq] at hs
    obtain ⟨rfl, _⟩ := hs
    refine ⟨g, [], ?_, nil, rfl⟩
    unfold sstep
    rw [hI]
    rw [if_neg k1, if_neg k27, if_neg k29, if_neg k2, if_neg k17, if_neg k18, if_neg k20, if_neg k21, if_neg k22, if_pos k24]
    show (match knL (s.top.ρ.map fun q => (q.1, q.2.s b)) (yI P b s).args with
     | some vs => if vs.length ≤ (fnS P (yI P b s).f.toNat).regs.toNat then some ((⟨⟨(yI P b s).f.toNat, 0, argsR 0 vs, s.top.d⟩, (s.m b).bl, (s.m b).c⟩ : Sy), ([] : List Ob)) else none
     | none => none) = _
    rw [ykL_m, hv]
    refine (if_pos (by rw [List.length_map]; exact hc)).trans ?_
    rw [args_m]; rfl
   cases hs
  cases hs
 rw [if_neg k24] at hs
 by_cases k26 : (yI P b s).kind = 26
 ·rw [if_pos k26] at hs
  split at hs
  ·rename_i v y r hv hb
   split at hs
   ·rename_i hd
    simp only [Option.some.injEq, Prod.mk.injEq] at hs
    obtain ⟨rfl, _⟩ := hs
    refine ⟨g, [], ?_, nil, rfl⟩
    have e := ytop (b := b) hv
    have e2 : (s.m b).bl = y.m b :: r.map (YK.m b) := by show s.bl.map (YK.m b) = _; rw [hb]; rfl
    unfold sstep
    rw [hI]
    rw [if_neg k1, if_neg k27, if_neg k29, if_neg k2, if_neg k17, if_neg k18, if_neg k20, if_neg k21, if_neg k22, if_neg k24, if_pos k26]
    show (match kn (yI P b s).a.toNat (s.m b).top.ρ, (s.m b).bl with
     | some v, y :: r => if 0 ≤ s.top.d ∧ s.top.d < (fnS P y.f).regs then some ((⟨{ y with ρ := (s.top.d.toNat, v) :: y.ρ }, r, (s.m b).c⟩ : Sy), ([] : List Ob)) else none
     | _, _ => none) = _
    rw [e, e2]
    exact (if_pos hd).trans rfl
   cases hs
  cases hs
 rw [if_neg k26] at hs
 split at hs
 ·rename_i u v hu hv
  obtain ⟨x, hx, hp⟩ := bind_put hs
  refine put hp rfl ?_
  have e := ytop (b := b) hu
  have e2 := ytop (b := b) hv
  have e3 := yop_m hx
  unfold sstep
  rw [hI]
  rw [if_neg k1, if_neg k27, if_neg k29, if_neg k2, if_neg k17, if_neg k18, if_neg k20, if_neg k21, if_neg k22, if_neg k24, if_neg k26]
  show (match kn (yI P b s).a.toNat (s.m b).top.ρ, kn (yI P b s).b.toNat (s.m b).top.ρ with
   | some u, some v => (match opW (yI P b s).kind u.val v.val with | some x => putS P (s.m b) (.wd x) | none => none)
   | _, _ => none) = _
  rw [e, e2]
  show (match opW (yI P b s).kind (u.w b) (v.w b) with | some x => putS P (s.m b) (.wd x) | none => none) = _
  rw [e3]
  show putS P (s.m b) (.wd (x.w b)) = _
  have hxs : x.s b = .wd (x.w b) := by
   unfold yop at hx
   have hW : ∀ {u v x : YV}, yW b (yI P b s).kind u v = some x → x.s b = .wd (x.w b) := fun {u v x} q => by
    unfold yW at q
    cases z : opW (yI P b s).kind (u.w b) (v.w b) with
    | none => rw [z] at q; cases q
    | some t => rw [z] at q; cases q; rfl
   split at hx
   ·rename_i x1 y1
    cases z : opW (yI P b s).kind (BitVec.ofNat 64 x1) (BitVec.ofNat 64 y1) with
    | none => rw [z] at hx; cases hx
    | some t => rw [z] at hx; cases hx; rfl
   ·split at hx
    ·cases hx; rfl
    ·exact hW hx
   ·exact hW hx
  rw [hxs]
 cases hs
/-! ### the heap's words -/
def kad (b : Nat → Wd64) (k : YKey) : Wd64 := b k.1 + wI (k.2 : Int)
structure KOk (h : Wd64) (b : Nat → Wd64) (K : List YKey) : Prop where
 hh : h.toNat ≤ 1099511627776
 lo : ∀ k ∈ K, 1073741824 ≤ (kad b k).toNat ∧ (kad b k).toNat + 8 ≤ 1073741824 + h.toNat
 sep : ∀ k ∈ K, ∀ j ∈ K, k ≠ j → (kad b k).toNat + 8 ≤ (kad b j).toNat ∨ (kad b j).toNat + 8 ≤ (kad b k).toNat
theorem ybeq_iff {x y : YKey} : ybeq x y = true ↔ x = y := by
 unfold ybeq
 rw [Bool.and_eq_true]
 constructor
 ·rintro ⟨h1, h2⟩
  exact Prod.ext (Nat.eq_of_beq_eq_true h1) (Nat.eq_of_beq_eq_true h2)
 rintro rfl
 exact ⟨Nat.beq_refl _, Nat.beq_refl _⟩
def Hp (b : Nat → Wd64) (K : List YKey) (l : YH) (m : Mf) : Prop := ∀ k v, yget k l = some v → k ∈ K ∧ leF m (kad b k) 8 = v.w b
theorem far_le {m : Mf} {a z x : Wd64} (h : a.toNat + 8 ≤ z.toNat ∨ z.toNat + 8 ≤ a.toNat) (ha : a.toNat + 8 ≤ 18446744073709551616) (hz : z.toNat + 8 ≤ 18446744073709551616) : leF (putsF m a x 8) z 8 = leF m z 8 := by
 refine le_ext 8 (fun i hi => puts_out _ _ _ _ _ (fun l hl q => ?_))
 have := congrArg BitVec.toNat q
 have h1 := wI_nat (l : Int)
 have h2 := wI_nat (i : Int)
 rw [wrap_u64] at h1 h2
 rw [BitVec.toNat_add, BitVec.toNat_add] at this
 omega
theorem self_le {m : Mf} {a x : Wd64} (ha : a.toNat + 8 ≤ 18446744073709551616) : leF (putsF m a x 8) a 8 = x := le_puts _ _ _ (fun i k hi hk q => by
 have := congrArg BitVec.toNat q
 have h1 := wI_nat (i : Int)
 have h2 := wI_nat (k : Int)
 rw [wrap_u64] at h1 h2
 rw [BitVec.toNat_add, BitVec.toNat_add] at this
 omega)
theorem Hp.put {l : YH} {mf : Mf} (hk : KOk h b K) (hp : Hp b K l mf) {k : YKey} (hkK : k ∈ K) (v : YV) : Hp b K ((k, v) :: l) (putsF mf (kad b k) (v.w b) 8) := by
 intro j x hj
 have hb := hk.hh
 have l1 := hk.lo k hkK
 unfold yget at hj
 by_cases e : ybeq j k = true
 ·rw [e] at hj
  obtain rfl := ybeq_iff.1 e
  obtain rfl : v = x := Option.some.inj hj
  exact ⟨hkK, self_le (by omega)⟩
 rw [Bool.not_eq_true] at e
 rw [e] at hj
 obtain ⟨h1, h2⟩ := hp j x hj
 have l2 := hk.lo j h1
 have hne : k ≠ j := fun q => by rw [q, ybeq_iff.2 rfl] at e; cases e
 exact ⟨h1, (far_le (hk.sep k hkK j h1 hne) (by omega) (by omega)).trans h2⟩
theorem Hp.cell {l : YH} {mf : Mf} (hk : KOk h b K) (hp : Hp b K l mf) {o : Nat} (ho : o < 400) (x : Wd64) : Hp b K l (putsF mf (268435456#64 + wI ((8 * (o / 8) : Nat) : Int)) x 8) := by
 intro j v hj
 obtain ⟨h1, h2⟩ := hp j v hj
 have hb := hk.hh
 have l2 := hk.lo j h1
 have ha := wI_nat ((8 * (o / 8) : Nat) : Int)
 rw [wrap_u64] at ha
 have hz : (268435456#64 + wI ((8 * (o / 8) : Nat) : Int) : Wd64).toNat = 268435456 + 8 * (o / 8) := by
  rw [BitVec.toNat_add, BitVec.toNat_ofNat]; omega
 exact ⟨h1, (far_le (by rw [hz]; omega) (by rw [hz]; omega) (by omega)).trans h2⟩
structure YIs (P : Prog) (h : Wd64) (e : Bool) (w : V.PW) (b : Nat → Wd64) (K : List YKey) (s : YS) (m : Mc) : Prop where
 i : Is P h e w (s.m b) m
 hp : Hp b K s.h m.mem
theorem stepM_mem {i : Ins} {m1 : Mc} (hs : stepM RF m i = some m1) (h18 : i.kind ≠ 18) (h30 : i.kind ≠ 30) : m1.mem = m.mem := by
 unfold stepM at hs
 split at hs
 ·cases hs
 split at hs
 ·cases hs; rfl
 split at hs
 ·cases hs
  unfold backM
  split <;> rfl
 split at hs
 ·unfold jumpM at hs
  split at hs
  ·cases hs
  split at hs
  ·cases hs; rfl
  split at hs
  ·cases hs
  cases hs; rfl
 split at hs
 ·split at hs
  ·cases hs; rfl
  cases hs
 cases hA : stepA RF m.c.heap m.x i with
 | none => rw [hA] at hs; cases hs
 | some x' => rw [hA] at hs; cases hs; rfl
theorem one_mem (hm : YIs P h e w b K s m) {m' : Mc} (hr : ∀ N, runM RF (N + 1) m = runM RF N m') (h18 : (yI P b s).kind ≠ 18) (h30 : (yI P b s).kind ≠ 30) (hst : m'.c.st = 0) : m'.mem = m.mem := by
 have h1 := hr 0
 rw [show runM RF 0 m' = m' from rfl, runM, if_neg (fun q => q hm.i.st), (adv_is hm.i).2] at h1
 cases hs : stepM RF (advM m) (insS P (s.m b).top) with
 | none => rw [hs] at h1; rw [← h1] at hst; exact absurd hst (by show ¬ (2 : Int) = 0; decide)
 | some q => rw [hs] at h1; have e : m' = tickC q := h1.symm; rw [e]; show q.mem = m.mem; exact stepM_mem (m := advM m) hs h18 h30
theorem y30 (hs : ystep P h b K s g = some (s', obs)) : (yI P b s).kind ≠ 30 := fun q => by
 unfold ystep at hs
 rw [if_neg (by omega), if_neg (by omega), if_neg (by omega), if_neg (by omega), if_neg (by omega), if_neg (by omega), if_neg (by omega), if_neg (by omega), if_neg (by omega), if_neg (by omega), if_neg (by omega)] at hs
 split at hs
 ·rename_i u v hu hv
  obtain ⟨x, hx, _⟩ := bind_put hs
  have h2 := yop_m hx
  unfold opW at h2
  rw [if_neg (by omega), if_neg (by omega), if_neg (by omega), if_neg (by omega), if_neg (by omega), if_neg (by omega), if_neg (by omega)] at h2
  cases h2
 ·cases hs
theorem ystep_ok (hz : psData P = 400#64) (hk : KOk h b K) (hm : YIs P h e w b K s m) (hs : ystep P h b K s g = some (s', obs)) (ho : ∀ o ∈ obs, o.ok b) : ∃ m', (∀ N, runM RF (N + 1) m = runM RF N m') ∧ YIs P h e w b K s' m' := by
 have hx := (adv_is hm.i).1
 have hA := hm.i.top.go (atS P (s.m b).top)
 rw [← hx] at hA
 have hI : insS P (s.m b).top = yI P b s := rfl
 have hrd : ∀ {r : Int} {v : YV}, yk r.toNat s.top.ρ = some v → rA (advM m).x r = v.w b ∧ (advM m).x.set.getD r.toNat default = true := fun q => hA.rd (ytop q)
 by_cases k17 : (yI P b s).kind = 17
 ·by_cases h17 : ∃ o, yk (yI P b s).a.toNat s.top.ρ = some (.sv (.dt o))
  ·obtain ⟨g', obs', h1, h2, h3⟩ := ystep_s hs (fun _ => h17) (fun q => absurd q (by omega)) ho
   obtain ⟨m', r1, i1⟩ := sstep_ok (RF := RF) hz hm.i h1 h2
   exact ⟨m', r1, i1, by rw [h3, one_mem hm r1 (by omega) (by omega) i1.st]; exact hm.hp⟩
  unfold ystep at hs
  rw [if_neg (by omega), if_neg (by omega), if_neg (by omega), if_neg (by omega), if_pos k17] at hs
  split at hs
  ·rename_i o hv; exact absurd ⟨o, hv⟩ h17
  ·rename_i i o hv
   split at hs
   ·rename_i hc
    obtain ⟨v, hg, hp⟩ := bind_put hs
    obtain ⟨hkK, hval⟩ := hm.hp _ _ hg
    obtain ⟨hl1, hl2⟩ := hk.lo _ hkK
    obtain ⟨a1, a2⟩ := hrd hv
    have had : adF (advM m).x (yI P b s) = kad b (i, o) := by
     unfold adF; rw [a1, hc.2]; exact BitVec.add_zero _
    have hth : memOk (advM m).c (adF (advM m).x (yI P b s)) (yI P b s).size = true := by
     unfold memOk thereC
     rw [had, hc.1, show (advM m).c.prog = P from hm.i.prog, show (advM m).c.heap = h from hm.i.heap, G.th_heap hl1 hl2]
     rfl
    have hld : leF (advM m).mem (adF (advM m).x (yI P b s)) (yI P b s).size.toNat = v.w b := by
     rw [had, hc.1]; exact hval
    have hst : stepM RF (advM m) (yI P b s) = some { advM m with x := goF (setD (advM m).x (yI P b s).d (v.w b)) } := by
     rw [stepLd (by rw [rd_a (by rw [k17]; exact ⟨rfl, rfl, rfl⟩)]; exact ok_a a2) k17, if_pos hth, hld]
    unfold yput at hp
    split at hp
    ·rename_i hd
     simp only [Option.some.injEq, Prod.mk.injEq] at hp
     obtain ⟨rfl, _⟩ := hp
     obtain ⟨m', r1, i1⟩ := run_one (s' := ({ s with top := { s.top with a := yA P b s + 1, ρ := ((yI P b s).d.toNat, v) :: s.top.ρ } } : YS).m b) hm.i hst ⟨hm.i.prog, hm.i.heap, hm.i.strict, hm.i.ent, hm.i.st, hm.i.w, by
      have h2 := hA.set hd.1 hd.2 (v := v.s b) (x := v.w b) rfl (atS P (s.m b).top + 1)
      have e1 : goF (setD (advM m).x (yI P b s).d (v.w b)) = { setD (advM m).x (yI P b s).d (v.w b) with at_ := ((atS P (s.m b).top + 1 : Nat) : Int) } := by
       unfold goF setD
       rw [hx]
       rfl
      show FrIs P (goF _) _
      rw [e1]
      exact h2, hm.i.bl, hm.i.c⟩
     refine ⟨m', r1, i1, ?_⟩
     rw [one_mem hm r1 (by omega) (by omega) i1.st]; exact hm.hp
    cases hp
   cases hs
  cases hs
 by_cases k18 : (yI P b s).kind = 18
 ·by_cases h18 : ∃ o, yk (yI P b s).a.toNat s.top.ρ = some (.sv (.dt o))
  ·obtain ⟨g', obs', h1, h2, h3⟩ := ystep_s hs (fun q => absurd q (by omega)) (fun _ => h18) ho
   obtain ⟨m', r1, i1⟩ := sstep_ok (RF := RF) hz hm.i h1 h2
   refine ⟨m', r1, i1, ?_⟩
   obtain ⟨o, hv⟩ := h18
   rw [h3]
   have q1 := r1 0
   rw [show runM RF 0 m' = m' from rfl, runM, if_neg (fun q => q hm.i.st), (adv_is hm.i).2, hI] at q1
   unfold ystep at hs
   rw [if_neg (by omega), if_neg (by omega), if_neg (by omega), if_neg (by omega), if_neg k17, if_pos k18, hv] at hs
   cases hu : yk (yI P b s).b.toNat s.top.ρ with
   | none => rw [hu] at hs; cases hs
   | some v =>
    rw [hu] at hs
    dsimp only at hs
    split at hs
    ·rename_i hc
     obtain ⟨a1, a2⟩ := hrd hv
     obtain ⟨b1, b2⟩ := hrd hu
     have had := ad_cell (i := yI P b s) a1 hc.1.2 hc.2.1
     rw [stepSt (by rw [rd_ab (by rw [k18]; exact ⟨rfl, rfl, rfl⟩)]; exact ok_ab a2 b2) k18, b1, had, hc.1.1] at q1
     by_cases hme : memOk (advM m).c (268435456#64 + wI ((8 * (o / 8) : Nat) : Int)) 8 = true
     ·rw [if_pos hme] at q1
      have e := q1.symm
      rw [e]
      exact hm.hp.cell hk hc.2.2 _
     ·rw [if_neg hme] at q1
      have e : m' = stuckC (advM m) := q1.symm
      rw [e] at i1; exact absurd i1.st (by show ¬ (2 : Int) = 0; decide)
    ·cases hs
  unfold ystep at hs
  rw [if_neg (by omega), if_neg (by omega), if_neg (by omega), if_neg (by omega), if_neg k17, if_pos k18] at hs
  split at hs
  ·rename_i o v hv hu; exact absurd ⟨o, hv⟩ h18
  ·rename_i i o v hv hu
   split at hs
   ·rename_i hc
    simp only [Option.some.injEq, Prod.mk.injEq] at hs
    obtain ⟨rfl, _⟩ := hs
    have hkK : (i, o) ∈ K := by
     obtain ⟨k, hk1, hk2⟩ := List.any_eq_true.1 hc.2
     rw [ybeq_iff.1 hk2]; exact hk1
    obtain ⟨hl1, hl2⟩ := hk.lo _ hkK
    have hb := hk.hh
    obtain ⟨a1, a2⟩ := hrd hv
    obtain ⟨b1, b2⟩ := hrd hu
    have had : adF (advM m).x (yI P b s) = kad b (i, o) := by
     unfold adF; rw [a1, hc.1.2]; exact BitVec.add_zero _
    have hth : memOk (advM m).c (adF (advM m).x (yI P b s)) (yI P b s).size = true := by
     unfold memOk thereC
     rw [had, hc.1.1, show (advM m).c.prog = P from hm.i.prog, show (advM m).c.heap = h from hm.i.heap, G.th_heap hl1 hl2]
     rfl
    have hst : stepM RF (advM m) (yI P b s) = some { advM m with x := goF (advM m).x, mem := putsF m.mem (kad b (i, o)) (v.w b) 8 } := by
     rw [stepSt (by rw [rd_ab (by rw [k18]; exact ⟨rfl, rfl, rfl⟩)]; exact ok_ab a2 b2) k18, if_pos hth, b1, had, hc.1.1]
     rfl
    refine ⟨tickC { advM m with x := goF (advM m).x, mem := putsF m.mem (kad b (i, o)) (v.w b) 8 }, fun N => ?_, ⟨hm.i.prog, hm.i.heap, hm.i.strict, hm.i.ent, hm.i.st, hm.i.w, ?_, hm.i.bl, G.Cells.far hm.i.c (by omega) (by omega)⟩, hm.hp.put hk hkK v⟩
    ·rw [runM, if_neg (fun q => q hm.i.st), (adv_is hm.i).2, hI, hst]
    have e1 : goF (advM m).x = { (advM m).x with at_ := ((atS P (s.m b).top + 1 : Nat) : Int) } := by
     unfold goF; rw [hx]; rfl
    show FrIs P (goF _) _
    rw [e1]
    exact hA.go (atS P (s.m b).top + 1)
   cases hs
  cases hs
 have k30 := y30 hs
 obtain ⟨g', obs', h1, h2, h3⟩ := ystep_s hs (fun q => absurd q k17) (fun q => absurd q k18) ho
 obtain ⟨m', r1, i1⟩ := sstep_ok (RF := RF) hz hm.i h1 h2
 exact ⟨m', r1, i1, by rw [h3, one_mem hm r1 k18 k30 i1.st]; exact hm.hp⟩
end
def yrun (P : Prog) (h : Wd64) (b : Nat → Wd64) (K : List YKey) : List Bool → Nat → YS → List YO → Option (YS × List YO)
 | _, 0, s, acc => some (s, acc)
 | bs, n + 1, s, acc => match ystep P h b K s (bs.headD false) with
  | some (s', []) => yrun P h b K bs n s' acc
  | some (s', obs) => yrun P h b K bs.tail n s' (obs ++ acc)
  | none => none
section
variable {RF : Int → Wd64 → Wd64 → Wd64} {P : Prog} {h : Wd64} {e : Bool} {w : V.PW} {b : Nat → Wd64} {K : List YKey}
theorem yrun_acc : ∀ {n : Nat} {bs : List Bool} {s s' : YS} {acc obs : List YO}, yrun P h b K bs n s acc = some (s', obs) → ∀ o ∈ acc, o ∈ obs
 | 0, _, _, _, _, _, hr, o, ho => by
  simp only [yrun, Option.some.injEq, Prod.mk.injEq] at hr
  rw [← hr.2]; exact ho
 | n + 1, bs, s, s', acc, obs, hr, o, ho => by
  rw [yrun] at hr
  split at hr
  ·exact yrun_acc hr o ho
  ·exact yrun_acc hr o (List.mem_append.2 (.inr ho))
  ·cases hr
theorem yrun_ok (hz : psData P = 400#64) (hk : KOk h b K) : ∀ {n : Nat} {bs : List Bool} {s s' : YS} {acc obs : List YO} {m : Mc}, YIs P h e w b K s m → yrun P h b K bs n s acc = some (s', obs) → (∀ o ∈ obs, o.ok b) → ∃ m', (∀ N, runM RF (N + n) m = runM RF N m') ∧ YIs P h e w b K s' m' ∧ ∀ j, j ≤ n → (runM RF j m).w = w
 | 0, bs, s, s', acc, obs, m, hm, hr, _ => by
  simp only [yrun, Option.some.injEq, Prod.mk.injEq] at hr
  rw [← hr.1]
  exact ⟨m, fun _ => rfl, hm, fun j hj => by rw [Nat.le_zero.1 hj]; exact hm.i.w⟩
 | n + 1, bs, s, s', acc, obs, m, hm, hr, ho => by
  rw [yrun] at hr
  have next : ∀ {s2 : YS} {obs2 : List YO} {bs2 : List Bool} {acc2 : List YO}, ystep P h b K s (bs.headD false) = some (s2, obs2) → (∀ o ∈ obs2, o.ok b) → yrun P h b K bs2 n s2 acc2 = some (s', obs) → ∃ m', (∀ N, runM RF (N + (n + 1)) m = runM RF N m') ∧ YIs P h e w b K s' m' ∧ ∀ j, j ≤ n + 1 → (runM RF j m).w = w := fun h2 ho2 hr2 => by
   obtain ⟨m1, r1, i1⟩ := ystep_ok (RF := RF) hz hk hm h2 ho2
   obtain ⟨m2, r2, i2, w2⟩ := yrun_ok hz hk i1 hr2 ho
   exact ⟨m2, fun N => by rw [show N + (n + 1) = (N + n) + 1 by omega, r1, r2], i2, fun j hj => by
    cases j with
    | zero => exact hm.i.w
    | succ j => rw [r1]; exact w2 j (by omega)⟩
  split at hr
  ·rename_i s2 h2
   exact next h2 (fun _ q => by cases q) hr
  ·rename_i s2 obs2 _ h2
   exact next h2 (fun o q => ho o (yrun_acc hr o (List.mem_append.2 (.inl q)))) hr
  ·cases hr
theorem yrun_no (hz : psData P = 400#64) (hk : KOk h b K) : ∀ {n : Nat} {bs : List Bool} {s s' : YS} {acc obs : List YO} {m : Mc}, YIs P h e w b K s m → yrun P h b K bs n s acc = some (s', obs) → (∀ o ∈ obs, o.ok b) → ∃ m', (∀ N, runM RF (N + n) m = runM RF N m') ∧ YIs P h e w b K s' m' ∧ ∀ j, j < n → (insOf P (advM (runM RF j m)).x).kind ≠ 30
 | 0, bs, s, s', acc, obs, m, hm, hr, _ => by
  simp only [yrun, Option.some.injEq, Prod.mk.injEq] at hr
  rw [← hr.1]
  exact ⟨m, fun _ => rfl, hm, fun j hj => absurd hj (Nat.not_lt_zero j)⟩
 | n + 1, bs, s, s', acc, obs, m, hm, hr, ho => by
  have hI := (adv_is hm.i).2
  rw [hm.i.prog] at hI
  rw [yrun] at hr
  have next : ∀ {s2 : YS} {obs2 : List YO} {bs2 : List Bool} {acc2 : List YO}, ystep P h b K s (bs.headD false) = some (s2, obs2) → (∀ o ∈ obs2, o.ok b) → yrun P h b K bs2 n s2 acc2 = some (s', obs) → ∃ m', (∀ N, runM RF (N + (n + 1)) m = runM RF N m') ∧ YIs P h e w b K s' m' ∧ ∀ j, j < n + 1 → (insOf P (advM (runM RF j m)).x).kind ≠ 30 := fun h2 ho2 hr2 => by
   obtain ⟨m1, r1, i1⟩ := ystep_ok (RF := RF) hz hk hm h2 ho2
   obtain ⟨m2, r2, i2, w2⟩ := yrun_no hz hk i1 hr2 ho
   exact ⟨m2, fun N => by rw [show N + (n + 1) = (N + n) + 1 by omega, r1, r2], i2, fun j hj => by
    cases j with
    | zero => show (insOf P (advM m).x).kind ≠ 30; rw [hI]; exact y30 h2
    | succ j => rw [r1]; exact w2 j (by omega)⟩
  split at hr
  ·rename_i s2 h2
   exact next h2 (fun _ q => by cases q) hr
  ·rename_i s2 obs2 _ h2
   exact next h2 (fun o q => ho o (yrun_acc hr o (List.mem_append.2 (.inl q)))) hr
  ·cases hr
end
end Go.Proofs.YtpgbpdnmjeoeoaaGreat.B

namespace Go.Proofs.YtpgbpdnmjeoeoaaGreat.G
open Go Go.RowKit B
set_option maxRecDepth 100000
abbrev W (x : Wd64) : YV := .sv (.wd x)
def cY (g : Nat) (c : Nat → Wd64) (k : Nat) : YV :=
 bif Nat.beq k 3 then .hp 1 0 else bif Nat.beq k 36 then .hp 4 0 else bif Nat.beq k 38 then .hp 5 0 else bif Nat.beq k 39 then .hp 3 0 else bif Nat.beq k 40 then .hp 3 (8 * g)
 else bif Nat.beq (k % 2) 1 && Nat.ble 5 k && Nat.ble k 19 then .lit 1 else W (c k)
def h0Y (g : Nat) (gh : Wd64) : YH := ((1, 0), .lit 67108869) :: ((1, 8), .lit 1953523051) :: (bif Nat.beq g 1 then [((3, 0), .hp 2 0), ((2, 0), W gh)] else [])
def KM : List YKey := [(1, 0), (1, 8), (2, 0), (3, 0), (5, 0), (5, 8), (5, 16)]
def K4 : List YKey := [(1, 0), (1, 8), (2, 0), (3, 0), (4, 0), (4, 8)]
def s0Y (g : Nat) (n gh : Wd64) (c : Nat → Wd64) : YS := ⟨⟨2, 0, argsY 0 [W n], 0⟩, [], cY g c, h0Y g gh⟩
def alY (g : Nat) (y n gh : Wd64) (b c : Nat → Wd64) (K : List YKey) (bs : List Bool) (N : Nat) : Option (YS × List YO) := yrun gcP y b K bs N (s0Y g n gh c) []
def idxY : List Nat := [0, 1, 3, 5, 7, 9, 11, 13, 15, 17, 19, 32, 33, 34, 35, 36, 37, 38, 39, 40, 47]
def eqY : Option YV → YV → Bool
 | some (.lit x), .lit y => Nat.beq x y
 | some (.hp i o), .hp j p => Nat.beq i j && Nat.beq o p
 | _, _ => false
def chkY (h : YH) : List (YKey × YV) → Bool
 | [] => true
 | (k, v) :: l => eqY (yget k h) v && chkY h l
def outY (l : List (YKey × YV)) (r : YS × List YO) : List YV × Bool × Int × Option YV × Nat × List YO :=
 (idxY.map r.1.c, chkY r.1.h l, (insS gcP ⟨r.1.top.f, r.1.top.a, [], 0⟩).kind, yk (insS gcP ⟨r.1.top.f, r.1.top.a, [], 0⟩).a.toNat r.1.top.ρ, r.1.bl.length, r.2)
def oA0 (n gh : Wd64) (b c : Nat → Wd64) : List YO := [⟨5, W (c 34), W (c 33 + n), false⟩, ⟨5, W (c 34 - c 32), W (n), false⟩]
theorem rA0 (y n gh : Wd64) (b c : Nat → Wd64) : (alY 0 y n gh b c KM [false, false] 14).map (outY [((1, 0), .lit 67108869), ((1, 8), .lit 1953523051)]) = some ([W (c 0), W (c 1), .hp 1 0, .lit 1, .lit 1, .lit 1, .lit 1, .lit 1, .lit 1, .lit 1, .lit 1, W (c 32), W (c 33 + n), W (c 34), W (c 35), .hp 4 0, W (c 37), .hp 5 0, .hp 3 0, .hp 3 0, W (c 47)], true, 26, some (W (c 33)), 0, oA0 n gh b c) := by kernel_rfl
def oA1 (n gh : Wd64) (b c : Nat → Wd64) : List YO := [⟨5, W (c 34), W (c 33 + n), false⟩, ⟨5, W (c 34 - c 32), W (n), false⟩]
theorem rA1 (y n gh : Wd64) (b c : Nat → Wd64) : (alY 1 y n gh b c KM [false, false] 14).map (outY [((1, 0), .lit 67108869), ((1, 8), .lit 1953523051), ((3, 0), .hp 2 0)]) = some ([W (c 0), W (c 1), .hp 1 0, .lit 1, .lit 1, .lit 1, .lit 1, .lit 1, .lit 1, .lit 1, .lit 1, W (c 32), W (c 33 + n), W (c 34), W (c 35), .hp 4 0, W (c 37), .hp 5 0, .hp 3 0, .hp 3 8, W (c 47)], true, 26, some (W (c 33)), 0, oA1 n gh b c) := by kernel_rfl
theorem rA1h (y n gh : Wd64) (b c : Nat → Wd64) : (alY 1 y n gh b c KM [false, false] 14).map (fun r => r.1.h) = some (h0Y 1 gh) := by kernel_rfl
def oBn0 (n gh : Wd64) (b c : Nat → Wd64) : List YO := [⟨5, W (c 34), W (c 32 + n), false⟩, ⟨6, .hp 4 16, .hp 4 16, true⟩, ⟨6, .hp 4 16, .hp 4 0, false⟩, ⟨6, .hp 3 0, .hp 3 0, true⟩, ⟨6, .hp 4 16, W (c 37), true⟩, ⟨6, W (c 34 - c 32), W ((b 1 + wI ((0 : Nat) : Int)) - c 32), false⟩, ⟨1, W ((b 1 + wI ((0 : Nat) : Int)) &&& 1#64), .lit 0, true⟩, ⟨6, W (c 0), W (c 1), true⟩, ⟨6, W (c 33 - c 32), W (c 37 - (b 4 + wI ((0 : Nat) : Int))), true⟩, ⟨5, W (c 34), W (c 33 + n), true⟩, ⟨5, W (c 34 - c 32), W (n), false⟩]
theorem rBn0 (y n gh : Wd64) (b c : Nat → Wd64) : (alY 0 y n gh b c K4 [false, true, true, true, true, false, true, true, false, true, false] 284).map (outY [((4, 0), .lit 67108869), ((4, 8), .lit 1953523051)]) = some ([W (c 0), W (c 1), .hp 4 0, .lit 1, .lit 1, .lit 1, .lit 1, .lit 1, .lit 1, .lit 1, .lit 1, W (c 32), W (c 32 + n), W (c 34), W (c 35), .hp 4 16, W (c 37), .hp 5 0, .hp 3 0, .hp 3 0, W (c 47)], true, 26, some (W (c 32)), 0, oBn0 n gh b c) := by kernel_rfl
def oBn1 (n gh : Wd64) (b c : Nat → Wd64) : List YO := [⟨5, W (c 34), W (c 32 + n), false⟩, ⟨6, .hp 4 16, .hp 4 16, true⟩, ⟨6, .hp 4 16, .hp 4 0, false⟩, ⟨6, .hp 3 8, .hp 3 8, true⟩, ⟨1, W (((gh &&& 18446744073709551583#64) >>> (1#64 &&& 63#64).toNat) &&& 15#64), .lit 8, false⟩, ⟨1, W (((gh &&& 18446744073709551583#64) >>> (1#64 &&& 63#64).toNat) &&& 15#64), .lit 6, false⟩, ⟨1, W (((gh &&& 18446744073709551583#64) >>> (1#64 &&& 63#64).toNat) &&& 15#64), .lit 5, false⟩, ⟨1, W (((gh &&& 18446744073709551583#64) >>> (1#64 &&& 63#64).toNat) &&& 15#64), .lit 1, false⟩, ⟨1, W (((gh &&& 18446744073709551583#64) >>> (1#64 &&& 63#64).toNat) &&& 15#64), .lit 2, true⟩, ⟨6, .hp 3 8, .hp 3 0, false⟩, ⟨6, .hp 4 16, W (c 37), true⟩, ⟨6, W (c 34 - c 32), W ((b 1 + wI ((0 : Nat) : Int)) - c 32), false⟩, ⟨1, W ((b 1 + wI ((0 : Nat) : Int)) &&& 1#64), .lit 0, true⟩, ⟨6, W (c 0), W (c 1), true⟩, ⟨6, W (c 33 - c 32), W (c 37 - (b 4 + wI ((0 : Nat) : Int))), true⟩, ⟨5, W (c 34), W (c 33 + n), true⟩, ⟨5, W (c 34 - c 32), W (n), false⟩]
theorem rBn1 (y n gh : Wd64) (b c : Nat → Wd64) : (alY 1 y n gh b c K4 [false, true, true, true, true, false, true, false, true, false, false, false, false, true, false, true, false] 333).map (outY [((4, 0), .lit 67108869), ((4, 8), .lit 1953523051)]) = some ([W (c 0), W (c 1), .hp 4 0, .lit 1, .lit 1, .lit 1, .lit 1, .lit 1, .lit 1, .lit 1, .lit 1, W (c 32), W (c 32 + n), W (c 34), W (c 35), .hp 4 16, W (c 37), .hp 5 0, .hp 3 0, .hp 3 0, W (c 47)], true, 26, some (W (c 32)), 0, oBn1 n gh b c) := by kernel_rfl
def oBo0 (n gh : Wd64) (b c : Nat → Wd64) : List YO := [⟨5, W (c 34), W (c 32 + n), false⟩, ⟨6, .hp 4 0, .hp 4 0, true⟩, ⟨6, .hp 3 0, .hp 3 0, true⟩, ⟨6, .lit 0, W ((b 1 + wI ((0 : Nat) : Int)) - 0#64), true⟩, ⟨6, W (c 34 - c 32), W ((b 1 + wI ((0 : Nat) : Int)) - c 32), true⟩, ⟨1, W ((b 1 + wI ((0 : Nat) : Int)) &&& 1#64), .lit 0, true⟩, ⟨6, W (c 0), W (c 1), true⟩, ⟨6, W (c 33 - c 32), W (c 37 - (b 4 + wI ((0 : Nat) : Int))), true⟩, ⟨5, W (c 34), W (c 33 + n), true⟩, ⟨5, W (c 34 - c 32), W (n), false⟩]
theorem rBo0 (y n gh : Wd64) (b c : Nat → Wd64) : (alY 0 y n gh b c KM [false, true, true, true, true, true, true, true, true, false] 190).map (outY [((1, 0), .lit 67108869), ((1, 8), .lit 1953523051)]) = some ([W (c 0), W (c 1), .hp 1 0, .lit 1, .lit 1, .lit 1, .lit 1, .lit 1, .lit 1, .lit 1, .lit 1, W (c 32), W (c 32 + n), W (c 34), W (c 35), .hp 4 0, W (c 37), .hp 5 0, .hp 3 0, .hp 3 0, W (c 47)], true, 26, some (W (c 32)), 0, oBo0 n gh b c) := by kernel_rfl
def oBo1 (n gh : Wd64) (b c : Nat → Wd64) : List YO := [⟨5, W (c 34), W (c 32 + n), false⟩, ⟨6, .hp 4 0, .hp 4 0, true⟩, ⟨6, .hp 3 8, .hp 3 8, true⟩, ⟨1, W (((gh &&& 18446744073709551583#64) >>> (1#64 &&& 63#64).toNat) &&& 15#64), .lit 8, false⟩, ⟨1, W (((gh &&& 18446744073709551583#64) >>> (1#64 &&& 63#64).toNat) &&& 15#64), .lit 6, false⟩, ⟨1, W (((gh &&& 18446744073709551583#64) >>> (1#64 &&& 63#64).toNat) &&& 15#64), .lit 5, false⟩, ⟨1, W (((gh &&& 18446744073709551583#64) >>> (1#64 &&& 63#64).toNat) &&& 15#64), .lit 1, false⟩, ⟨1, W (((gh &&& 18446744073709551583#64) >>> (1#64 &&& 63#64).toNat) &&& 15#64), .lit 2, true⟩, ⟨6, .hp 3 8, .hp 3 0, false⟩, ⟨6, .lit 0, W ((b 1 + wI ((0 : Nat) : Int)) - 0#64), true⟩, ⟨6, W (c 34 - c 32), W ((b 1 + wI ((0 : Nat) : Int)) - c 32), true⟩, ⟨1, W ((b 1 + wI ((0 : Nat) : Int)) &&& 1#64), .lit 0, true⟩, ⟨6, W (c 0), W (c 1), true⟩, ⟨6, W (c 33 - c 32), W (c 37 - (b 4 + wI ((0 : Nat) : Int))), true⟩, ⟨5, W (c 34), W (c 33 + n), true⟩, ⟨5, W (c 34 - c 32), W (n), false⟩]
theorem rBo1 (y n gh : Wd64) (b c : Nat → Wd64) : (alY 1 y n gh b c KM [false, true, true, true, true, true, true, false, true, false, false, false, false, true, true, false] 239).map (outY [((1, 0), .lit 67108869), ((1, 8), .lit 1953523051)]) = some ([W (c 0), W (c 1), .hp 1 0, .lit 1, .lit 1, .lit 1, .lit 1, .lit 1, .lit 1, .lit 1, .lit 1, W (c 32), W (c 32 + n), W (c 34), W (c 35), .hp 4 0, W (c 37), .hp 5 0, .hp 3 0, .hp 3 0, W (c 47)], true, 26, some (W (c 32)), 0, oBo1 n gh b c) := by kernel_rfl
def oMn1 (n gh : Wd64) (b c : Nat → Wd64) : List YO := [⟨5, W (c 34), W (c 32 + n), false⟩, ⟨6, .hp 5 16, .hp 5 16, true⟩, ⟨6, .hp 5 16, .hp 5 0, false⟩, ⟨6, .hp 3 0, .hp 3 0, true⟩, ⟨6, .hp 5 16, W ((b 5 + wI ((0 : Nat) : Int)) + c 47), true⟩, ⟨6, W (c 34 - c 32), W ((b 1 + wI ((0 : Nat) : Int)) - c 32), false⟩, ⟨1, W ((b 1 + wI ((0 : Nat) : Int)) &&& 1#64), .lit 0, true⟩, ⟨6, W (c 0), W (c 1), true⟩, ⟨6, .hp 3 8, .hp 3 8, true⟩, ⟨6, .hp 3 8, .hp 3 0, false⟩, ⟨6, W (c 33 - c 32), W (c 37 - (b 4 + wI ((0 : Nat) : Int))), false⟩, ⟨5, W (c 34), W (c 33 + n), true⟩, ⟨5, W (c 34 - c 32), W (n), false⟩]
theorem rMn1 (y n gh : Wd64) (b c : Nat → Wd64) : (alY 1 y n gh b c KM [false, true, false, false, true, true, true, false, true, true, false, true, false] 322).map (outY [((5, 0), .lit 67108869), ((5, 8), .lit 1953523051)]) = some ([W (c 0), W (c 1), .hp 5 0, .lit 1, .lit 1, .lit 1, .lit 1, .lit 1, .lit 1, .lit 1, .lit 1, W (c 32), W (c 32 + n), W (c 34), .hp 5 0, .hp 5 16, W ((b 5 + wI ((0 : Nat) : Int)) + c 47), W (c 35), .hp 3 0, .hp 3 0, W (c 47)], true, 26, some (W (c 32)), 0, oMn1 n gh b c) := by kernel_rfl
def oMo0 (n gh : Wd64) (b c : Nat → Wd64) : List YO := [⟨5, W (c 34), W (c 32 + n), false⟩, ⟨6, .hp 5 16, .hp 5 16, true⟩, ⟨6, .hp 5 16, .hp 5 0, false⟩, ⟨6, .hp 3 0, .hp 3 0, true⟩, ⟨6, .hp 5 16, W ((b 5 + wI ((0 : Nat) : Int)) + c 47), true⟩, ⟨6, W (c 47), W ((b 1 + wI ((0 : Nat) : Int)) - c 35), false⟩, ⟨6, W (c 34 - c 32), W ((b 1 + wI ((0 : Nat) : Int)) - c 32), true⟩, ⟨1, W ((b 1 + wI ((0 : Nat) : Int)) &&& 1#64), .lit 0, true⟩, ⟨6, W (c 0), W (c 1), true⟩, ⟨6, .hp 3 0, .hp 3 0, true⟩, ⟨6, W (c 33 - c 32), W (c 37 - (b 4 + wI ((0 : Nat) : Int))), false⟩, ⟨5, W (c 34), W (c 33 + n), true⟩, ⟨5, W (c 34 - c 32), W (n), false⟩]
theorem rMo0 (y n gh : Wd64) (b c : Nat → Wd64) : (alY 0 y n gh b c KM [false, true, false, true, true, true, true, false, true, true, false, true, false] 317).map (outY [((5, 0), .lit 67108869), ((5, 8), .lit 1953523051)]) = some ([W (c 0), W (c 1), .hp 5 0, .lit 1, .lit 1, .lit 1, .lit 1, .lit 1, .lit 1, .lit 1, .lit 1, W (c 32), W (c 32 + n), W (c 34), .hp 5 0, .hp 5 16, W ((b 5 + wI ((0 : Nat) : Int)) + c 47), W (c 35), .hp 3 0, .hp 3 0, W (c 47)], true, 26, some (W (c 32)), 0, oMo0 n gh b c) := by kernel_rfl
def oMo1 (n gh : Wd64) (b c : Nat → Wd64) : List YO := [⟨5, W (c 34), W (c 32 + n), false⟩, ⟨6, .hp 5 16, .hp 5 16, true⟩, ⟨6, .hp 5 16, .hp 5 0, false⟩, ⟨6, .hp 3 0, .hp 3 0, true⟩, ⟨6, .hp 5 16, W ((b 5 + wI ((0 : Nat) : Int)) + c 47), true⟩, ⟨6, W (c 47), W ((b 1 + wI ((0 : Nat) : Int)) - c 35), false⟩, ⟨6, W (c 34 - c 32), W ((b 1 + wI ((0 : Nat) : Int)) - c 32), true⟩, ⟨1, W ((b 1 + wI ((0 : Nat) : Int)) &&& 1#64), .lit 0, true⟩, ⟨6, W (c 0), W (c 1), true⟩, ⟨6, .hp 3 8, .hp 3 8, true⟩, ⟨6, .hp 3 8, .hp 3 0, false⟩, ⟨6, W (c 33 - c 32), W (c 37 - (b 4 + wI ((0 : Nat) : Int))), false⟩, ⟨5, W (c 34), W (c 33 + n), true⟩, ⟨5, W (c 34 - c 32), W (n), false⟩]
theorem rMo1 (y n gh : Wd64) (b c : Nat → Wd64) : (alY 1 y n gh b c KM [false, true, false, false, true, true, true, true, false, true, true, false, true, false] 328).map (outY [((5, 0), .lit 67108869), ((5, 8), .lit 1953523051)]) = some ([W (c 0), W (c 1), .hp 5 0, .lit 1, .lit 1, .lit 1, .lit 1, .lit 1, .lit 1, .lit 1, .lit 1, W (c 32), W (c 32 + n), W (c 34), .hp 5 0, .hp 5 16, W ((b 5 + wI ((0 : Nat) : Int)) + c 47), W (c 35), .hp 3 0, .hp 3 0, W (c 47)], true, 26, some (W (c 32)), 0, oMo1 n gh b c) := by kernel_rfl
def oC0 (n gh : Wd64) (b c : Nat → Wd64) : List YO := [⟨6, W (n), W (c 37 - (b 4 + wI ((0 : Nat) : Int))), true⟩, ⟨5, W (c 34 - c 32), W (n), true⟩]
theorem rC0 (y n gh : Wd64) (b c : Nat → Wd64) : (alY 0 y n gh b c K4 [true, true] 26).map (outY [((1, 0), .lit 67108869), ((1, 8), .lit 1953523051), ((3, 0), .hp 4 0), ((4, 0), .lit 37)]) = some ([W (c 0), W (c 1), .hp 1 0, .lit 1, .lit 1, .lit 1, .lit 1, .lit 1, .lit 1, .lit 1, .lit 1, W (c 32), W (c 33), W (c 34), W (c 35), W ((b 4 + wI ((0 : Nat) : Int)) + n), W (c 37), .hp 5 0, .hp 3 0, .hp 3 8, W (c 47)], true, 26, some (.hp 4 0), 0, oC0 n gh b c) := by kernel_rfl
def oDn1 (n gh : Wd64) (b c : Nat → Wd64) : List YO := [⟨6, W (n), W (((b 5 + wI ((0 : Nat) : Int)) + c 47) - (b 5 + wI ((16 : Nat) : Int))), true⟩, ⟨6, .hp 5 16, .hp 5 16, true⟩, ⟨6, .hp 5 16, .hp 5 0, false⟩, ⟨6, .hp 3 0, .hp 3 0, true⟩, ⟨6, .hp 5 16, W ((b 5 + wI ((0 : Nat) : Int)) + c 47), true⟩, ⟨6, W (c 34 - c 32), W ((b 1 + wI ((0 : Nat) : Int)) - c 32), false⟩, ⟨1, W ((b 1 + wI ((0 : Nat) : Int)) &&& 1#64), .lit 0, true⟩, ⟨6, W (c 0), W (c 1), true⟩, ⟨6, .hp 3 8, .hp 3 8, true⟩, ⟨6, .hp 3 8, .hp 3 0, false⟩, ⟨6, W (n), W (c 37 - (b 4 + wI ((0 : Nat) : Int))), false⟩, ⟨5, W (c 34 - c 32), W (n), true⟩]
theorem rDn1 (y n gh : Wd64) (b c : Nat → Wd64) : (alY 1 y n gh b c KM [true, false, false, true, true, true, false, true, true, false, true, true] 321).map (outY [((5, 0), .lit 67108869), ((5, 8), .lit 1953523051), ((3, 0), .hp 5 16), ((5, 16), .lit 37)]) = some ([W (c 0), W (c 1), .hp 5 0, .lit 1, .lit 1, .lit 1, .lit 1, .lit 1, .lit 1, .lit 1, .lit 1, W (c 32), W (c 32), W (c 34), .hp 5 0, W ((b 5 + wI ((16 : Nat) : Int)) + n), W ((b 5 + wI ((0 : Nat) : Int)) + c 47), W (c 35), .hp 3 0, .hp 3 8, W (c 47)], true, 26, some (.hp 5 16), 0, oDn1 n gh b c) := by kernel_rfl
def oDo0 (n gh : Wd64) (b c : Nat → Wd64) : List YO := [⟨6, W (n), W (((b 5 + wI ((0 : Nat) : Int)) + c 47) - (b 5 + wI ((16 : Nat) : Int))), true⟩, ⟨6, .hp 5 16, .hp 5 16, true⟩, ⟨6, .hp 5 16, .hp 5 0, false⟩, ⟨6, .hp 3 0, .hp 3 0, true⟩, ⟨6, .hp 5 16, W ((b 5 + wI ((0 : Nat) : Int)) + c 47), true⟩, ⟨6, W (c 47), W ((b 1 + wI ((0 : Nat) : Int)) - c 35), false⟩, ⟨6, W (c 34 - c 32), W ((b 1 + wI ((0 : Nat) : Int)) - c 32), true⟩, ⟨1, W ((b 1 + wI ((0 : Nat) : Int)) &&& 1#64), .lit 0, true⟩, ⟨6, W (c 0), W (c 1), true⟩, ⟨6, .hp 3 0, .hp 3 0, true⟩, ⟨6, W (n), W (c 37 - (b 4 + wI ((0 : Nat) : Int))), false⟩, ⟨5, W (c 34 - c 32), W (n), true⟩]
theorem rDo0 (y n gh : Wd64) (b c : Nat → Wd64) : (alY 0 y n gh b c KM [true, false, true, true, true, true, false, true, true, false, true, true] 316).map (outY [((5, 0), .lit 67108869), ((5, 8), .lit 1953523051), ((3, 0), .hp 5 16), ((5, 16), .lit 37)]) = some ([W (c 0), W (c 1), .hp 5 0, .lit 1, .lit 1, .lit 1, .lit 1, .lit 1, .lit 1, .lit 1, .lit 1, W (c 32), W (c 32), W (c 34), .hp 5 0, W ((b 5 + wI ((16 : Nat) : Int)) + n), W ((b 5 + wI ((0 : Nat) : Int)) + c 47), W (c 35), .hp 3 0, .hp 3 8, W (c 47)], true, 26, some (.hp 5 16), 0, oDo0 n gh b c) := by kernel_rfl
def oDo1 (n gh : Wd64) (b c : Nat → Wd64) : List YO := [⟨6, W (n), W (((b 5 + wI ((0 : Nat) : Int)) + c 47) - (b 5 + wI ((16 : Nat) : Int))), true⟩, ⟨6, .hp 5 16, .hp 5 16, true⟩, ⟨6, .hp 5 16, .hp 5 0, false⟩, ⟨6, .hp 3 0, .hp 3 0, true⟩, ⟨6, .hp 5 16, W ((b 5 + wI ((0 : Nat) : Int)) + c 47), true⟩, ⟨6, W (c 47), W ((b 1 + wI ((0 : Nat) : Int)) - c 35), false⟩, ⟨6, W (c 34 - c 32), W ((b 1 + wI ((0 : Nat) : Int)) - c 32), true⟩, ⟨1, W ((b 1 + wI ((0 : Nat) : Int)) &&& 1#64), .lit 0, true⟩, ⟨6, W (c 0), W (c 1), true⟩, ⟨6, .hp 3 8, .hp 3 8, true⟩, ⟨6, .hp 3 8, .hp 3 0, false⟩, ⟨6, W (n), W (c 37 - (b 4 + wI ((0 : Nat) : Int))), false⟩, ⟨5, W (c 34 - c 32), W (n), true⟩]
theorem rDo1 (y n gh : Wd64) (b c : Nat → Wd64) : (alY 1 y n gh b c KM [true, false, false, true, true, true, true, false, true, true, false, true, true] 327).map (outY [((5, 0), .lit 67108869), ((5, 8), .lit 1953523051), ((3, 0), .hp 5 16), ((5, 16), .lit 37)]) = some ([W (c 0), W (c 1), .hp 5 0, .lit 1, .lit 1, .lit 1, .lit 1, .lit 1, .lit 1, .lit 1, .lit 1, W (c 32), W (c 32), W (c 34), .hp 5 0, W ((b 5 + wI ((16 : Nat) : Int)) + n), W ((b 5 + wI ((0 : Nat) : Int)) + c 47), W (c 35), .hp 3 0, .hp 3 8, W (c 47)], true, 26, some (.hp 5 16), 0, oDo1 n gh b c) := by kernel_rfl
end Go.Proofs.YtpgbpdnmjeoeoaaGreat.G

namespace Go.Proofs.YtpgbpdnmjeoeoaaGreat.G
open Go Go.RowKit B
set_option maxRecDepth 100000
theorem h5y {u v : Wd64} (h : u.toNat < v.toNat) : holdsF 5 u v = true := by
 unfold holdsF
 rw [if_neg (by decide), if_neg (by decide), if_neg (by decide), if_neg (by decide), if_pos rfl]
 exact decide_eq_true (by rw [BitVec.lt_def]; exact h)
theorem h6n {u v : Wd64} (h : v.toNat < u.toNat) : holdsF 6 u v = false := by
 unfold holdsF
 rw [if_neg (by decide), if_neg (by decide), if_neg (by decide), if_neg (by decide), if_neg (by decide)]
 exact decide_eq_false (by rw [BitVec.le_def]; omega)
theorem h1y {u v : Wd64} (h : u.toNat = v.toNat) : holdsF 1 u v = true := by
 unfold holdsF
 rw [if_pos rfl]
 exact decide_eq_true (BitVec.eq_of_toNat_eq h)
theorem yok_nil {b : Nat → Wd64} : ∀ o ∈ ([] : List YO), o.ok b := fun o q => by cases q
theorem yok_cons {b : Nat → Wd64} {k : Int} {u v : YV} {t : Bool} {l : List YO} (h : holdsF k (u.w b) (v.w b) = t) (hl : ∀ o ∈ l, o.ok b) : ∀ o ∈ (⟨k, u, v, t⟩ : YO) :: l, o.ok b := fun o ho => by
 rcases List.mem_cons.1 ho with e | e
 ·rw [e]; exact h
 ·exact hl o e
def hdN (k : Nat) : Nat := 5 + (k - 8) * 16777216
def gK (gh : Wd64) : Wd64 := ((gh &&& 18446744073709551583#64) >>> (1#64 &&& 63#64).toNat) &&& 15#64
theorem gK_2 {gh : Wd64} {x : Nat} (h : gh.toNat = 5 + x * 16777216) : gK gh = 2#64 := by
 apply BitVec.eq_of_toNat_eq
 show ((gh &&& 18446744073709551583#64) >>> 1 &&& 15#64).toNat = 2
 rw [BitVec.toNat_and, BitVec.toNat_ushiftRight, BitVec.toNat_and, Nat.shiftRight_and_distrib, Nat.and_assoc]
 show gh.toNat >>> 1 &&& 15 = 2
 rw [show (15 : Nat) = 2 ^ 4 - 1 from rfl, Nat.and_two_pow_sub_one_eq_mod, Nat.shiftRight_eq_div_pow, h]
 omega
theorem even_0 {x : Wd64} (h : x.toNat % 8 = 0) : (x &&& 1#64).toNat = 0 := by
 rw [BitVec.toNat_and]
 show x.toNat &&& 1 = 0
 rw [Nat.and_one_is_mod]
 omega
def bY (c : Nat → Wd64) (x : Wd64) (i : Nat) : Wd64 := bif Nat.beq i 1 then c 3 else bif Nat.beq i 2 then x else bif Nat.beq i 3 then c 39 else bif Nat.beq i 4 then c 36 else bif Nat.beq i 5 then c 38 else 0#64
structure Kp (y : Wd64) (c : Nat → Wd64) (m : Mf) (p A O v u kp g gq k z : Nat) : Prop where
 hp : p = y.toNat / 128 * 8
 ao : (A = 1073741824 + 2 * p ∧ O = 1073741824 + 6 * p) ∨ (A = 1073741824 + 6 * p ∧ O = 1073741824 + 2 * p)
 c01 : c 0 = c 1
 c3 : (c 3).toNat = kp
 ex : ∀ j, j < 8 → c (5 + 2 * j) = 1#64
 c32 : (c 32).toNat = 1073741824
 c33 : (c 33).toNat = 1073741824 + u
 c34 : (c 34).toNat = 1073741824 + 2 * p
 c35 : (c 35).toNat = A
 c36 : (c 36).toNat = A + v
 c37 : (c 37).toNat = A + 4 * p
 c38 : (c 38).toNat = O
 c39 : (c 39).toNat = 1073741824 + 10 * p
 c40 : (c 40).toNat = 1073741824 + 10 * p + 8 * g
 c47 : (c 47).toNat = 4 * p
 u8 : u % 8 = 0
 u2 : u ≤ 2 * p
 v8 : v % 8 = 0
 v4 : v ≤ 4 * p
 gg : g = 0 ∨ (g = 1 ∧ 2 * p < k ∧ k % 8 = 0 ∧ gq + k = A + v ∧ A ≤ gq ∧ leF m (c 39) 8 = BitVec.ofNat 64 gq ∧ (gq ≠ z → leF m (BitVec.ofNat 64 gq) 8 = BitVec.ofNat 64 (hdN k)))
 kk : (kp = 1073741824 ∧ 16 ≤ u ∧ (g = 0 ∧ v = 0 ∨ g = 1 ∧ gq = A)) ∨ (A ≤ kp ∧ kp + 16 ≤ A + v ∧ kp % 8 = 0 ∧ (g = 1 → kp + 16 ≤ gq))
 m0 : leF m (BitVec.ofNat 64 kp) 8 = 67108869#64
 m1 : leF m (BitVec.ofNat 64 (kp + 8)) 8 = 1953523051#64
section
variable {y n gh x : Wd64} {b c : Nat → Wd64} {K : List YKey} {g : Nat} {m : Mc}
theorem cY_w (h1 : b 1 = c 3) (h4 : b 4 = c 36) (h5 : b 5 = c 38) (h3 : b 3 = c 39) (h40 : c 40 = c 39 + wI ((8 * g : Nat) : Int)) (hx : ∀ j, j < 8 → c (5 + 2 * j) = 1#64) (k : Nat) : (cY g c k).w b = c k := by
 have e0 : ∀ z : Wd64, z + wI ((0 : Nat) : Int) = z := fun z => BitVec.add_zero z
 unfold cY
 cases q3 : Nat.beq k 3 with
 | true => rw [Nat.eq_of_beq_eq_true q3]; show b 1 + _ = _; rw [e0, h1]
 | false => cases q36 : Nat.beq k 36 with
  | true => rw [Nat.eq_of_beq_eq_true q36]; show b 4 + _ = _; rw [e0, h4]
  | false => cases q38 : Nat.beq k 38 with
   | true => rw [Nat.eq_of_beq_eq_true q38]; show b 5 + _ = _; rw [e0, h5]
   | false => cases q39 : Nat.beq k 39 with
    | true => rw [Nat.eq_of_beq_eq_true q39]; show b 3 + _ = _; rw [e0, h3]
    | false => cases q40 : Nat.beq k 40 with
     | true => rw [Nat.eq_of_beq_eq_true q40]; show b 3 + _ = _; rw [h3, h40]
     | false => cases qx : Nat.beq (k % 2) 1 && Nat.ble 5 k && Nat.ble k 19 with
      | true =>
       simp only [Bool.and_eq_true] at qx
       have a1 := Nat.eq_of_beq_eq_true qx.1.1
       have a2 := Nat.le_of_ble_eq_true qx.1.2
       have a3 := Nat.le_of_ble_eq_true qx.2
       have := hx ((k - 5) / 2) (by omega)
       rw [show 5 + 2 * ((k - 5) / 2) = k by omega] at this
       exact this.symm
      | false => rfl
theorem kok_of {f : YKey → Nat} (hy : y.toNat ≤ 1099511627776) (hv : ∀ k ∈ K, (kad b k).toNat = f k) (hl : ∀ k ∈ K, 1073741824 ≤ f k ∧ f k + 8 ≤ 1073741824 + y.toNat) (hs : K.Pairwise fun i j => f i + 8 ≤ f j ∨ f j + 8 ≤ f i) : KOk y b K := by
 refine ⟨hy, fun k hk => by rw [hv k hk]; exact hl k hk, fun k hk j hj hne => ?_⟩
 rw [hv k hk, hv j hj]
 clear hv hl
 induction K with
 | nil => cases hk
 | cons a l ih =>
  rw [List.pairwise_cons] at hs
  rcases List.mem_cons.1 hk with e1 | hk'
  ·rcases List.mem_cons.1 hj with e2 | hj'
   ·exact absurd (e1.trans e2.symm) hne
   ·rw [e1]; exact hs.1 j hj'
  ·rcases List.mem_cons.1 hj with e2 | hj'
   ·rw [e2]; exact (hs.1 k hk').symm
   ·exact ih hs.2 hk' hj'
theorem kad_n {i o : Nat} (h : (b i).toNat + o < 18446744073709551616) : (kad b (i, o)).toNat = (b i).toNat + o := by
 show (b i + wI (o : Int)).toNat = _
 rw [wI_ofNat, BitVec.toNat_add, BitVec.toNat_ofNat]
 omega
def kadN (b : Nat → Wd64) (k : YKey) : Nat := (b k.1).toNat + k.2
theorem al_go (hp : m.c.prog = gcP) (hh : m.c.heap = y) (hs : m.c.strict = false) (hw : m.w = w00) (hc : Cells c m.mem) (hcY : ∀ k, (cY g c k).w b = c k) (hk : KOk y b K) (hH : Hp b K (h0Y g gh) m.mem) {bs : List Bool} {N : Nat} {L : List (YKey × YV)} {ce : List YV} {v : YV} {obs : List YO}
    (hr : (alY g y n gh b c K bs N).map (outY L) = some (ce, true, 26, some v, 0, obs)) (ho : ∀ o ∈ obs, o.ok b) :
    ∃ mR r, alY g y n gh b c K bs N = some r ∧ (∀ j, N + 1 ≤ j → runM realF j (entM m 2 [n]) = mR) ∧ NoSys gcP (entM m 2 [n]) ∧ Ended gcP y w00 (fun k => (r.1.c k).w b) (v.w b) mR ∧ idxY.map r.1.c = ce ∧ chkY r.1.h L = true ∧ Hp b K r.1.h mR.mem := by
 have hi := ent_is hp hh hs hw hc (n := 2) (vs := [.wd n]) (of_decide_eq_true (by kernel_rfl))
 have e0 : (s0Y g n gh c).m b = ⟨⟨2, 0, argsR 0 [.wd n], 0⟩, [], c⟩ := by
  show (⟨_, _, fun k => (cY g c k).w b⟩ : Sy) = _
  rw [funext hcY]; rfl
 cases ha : alY g y n gh b c K bs N with
 | none => rw [ha] at hr; cases hr
 | some r =>
  rw [ha] at hr
  simp only [Option.map_some, Option.some.injEq, outY, Prod.mk.injEq] at hr
  obtain ⟨q1, q2, q3, q4, q5, q6⟩ := hr
  have hY : YIs gcP y true w00 b K (s0Y g n gh c) (entM m 2 [n]) := ⟨by rw [e0]; exact hi, hH⟩
  obtain ⟨m1, r1, i1, n1⟩ := yrun_no (RF := realF) gc_z hk hY (show yrun gcP y b K bs N (s0Y g n gh c) [] = some (r.1, r.2) from ha) (by rw [q6]; exact ho)
  have hk26 : (insS gcP (r.1.m b).top).kind = 26 := q3
  have hbl : r.1.bl = [] := List.eq_nil_of_length_eq_zero q5
  obtain ⟨mR, r2, e2⟩ := ret_end (RF := realF) (v := v.s b) i1.i hk26 (by
   show kn (insS gcP (r.1.m b).top).a.toNat (r.1.m b).top.ρ = _
   show kn _ (r.1.top.ρ.map fun q => (q.1, q.2.s b)) = _
   rw [yk_m]
   exact congrArg (Option.map (YV.s b)) q4) (by show r.1.bl.map _ = []; rw [hbl]; rfl)
  have hend : ∀ j, N + 1 ≤ j → runM realF j (entM m 2 [n]) = mR := fun j hj => by
   rw [show j = (j - N - 1 + 1) + N by omega, r1, r2]
  have hmem : mR.mem = m1.mem := by
   have h1 := r2 0
   rw [runM, if_neg (fun q => q i1.i.st), (adv_is i1.i).2] at h1
   cases hs : stepM realF (advM m1) (insS gcP (r.1.m b).top) with
   | none => rw [hs] at h1; rw [← h1]; rfl
   | some q =>
    rw [hs] at h1
    have e : mR = tickC q := h1.symm
    rw [e]
    exact stepM_mem (m := advM m1) (m1 := q) hs (by rw [hk26]; decide) (by rw [hk26]; decide)
  refine ⟨mR, r, rfl, hend, fun j hst => ?_, e2, q1, q2, by rw [hmem]; exact i1.hp⟩
  rcases Nat.lt_trichotomy j N with q | q | q
  ·exact n1 j q
  ·have e := r1 0
   rw [Nat.zero_add] at e
   rw [q, e]
   have hI := (adv_is i1.i).2
   rw [i1.i.prog] at hI
   show (insOf gcP (advM m1).x).kind ≠ 30
   rw [hI, hk26]
   decide
  ·rw [hend j (by omega), e2.st] at hst
   cases hst
theorem chk_mem {h : YH} {mf : Mf} (hp : Hp b K h mf) : ∀ {L : List (YKey × YV)}, chkY h L = true → ∀ {k : YKey} {v : YV}, (k, v) ∈ L → leF mf (kad b k) 8 = v.w b
 | [], _, k, v, hm => by cases hm
 | (j, x) :: l, hc, k, v, hm => by
  rw [chkY, Bool.and_eq_true] at hc
  rcases List.mem_cons.1 hm with e | e
  ·obtain ⟨rfl, rfl⟩ := Prod.mk.inj e
   have h1 := hc.1
   cases hg : yget k h with
   | none => rw [hg] at h1; cases h1
   | some z =>
    rw [hg] at h1
    rw [(hp k z hg).2]
    cases z with
    | lit a => cases v with
     | lit d => rw [Nat.eq_of_beq_eq_true h1]
     | hp i o => cases h1
     | sv q => cases h1
    | hp i o => cases v with
     | lit d => cases h1
     | hp j p =>
      have h2 : (Nat.beq i j && Nat.beq o p) = true := h1
      rw [Bool.and_eq_true] at h2
      rw [Nat.eq_of_beq_eq_true h2.1, Nat.eq_of_beq_eq_true h2.2]
     | sv q => cases h1
    | sv q => cases v <;> cases h1
  ·exact chk_mem hp hc.2 e
theorem hp_of {mf : Mf} : ∀ {l : YH}, (∀ q ∈ l, q.1 ∈ K ∧ leF mf (kad b q.1) 8 = q.2.w b) → Hp b K l mf
 | [], _ => fun k v hk => by cases hk
 | (j, x) :: l, h => fun k v hk => by
  rw [yget] at hk
  cases e : ybeq k j with
  | true =>
   rw [e] at hk
   obtain rfl : x = v := Option.some.inj hk
   rw [ybeq_iff.1 e]
   exact h _ (List.mem_cons_self ..)
  | false =>
   rw [e] at hk
   exact hp_of (fun q hq => h q (List.mem_cons_of_mem _ hq)) k v hk
theorem w_sv (x : Wd64) : (YV.sv (.wd x)).w b = x := rfl
theorem w_lit (n : Nat) : (YV.lit n).w b = BitVec.ofNat 64 n := rfl
theorem w_hp (i o : Nat) : (YV.hp i o).w b = b i + wI (o : Int) := rfl
theorem bY1 : bY c x 1 = c 3 := rfl
theorem bY2 : bY c x 2 = x := rfl
theorem bY3 : bY c x 3 = c 39 := rfl
theorem bY4 : bY c x 4 = c 36 := rfl
theorem bY5 : bY c x 5 = c 38 := rfl
theorem kad_of {i o N : Nat} (h : (b i).toNat + o = N) (hN : N < 18446744073709551616) : kad b (i, o) = BitVec.ofNat 64 N := by
 apply BitVec.eq_of_toNat_eq
 rw [kad_n (by omega), BitVec.toNat_ofNat, h, Nat.mod_eq_of_lt hN]
structure LM (y : Wd64) (c : Nat → Wd64) (m : Mc) : Prop where
 prog : m.c.prog = gcP
 heap : m.c.heap = y
 strict : m.c.strict = false
 w : m.w = w00
 c : Cells c m.mem
def AlR (y n : Wd64) (m : Mc) : Prop := ∃ mR c to p A O v u kp g gq k, (∀ j, 400 ≤ j → runM realF j (entM m 2 [n]) = mR) ∧ NoSys gcP (entM m 2 [n]) ∧ Ended gcP y w00 c to mR ∧ Kp y c mR.mem p A O v u kp g gq k to.toNat ∧
 to.toNat % 8 = 0 ∧ 1073741824 ≤ to.toNat ∧ to.toNat + n.toNat ≤ 1073741824 + 10 * p ∧ (to.toNat + n.toNat ≤ kp ∨ kp + 16 ≤ to.toNat) ∧ (g = 1 → gq = to.toNat ∧ k = n.toNat ∨ to.toNat + n.toNat ≤ gq ∨ gq + 8 ≤ to.toNat)
section
variable {p A O v u kp gq k z : Nat}
theorem Kp.next {mf mf' : Mf} (K : Kp y c mf p A O v u kp g gq k z) (hb : b 3 = c 39) {r : Nat → YV} {x3 x33 x35 x36 x37 x38 x40 : YV}
    (h : idxY.map r = [W (c 0), W (c 1), x3, .lit 1, .lit 1, .lit 1, .lit 1, .lit 1, .lit 1, .lit 1, .lit 1, W (c 32), x33, W (c 34), x35, x36, x37, x38, .hp 3 0, x40, W (c 47)]) {A' O' v' u' kp' g' gq' k' z' : Nat}
    (ao : (A' = 1073741824 + 2 * p ∧ O' = 1073741824 + 6 * p) ∨ (A' = 1073741824 + 6 * p ∧ O' = 1073741824 + 2 * p))
    (e3 : (x3.w b).toNat = kp') (e33 : (x33.w b).toNat = 1073741824 + u') (e35 : (x35.w b).toNat = A') (e36 : (x36.w b).toNat = A' + v') (e37 : (x37.w b).toNat = A' + 4 * p) (e38 : (x38.w b).toNat = O') (e40 : (x40.w b).toNat = 1073741824 + 10 * p + 8 * g')
    (uv : u' % 8 = 0 ∧ u' ≤ 2 * p ∧ v' % 8 = 0 ∧ v' ≤ 4 * p)
    (gg : g' = 0 ∨ (g' = 1 ∧ 2 * p < k' ∧ k' % 8 = 0 ∧ gq' + k' = A' + v' ∧ A' ≤ gq' ∧ leF mf' (kad b (3, 0)) 8 = BitVec.ofNat 64 gq' ∧ (gq' ≠ z' → leF mf' (BitVec.ofNat 64 gq') 8 = BitVec.ofNat 64 (hdN k'))))
    (kk : (kp' = 1073741824 ∧ 16 ≤ u' ∧ (g' = 0 ∧ v' = 0 ∨ g' = 1 ∧ gq' = A')) ∨ (A' ≤ kp' ∧ kp' + 16 ≤ A' + v' ∧ kp' % 8 = 0 ∧ (g' = 1 → kp' + 16 ≤ gq')))
    (m0 : leF mf' (BitVec.ofNat 64 kp') 8 = 67108869#64) (m1 : leF mf' (BitVec.ofNat 64 (kp' + 8)) 8 = 1953523051#64) : Kp y (fun k => (r k).w b) mf' p A' O' v' u' kp' g' gq' k' z' := by
 simp only [idxY, List.map_cons, List.map_nil, List.cons.injEq, and_true] at h
 obtain ⟨h0, h1, h3, h5, h7, h9, h11, h13, h15, h17, h19, h32, h33, h34, h35, h36, h37, h38, h39, h40, h47⟩ := h
 have h39' : (c 39 + wI ((0 : Nat) : Int) : Wd64) = c 39 := BitVec.add_zero _
 refine ⟨K.hp, ao, ?_, ?_, ?_, ?_, ?_, ?_, ?_, ?_, ?_, ?_, ?_, ?_, ?_, uv.1, uv.2.1, uv.2.2.1, uv.2.2.2, ?_, kk, m0, m1⟩ <;> (try dsimp only)
 ·rw [h0, h1]; exact K.c01
 ·rw [h3]; exact e3
 ·intro j hj
  match j, hj with
  | 0, _ => rw [show 5 + 2 * 0 = 5 from rfl, h5]; rfl
  | 1, _ => rw [show 5 + 2 * 1 = 7 from rfl, h7]; rfl
  | 2, _ => rw [show 5 + 2 * 2 = 9 from rfl, h9]; rfl
  | 3, _ => rw [show 5 + 2 * 3 = 11 from rfl, h11]; rfl
  | 4, _ => rw [show 5 + 2 * 4 = 13 from rfl, h13]; rfl
  | 5, _ => rw [show 5 + 2 * 5 = 15 from rfl, h15]; rfl
  | 6, _ => rw [show 5 + 2 * 6 = 17 from rfl, h17]; rfl
  | 7, _ => rw [show 5 + 2 * 7 = 19 from rfl, h19]; rfl
  | (q + 8), hq => omega
 ·rw [h32]; exact K.c32
 ·rw [h33]; exact e33
 ·rw [h34]; exact K.c34
 ·rw [h35]; exact e35
 ·rw [h36]; exact e36
 ·rw [h37]; exact e37
 ·rw [h38]; exact e38
 ·rw [h39, w_hp, hb, h39']; exact K.c39
 ·rw [h40]; exact e40
 ·rw [h47]; exact K.c47
 ·rw [h39]; exact gg
theorem kokM (hy : 65536 ≤ y.toNat ∧ y.toNat < 105536) {mf : Mf} (K : Kp y c mf p A O v u kp g gq k z) {N : Nat} (hx : x.toNat = N) (hx1 : (1073741824 ≤ N ∧ N + 8 ≤ 1073741824 + 2 * p) ∨ (A ≤ N ∧ N + 8 ≤ A + 4 * p)) (hx2 : kp + 16 ≤ N ∨ N + 8 ≤ kp) : KOk y (bY c x) KM := by
 obtain ⟨hp, ao, c01, c3, ex, c32, c33, c34, c35, c36, c37, c38, c39, c40, c47, u8, u2, v8, v4, gg, kk, m0, m1⟩ := K
 have hk : (1073741824 ≤ kp ∧ kp + 16 ≤ 1073741824 + 2 * p) ∨ (A ≤ kp ∧ kp + 16 ≤ A + 4 * p) := by omega
 clear gg kk m0 m1 c01 ex
 have f1 : (bY c x 1).toNat = kp := c3
 have f2 : (bY c x 2).toNat = N := hx
 have f3 : (bY c x 3).toNat = 1073741824 + 10 * p := c39
 have f5 : (bY c x 5).toNat = O := c38
 refine kok_of (f := kadN (bY c x)) (by omega) ?_ ?_ ?_
 ·intro q hq
  simp only [KM, List.mem_cons, List.not_mem_nil, or_false] at hq
  rcases hq with rfl | rfl | rfl | rfl | rfl | rfl | rfl <;> exact kad_n (by omega)
 ·intro q hq
  simp only [KM, List.mem_cons, List.not_mem_nil, or_false] at hq
  rcases hq with rfl | rfl | rfl | rfl | rfl | rfl | rfl <;> simp only [kadN, f1, f2, f3, f5] <;> omega
 simp only [KM, List.pairwise_cons, List.mem_cons, List.not_mem_nil, or_false, forall_eq_or_imp, forall_eq, kadN, f1, f2, f3, f5, List.Pairwise.nil, and_true, false_implies, implies_true]
 and_intros <;> omega
theorem kok4 (hy : 65536 ≤ y.toNat ∧ y.toNat < 105536) {mf : Mf} (K : Kp y c mf p A O v u kp g gq k z) {N : Nat} (hx : x.toNat = N) (hx1 : (1073741824 ≤ N ∧ N + 8 ≤ 1073741824 + 2 * p) ∨ (A ≤ N ∧ N + 8 ≤ A + v)) (hx2 : kp + 16 ≤ N ∨ N + 8 ≤ kp) (hv : v + 16 ≤ 4 * p) : KOk y (bY c x) K4 := by
 obtain ⟨hp, ao, c01, c3, ex, c32, c33, c34, c35, c36, c37, c38, c39, c40, c47, u8, u2, v8, v4, gg, kk, m0, m1⟩ := K
 have hk : (1073741824 ≤ kp ∧ kp + 16 ≤ 1073741824 + 2 * p) ∨ (A ≤ kp ∧ kp + 16 ≤ A + v) := by omega
 clear gg kk m0 m1 c01 ex
 have f1 : (bY c x 1).toNat = kp := c3
 have f2 : (bY c x 2).toNat = N := hx
 have f3 : (bY c x 3).toNat = 1073741824 + 10 * p := c39
 have f4 : (bY c x 4).toNat = A + v := c36
 refine kok_of (f := kadN (bY c x)) (by omega) ?_ ?_ ?_
 ·intro q hq
  simp only [K4, List.mem_cons, List.not_mem_nil, or_false] at hq
  rcases hq with rfl | rfl | rfl | rfl | rfl | rfl <;> exact kad_n (by omega)
 ·intro q hq
  simp only [K4, List.mem_cons, List.not_mem_nil, or_false] at hq
  rcases hq with rfl | rfl | rfl | rfl | rfl | rfl <;> simp only [kadN, f1, f2, f3, f4] <;> omega
 simp only [K4, List.pairwise_cons, List.mem_cons, List.not_mem_nil, or_false, forall_eq_or_imp, forall_eq, kadN, f1, f2, f3, f4, List.Pairwise.nil, and_true, false_implies, implies_true]
 and_intros <;> omega
theorem hp0 {KS : List YKey} {mf : Mf} (K : Kp y c mf p A O v u kp g gq k z) (hy : y.toNat < 105536) (h1 : (1, 0) ∈ KS) (h2 : (1, 8) ∈ KS) : Hp (bY c x) KS (h0Y 0 gh) mf := by
 have hp := K.hp
 have hl : kp < 2000000000 := by have := K.kk; have := K.ao; have := K.v4; omega
 refine hp_of fun q hq => ?_
 rcases List.mem_cons.1 hq with rfl | hq
 ·exact ⟨h1, by rw [kad_of (N := kp) K.c3 (by omega)]; exact K.m0⟩
 rw [List.mem_singleton.1 hq]
 exact ⟨h2, by rw [kad_of (N := kp + 8) (by show (c 3).toNat + 8 = _; rw [K.c3]) (by omega)]; exact K.m1⟩
theorem hp1 {KS : List YKey} {mf : Mf} (K : Kp y c mf p A O v u kp 1 gq k 0) (hy : y.toNat < 105536) (h1 : (1, 0) ∈ KS) (h2 : (1, 8) ∈ KS) (h3 : (3, 0) ∈ KS) (h4 : (2, 0) ∈ KS) : Hp (bY c (BitVec.ofNat 64 gq)) KS (h0Y 1 (BitVec.ofNat 64 (hdN k))) mf := by
 have hp := K.hp
 have ha := K.ao
 have hv := K.v4
 have hl : kp < 2000000000 := by have := K.kk; omega
 obtain ⟨g1, g2, g3, g4, g5, g6⟩ := (K.gg.resolve_left (by decide)).2
 refine hp_of fun q hq => ?_
 rcases List.mem_cons.1 hq with rfl | hq
 ·exact ⟨h1, by rw [kad_of (N := kp) K.c3 (by omega)]; exact K.m0⟩
 rcases List.mem_cons.1 hq with rfl | hq
 ·exact ⟨h2, by rw [kad_of (N := kp + 8) (by show (c 3).toNat + 8 = _; rw [K.c3]) (by omega)]; exact K.m1⟩
 rcases List.mem_cons.1 hq with rfl | hq
 ·refine ⟨h3, ?_⟩
  show leF mf (c 39 + wI ((0 : Nat) : Int)) 8 = BitVec.ofNat 64 gq + wI ((0 : Nat) : Int)
  rw [show (c 39 + wI ((0 : Nat) : Int) : Wd64) = c 39 from BitVec.add_zero _, show (BitVec.ofNat 64 gq + wI ((0 : Nat) : Int) : Wd64) = BitVec.ofNat 64 gq from BitVec.add_zero _]
  exact g5
 rw [List.mem_singleton.1 hq]
 refine ⟨h4, ?_⟩
 show leF mf (BitVec.ofNat 64 gq + wI ((0 : Nat) : Int)) 8 = BitVec.ofNat 64 (hdN k)
 rw [show (BitVec.ofNat 64 gq + wI ((0 : Nat) : Int) : Wd64) = BitVec.ofNat 64 gq from BitVec.add_zero _]
 exact g6 (by omega)
theorem sub_n {a d : Wd64} (h : d.toNat ≤ a.toNat) : (a - d).toNat = a.toNat - d.toNat := BitVec.toNat_sub_of_le (by rw [BitVec.le_def]; exact h)
theorem add_n {a d : Wd64} (h : a.toNat + d.toNat < 18446744073709551616) : (a + d).toNat = a.toNat + d.toNat := by
 rw [BitVec.toNat_add]; exact Nat.mod_eq_of_lt h
theorem add_w0 (a : Wd64) : a + wI ((0 : Nat) : Int) = a := BitVec.add_zero a
theorem w16 : (wI ((16 : Nat) : Int)).toNat = 16 := rfl
theorem Kp.subs (hy : y.toNat < 105536) {mf : Mf} (K : Kp y c mf p A O v u kp g gq k z) : (c 34 - c 32).toNat = 2 * p ∧ (c 33 - c 32).toNat = u ∧ (c 37 - c 36).toNat = 4 * p - v ∧ (c 3 - c 32).toNat = kp - 1073741824 ∧ (A ≤ kp → (c 3 - c 35).toNat = kp - A) ∧ (c 38 + c 47).toNat = O + 4 * p ∧ (c 38 + wI ((16 : Nat) : Int)).toNat = O + 16 ∧ (16 ≤ 4 * p → (c 38 + c 47 - (c 38 + wI ((16 : Nat) : Int))).toNat = 4 * p - 16) := by
 obtain ⟨hp, ao, c01, c3, ex, c32, c33, c34, c35, c36, c37, c38, c39, c40, c47, u8, u2, v8, v4, gg, kk, m0, m1⟩ := K
 have hk : 1073741824 ≤ kp := by omega
 have e1 : (c 38 + c 47).toNat = O + 4 * p := by rw [add_n (by omega), c38, c47]
 have e2 : (c 38 + wI ((16 : Nat) : Int)).toNat = O + 16 := by rw [add_n (by rw [w16]; omega), c38, w16]
 refine ⟨?_, ?_, ?_, ?_, fun q => ?_, e1, e2, fun q => ?_⟩
 ·rw [sub_n (by omega), c34, c32]; omega
 ·rw [sub_n (by omega), c33, c32]; omega
 ·rw [sub_n (by omega), c37, c36]; omega
 ·rw [sub_n (by omega), c3, c32]
 ·rw [sub_n (by omega), c3, c35]
 rw [sub_n (by omega), e1, e2]; omega
end
end
end Go.Proofs.YtpgbpdnmjeoeoaaGreat.G
