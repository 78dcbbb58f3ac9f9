/-
  TEXTS JOINED: GGm, GGq, GGt, GGh, GGu, Gk4, Gk5, Gk9n, Gk12, Gk13, Gk11, Gk14, Gk15, Gk3n, GGw, Gk16, Gk17.
-/
import Derived.Test.YtpgbpdnmjeoeoaaGreatYo
set_option linter.unusedSimpArgs false
set_option linter.unusedVariables false
set_option linter.unusedSectionVars false
set_option linter.unnecessarySimpa false
namespace Go.Proofs.YtpgbpdnmjeoeoaaGreat.G
open Go Go.RowKit B
set_option maxRecDepth 100000
section
variable {L : DLay} {m : Mc} {q : DQ} {y n u : Wd64} {c : Nat → Wd64} {B : Int}
theorem cell_store (hL : Live y c B m q) (x a : Wd64) (k : Nat) (hk : k < 50) (ha : a = 268435456#64 + wI ((8 * k : Nat) : Int)) :
    ACalls Tryz.prog 15 [.v (.pointer (some ⟨L.s, 0, none⟩)), zw a, zi 8, zw x] (DP L m q) (fun t S => ∃ q', t = bv true ∧ Live y (updC c k x) B (storeM m a x) q' ∧ S = DP L (storeM m a x) q') :=
 (DStoreP hL a x (by rw [ha]; exact th_cell gc_z (8 * k) (by omega) (by omega))).mono fun t S ⟨q', h1, h2, h3⟩ => ⟨q', h1, h2 _ (by rw [ha]; exact hL.c.put k hk x), h3⟩
theorem heap_store (hL : Live y c B m q) (hy : y.toNat < 105536) (x a : Wd64) (ha : 1073741824 ≤ a.toNat) (hb : a.toNat + 8 ≤ 1073741824 + y.toNat) :
    ACalls Tryz.prog 15 [.v (.pointer (some ⟨L.s, 0, none⟩)), zw a, zi 8, zw x] (DP L m q) (fun t S => ∃ q', t = bv true ∧ Live y c B (storeM m a x) q' ∧ S = DP L (storeM m a x) q') :=
 (DStoreP hL a x (th_heap ha hb)).mono fun t S ⟨q', h1, h2, h3⟩ => ⟨q', h1, h2 _ (Cells.far hL.c (by omega) (by have := a.isLt; have := y.isLt; omega)), h3⟩
theorem word_live (hL : Live y c B m q) {a : Wd64} (k : Nat) (hk : k < 50) (ha : a = 268435456#64 + wI ((8 * k : Nat) : Int)) : wordM m a = c k := by
 unfold wordM
 rw [hL.prog, ha, th_cell gc_z (8 * k) (by omega) (by omega)]
 exact (if_pos (show (sizeOk 8 && true) = true from rfl)).trans (hL.c k hk)
end
theorem updC_eq (c : Nat → Wd64) (k : Nat) (x : Wd64) : updC c k x k = x := by unfold updC; rw [Nat.beq_refl]; rfl
theorem updC_ne (c : Nat → Wd64) {k j : Nat} (x : Wd64) (h : j ≠ k) : updC c k x j = c j := by unfold updC; rw [beqF h]; rfl
end Go.Proofs.YtpgbpdnmjeoeoaaGreat.G
namespace Go.Proofs.YtpgbpdnmjeoeoaaGreat.G
open Go Go.RowKit B
set_option maxRecDepth 100000
section
variable {y n : Wd64} {c : Nat → Wd64} {m : Mc} {p A O v u kp g gq k z : Nat}
theorem al_kp (hL : LM y c m) (hy : 65536 ≤ y.toNat ∧ y.toNat < 105536) (hn8 : n.toNat % 8 = 0) (hn1 : 8 ≤ n.toNat) (hn4 : n.toNat + 16 ≤ 4 * (y.toNat / 128 * 8)) (K : Kp y c m.mem p A O v u kp g gq k 0) : AlR y n m := by
 have hp := K.hp
 have hv4 := K.v4
 have hu2 := K.u2
 rw [← hp] at hn4
 rcases K.gg with rfl | ⟨rfl, g2, g3, g4, g5, _⟩
 ·by_cases h1 : n.toNat ≤ 2 * p
  ·by_cases h2 : u + n.toNat ≤ 2 * p
   ·exact stA0 hL hy hn8 hn1 K (by have := K.kk; omega) h2
   rcases K.kk with ⟨k1, k2, k3⟩ | ⟨k1, k2, k3, k4⟩
   ·exact stBn0 hL hy hn8 hn1 K k1 k2 h1 (by omega) (by omega) (by omega)
   by_cases h3 : u ≤ 4 * p - v
   ·exact stBo0 hL hy hn8 hn1 K k1 k2 k3 h1 (by omega) h3
   exact stMo0 hL hy hn8 hn1 K k1 k2 k3 h1 (by omega) (by omega)
  by_cases h3 : n.toNat ≤ 4 * p - v
  ·exact stC0 hL hy hn8 hn1 K (by have := K.kk; omega) (by omega) h3 (by have := K.kk; have := K.ao; omega)
  rcases K.kk with ⟨k1, k2, k3⟩ | ⟨k1, k2, k3, k4⟩
  ·exfalso; omega
  exact stDo0 hL hy hn8 hn1 K k1 k2 k3 (by omega) (by omega) hn4
 by_cases h1 : n.toNat ≤ 2 * p
 ·by_cases h2 : u + n.toNat ≤ 2 * p
  ·exact stA1 hL hy hn8 hn1 K (by have := K.kk; omega) h2
  rcases K.kk with ⟨k1, k2, k3⟩ | ⟨k1, k2, k3, k4⟩
  ·by_cases h3 : u ≤ 4 * p - v
   ·exact stBn1 hL hy hn8 hn1 K k1 k2 h1 (by omega) h3
   exact stMn1 hL hy hn8 hn1 K k1 k2 h1 (by omega) (by omega)
  by_cases h3 : u ≤ 4 * p - v
  ·exact stBo1 hL hy hn8 hn1 K k1 k2 k3 h1 (by omega) h3
  exact stMo1 hL hy hn8 hn1 K k1 k2 k3 h1 (by omega) (by omega)
 rcases K.kk with ⟨k1, k2, k3⟩ | ⟨k1, k2, k3, k4⟩
 ·exact stDn1 hL hy hn8 hn1 K k1 k2 (by omega) (by omega) hn4
 exact stDo1 hL hy hn8 hn1 K k1 k2 k3 (by omega) (by omega) hn4
theorem st_kp {mf : Mf} {a : Wd64} (hy : y.toNat < 105536) (K : Kp y c mf p A O v u kp g gq k a.toNat) (h1 : 1073741824 ≤ a.toNat) (h2 : a.toNat + n.toNat ≤ 1073741824 + 10 * p) (hn : 8 ≤ n.toNat) (h3 : a.toNat + n.toNat ≤ kp ∨ kp + 16 ≤ a.toNat) (h4 : g = 1 → gq = a.toNat ∧ k = n.toNat ∨ a.toNat + n.toNat ≤ gq ∨ gq + 8 ≤ a.toNat) : Kp y c (putsF mf a (BitVec.ofNat 64 (hdN n.toNat)) 8) p A O v u kp g gq k 0 := by
 have hp := K.hp
 have ao := K.ao
 have hv := K.v4
 have hu := K.u2
 have hkb : kp < 2000000000 := by have := K.kk; omega
 have ek : (BitVec.ofNat 64 kp).toNat = kp := by rw [BitVec.toNat_ofNat]; omega
 have ek8 : (BitVec.ofNat 64 (kp + 8)).toNat = kp + 8 := by rw [BitVec.toNat_ofNat]; omega
 refine ⟨K.hp, K.ao, K.c01, K.c3, K.ex, K.c32, K.c33, K.c34, K.c35, K.c36, K.c37, K.c38, K.c39, K.c40, K.c47, K.u8, K.u2, K.v8, K.v4, ?_, K.kk, ?_, ?_⟩
 ·rcases K.gg with e | ⟨e, g2, g3, g4, g5, g6, g7⟩
  ·exact .inl e
  have eg : (BitVec.ofNat 64 gq).toNat = gq := by rw [BitVec.toNat_ofNat]; omega
  have c39 := K.c39
  refine .inr ⟨e, g2, g3, g4, g5, ?_, fun _ => ?_⟩
  ·rw [far_le (.inl (by omega)) (by omega) (by omega)]; exact g6
  rcases h4 e with ⟨q1, q2⟩ | q
  ·rw [q1, q2, BitVec.ofNat_toNat, BitVec.setWidth_eq]
   exact self_le (by omega)
  rw [far_le (by omega) (by omega) (by omega)]
  exact g7 (by omega)
 ·rw [far_le (by omega) (by omega) (by omega)]; exact K.m0
 rw [far_le (by omega) (by omega) (by omega)]; exact K.m1
theorem puts_same (mf : Mf) (a : Wd64) : ∀ n, n ≤ 8 → putsF mf a (leF mf a 8) n = mf
 | 0, _ => rfl
 | n + 1, hn => by
  rw [putsF, puts_same mf a n (by omega)]
  funext z
  unfold updM
  by_cases e : z = a + wI (n : Int)
  ·rw [if_pos e, e, le_byte mf a _ rfl n (by omega)]
   unfold lowB
   apply UInt8.toNat_inj.1
   rw [UInt8.toNat_ofNat', UInt8.toNat_ofNat', BitVec.toNat_ushiftRight, Nat.shiftRight_eq_div_pow]
   generalize (leF mf a 8).toNat / 2 ^ (8 * n) = t
   omega
  ·rw [if_neg e]
end
def LiveK (y : Wd64) (B : Int) (m : Mc) (q : DQ) : Prop := ∃ c p A O v u kp g gq k, Live y c B m q ∧ Kp y c m.mem p A O v u kp g gq k 0
def GaveK (y n a : Wd64) (B : Int) (m : Mc) (q : DQ) : Prop := ∃ c p A O v u kp g gq k, Live y c B m q ∧ Kp y c m.mem p A O v u kp g gq k a.toNat ∧ (a.toNat + n.toNat ≤ kp ∨ kp + 16 ≤ a.toNat) ∧ (g = 1 → gq = a.toNat ∧ k = n.toNat ∨ a.toNat + n.toNat ≤ gq ∨ gq + 8 ≤ a.toNat)
section
variable {L : DLay} {m : Mc} {q : DQ} {y n a : Wd64} {c c' : Nat → Wd64} {B : Int}
theorem call_live_n (hbs : L.bs.length = gcP.funs.length) (hL : Live y c B m q) (hy : y.toNat < 105536) (hB : B ≤ 4000000000000000000) (nm : List UInt8) (args : List Wd64) (n K : Nat) (v : Wd64) (hn : n < gcP.funs.length) (hnm : (gcP.funs.getD n default).name = nm) (hno : nameNo n nm = true) (hpa : (args.length : Int) = (gcP.funs.getD n default).params) (hal : args.length ≤ 65536) (hK : K ≤ 4000)
    {mR : Mc} (r1 : ∀ N, K ≤ N → runM realF N (entM m n args) = mR) (r2 : NoSys gcP (entM m n args)) (e : Ended gcP y w00 c' v mR) :
    ACalls Tryz.prog 13 [.v (.pointer (some ⟨L.s, 0, none⟩)), sv nm, .sl 1 (args.map zw)] (DP L m q) (fun t S => ∃ m3 q3, t = .tup [zw v, bv true] ∧ Live y c' (B + 1000000) m3 q3 ∧ m3.mem = mR.mem ∧ S = DP L m3 q3) := by
 have hh := hL.heap
 have hdiv : (y / 8#64).toNat = y.toNat / 8 := by rw [BitVec.toNat_udiv]; rfl
 refine (Call13n L gcP gc_ok gc_in m q hL.prog hL.rel hbs nm args n hn hnm (name_no hno) hpa hal (by rw [hh]; omega) ⟨hL.s0, by have := hL.s1; omega⟩ r2).mono ?_
 rintro t S ⟨m3, q3, rfl, h3, hq3, rfl⟩
 have hN : K ≤ (mostF m.c.heap).toNat := by unfold mostF; omega
 have hsr := steps_run (entM_ok (m := m) (n := n) (args := args) gc_ok hL.prog hn hpa) (mostF m.c.heap).toNat hL.s0
 have hs : 0 ≤ m3.c.steps ∧ m3.c.steps ≤ B + 1000000 := by
  rw [c_end h3]
  refine ⟨hsr.1, Int.le_trans hsr.2 ?_⟩
  show m.c.steps + ((mostF m.c.heap).toNat : Int) ≤ _
  have := hL.s1
  unfold mostF
  rw [hh]
  omega
 rw [r1 _ hN] at h3
 have e1 : m3.c.ans = v := by rw [c_end h3]; exact e.ans
 have e2 : m3.c.st = 3 := by rw [c_end h3]; exact e.st
 have e3 : m3.mem = mR.mem := by rcases h3 with rfl | ⟨_, at_, rfl⟩ <;> rfl
 exact ⟨m3, q3, by rw [e1, e2]; rfl, Live.of h3 e hq3 hs, e3, rfl⟩
theorem al_live (hbs : L.bs.length = gcP.funs.length) (hL : LiveK y B m q) (hy : 65536 ≤ y.toNat ∧ y.toNat < 105536) (hB : B ≤ 4000000000000000000) (hn8 : n.toNat % 8 = 0) (hn1 : 8 ≤ n.toNat) (hn4 : n.toNat + 16 ≤ 4 * (y.toNat / 128 * 8)) :
    ACalls Tryz.prog 13 [.v (.pointer (some ⟨L.s, 0, none⟩)), sv nmAlloc, .sl 1 ([n].map zw)] (DP L m q) (fun t S => ∃ m3 q3 a, t = .tup [zw a, bv true] ∧ (a.toNat % 8 = 0 ∧ 1073741824 ≤ a.toNat ∧ a.toNat + n.toNat ≤ 1073741824 + 10 * (y.toNat / 128 * 8)) ∧ GaveK y n a (B + 1000000) m3 q3 ∧ S = DP L m3 q3) := by
 obtain ⟨c, p, A, O, v, u, kp, g, gq, k, hl, hk⟩ := hL
 obtain ⟨mR, c', a, p', A', O', v', u', kp', g', gq', k', r1, r2, e, hk', t8, t1, t2, t3, t4⟩ := al_kp ⟨hl.prog, hl.heap, hl.strict, hl.w, hl.c⟩ hy hn8 hn1 hn4 hk
 refine (call_live_n (mR := mR) (c' := c') hbs hl hy.2 hB nmAlloc [n] 2 400 a (by rw [gc_len]; decide) (by kernel_rfl) (by kernel_rfl) (by kernel_rfl) (Nat.le_of_ble_eq_true rfl) (by decide) r1 r2 e).mono ?_
 rintro t S ⟨m3, q3, rfl, h3, h4, rfl⟩
 exact ⟨m3, q3, a, rfl, ⟨t8, t1, by rw [← hk'.hp]; exact t2⟩, ⟨c', p', A', O', v', u', kp', g', gq', k', h3, by rw [h4]; exact hk', t3, t4⟩, rfl⟩
theorem head_live (hL : GaveK y n a B m q) (hy : y.toNat < 105536) (hn1 : 8 ≤ n.toNat) (ha : 1073741824 ≤ a.toNat ∧ a.toNat + n.toNat ≤ 1073741824 + 10 * (y.toNat / 128 * 8)) :
    ACalls Tryz.prog 15 [.v (.pointer (some ⟨L.s, 0, none⟩)), zw a, zi 8, zw (BitVec.ofNat 64 (hdN n.toNat))] (DP L m q) (fun t S => ∃ m' q', t = bv true ∧ LiveK y B m' q' ∧ m'.c.prog = gcP ∧ S = DP L m' q') := by
 obtain ⟨c, p, A, O, v, u, kp, g, gq, k, hl, hk, h3, h4⟩ := hL
 have hp := hk.hp
 rw [← hp] at ha
 exact (heap_store hl hy (BitVec.ofNat 64 (hdN n.toNat)) a ha.1 (by omega)).mono fun t S ⟨q', h1, h2, h5⟩ => ⟨_, q', h1, ⟨c, p, A, O, v, u, kp, g, gq, k, h2, st_kp hy hk ha.1 ha.2 hn1 h3 h4⟩, h2.prog, h5⟩
theorem again_live (hL : LiveK y B m q) (hy : y.toNat < 105536) (ha : 1073741824 ≤ a.toNat ∧ a.toNat + 8 ≤ 1073741824 + 10 * (y.toNat / 128 * 8)) :
    ACalls Tryz.prog 15 [.v (.pointer (some ⟨L.s, 0, none⟩)), zw a, zi 8, zw (wordM m a)] (DP L m q) (fun t S => ∃ m' q', t = bv true ∧ LiveK y B m' q' ∧ S = DP L m' q') := by
 obtain ⟨c, p, A, O, v, u, kp, g, gq, k, hl, hk⟩ := hL
 have e : wordM m a = leF m.mem a 8 := by
  unfold wordM
  rw [hl.prog, hl.heap, th_heap ha.1 (by omega)]
  exact if_pos (show (sizeOk 8 && true) = true from rfl)
 exact (heap_store hl hy (wordM m a) a ha.1 (by omega)).mono fun t S ⟨q', h1, h2, h5⟩ => ⟨_, q', h1, ⟨c, p, A, O, v, u, kp, g, gq, k, h2, by show Kp y c (putsF m.mem a (wordM m a) 8) p A O v u kp g gq k 0; rw [e, puts_same _ _ 8 (Nat.le_refl _)]; exact hk⟩, h5⟩
end
end Go.Proofs.YtpgbpdnmjeoeoaaGreat.G
namespace Go.Proofs.YtpgbpdnmjeoeoaaGreat
open Go Go.RowKit
theorem AW.mid1 {cx : Cx} {Q : Exit → Env → St → Prop} {env : Env} {S : St} {α : Type} {c : Code} (E' : α → Env) (H : α → St) (inv : α → Prop) (h : AW cx c (thenQ (fun env' S' => ∃ y, inv y ∧ Sub (E' y) env' ∧ S' = H y) Q) env S) (hr : ∀ y env', inv y → Sub (E' y) env' → Q .normal env' (H y)) : AW cx c Q env S := by
 refine h.mono fun e env' S' hq => ?_
 cases e with
 | normal =>
  obtain ⟨y, h1, h2, rfl⟩ := hq
  exact hr y env' h1 h2
 | _ => exact hq
end Go.Proofs.YtpgbpdnmjeoeoaaGreat
namespace Go.Proofs.YtpgbpdnmjeoeoaaGreat.G
open Go Go.RowKit
theorem len_u8t {bs : List UInt8} : (bs.map u8).length = bs.length * 1 := by simp
theorem u8_gett {bs : List UInt8} {j : Nat} (h : j < bs.length) : (bs.map u8)[j * 1]? = some (u8 (bs.getD j 0)) := by simp [h]
theorem u8_n (b : UInt8) : (0 : Int) ≤ b.toNat ∧ (b.toNat : Int) ≤ 255 := by have := b.toNat_lt; omega
def leN : List UInt8 → Int
 | [] => 0
 | b :: r => (b.toNat : Int) + 256 * leN r
theorem leN_0 : ∀ l, 0 ≤ leN l
 | [] => Int.le_refl _
 | b :: r => by have := leN_0 r; simp only [leN]; omega
theorem leN_lt : ∀ l, leN l < 256 ^ l.length
 | [] => by simp [leN]
 | b :: r => by
  have h1 := leN_lt r
  have h2 := u8_n b
  simp only [leN, List.length_cons, Int.pow_succ]
  omega
theorem leN_drop {bs : List UInt8} {j : Nat} (h0 : 0 < j) (h : j ≤ bs.length) : leN (bs.drop (j - 1)) = 256 * leN (bs.drop j) + ((bs.getD (j - 1) 0).toNat : Int) := by
 have hlt : j - 1 < bs.length := by omega
 have e : bs.getD (j - 1) 0 = bs[j - 1] := by simp [hlt]
 rw [List.drop_eq_getElem_cons hlt, leN, show j - 1 + 1 = j by omega, e]
 omega
theorem leN_drop_lt {bs : List UInt8} {j : Nat} (h8 : bs.length ≤ 8) (h0 : 0 < j) : leN (bs.drop j) < 72057594037927936 := by
 have h := leN_lt (bs.drop j)
 have hl : (bs.drop j).length ≤ 7 := by rw [List.length_drop]; omega
 generalize (bs.drop j).length = n at h hl
 have h2 : (256 : Int) ^ n ≤ 72057594037927936 := by
  rcases (by omega : n = 0 ∨ n = 1 ∨ n = 2 ∨ n = 3 ∨ n = 4 ∨ n = 5 ∨ n = 6 ∨ n = 7) with rfl | rfl | rfl | rfl | rfl | rfl | rfl | rfl <;> decide
 omega
def mpK : List Int → List (Key × T)
 | [] => []
 | x :: _ => [(.i .u64 x, .v (.int .i64 0))]
abbrev zI (z : Int) : T := .v (.int .u64 z)
theorem mpK_good : ∀ row : List Int, ∀ e ∈ mpK row, goodK (.int .u64) e.1 = true
 | [], e, h => by cases h
 | x :: _, e, h => by rw [List.mem_singleton.1 h]; simp [goodK]
abbrev RK (bm br : Nat) (b : List UInt8) (A : Option Addr) (c : Nat) (row : List Int) : St :=
 [.map bm (mpK row), .box br 125 [u8s b, zI 1073741824, .v (.map (some bm)), .v (.slice A row.length c)], .row A row.length c 22 1 (row.map zI)]
def wsK (kp : Int) (j : Nat) : Int := if j = 0 then kp else 1
def rowK (kp : Int) (j : Nat) : List Int := if j = 0 then [] else [kp]
def rK : Nat → Int
 | 0 => 2
 | _ + 1 => 1
def refK (j : Nat) : List T := [zi (rK j), zi 0]
def wsL (kp : Int) : List Int := kp :: List.replicate 8 1
def rootK : Nat → List T
 | 0 => []
 | n + 1 => rootK n ++ refK n
theorem ws_lenK {kp : Int} : ((wsL kp).map zI).length = 9 * 1 := rfl
theorem ws_atK {kp : Int} {j : Nat} (h : j < 9) : ((wsL kp).map zI)[j * 1]? = some (zI (wsK kp j)) := by
 match j, h with
 | 0, _ => rfl
 | 1, _ => rfl
 | 2, _ => rfl
 | 3, _ => rfl
 | 4, _ => rfl
 | 5, _ => rfl
 | 6, _ => rfl
 | 7, _ => rfl
 | 8, _ => rfl
 | n + 9, h => omega
def keptB : List UInt8 := [107, 101, 112, 116]
def keptC : List T := [zi 2, zi 0, sv keptB, .v (.slice none 0 0)]
def thingsK (j : Nat) : List T := if j = 0 then [] else keptC
end Go.Proofs.YtpgbpdnmjeoeoaaGreat.G
namespace Go.Proofs.YtpgbpdnmjeoeoaaGreat.G
open Go Go.RowKit B
def heldL (m : Mc) : List Wd64 := wordM m 268435480#64 :: (List.range 8).map (fun (i : Nat) => wordM m (268435488#64 + 16#64 * wI (i : Int) + 8#64))
theorem wI_n {j : Nat} (h : j ≤ 1000) : (wI (j : Int)).toNat = j := by
 have h1 := wI_nat (j : Int)
 rw [wrap_u64] at h1
 omega
theorem lt8 {j : Nat} (h : j ≤ 8) : (wI (j : Int) < 8#64) ↔ j < 8 := by
 rw [BitVec.lt_def, wI_n (by omega)]
 exact Iff.rfl
theorem wI_succ (j : Nat) : wI (j : Int) + 1#64 = wI ((j + 1 : Nat) : Int) := by
 apply BitVec.eq_of_toNat_eq
 have h1 := wI_nat (j : Int)
 have h2 := wI_nat ((j + 1 : Nat) : Int)
 rw [wrap_u64] at h1 h2
 rw [BitVec.toNat_add, show (1#64 : Wd64).toNat = 1 from rfl]
 omega
theorem row_succ {m : Mc} {r : Wd64} (j : Nat) : (zw r :: (List.range j).map (fun (i : Nat) => zw (wordM m (268435488#64 + 16#64 * wI (i : Int) + 8#64)))) ++ [zw (wordM m (268435488#64 + 16#64 * wI (j : Int) + 8#64))] = zw r :: (List.range (j + 1)).map (fun (i : Nat) => zw (wordM m (268435488#64 + 16#64 * wI (i : Int) + 8#64))) := by
 rw [List.range_succ, List.map_append]; rfl
theorem held_map (m : Mc) : zw (wordM m 268435480#64) :: (List.range 8).map (fun (i : Nat) => zw (wordM m (268435488#64 + 16#64 * wI (i : Int) + 8#64))) = (heldL m).map zw := by
 unfold heldL
 rw [List.map_cons, List.map_map]; rfl
section
variable {h : Wd64} {w : V.PW} {c : Nat → Wd64} {v : Wd64} {m m2 : Mc}
theorem exn_at {j : Nat} (hj : j < 8) : 268435488#64 + 16#64 * wI (j : Int) = 268435456#64 + wI ((8 * (4 + 2 * j) : Nat) : Int) ∧ 268435488#64 + 16#64 * wI (j : Int) + 8#64 = 268435456#64 + wI ((8 * (5 + 2 * j) : Nat) : Int) := by
 match j, hj with
 | 0, _ => exact ⟨by decide, by decide⟩
 | 1, _ => exact ⟨by decide, by decide⟩
 | 2, _ => exact ⟨by decide, by decide⟩
 | 3, _ => exact ⟨by decide, by decide⟩
 | 4, _ => exact ⟨by decide, by decide⟩
 | 5, _ => exact ⟨by decide, by decide⟩
 | 6, _ => exact ⟨by decide, by decide⟩
 | 7, _ => exact ⟨by decide, by decide⟩
 | (n + 8), q => exact absurd q (by omega)
end
/-! ### gc.start's promises -/
section
variable {h : Wd64}
end
end Go.Proofs.YtpgbpdnmjeoeoaaGreat.G
namespace Go.Proofs.YtpgbpdnmjeoeoaaGreat.G
open Go Go.RowKit B
def wq (w : Wd64) : Nat → Wd64
 | 0 => w
 | k + 1 => wq w k / 256#64
def byteW (w : Wd64) (k : Nat) : UInt8 := lowB (wq w k % 256#64)
def wordB (w : Wd64) (k : Nat) : List UInt8 := (List.range k).map (byteW w)
def hpW (m : Mc) (i : Nat) : Wd64 := wordM m (1073741824#64 + wI ((8 * i : Nat) : Int))
def heapB (m : Mc) (n : Nat) : List UInt8 := (List.range n).flatMap fun i => wordB (hpW m i) 8
theorem heapB_succ (m : Mc) (n : Nat) : heapB m (n + 1) = heapB m n ++ wordB (hpW m n) 8 := by
 unfold heapB
 rw [List.range_succ, List.flatMap_append]
 simp
theorem wordB_succ (w : Wd64) (k : Nat) : wordB w (k + 1) = wordB w k ++ [byteW w k] := by
 unfold wordB
 rw [List.range_succ, List.map_append]; rfl
theorem wordB_len (w : Wd64) (k : Nat) : (wordB w k).length = k := by unfold wordB; simp
theorem heapB_len (m : Mc) : ∀ n, (heapB m n).length = 8 * n
 | 0 => rfl
 | n + 1 => by rw [heapB_succ, List.length_append, heapB_len m n, wordB_len]; omega
theorem heapB_at (m : Mc) : ∀ (n i : Nat), i < n → ∃ r, (heapB m n).drop (8 * i) = wordB (hpW m i) 8 ++ r
 | 0, i, h => absurd h (Nat.not_lt_zero i)
 | n + 1, i, h => by
  rw [heapB_succ]
  by_cases e : i = n
  ·subst e
   exact ⟨[], by rw [List.drop_append_of_le_length (by rw [heapB_len]; exact Nat.le_refl _), List.drop_of_length_le (by rw [heapB_len]; exact Nat.le_refl _)]; simp⟩
  ·obtain ⟨r, hr⟩ := heapB_at m n i (by omega)
   exact ⟨r ++ wordB (hpW m n) 8, by rw [List.drop_append_of_le_length (by rw [heapB_len]; omega), hr, List.append_assoc]⟩
theorem wq_n (w : Wd64) : ∀ k, (wq w k).toNat = w.toNat / 256 ^ k
 | 0 => by rw [wq, Nat.pow_zero, Nat.div_one]
 | k + 1 => by
  rw [wq, BitVec.toNat_udiv, wq_n w k, Nat.pow_succ, ← Nat.div_div_eq_div_mul]; rfl
theorem byteW_n (w : Wd64) (k : Nat) : (byteW w k).toNat = w.toNat / 256 ^ k % 256 := by
 unfold byteW lowB
 rw [UInt8.toNat_ofNat', BitVec.toNat_umod, wq_n]
 show w.toNat / 256 ^ k % 256 % 256 = _
 omega
theorem leN_word (w : Wd64) : leN (wordB w 8) = (w.toNat : Int) := by
 have e : wordB w 8 = [byteW w 0, byteW w 1, byteW w 2, byteW w 3, byteW w 4, byteW w 5, byteW w 6, byteW w 7] := rfl
 have hw := w.isLt
 rw [e]
 simp only [leN, byteW_n]
 omega
theorem kept_w : wordB 1953523051#64 8 = keptB ++ [0, 0, 0, 0] := by decide
theorem kept_at {m : Mc} {n i : Nat} (hi : i + 1 < n) (h0 : hpW m i = 67108869#64) (h1 : hpW m (i + 1) = 1953523051#64) :
    leN (((heapB m n).drop (8 * i)).take 8) = 67108869 ∧ ((heapB m n).drop (8 * i + 8)).take 4 = keptB ∧ ∀ j, j < 4 → (heapB m n).getD (8 * i + 12 + j) 0 = 0 := by
 obtain ⟨r, hr⟩ := heapB_at m n i (by omega)
 obtain ⟨s, hs⟩ := heapB_at m n (i + 1) hi
 rw [show 8 * (i + 1) = 8 * i + 8 by omega, h1, kept_w] at hs
 refine ⟨?_, ?_, fun j hj => ?_⟩
 ·rw [hr, h0, List.take_append_of_le_length (by rw [wordB_len]; exact Nat.le_refl _), List.take_of_length_le (by rw [wordB_len]; exact Nat.le_refl _), leN_word]
  rfl
 ·rw [hs]; rfl
 have e : (heapB m n).getD (8 * i + 12 + j) 0 = ((heapB m n).drop (8 * i + 8)).getD (4 + j) 0 := by
  rw [List.getD_eq_getElem?_getD, List.getD_eq_getElem?_getD, List.getElem?_drop]
  congr 2
  omega
 rw [e, hs]
 match j, hj with
 | 0, _ => rfl
 | 1, _ => rfl
 | 2, _ => rfl
 | 3, _ => rfl
 | k + 4, h => omega
theorem wI_8 (i : Nat) : wI ((8 * i : Nat) : Int) + 8#64 = wI ((8 * (i + 1) : Nat) : Int) := by
 rw [wI_ofNat, wI_ofNat]
 apply BitVec.eq_of_toNat_eq
 rw [BitVec.toNat_add, BitVec.toNat_ofNat, BitVec.toNat_ofNat, BitVec.toNat_ofNat]
 omega
theorem at_le {y : Wd64} {i : Nat} (hy : y.toNat < 105536) (hi : i ≤ y.toNat / 8) : wI ((8 * i : Nat) : Int) + 8#64 ≤ y ↔ i < y.toNat / 8 := by
 rw [BitVec.le_def, wI_ofNat, BitVec.toNat_add, BitVec.toNat_ofNat, BitVec.toNat_ofNat]
 omega
def layM (m : Mc) : Nat → Mc
 | 0 => storeM m 1073741824#64 67108869#64
 | _ + 1 => storeM (storeM m 1073741824#64 67108869#64) 1073741832#64 1953523051#64
def layA : Nat → Wd64
 | 0 => 1073741832#64
 | _ + 1 => 1073741840#64
def kx : Nat → Wd64
 | 0 => 1953523051#64
 | 1 => 7630949#64
 | 2 => 29808#64
 | 3 => 116#64
 | _ => 0#64
section
variable {cx : Cx} {env : Env} {S : St} {o : Oper} {g : Bool} {x y : Operand}
theorem freeConvU {src dst : TypeId} {k : IntKind} {p : Int} {d : TypeDesc} (ho : o.op = .convert src dst x) (hs : cx.P.underlying src = some d) (hd : kindOf cx.P dst = some .u64) (hx : Ev env true x (.v (.int k p))) (hb : 0 ≤ p ∧ p ≤ 18446744073709551615) : ∀ a w, Sim cx env S a w → ∃ u, VRep w (cx.X ++ M S) (.v (.int .u64 p)) u ∧ ∀ w', (execOp a.eval o).run cx.P w' = .ok (.value u) w' :=
 fun a w hsim => ⟨_, .v _, fun w' => by
  simp only [execOp, ho, hx.val hsim rfl, convert, Sem.run_bind, run_underlying hs, run_underlying (kindOf_spec hd), Result.andThen_ok, Conv.intToInt, Sem.run_pure, IntWalk.u64_in _ hb]⟩
theorem freeMulU {ty yt : TypeId} {p q : Int} (ho : o.op = .binOp .mul ty x y yt) (hx : Ev env true x (.v (.int .u64 p))) (hy : Ev env true y (.v (.int .u64 q))) (hb : 0 ≤ p * q ∧ p * q ≤ 18446744073709551615) : ∀ a w, Sim cx env S a w → ∃ u, VRep w (cx.X ++ M S) (.v (.int .u64 (p * q))) u ∧ ∀ w', (execOp a.eval o).run cx.P w' = .ok (.value u) w' :=
 fun a w hs => ⟨_, .v _, fun w' => by rw [exec_binOp_int ho (hx.val hs rfl) (hy.val hs rfl)]; simp [binOp, Op.intArith, Sem.run_pure, IntWalk.u64_in _ hb]⟩
end
set_option maxHeartbeats 400000 in
theorem Rows45 (k : Int) :
    ACalls Tryz.prog 45 [zi k] [] (fun t S => t = bv (((decide (k = 2) || decide (k = 7)) || decide (k = 3)) || decide (k = 4))) := by
 refine ACalls.intro Tryz.func45 rfl Tryz.ntmps45 nB rfl fun X w0 => ?_
 refine ra ?_
 refine rs (ym ?_)
 refine Y1 (Yv.eql rfl eV eV) ?_
 refine ym ?_
 refine gF (Yv.move rfl eV) ?_
 refine gF (Yv.eql rfl (Eg rfl rfl id) eV) ?_
 refine Y1 (Yv.pickOr (t := .const (.bool true)) rfl eV (Eg rfl rfl id)) ?_
 refine ym ?_
 refine gF (Yv.move rfl eV) ?_
 refine gF (Yv.eql rfl (Eg rfl rfl id) eV) ?_
 refine Y1 (Yv.pickOr (t := .const (.bool true)) rfl eV (Eg rfl rfl id)) ?_
 refine ym ?_
 refine gF (Yv.move rfl eV) ?_
 refine gF (Yv.eql rfl (Eg rfl rfl id) eV) ?_
 refine Y1 (Yv.pickOr (t := .const (.bool true)) rfl eV (Eg rfl rfl id)) ?_
 refine ya ?_
 refine AW.ret (retI (.tmp rfl .nil) ?_)
 rfl
set_option maxHeartbeats 4000000 in
theorem Held10 (L : DLay) (p : Prog) (hp : ProgOk p) (hpi : ProgIn p) (m : Mc) (q : DQ) (hpr : m.c.prog = p) (hq : DRel m q) (hT : wordM m 268435456#64 = wordM m 268435464#64) :
    ACalls Tryz.prog 10 [pv L.s] (DP L m q) (fun t S => t = .sl 1 ((heldL m).map zw) ∧ S = DP L m q) := by
 refine ACalls.intro Tryz.func10 rfl Tryz.ntmps10 nB rfl fun X w0 => ?_
 refine ra ?_
 refine ra ?_
 refine rs (ym ?_)
 refine cA ce_8 rfl rfl rfl (Word8 L p hp hpi m q hpr hq (268435456#64)) ?_
 rintro t8 S8 ⟨rfl, rfl⟩
 refine ya ?_
 refine AW.seq ?_
 refine rs (ym ?_)
 refine cA ce_8 rfl rfl rfl (Word8 L p hp hpi m q hpr hq (268435464#64)) ?_
 rintro t10 S10 ⟨rfl, rfl⟩
 refine ya ?_
 refine AW.rowNil 22 1 ?_
 refine AW.perm (List.perm_append_singleton _ _).symm ?_
 refine AW.block ?_
 refine AW.loop (fun (u : Unit) => [(0, true, .v (.pointer (some ⟨L.s, 0, none⟩))), (3, true, .v (.slice none 0 0)), (4, true, zw (wordM m 268435456#64)), (5, true, zw (wordM m 268435464#64))]) (fun (u : Unit) => (Ent.row none 0 0 22 1 [] :: DP L m q)) (fun (u : Unit) => True) (fun (u : Unit) => 0) (()) ?_ ?_ ?_ ?_
 ·trivial
 ·exact (su (su (su (su sn))))
 ·rfl
 intro u hinv
 refine AW.seq ?_
 refine rs (ym ?_)
 refine ym ?_
 refine Y1 (Yv.lssW rfl eV eV) ?_
 refine ym ?_
 refine gT (Yv.move rfl eV) ?_
 refine gT (Yv.lenV rfl so_32 (Eg rfl rfl id)) ?_
 refine gT (Yv.lss rfl (Eg rfl rfl id) eV) ?_
 refine Y1 (Yv.pickAnd rfl eV (Eg rfl rfl id)) (nl ?_)
 refine AW.cond rfl (fun h0t => ?_) (fun h0f => ?_)
 ·try replace h0t := odt h0t
  exfalso; simp [hT] at h0t
 try replace h0f := odf h0f
 refine AW.exit ?_
 refine rs (ym ?_)
 refine ym ?_
 refine cE ce_8 [Ent.row none 0 0 22 1 []] (DP L m q) rfl rfl rfl (Word8 L p hp hpi m q hpr hq (268435480#64)) ?_
 rintro t29 S29 ⟨rfl, rfl⟩
 refine AWL.buildSlice1 rfl rfl (B rfl) rfl el_32 rfl (evsC (E rfl rfl) evs0) nB rfl rfl ?_
 refine AWL.appendRow (i := 0) rfl rfl (B rfl) rfl el_32 (B rfl) rfl (E rfl rfl) (SrcT.sl (m := 1) so_32 (B rfl) (E rfl rfl) rfl) (by unfold maxLen; omega) (by omega) (fun A1 c1 => ?_)
 refine ya ?_
 refine AW.seq ?_
 refine ra ?_
 refine AW.block ?_
 refine AW.loop3 (fun (j : Nat) (A : Option Addr) (c : Nat) => [(0, true, .v (.pointer (some ⟨L.s, 0, none⟩))), (3, true, .v (.slice A (1 + j) c)), (6, true, zw (wI (j : Int)))]) (fun (j : Nat) (A : Option Addr) (c : Nat) => ([Ent.row A (1 + j) c 22 1 (zw (wordM m 268435480#64) :: (List.range j).map (fun (i : Nat) => zw (wordM m (268435488#64 + 16#64 * wI (i : Int) + 8#64))))] ++ DP L m q)) (fun (j : Nat) (A : Option Addr) (c : Nat) => j ≤ 8) (fun (j : Nat) (A : Option Addr) (c : Nat) => 8 - j) 0 A1 c1 ?_ ?_ ?_ ?_
 ·exact Nat.zero_le _
 ·exact (su (su (su sn)))
 ·rfl
 intro j A c hinv
 refine AW.seq ?_
 refine rs (ym ?_)
 refine Y1 (Yv.lssW (b := 8#64) rfl eV eV) (nl ?_)
 refine AW.cond rfl (fun h1t => ?_) (fun h1f => ?_)
 ·try replace h1t := odt h1t
  have hj := (lt8 hinv).1 h1t
  refine AW.skip ?_
  refine AW.seq ?_
  refine AW.block ?_
  refine AW.region ?_
  refine ym ?_
  refine ym ?_
  refine ym ?_
  refine Y1 (Yv.mulW (a := 16#64) rfl eV eV) ?_
  refine Y1 (Yv.addW (a := 268435488#64) rfl eV eV) ?_
  refine Y1 (Yv.addW (b := 8#64) rfl eV eV) ?_
  refine cE ce_8 [Ent.row A (1 + j) c 22 1 (zw (wordM m 268435480#64) :: (List.range j).map (fun (i : Nat) => zw (wordM m (268435488#64 + 16#64 * wI (i : Int) + 8#64))))] (DP L m q) rfl rfl rfl (Word8 L p hp hpi m q hpr hq (268435488#64 + 16#64 * wI (j : Int) + 8#64)) ?_
  rintro t42 S42 ⟨rfl, rfl⟩
  refine AWL.buildSlice1 rfl rfl (B rfl) rfl el_32 rfl (evsC (E rfl rfl) evs0) nB rfl rfl ?_
  refine AWL.appendRow (i := 0) rfl rfl (B rfl) rfl el_32 (B rfl) rfl (E rfl rfl) (SrcT.sl (m := 1) so_32 (B rfl) (E rfl rfl) rfl) (by unfold maxLen; omega) (by omega) (fun A2 c2 => ?_)
  refine ya ?_
  refine AW.region ?_
  refine ym ?_
  refine Y1 (Yv.addW (b := 1#64) rfl eV eV) ?_
  refine ya ?_
  refine ⟨j + 1, A2, c2, by omega, by omega, (su (su (Sub.cons rfl (by rw [wI_succ]) Sub.nil))), ?_⟩
  rw [← row_succ]
  rfl
 try replace h1f := odf h1f
 obtain rfl : j = 8 := by
  rcases Nat.lt_or_ge j 8 with z | z
  ·exact absurd ((lt8 hinv).2 z) h1f
  ·omega
 refine AW.exit ?_
 rw [held_map]
 refine AW.freeze 0 3 rfl (by decide) rfl ?_
 refine rs (ym ?_)
 refine ya ?_
 refine AW.ret (retI (.tmp rfl .nil) ?_)
 exact ⟨rfl, rfl⟩
set_option maxHeartbeats 400000 in
theorem May23t (b : List UInt8) (hb : b.length ≤ 1048576) :
    ACalls Tryz.prog 23 [.agg [zi 2, zi 0, sv b, .v (.slice none 0 0)]] [] (fun t S => t = bv true) := by
 refine ACalls.intro Tryz.func23 rfl Tryz.ntmps23 nB rfl fun X w0 => ?_
 refine rs ?_
 refine AWL.boxOp rfl rfl (B rfl) rfl (E rfl rfl) rfl (fun b1 => ?_)
 refine ya ?_
 refine rs (yf fo_31_0 ?_)
 refine yl ag_3 0 ?_
 refine AWL.callP rfl rfl (B rfl) rfl ce_45 (E rfl rfl) (evsC (E rfl rfl) evs0) (Rows45 2) (fun t S h => h) ?_
 refine ya ?_
 refine AW.seq ?_
 refine rs (ym ?_)
 refine ym ?_
 refine gT (Yv.fieldBox rfl fo_31_3 eV) ?_
 refine gT (Yv.loadBox rfl ag_29 (i := 0) rfl (Eg rfl rfl id) rfl) ?_
 refine gT (Yv.lenV rfl so_29 (Eg rfl rfl id)) ?_
 refine gT (Yv.gtr rfl (Eg rfl rfl id) eV) ?_
 refine Y1 (Yv.pickAnd rfl eV (Eg rfl rfl id)) ?_
 refine ym ?_
 refine gF (Yv.move rfl eV) ?_
 refine gF (Yv.not rfl (Eg rfl rfl id)) ?_
 refine gF (Yv.move rfl (Eg rfl rfl id)) ?_
 refine gT (Yv.fieldBox rfl fo_31_2 eV) ?_
 refine gT (Yv.loadBox rfl ag_9 (i := 0) rfl (Eg rfl rfl id) rfl) ?_
 refine gT (Yv.lenL rfl st_9 (Eg rfl rfl id)) ?_
 refine gT (Yv.gtr rfl (Eg rfl rfl id) eV) ?_
 refine gF (Yv.pickAnd rfl (Eg rfl rfl id) (Eg rfl rfl id)) ?_
 refine Y1 (Yv.pickOr (t := .const (.bool true)) rfl eV (Eg rfl rfl id)) (nl ?_)
 refine AW.cond rfl (fun h0t => ?_) (fun h0f => ?_)
 ·try replace h0t := odt h0t
  first | exact absurd h0t (by decide) | exact absurd (show (false : Bool) = true from h0t) (by decide)
 try replace h0f := odf h0f
 refine AW.skip ?_
 refine AW.seq ?_
 refine rs (yf fo_31_0 ?_)
 refine yl ag_3 0 (nl ?_)
 refine AW.block ?_
 refine rs (Y1 (Yv.eql rfl eV eV) ?_)
 refine ya ?_
 refine AW.cond rfl (fun h1t => ?_) (fun h1f => ?_)
 ·try replace h1t := odt h1t
  first | exact absurd h1t (by decide) | exact absurd (show (false : Bool) = true from h1t) (by decide)
 try replace h1f := odf h1f
 refine rs (Y1 (Yv.eql rfl eV eV) ?_)
 refine ya ?_
 refine AW.cond rfl (fun h2t => ?_) (fun h2f => ?_)
 ·try replace h2t := odt h2t
  first | exact absurd h2t (by decide) | exact absurd (show (false : Bool) = true from h2t) (by decide)
 try replace h2f := odf h2f
 refine AW.seq ?_
 refine rs (Y1 (Yv.eql rfl eV eV) ?_)
 refine ya ?_
 refine AW.cond rfl (fun h3t => ?_) (fun h3f => ?_)
 ·try replace h3t := odt h3t
  refine AW.skip ?_
  refine AW.cond rfl (fun h4t => ?_) (fun h4f => ?_)
  ·try replace h4t := odt h4t
   refine rs (yf fo_31_1 ?_)
   refine yl ag_3 0 ?_
   refine Y1 (Yv.eql rfl eV eV) ?_
   refine ya ?_
   refine AW.ret (retI (.tmp rfl .nil) ?_)
   rfl
  try replace h4f := odf h4f
  first | exact absurd h4f (by decide) | exact absurd (show (true : Bool) = false from h4f) (by decide)
 try replace h3f := odf h3f
 first | exact absurd h3f (by decide) | exact absurd (show (true : Bool) = false from h3f) (by decide)
set_option maxHeartbeats 400000 in
theorem length24t (b : List UInt8) (hb : b.length ≤ 1048576) :
    ACalls Tryz.prog 24 [.agg [zi 2, zi 0, sv b, .v (.slice none 0 0)]] [] (fun t S => t = zi (b.length : Int)) := by
 refine ACalls.intro Tryz.func24 rfl Tryz.ntmps24 nB rfl fun X w0 => ?_
 refine rs ?_
 refine AWL.boxOp rfl rfl (B rfl) rfl (E rfl rfl) rfl (fun b1 => ?_)
 refine ya ?_
 refine rs (yf fo_31_0 ?_)
 refine yl ag_3 0 ?_
 refine AWL.callP rfl rfl (B rfl) rfl ce_45 (E rfl rfl) (evsC (E rfl rfl) evs0) (Rows45 2) (fun t S h => h) ?_
 refine ya ?_
 refine AW.seq ?_
 refine rs (ym (nl ?_))
 refine AW.cond rfl (fun h0t => ?_) (fun h0f => ?_)
 ·try replace h0t := odt h0t
  refine rs (yf fo_31_2 ?_)
  refine yl ag_9 0 ?_
  refine Y1 (Yv.lenL rfl st_9 eV) ?_
  refine ya ?_
  refine AW.ret (retI (.tmp rfl .nil) ?_)
  rfl
 try replace h0f := odf h0f
 first | exact absurd h0f (by decide) | exact absurd (show (true : Bool) = false from h0f) (by decide)
set_option maxHeartbeats 400000 in
theorem Header9t (b : List UInt8) (hb : b.length ≤ 1048576) :
    ACalls Tryz.prog 9 [.agg [zi 2, zi 0, sv b, .v (.slice none 0 0)]] [] (fun t S => t = .v (.int .u64 (5 + (b.length : Int) * 16777216))) := by
 refine ACalls.intro Tryz.func9 rfl Tryz.ntmps9 nB rfl fun X w0 => ?_
 refine rs ?_
 refine AWL.boxOp rfl rfl (B rfl) rfl (E rfl rfl) rfl (fun b1 => ?_)
 refine AWL.perm (List.perm_append_singleton _ _).symm ?_
 refine ya ?_
 refine rs (Y1 (Yv.loadBoxA rfl ag_31 (i := 0) rfl eV rfl rfl) ?_)
 refine AWL.callP rfl rfl (B rfl) rfl ce_23 (E rfl rfl) (evsC (E rfl rfl) evs0) (May23t b hb) (fun t S h => h) ?_
 refine ya ?_
 refine AW.seq ?_
 refine rs (ym ?_)
 refine Y1 (Yv.not rfl eV) (nl ?_)
 refine AW.cond rfl (fun h0t => ?_) (fun h0f => ?_)
 ·try replace h0t := odt h0t
  first | exact absurd h0t (by decide) | exact absurd (show (false : Bool) = true from h0t) (by decide)
 try replace h0f := odf h0f
 refine AW.skip ?_
 refine rs (yf fo_31_1 ?_)
 refine yl ag_3 0 ?_
 refine ya ?_
 refine AW.seq ?_
 refine rs (yf fo_31_0 ?_)
 refine yl ag_3 0 ?_
 refine Y1 (Yv.eql rfl eV eV) (nl ?_)
 refine AW.cond rfl (fun h1t => ?_) (fun h1f => ?_)
 ·try replace h1t := odt h1t
  first | exact absurd h1t (by decide) | exact absurd (show (false : Bool) = true from h1t) (by decide)
 try replace h1f := odf h1f
 refine AW.skip ?_
 refine AW.rseqH (HeldCs [(b1, 0, Value.int .i64 2)]) rfl (tells_cs (tcB 0 rfl rfl pinV tc0)) ?_
 refine T2 (i := 0) rfl (heldAll (freeField rfl fo_31_0 (E rfl rfl))) ?_
 refine T2 (i := 1) rfl (heldB 0 rfl ag_3 (E rfl rfl) rfl (fun _ _ => .v _)) ?_
 refine T2 (i := 2) rfl (heldAll (freeConvU rfl Tryz.underlying3 kd_22 (E rfl rfl) (by decide))) ?_
 refine T2 (i := 3) rfl (heldAll (freeMulU rfl (E rfl rfl) (E rfl rfl) (by decide))) ?_
 refine T2 (i := 4) rfl (heldAll (freeAdd_u64 rfl (E rfl rfl) (E rfl rfl) (by decide))) ?_
 refine T2 (i := 5) rfl (heldAll (freeMove rfl (E rfl rfl))) ?_
 refine T2 (i := 6) rfl (heldAll (freeConvU rfl Tryz.underlying3 kd_22 (E rfl rfl) (by decide))) ?_
 refine T2 (i := 7) rfl (heldAll (freeMulU rfl (E rfl rfl) (E rfl rfl) (by decide))) ?_
 refine T2 (i := 8) rfl (heldAll (freeAdd_u64 rfl (E rfl rfl) (E rfl rfl) (by decide))) ?_
 refine AWH.one (i := 9) (by kernel_rfl) rfl ?_
 refine Y1 (Yv.loadBoxA rfl ag_31 (i := 0) rfl eV rfl rfl) ?_
 refine AWL.nil (kpH (tcB 0 rfl rfl pinV tc0) ?_)
 refine AWH.one (i := 10) (by kernel_rfl) rfl ?_
 refine AWL.callP rfl rfl (B rfl) rfl ce_24 (E rfl rfl) (evsC (E rfl rfl) evs0) (length24t b hb) (fun t S h => h) ?_
 refine AWL.nil (kpH (tcB 0 rfl rfl pinV tc0) ?_)
 refine AWH.one (i := 11) (by kernel_rfl) rfl ?_
 refine Y1 (Yv.convN_u64 rfl Tryz.underlying3 kd_22 eV (fun hg => by omega)) ?_
 refine AWL.nil (kpH (tcB 0 rfl rfl pinV tc0) ?_)
 refine AWH.one (i := 12) (by kernel_rfl) rfl ?_
 refine Y1 (Yv.shlCN_u64 16777216 (by decide) (by decide) rfl (E rfl rfl) (E rfl rfl) (fun hg => by omega)) ?_
 refine AWL.nil (kpH (tcB 0 rfl rfl pinV tc0) ?_)
 refine AWH.one (i := 13) (by kernel_rfl) rfl ?_
 refine Y1 (Yv.addN_u64 rfl eV eV (fun hg => by omega)) ?_
 refine AWL.nil (kpH (tcB 0 rfl rfl pinV tc0) ?_)
 refine AWH.one (i := 14) (by kernel_rfl) rfl ?_
 refine Y1 (Yv.assign rfl eV) ?_
 refine AWL.nil (kpH (tcB 0 rfl rfl pinV tc0) ?_)
 refine AWH.done (by kernel_rfl) ?_
 refine AW.ret (retI (.tmp rfl .nil) ?_)
 rfl
theorem headK : ACalls Tryz.prog 9 [.agg keptC] [] (fun t S => t = zw 67108869#64) := (Header9t keptB (by decide)).mono fun t S h => h.trans (by kernel_rfl)
theorem kx_t {j : Nat} (h0 : 0 < j) (h : j ≤ 4) : zw (256#64 * kx j + wI ((keptB.getD (j - 1) 0).toNat : Int)) = zw (kx (j - 1)) := by
 match j, h0, h with
 | 1, _, _ => exact congrArg zw (by decide)
 | 2, _, _ => exact congrArg zw (by decide)
 | 3, _, _ => exact congrArg zw (by decide)
 | 4, _, _ => exact congrArg zw (by decide)
 | k + 5, _, h => omega
theorem kx_f {j : Nat} (h0 : 4 < j) (h : j ≤ 8) : zw (256#64 * kx j) = zw (kx (j - 1)) := by
 match j, h0, h with
 | 5, _, _ => exact congrArg zw (by decide)
 | 6, _, _ => exact congrArg zw (by decide)
 | 7, _, _ => exact congrArg zw (by decide)
 | 8, _, _ => exact congrArg zw (by decide)
 | k + 9, _, h => omega
set_option maxHeartbeats 4000000 in
theorem Lay14k (L : DLay) (m : Mc) (q : DQ) (y : Wd64) (c : Nat → Wd64) (bd : Int) (hL : Live y c bd m q) (hy : 65536 ≤ y.toNat ∧ y.toNat < 105536) :
    ACalls Tryz.prog 14 [pv L.s, zw 1073741824#64, .agg keptC, .v (.slice none 0 0)] (DP L m q) (fun t S => ∃ q', t = bv true ∧ Live y c bd (layM m 1) q' ∧ S = DP L (layM m 1) q') := by
 refine ACalls.intro Tryz.func14 rfl Tryz.ntmps14 nB rfl fun X w0 => ?_
 refine rs ?_
 refine AWL.boxOp rfl rfl (B rfl) rfl (E rfl rfl) rfl (fun b6 => ?_)
 refine AWL.perm (List.perm_append_singleton _ _).symm ?_
 refine ya ?_
 refine rs (ym ?_)
 refine ym ?_
 refine Y1 (Yv.loadBoxA rfl ag_31 (i := 0) rfl eV rfl rfl) ?_
 refine AWL.callT rfl rfl (B rfl) rfl ce_9 (E rfl rfl) (evsC (E rfl rfl) evs0) (headK) ?_
 rintro t20 S20 rfl
 refine cE ce_15 [Ent.box b6 31 keptC] (DP L m q) rfl rfl rfl (heap_store hL hy.2 67108869#64 1073741824#64 (by decide) (by show 1073741824 + 8 ≤ _; omega)) ?_
 rintro t21 S21 ⟨q1, rfl, hL1, rfl⟩
 refine ya ?_
 refine rs (ym ?_)
 refine Y1 (Yv.addW (b := 8#64) rfl eV eV) ?_
 refine ya ?_
 refine AW.seq ?_
 refine ra ?_
 refine AW.block ?_
 refine AW.loop2 (fun (i : Nat) (qi : DQ) => [(0, true, .v (.pointer (some ⟨L.s, 0, none⟩))), (1, true, zw (layA i)), (3, true, .v (.slice none 0 0)), (6, true, pv b6), (9, true, bv true), (10, true, zi (8 * i : Int))]) (fun (i : Nat) (qi : DQ) => ([Ent.box b6 31 keptC] ++ DP L (layM m i) qi)) (fun (i : Nat) (qi : DQ) => i ≤ 1 ∧ Live y c bd (layM m i) qi) (fun (i : Nat) (qi : DQ) => 1 - i) 0 q1 ?_ ?_ ?_ ?_
 ·exact ⟨Nat.zero_le _, hL1⟩
 ·exact (su (su (su (su (su (su sn))))))
 ·rfl
 intro i qi ⟨hi1, hLi⟩
 refine AW.seq ?_
 refine rs (ym ?_)
 refine yf fo_31_2 ?_
 refine yl ag_9 0 ?_
 refine Y1 (Yv.lenL rfl st_9 eV) ?_
 refine Y1 (Yv.lss rfl eV eV) (nl ?_)
 refine AW.cond rfl (fun h0t => ?_) (fun h0f => ?_)
 ·try replace h0t := odt h0t
  obtain rfl : i = 0 := by
   have h : (((8 * i : Nat) : Int)) < 4 := h0t
   omega
  refine AW.skip ?_
  refine AW.seq ?_
  refine AW.block ?_
  refine ra ?_
  refine AW.seq ?_
  refine ra ?_
  refine AW.block ?_
  refine AW.loop (fun (j : Nat) => [(0, true, .v (.pointer (some ⟨L.s, 0, none⟩))), (1, true, zw (layA 0)), (3, true, .v (.slice none 0 0)), (6, true, pv b6), (9, true, bv true), (10, true, zi (8 * (0 : Nat) : Int)), (11, true, zw (kx j)), (12, true, zi ((j : Int) - 1))]) (fun (j : Nat) => ([Ent.box b6 31 keptC] ++ DP L (layM m 0) qi)) (fun (j : Nat) => j ≤ 8) (fun (j : Nat) => j) 8 ?_ ?_ ?_ ?_
  ·exact Nat.le_refl _
  ·exact (su (su (su (su (su (su (su (su sn))))))))
  ·rfl
  intro j hinv
  refine AW.seq ?_
  refine rs (ym ?_)
  refine Y1 (Yv.geq rfl eV eV) (nl ?_)
  refine AW.cond rfl (fun h1t => ?_) (fun h1f => ?_)
  ·try replace h1t := odt h1t
   have hj : 0 < j := by omega
   refine AW.skip ?_
   refine AW.seq ?_
   refine AW.block ?_
   refine rs (ym ?_)
   refine Y1 (Yv.mulW (a := 256#64) rfl eV eV) ?_
   refine ya ?_
   refine rs (ym ?_)
   refine ym ?_
   refine Y1 (Yv.addN_i64 rfl eV eV (fun hg => by omega)) ?_
   refine yf fo_31_2 ?_
   refine yl ag_9 0 ?_
   refine Y1 (Yv.lenL rfl st_9 eV) ?_
   refine Y1 (Yv.lss rfl eV eV) (nl ?_)
   refine AW.cond rfl (fun h2t => ?_) (fun h2f => ?_)
   ·try replace h2t := odt h2t
    have hj4 : j ≤ 4 := by
     have h : (((8 * 0 : Nat) : Int)) + ((j : Int) - 1) < 4 := h2t
     omega
    refine AW.region ?_
    refine ym ?_
    refine yf fo_31_2 ?_
    refine yl ag_9 0 ?_
    refine ym ?_
    refine ym ?_
    refine Y1 (Yv.addN_i64 rfl eV eV (fun hg => by omega)) ?_
    refine Y1 (Yv.indexL rfl st_9 eV eV (j := j - 1) (fun hg => ⟨by omega, by show j - 1 < 4; omega⟩)) ?_
    refine Y1 (Yv.convW rfl Tryz.underlying5 kd_22 eV) ?_
    refine Y1 (Yv.addW rfl eV eV) ?_
    refine ya ?_
    refine AW.region ?_
    refine ym ?_
    refine Y1 (Yv.subN_i64 rfl eV eV (fun hg => by omega)) ?_
    refine ya ?_
    exact ⟨j - 1, by omega, by omega, (su (su (su (su (su (su (Sub.cons rfl (kx_t hj hj4).symm (Sub.cons rfl (by congr 3; omega) Sub.nil)))))))), rfl⟩
   try replace h2f := odf h2f
   have hj4 : 4 < j := by
    have h : ¬ (((8 * 0 : Nat) : Int)) + ((j : Int) - 1) < 4 := h2f
    omega
   refine AW.skip ?_
   refine AW.region ?_
   refine ym ?_
   refine Y1 (Yv.subN_i64 rfl eV eV (fun hg => by omega)) ?_
   refine ya ?_
   exact ⟨j - 1, by omega, by omega, (su (su (su (su (su (su (Sub.cons rfl (kx_f hj4 hinv).symm (Sub.cons rfl (by congr 3; omega) Sub.nil)))))))), rfl⟩
  try replace h1f := odf h1f
  obtain rfl : j = 0 := by omega
  refine AW.exit ?_
  refine rs (ym ?_)
  refine ym ?_
  refine ym ?_
  refine cE ce_15 [Ent.box b6 31 keptC] (DP L (layM m 0) qi) rfl rfl rfl (heap_store hLi hy.2 1953523051#64 1073741832#64 (by decide) (by show 1073741832 + 8 ≤ _; omega)) ?_
  rintro t56 S56 ⟨q2, rfl, hL2, rfl⟩
  refine ya ?_
  refine rs (ym ?_)
  refine ym ?_
  refine gT (Yv.move rfl eV) ?_
  refine Y1 (Yv.pickAnd rfl eV (Eg rfl rfl id)) ?_
  refine ya ?_
  refine AW.region ?_
  refine ym ?_
  refine Y1 (Yv.addW (b := 8#64) rfl eV eV) ?_
  refine ya ?_
  refine AW.region ?_
  refine ym ?_
  refine Y1 (Yv.addN_i64 rfl eV eV (fun hg => by omega)) ?_
  refine ya ?_
  exact ⟨1, q2, ⟨Nat.le_refl _, hL2⟩, by omega, (su (su (su (su (su (su sn)))))), rfl⟩
 try replace h0f := odf h0f
 obtain rfl : i = 1 := by
  have h : ¬ (((8 * i : Nat) : Int)) < 4 := h0f
  omega
 refine AW.exit ?_
 refine AW.seq ?_
 refine rs (yf fo_31_0 ?_)
 refine yl ag_3 0 ?_
 refine Y1 (Yv.eql rfl eV eV) (nl ?_)
 refine AW.cond rfl (fun h3t => ?_) (fun h3f => ?_)
 ·try replace h3t := odt h3t
  exact absurd h3t (by decide)
 try replace h3f := odf h3f
 refine AW.skip ?_
 refine AW.seq ?_
 refine ra ?_
 refine AW.block ?_
 refine AW.loop (fun (u : Unit) => [(3, true, .v (.slice none 0 0)), (9, true, bv true), (15, true, zi 0)]) (fun (u : Unit) => ([Ent.box b6 31 keptC] ++ DP L (layM m 1) qi)) (fun (u : Unit) => True) (fun (u : Unit) => 0) (()) ?_ ?_ ?_ ?_
 ·trivial
 ·exact (su (su (su sn)))
 ·rfl
 intro u hinv
 refine AW.seq ?_
 refine rs (ym ?_)
 refine ym ?_
 refine Y1 (Yv.lenV rfl so_32 eV) ?_
 refine Y1 (Yv.lss rfl eV eV) (nl ?_)
 refine AW.cond rfl (fun h4t => ?_) (fun h4f => ?_)
 ·try replace h4t := odt h4t
  exact absurd h4t (by decide)
 try replace h4f := odf h4f
 refine AW.exit ?_
 refine rs (ym ?_)
 refine ya ?_
 refine AW.drop (S' := DP L (layM m 1) qi) (List.sublist_cons_self _ _) ?_
 refine AW.ret (retI (.tmp rfl .nil) ?_)
 exact ⟨qi, rfl, hLi, rfl⟩
open B
set_option maxRecDepth 100000
set_option maxHeartbeats 4000000 in
theorem Bytes31 (L : DLay) (m : Mc) (q : DQ) (hpr : m.c.prog = gcP) (hq : DRel m q) (hy : m.c.heap.toNat < 105536) :
    ACalls Tryz.prog 31 [pv L.s] (DP L m q) (fun t S => t = .sl 1 ((heapB m (m.c.heap.toNat / 8)).map u8) ∧ S = DP L m q) := by
 refine ACalls.intro Tryz.func31 rfl Tryz.ntmps31 nB rfl fun X w0 => ?_
 refine ra ?_
 refine ra ?_
 refine AW.rowNil 5 1 ?_
 refine AW.perm (List.perm_append_singleton _ _).symm ?_
 refine AW.seq ?_
 refine ra ?_
 refine AW.block ?_
 refine AW.loop3 (fun (i : Nat) (A : Option Addr) (c : Nat) => [(0, true, .v (.pointer (some ⟨L.s, 0, none⟩))), (3, true, .v (.slice A (8 * i + 0) c)), (4, true, zw (wI ((8 * i : Nat) : Int)))]) (fun (i : Nat) (A : Option Addr) (c : Nat) => ([Ent.row A (8 * i + 0) c 5 1 ((heapB m i ++ wordB (hpW m i) 0).map u8)] ++ DP L m q)) (fun (i : Nat) (A : Option Addr) (c : Nat) => i ≤ m.c.heap.toNat / 8) (fun (i : Nat) (A : Option Addr) (c : Nat) => m.c.heap.toNat / 8 - i) 0 none 0 ?_ ?_ ?_ ?_
 ·exact Nat.zero_le _
 ·exact (su (su (su sn)))
 ·rfl
 intro i A c hinv
 refine AW.seq ?_
 refine rs (ym ?_)
 refine Y1 (Yv.addW (b := 8#64) rfl eV eV) ?_
 refine ym ?_
 refine Y1 (Yv.nilChk rfl eV) ?_
 refine yf fo_75_2 ?_
 refine yl ag_22 1 ?_
 refine Y1 (Yv.leqW rfl eV eV) (nl ?_)
 refine AW.cond rfl (fun h0t => ?_) (fun h0f => ?_)
 ·try replace h0t := odt h0t
  have hi := (at_le hy hinv).1 h0t
  refine AW.skip ?_
  refine AW.seq ?_
  refine AW.block ?_
  refine rs (ym ?_)
  refine ym ?_
  refine Y1 (Yv.addW (a := 1073741824#64) rfl eV eV) ?_
  refine cE ce_8 [Ent.row A (8 * i + 0) c 5 1 ((heapB m i ++ wordB (hpW m i) 0).map u8)] (DP L m q) rfl rfl rfl (Word8 L gcP gc_ok gc_in m q hpr hq (1073741824#64 + wI ((8 * i : Nat) : Int))) ?_
  rintro t19 S19 ⟨rfl, rfl⟩
  refine ya ?_
  refine ra ?_
  refine AW.block ?_
  refine AW.loop3 (fun (k : Nat) (A1 : Option Addr) (c1 : Nat) => [(0, true, .v (.pointer (some ⟨L.s, 0, none⟩))), (3, true, .v (.slice A1 (8 * i + k) c1)), (4, true, zw (wI ((8 * i : Nat) : Int))), (5, true, zw (wq (hpW m i) k)), (6, true, zi (k : Int))]) (fun (k : Nat) (A1 : Option Addr) (c1 : Nat) => ([Ent.row A1 (8 * i + k) c1 5 1 ((heapB m i ++ wordB (hpW m i) k).map u8)] ++ DP L m q)) (fun (k : Nat) (A1 : Option Addr) (c1 : Nat) => k ≤ 8) (fun (k : Nat) (A1 : Option Addr) (c1 : Nat) => 8 - k) 0 A c ?_ ?_ ?_ ?_
  ·exact Nat.zero_le _
  ·exact (su (su (su (su (su sn)))))
  ·rfl
  intro k A1 c1 hinv
  refine AW.seq ?_
  refine rs (ym ?_)
  refine Y1 (Yv.lss rfl eV eV) (nl ?_)
  refine AW.cond rfl (fun h1t => ?_) (fun h1f => ?_)
  ·try replace h1t := odt h1t
   have hk : k < 8 := by omega
   refine AW.skip ?_
   refine AW.seq ?_
   refine AW.block ?_
   refine rs (ym ?_)
   refine ym ?_
   refine Y1 (Yv.remW (b := 256#64) rfl (E rfl rfl) (E rfl rfl) (by decide)) ?_
   refine Y1 (Yv.eqT (Yv.conv rfl Tryz.underlying22 kd_5 eV) (low_u8 _)) ?_
   refine AWL.buildSlice1 rfl rfl (B rfl) rfl el_54 rfl (evsC (E rfl rfl) evs0) nB rfl rfl ?_
   refine AWL.appendRow (i := 0) rfl rfl (B rfl) rfl el_54 (B rfl) rfl (E rfl rfl) (SrcT.sl (m := 1) so_54 (B rfl) (E rfl rfl) rfl) (by unfold maxLen; omega) (by omega) (fun A2 c2 => ?_)
   refine ya ?_
   refine AW.region ?_
   refine ym ?_
   refine Y1 (Yv.quoW (b := 256#64) rfl (E rfl rfl) (E rfl rfl) (by decide)) ?_
   refine ya ?_
   refine AW.region ?_
   refine ym ?_
   refine Y1 (Yv.addN_i64 rfl eV eV (fun hg => by omega)) ?_
   refine ya ?_
   refine ⟨k + 1, A2, c2, by omega, by omega, (su (su (su (su (su sn))))), ?_⟩
   simp only [wordB_succ, List.map_append, List.append_assoc]
   rfl
  try replace h1f := odf h1f
  obtain rfl : k = 8 := by omega
  refine AW.exit ?_
  refine AW.region ?_
  refine ym ?_
  refine Y1 (Yv.addW (b := 8#64) rfl eV eV) ?_
  refine ya ?_
  refine ⟨i + 1, A1, c1, by omega, by omega, (su (su (Sub.cons rfl (by rw [wI_8]) Sub.nil))), ?_⟩
  rw [heapB_succ, show wordB (hpW m (i + 1)) 0 = [] from rfl, List.append_nil]
  rfl
 try replace h0f := odf h0f
 obtain rfl : i = m.c.heap.toNat / 8 := by
  rcases Nat.lt_or_ge i (m.c.heap.toNat / 8) with z | z
  ·exact absurd ((at_le hy hinv).2 z) h0f
  ·omega
 refine AW.exit ?_
 rw [show wordB (hpW m (m.c.heap.toNat / 8)) 0 = [] from rfl, List.append_nil]
 refine AW.freeze 0 3 rfl (by decide) rfl ?_
 refine rs (ym ?_)
 refine ya ?_
 refine AW.ret (retI (.tmp rfl .nil) ?_)
 exact ⟨rfl, rfl⟩
set_option maxHeartbeats 400000 in
theorem number46 (bs : List UInt8) (h : bs.length ≤ 8) :
    ACalls Tryz.prog 46 [sv bs] [] fun t_ S => t_ = .v (.int .u64 (leN bs)) := by
 refine ACalls.intro Tryz.func46 rfl Tryz.ntmps46 nB rfl fun X w0 => ?_
 refine ra ?_
 refine ra ?_
 refine AW.seq ?_
 refine rs (ym ?_)
 refine Y1 (Yv.lenL rfl st_9 eV) ?_
 refine Y1 (Yv.subN_i64 rfl eV eV (fun hg => by omega)) ?_
 refine ya ?_
 refine AW.block ?_
 refine AW.loop (fun (j : Nat) => [(0, true, sv bs), (3, true, .v (.int .u64 (leN (bs.drop j)))), (4, true, .v (.int .i64 ((j : Int) - 1)))]) (fun (j : Nat) => []) (fun (j : Nat) => j ≤ bs.length) (fun (j : Nat) => j) bs.length ?_ ?_ ?_ ?_
 ·exact Nat.le_refl _
 ·exact (su (Sub.cons rfl (by rw [List.drop_length]; rfl) (su sn)))
 ·rfl
 intro j hinv
 have hnn := leN_0 (bs.drop j)
 refine AW.seq ?_
 refine rs (ym ?_)
 refine Y1 (Yv.geq rfl eV eV) (nl ?_)
 refine AW.cond rfl (fun h0t => ?_) (fun h0f => ?_)
 ·try replace h0t := odt h0t
  have hj0 : 0 < j := by omega
  have hlt := leN_drop_lt h hj0
  have hub := u8_n (bs.getD (j - 1) 0)
  refine AW.skip ?_
  refine AW.seq ?_
  refine AW.block ?_
  refine AW.region ?_
  refine ym ?_
  refine Y1 (Yv.mulN_u64 rfl eV eV (fun hg => by omega)) ?_
  refine ym ?_
  refine ym ?_
  refine Y1 (Yv.indexL rfl st_9 eV eV (j := j - 1) (fun hg => ⟨by omega, by omega⟩)) ?_
  refine Y1 (Yv.convU8 rfl Tryz.underlying5 kd_22 rfl eV) ?_
  refine Y1 (Yv.addN_u64 rfl eV eV (fun hg => by omega)) ?_
  refine ya ?_
  refine AW.region ?_
  refine ym ?_
  refine Y1 (Yv.subN_i64 rfl eV eV (fun hg => by omega)) ?_
  refine ya ?_
  refine ⟨j - 1, by omega, by omega, su (Sub.cons rfl (by rw [leN_drop (by omega) hinv]) (Sub.cons rfl (by congr 2; omega) Sub.nil)), rfl⟩
 try replace h0f := odf h0f
 obtain rfl : j = 0 := by omega
 refine AW.exit ?_
 refine rs (ym ?_)
 refine ya ?_
 refine AW.ret (retI (.tmp rfl .nil) ?_)
 rfl
set_option maxHeartbeats 400000 in
theorem at72 (b : List UInt8) (row : List Int) (bm br : Nat) (A : Option Addr) (c : Nat) (x : Int) (o : Nat) (ho : x - 1073741824 = (o : Int)) (hol : o + 8 ≤ b.length) (hb : b.length ≤ 1099511627) :
    ACalls Tryz.prog 72 [pv br, .v (.int .u64 x)] (RK bm br b A c row) (fun t_ S => t_ = .tup [.v (.int .u64 (leN ((b.drop o).take 8))), .v (.bool true)] ∧ S = (RK bm br b A c row)) := by
 refine ACalls.intro Tryz.func72 rfl Tryz.ntmps72 nB rfl fun X w0 => ?_
 refine rs (Y1 (Yv.assign rfl eV) ?_)
 refine ya ?_
 refine AW.seq ?_
 refine AW.rseqQ rfl (by kernel_rfl) ?_
 refine qm ?_
 refine qm ?_
 refine Q1 (Yv.nilChk rfl eV) ?_
 refine qf fo_125_1 ?_
 refine ql ag_22 1 ?_
 refine Q1 (Yv.lss rfl eV eV) ?_
 refine qm ?_
 refine kF (Yv.move rfl eV) ?_
 refine kF (Yv.move rfl eV) ?_
 refine kF (Yv.nilChk rfl (Eg rfl rfl id)) ?_
 refine kF (Yv.fieldBox rfl fo_125_1 (Eg rfl rfl id)) ?_
 refine kF (Yv.loadBox rfl ag_22 (i := 1) rfl (Eg rfl rfl id) rfl) ?_
 refine kF (Yv.subN_u64 rfl (Eg rfl rfl id) (Eg rfl rfl id) (fun hg => by first | omega | (simp only [Bool.and_eq_true, Bool.or_eq_false_iff, Bool.not_eq_true', Bool.not_eq_false', decide_eq_true_eq, decide_eq_false_iff_not] at hg; omega))) ?_
 refine kF (Yv.move rfl eV) ?_
 refine kF (Yv.nilChk rfl (Eg rfl rfl id)) ?_
 refine kF (Yv.fieldBox rfl fo_125_0 (Eg rfl rfl id)) ?_
 refine kF (Yv.loadBox rfl ag_54 (i := 1) rfl (Eg rfl rfl id) rfl) ?_
 refine kF (Yv.lenSl rfl so_54 (B rfl) (Eg rfl rfl id) len_u8t) ?_
 refine kF (Yv.convN_u64 rfl Tryz.underlying3 kd_22 (Eg rfl rfl id) (fun hg => by first | omega | (simp only [Bool.and_eq_true, Bool.or_eq_false_iff, Bool.not_eq_true', Bool.not_eq_false', decide_eq_true_eq, decide_eq_false_iff_not] at hg; omega))) ?_
 refine kF (Yv.gtr rfl (Eg rfl rfl id) (Eg rfl rfl id)) ?_
 refine Q1 (Yv.pickOr (t := .const (.bool true)) rfl eV (Eg rfl rfl id)) ?_
 refine qm ?_
 refine kF (Yv.move rfl eV) ?_
 refine kF (Yv.nilChk rfl (Eg rfl rfl id)) ?_
 refine kF (Yv.fieldBox rfl fo_125_0 (Eg rfl rfl id)) ?_
 refine kF (Yv.loadBox rfl ag_54 (i := 1) rfl (Eg rfl rfl id) rfl) ?_
 refine kF (Yv.lenSl rfl so_54 (B rfl) (Eg rfl rfl id) len_u8t) ?_
 refine kF (Yv.convN_u64 rfl Tryz.underlying3 kd_22 (Eg rfl rfl id) (fun hg => by first | omega | (simp only [Bool.and_eq_true, Bool.or_eq_false_iff, Bool.not_eq_true', Bool.not_eq_false', decide_eq_true_eq, decide_eq_false_iff_not] at hg; omega))) ?_
 refine kF (Yv.move rfl eV) ?_
 refine kF (Yv.move rfl eV) ?_
 refine kF (Yv.nilChk rfl (Eg rfl rfl id)) ?_
 refine kF (Yv.fieldBox rfl fo_125_1 (Eg rfl rfl id)) ?_
 refine kF (Yv.loadBox rfl ag_22 (i := 1) rfl (Eg rfl rfl id) rfl) ?_
 refine kF (Yv.subN_u64 rfl (Eg rfl rfl id) (Eg rfl rfl id) (fun hg => by first | omega | (simp only [Bool.and_eq_true, Bool.or_eq_false_iff, Bool.not_eq_true', Bool.not_eq_false', decide_eq_true_eq, decide_eq_false_iff_not] at hg; omega))) ?_
 refine kF (Yv.subN_u64 rfl (Eg rfl rfl id) (Eg rfl rfl id) (fun hg => by first | omega | (simp only [Bool.and_eq_true, Bool.or_eq_false_iff, Bool.not_eq_true', Bool.not_eq_false', decide_eq_true_eq, decide_eq_false_iff_not] at hg; omega))) ?_
 refine kF (Yv.lss rfl (Eg rfl rfl id) eV) ?_
 refine Q1 (Yv.pickOr (t := .const (.bool true)) rfl eV (Eg rfl rfl id)) ?_
 refine AWQ.nil ?_
 refine AW.cond rfl (fun h0t => ?_) (fun h0f => ?_)
 ·try replace h0t := odt h0t
  exfalso
  simp only [Bool.or_eq_true, Bool.and_eq_true, Bool.or_eq_false_iff, Bool.and_eq_false_iff, Bool.not_eq_true', Bool.not_eq_false', decide_eq_true_eq, decide_eq_false_iff_not, Decidable.not_not] at h0t
  omega
 try replace h0f := odf h0f
 refine AW.skip ?_
 refine rs (ym ?_)
 refine ym ?_
 refine Y1 (Yv.nilChk rfl eV) ?_
 refine yf fo_125_1 ?_
 refine yl ag_22 1 ?_
 refine Y1 (Yv.subN_u64 rfl eV eV (fun hg => by omega)) ?_
 refine ya ?_
 refine AW.retype (k := 6) (t' := .v (.int .u64 (o : Int))) rfl (fun w L u h => by rw [← ho]; exact h) ?_
 refine rs (ym ?_)
 refine Y1 (Yv.nilChk rfl eV) ?_
 refine yf fo_125_0 ?_
 refine yl ag_54 1 ?_
 refine ym ?_
 refine ym ?_
 refine Y1 (Yv.addN_u64 rfl eV eV (fun hg => by omega)) ?_
 refine Y1 (Yv.sliceMap rfl ss_54 eV (Bound.some_ (j := o) eV (fun hg => rfl)) (Bound.some_ (j := o + 8) eV (fun hg => by omega)) (fun hg => ⟨by omega, by omega⟩)) ?_
 refine Y1 (Yv.bytesStr rfl by_54 st_9 eV) ?_
 refine AWL.callP rfl rfl (B rfl) rfl ce_46 (E rfl rfl) (evsC (E rfl rfl) evs0) (number46 ((b.drop o).take (o + 8 - o)) (by rw [List.length_take]; omega)) (fun t S h => h) ?_
 refine Y1 (Yv.assign rfl eV) ?_
 refine ya ?_
 refine AW.ret (retI (.tmp rfl (.tmp rfl .nil)) ?_)
 exact ⟨by rw [show o + 8 - o = 8 by omega]; rfl, rfl⟩
set_option maxHeartbeats 400000 in
theorem ref48s (b : List UInt8) (x : Int) (bm br : Nat) (A : Option Addr) (c : Nat) :
    ACalls Tryz.prog 48 [pv br, .v (.int .u64 1)] (RK bm br b A c [x]) (fun t_ S => t_ = .agg [zi 1, zi 0] ∧ ∃ E, S = (RK bm br b A c [x]) ++ [E]) := by
 refine ACalls.intro Tryz.func48 rfl Tryz.ntmps48 nB rfl fun X w0 => ?_
 refine rs ?_
 refine AWL.allocOp rfl rfl (B rfl) rfl zc_28 (fun b4 => ?_)
 refine nl ?_
 refine AW.seq ?_
 refine rs (ym ?_)
 refine Y1 (Yv.remN rfl eV eV (fun hg => by omega)) ?_
 refine Y1 (Yv.eql rfl eV eV) (nl ?_)
 refine AW.cond rfl (fun h0t => ?_) (fun h0f => ?_)
 ·try replace h0t := odt h0t
  refine rs (ym ?_)
  refine Y1 (Yv.convN_i64 rfl Tryz.underlying22 kd_2 eV (fun hg => by omega)) ?_
  refine Y1 (Yv.shrC 2 (by decide) (by decide) (by decide) rfl (E rfl rfl) (E rfl rfl)) ?_
  refine Y1 (Yv.buildS rfl sh_28 (evpC eV (evpC eV evp0)) (fun _ => rfl)) ?_
  refine AWL.storeBox (i := 3) rfl rfl rfl ag_28 rfl (E rfl rfl) (E rfl rfl) rfl rfl nB (nl ?_)
  refine AW.ret (retI (.cellA (i := 3) rfl ag_28 rfl rfl rfl .nil) ?_)
  exact ⟨rfl, _, rfl⟩
 try replace h0f := odf h0f
 exact absurd h0f (by decide)
set_option maxHeartbeats 400000 in
theorem ref48n (b : List UInt8) (x : Int) (bm br : Nat) (A : Option Addr) (c : Nat) (h0 : 0 ≤ x) (h1 : x ≤ 18446744073709551615) (hx : x % 2 = 0) :
    ACalls Tryz.prog 48 [pv br, .v (.int .u64 x)] [.map bm (mpK []), .box br 125 [u8s b, zI 1073741824, .v (.map (some bm)), .v (.slice A 0 c)], .row A 0 c 22 1 []] (fun t_ S => t_ = .agg [zi 2, zi 0] ∧ ∃ A' c' E, S = (RK bm br b A' c' [x]) ++ [E]) := by
 refine ACalls.intro Tryz.func48 rfl Tryz.ntmps48 nB rfl fun X w0 => ?_
 refine rs ?_
 refine AWL.allocOp rfl rfl (B rfl) rfl zc_28 (fun b4 => ?_)
 refine nl ?_
 refine AW.seq ?_
 refine rs (ym ?_)
 refine Y1 (Yv.remN rfl eV eV (fun hg => by omega)) ?_
 refine Y1 (Yv.eql rfl eV eV) (nl ?_)
 refine AW.cond rfl (fun h0t => ?_) (fun h0f => ?_)
 ·try replace h0t := odt h0t
  exfalso; omega
 try replace h0f := odf h0f
 refine AW.skip ?_
 refine rs (ym ?_)
 refine Y1 (Yv.nilChk rfl eV) ?_
 refine yf fo_125_2 ?_
 refine yl ag_123 1 ?_
 refine ym ?_
 refine Y1 (Yv.lookup2 (k := .i _ _) (i := 0) rfl mp_123 rfl eV eV rfl (mpK_good _)) ?_
 refine ym ?_
 refine Y1 (Yv.extract rfl eV rfl) ?_
 refine Y1 (Yv.extract rfl eV rfl) ?_
 refine Y1 (Yv.assign rfl eV) ?_
 refine ya ?_
 refine AW.seq ?_
 refine rs (ym ?_)
 refine Y1 (Yv.not rfl eV) (nl ?_)
 refine AW.cond rfl (fun h1t => ?_) (fun h1f => ?_)
 ·try replace h1t := odt h1t
  refine rs (ym ?_)
  refine Y1 (Yv.nilChk rfl eV) ?_
  refine yf fo_125_3 ?_
  refine yl ag_32 1 ?_
  refine Y1 (Yv.lenV rfl so_32 eV) ?_
  refine ya ?_
  refine rs (ym ?_)
  refine Y1 (Yv.nilChk rfl eV) ?_
  refine yf fo_125_2 ?_
  refine yl ag_123 1 ?_
  refine ym ?_
  refine ym ?_
  refine AWL.mapUpd (k := .i _ _) (i := 0) rfl rfl (.inl rfl) mp_123 rfl (E rfl rfl) (E rfl rfl) (E rfl rfl) rfl rfl (mpK_good _) (nl ?_)
  refine AW.region ?_
  refine ym ?_
  refine ym ?_
  refine Y1 (Yv.nilChk rfl eV) ?_
  refine yf fo_125_3 ?_
  refine yl ag_32 1 ?_
  refine ym ?_
  refine AWL.buildSlice1 rfl rfl (B rfl) rfl el_32 rfl (evsC (E rfl rfl) evs0) nB rfl rfl ?_
  refine AWL.appendRow (i := 2) rfl rfl (B rfl) rfl el_32 (B rfl) rfl (E rfl rfl) (SrcT.sl (m := 1) so_32 (B rfl) (E rfl rfl) rfl) (by unfold maxLen; omega) (by omega) (fun A43 c43 => ?_)
  refine Y1 (Yv.nilChk rfl eV) ?_
  refine yf fo_125_3 ?_
  refine AWL.storeBox (i := 1) rfl rfl rfl ag_32 rfl (E rfl rfl) (E rfl rfl) rfl rfl nB (nl ?_)
  refine rs (ym ?_)
  refine Y1 (Yv.buildS rfl sh_28 (evpC eV (evpC eV evp0)) (fun _ => rfl)) ?_
  refine AWL.storeBox (i := 3) rfl rfl rfl ag_28 rfl (E rfl rfl) (E rfl rfl) rfl rfl nB (nl ?_)
  refine AW.ret (retI (.cellA (i := 3) rfl ag_28 rfl rfl rfl .nil) ?_)
  exact ⟨rfl, A43, c43, _, rfl⟩
 try replace h1f := odf h1f
 exact absurd h1f (by simp [mpK, getK])
set_option maxHeartbeats 4000000 in
theorem thing49k (b : List UInt8) (kp : Int) (bm br : Nat) (A : Option Addr) (c : Nat) (o : Nat) (ho : kp - 1073741824 = (o : Int)) (h0 : 0 ≤ kp) (h1 : kp ≤ 18446744073709551615) (hb : b.length ≤ 1099511627) (hk8 : kp % 8 = 0) (hol : o + 16 ≤ b.length) (w0_ : leN ((b.drop o).take 8) = 67108869) (wk : (b.drop (o + 8)).take 4 = keptB) (wz : ∀ i, i < 4 → b.getD (o + 12 + i) 0 = 0) :
    ACalls Tryz.prog 49 [pv br, .v (.int .u64 kp)] (RK bm br b A c [kp]) (fun t_ S => t_ = .tup [.agg keptC, bv true] ∧ ∃ E E2, S = (RK bm br b A c [kp]) ++ [E, E2]) := by
 refine ACalls.intro Tryz.func49 rfl Tryz.ntmps49 nB rfl fun X w0 => ?_
 refine rs ?_
 refine AWL.allocOp rfl rfl (B rfl) rfl zc_31 (fun b4 => ?_)
 refine ya ?_
 refine rs (ym ?_)
 refine ym ?_
 refine C1 rfl ce_72 (E rfl rfl) (evsC (E rfl rfl) (evsC (E rfl rfl) evs0)) (S1 := (RK bm br b A c [kp])) (S2 := _) rfl (at72 b [kp] bm br A c kp o ho (by omega) hb) ?_
 rintro t24 S24 ⟨rfl, rfl⟩
 refine ym ?_
 refine Y1 (Yv.extract rfl eV rfl) ?_
 refine Y1 (Yv.extract rfl eV rfl) ?_
 refine Y1 (Yv.assign rfl eV) ?_
 refine ya ?_
 refine AW.retype (k := 6) (t' := .v (.int .u64 67108869)) rfl (fun w L u h => by rw [← w0_]; exact h) ?_
 refine AW.seq ?_
 refine rs (ym ?_)
 refine Y1 (Yv.not rfl eV) ?_
 refine ym ?_
 refine gF (Yv.move rfl eV) ?_
 refine gF (Yv.remN rfl (Eg rfl rfl id) (E rfl rfl) (fun hg => by first | omega | (simp only [Bool.and_eq_true, Bool.or_eq_false_iff, Bool.not_eq_true', Bool.not_eq_false', decide_eq_true_eq, decide_eq_false_iff_not] at hg; omega))) ?_
 refine gF (Yv.neq rfl (Eg rfl rfl id) eV) ?_
 refine Y1 (Yv.pickOr (t := .const (.bool true)) rfl eV (Eg rfl rfl id)) ?_
 refine ym ?_
 refine gF (Yv.move rfl eV) ?_
 refine gF (Yv.remN rfl (Eg rfl rfl id) (E rfl rfl) (fun hg => by first | omega | (simp only [Bool.and_eq_true, Bool.or_eq_false_iff, Bool.not_eq_true', Bool.not_eq_false', decide_eq_true_eq, decide_eq_false_iff_not] at hg; omega))) ?_
 refine gF (Yv.eql rfl (Eg rfl rfl id) eV) ?_
 refine Y1 (Yv.pickOr (t := .const (.bool true)) rfl eV (Eg rfl rfl id)) ?_
 refine ym ?_
 refine gF (Yv.move rfl eV) ?_
 refine gF (Yv.quoN_u64 rfl (Eg rfl rfl id) (E rfl rfl) (fun hg => by first | omega | (simp only [Bool.and_eq_true, Bool.or_eq_false_iff, Bool.not_eq_true', Bool.not_eq_false', decide_eq_true_eq, decide_eq_false_iff_not] at hg; omega))) ?_
 refine gF (Yv.remN rfl (Eg rfl rfl id) (E rfl rfl) (fun hg => by first | omega | (simp only [Bool.and_eq_true, Bool.or_eq_false_iff, Bool.not_eq_true', Bool.not_eq_false', decide_eq_true_eq, decide_eq_false_iff_not] at hg; omega))) ?_
 refine gF (Yv.neq rfl (Eg rfl rfl id) eV) ?_
 refine Y1 (Yv.pickOr (t := .const (.bool true)) rfl eV (Eg rfl rfl id)) (nl ?_)
 refine AW.cond rfl (fun h0t => ?_) (fun h0f => ?_)
 ·try replace h0t := odt h0t
  exfalso
  simp [hk8] at h0t
 try replace h0f := odf h0f
 refine AW.skip ?_
 refine rs (ym ?_)
 refine Y1 (Yv.quoN_u64 rfl eV eV (fun hg => by omega)) ?_
 refine Y1 (Yv.remN rfl eV eV (fun hg => by omega)) ?_
 refine Y1 (Yv.convN_i64 rfl Tryz.underlying22 kd_3 eV (fun hg => by omega)) ?_
 refine ym ?_
 refine Y1 (Yv.quoN_u64 rfl eV eV (fun hg => by omega)) ?_
 refine Y1 (Yv.remN rfl eV eV (fun hg => by omega)) ?_
 refine Y1 (Yv.convN_i64 rfl Tryz.underlying22 kd_3 eV (fun hg => by omega)) ?_
 refine Y1 (Yv.buildS rfl sh_31 (evpC eV (evpC eV evp0)) (fun _ => rfl)) ?_
 refine AWL.allocOp rfl rfl (B rfl) rfl zc_31 (fun b8 => ?_)
 refine AWL.storeBox (i := 4) rfl rfl rfl ag_31 rfl (E rfl rfl) (E rfl rfl) rfl rfl nB (nl ?_)
 refine AW.eqS (S' := (RK bm br b A c [kp]) ++ [.box b4 31 [zi 0, zi 0, sv [], .v (.slice none 0 0)], .box b8 31 [zi 2, zi 0, sv [], .v (.slice none 0 0)]]) rfl ?_
 refine rs (ym ?_)
 refine Y1 (Yv.shrC 16777216 (by decide) (by decide) (by decide) rfl (E rfl rfl) (E rfl rfl)) ?_
 refine ya ?_
 refine AW.retype (k := 9) (t' := .v (.int .u64 4)) rfl (fun w L u h => by skip; exact h) ?_
 refine rs (yf fo_31_0 ?_)
 refine yl ag_3 4 ?_
 refine AWL.callP rfl rfl (B rfl) rfl ce_45 (E rfl rfl) (evsC (E rfl rfl) evs0) (Rows45 2) (fun t S h => h) ?_
 refine ya ?_
 refine rs (ym ?_)
 refine ya ?_
 refine AW.seq ?_
 refine rs (ym (nl ?_))
 refine AW.cond rfl (fun h1t => ?_) (fun h1f => ?_)
 ·try replace h1t := odt h1t
  refine AW.region ?_
  refine ym ?_
  refine Y1 (Yv.addN_u64 rfl eV eV (fun hg => by omega)) ?_
  refine Y1 (Yv.quoN_u64 rfl eV eV (fun hg => by omega)) ?_
  refine ya ?_
  refine AW.retype (k := 11) (t' := .v (.int .u64 1)) rfl (fun w L u h => by skip; exact h) ?_
  refine rs (ym ?_)
  refine ym ?_
  refine Y1 (Yv.nilChk rfl eV) ?_
  refine yf fo_125_1 ?_
  refine yl ag_22 1 ?_
  refine Y1 (Yv.subN_u64 rfl eV eV (fun hg => by omega)) ?_
  refine ya ?_
  refine AW.retype (k := 12) (t' := .v (.int .u64 (o : Int))) rfl (fun w L u h => by rw [← ho]; exact h) ?_
  refine AW.seq ?_
  refine rs (yf fo_31_0 ?_)
  refine yl ag_3 4 ?_
  refine Y1 (Yv.lss rfl eV eV) ?_
  refine ym ?_
  refine gF (Yv.fieldBox rfl fo_31_0 eV) ?_
  refine gF (Yv.loadBox rfl ag_3 (i := 4) rfl (Eg rfl rfl id) rfl) ?_
  refine gF (Yv.gtr rfl (Eg rfl rfl id) eV) ?_
  refine Y1 (Yv.pickOr (t := .const (.bool true)) rfl eV (Eg rfl rfl id)) ?_
  refine ym ?_
  refine gF (Yv.move rfl eV) ?_
  refine gF (Yv.move rfl eV) ?_
  refine gF (Yv.nilChk rfl (Eg rfl rfl id)) ?_
  refine gF (Yv.fieldBox rfl fo_125_0 (Eg rfl rfl id)) ?_
  refine gF (Yv.loadBox rfl ag_54 (i := 1) rfl (Eg rfl rfl id) rfl) ?_
  refine gF (Yv.lenSl rfl so_54 (B rfl) (Eg rfl rfl id) len_u8t) ?_
  refine gF (Yv.convN_u64 rfl Tryz.underlying3 kd_22 (Eg rfl rfl id) (fun hg => by first | omega | (simp only [Bool.and_eq_true, Bool.or_eq_false_iff, Bool.not_eq_true', Bool.not_eq_false', decide_eq_true_eq, decide_eq_false_iff_not] at hg; omega))) ?_
  refine gF (Yv.move rfl eV) ?_
  refine gF (Yv.subN_u64 rfl (Eg rfl rfl id) (Eg rfl rfl id) (fun hg => by first | omega | (simp only [Bool.and_eq_true, Bool.or_eq_false_iff, Bool.not_eq_true', Bool.not_eq_false', decide_eq_true_eq, decide_eq_false_iff_not] at hg; omega))) ?_
  refine gF (Yv.subN_u64 rfl (Eg rfl rfl id) (E rfl rfl) (fun hg => by first | omega | (simp only [Bool.and_eq_true, Bool.or_eq_false_iff, Bool.not_eq_true', Bool.not_eq_false', decide_eq_true_eq, decide_eq_false_iff_not] at hg; omega))) ?_
  refine gF (Yv.quoN_u64 rfl (Eg rfl rfl id) (E rfl rfl) (fun hg => by first | omega | (simp only [Bool.and_eq_true, Bool.or_eq_false_iff, Bool.not_eq_true', Bool.not_eq_false', decide_eq_true_eq, decide_eq_false_iff_not] at hg; omega))) ?_
  refine gF (Yv.gtr rfl (Eg rfl rfl id) (Eg rfl rfl id)) ?_
  refine Y1 (Yv.pickOr (t := .const (.bool true)) rfl eV (Eg rfl rfl id)) (nl ?_)
  refine AW.cond rfl (fun h2t => ?_) (fun h2f => ?_)
  ·try replace h2t := odt h2t
   exfalso
   try simp at h2t
   omega
  try replace h2f := odf h2f
  refine AW.skip ?_
  refine AW.seq ?_
  refine rs (ym (nl ?_))
  refine AW.cond rfl (fun h3t => ?_) (fun h3f => ?_)
  ·try replace h3t := odt h3t
   refine rs (ym ?_)
   refine Y1 (Yv.nilChk rfl eV) ?_
   refine yf fo_125_0 ?_
   refine yl ag_54 1 ?_
   refine ym ?_
   refine Y1 (Yv.addN_u64 rfl eV eV (fun hg => by omega)) ?_
   refine ym ?_
   refine Y1 (Yv.addN_u64 rfl eV eV (fun hg => by omega)) ?_
   refine ym ?_
   refine Y1 (Yv.addN_u64 rfl eV eV (fun hg => by omega)) ?_
   refine Y1 (Yv.sliceMap rfl ss_54 eV (Bound.some_ (j := o + 8) eV (fun hg => by omega)) (Bound.some_ (j := o + 8 + 4) eV (fun hg => by omega)) (fun hg => ⟨by omega, by omega⟩)) ?_
   refine Y1 (Yv.bytesStr rfl by_54 st_9 eV) ?_
   refine yf fo_31_2 ?_
   refine AWL.storeBox (i := 4) rfl rfl rfl ag_9 rfl (E rfl rfl) (E rfl rfl) rfl rfl nB (nl ?_)
   rw [show o + 8 + 4 - (o + 8) = 4 by omega, wk]
   refine AW.eqS (S' := (RK bm br b A c [kp]) ++ [.box b4 31 [zi 0, zi 0, sv [], .v (.slice none 0 0)], .box b8 31 [zi 2, zi 0, sv keptB, .v (.slice none 0 0)]]) rfl ?_
   refine rs (ym ?_)
   refine Y1 (Yv.addN_u64 rfl eV eV (fun hg => by omega)) ?_
   refine ym ?_
   refine Y1 (Yv.addN_u64 rfl eV eV (fun hg => by omega)) ?_
   refine ya ?_
   refine AW.retype (k := 13) (t' := .v (.int .u64 ((o + 12 + 0 : Nat) : Int))) rfl (fun w L u h => by rw [show ((o + 12 + 0 : Nat) : Int) = (o : Int) + 8 + 4 by omega]; exact h) ?_
   refine AW.block ?_
   refine AW.loop (fun (i : Nat) => [(0, true, pv br), (4, true, pv b4), (8, true, pv b8), (11, true, .v (.int .u64 1)), (12, true, .v (.int .u64 (o : Int))), (13, true, .v (.int .u64 ((o + 12 + i : Nat) : Int)))]) (fun (i : Nat) => ((RK bm br b A c [kp]) ++ [.box b4 31 [zi 0, zi 0, sv [], .v (.slice none 0 0)], .box b8 31 [zi 2, zi 0, sv keptB, .v (.slice none 0 0)]])) (fun (i : Nat) => i ≤ 4) (fun (i : Nat) => 4 - i) 0 ?_ ?_ ?_ ?_
   ·exact Nat.zero_le _
   ·exact (su (su (su (su (su (su sn))))))
   ·rfl
   intro i hinv
   refine AW.seq ?_
   refine rs (ym ?_)
   refine ym ?_
   refine Y1 (Yv.addN_u64 rfl eV eV (fun hg => by omega)) ?_
   refine ym ?_
   refine Y1 (Yv.mulN_u64 rfl eV eV (fun hg => by omega)) ?_
   refine Y1 (Yv.addN_u64 rfl eV eV (fun hg => by omega)) ?_
   refine Y1 (Yv.lss rfl eV eV) (nl ?_)
   refine AW.cond rfl (fun h4t => ?_) (fun h4f => ?_)
   ·try replace h4t := odt h4t
    refine AW.skip ?_
    refine AW.seq ?_
    refine AW.block ?_
    refine rs (ym ?_)
    refine Y1 (Yv.nilChk rfl eV) ?_
    refine yf fo_125_0 ?_
    refine yl ag_54 1 ?_
    refine ym ?_
    refine Y1 (Yv.indexSl (j := (o + 12 + i)) rfl ss_54 (B rfl) eV eV (fun hg => ⟨rfl, by simp only [len_u8t]; omega⟩)) ?_
    refine Y1 (Yv.loadRp rfl ag_5 eV (fun hg => u8_gett (by omega))) ?_
    refine Y1 (Yv.neq rfl eV eV) (nl ?_)
    refine AW.cond rfl (fun h5t => ?_) (fun h5f => ?_)
    ·try replace h5t := odt h5t
     exfalso
     rw [wz i (by omega)] at h5t
     exact absurd h5t (by decide)
    try replace h5f := odf h5f
    refine AW.skip ?_
    refine AW.region ?_
    refine ym ?_
    refine Y1 (Yv.addN_u64 rfl eV eV (fun hg => by omega)) ?_
    refine ya ?_
    refine ⟨i + 1, by omega, by omega, su (su (su (su (su (Sub.cons rfl (by congr 2) Sub.nil))))), rfl⟩
   try replace h4f := odf h4f
   obtain rfl : i = 4 := by omega
   refine AW.exit ?_
   refine rs (Y1 (Yv.loadBoxA rfl ag_31 (i := 4) rfl eV rfl rfl) ?_)
   refine AWL.callP rfl rfl (B rfl) rfl ce_23 (E rfl rfl) (evsC (E rfl rfl) evs0) (May23t keptB (by decide)) (fun t S h => h) ?_
   refine ya ?_
   refine rs (Y1 (Yv.loadBoxA rfl ag_31 (i := 4) rfl eV rfl rfl) ?_)
   refine ym ?_
   refine AWL.storeBox (i := 3) rfl rfl rfl ag_31 rfl (E rfl rfl) (E rfl rfl) rfl rfl nB ?_
   refine ya ?_
   refine AW.ret (retI (.cellA (i := 3) rfl ag_31 rfl rfl rfl (.tmp rfl .nil)) ?_)
   exact ⟨rfl, _, _, rfl⟩
  try replace h3f := odf h3f
  exact absurd h3f (by decide)
 try replace h1f := odf h1f
 exact absurd h1f (by decide)
theorem refAny (b : List UInt8) (kp : Int) (bm br : Nat) (A : Option Addr) (c : Nat) (h0 : 0 ≤ kp) (h1 : kp ≤ 18446744073709551615) (hx : kp % 2 = 0) (j : Nat) : ACalls Tryz.prog 48 [pv br, .v (.int .u64 (wsK kp j))] (RK bm br b A c (rowK kp j)) (fun t S => t = .agg (refK j) ∧ ∃ A' c' E, S = RK bm br b A' c' (rowK kp (j + 1)) ++ [E]) := by
 match j with
 | 0 => exact ref48n b kp bm br A c h0 h1 hx
 | n + 1 => exact (ref48s b kp bm br A c).mono fun t S ⟨h1, E, h2⟩ => ⟨h1, A, c, E, h2⟩
set_option maxHeartbeats 4000000 in
theorem Read30k (b : List UInt8) (kp : Int) (o : Nat) (ho : kp - 1073741824 = (o : Int)) (h0 : 0 ≤ kp) (h1 : kp ≤ 18446744073709551615) (hb : b.length ≤ 1099511627) (hk8 : kp % 8 = 0) (hol : o + 16 ≤ b.length) (w0_ : leN ((b.drop o).take 8) = 67108869) (wk : (b.drop (o + 8)).take 4 = keptB) (wz : ∀ i, i < 4 → b.getD (o + 12 + i) 0 = 0) :
    ACalls Tryz.prog 30 [u8s b, .v (.int .u64 1073741824), .sl 1 ((wsL kp).map zI)] [] (fun t_ S => t_ = .tup [.agg [.sl 4 keptC, .sl 2 (rootK 9)], zi 0]) := by
 refine ACalls.intro Tryz.func30 rfl Tryz.ntmps30 nB rfl fun X w0 => ?_
 refine rs ?_
 refine AWL.allocOp rfl rfl (B rfl) rfl zc_45 (fun b6 => ?_)
 refine ya ?_
 refine AW.seq ?_
 refine rs (ym ?_)
 refine Y1 (Yv.remN rfl eV eV (fun hg => by omega)) ?_
 refine Y1 (Yv.neq rfl eV eV) ?_
 refine ym ?_
 refine gF (Yv.move rfl eV) ?_
 refine gF (Yv.gtr rfl (Eg rfl rfl id) eV) ?_
 refine Y1 (Yv.pickOr (t := .const (.bool true)) rfl eV (Eg rfl rfl id)) ?_
 refine ym ?_
 refine gF (Yv.move rfl eV) ?_
 refine gF (Yv.lenSl rfl so_54 (B rfl) (Eg rfl rfl id) len_u8t) ?_
 refine gF (Yv.convN_u64 rfl Tryz.underlying3 kd_22 (Eg rfl rfl id) (fun hg => by first | omega | (simp only [Bool.and_eq_true, Bool.or_eq_false_iff, Bool.not_eq_true', Bool.not_eq_false', decide_eq_true_eq, decide_eq_false_iff_not] at hg; omega))) ?_
 refine gF (Yv.move rfl eV) ?_
 refine gF (Yv.subN_u64 rfl (E rfl rfl) (Eg rfl rfl id) (fun hg => by first | omega | (simp only [Bool.and_eq_true, Bool.or_eq_false_iff, Bool.not_eq_true', Bool.not_eq_false', decide_eq_true_eq, decide_eq_false_iff_not] at hg; omega))) ?_
 refine gF (Yv.gtr rfl (Eg rfl rfl id) (Eg rfl rfl id)) ?_
 refine Y1 (Yv.pickOr (t := .const (.bool true)) rfl eV (Eg rfl rfl id)) (nl ?_)
 refine AW.cond rfl (fun h0t => ?_) (fun h0f => ?_)
 ·try replace h0t := odt h0t
  exfalso
  try simp at h0t
  omega
 try replace h0f := odf h0f
 refine AW.skip ?_
 refine rs (ym ?_)
 refine ym ?_
 refine AWL.makeMapOp rfl rfl (B rfl) rfl (fun b32 => ?_)
 refine Y1 (Yv.buildS rfl sh_125 (evpC eV (evpC eV (evpC eV evp0))) (fun _ => rfl)) ?_
 refine AWL.boxOp rfl rfl (B rfl) rfl (E rfl rfl) rfl (fun b34 => ?_)
 refine ya ?_
 refine AW.rowNil 22 1 ?_
 refine AW.perm (List.perm_append_comm (l₁ := RK b32 b34 b none 0 []) (l₂ := [.box b6 45 [.v (.slice none 0 0), .v (.slice none 0 0)]])) ?_
 refine rs ?_
 refine AWL.allocOp rfl rfl (B rfl) rfl zc_45 (fun b9 => ?_)
 refine nl ?_
 refine AW.rowNil 28 2 ?_
 refine AW.seq ?_
 refine ra ?_
 refine AW.block ?_
 refine AW.loop5 (fun (j : Nat) (A1 : Option Addr) (c1 : Nat) (Ao : Option Addr) (co : Nat) => [(2, true, .sl 1 ((wsL kp).map zI)), (6, true, pv b6), (8, true, pv b34), (9, true, pv b9), (10, true, .v (.int .i64 (j : Int)))]) (fun (j : Nat) (A1 : Option Addr) (c1 : Nat) (Ao : Option Addr) (co : Nat) => ((RK b32 b34 b A1 c1 (rowK kp j)) ++ [.box b6 45 [.v (.slice none 0 0), .v (.slice none 0 0)], .box b9 45 [.v (.slice none 0 0), .v (.slice Ao j co)], .row Ao j co 28 2 (rootK j)])) (fun (j : Nat) (A1 : Option Addr) (c1 : Nat) (Ao : Option Addr) (co : Nat) => j ≤ 9) (fun (j : Nat) (A1 : Option Addr) (c1 : Nat) (Ao : Option Addr) (co : Nat) => 9 - j) 0 none 0 none 0 ?_ ?_ ?_ ?_
 ·exact Nat.zero_le _
 ·exact (su (su (su (su (su sn)))))
 ·rfl
 intro j A1 c1 Ao co hinv
 refine AW.seq ?_
 refine rs (ym ?_)
 refine ym ?_
 refine Y1 (Yv.lenSl rfl so_32 (B rfl) eV ws_lenK) ?_
 refine Y1 (Yv.lss rfl eV eV) (nl ?_)
 refine AW.cond rfl (fun h1t => ?_) (fun h1f => ?_)
 ·try replace h1t := odt h1t
  have hj : j < 9 := by omega
  refine AW.skip ?_
  refine AW.seq ?_
  refine AW.block ?_
  refine AW.mid1 (α := (Option Addr × Nat) × (Option Addr × Nat)) (fun q => [(2, true, .sl 1 ((wsL kp).map zI)), (6, true, pv b6), (8, true, pv b34), (9, true, pv b9), (10, true, .v (.int .i64 (j : Int)))]) (fun q => ((RK b32 b34 b q.1.1 q.1.2 (rowK kp (j + 1))) ++ [.box b6 45 [.v (.slice none 0 0), .v (.slice none 0 0)], .box b9 45 [.v (.slice none 0 0), .v (.slice q.2.1 (j + 1) q.2.2)], .row q.2.1 (j + 1) q.2.2 28 2 (rootK (j + 1))])) (fun _ => True) ?_ ?_
  ·refine AW.regionP rfl ?_
   refine T1 (i := 0) rfl (freeField rfl fo_45_1 (E rfl rfl)) ?_
   refine T1 (i := 2) rfl (freeMove rfl (E rfl rfl)) ?_
   refine T1 (i := 3) rfl (freeMove rfl (E rfl rfl)) ?_
   refine T1 (i := 4) rfl (freeMove rfl (E rfl rfl)) ?_
   refine AWP.two (i := 1) (j := 5) (by kernel_rfl) rfl rfl ?_ ?_
   ·refine yl ag_29 4 (nl ?_)
    refine p1 5 ?_
    refine Y1 (Yv.indexSl (j := j) rfl ss_32 (B rfl) eV eV (fun hg => ⟨rfl, by simp only [ws_lenK]; omega⟩)) (nl ?_)
    refine p1 6 ?_
    refine Y1 (Yv.loadRp rfl ag_22 eV (fun hg => ws_atK (by omega))) (nl ?_)
    refine p1 7 ?_
    refine C1 rfl ce_48 (E rfl rfl) (evsC (E rfl rfl) (evsC (E rfl rfl) evs0)) (S1 := (RK b32 b34 b A1 c1 (rowK kp j))) (S2 := _) rfl (refAny b kp b32 b34 A1 c1 h0 h1 (by omega) j) ?_
    rintro t48 S48 ⟨rfl, A48, c48, E48, rfl⟩
    refine AWL.dropAt 3 (nl ?_)
    refine p1 8 ?_
    refine AWL.buildSliceE rfl rfl (B rfl) rfl el_29 (B rfl) rfl (evsC (E rfl rfl) evs0) nB rfl rfl (nl ?_)
    refine p1 9 ?_
    refine AWL.appendRow (i := 5) rfl rfl (B rfl) rfl el_29 (B rfl) rfl (E rfl rfl) (SrcT.sl so_29 (B rfl) (E rfl rfl) rfl) (by unfold maxLen; omega) (by omega) (fun A50 c50 => ?_)
    refine nl ?_
    refine p1 10 ?_
    refine yf fo_45_1 (nl ?_)
    refine p1 11 ?_
    refine AWL.storeBox (i := 4) rfl rfl rfl ag_29 rfl (E rfl rfl) (E rfl rfl) rfl rfl nB (nl ?_)
    refine AWP.done (by kernel_rfl) ?_
    exact ⟨((A48, c48), (A50, c50)), trivial, su (su (su (su (su sn)))), rfl⟩
   refine Y1 (Yv.indexSl (j := j) rfl ss_32 (B rfl) eV eV (fun hg => ⟨rfl, by simp only [ws_lenK]; omega⟩)) (nl ?_)
   refine AWP.two (i := 1) (j := 6) (by kernel_rfl) rfl rfl ?_ ?_
   ·refine yl ag_29 4 (nl ?_)
    refine p1 6 ?_
    refine Y1 (Yv.loadRp rfl ag_22 eV (fun hg => ws_atK (by omega))) (nl ?_)
    refine p1 7 ?_
    refine C1 rfl ce_48 (E rfl rfl) (evsC (E rfl rfl) (evsC (E rfl rfl) evs0)) (S1 := (RK b32 b34 b A1 c1 (rowK kp j))) (S2 := _) rfl (refAny b kp b32 b34 A1 c1 h0 h1 (by omega) j) ?_
    rintro t48 S48 ⟨rfl, A48, c48, E48, rfl⟩
    refine AWL.dropAt 3 (nl ?_)
    refine p1 8 ?_
    refine AWL.buildSliceE rfl rfl (B rfl) rfl el_29 (B rfl) rfl (evsC (E rfl rfl) evs0) nB rfl rfl (nl ?_)
    refine p1 9 ?_
    refine AWL.appendRow (i := 5) rfl rfl (B rfl) rfl el_29 (B rfl) rfl (E rfl rfl) (SrcT.sl so_29 (B rfl) (E rfl rfl) rfl) (by unfold maxLen; omega) (by omega) (fun A50 c50 => ?_)
    refine nl ?_
    refine p1 10 ?_
    refine yf fo_45_1 (nl ?_)
    refine p1 11 ?_
    refine AWL.storeBox (i := 4) rfl rfl rfl ag_29 rfl (E rfl rfl) (E rfl rfl) rfl rfl nB (nl ?_)
    refine AWP.done (by kernel_rfl) ?_
    exact ⟨((A48, c48), (A50, c50)), trivial, su (su (su (su (su sn)))), rfl⟩
   refine Y1 (Yv.loadRp rfl ag_22 eV (fun hg => ws_atK (by omega))) (nl ?_)
   refine AWP.two (i := 1) (j := 7) (by kernel_rfl) rfl rfl ?_ ?_
   ·refine yl ag_29 4 (nl ?_)
    refine p1 7 ?_
    refine C1 rfl ce_48 (E rfl rfl) (evsC (E rfl rfl) (evsC (E rfl rfl) evs0)) (S1 := (RK b32 b34 b A1 c1 (rowK kp j))) (S2 := _) rfl (refAny b kp b32 b34 A1 c1 h0 h1 (by omega) j) ?_
    rintro t48 S48 ⟨rfl, A48, c48, E48, rfl⟩
    refine AWL.dropAt 3 (nl ?_)
    refine p1 8 ?_
    refine AWL.buildSliceE rfl rfl (B rfl) rfl el_29 (B rfl) rfl (evsC (E rfl rfl) evs0) nB rfl rfl (nl ?_)
    refine p1 9 ?_
    refine AWL.appendRow (i := 5) rfl rfl (B rfl) rfl el_29 (B rfl) rfl (E rfl rfl) (SrcT.sl so_29 (B rfl) (E rfl rfl) rfl) (by unfold maxLen; omega) (by omega) (fun A50 c50 => ?_)
    refine nl ?_
    refine p1 10 ?_
    refine yf fo_45_1 (nl ?_)
    refine p1 11 ?_
    refine AWL.storeBox (i := 4) rfl rfl rfl ag_29 rfl (E rfl rfl) (E rfl rfl) rfl rfl nB (nl ?_)
    refine AWP.done (by kernel_rfl) ?_
    exact ⟨((A48, c48), (A50, c50)), trivial, su (su (su (su (su sn)))), rfl⟩
   refine C1 rfl ce_48 (E rfl rfl) (evsC (E rfl rfl) (evsC (E rfl rfl) evs0)) (S1 := (RK b32 b34 b A1 c1 (rowK kp j))) (S2 := _) rfl (refAny b kp b32 b34 A1 c1 h0 h1 (by omega) j) ?_
   rintro t48 S48 ⟨rfl, A48, c48, E48, rfl⟩
   refine AWL.dropAt 3 (nl ?_)
   refine AWP.two (i := 1) (j := 8) (by kernel_rfl) rfl rfl ?_ ?_
   ·refine yl ag_29 4 (nl ?_)
    refine p1 8 ?_
    refine AWL.buildSliceE rfl rfl (B rfl) rfl el_29 (B rfl) rfl (evsC (E rfl rfl) evs0) nB rfl rfl (nl ?_)
    refine p1 9 ?_
    refine AWL.appendRow (i := 5) rfl rfl (B rfl) rfl el_29 (B rfl) rfl (E rfl rfl) (SrcT.sl so_29 (B rfl) (E rfl rfl) rfl) (by unfold maxLen; omega) (by omega) (fun A50 c50 => ?_)
    refine nl ?_
    refine p1 10 ?_
    refine yf fo_45_1 (nl ?_)
    refine p1 11 ?_
    refine AWL.storeBox (i := 4) rfl rfl rfl ag_29 rfl (E rfl rfl) (E rfl rfl) rfl rfl nB (nl ?_)
    refine AWP.done (by kernel_rfl) ?_
    exact ⟨((A48, c48), (A50, c50)), trivial, su (su (su (su (su sn)))), rfl⟩
   refine AWL.buildSliceE rfl rfl (B rfl) rfl el_29 (B rfl) rfl (evsC (E rfl rfl) evs0) nB rfl rfl (nl ?_)
   refine p1 1 ?_
   refine yl ag_29 4 (nl ?_)
   refine p1 9 ?_
   refine AWL.appendRow (i := 5) rfl rfl (B rfl) rfl el_29 (B rfl) rfl (E rfl rfl) (SrcT.sl so_29 (B rfl) (E rfl rfl) rfl) (by unfold maxLen; omega) (by omega) (fun A50 c50 => ?_)
   refine nl ?_
   refine p1 10 ?_
   refine yf fo_45_1 (nl ?_)
   refine p1 11 ?_
   refine AWL.storeBox (i := 4) rfl rfl rfl ag_29 rfl (E rfl rfl) (E rfl rfl) rfl rfl nB (nl ?_)
   refine AWP.done (by kernel_rfl) ?_
   exact ⟨((A48, c48), (A50, c50)), trivial, su (su (su (su (su sn)))), rfl⟩
  rintro ⟨qa, qo⟩ env1 hmid hsub1
  refine AW.weaken hsub1 ?_
  refine AW.region ?_
  refine ym ?_
  refine Y1 (Yv.addN_i64 rfl eV eV (fun hg => by omega)) ?_
  refine ya ?_
  refine ⟨j + 1, qa.1, qa.2, qo.1, qo.2, by omega, by omega, su (su (su (su (Sub.cons rfl (by simp) Sub.nil)))), rfl⟩
 try replace h1f := odf h1f
 obtain rfl : j = 9 := by omega
 refine AW.exit ?_
 refine AW.seq ?_
 refine AW.freezeCell 5 4 1 rfl (by decide) rfl rfl ?_
 refine ra ?_
 refine AW.rowNil 31 4 ?_
 refine AW.block ?_
 refine AW.loop3 (fun (k : Nat) (Ao : Option Addr) (co : Nat) => [(6, true, pv b6), (8, true, pv b34), (9, true, pv b9), (11, true, .v (.int .i64 (k : Int)))]) (fun (k : Nat) (Ao : Option Addr) (co : Nat) => ((RK b32 b34 b A1 c1 [kp]) ++ [.box b6 45 [.v (.slice none 0 0), .v (.slice none 0 0)], .box b9 45 [.v (.slice Ao k co), .sl 2 (rootK 9)], .row Ao k co 31 4 (thingsK k)])) (fun (k : Nat) (Ao : Option Addr) (co : Nat) => k ≤ 1) (fun (k : Nat) (Ao : Option Addr) (co : Nat) => 1 - k) 0 none 0 ?_ ?_ ?_ ?_
 ·exact Nat.zero_le _
 ·exact (su (su (su (su sn))))
 ·rfl
 intro k Ao co hinv
 refine AW.seq ?_
 refine rs (ym ?_)
 refine ym ?_
 refine Y1 (Yv.nilChk rfl eV) ?_
 refine yf fo_125_3 ?_
 refine yl ag_32 1 ?_
 refine Y1 (Yv.lenV rfl so_32 eV) ?_
 refine Y1 (Yv.lss rfl eV eV) (nl ?_)
 refine AW.cond rfl (fun h2t => ?_) (fun h2f => ?_)
 ·try replace h2t := odt h2t
  obtain rfl : k = 0 := by
   have : (k : Int) < 1 := h2t
   omega
  refine AW.skip ?_
  refine AW.seq ?_
  refine AW.block ?_
  refine rs (ym ?_)
  refine ym ?_
  refine Y1 (Yv.nilChk rfl eV) ?_
  refine yf fo_125_3 ?_
  refine yl ag_32 1 ?_
  refine ym ?_
  refine Y1 (Yv.indexRow (j := 0) rfl ss_32 (i := 2) rfl eV eV (fun hg => ⟨rfl, Nat.zero_lt_one⟩)) ?_
  refine Y1 (Yv.loadEp rfl ag_22 (i := 2) rfl eV (fun _ => rfl)) ?_
  refine C1 rfl ce_49 (E rfl rfl) (evsC (E rfl rfl) (evsC (E rfl rfl) evs0)) (S1 := (RK b32 b34 b A1 c1 [kp])) (S2 := _) rfl (thing49k b kp b32 b34 A1 c1 o ho h0 h1 hb hk8 hol w0_ wk wz) ?_
  rintro t70 S70 ⟨rfl, E70, F70, rfl⟩
  refine AWL.dropAt 4 (AWL.dropAt 3 ?_)
  refine ym ?_
  refine Y1 (Yv.extract rfl eV rfl) ?_
  refine Y1 (Yv.extract rfl eV rfl) ?_
  refine AWL.allocOp rfl rfl (B rfl) rfl zc_31 (fun b12 => ?_)
  refine AWL.storeBox (i := 6) rfl rfl rfl ag_31 rfl (E rfl rfl) (E rfl rfl) rfl rfl nB ?_
  refine ya ?_
  refine AW.seq ?_
  refine rs (ym ?_)
  refine Y1 (Yv.not rfl eV) (nl ?_)
  refine AW.cond rfl (fun h3t => ?_) (fun h3f => ?_)
  ·try replace h3t := odt h3t
   exact absurd h3t (by decide)
  try replace h3f := odf h3f
  refine AW.skip ?_
  refine AW.region ?_
  refine yf fo_45_0 ?_
  refine yl ag_43 4 ?_
  refine Y1 (Yv.loadBoxA rfl ag_31 (i := 6) rfl eV rfl rfl) ?_
  refine AWL.buildSliceE rfl rfl (B rfl) rfl el_43 (B rfl) rfl (evsC (E rfl rfl) evs0) nB rfl rfl ?_
  refine AWL.appendRow (i := 5) rfl rfl (B rfl) rfl el_43 (B rfl) rfl (E rfl rfl) (SrcT.sl so_43 (B rfl) (E rfl rfl) rfl) (by unfold maxLen; omega) (by omega) (fun A80 c80 => ?_)
  refine yf fo_45_0 ?_
  refine AWL.storeBox (i := 4) rfl rfl rfl ag_43 rfl (E rfl rfl) (E rfl rfl) rfl rfl nB (nl ?_)
  refine AW.dropAt 6 ?_
  refine AW.region ?_
  refine ym ?_
  refine Y1 (Yv.addN_i64 rfl eV eV (fun hg => by omega)) ?_
  refine ya ?_
  refine ⟨1, A80, c80, Nat.le_refl _, by omega, su (su (su (su sn))), rfl⟩
 try replace h2f := odf h2f
 obtain rfl : k = 1 := by
  have : ¬ (k : Int) < 1 := h2f
  omega
 refine AW.exit ?_
 refine AW.freezeCell 5 4 0 rfl (by decide) rfl rfl ?_
 refine rs (Y1 (Yv.loadBoxA rfl ag_45 (i := 4) rfl eV rfl rfl) ?_)
 refine AWL.storeBox (i := 3) rfl rfl rfl ag_45 rfl (E rfl rfl) (E rfl rfl) rfl rfl nB ?_
 refine ya ?_
 refine AW.ret (retI (.cellA (i := 3) rfl ag_45 rfl rfl rfl (.tmp rfl .nil)) ?_)
 rfl
open B
set_option maxRecDepth 100000
set_option maxHeartbeats 4000000 in
theorem begun7n (h : Wd64) (hh : h.toNat ≤ 1099511627776) :
    ACalls Tryz.prog 7 [zw h] [] (fun t S => ∃ L m2 q2 mR, t = .v (.pointer (some ⟨L.s, 0, none⟩)) ∧ L.bs.length = gcP.funs.length ∧ DEnd m2 mR ∧ Ended gcP h w00 (symS (stS h (smallB h) (fun _ => 0#64))).c 1#64 mR ∧ DRel m2 q2 ∧ (0 ≤ m2.c.steps ∧ m2.c.steps ≤ 8000000000000) ∧ S = DP L m2 q2) := by
 obtain ⟨mR, hRn, hRw, hRe⟩ := start_run (h := h) (w := w00) (m := (newM gcP h false w00)) (c := fun _ => 0#64) rfl rfl rfl rfl cells0
 have hRs := start_no (h := h) (w := w00) (m := (newM gcP h false w00)) (c := fun _ => 0#64) rfl rfl rfl rfl cells0
 refine ACalls.intro Tryz.func7 rfl Tryz.ntmps7 nB rfl fun X w0 => ?_
 refine ra ?_
 refine rs ?_
 refine cE ce_18 [] [] rfl rfl rfl (B.cProgram) ?_
 rintro t7 S7 ⟨rfl, rfl⟩
 refine AWL.allocOp rfl rfl (B rfl) rfl zc_56 (fun b3 => ?_)
 refine AWL.perm (List.perm_append_singleton _ _).symm ?_
 refine AWL.storeBox (i := 0) rfl rfl rfl ag_56 rfl (E rfl rfl) (E rfl rfl) rfl rfl nB (nl ?_)
 refine AW.seq ?_
 refine rs (Y1 (Yv.loadBoxA rfl ag_56 (i := 0) rfl eV rfl rfl) ?_)
 refine AWL.callT rfl rfl (B rfl) rfl ce_19 (E rfl rfl) (evsC (E rfl rfl) evs0) (checkGc) ?_
 rintro t9 S9 rfl
 refine Y1 (Yv.neq rfl eV eV) (nl ?_)
 refine AW.cond rfl (fun h0t => ?_) (fun h0f => ?_)
 ·try replace h0t := odt h0t
  cases h0t
 try replace h0f := odf h0f
 refine AW.skip ?_
 refine AW.mid (α := DLay × DQ) (fun y => [(0, true, zw h), (3, true, pv b3), (4, true, .v (.pointer (some ⟨y.1.s, 0, none⟩)))]) (fun y => DP y.1 (newM gcP h false w00) y.2 ++ [Ent.box b3 56 (progCells gcP)]) (fun y => y.1.bs.length = gcP.funs.length ∧ DRel (newM gcP h false w00) y.2) ?_ ?_
 ·refine AW.regionP rfl ?_
  refine T1 (i := 1) rfl (freeMove rfl (E rfl rfl)) ?_
  refine AWP.two (i := 0) (j := 2) (by kernel_rfl) rfl rfl ?_ ?_
  ·refine Y1 (Yv.loadBoxA rfl ag_56 (i := 0) rfl eV rfl rfl) (nl ?_)
   refine p1 2 ?_
   refine Y1 (Yv.buildS rfl sh_64 evp0 (fun _ => rfl)) (nl ?_)
   refine p1 3 ?_
   refine cE ce_21 [Ent.box b3 56 (progCells gcP)] [] rfl rfl rfl ((V.DNew21 [] [] (Nat.zero_le _) (fun x hx => by cases hx) (fun x hx => by cases hx)).le (.cons wt_le .refl)) ?_
   rintro t14 S14 ⟨db, ds, rfl, rfl, hds, hdo, hdt, hdn⟩
   refine nl ?_
   refine p1 4 ?_
   refine AWL.callE rfl rfl (B rfl) rfl ce_20 (E rfl rfl) (evsC (E rfl rfl) (evsC (E rfl rfl) (evsC (E rfl rfl) (evsC (E rfl rfl) evs0)))) (F1 := ([Ent.box b3 56 (progCells gcP)] ++ V.DSt db ds)) (S1 := []) (List.append_nil _).symm (DNew35 gcP h false db gc_in gc_ok) ?_
   rintro t15 S15 ⟨b20, b18, gl, cc, bs, g, c2, a, l, rfl, hbs, hlo, hlm, rfl⟩
   refine AWL.perm (S' := DP ⟨b20, gl, cc, b18, db, bs⟩ (newM gcP h false w00) ⟨g, c2, a, [], l, ds, false⟩ ++ [Ent.box b3 56 (progCells gcP)]) permN (nl ?_)
   refine p1 5 ?_
   refine ya ?_
   refine AWP.done (by kernel_rfl) ?_
   exact ⟨(⟨b20, gl, cc, b18, db, bs⟩, ⟨g, c2, a, [], l, ds, false⟩), ⟨hbs, ⟨rfl, hlo, hlm, side00 hds hdo hdt hdn⟩⟩, (su (su (su sn))), rfl⟩
  refine Y1 (Yv.buildS rfl sh_64 evp0 (fun _ => rfl)) (nl ?_)
  refine AWP.two (i := 0) (j := 3) (by kernel_rfl) rfl rfl ?_ ?_
  ·refine Y1 (Yv.loadBoxA rfl ag_56 (i := 0) rfl eV rfl rfl) (nl ?_)
   refine p1 3 ?_
   refine cE ce_21 [Ent.box b3 56 (progCells gcP)] [] rfl rfl rfl ((V.DNew21 [] [] (Nat.zero_le _) (fun x hx => by cases hx) (fun x hx => by cases hx)).le (.cons wt_le .refl)) ?_
   rintro t14 S14 ⟨db, ds, rfl, rfl, hds, hdo, hdt, hdn⟩
   refine nl ?_
   refine p1 4 ?_
   refine AWL.callE rfl rfl (B rfl) rfl ce_20 (E rfl rfl) (evsC (E rfl rfl) (evsC (E rfl rfl) (evsC (E rfl rfl) (evsC (E rfl rfl) evs0)))) (F1 := ([Ent.box b3 56 (progCells gcP)] ++ V.DSt db ds)) (S1 := []) (List.append_nil _).symm (DNew35 gcP h false db gc_in gc_ok) ?_
   rintro t15 S15 ⟨b20, b18, gl, cc, bs, g, c2, a, l, rfl, hbs, hlo, hlm, rfl⟩
   refine AWL.perm (S' := DP ⟨b20, gl, cc, b18, db, bs⟩ (newM gcP h false w00) ⟨g, c2, a, [], l, ds, false⟩ ++ [Ent.box b3 56 (progCells gcP)]) permN (nl ?_)
   refine p1 5 ?_
   refine ya ?_
   refine AWP.done (by kernel_rfl) ?_
   exact ⟨(⟨b20, gl, cc, b18, db, bs⟩, ⟨g, c2, a, [], l, ds, false⟩), ⟨hbs, ⟨rfl, hlo, hlm, side00 hds hdo hdt hdn⟩⟩, (su (su (su sn))), rfl⟩
  refine cE ce_21 [Ent.box b3 56 (progCells gcP)] [] rfl rfl rfl ((V.DNew21 [] [] (Nat.zero_le _) (fun x hx => by cases hx) (fun x hx => by cases hx)).le (.cons wt_le .refl)) ?_
  rintro t14 S14 ⟨db, ds, rfl, rfl, hds, hdo, hdt, hdn⟩
  refine nl ?_
  refine p1 0 ?_
  refine Y1 (Yv.loadBoxA rfl ag_56 (i := 0) rfl eV rfl rfl) (nl ?_)
  refine p1 4 ?_
  refine AWL.callE rfl rfl (B rfl) rfl ce_20 (E rfl rfl) (evsC (E rfl rfl) (evsC (E rfl rfl) (evsC (E rfl rfl) (evsC (E rfl rfl) evs0)))) (F1 := ([Ent.box b3 56 (progCells gcP)] ++ V.DSt db ds)) (S1 := []) (List.append_nil _).symm (DNew35 gcP h false db gc_in gc_ok) ?_
  rintro t15 S15 ⟨b20, b18, gl, cc, bs, g, c2, a, l, rfl, hbs, hlo, hlm, rfl⟩
  refine AWL.perm (S' := DP ⟨b20, gl, cc, b18, db, bs⟩ (newM gcP h false w00) ⟨g, c2, a, [], l, ds, false⟩ ++ [Ent.box b3 56 (progCells gcP)]) permN (nl ?_)
  refine p1 5 ?_
  refine ya ?_
  refine AWP.done (by kernel_rfl) ?_
  exact ⟨(⟨b20, gl, cc, b18, db, bs⟩, ⟨g, c2, a, [], l, ds, false⟩), ⟨hbs, ⟨rfl, hlo, hlm, side00 hds hdo hdt hdn⟩⟩, (su (su (su sn))), rfl⟩
 rintro ⟨L, q⟩ ⟨hbs, hq⟩
 refine rs (ym ?_)
 refine AWL.callF rfl rfl (B rfl) rfl ce_13 (E rfl rfl) (evsC (E rfl rfl) (evsC (E rfl rfl) (evsC (E rfl rfl) evs0))) (F1 := []) (S1 := (DP L (newM gcP h false w00) q)) (F2 := [Ent.box b3 56 (progCells gcP)]) rfl ((Call13n L gcP gc_ok gc_in (newM gcP h false w00) q rfl hq hbs nmStart [] 1 (by rw [gc_len]; decide) st_name st_no st_par (Nat.zero_le _) hh ⟨(by show (0 : Int) ≤ 0; decide), (by show (0 : Int) ≤ 4611686018427387904; decide)⟩ hRs).le (.cons .refl (.cons .refl (.cons nilW .refl)))) ?_
 rintro t18 S18 ⟨m2, q2, rfl, hde, hq2, rfl⟩
 refine ym ?_
 refine Y1 (Yv.extract rfl eV rfl) ?_
 refine Y1 (Yv.extract rfl eV rfl) ?_
 refine Y1 (Yv.assign rfl eV) ?_
 refine ya ?_
 have hN : 91 ≤ (mostF h).toNat := by unfold mostF; omega
 replace hde : DEnd m2 mR := by have := hRn _ hN; rw [← this]; exact hde
 have hst : m2.c.st = 3 := by rw [c_end hde]; exact hRe.st
 have hsr := steps_run (entM_ok (m := (newM gcP h false w00)) (n := 1) (args := []) gc_ok rfl (by rw [gc_len]; decide) st_par) (mostF h).toNat (by show (0 : Int) ≤ 0; decide)
 rw [hRn _ hN] at hsr
 have hmb := most_b hh
 refine AW.seq ?_
 refine rs (ym ?_)
 refine Y1 (Yv.not rfl eV) (nl ?_)
 refine AW.cond rfl (fun h1t => ?_) (fun h1f => ?_)
 ·try replace h1t := odt h1t
  exfalso; rw [hst] at h1t; cases h1t
 try replace h1f := odf h1f
 refine AW.skip ?_
 refine rs (ym ?_)
 refine ya ?_
 refine AW.drop (S' := DP L m2 q2) (List.sublist_append_left (DP L m2 q2) _) ?_
 refine AW.ret (retI (.tmp rfl .nil) ?_)
 refine ⟨L, m2, q2, mR, rfl, hbs, hde, hRe, hq2, ?_, rfl⟩
 rw [c_end hde]
 refine ⟨hsr.1, Int.le_trans hsr.2 ?_⟩
 show (0 : Int) + ((mostF h).toNat : Int) ≤ _
 unfold mostF
 omega
end Go.Proofs.YtpgbpdnmjeoeoaaGreat.G
namespace Go.Proofs.YtpgbpdnmjeoeoaaGreat.G
open Go Go.RowKit B
set_option maxRecDepth 100000
section
variable {L : DLay} {m : Mc} {q : DQ} {y n a : Wd64} {c c' : Nat → Wd64} {bd : Int}
theorem word_heap (hl : Live y c bd m q) (ha : 1073741824 ≤ a.toNat ∧ a.toNat + 8 ≤ 1073741824 + y.toNat) : wordM m a = leF m.mem a 8 := by
 unfold wordM
 rw [hl.prog, hl.heap, th_heap ha.1 ha.2]
 exact if_pos (show (sizeOk 8 && true) = true from rfl)
theorem hp_adr {i kp : Nat} (h : 1073741824 + 8 * i = kp) (hk : kp < 2000000000) : 1073741824#64 + wI ((8 * i : Nat) : Int) = BitVec.ofNat 64 kp := by
 apply BitVec.eq_of_toNat_eq
 rw [wI_ofNat, BitVec.toNat_add, BitVec.toNat_ofNat, BitVec.toNat_ofNat, BitVec.toNat_ofNat]
 omega
theorem live_seen (hK : LiveK y bd m q) (hy : 65536 ≤ y.toNat ∧ y.toNat < 105536) : ∃ i : Nat, i + 1 < m.c.heap.toNat / 8 ∧ hpW m i = 67108869#64 ∧ hpW m (i + 1) = 1953523051#64 ∧ wordM m 268435456#64 = wordM m 268435464#64 ∧
    (heldL m).map zw = (wsL (1073741824 + 8 * (i : Int))).map zI ∧ m.c.prog = gcP ∧ DRel m q ∧ m.c.heap = y := by
 obtain ⟨c, p, A, O, v, u, kp, g, gq, k, hl, K⟩ := hK
 have hp := K.hp
 have hk8 : kp % 8 = 0 ∧ 1073741824 ≤ kp ∧ kp + 16 ≤ 1073741824 + 12 * p := by
  have := K.kk
  have := K.ao
  have := K.v4
  have := K.u2
  omega
 have hp2 : 16 * p ≤ y.toNat := by omega
 obtain ⟨i, hi⟩ : ∃ i : Nat, 1073741824 + 8 * i = kp := ⟨(kp - 1073741824) / 8, by omega⟩
 have ek : (BitVec.ofNat 64 kp).toNat = kp := by rw [BitVec.toNat_ofNat]; omega
 have ek8 : (BitVec.ofNat 64 (kp + 8)).toNat = kp + 8 := by rw [BitVec.toNat_ofNat]; omega
 refine ⟨i, by rw [hl.heap]; omega, ?_, ?_, ?_, ?_, hl.prog, hl.rel, hl.heap⟩
 ·unfold hpW
  rw [hp_adr hi (by omega), word_heap hl (by rw [ek]; omega)]; exact K.m0
 ·unfold hpW
  rw [hp_adr (kp := kp + 8) (by omega) (by omega), word_heap hl (by rw [ek8]; omega)]; exact K.m1
 ·rw [word_live hl 0 (by decide) (by decide), word_live hl 1 (by decide) (by decide)]; exact K.c01
 have h3 : wordM m 268435480#64 = BitVec.ofNat 64 kp := by
  rw [word_live hl 3 (by decide) (by decide)]
  apply BitVec.eq_of_toNat_eq
  rw [K.c3, ek]
 have hr : (List.range 8).map (fun (i : Nat) => wordM m (268435488#64 + 16#64 * wI (i : Int) + 8#64)) = List.replicate 8 1#64 := by
  refine List.eq_replicate_iff.2 ⟨by simp, fun b hb => ?_⟩
  obtain ⟨j, hj, rfl⟩ := List.mem_map.1 hb
  have hj8 := List.mem_range.1 hj
  rw [word_live hl (5 + 2 * j) (by omega) (exn_at hj8).2]
  exact K.ex j hj8
 unfold heldL
 rw [h3, hr]
 show zw _ :: _ = zI _ :: _
 refine List.cons_eq_cons.2 ⟨?_, rfl⟩
 unfold zw
 rw [ek, ← hi]
 rfl
/-! ### the first thing -/
theorem ls_live_n (hbs : L.bs.length = gcP.funs.length) (hL : Live y c bd m q) (hy : 65536 ≤ y.toNat ∧ y.toNat < 105536) (hB : bd ≤ 4000000000000000000) (hI : Idle y 0#64 c) (hn : n.toNat ≤ 8192) :
    ACalls Tryz.prog 13 [.v (.pointer (some ⟨L.s, 0, none⟩)), sv nmAlloc, .sl 1 ([n].map zw)] (DP L m q) (fun t S => ∃ m3 q3, t = .tup [zw (1073741824#64), bv true] ∧ Live y (updC c 33 (c 33 + n)) (bd + 1000000) m3 q3 ∧ S = DP L m3 q3) := by
 have hi := ent_is hL.prog hL.heap hL.strict hL.w hL.c (n := 2) (vs := [.wd n]) (of_decide_eq_true (by kernel_rfl))
 have hr := ls_some y n c
 have ho := ls_obs hy hI hn
 have hk := ls_at y n c
 obtain ⟨m1, r1, i1⟩ := srun_ok (RF := realF) gc_z hi hr ho
 obtain ⟨mR, r2, e2⟩ := ret_end (RF := realF) i1 hk.1 hk.2.1 hk.2.2
 replace r1 : ∀ N, runM realF (N + 14) (entM m 2 [n]) = runM realF N m1 := r1
 have hend : ∀ N, 15 ≤ N → runM realF N (entM m 2 [n]) = mR := fun N hN => by
  rw [show N = (N - 15 + 1) + 14 by omega, r1, r2]
 have hno : NoSys gcP (entM m 2 [n]) := fun j hst => by
  rcases Nat.lt_trichotomy j 14 with z | z | z
  ·exact srun_no gc_z hi hr ho j z
  ·have e := r1 0
   rw [Nat.zero_add] at e
   rw [z]
   show (insOf gcP (advM (runM realF 14 (entM m 2 [n]))).x).kind ≠ 30
   rw [e]
   have hI := (adv_is i1).2
   rw [i1.prog] at hI
   show (insOf gcP (advM m1).x).kind ≠ 30
   rw [hI, hk.1]
   decide
  ·rw [hend j (by omega), e2.st] at hst
   cases hst
 rw [ls_c, show (SV.wd (c 33)).val = 1073741824#64 from hI.nn] at e2
 exact (call_live_n hbs hL hy.2 hB nmAlloc [n] 2 15 _ (by rw [gc_len]; decide) (by kernel_rfl) (by kernel_rfl) (by kernel_rfl) (Nat.le_of_ble_eq_true rfl) (by decide) hend hno e2).mono fun t S ⟨m3, q3, h1, h2, _, h4⟩ => ⟨m3, q3, h1, h2, h4⟩
theorem first_kp (hy : 65536 ≤ y.toNat ∧ y.toNat < 105536) {A O : Nat} (hI : Idle y 0#64 c) (h35 : (c 35).toNat = A) (h38 : (c 38).toNat = O) (h39 : (c 39).toNat = 1073741824 + 10 * (y.toNat / 128 * 8)) (ao : (A = 1073741824 + 2 * (y.toNat / 128 * 8) ∧ O = 1073741824 + 6 * (y.toNat / 128 * 8)) ∨ (A = 1073741824 + 6 * (y.toNat / 128 * 8) ∧ O = 1073741824 + 2 * (y.toNat / 128 * 8)))
    {mf : Mf} (m0 : leF mf 1073741824#64 8 = 67108869#64) (m1 : leF mf 1073741832#64 8 = 1953523051#64) : Kp y (updC (updC c 33 (c 33 + 16#64)) 3 1073741824#64) mf (y.toNat / 128 * 8) A O 0 16 1073741824 0 0 0 0 := by
 have hp := prt_n (y := y) (by omega)
 have h33 : c 33 = 1073741824#64 := hI.nn.trans (by decide)
 have e47 : (c 47).toNat = 4 * (y.toNat / 128 * 8) := by
  rw [hI.hf, BitVec.toNat_mul, hp, show (4#64 : Wd64).toNat = 4 from rfl]
  omega
 refine ⟨rfl, ao, ?_, ?_, fun j hj => ?_, ?_, ?_, ?_, ?_, ?_, ?_, ?_, ?_, ?_, ?_, by decide, by omega, by decide, by omega, .inl rfl, .inl ⟨rfl, by decide, .inl ⟨rfl, rfl⟩⟩, m0, m1⟩ <;> (repeat rw [updC_ne _ _ (by omega)])
 ·exact hI.top
 ·rw [updC_eq]; rfl
 ·exact hI.exns j hj
 ·rw [hI.nb]; rfl
 ·rw [updC_eq, h33]; rfl
 ·rw [hI.ne, BitVec.toNat_add, BitVec.toNat_mul, hp, show (2#64 : Wd64).toNat = 2 from rfl, show (1073741824#64 : Wd64).toNat = 1073741824 from rfl]
  omega
 ·exact h35
 ·rw [hI.on, h35]; rfl
 ·rw [hI.oe, add_n (by rw [h35, e47]; omega), h35, e47]
 ·exact h38
 ·exact h39
 ·rw [hI.mke, h39]; rfl
 exact e47
theorem first_live (hy : 65536 ≤ y.toNat ∧ y.toNat < 105536) {b : Bool} {m0 : Mc} (hm : m = storeM (layM m0 1) 268435480#64 1073741824#64) (hL : Live y (updC (updC (symS (stS y b (fun _ => 0#64))).c 33 ((symS (stS y b (fun _ => 0#64))).c 33 + 16#64)) 3 1073741824#64) bd m q) : LiveK y bd m q := by
 obtain ⟨f32, f34, f36, f37, f38, f39, f40, f47⟩ := st_more y b (fun _ => 0#64)
 have hI := st_idle (y := y) (c := fun _ => 0#64) b
 have hp := prt_n (y := y) (by omega)
 have e35 : ((symS (stS y b (fun _ => 0#64))).c 35).toNat = 1073741824 + 2 * (y.toNat / 128 * 8) := by
  rw [← hI.on, f36, BitVec.toNat_add, BitVec.toNat_mul, hp, show (2#64 : Wd64).toNat = 2 from rfl, show (1073741824#64 : Wd64).toNat = 1073741824 from rfl]
  omega
 have e38 : ((symS (stS y b (fun _ => 0#64))).c 38).toNat = 1073741824 + 6 * (y.toNat / 128 * 8) := by
  rw [f38]
  simp only [BitVec.toNat_add, BitVec.toNat_mul, BitVec.toNat_ofNat, hp]
  omega
 have e39 : ((symS (stS y b (fun _ => 0#64))).c 39).toNat = 1073741824 + 10 * (y.toNat / 128 * 8) := by
  rw [f39]
  simp only [BitVec.toNat_add, BitVec.toNat_mul, BitVec.toNat_ofNat, hp]
  omega
 have hmm : m.mem = putsF (putsF (putsF m0.mem 1073741824#64 67108869#64 8) 1073741832#64 1953523051#64 8) 268435480#64 1073741824#64 8 := by rw [hm]; rfl
 refine ⟨_, _, _, _, _, _, _, _, _, _, hL, first_kp hy hI e35 e38 e39 (.inl ⟨rfl, rfl⟩) ?_ ?_⟩
 ·rw [hmm, far_le (.inl (by decide)) (by decide) (by decide), far_le (.inr (by decide)) (by decide) (by decide), self_le (by decide)]
 rw [hmm, far_le (.inl (by decide)) (by decide) (by decide), self_le (by decide)]
theorem LiveK.rel (h : LiveK y bd m q) : m.c.prog = gcP ∧ DRel m q := by
 obtain ⟨c, p, A, O, v, u, kp, g, gq, k, hl, _⟩ := h
 exact ⟨hl.prog, hl.rel⟩
/-! ### sizes -/
def hQ (y : Wd64) : Int := ((y.toNat / 4 : Nat) : Int) - 512
theorem hQ_eq (hy : 65536 ≤ y.toNat ∧ y.toNat < 105536) : IntKind.i64.wrap (((y / 4#64 - 512#64 : Wd64).toNat : Nat) : Int) = hQ y := by
 have e : (y / 4#64 - 512#64 : Wd64).toNat = y.toNat / 4 - 512 := by
  rw [sub_n (by rw [BitVec.toNat_udiv]; show 512 ≤ y.toNat / 4; omega), BitVec.toNat_udiv]; rfl
 rw [e, IntWalk.i64_in _ (by omega)]
 unfold hQ
 omega
theorem hQ_8 (hy : 65536 ≤ y.toNat ∧ y.toNat < 105536) : IntKind.i64.wrap ((hQ y).tdiv 8) = hQ y / 8 := by
 have h : 0 ≤ hQ y := by unfold hQ; omega
 have h2 : hQ y ≤ 1048576 := by unfold hQ; omega
 rw [Int.tdiv_eq_ediv_of_nonneg h, IntWalk.i64_in _ (by omega)]
theorem kz_wrap {z : Int} (hy : 65536 ≤ y.toNat ∧ y.toNat < 105536) (h0 : 0 ≤ z) (h1 : z < hQ y / 8) : IntKind.i64.wrap (8 + IntKind.i64.wrap (8 * z)) = 8 + 8 * z := by
 unfold hQ at h1
 rw [IntWalk.i64_in (8 * z) (by omega), IntWalk.i64_in _ (by omega)]
theorem kz_n {z : Int} (hy : 65536 ≤ y.toNat ∧ y.toNat < 105536) (h0 : 0 ≤ z) (h1 : z < hQ y / 8) : (wI (8 + 8 * z)).toNat % 8 = 0 ∧ 8 ≤ (wI (8 + 8 * z)).toNat ∧ (wI (8 + 8 * z)).toNat + 16 ≤ 4 * (y.toNat / 128 * 8) := by
 have h := wI_nat (8 + 8 * z)
 rw [wrap_u64] at h
 unfold hQ at h1
 omega
theorem hd_eq {n : Wd64} (h : 8 ≤ n.toNat ∧ n.toNat ≤ 1048576) : 5#64 + (n - 8#64) <<< (24 : Nat) = BitVec.ofNat 64 (hdN n.toNat) := by
 apply BitVec.eq_of_toNat_eq
 have e : (n - 8#64).toNat = n.toNat - 8 := sub_n h.1
 have r : (BitVec.ofNat 64 (hdN n.toNat)).toNat = hdN n.toNat := by rw [BitVec.toNat_ofNat]; unfold hdN; omega
 rw [r, BitVec.toNat_add, BitVec.toNat_shiftLeft, e, Nat.shiftLeft_eq]
 unfold hdN
 show (5 + _) % _ = _
 omega
theorem gave_f {n a : Wd64} (hy : 65536 ≤ y.toNat ∧ y.toNat < 105536) (ha : a.toNat % 8 = 0 ∧ 1073741824 ≤ a.toNat ∧ a.toNat + n.toNat ≤ 1073741824 + 10 * (y.toNat / 128 * 8)) : a % 8#64 = 0#64 ∧ ¬ a < 1073741824#64 ∧ ¬ y - n < a - 1073741824#64 := by
 refine ⟨?_, ?_, ?_⟩
 ·apply BitVec.eq_of_toNat_eq
  rw [BitVec.toNat_umod]
  exact ha.1
 ·rw [BitVec.lt_def]
  show ¬ (_ < 1073741824)
  omega
 rw [BitVec.lt_def, sub_n (by omega), sub_n (by exact ha.2.1)]
 show ¬ (y.toNat - n.toNat < a.toNat - 1073741824)
 omega
theorem last_n {n a : Wd64} (hn : 8 ≤ n.toNat) (ha : 1073741824 ≤ a.toNat ∧ a.toNat + n.toNat ≤ 1073741824 + 10 * (y.toNat / 128 * 8)) (hy : y.toNat < 105536) : 1073741824 ≤ (a + n - 8#64).toNat ∧ (a + n - 8#64).toNat + 8 ≤ 1073741824 + 10 * (y.toNat / 128 * 8) := by
 have e1 : (a + n).toNat = a.toNat + n.toNat := add_n (by omega)
 have e2 : (a + n - 8#64).toNat = a.toNat + n.toNat - 8 := by rw [sub_n (by rw [e1]; show 8 ≤ _; omega), e1]; rfl
 omega
end
open B
set_option maxRecDepth 100000
theorem held_k {L : DLay} {m : Mc} {q : DQ} {kp : Int} (hpr : m.c.prog = gcP) (hq : DRel m q) (hT : wordM m 268435456#64 = wordM m 268435464#64) (hh : (heldL m).map zw = (wsL kp).map zI) : ACalls Tryz.prog 10 [pv L.s] (DP L m q) (fun t S => t = .sl 1 ((wsL kp).map zI) ∧ S = DP L m q) :=
 (Held10 L gcP gc_ok gc_in m q hpr hq hT).mono fun t S h => ⟨h.1.trans (by rw [hh]), h.2⟩
set_option maxHeartbeats 4000000 in
theorem Graph16k (L : DLay) (m : Mc) (q : DQ) (y : Wd64) (bd : Int) (hK : LiveK y bd m q) (hy : 65536 ≤ y.toNat ∧ y.toNat < 105536) :
    ACalls Tryz.prog 16 [pv L.s] (DP L m q) (fun t S => t = .tup [.agg [.sl 4 keptC, .sl 2 (rootK 9)], zi 0] ∧ ∃ E, S = E :: DP L m q) := by
 obtain ⟨i, hi, h0, h1, hT, hheld, hpr, hrel, hhe⟩ := live_seen hK hy
 have hy2 : m.c.heap.toNat < 105536 := by rw [hhe]; exact hy.2
 obtain ⟨k1, k2, k3⟩ := kept_at hi h0 h1
 refine ACalls.intro Tryz.func16 rfl Tryz.ntmps16 nB rfl fun X w0 => ?_
 refine rs ?_
 refine AWL.allocOp rfl rfl (B rfl) rfl zc_45 (fun b2 => ?_)
 refine ya ?_
 refine AW.perm (List.perm_append_singleton _ _).symm ?_
 refine rs (ym ?_)
 refine cE ce_31 [Ent.box b2 45 [.v (.slice none 0 0), .v (.slice none 0 0)]] (DP L m q) rfl rfl rfl (Bytes31 L m q hpr hrel hy2) ?_
 rintro t5 S5 ⟨rfl, rfl⟩
 refine ym ?_
 refine cE ce_10 [Ent.box b2 45 [.v (.slice none 0 0), .v (.slice none 0 0)]] (DP L m q) rfl rfl rfl (held_k hpr hrel hT hheld) ?_
 rintro t7 S7 ⟨rfl, rfl⟩
 refine AWL.callT rfl rfl (B rfl) rfl ce_30 (E rfl rfl) (evsC (E rfl rfl) (evsC (E rfl rfl) (evsC (E rfl rfl) evs0))) (Read30k (heapB m (m.c.heap.toNat / 8)) (1073741824 + 8 * (i : Int)) (8 * i) (by omega) (by omega) (by omega) (by rw [heapB_len]; omega) (by omega) (by rw [heapB_len]; omega) k1 k2 k3) ?_
 rintro t8 S8 rfl
 refine Y1 (Yv.extract rfl eV rfl) ?_
 refine Y1 (Yv.extract rfl eV rfl) ?_
 refine AWL.storeBox (i := 0) rfl rfl rfl ag_45 rfl (E rfl rfl) (E rfl rfl) rfl rfl nB ?_
 refine ya ?_
 refine AW.ret (retI (.cellA (i := 0) rfl ag_45 rfl rfl rfl (.tmp rfl .nil)) ?_)
 exact ⟨rfl, _, rfl⟩
open B
set_option maxRecDepth 100000
theorem si_len {sz : List Int} : (sz.map zi).length = sz.length * 1 := by rw [List.length_map, Nat.mul_one]
theorem si_at {sz : List Int} {j : Nat} (h : j < sz.length) : (sz.map zi)[j * 1 + 0]? = some (zi (sz.getD j 0)) := by
 rw [Nat.mul_one, Nat.add_zero, List.getElem?_map, List.getElem?_eq_getElem h]
 simp [h]
theorem kc_len : keptC.length = 1 * 4 := rfl
theorem header5 : ACalls Tryz.prog 9 [.agg [zi 2, zi 0, sv [], .v (.slice none 0 0)]] [] (fun t S => t = zw 5#64) := (Header9t [] (by decide)).mono fun t S h => h.trans (by kernel_rfl)
set_option maxHeartbeats 8000000 in
theorem GcrtGives4 (sz : List Int) (n many : Int) (h0 : -9223372036854775808 ≤ n) (h1 : n ≤ 9223372036854775807) (h2 : -9223372036854775808 ≤ many) (h3 : many ≤ 9223372036854775807) (hsl : sz.length ≤ 1048576) (hsr : ∀ z ∈ sz, -9223372036854775808 ≤ z ∧ z ≤ 9223372036854775807) :
    ACalls Tryz.prog 4 [zi n, .sl 1 (sz.map zi), zi many] [] (fun t S => t = bv true) := by
 have hz := size_n n
 have hz2 : 65536 ≤ (sizeG n).toNat ∧ (sizeG n).toNat < 105536 := hz
 have hy : (sizeG n).toNat ≤ 1099511627776 := by omega
 have hpk := pick_in many (n := 400) (by decide)
 refine ACalls.intro Tryz.func4 rfl Tryz.ntmps4 nB rfl fun X w0 => ?_
 refine ra ?_
 refine rs (ym ?_)
 refine AWL.callT rfl rfl (B rfl) rfl ce_11 (E rfl rfl) (evsC (E rfl rfl) evs0) (size11 n h0 h1) ?_
 rintro t21 S21 rfl
 refine ya ?_
 refine rs (ym ?_)
 refine cA ce_7 rfl rfl rfl (begun7n (sizeG n) hy) ?_
 rintro t23 S23 ⟨L, m2, q2, mR, rfl, hbs, hde, hRe, hq2, hst2, rfl⟩
 refine ya ?_
 refine AW.seq ?_
 refine rs (ym ?_)
 refine Y1 (Yv.eqlNilP rfl pn_23 eV) (nl ?_)
 refine AW.cond rfl (fun h0t => ?_) (fun h0f => ?_)
 ·try replace h0t := odt h0t
  cases h0t
 try replace h0f := odf h0f
 refine AW.skip ?_
 refine AW.seq ?_
 refine rs (ym ?_)
 refine Y1 (Yv.lenSl rfl so_35 (B rfl) eV si_len) ?_
 refine Y1 (Yv.eql rfl eV eV) (nl ?_)
 refine AW.cond rfl (fun h1t => ?_) (fun h1f => ?_)
 ·try replace h1t := odt h1t
  refine ra ?_
  refine AW.ret (retI (.tmp rfl .nil) ?_)
  rfl
 try replace h1f := odf h1f
 refine AW.skip ?_
 refine rs (ym ?_)
 refine AWL.callT rfl rfl (B rfl) rfl ce_12 (E rfl rfl) (evsC (E rfl rfl) (evsC (E rfl rfl) evs0)) (pick12 many 400 h2 h3 (by decide)) ?_
 rintro t30 S30 rfl
 refine ya ?_
 have hL0 := Live.of hde hRe hq2 hst2
 have hI0 : Idle (sizeG n) 0#64 (symS (stS (sizeG n) (smallB (sizeG n)) (fun _ => 0#64))).c := st_idle _
 refine rs (Y1 (Yv.buildS rfl sh_31 (evpC eV (evpC eV evp0)) (fun _ => rfl)) ?_)
 refine AWL.allocOp rfl rfl (B rfl) rfl zc_31 (fun b10 => ?_)
 refine AWL.perm (List.perm_append_singleton _ _).symm ?_
 refine AWL.storeBox (i := 0) rfl rfl rfl ag_31 rfl (E rfl rfl) (E rfl rfl) rfl rfl nB (nl ?_)
 refine rs (ym ?_)
 refine AWL.buildSlice1 rfl rfl (B rfl) rfl el_32 rfl (evsC (E rfl rfl) evs0) nB rfl rfl ?_
 refine cE ce_13 [Ent.box b10 31 keptC] (DP L m2 q2) rfl rfl rfl (ls_live_n (n := 16#64) hbs hL0 hz2 (by omega) hI0 (by decide)) ?_
 rintro t35 S35 ⟨m3, q3, rfl, hL3, rfl⟩
 refine ym ?_
 refine Y1 (Yv.extract rfl eV rfl) ?_
 refine Y1 (Yv.extract rfl eV rfl) ?_
 refine Y1 (Yv.assign rfl eV) ?_
 refine ya ?_
 refine AW.seq ?_
 refine rs (ym ?_)
 refine Y1 (Yv.not rfl eV) ?_
 refine ym ?_
 refine AWL.unguard rfl rfl rfl rfl ?_
 refine ym ?_
 refine AWL.unguard rfl rfl rfl rfl ?_
 refine ym ?_
 refine AWL.unguard rfl rfl rfl rfl ?_
 refine Y1 (Yv.loadBoxA rfl ag_31 (i := 0) rfl eV rfl rfl) ?_
 refine AWL.unguard rfl rfl rfl rfl ?_
 refine cE ce_14 [Ent.box b10 31 keptC] (DP L m3 q3) rfl rfl rfl (Lay14k L m3 q3 (sizeG n) _ _ hL3 hz2) ?_
 rintro t44 S44 ⟨q4, rfl, hL4, rfl⟩
 refine AWL.unguard rfl rfl rfl rfl ?_
 refine Y1 (Yv.not rfl eV) ?_
 refine Y1 (Yv.pickOr (t := .const (.bool true)) rfl eV eV) (nl ?_)
 refine AW.cond rfl (fun h2t => ?_) (fun h2f => ?_)
 ·try replace h2t := odt h2t
  exact absurd (show (false : Bool) = true from h2t) (by decide)
 try replace h2f := odf h2f
 refine AW.skip ?_
 refine rs (ym ?_)
 refine ym ?_
 refine cE ce_15 [Ent.box b10 31 keptC] (DP L (layM m3 1) q4) rfl rfl rfl (cell_store hL4 1073741824#64 268435480#64 3 (by decide) (by decide)) ?_
 rintro t49 S49 ⟨q5, rfl, hL5, rfl⟩
 refine nl ?_
 have hK5 := first_live hz2 rfl hL5
 refine AW.seq ?_
 refine ra ?_
 refine AW.block ?_
 refine AW.loop3 (fun (i : Nat) (mi : Mc) (qi : DQ) => [(1, true, .sl 1 (sz.map zi)), (7, true, zw (sizeG n)), (8, true, .v (.pointer (some ⟨L.s, 0, none⟩))), (9, true, zi (pickF many 400)), (13, true, zi (i : Int))]) (fun (i : Nat) (mi : Mc) (qi : DQ) => ([Ent.box b10 31 keptC] ++ DP L mi qi)) (fun (i : Nat) (mi : Mc) (qi : DQ) => LiveK (sizeG n) (8000001000000 + 1000000 * (i : Int)) mi qi ∧ (i : Int) ≤ pickF many 400) (fun (i : Nat) (mi : Mc) (qi : DQ) => (pickF many 400).toNat - i) 0 ((storeM (layM m3 1) 268435480#64 1073741824#64)) q5 ?_ ?_ ?_ ?_
 ·exact ⟨by simpa using hK5, by omega⟩
 ·exact (su (su (su (su (su sn)))))
 ·rfl
 intro i mi qi ⟨hKi, hib⟩
 refine AW.seq ?_
 refine rs (ym ?_)
 refine ym ?_
 refine Y1 (Yv.lss rfl eV eV) (nl ?_)
 refine AW.cond rfl (fun h3t => ?_) (fun h3f => ?_)
 ·try replace h3t := odt h3t
  refine AW.skip ?_
  refine AW.seq ?_
  refine AW.block ?_
  have hlen : 0 < sz.length := by omega
  have hmod : i % sz.length < sz.length := Nat.mod_lt _ hlen
  have hq8 : 0 < hQ (sizeG n) / 8 := by unfold hQ; omega
  obtain ⟨pk0, pk1⟩ := pick_in (sz.getD (i % sz.length) 0) hq8
  obtain ⟨hk8, hk1, hk4⟩ := kz_n hz2 pk0 pk1
  refine rs (ym ?_)
  refine ym ?_
  refine ym ?_
  refine Y1 (Yv.lenSl rfl so_35 (B rfl) eV si_len) ?_
  refine Y1 (Yv.remN rfl eV eV (fun hg => by omega)) ?_
  refine Y1 (Yv.indexSl (j := (i % sz.length)) rfl ss_35 (B rfl) eV eV (fun hg => ⟨by simp, by simp only [si_len]; omega⟩)) ?_
  refine Y1 (Yv.loadRp rfl ag_3 eV (fun hg => si_at hmod)) ?_
  refine ym ?_
  refine Y1 (Yv.quoW (b := 4#64) rfl (E rfl rfl) (E rfl rfl) (by decide)) ?_
  refine Y1 (Yv.subW (b := 512#64) rfl eV eV) ?_
  refine Y1 (Yv.conv rfl Tryz.underlying22 kd_3 eV) ?_
  refine AWL.retype (k := 65) (t' := zi (hQ (sizeG n))) rfl (fun w L u h => by rw [← hQ_eq hz2]; exact h) ?_
  refine Y1 (Yv.quo rfl eV eV (fun hg => by omega)) ?_
  refine AWL.retype (k := 66) (t' := zi (hQ (sizeG n) / 8)) rfl (fun w L u h => by rw [← hQ_8 hz2]; exact h) ?_
  refine AWL.callT rfl rfl (B rfl) rfl ce_12 (E rfl rfl) (evsC (E rfl rfl) (evsC (E rfl rfl) evs0)) (pick12 (sz.getD (i % sz.length) 0) (hQ (sizeG n) / 8) (hsr _ (getD_mem hmod)).1 (hsr _ (getD_mem hmod)).2 hq8) ?_
  rintro t67 S67 rfl
  refine Y1 (Yv.mul rfl eV eV) ?_
  refine Y1 (Yv.add rfl eV eV) ?_
  refine Y1 (Yv.convW rfl Tryz.underlying3 kd_22 eV) ?_
  refine AWL.retype (k := 70) (t' := zw (wI (8 + 8 * (pickF (sz.getD (i % sz.length) 0) (hQ (sizeG n) / 8))))) rfl (fun w L u h => by rw [← kz_wrap hz2 pk0 pk1]; exact h) ?_
  refine ya ?_
  refine rs (ym ?_)
  refine ym ?_
  refine AWL.buildSlice1 rfl rfl (B rfl) rfl el_32 rfl (evsC (E rfl rfl) evs0) nB rfl rfl ?_
  refine cE ce_13 [Ent.box b10 31 keptC] (DP L mi qi) rfl rfl rfl (al_live (n := (wI (8 + 8 * (pickF (sz.getD (i % sz.length) 0) (hQ (sizeG n) / 8))))) hbs hKi hz2 (by omega) hk8 hk1 hk4) ?_
  rintro t75 S75 ⟨m6, q6, a, rfl, ha, hG, rfl⟩
  refine ym ?_
  refine Y1 (Yv.extract rfl eV rfl) ?_
  refine Y1 (Yv.extract rfl eV rfl) ?_
  refine Y1 (Yv.assign rfl eV) ?_
  refine ya ?_
  refine AW.seq ?_
  obtain ⟨g1, g2, g3⟩ := gave_f hz2 ha
  refine rs (ym ?_)
  refine Y1 (Yv.not rfl eV) ?_
  refine ym ?_
  refine AWL.unguard rfl rfl rfl rfl ?_
  refine ym ?_
  refine AWL.unguard rfl rfl rfl rfl ?_
  refine Y1 (Yv.remW (b := 8#64) rfl (E rfl rfl) (E rfl rfl) (by decide)) ?_
  refine AWL.unguard rfl rfl rfl rfl ?_
  refine Y1 (Yv.neqW (b := 0#64) rfl eV eV) ?_
  refine Y1 (Yv.pickOr (t := .const (.bool true)) rfl eV eV) ?_
  refine ym ?_
  refine AWL.unguard rfl rfl rfl (by simp [g1]) ?_
  refine ym ?_
  refine AWL.unguard rfl rfl rfl (by simp [g1]) ?_
  refine Y1 (Yv.lssW (b := 1073741824#64) rfl eV eV) ?_
  refine Y1 (Yv.pickOr (t := .const (.bool true)) rfl eV eV) ?_
  refine ym ?_
  refine AWL.unguard rfl rfl rfl (by simp [g1, g2]) ?_
  refine ym ?_
  refine AWL.unguard rfl rfl rfl (by simp [g1, g2]) ?_
  refine Y1 (Yv.subW (b := 1073741824#64) rfl eV eV) ?_
  refine AWL.unguard rfl rfl rfl (by simp [g1, g2]) ?_
  refine ym ?_
  refine AWL.unguard rfl rfl rfl (by simp [g1, g2]) ?_
  refine ym ?_
  refine AWL.unguard rfl rfl rfl (by simp [g1, g2]) ?_
  refine Y1 (Yv.subW rfl eV eV) ?_
  refine AWL.unguard rfl rfl rfl (by simp [g1, g2]) ?_
  refine Y1 (Yv.gtrW rfl eV eV) ?_
  refine Y1 (Yv.pickOr (t := .const (.bool true)) rfl eV eV) (nl ?_)
  refine AW.cond rfl (fun h4t => ?_) (fun h4f => ?_)
  ·try replace h4t := odt h4t
   exfalso
   rw [g1, decide_eq_true rfl, decide_eq_false g2, decide_eq_false g3] at h4t
   cases h4t
  try replace h4f := odf h4f
  refine AW.skip ?_
  refine rs (Y1 (Yv.buildS rfl sh_31 (evpC eV evp0) (fun _ => rfl)) ?_)
  refine AWL.callT rfl rfl (B rfl) rfl ce_9 (E rfl rfl) (evsC (E rfl rfl) evs0) (header5) ?_
  rintro t98 S98 rfl
  refine ym ?_
  refine Y1 (Yv.subW (b := 8#64) rfl eV eV) ?_
  refine Y1 (Yv.shlW (n := 24) rfl (E rfl rfl) (E rfl rfl) (by decide)) ?_
  refine Y1 (Yv.addW rfl eV eV) ?_
  refine ya ?_
  refine AW.retype (k := 17) (t' := zw (BitVec.ofNat 64 (hdN (wI (8 + 8 * (pickF (sz.getD (i % sz.length) 0) (hQ (sizeG n) / 8)))).toNat))) rfl (fun w L u h => by rw [← hd_eq ⟨hk1, by omega⟩]; exact h) ?_
  refine rs (ym ?_)
  refine ym ?_
  refine ym ?_
  refine cE ce_15 [Ent.box b10 31 keptC] (DP L m6 q6) rfl rfl rfl (head_live hG hz2.2 hk1 ha.2) ?_
  rintro t106 S106 ⟨m7, q7, rfl, hK7, hp7, rfl⟩
  refine Y1 (Yv.not rfl eV) ?_
  refine ym ?_
  refine AWL.unguard rfl rfl rfl rfl ?_
  refine ym ?_
  refine AWL.unguard rfl rfl rfl rfl ?_
  refine ym ?_
  refine AWL.unguard rfl rfl rfl rfl ?_
  refine ym ?_
  refine AWL.unguard rfl rfl rfl rfl ?_
  refine Y1 (Yv.addW rfl eV eV) ?_
  refine AWL.unguard rfl rfl rfl rfl ?_
  refine Y1 (Yv.subW (b := 8#64) rfl eV eV) ?_
  refine AWL.unguard rfl rfl rfl rfl ?_
  refine ym ?_
  refine AWL.unguard rfl rfl rfl rfl ?_
  refine ym ?_
  refine AWL.unguard rfl rfl rfl rfl ?_
  refine ym ?_
  refine AWL.unguard rfl rfl rfl rfl ?_
  refine Y1 (Yv.addW rfl eV eV) ?_
  refine AWL.unguard rfl rfl rfl rfl ?_
  refine Y1 (Yv.subW (b := 8#64) rfl eV eV) ?_
  refine AWL.unguard rfl rfl rfl rfl ?_
  refine cE ce_8 [Ent.box b10 31 keptC] (DP L m7 q7) rfl rfl rfl (Word8 L gcP gc_ok gc_in m7 q7 hp7 hK7.rel.2 (a + (wI (8 + 8 * (pickF (sz.getD (i % sz.length) 0) (hQ (sizeG n) / 8)))) - 8#64)) ?_
  rintro t119 S119 ⟨rfl, rfl⟩
  refine AWL.unguard rfl rfl rfl rfl ?_
  refine cE ce_15 [Ent.box b10 31 keptC] (DP L m7 q7) rfl rfl rfl (again_live (a := a + (wI (8 + 8 * (pickF (sz.getD (i % sz.length) 0) (hQ (sizeG n) / 8)))) - 8#64) hK7 hz2.2 (last_n hk1 ha.2 hz2.2)) ?_
  rintro t120 S120 ⟨m8, q8, rfl, hK8, rfl⟩
  refine AWL.unguard rfl rfl rfl rfl ?_
  refine Y1 (Yv.not rfl eV) ?_
  refine Y1 (Yv.pickOr (t := .const (.bool true)) rfl eV eV) (nl ?_)
  refine AW.cond rfl (fun h5t => ?_) (fun h5f => ?_)
  ·try replace h5t := odt h5t
   exact absurd (show (false : Bool) = true from h5t) (by decide)
  try replace h5f := odf h5f
  refine AW.skip ?_
  refine AW.region ?_
  refine ym ?_
  refine Y1 (Yv.addN_i64 rfl eV eV (fun hg => by omega)) ?_
  refine ya ?_
  exact ⟨i + 1, m8, q8, ⟨by rw [show 8000001000000 + 1000000 * ((i + 1 : Nat) : Int) = 8000001000000 + 1000000 * (i : Int) + 1000000 by omega]; exact hK8, by omega⟩, by omega, (su (su (su (su (su sn))))), rfl⟩
 try replace h3f := odf h3f
 refine AW.exit ?_
 refine rs (ym ?_)
 refine cE ce_16 [Ent.box b10 31 keptC] (DP L mi qi) rfl rfl rfl (Graph16k L mi qi (sizeG n) _ hKi hz2) ?_
 rintro t125 S125 ⟨rfl, E9, rfl⟩
 refine ym ?_
 refine Y1 (Yv.extract rfl eV rfl) ?_
 refine Y1 (Yv.extract rfl eV rfl) ?_
 refine AWL.allocOp rfl rfl (B rfl) rfl zc_45 (fun b18 => ?_)
 refine AWL.perm (List.perm_append_singleton _ _).symm ?_
 refine AWL.storeBox (i := 0) rfl rfl rfl ag_45 rfl (E rfl rfl) (E rfl rfl) rfl rfl nB ?_
 refine ya ?_
 refine rs (ym ?_)
 refine Y1 (Yv.eql rfl eV eV) ?_
 refine ym ?_
 refine AWL.unguard rfl rfl rfl rfl ?_
 refine yf fo_45_0 ?_
 refine AWL.unguard rfl rfl rfl rfl ?_
 refine yl ag_43 0 ?_
 refine AWL.unguard rfl rfl rfl rfl ?_
 refine Y1 (Yv.lenSl rfl so_43 (B rfl) eV kc_len) ?_
 refine AWL.unguard rfl rfl rfl rfl ?_
 refine Y1 (Yv.eql rfl eV eV) ?_
 refine Y1 (Yv.pickAnd rfl eV eV) ?_
 refine ym ?_
 refine AWL.unguard rfl rfl rfl rfl ?_
 refine yf fo_45_0 ?_
 refine AWL.unguard rfl rfl rfl rfl ?_
 refine yl ag_43 0 ?_
 refine AWL.unguard rfl rfl rfl rfl ?_
 refine Y1 (Yv.indexSl (j := 0) rfl ss_43 (B rfl) (E rfl rfl) (E rfl rfl) (fun hg => ⟨rfl, by decide⟩)) ?_
 refine AWL.unguard rfl rfl rfl rfl ?_
 refine Y1 (Yv.fieldRp rfl fo_31_2 eV) ?_
 refine AWL.unguard rfl rfl rfl rfl ?_
 refine Y1 (Yv.loadRp rfl ag_9 eV (fun _ => rfl)) ?_
 refine AWL.unguard rfl rfl rfl rfl ?_
 refine Y1 (Yv.eqlL rfl eV eV) ?_
 refine Y1 (Yv.pickAnd rfl eV eV) ?_
 refine ym ?_
 refine AWL.unguard rfl rfl rfl rfl ?_
 refine yf fo_45_0 ?_
 refine AWL.unguard rfl rfl rfl rfl ?_
 refine yl ag_43 0 ?_
 refine AWL.unguard rfl rfl rfl rfl ?_
 refine Y1 (Yv.indexSl (j := 0) rfl ss_43 (B rfl) (E rfl rfl) (E rfl rfl) (fun hg => ⟨rfl, by decide⟩)) ?_
 refine AWL.unguard rfl rfl rfl rfl ?_
 refine Y1 (Yv.fieldRp rfl fo_31_0 eV) ?_
 refine AWL.unguard rfl rfl rfl rfl ?_
 refine Y1 (Yv.loadRp rfl ag_3 eV (fun _ => rfl)) ?_
 refine AWL.unguard rfl rfl rfl rfl ?_
 refine Y1 (Yv.eql rfl eV eV) ?_
 refine Y1 (Yv.pickAnd rfl eV eV) ?_
 refine ya ?_
 refine AW.ret (retI (.tmp rfl .nil) ?_)
 rfl
end Go.Proofs.YtpgbpdnmjeoeoaaGreat.G
