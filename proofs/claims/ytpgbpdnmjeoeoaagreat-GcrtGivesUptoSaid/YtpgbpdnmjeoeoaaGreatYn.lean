/-
  TEXTS JOINED: GGj2.
-/
import Derived.Test.YtpgbpdnmjeoeoaaGreatYm
set_option linter.unusedSimpArgs false
set_option linter.unusedVariables false
set_option linter.unusedSectionVars false
set_option linter.unnecessarySimpa false
namespace Go.Proofs.YtpgbpdnmjeoeoaaGreat.G
open Go Go.RowKit B
set_option maxRecDepth 100000
section
variable {y n : Wd64} {c : Nat → Wd64} {m : Mc} {p A O v u kp gq k : Nat}
set_option maxHeartbeats 2000000 in
theorem stMn1 (hL : LM y c m) (hy : 65536 ≤ y.toNat ∧ y.toNat < 105536) (hn8 : n.toNat % 8 = 0) (hn1 : 8 ≤ n.toNat) (K : Kp y c m.mem p A O v u kp 1 gq k 0) (hk : kp = 1073741824) (hu16 : 16 ≤ u) (hn2 : n.toNat ≤ 2 * p) (hu : 2 * p < u + n.toNat) (hf : 4 * p - v < u) : AlR y n m := by
 have K0 := K
 have h16 := y.isLt
 have h40 : c 40 = c 39 + wI ((8 * 1 : Nat) : Int) := by
  apply BitVec.eq_of_toNat_eq
  rw [wI_ofNat, BitVec.toNat_add, BitVec.toNat_ofNat, K.c40, K.c39]
  have := K.hp
  omega
 have hbc : ∀ j, (cY 1 c j).w (bY c (BitVec.ofNat 64 gq)) = c j := cY_w rfl rfl rfl rfl h40 K.ex
 obtain ⟨gg1, gg2, gg3, gg4, gg5, gg6, gg7⟩ := K.gg.resolve_left (by decide)
 obtain ⟨hp, ao, c01, c3, ex, c32, c33, c34, c35, c36, c37, c38, c39, c40, c47, u8, u2, v8, v4, gg, kk, m0, m1⟩ := K0
 have kg : kp + 16 ≤ gq ∨ (kp = 1073741824 ∧ gq = A ∧ 16 ≤ u) := by omega
 have kq : gq = A := by omega
 have hok := kokM hy K (x := (BitVec.ofNat 64 gq)) (N := gq) (by rw [BitVec.toNat_ofNat]; omega) (by omega) (by omega)
 have hgh : gK (BitVec.ofNat 64 (hdN k)) = 2#64 := gK_2 (x := k - 8) (by unfold hdN; rw [BitVec.toNat_ofNat]; omega)
 have hH := hp1 (KS := KM) K hy.2 (List.mem_of_elem_eq_true rfl) (List.mem_of_elem_eq_true rfl) (List.mem_of_elem_eq_true rfl) (List.mem_of_elem_eq_true rfl)
 obtain ⟨s1, s2, s3, s4, s5, s6, s7, s8⟩ := K.subs hy.2
 replace s8 := s8 (by omega)
 clear gg kk
 obtain ⟨mR, r, ha, h1, h2, h3, h4, h5, h6⟩ := al_go hL.prog hL.heap hL.strict hL.w hL.c hbc hok hH (rMn1 y n (BitVec.ofNat 64 (hdN k)) (bY c (BitVec.ofNat 64 gq)) c) (by
  unfold oMn1
  exact (yok_cons (ult_no (by (try simp only [w_sv, w_lit, w_hp, bY1, bY2, bY3, bY4, bY5, add_w0, BitVec.sub_zero, s1, s2, s3, s4, s5, s6, s7, s8, wI_ofNat, BitVec.toNat_add, BitVec.toNat_sub, BitVec.toNat_ofNat]); omega)) (yok_cons (ule_yes (by (try simp only [w_sv, w_lit, w_hp, bY1, bY2, bY3, bY4, bY5, add_w0, BitVec.sub_zero, s1, s2, s3, s4, s5, s6, s7, s8, wI_ofNat, BitVec.toNat_add, BitVec.toNat_sub, BitVec.toNat_ofNat]); omega)) (yok_cons (h6n (by (try simp only [w_sv, w_lit, w_hp, bY1, bY2, bY3, bY4, bY5, add_w0, BitVec.sub_zero, s1, s2, s3, s4, s5, s6, s7, s8, wI_ofNat, BitVec.toNat_add, BitVec.toNat_sub, BitVec.toNat_ofNat]); omega)) (yok_cons (ule_yes (by (try simp only [w_sv, w_lit, w_hp, bY1, bY2, bY3, bY4, bY5, add_w0, BitVec.sub_zero, s1, s2, s3, s4, s5, s6, s7, s8, wI_ofNat, BitVec.toNat_add, BitVec.toNat_sub, BitVec.toNat_ofNat]); omega)) (yok_cons (ule_yes (by (try simp only [w_sv, w_lit, w_hp, bY1, bY2, bY3, bY4, bY5, add_w0, BitVec.sub_zero, s1, s2, s3, s4, s5, s6, s7, s8, wI_ofNat, BitVec.toNat_add, BitVec.toNat_sub, BitVec.toNat_ofNat]); omega)) (yok_cons (h6n (by (try simp only [w_sv, w_lit, w_hp, bY1, bY2, bY3, bY4, bY5, add_w0, BitVec.sub_zero, s1, s2, s3, s4, s5, s6, s7, s8, wI_ofNat, BitVec.toNat_add, BitVec.toNat_sub, BitVec.toNat_ofNat]); omega)) (yok_cons (h1y ((even_0 (by (try simp only [w_sv, w_lit, w_hp, bY1, bY2, bY3, bY4, bY5, add_w0, BitVec.sub_zero, s1, s2, s3, s4, s5, s6, s7, s8, wI_ofNat, BitVec.toNat_add, BitVec.toNat_sub, BitVec.toNat_ofNat]); omega)).trans rfl)) (yok_cons (ule_yes (by rw [w_sv, w_sv, c01]; exact Nat.le_refl _)) (yok_cons (ule_yes (by (try simp only [w_sv, w_lit, w_hp, bY1, bY2, bY3, bY4, bY5, add_w0, BitVec.sub_zero, s1, s2, s3, s4, s5, s6, s7, s8, wI_ofNat, BitVec.toNat_add, BitVec.toNat_sub, BitVec.toNat_ofNat]); omega)) (yok_cons (h6n (by (try simp only [w_sv, w_lit, w_hp, bY1, bY2, bY3, bY4, bY5, add_w0, BitVec.sub_zero, s1, s2, s3, s4, s5, s6, s7, s8, wI_ofNat, BitVec.toNat_add, BitVec.toNat_sub, BitVec.toNat_ofNat]); omega)) (yok_cons (h6n (by (try simp only [w_sv, w_lit, w_hp, bY1, bY2, bY3, bY4, bY5, add_w0, BitVec.sub_zero, s1, s2, s3, s4, s5, s6, s7, s8, wI_ofNat, BitVec.toNat_add, BitVec.toNat_sub, BitVec.toNat_ofNat]); omega)) (yok_cons (h5y (by (try simp only [w_sv, w_lit, w_hp, bY1, bY2, bY3, bY4, bY5, add_w0, BitVec.sub_zero, s1, s2, s3, s4, s5, s6, s7, s8, wI_ofNat, BitVec.toNat_add, BitVec.toNat_sub, BitVec.toNat_ofNat]); omega)) (yok_cons (ult_no (by (try simp only [w_sv, w_lit, w_hp, bY1, bY2, bY3, bY4, bY5, add_w0, BitVec.sub_zero, s1, s2, s3, s4, s5, s6, s7, s8, wI_ofNat, BitVec.toNat_add, BitVec.toNat_sub, BitVec.toNat_ofNat]); omega)) yok_nil))))))))))))))
 have hm0 : leF mR.mem (BitVec.ofNat 64 O) 8 = 67108869#64 := by
  rw [← kad_of (b := bY c (BitVec.ofNat 64 gq)) (i := 5) (o := 0) K.c38 (by omega)]
  exact chk_mem h6 h5 (k := (5, 0)) (v := .lit 67108869) (by simp)
 have hm1 : leF mR.mem (BitVec.ofNat 64 (O + 8)) 8 = 1953523051#64 := by
  rw [← kad_of (b := bY c (BitVec.ofNat 64 gq)) (i := 5) (o := 8) (congrArg (· + 8) K.c38) (by omega)]
  exact chk_mem h6 h5 (k := (5, 8)) (v := .lit 1953523051) (by simp)
 have htn : (c 32 : Wd64).toNat = 1073741824 := by (try simp only [w_sv, w_lit, w_hp, bY1, bY2, bY3, bY4, bY5, add_w0, BitVec.sub_zero, s1, s2, s3, s4, s5, s6, s7, s8, wI_ofNat, BitVec.toNat_add, BitVec.toNat_sub, BitVec.toNat_ofNat]); omega
 refine ⟨mR, _, _, p, O, A, 16, n.toNat, O, 0, 0, 0, fun j hj => h1 j (by omega), h2, h3, Kp.next K rfl h4 (by omega) (by (try simp only [w_sv, w_lit, w_hp, bY1, bY2, bY3, bY4, bY5, add_w0, BitVec.sub_zero, s1, s2, s3, s4, s5, s6, s7, s8, wI_ofNat, BitVec.toNat_add, BitVec.toNat_sub, BitVec.toNat_ofNat]); omega) (by (try simp only [w_sv, w_lit, w_hp, bY1, bY2, bY3, bY4, bY5, add_w0, BitVec.sub_zero, s1, s2, s3, s4, s5, s6, s7, s8, wI_ofNat, BitVec.toNat_add, BitVec.toNat_sub, BitVec.toNat_ofNat]); omega) (by (try simp only [w_sv, w_lit, w_hp, bY1, bY2, bY3, bY4, bY5, add_w0, BitVec.sub_zero, s1, s2, s3, s4, s5, s6, s7, s8, wI_ofNat, BitVec.toNat_add, BitVec.toNat_sub, BitVec.toNat_ofNat]); omega) (by (try simp only [w_sv, w_lit, w_hp, bY1, bY2, bY3, bY4, bY5, add_w0, BitVec.sub_zero, s1, s2, s3, s4, s5, s6, s7, s8, wI_ofNat, BitVec.toNat_add, BitVec.toNat_sub, BitVec.toNat_ofNat]); omega) (by (try simp only [w_sv, w_lit, w_hp, bY1, bY2, bY3, bY4, bY5, add_w0, BitVec.sub_zero, s1, s2, s3, s4, s5, s6, s7, s8, wI_ofNat, BitVec.toNat_add, BitVec.toNat_sub, BitVec.toNat_ofNat]); omega) (by (try simp only [w_sv, w_lit, w_hp, bY1, bY2, bY3, bY4, bY5, add_w0, BitVec.sub_zero, s1, s2, s3, s4, s5, s6, s7, s8, wI_ofNat, BitVec.toNat_add, BitVec.toNat_sub, BitVec.toNat_ofNat]); omega) (by (try simp only [w_sv, w_lit, w_hp, bY1, bY2, bY3, bY4, bY5, add_w0, BitVec.sub_zero, s1, s2, s3, s4, s5, s6, s7, s8, wI_ofNat, BitVec.toNat_add, BitVec.toNat_sub, BitVec.toNat_ofNat]); omega) ⟨by omega, by omega, by omega, by omega⟩ (.inl rfl) (by omega) hm0 hm1, ?_⟩
 have hto : (YV.w (bY c (BitVec.ofNat 64 gq)) (W (c 32))).toNat = 1073741824 := htn
 rw [hto]
 exact ⟨by omega, by omega, by omega, by omega, fun e => by omega⟩
set_option maxHeartbeats 2000000 in
theorem stMo0 (hL : LM y c m) (hy : 65536 ≤ y.toNat ∧ y.toNat < 105536) (hn8 : n.toNat % 8 = 0) (hn1 : 8 ≤ n.toNat) (K : Kp y c m.mem p A O v u kp 0 gq k 0) (hk1 : A ≤ kp) (hk2 : kp + 16 ≤ A + v) (hk3 : kp % 8 = 0) (hn2 : n.toNat ≤ 2 * p) (hu : 2 * p < u + n.toNat) (hf : 4 * p - v < u) : AlR y n m := by
 have K0 := K
 have h16 := y.isLt
 have h40 : c 40 = c 39 + wI ((8 * 0 : Nat) : Int) := by
  apply BitVec.eq_of_toNat_eq
  rw [wI_ofNat, BitVec.toNat_add, BitVec.toNat_ofNat, K.c40, K.c39]
  have := K.hp
  omega
 have hbc : ∀ j, (cY 0 c j).w (bY c 1073741840#64) = c j := cY_w rfl rfl rfl rfl h40 K.ex
 obtain ⟨hp, ao, c01, c3, ex, c32, c33, c34, c35, c36, c37, c38, c39, c40, c47, u8, u2, v8, v4, gg, kk, m0, m1⟩ := K0
 have hok := kokM hy K (x := 1073741840#64) (N := 1073741840) rfl (by omega) (by omega)
 have hH := hp0 (gh := 0#64) (x := 1073741840#64) (KS := KM) K hy.2 (List.mem_of_elem_eq_true rfl) (List.mem_of_elem_eq_true rfl)
 obtain ⟨s1, s2, s3, s4, s5, s6, s7, s8⟩ := K.subs hy.2
 replace s5 := s5 hk1
 replace s8 := s8 (by omega)
 clear gg kk
 obtain ⟨mR, r, ha, h1, h2, h3, h4, h5, h6⟩ := al_go hL.prog hL.heap hL.strict hL.w hL.c hbc hok hH (rMo0 y n 0#64 (bY c 1073741840#64) c) (by
  unfold oMo0
  exact (yok_cons (ult_no (by (try simp only [w_sv, w_lit, w_hp, bY1, bY2, bY3, bY4, bY5, add_w0, BitVec.sub_zero, s1, s2, s3, s4, s5, s6, s7, s8, wI_ofNat, BitVec.toNat_add, BitVec.toNat_sub, BitVec.toNat_ofNat]); omega)) (yok_cons (ule_yes (by (try simp only [w_sv, w_lit, w_hp, bY1, bY2, bY3, bY4, bY5, add_w0, BitVec.sub_zero, s1, s2, s3, s4, s5, s6, s7, s8, wI_ofNat, BitVec.toNat_add, BitVec.toNat_sub, BitVec.toNat_ofNat]); omega)) (yok_cons (h6n (by (try simp only [w_sv, w_lit, w_hp, bY1, bY2, bY3, bY4, bY5, add_w0, BitVec.sub_zero, s1, s2, s3, s4, s5, s6, s7, s8, wI_ofNat, BitVec.toNat_add, BitVec.toNat_sub, BitVec.toNat_ofNat]); omega)) (yok_cons (ule_yes (by (try simp only [w_sv, w_lit, w_hp, bY1, bY2, bY3, bY4, bY5, add_w0, BitVec.sub_zero, s1, s2, s3, s4, s5, s6, s7, s8, wI_ofNat, BitVec.toNat_add, BitVec.toNat_sub, BitVec.toNat_ofNat]); omega)) (yok_cons (ule_yes (by (try simp only [w_sv, w_lit, w_hp, bY1, bY2, bY3, bY4, bY5, add_w0, BitVec.sub_zero, s1, s2, s3, s4, s5, s6, s7, s8, wI_ofNat, BitVec.toNat_add, BitVec.toNat_sub, BitVec.toNat_ofNat]); omega)) (yok_cons (h6n (by (try simp only [w_sv, w_lit, w_hp, bY1, bY2, bY3, bY4, bY5, add_w0, BitVec.sub_zero, s1, s2, s3, s4, s5, s6, s7, s8, wI_ofNat, BitVec.toNat_add, BitVec.toNat_sub, BitVec.toNat_ofNat]); omega)) (yok_cons (ule_yes (by (try simp only [w_sv, w_lit, w_hp, bY1, bY2, bY3, bY4, bY5, add_w0, BitVec.sub_zero, s1, s2, s3, s4, s5, s6, s7, s8, wI_ofNat, BitVec.toNat_add, BitVec.toNat_sub, BitVec.toNat_ofNat]); omega)) (yok_cons (h1y ((even_0 (by (try simp only [w_sv, w_lit, w_hp, bY1, bY2, bY3, bY4, bY5, add_w0, BitVec.sub_zero, s1, s2, s3, s4, s5, s6, s7, s8, wI_ofNat, BitVec.toNat_add, BitVec.toNat_sub, BitVec.toNat_ofNat]); omega)).trans rfl)) (yok_cons (ule_yes (by rw [w_sv, w_sv, c01]; exact Nat.le_refl _)) (yok_cons (ule_yes (by (try simp only [w_sv, w_lit, w_hp, bY1, bY2, bY3, bY4, bY5, add_w0, BitVec.sub_zero, s1, s2, s3, s4, s5, s6, s7, s8, wI_ofNat, BitVec.toNat_add, BitVec.toNat_sub, BitVec.toNat_ofNat]); omega)) (yok_cons (h6n (by (try simp only [w_sv, w_lit, w_hp, bY1, bY2, bY3, bY4, bY5, add_w0, BitVec.sub_zero, s1, s2, s3, s4, s5, s6, s7, s8, wI_ofNat, BitVec.toNat_add, BitVec.toNat_sub, BitVec.toNat_ofNat]); omega)) (yok_cons (h5y (by (try simp only [w_sv, w_lit, w_hp, bY1, bY2, bY3, bY4, bY5, add_w0, BitVec.sub_zero, s1, s2, s3, s4, s5, s6, s7, s8, wI_ofNat, BitVec.toNat_add, BitVec.toNat_sub, BitVec.toNat_ofNat]); omega)) (yok_cons (ult_no (by (try simp only [w_sv, w_lit, w_hp, bY1, bY2, bY3, bY4, bY5, add_w0, BitVec.sub_zero, s1, s2, s3, s4, s5, s6, s7, s8, wI_ofNat, BitVec.toNat_add, BitVec.toNat_sub, BitVec.toNat_ofNat]); omega)) yok_nil))))))))))))))
 have hm0 : leF mR.mem (BitVec.ofNat 64 O) 8 = 67108869#64 := by
  rw [← kad_of (b := bY c 1073741840#64) (i := 5) (o := 0) K.c38 (by omega)]
  exact chk_mem h6 h5 (k := (5, 0)) (v := .lit 67108869) (by simp)
 have hm1 : leF mR.mem (BitVec.ofNat 64 (O + 8)) 8 = 1953523051#64 := by
  rw [← kad_of (b := bY c 1073741840#64) (i := 5) (o := 8) (congrArg (· + 8) K.c38) (by omega)]
  exact chk_mem h6 h5 (k := (5, 8)) (v := .lit 1953523051) (by simp)
 have htn : (c 32 : Wd64).toNat = 1073741824 := by (try simp only [w_sv, w_lit, w_hp, bY1, bY2, bY3, bY4, bY5, add_w0, BitVec.sub_zero, s1, s2, s3, s4, s5, s6, s7, s8, wI_ofNat, BitVec.toNat_add, BitVec.toNat_sub, BitVec.toNat_ofNat]); omega
 refine ⟨mR, _, _, p, O, A, 16, n.toNat, O, 0, 0, 0, fun j hj => h1 j (by omega), h2, h3, Kp.next K rfl h4 (by omega) (by (try simp only [w_sv, w_lit, w_hp, bY1, bY2, bY3, bY4, bY5, add_w0, BitVec.sub_zero, s1, s2, s3, s4, s5, s6, s7, s8, wI_ofNat, BitVec.toNat_add, BitVec.toNat_sub, BitVec.toNat_ofNat]); omega) (by (try simp only [w_sv, w_lit, w_hp, bY1, bY2, bY3, bY4, bY5, add_w0, BitVec.sub_zero, s1, s2, s3, s4, s5, s6, s7, s8, wI_ofNat, BitVec.toNat_add, BitVec.toNat_sub, BitVec.toNat_ofNat]); omega) (by (try simp only [w_sv, w_lit, w_hp, bY1, bY2, bY3, bY4, bY5, add_w0, BitVec.sub_zero, s1, s2, s3, s4, s5, s6, s7, s8, wI_ofNat, BitVec.toNat_add, BitVec.toNat_sub, BitVec.toNat_ofNat]); omega) (by (try simp only [w_sv, w_lit, w_hp, bY1, bY2, bY3, bY4, bY5, add_w0, BitVec.sub_zero, s1, s2, s3, s4, s5, s6, s7, s8, wI_ofNat, BitVec.toNat_add, BitVec.toNat_sub, BitVec.toNat_ofNat]); omega) (by (try simp only [w_sv, w_lit, w_hp, bY1, bY2, bY3, bY4, bY5, add_w0, BitVec.sub_zero, s1, s2, s3, s4, s5, s6, s7, s8, wI_ofNat, BitVec.toNat_add, BitVec.toNat_sub, BitVec.toNat_ofNat]); omega) (by (try simp only [w_sv, w_lit, w_hp, bY1, bY2, bY3, bY4, bY5, add_w0, BitVec.sub_zero, s1, s2, s3, s4, s5, s6, s7, s8, wI_ofNat, BitVec.toNat_add, BitVec.toNat_sub, BitVec.toNat_ofNat]); omega) (by (try simp only [w_sv, w_lit, w_hp, bY1, bY2, bY3, bY4, bY5, add_w0, BitVec.sub_zero, s1, s2, s3, s4, s5, s6, s7, s8, wI_ofNat, BitVec.toNat_add, BitVec.toNat_sub, BitVec.toNat_ofNat]); omega) ⟨by omega, by omega, by omega, by omega⟩ (.inl rfl) (by omega) hm0 hm1, ?_⟩
 have hto : (YV.w (bY c 1073741840#64) (W (c 32))).toNat = 1073741824 := htn
 rw [hto]
 exact ⟨by omega, by omega, by omega, by omega, fun e => by omega⟩
set_option maxHeartbeats 2000000 in
theorem stMo1 (hL : LM y c m) (hy : 65536 ≤ y.toNat ∧ y.toNat < 105536) (hn8 : n.toNat % 8 = 0) (hn1 : 8 ≤ n.toNat) (K : Kp y c m.mem p A O v u kp 1 gq k 0) (hk1 : A ≤ kp) (hk2 : kp + 16 ≤ A + v) (hk3 : kp % 8 = 0) (hn2 : n.toNat ≤ 2 * p) (hu : 2 * p < u + n.toNat) (hf : 4 * p - v < u) : AlR y n m := by
 have K0 := K
 have h16 := y.isLt
 have h40 : c 40 = c 39 + wI ((8 * 1 : Nat) : Int) := by
  apply BitVec.eq_of_toNat_eq
  rw [wI_ofNat, BitVec.toNat_add, BitVec.toNat_ofNat, K.c40, K.c39]
  have := K.hp
  omega
 have hbc : ∀ j, (cY 1 c j).w (bY c (BitVec.ofNat 64 gq)) = c j := cY_w rfl rfl rfl rfl h40 K.ex
 obtain ⟨gg1, gg2, gg3, gg4, gg5, gg6, gg7⟩ := K.gg.resolve_left (by decide)
 obtain ⟨hp, ao, c01, c3, ex, c32, c33, c34, c35, c36, c37, c38, c39, c40, c47, u8, u2, v8, v4, gg, kk, m0, m1⟩ := K0
 have kg : kp + 16 ≤ gq ∨ (kp = 1073741824 ∧ gq = A ∧ 16 ≤ u) := by omega
 have kq : kp + 16 ≤ gq := by omega
 have hok := kokM hy K (x := (BitVec.ofNat 64 gq)) (N := gq) (by rw [BitVec.toNat_ofNat]; omega) (by omega) (by omega)
 have hgh : gK (BitVec.ofNat 64 (hdN k)) = 2#64 := gK_2 (x := k - 8) (by unfold hdN; rw [BitVec.toNat_ofNat]; omega)
 have hH := hp1 (KS := KM) K hy.2 (List.mem_of_elem_eq_true rfl) (List.mem_of_elem_eq_true rfl) (List.mem_of_elem_eq_true rfl) (List.mem_of_elem_eq_true rfl)
 obtain ⟨s1, s2, s3, s4, s5, s6, s7, s8⟩ := K.subs hy.2
 replace s5 := s5 hk1
 replace s8 := s8 (by omega)
 clear gg kk
 obtain ⟨mR, r, ha, h1, h2, h3, h4, h5, h6⟩ := al_go hL.prog hL.heap hL.strict hL.w hL.c hbc hok hH (rMo1 y n (BitVec.ofNat 64 (hdN k)) (bY c (BitVec.ofNat 64 gq)) c) (by
  unfold oMo1
  exact (yok_cons (ult_no (by (try simp only [w_sv, w_lit, w_hp, bY1, bY2, bY3, bY4, bY5, add_w0, BitVec.sub_zero, s1, s2, s3, s4, s5, s6, s7, s8, wI_ofNat, BitVec.toNat_add, BitVec.toNat_sub, BitVec.toNat_ofNat]); omega)) (yok_cons (ule_yes (by (try simp only [w_sv, w_lit, w_hp, bY1, bY2, bY3, bY4, bY5, add_w0, BitVec.sub_zero, s1, s2, s3, s4, s5, s6, s7, s8, wI_ofNat, BitVec.toNat_add, BitVec.toNat_sub, BitVec.toNat_ofNat]); omega)) (yok_cons (h6n (by (try simp only [w_sv, w_lit, w_hp, bY1, bY2, bY3, bY4, bY5, add_w0, BitVec.sub_zero, s1, s2, s3, s4, s5, s6, s7, s8, wI_ofNat, BitVec.toNat_add, BitVec.toNat_sub, BitVec.toNat_ofNat]); omega)) (yok_cons (ule_yes (by (try simp only [w_sv, w_lit, w_hp, bY1, bY2, bY3, bY4, bY5, add_w0, BitVec.sub_zero, s1, s2, s3, s4, s5, s6, s7, s8, wI_ofNat, BitVec.toNat_add, BitVec.toNat_sub, BitVec.toNat_ofNat]); omega)) (yok_cons (ule_yes (by (try simp only [w_sv, w_lit, w_hp, bY1, bY2, bY3, bY4, bY5, add_w0, BitVec.sub_zero, s1, s2, s3, s4, s5, s6, s7, s8, wI_ofNat, BitVec.toNat_add, BitVec.toNat_sub, BitVec.toNat_ofNat]); omega)) (yok_cons (h6n (by (try simp only [w_sv, w_lit, w_hp, bY1, bY2, bY3, bY4, bY5, add_w0, BitVec.sub_zero, s1, s2, s3, s4, s5, s6, s7, s8, wI_ofNat, BitVec.toNat_add, BitVec.toNat_sub, BitVec.toNat_ofNat]); omega)) (yok_cons (ule_yes (by (try simp only [w_sv, w_lit, w_hp, bY1, bY2, bY3, bY4, bY5, add_w0, BitVec.sub_zero, s1, s2, s3, s4, s5, s6, s7, s8, wI_ofNat, BitVec.toNat_add, BitVec.toNat_sub, BitVec.toNat_ofNat]); omega)) (yok_cons (h1y ((even_0 (by (try simp only [w_sv, w_lit, w_hp, bY1, bY2, bY3, bY4, bY5, add_w0, BitVec.sub_zero, s1, s2, s3, s4, s5, s6, s7, s8, wI_ofNat, BitVec.toNat_add, BitVec.toNat_sub, BitVec.toNat_ofNat]); omega)).trans rfl)) (yok_cons (ule_yes (by rw [w_sv, w_sv, c01]; exact Nat.le_refl _)) (yok_cons (ule_yes (by (try simp only [w_sv, w_lit, w_hp, bY1, bY2, bY3, bY4, bY5, add_w0, BitVec.sub_zero, s1, s2, s3, s4, s5, s6, s7, s8, wI_ofNat, BitVec.toNat_add, BitVec.toNat_sub, BitVec.toNat_ofNat]); omega)) (yok_cons (h6n (by (try simp only [w_sv, w_lit, w_hp, bY1, bY2, bY3, bY4, bY5, add_w0, BitVec.sub_zero, s1, s2, s3, s4, s5, s6, s7, s8, wI_ofNat, BitVec.toNat_add, BitVec.toNat_sub, BitVec.toNat_ofNat]); omega)) (yok_cons (h6n (by (try simp only [w_sv, w_lit, w_hp, bY1, bY2, bY3, bY4, bY5, add_w0, BitVec.sub_zero, s1, s2, s3, s4, s5, s6, s7, s8, wI_ofNat, BitVec.toNat_add, BitVec.toNat_sub, BitVec.toNat_ofNat]); omega)) (yok_cons (h5y (by (try simp only [w_sv, w_lit, w_hp, bY1, bY2, bY3, bY4, bY5, add_w0, BitVec.sub_zero, s1, s2, s3, s4, s5, s6, s7, s8, wI_ofNat, BitVec.toNat_add, BitVec.toNat_sub, BitVec.toNat_ofNat]); omega)) (yok_cons (ult_no (by (try simp only [w_sv, w_lit, w_hp, bY1, bY2, bY3, bY4, bY5, add_w0, BitVec.sub_zero, s1, s2, s3, s4, s5, s6, s7, s8, wI_ofNat, BitVec.toNat_add, BitVec.toNat_sub, BitVec.toNat_ofNat]); omega)) yok_nil)))))))))))))))
 have hm0 : leF mR.mem (BitVec.ofNat 64 O) 8 = 67108869#64 := by
  rw [← kad_of (b := bY c (BitVec.ofNat 64 gq)) (i := 5) (o := 0) K.c38 (by omega)]
  exact chk_mem h6 h5 (k := (5, 0)) (v := .lit 67108869) (by simp)
 have hm1 : leF mR.mem (BitVec.ofNat 64 (O + 8)) 8 = 1953523051#64 := by
  rw [← kad_of (b := bY c (BitVec.ofNat 64 gq)) (i := 5) (o := 8) (congrArg (· + 8) K.c38) (by omega)]
  exact chk_mem h6 h5 (k := (5, 8)) (v := .lit 1953523051) (by simp)
 have htn : (c 32 : Wd64).toNat = 1073741824 := by (try simp only [w_sv, w_lit, w_hp, bY1, bY2, bY3, bY4, bY5, add_w0, BitVec.sub_zero, s1, s2, s3, s4, s5, s6, s7, s8, wI_ofNat, BitVec.toNat_add, BitVec.toNat_sub, BitVec.toNat_ofNat]); omega
 refine ⟨mR, _, _, p, O, A, 16, n.toNat, O, 0, 0, 0, fun j hj => h1 j (by omega), h2, h3, Kp.next K rfl h4 (by omega) (by (try simp only [w_sv, w_lit, w_hp, bY1, bY2, bY3, bY4, bY5, add_w0, BitVec.sub_zero, s1, s2, s3, s4, s5, s6, s7, s8, wI_ofNat, BitVec.toNat_add, BitVec.toNat_sub, BitVec.toNat_ofNat]); omega) (by (try simp only [w_sv, w_lit, w_hp, bY1, bY2, bY3, bY4, bY5, add_w0, BitVec.sub_zero, s1, s2, s3, s4, s5, s6, s7, s8, wI_ofNat, BitVec.toNat_add, BitVec.toNat_sub, BitVec.toNat_ofNat]); omega) (by (try simp only [w_sv, w_lit, w_hp, bY1, bY2, bY3, bY4, bY5, add_w0, BitVec.sub_zero, s1, s2, s3, s4, s5, s6, s7, s8, wI_ofNat, BitVec.toNat_add, BitVec.toNat_sub, BitVec.toNat_ofNat]); omega) (by (try simp only [w_sv, w_lit, w_hp, bY1, bY2, bY3, bY4, bY5, add_w0, BitVec.sub_zero, s1, s2, s3, s4, s5, s6, s7, s8, wI_ofNat, BitVec.toNat_add, BitVec.toNat_sub, BitVec.toNat_ofNat]); omega) (by (try simp only [w_sv, w_lit, w_hp, bY1, bY2, bY3, bY4, bY5, add_w0, BitVec.sub_zero, s1, s2, s3, s4, s5, s6, s7, s8, wI_ofNat, BitVec.toNat_add, BitVec.toNat_sub, BitVec.toNat_ofNat]); omega) (by (try simp only [w_sv, w_lit, w_hp, bY1, bY2, bY3, bY4, bY5, add_w0, BitVec.sub_zero, s1, s2, s3, s4, s5, s6, s7, s8, wI_ofNat, BitVec.toNat_add, BitVec.toNat_sub, BitVec.toNat_ofNat]); omega) (by (try simp only [w_sv, w_lit, w_hp, bY1, bY2, bY3, bY4, bY5, add_w0, BitVec.sub_zero, s1, s2, s3, s4, s5, s6, s7, s8, wI_ofNat, BitVec.toNat_add, BitVec.toNat_sub, BitVec.toNat_ofNat]); omega) ⟨by omega, by omega, by omega, by omega⟩ (.inl rfl) (by omega) hm0 hm1, ?_⟩
 have hto : (YV.w (bY c (BitVec.ofNat 64 gq)) (W (c 32))).toNat = 1073741824 := htn
 rw [hto]
 exact ⟨by omega, by omega, by omega, by omega, fun e => by omega⟩
set_option maxHeartbeats 2000000 in
theorem stC0 (hL : LM y c m) (hy : 65536 ≤ y.toNat ∧ y.toNat < 105536) (hn8 : n.toNat % 8 = 0) (hn1 : 8 ≤ n.toNat) (K : Kp y c m.mem p A O v u kp 0 gq k 0) (hkk : (kp = 1073741824 ∧ 16 ≤ u) ∨ (A ≤ kp ∧ kp + 16 ≤ A + v)) (hn2 : 2 * p < n.toNat) (hf : n.toNat ≤ 4 * p - v) (hv0 : kp = 1073741824 → v = 0) : AlR y n m := by
 have K0 := K
 have h16 := y.isLt
 have h40 : c 40 = c 39 + wI ((8 * 0 : Nat) : Int) := by
  apply BitVec.eq_of_toNat_eq
  rw [wI_ofNat, BitVec.toNat_add, BitVec.toNat_ofNat, K.c40, K.c39]
  have := K.hp
  omega
 have hbc : ∀ j, (cY 0 c j).w (bY c 1073741840#64) = c j := cY_w rfl rfl rfl rfl h40 K.ex
 obtain ⟨hp, ao, c01, c3, ex, c32, c33, c34, c35, c36, c37, c38, c39, c40, c47, u8, u2, v8, v4, gg, kk, m0, m1⟩ := K0
 have hok := kok4 hy K (x := 1073741840#64) (N := 1073741840) rfl (by omega) (by omega) (by omega)
 have hH := hp0 (gh := 0#64) (x := 1073741840#64) (KS := K4) K hy.2 (List.mem_of_elem_eq_true rfl) (List.mem_of_elem_eq_true rfl)
 obtain ⟨s1, s2, s3, s4, s5, s6, s7, s8⟩ := K.subs hy.2
 replace s8 := s8 (by omega)
 clear gg
 obtain ⟨mR, r, ha, h1, h2, h3, h4, h5, h6⟩ := al_go hL.prog hL.heap hL.strict hL.w hL.c hbc hok hH (rC0 y n 0#64 (bY c 1073741840#64) c) (by
  unfold oC0
  exact (yok_cons (ule_yes (by (try simp only [w_sv, w_lit, w_hp, bY1, bY2, bY3, bY4, bY5, add_w0, BitVec.sub_zero, s1, s2, s3, s4, s5, s6, s7, s8, wI_ofNat, BitVec.toNat_add, BitVec.toNat_sub, BitVec.toNat_ofNat]); omega)) (yok_cons (h5y (by (try simp only [w_sv, w_lit, w_hp, bY1, bY2, bY3, bY4, bY5, add_w0, BitVec.sub_zero, s1, s2, s3, s4, s5, s6, s7, s8, wI_ofNat, BitVec.toNat_add, BitVec.toNat_sub, BitVec.toNat_ofNat]); omega)) yok_nil)))
 have hm0 : leF mR.mem (BitVec.ofNat 64 kp) 8 = 67108869#64 := by
  rw [← kad_of (b := bY c 1073741840#64) (i := 1) (o := 0) K.c3 (by omega)]
  exact chk_mem h6 h5 (k := (1, 0)) (v := .lit 67108869) (by simp)
 have hm1 : leF mR.mem (BitVec.ofNat 64 (kp + 8)) 8 = 1953523051#64 := by
  rw [← kad_of (b := bY c 1073741840#64) (i := 1) (o := 8) (congrArg (· + 8) K.c3) (by omega)]
  exact chk_mem h6 h5 (k := (1, 8)) (v := .lit 1953523051) (by simp)
 have htn : (c 36 + wI ((0 : Nat) : Int) : Wd64).toNat = A + v := by (try simp only [w_sv, w_lit, w_hp, bY1, bY2, bY3, bY4, bY5, add_w0, BitVec.sub_zero, s1, s2, s3, s4, s5, s6, s7, s8, wI_ofNat, BitVec.toNat_add, BitVec.toNat_sub, BitVec.toNat_ofNat]); omega
 have hm3 : leF mR.mem (kad (bY c 1073741840#64) (3, 0)) 8 = BitVec.ofNat 64 (A + v) := (chk_mem h6 h5 (k := (3, 0)) (v := .hp 4 0) (by simp)).trans (by show c 36 + wI ((0 : Nat) : Int) = _; apply BitVec.eq_of_toNat_eq; rw [htn, BitVec.toNat_ofNat]; omega)
 refine ⟨mR, _, _, p, A, O, (v + n.toNat), u, kp, 1, (A + v), n.toNat, fun j hj => h1 j (by omega), h2, h3, Kp.next K rfl h4 (by omega) (by (try simp only [w_sv, w_lit, w_hp, bY1, bY2, bY3, bY4, bY5, add_w0, BitVec.sub_zero, s1, s2, s3, s4, s5, s6, s7, s8, wI_ofNat, BitVec.toNat_add, BitVec.toNat_sub, BitVec.toNat_ofNat]); omega) (by (try simp only [w_sv, w_lit, w_hp, bY1, bY2, bY3, bY4, bY5, add_w0, BitVec.sub_zero, s1, s2, s3, s4, s5, s6, s7, s8, wI_ofNat, BitVec.toNat_add, BitVec.toNat_sub, BitVec.toNat_ofNat]); omega) (by (try simp only [w_sv, w_lit, w_hp, bY1, bY2, bY3, bY4, bY5, add_w0, BitVec.sub_zero, s1, s2, s3, s4, s5, s6, s7, s8, wI_ofNat, BitVec.toNat_add, BitVec.toNat_sub, BitVec.toNat_ofNat]); omega) (by (try simp only [w_sv, w_lit, w_hp, bY1, bY2, bY3, bY4, bY5, add_w0, BitVec.sub_zero, s1, s2, s3, s4, s5, s6, s7, s8, wI_ofNat, BitVec.toNat_add, BitVec.toNat_sub, BitVec.toNat_ofNat]); omega) (by (try simp only [w_sv, w_lit, w_hp, bY1, bY2, bY3, bY4, bY5, add_w0, BitVec.sub_zero, s1, s2, s3, s4, s5, s6, s7, s8, wI_ofNat, BitVec.toNat_add, BitVec.toNat_sub, BitVec.toNat_ofNat]); omega) (by (try simp only [w_sv, w_lit, w_hp, bY1, bY2, bY3, bY4, bY5, add_w0, BitVec.sub_zero, s1, s2, s3, s4, s5, s6, s7, s8, wI_ofNat, BitVec.toNat_add, BitVec.toNat_sub, BitVec.toNat_ofNat]); omega) (by (try simp only [w_sv, w_lit, w_hp, bY1, bY2, bY3, bY4, bY5, add_w0, BitVec.sub_zero, s1, s2, s3, s4, s5, s6, s7, s8, wI_ofNat, BitVec.toNat_add, BitVec.toNat_sub, BitVec.toNat_ofNat]); omega) ⟨by omega, by omega, by omega, by omega⟩ (.inr ⟨rfl, by omega, by omega, by omega, by omega, hm3, fun e => absurd htn.symm e⟩) (by omega) hm0 hm1, ?_⟩
 have hto : (YV.w (bY c 1073741840#64) (.hp 4 0)).toNat = A + v := htn
 rw [hto]
 exact ⟨by omega, by omega, by omega, by omega, fun e => by omega⟩
end
end Go.Proofs.YtpgbpdnmjeoeoaaGreat.G
