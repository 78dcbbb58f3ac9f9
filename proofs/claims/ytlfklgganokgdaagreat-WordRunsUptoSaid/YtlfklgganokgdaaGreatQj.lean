/-
  TEXTS JOINED: Wk29, Wk30, Wk31, We0, We, Wf, Wk32, Wk33, Zk3, Zb.
-/
import Derived.Test.YtlfklgganokgdaaGreatQi
set_option linter.unusedSimpArgs false
set_option linter.unusedVariables false
set_option linter.unusedSectionVars false
set_option linter.unnecessarySimpa false
set_option maxHeartbeats 64000000
namespace Go.Proofs.YtlfklgganokgdaaGreat
open Go Go.RowKit

theorem V.readV_len {nb : Nat} {p : V.PW} (h : V.RP nb p) (fd n : Int) : (V.readV fd n p).1.length ≤ nb := by
 unfold V.readV
 split
 ·have := h.pb.sin
  rw [List.length_take]; omega
 split
 ·simp only [List.length_take, List.length_drop]
  cases hg : V.getP (p.opn.getD fd.toNat default).name p.files with
  | none => simp
  | some b =>
   have := h.pb.fl _ (V.getP_mem hg)
   simp only [Option.getD_some]
   dsimp only at this
   omega
 exact Nat.zero_le _
theorem reads66 (s pg wb wm : Nat) (cc : Pc) (lab cl : T) (l : List Pg) (ws : V.WS) (nb : Nat) (hl : PgOk l) (hd : cc.prog.data.length ≤ 1048576) (hz0 : 0 ≤ cc.prog.zero) (hz1 : cc.prog.zero ≤ 268435456) (hw : V.RP nb (V.absW ws)) (hnb : nb ≤ 549755813888) (fd : Int) (a n : Wd64) :
    ACalls Tryz.prog 83 [pv s, zi fd, zw a, zw n] ((Ent.box s 83 (psC (psOf cc lab (V.wp wb) (mapT pg)) cl) :: memE 129 pg l) ++ V.WSt wb wm ws) (fun t S => t = zi (rdM cc (getM l) (V.absW ws) fd a n).n ∧ ∃ l' ws', S = ((Ent.box s 83 (psC (psOf cc lab (V.wp wb) (mapT pg)) cl) :: memE 129 pg l') ++ V.WSt wb wm ws') ∧ PgOk l' ∧ getM l' = (rdM cc (getM l) (V.absW ws) fd a n).mem ∧ V.absW ws' = (rdM cc (getM l) (V.absW ws) fd a n).w) := by
 refine ai Tryz.func83 Tryz.ntmps83 fun X w0 => ?_
 refine rs (y1 ?_)
 refine nl (sq (rs (y1 ?_)))
 refine Y1 (Yv.gtrW (b := 2147483648#64) rfl eV eV) (nl ?_)
 refine cq (fun h0t => ?_) fun h0f => ?_
 ·refine rs (y1 (nl ?_))
  refine rt ?_
  rw [rdM, if_pos h0t]
  exact ⟨rfl, l, ws, rfl, hl, rfl, rfl⟩
 refine sp (sq (rs (y1 ?_)))
 refine Y1 (Yv.gtrW (b := 0#64) rfl eV eV) ?_
 refine y4 ?_
 refine AWL.callKgT rfl rfl rfl rfl (B rfl) rfl ce_44 (E rfl rfl) (evsC (Eg rfl rfl id) (evsC (Eg rfl rfl id) (evsC (Eg rfl rfl id) evs0))) (S1 := [Ent.box s 83 (psC (psOf cc lab (V.wp wb) (mapT pg)) cl)]) (S2 := _) rfl (fun hg => there64 s (psOf cc lab (V.wp wb) (mapT pg)) cl a n hd hz0 hz1) (fun t S h => h) ?_
 refine y2 (nl ?_)
 refine cq (fun h1t => ?_) fun h1f => ?_
 ·have hbad : badMem cc a n = true := h1t
  refine rs (y1 (nl ?_))
  refine rt ?_
  rw [rdM, if_neg h0f, if_pos hbad]
  exact ⟨rfl, l, ws, rfl, hl, rfl, rfl⟩
 have hbad : badMem cc a n = false := h1f
 refine sp (rs (y6 ?_))
 refine cE ce_102 (Ent.box s 83 (psC (psOf cc lab (V.wp wb) (mapT pg)) cl) :: memE 129 pg l) _ rfl rfl rfl (V.rSysRead wb wm ws nb hw hnb fd n.toNat (by have := n.isLt; omega)) ?_
 rintro t30 S30 ⟨rfl, ws2, hws2, rfl⟩
 have hTl : (V.readV fd (n.toNat : Int) (V.absW ws)).1.length ≤ 549755813888 := Nat.le_trans (V.readV_len hw fd _) hnb
 refine y5 ?_
 refine nl (sq (rs (y3 ?_)))
 refine nl (bk ?_)
 refine lp2 (fun (k : Nat) (l2 : List Pg) => [(0, true, pv s), (2, true, zw a), (9, true, sv (V.readV fd (n.toNat : Int) (V.absW ws)).1), (10, true, zi (V.readV fd (n.toNat : Int) (V.absW ws)).2), (34, true, .v (.int .i64 ((V.readV fd (n.toNat : Int) (V.absW ws)).1.length : Int))), (35, true, zv k)]) (fun (k : Nat) (l2 : List Pg) => ((Ent.box s 83 (psC (psOf cc lab (V.wp wb) (mapT pg)) cl) :: memE 129 pg l2) ++ V.WSt wb wm ws2)) (fun (k : Nat) (l2 : List Pg) => k ≤ (V.readV fd (n.toNat : Int) (V.absW ws)).1.length ∧ PgOk l2 ∧ getM l2 = putsN (getM l) a (V.readV fd (n.toNat : Int) (V.absW ws)).1 k) (fun (k : Nat) (l2 : List Pg) => (V.readV fd (n.toNat : Int) (V.absW ws)).1.length - k) 0 l ?_ ?_
 ·exact ⟨Nat.zero_le _, hl, rfl⟩
 intro k l2 ⟨hk0, hl2, hg2⟩
 refine rs (y1 ?_)
 refine nl (sq ?_)
 refine cq (fun _ => ?_) fun _ => ?_
 ·refine sp (sq (bk (rs (y2 ?_))))
  refine nl (rg (y3 ?_))
  refine Y1 (Yv.convW rfl Tryz.underlying3 kd_29 eV) ?_
  refine Y1 (Yv.addW rfl eV eV) ?_
  refine y2 ?_
  refine Y1 (Yv.indexL rfl st_9 eV eV (fun hg => ⟨rfl, by omega⟩)) ?_
  refine kc (put30 s pg (psOf cc lab (V.wp wb) (mapT pg)) cl l2 rfl hl2 (a + wI (k : Int)) ((V.readV fd (n.toNat : Int) (V.absW ws)).1.getD k 0)) ?_
  rintro t46 S46 ⟨rfl, l3, rfl, hl3, hg3⟩
  refine nl (rg (y2 (nl ?_)))
  refine ⟨k + 1, l3, ⟨by omega, hl3, by rw [hg3, hg2]; rfl⟩, by omega, sbZ, rfl⟩
 obtain rfl : k = (V.readV fd (n.toNat : Int) (V.absW ws)).1.length := by omega
 refine xt (rs (y2 (nl ?_)))
 refine rt ?_
 rw [rdM, if_neg h0f, if_neg (by rw [hbad]; decide)]
 exact ⟨rfl, l2, ws2, rfl, hl2, hg2, hws2⟩

theorem bytes_len (m : Mf) (a : Wd64) (n : Nat) : (bytesAt m a n).length = n := by unfold bytesAt; simp
def bJ (m : Mf) (a : Wd64) (n k : Nat) : List UInt8 := bytesAt m a k ++ List.replicate (n - k) 0
theorem bj_len {m : Mf} {a : Wd64} {n k : Nat} (h : k ≤ n) : (bJ m a n k).length = n := by
 unfold bJ; rw [List.length_append, bytes_len, List.length_replicate]; omega
theorem bj_zero {m : Mf} {a : Wd64} {n : Nat} : (List.replicate n ([Value.int .u8 0].map T.v)).flatten = (bJ m a n 0).map u8 := by
 rw [mk_rep]
 show _ = (([] : List UInt8) ++ List.replicate (n - 0) 0).map u8
 rw [List.nil_append, Nat.sub_zero, List.map_replicate]; rfl
theorem bj_all {m : Mf} {a : Wd64} {n : Nat} : bJ m a n n = bytesAt m a n := by
 unfold bJ; rw [Nat.sub_self]; simp
theorem bytes_succ (m : Mf) (a : Wd64) (k : Nat) : bytesAt m a (k + 1) = bytesAt m a k ++ [m (a + wI (k : Int))] := by
 unfold bytesAt
 rw [List.range_succ, List.map_append]; rfl
theorem bj_succ {m : Mf} {a : Wd64} {n k : Nat} (h : k < n) : ((bJ m a n k).map u8).set (k * 1) (u8 (m (a + wI (k : Int)))) = (bJ m a n (k + 1)).map u8 := by
 rw [Nat.mul_one, ← List.map_set]
 congr 1
 unfold bJ
 rw [bytes_succ, show n - k = (n - (k + 1)) + 1 by omega, List.replicate_succ, List.set_append_right _ _ (by rw [bytes_len]; exact Nat.le_refl _), bytes_len, Nat.sub_self, List.append_assoc]
 rfl
theorem writes67 (s pg wb wm : Nat) (cc : Pc) (lab cl : T) (l : List Pg) (ws : V.WS) (nb : Nat) (hl : PgOk l) (hd : cc.prog.data.length ≤ 1048576) (hz0 : 0 ≤ cc.prog.zero) (hz1 : cc.prog.zero ≤ 268435456) (hw : V.RP nb (V.absW ws)) (hnb : nb ≤ 549755813888) (fd : Int) (a n : Wd64) :
    ACalls Tryz.prog 84 [pv s, zi fd, zw a, zw n] ((Ent.box s 83 (psC (psOf cc lab (V.wp wb) (mapT pg)) cl) :: memE 129 pg l) ++ V.WSt wb wm ws) (fun t S => t = zi (wrM cc (getM l) (V.absW ws) fd a n).n ∧ ∃ l' ws', S = ((Ent.box s 83 (psC (psOf cc lab (V.wp wb) (mapT pg)) cl) :: memE 129 pg l') ++ V.WSt wb wm ws') ∧ PgOk l' ∧ getM l' = (wrM cc (getM l) (V.absW ws) fd a n).mem ∧ V.absW ws' = (wrM cc (getM l) (V.absW ws) fd a n).w) := by
 refine lsr (R := (fun t S => t = zi (wrM cc (getM l) (V.absW ws) fd a n).n ∧ ∃ ws', (((Ent.box s 83 (psC (psOf cc lab (V.wp wb) (mapT pg)) cl) :: memE 129 pg l) ++ V.WSt wb wm ws')).Sublist S ∧ getM l = (wrM cc (getM l) (V.absW ws) fd a n).mem ∧ V.absW ws' = (wrM cc (getM l) (V.absW ws) fd a n).w)) (fun t S' ⟨h1, ws', h2, h3, h4⟩ => ⟨_, h2, h1, l, ws', rfl, hl, h3, h4⟩) ?_
 refine ai Tryz.func84 Tryz.ntmps84 fun X w0 => ?_
 refine rs (y1 ?_)
 refine nl (sq (rs (y1 ?_)))
 refine Y1 (Yv.gtrW (b := 2147483648#64) rfl eV eV) (nl ?_)
 refine cq (fun h0t => ?_) fun h0f => ?_
 ·refine rs (y1 (nl ?_))
  refine rt ?_
  rw [wrM, if_pos h0t]
  exact ⟨rfl, ws, List.Sublist.refl _, rfl, rfl⟩
 have hn31 : n.toNat ≤ 2147483648 := by
  have h := BitVec.not_lt.1 h0f
  rw [BitVec.le_def] at h
  exact h
 refine sp (sq (rs (y1 ?_)))
 refine Y1 (Yv.gtrW (b := 0#64) rfl eV eV) ?_
 refine y4 ?_
 refine AWL.callKgT rfl rfl rfl rfl (B rfl) rfl ce_44 (E rfl rfl) (evsC (Eg rfl rfl id) (evsC (Eg rfl rfl id) (evsC (Eg rfl rfl id) evs0))) (S1 := [Ent.box s 83 (psC (psOf cc lab (V.wp wb) (mapT pg)) cl)]) (S2 := _) rfl (fun hg => there64 s (psOf cc lab (V.wp wb) (mapT pg)) cl a n hd hz0 hz1) (fun t S h => h) ?_
 refine y2 (nl ?_)
 refine cq (fun h1t => ?_) fun h1f => ?_
 ·have hbad : badMem cc a n = true := h1t
  refine rs (y1 (nl ?_))
  refine rt ?_
  rw [wrM, if_neg h0f, if_pos hbad]
  exact ⟨rfl, ws, List.Sublist.refl _, rfl, rfl⟩
 have hbad : badMem cc a n = false := h1f
 refine sp (rs (y1 ?_))
 refine AWL.makeRow (n := n.toNat) (c := n.toNat) rfl rfl (B rfl) rfl el_23 (E rfl rfl) (E rfl rfl) (Nat.le_refl _) (by omega) (by unfold maxLen; omega) (fun A23 => ?_)
 refine AWL.perm (List.perm_append_singleton _ _).symm ?_
 refine y1 (nl ?_)
 rw [bj_zero]
 refine sq (rs (y3 ?_))
 refine nl (bk ?_)
 refine lp1 (fun (k : Nat) => [(0, true, pv s), (1, true, zi fd), (2, true, zw a), (9, true, .v (.slice A23 n.toNat n.toNat)), (25, true, .v (.int .i64 (n.toNat : Int))), (26, true, zv k)]) (fun (k : Nat) => (Ent.row A23 n.toNat n.toNat 5 1 ((bJ (getM l) a n.toNat k).map u8) :: ((Ent.box s 83 (psC (psOf cc lab (V.wp wb) (mapT pg)) cl) :: memE 129 pg l) ++ V.WSt wb wm ws))) (fun (k : Nat) => k ≤ n.toNat) (fun (k : Nat) => n.toNat - k) 0 ?_ ?_
 ·exact Nat.zero_le _
 intro k hk0
 refine rs (y1 ?_)
 refine nl (sq ?_)
 refine cq (fun _ => ?_) fun _ => ?_
 ·refine sp (sq (bk (rs (y2 ?_))))
  refine nl (rg (y5 ?_))
  refine Y1 (Yv.convW rfl Tryz.underlying3 kd_29 eV) ?_
  refine Y1 (Yv.addW rfl eV eV) ?_
  refine AWL.callKP rfl rfl (B rfl) rfl ce_47 (E rfl rfl) (evsC (E rfl rfl) (evsC (E rfl rfl) evs0)) (S1 := (Ent.box s 83 (psC (psOf cc lab (V.wp wb) (mapT pg)) cl) :: memE 129 pg l)) (S2 := (Ent.row A23 n.toNat n.toNat 5 1 ((bJ (getM l) a n.toNat k).map u8) :: V.WSt wb wm ws)) (List.perm_middle (a := Ent.row A23 n.toNat n.toNat 5 1 ((bJ (getM l) a n.toNat k).map u8)) (l₁ := (Ent.box s 83 (psC (psOf cc lab (V.wp wb) (mapT pg)) cl) :: memE 129 pg l)) (l₂ := V.WSt wb wm ws)).symm (get65 s pg (psOf cc lab (V.wp wb) (mapT pg)) cl l rfl hl (a + wI (k : Int))) (fun t S h => h) ?_
  refine Y1 (ix (j := k) (hj := fun hg => ⟨rfl, by omega⟩)) ?_
  refine AWL.storeEp1 (i := 0) rfl rfl rfl ag_5 rfl (E rfl rfl) (E rfl rfl) rfl rfl (by rw [List.length_map, bj_len (by omega)]; omega) ?_
  refine nl (rg (y2 (nl ?_)))
  refine ⟨k + 1, by omega, by omega, sbZ, ?_⟩
  rw [← bj_succ (show k < n.toNat by omega)]
  rfl
 obtain rfl : k = n.toNat := by omega
 refine xt ?_
 refine AW.rseqP rfl ?_
 refine phn 7 2 ?_
 refine q6 ?_
 rw [bj_all]
 refine Q1 (Yv.bytesStrRow (i := 0) rfl by_23 st_9 rfl eV) ?_
 refine nq ?_
 refine op 7 ?_
 refine cE ce_103 (Ent.row A23 n.toNat n.toNat 5 1 ((bytesAt (getM l) a n.toNat).map u8) :: (Ent.box s 83 (psC (psOf cc lab (V.wp wb) (mapT pg)) cl) :: memE 129 pg l)) _ rfl rfl rfl (V.rSysWrite wb wm ws nb hw hnb fd (bytesAt (getM l) a n.toNat) (by rw [bytes_len]; omega)) ?_
 rintro t46 S46 ⟨rfl, ws2, hws2, rfl⟩
 refine nl ?_
 refine op 8 ?_
 refine y1 (nl ?_)
 refine dn ?_
 refine rt ?_
 rw [wrM, if_neg h0f, if_neg (by rw [hbad]; decide)]
 exact ⟨rfl, ws2, List.sublist_cons_self _ _, rfl, hws2⟩

theorem u8_is0 {x : UInt8} (h : ((x.toNat : Nat) : Int) = 0) : x = 0 := UInt8.toNat_inj.1 (by show x.toNat = 0; omega)
theorem u8_not0 {x : UInt8} (h : ¬ ((x.toNat : Nat) : Int) = 0) : ¬ x = 0 := fun e => h (by rw [e]; rfl)
theorem or_not {p q : Bool} (h : (p || !q) = true) : p = true ∨ q = false := by cases p <;> cases q <;> simp_all
theorem nor_not {p q : Bool} (h : (p || !q) = false) : ¬ (p = true ∨ q = false) := by cases p <;> cases q <;> simp_all
theorem wI_succ (k : Nat) : wI (k : Int) + 1#64 = wI ((k + 1 : Nat) : Int) := by
 unfold wI
 rw [BitVec.ofInt_natCast, BitVec.ofInt_natCast]
 apply BitVec.eq_of_toNat_eq
 simp
theorem wI_small {k : Nat} (h : k ≤ 256) : (wI (k : Int)).toNat = k := by
 have := wI_nat (k : Int)
 rw [wrap_u64] at this
 omega
theorem wI_lt {k : Nat} (h : wI (k : Int) < 256#64) (hk : k ≤ 256) : k < 256 := by
 rw [BitVec.lt_def, wI_small hk] at h
 exact h
theorem wI_nlt {k : Nat} (hk : k ≤ 256) (h : ¬ wI (k : Int) < 256#64) : k = 256 := by
 rw [BitVec.lt_def, wI_small hk] at h
 have : ¬ k < 256 := h
 omega
theorem opens68 (s pg wb wm : Nat) (cc : Pc) (lab cl : T) (l : List Pg) (ws : V.WS) (nb : Nat) (hl : PgOk l) (hd : cc.prog.data.length ≤ 1048576) (hz0 : 0 ≤ cc.prog.zero) (hz1 : cc.prog.zero ≤ 268435456) (hw : V.RP nb (V.absW ws)) (hnb : nb ≤ 549755813888) (a : Wd64) (fl : Int) :
    ACalls Tryz.prog 85 [pv s, zw a, zi fl] ((Ent.box s 83 (psC (psOf cc lab (V.wp wb) (mapT pg)) cl) :: memE 129 pg l) ++ V.WSt wb wm ws) (fun t S => t = zi (opM cc (getM l) (V.absW ws) a fl).n ∧ ∃ l' ws', S = ((Ent.box s 83 (psC (psOf cc lab (V.wp wb) (mapT pg)) cl) :: memE 129 pg l') ++ V.WSt wb wm ws') ∧ PgOk l' ∧ getM l' = (opM cc (getM l) (V.absW ws) a fl).mem ∧ V.absW ws' = (opM cc (getM l) (V.absW ws) a fl).w) := by
 refine lsr (R := (fun t S => t = zi (opM cc (getM l) (V.absW ws) a fl).n ∧ ∃ ws', (((Ent.box s 83 (psC (psOf cc lab (V.wp wb) (mapT pg)) cl) :: memE 129 pg l) ++ V.WSt wb wm ws')).Sublist S ∧ getM l = (opM cc (getM l) (V.absW ws) a fl).mem ∧ V.absW ws' = (opM cc (getM l) (V.absW ws) a fl).w)) (fun t S' ⟨h1, ws', h2, h3, h4⟩ => ⟨_, h2, h1, l, ws', rfl, hl, h3, h4⟩) ?_
 refine ai Tryz.func85 Tryz.ntmps85 fun X w0 => ?_
 refine rs (y1 ?_)
 refine nl (rs (y1 (nl ?_)))
 refine AW.rowNil 5 1 ?_
 refine AW.perm (List.perm_append_singleton _ _).symm ?_
 refine sq (rs (y1 ?_))
 refine nl (bk ?_)
 refine lp4 (fun (k : Nat) (acc : List UInt8) (A : Option Addr) (c : Nat) => [(0, true, pv s), (1, true, zw a), (2, true, zi fl), (7, true, .v (.slice A acc.length c)), (10, true, zw (wI (k : Int)))]) (fun (k : Nat) (acc : List UInt8) (A : Option Addr) (c : Nat) => (Ent.row A acc.length c 5 1 (acc.map u8) :: ((Ent.box s 83 (psC (psOf cc lab (V.wp wb) (mapT pg)) cl) :: memE 129 pg l) ++ V.WSt wb wm ws))) (fun (k : Nat) (acc : List UInt8) (A : Option Addr) (c : Nat) => (k ≤ 256 ∧ acc.length = k) ∧ nameF (fun z => thereC cc z 1#64) (getM l) a (256 - k) k acc = nameF (fun z => thereC cc z 1#64) (getM l) a 256 0 []) (fun (k : Nat) (acc : List UInt8) (A : Option Addr) (c : Nat) => 256 - k) 0 ([]) none 0 ?_ ?_
 ·exact ⟨⟨by decide, rfl⟩, rfl⟩
 intro k acc A c ⟨⟨hk0, hacc⟩, hnm⟩
 refine rs ?_
 refine Y1 (Yv.lssW (b := 256#64) rfl eV eV) ?_
 refine nl (sq ?_)
 refine cq (fun h0t => ?_) fun h0f => ?_
 ·have hk6 : k < 256 := wI_lt h0t hk0
  refine sp (sq (bk (rs (y2 ?_))))
  refine nl (sq ?_)
  refine AW.perm (S' := Ent.box s 83 (psC (psOf cc lab (V.wp wb) (mapT pg)) cl) :: Ent.row A acc.length c 5 1 (acc.map u8) :: (memE 129 pg l ++ V.WSt wb wm ws)) (List.Perm.swap _ _ _) ?_
  refine rs (y2 ?_)
  refine Y1 (Yv.addW rfl eV eV) ?_
  refine y1 ?_
  refine Y1 (Yv.lssW rfl eV eV) ?_
  refine y4 ?_
  refine gF (Yv.addW rfl (Eg rfl rfl id) (Eg rfl rfl id)) ?_
  refine AWL.callKgF rfl rfl rfl rfl (B rfl) rfl ce_44 (E rfl rfl) (evsC (Eg rfl rfl id) (evsC (Eg rfl rfl id) (evsC (E rfl rfl) evs0))) (S1 := [Ent.box s 83 (psC (psOf cc lab (V.wp wb) (mapT pg)) cl)]) (S2 := _) rfl (fun hg => there64 s (psOf cc lab (V.wp wb) (mapT pg)) cl (a + wI (k : Int)) 1#64 hd hz0 hz1) (fun t S h => h) ?_
  refine y2 (nl ?_)
  refine AW.perm (S' := Ent.row A acc.length c 5 1 (acc.map u8) :: ((Ent.box s 83 (psC (psOf cc lab (V.wp wb) (mapT pg)) cl) :: memE 129 pg l) ++ V.WSt wb wm ws)) (List.Perm.swap _ _ _) ?_
  refine cq (fun h1t => ?_) fun h1f => ?_
  ·have hth : decide ((a + wI (k : Int)) < a) = true ∨ (fun z => thereC cc z 1#64) (a + wI (k : Int)) = false := or_not h1t
   refine rs (y1 (nl ?_))
   refine rt ?_
   have hn : nameF (fun z => thereC cc z 1#64) (getM l) a 256 0 [] = .bad := by rw [← hnm, show 256 - k = (256 - (k + 1)) + 1 by omega, nameF, if_pos hth]
   rw [opM, hn]
   exact ⟨rfl, ws, List.sublist_cons_self _ _, rfl, rfl⟩
  have hth : ¬ (decide ((a + wI (k : Int)) < a) = true ∨ (fun z => thereC cc z 1#64) (a + wI (k : Int)) = false) := nor_not h1f
  refine sp (rs (y3 ?_))
  refine Y1 (Yv.addW rfl eV eV) ?_
  refine AWL.callKP rfl rfl (B rfl) rfl ce_47 (E rfl rfl) (evsC (E rfl rfl) (evsC (E rfl rfl) evs0)) (S1 := (Ent.box s 83 (psC (psOf cc lab (V.wp wb) (mapT pg)) cl) :: memE 129 pg l)) (S2 := (Ent.row A acc.length c 5 1 (acc.map u8) :: V.WSt wb wm ws)) (List.perm_middle (a := Ent.row A acc.length c 5 1 (acc.map u8)) (l₁ := (Ent.box s 83 (psC (psOf cc lab (V.wp wb) (mapT pg)) cl) :: memE 129 pg l)) (l₂ := V.WSt wb wm ws)).symm (get65 s pg (psOf cc lab (V.wp wb) (mapT pg)) cl l rfl hl (a + wI (k : Int))) (fun t S h => h) ?_
  refine y1 ?_
  refine nl (sq (rs (y2 (nl ?_))))
  refine cq (fun h2t => ?_) fun h2f => ?_
  ·have h0 : getM l (a + wI (k : Int)) = 0 := u8_is0 h2t
   refine AW.rseqP rfl ?_
   refine phn 7 2 ?_
   refine q5 ?_
   refine Q1 (Yv.bytesStrRow (i := 0) rfl by_23 st_9 rfl eV) ?_
   refine q1 (nq ?_)
   refine op 7 ?_
   refine cE ce_104 (Ent.row A acc.length c 5 1 (acc.map u8) :: (Ent.box s 83 (psC (psOf cc lab (V.wp wb) (mapT pg)) cl) :: memE 129 pg l)) _ rfl rfl rfl (V.rSysOpen wb wm ws nb hw hnb acc fl) ?_
   rintro t40 S40 ⟨rfl, ws2, hws2, rfl⟩
   refine nl ?_
   refine op 8 ?_
   refine y1 (nl ?_)
   refine dn ?_
   refine rt ?_
   have hn : nameF (fun z => thereC cc z 1#64) (getM l) a 256 0 [] = .is acc := by rw [← hnm, show 256 - k = (256 - (k + 1)) + 1 by omega, nameF, if_neg hth, if_pos h0]
   rw [opM, hn]
   exact ⟨rfl, ws2, List.sublist_cons_self _ _, rfl, hws2⟩
  replace h2f : ¬ getM l (a + wI (k : Int)) = 0 := u8_not0 h2f
  refine sp (rg (y2 ?_))
  refine AWL.buildSlice1 rfl rfl (B rfl) rfl el_23 rfl (evsC (E rfl rfl) evs0) nB rfl rfl ?_
  refine AWL.appendRow (i := 0) rfl rfl (B rfl) rfl el_23 (B rfl) rfl (E rfl rfl) (SrcT.sl so_23 (B rfl) (E rfl rfl) rfl) (by unfold maxLen; omega) (by omega) (fun A44 c44 => ?_)
  refine y1 ?_
  refine nl (rg ?_)
  refine Y1 (Yv.addW (b := 1#64) rfl eV eV) ?_
  refine y1 (nl ?_)
  refine ⟨k + 1, acc ++ [getM l (a + wI (k : Int))], A44, c44, ⟨⟨by omega, by rw [List.length_append, hacc]; rfl⟩, ?_⟩, by omega, (su (su (su (Sub.cons rfl (by rw [List.length_append]; rfl) (Sub.cons rfl (by rw [← wI_succ]) Sub.nil))))), ?_⟩
  ·rw [← hnm, show 256 - k = (256 - (k + 1)) + 1 by omega, nameF, if_neg hth, if_neg h2f]
  rw [List.length_append, List.map_append]
  rfl
 have hk6 : k = 256 := wI_nlt hk0 h0f
 refine xt (rs (y1 (nl ?_)))
 refine rt ?_
 have hn : nameF (fun z => thereC cc z 1#64) (getM l) a 256 0 [] = .long := by rw [← hnm, hk6]; rfl
 rw [opM, hn]
 exact ⟨rfl, ws, List.sublist_cons_self _ _, rfl, rfl⟩


def sX (x : Fr) (i : Ins) (k j : Nat) : Wd64 := if k < j then rA x (i.args.getD k default) else 0#64
theorem sx_succ {x : Fr} {i : Ins} {k : Nat} (h : k < 3) : [zw (sX x i 0 k), zw (sX x i 1 k), zw (sX x i 2 k)].take (0 + k * 1) ++ cellsT (zw (x.r.getD (i.args.getD k default).toNat 0#64)) ++ [zw (sX x i 0 k), zw (sX x i 1 k), zw (sX x i 2 k)].drop (0 + k * 1 + 1) = [zw (sX x i 0 (k + 1)), zw (sX x i 1 (k + 1)), zw (sX x i 2 (k + 1))] := by
 have : k = 0 ∨ k = 1 ∨ k = 2 := by omega
 rcases this with rfl | rfl | rfl <;> rfl
theorem toSys {A W E : St} {X : Ent} : ((X :: E) ++ (W ++ A)).Perm (A ++ X :: (W ++ E)) := by
 refine List.Perm.trans ?_ List.perm_middle.symm
 refine List.Perm.cons X ?_
 rw [← List.append_assoc]
 refine List.perm_append_comm.trans ?_
 exact (List.perm_append_comm (l₁ := W) (l₂ := A)).append_right E
theorem sub_fin2 (X Y W A : St) : ((X ++ Y) ++ W).Sublist (X ++ (Y ++ (W ++ A))) := by
 rw [List.append_assoc]
 exact ((List.sublist_append_left W A).append_left Y).append_left X
theorem sub_fin (X W A : St) : (X ++ W).Sublist (X ++ (W ++ A)) := (List.sublist_append_left W A).append_left X
theorem call55_ (s g n c pg wb wm : Nat) (cc : Pc) (lab : T) (pre : List T) (x : Fr) (a : FA) (i : Ins) (l : List Pg) (ws : V.WS) (nb : Nat) (hx : FrOk x) (hl : PgOk l) (hd : cc.prog.data.length ≤ 1048576) (hz0 : 0 ≤ cc.prog.zero) (hz1 : cc.prog.zero ≤ 268435456) (hw : V.RP nb (V.absW ws)) (hnb : nb ≤ 549755813888) (har : ∀ r ∈ i.args, 0 ≤ r ∧ r < (x.nr : Int)) (hg : i.args.length ≤ 3) :
    ACalls Tryz.prog 65 [pv s, .ep (.slice (sg g) n c) pre.length, .agg (insCells i)] ([Ent.box s 83 (psC (psOf cc lab (V.wp wb) (mapT pg)) (.v (.slice (sg g) n c))), Ent.row (sg g) n c 104 7 (pre ++ frC x a)] ++ frR x a ++ (memE 129 pg l ++ V.WSt wb wm ws)) (fun t S => if i.imm = 60 then t = .tup [zw (wI 0), bv true] ∧ ((Ent.box s 83 (psC (psOf { cc with st := 1, code := codeOf (sysA x i 0) } lab (V.wp wb) (mapT pg)) (.v (.slice (sg g) n c))) :: memE 129 pg l ++ V.WSt wb wm ws) ++ ([Ent.row (sg g) n c 104 7 (pre ++ frC x a)] ++ frR x a)).Sublist S else match sysR (Mc.mk cc x [] (getM l) (V.absW ws)) i with
    | none => t = .tup [zw 0#64, bv false] ∧ ((Ent.box s 83 (psC (psOf cc lab (V.wp wb) (mapT pg)) (.v (.slice (sg g) n c))) :: memE 129 pg l ++ V.WSt wb wm ws) ++ ([Ent.row (sg g) n c 104 7 (pre ++ frC x a)] ++ frR x a)).Sublist S
    | some r => t = .tup [zw (wI r.n), bv true] ∧ ∃ l' ws', ((Ent.box s 83 (psC (psOf cc lab (V.wp wb) (mapT pg)) (.v (.slice (sg g) n c))) :: memE 129 pg l' ++ V.WSt wb wm ws') ++ ([Ent.row (sg g) n c 104 7 (pre ++ frC x a)] ++ frR x a)).Sublist S ∧ PgOk l' ∧ getM l' = r.mem ∧ V.absW ws' = r.w) := by
 have hl1 := hx.r
 refine ai Tryz.func65 Tryz.ntmps65 fun X w0 => ?_
 refine rs ?_
 refine bg fun b5 => ?_
 refine y2 ?_
 refine nl (rs ?_)
 refine bg fun b8 => ?_
 refine nl (sq (rs (y4 ?_)))
 refine nl (bk ?_)
 refine lp1 (fun (k : Nat) => [(0, true, pv s), (1, true, .ep (.slice (sg g) n c) pre.length), (5, true, pv b5), (8, true, pv b8), (13, true, .sl 1 (i.args.map zi)), (14, true, .v (.int .i64 (i.args.length : Int))), (15, true, zv k)]) (fun (k : Nat) => ([Ent.box b8 164 [zw (sX x i 0 k), zw (sX x i 1 k), zw (sX x i 2 k)], Ent.box b5 90 (insCells i)] ++ ([Ent.box s 83 (psC (psOf cc lab (V.wp wb) (mapT pg)) (.v (.slice (sg g) n c))), Ent.row (sg g) n c 104 7 (pre ++ frC x a)] ++ frR x a ++ (memE 129 pg l ++ V.WSt wb wm ws)))) (fun (k : Nat) => k ≤ i.args.length) (fun (k : Nat) => i.args.length - k) 0 ?_ ?_
 ·exact Nat.zero_le _
 intro k hinv
 refine rs (y1 ?_)
 refine nl (sq ?_)
 refine cq (fun _ => ?_) fun _ => ?_
 ·have hk : k < i.args.length := by omega
  have hkr := har _ (getD_mem (l := i.args) hk)
  refine sp (sq (bk (rs (y5 ?_))))
  refine nl (rg (y8 ?_))
  refine Y1 (Yv.indexArr (j := k) rfl ar_164 eV eV (fun hg => ⟨rfl, by omega⟩)) ?_
  refine AWL.storeBox (i := 0) rfl rfl rfl ag_29 rfl (E rfl rfl) (E rfl rfl) rfl rfl (by show 0 + k * 1 + 1 ≤ 3; omega) ?_
  refine nl (rg (y2 (nl ?_)))
  refine ⟨k + 1, by omega, by omega, sbZ, ?_⟩
  rw [← sx_succ (show k < 3 by omega)]
  rfl
 obtain rfl : k = i.args.length := by omega
 refine xt (rs (y1 ?_))
 refine nl (sq (rs (y2 ?_)))
 refine nl (bk (rs (y2 (nl ?_))))
 refine cq (fun _ => ?_) fun _ => ?_
 ·refine rg (y1 ?_)
  refine Y1 (Yv.indexArr (j := 0) rfl ar_164 (E rfl rfl) (E rfl rfl) (fun hg => ⟨rfl, by decide⟩)) ?_
  refine y1 ?_
  refine Y1 (Yv.conv rfl Tryz.underlying29 kd_2 eV) ?_
  refine Y1 (Yv.indexArr (j := 1) rfl ar_164 (E rfl rfl) (E rfl rfl) (fun hg => ⟨rfl, by decide⟩)) ?_
  refine y1 ?_
  refine Y1 (Yv.indexArr (j := 2) rfl ar_164 (E rfl rfl) (E rfl rfl) (fun hg => ⟨rfl, by decide⟩)) ?_
  refine y1 ?_
  refine AWL.perm (S' := (Ent.box s 83 (psC (psOf cc lab (V.wp wb) (mapT pg)) (.v (.slice (sg g) n c))) :: memE 129 pg l ++ V.WSt wb wm ws) ++ (([Ent.row (sg g) n c 104 7 (pre ++ frC x a)] ++ frR x a) ++ [Ent.box b8 164 [zw (sX x i 0 i.args.length), zw (sX x i 1 i.args.length), zw (sX x i 2 i.args.length)], Ent.box b5 90 (insCells i)])) (toSys (A := [Ent.box b8 164 [zw (sX x i 0 i.args.length), zw (sX x i 1 i.args.length), zw (sX x i 2 i.args.length)], Ent.box b5 90 (insCells i)]) (X := Ent.box s 83 (psC (psOf cc lab (V.wp wb) (mapT pg)) (.v (.slice (sg g) n c)))) (W := ([Ent.row (sg g) n c 104 7 (pre ++ frC x a)] ++ frR x a)) (E := (memE 129 pg l ++ V.WSt wb wm ws))) ?_
  refine kc (reads66 s pg wb wm cc lab (.v (.slice (sg g) n c)) l ws nb hl hd hz0 hz1 hw hnb (sI (sX x i 0 i.args.length)) (sX x i 1 i.args.length) (sX x i 2 i.args.length)) ?_
  rintro t42 S42 ⟨rfl, l2, ws2, rfl, hl2, hm2, hw2⟩
  refine y1 ?_
  refine nl (rs (y1 ?_))
  refine Y1 (Yv.convW rfl Tryz.underlying2 kd_29 eV) ?_
  refine y2 (nl ?_)
  refine rt ?_
  rw [if_neg (by omega), show sysR (Mc.mk cc x [] (getM l) (V.absW ws)) i = some (rdM cc (getM l) (V.absW ws) (sI (sysA x i 0)) (sysA x i 1) (sysA x i 2)) from by unfold sysR; rw [if_pos (by omega)]]
  exact ⟨rfl, l2, ws2, (sub_fin _ _ _), hl2, hm2, hw2⟩
 refine rs (y2 (nl ?_))
 refine cq (fun _ => ?_) fun _ => ?_
 ·refine rg (y1 ?_)
  refine Y1 (Yv.indexArr (j := 0) rfl ar_164 (E rfl rfl) (E rfl rfl) (fun hg => ⟨rfl, by decide⟩)) ?_
  refine y1 ?_
  refine Y1 (Yv.conv rfl Tryz.underlying29 kd_2 eV) ?_
  refine Y1 (Yv.indexArr (j := 1) rfl ar_164 (E rfl rfl) (E rfl rfl) (fun hg => ⟨rfl, by decide⟩)) ?_
  refine y1 ?_
  refine Y1 (Yv.indexArr (j := 2) rfl ar_164 (E rfl rfl) (E rfl rfl) (fun hg => ⟨rfl, by decide⟩)) ?_
  refine y1 ?_
  refine AWL.perm (S' := (Ent.box s 83 (psC (psOf cc lab (V.wp wb) (mapT pg)) (.v (.slice (sg g) n c))) :: memE 129 pg l ++ V.WSt wb wm ws) ++ (([Ent.row (sg g) n c 104 7 (pre ++ frC x a)] ++ frR x a) ++ [Ent.box b8 164 [zw (sX x i 0 i.args.length), zw (sX x i 1 i.args.length), zw (sX x i 2 i.args.length)], Ent.box b5 90 (insCells i)])) (toSys (A := [Ent.box b8 164 [zw (sX x i 0 i.args.length), zw (sX x i 1 i.args.length), zw (sX x i 2 i.args.length)], Ent.box b5 90 (insCells i)]) (X := Ent.box s 83 (psC (psOf cc lab (V.wp wb) (mapT pg)) (.v (.slice (sg g) n c)))) (W := ([Ent.row (sg g) n c 104 7 (pre ++ frC x a)] ++ frR x a)) (E := (memE 129 pg l ++ V.WSt wb wm ws))) ?_
  refine kc (writes67 s pg wb wm cc lab (.v (.slice (sg g) n c)) l ws nb hl hd hz0 hz1 hw hnb (sI (sX x i 0 i.args.length)) (sX x i 1 i.args.length) (sX x i 2 i.args.length)) ?_
  rintro t53 S53 ⟨rfl, l2, ws2, rfl, hl2, hm2, hw2⟩
  refine y1 ?_
  refine nl (rs (y1 ?_))
  refine Y1 (Yv.convW rfl Tryz.underlying2 kd_29 eV) ?_
  refine y2 (nl ?_)
  refine rt ?_
  rw [if_neg (by omega), show sysR (Mc.mk cc x [] (getM l) (V.absW ws)) i = some (wrM cc (getM l) (V.absW ws) (sI (sysA x i 0)) (sysA x i 1) (sysA x i 2)) from by unfold sysR; rw [if_neg (by omega), if_pos (by omega)]]
  exact ⟨rfl, l2, ws2, (sub_fin _ _ _), hl2, hm2, hw2⟩
 refine rs (y2 (nl ?_))
 refine cq (fun _ => ?_) fun _ => ?_
 ·refine rg (y1 ?_)
  refine Y1 (Yv.indexArr (j := 0) rfl ar_164 (E rfl rfl) (E rfl rfl) (fun hg => ⟨rfl, by decide⟩)) ?_
  refine y1 ?_
  refine Y1 (Yv.indexArr (j := 1) rfl ar_164 (E rfl rfl) (E rfl rfl) (fun hg => ⟨rfl, by decide⟩)) ?_
  refine y1 ?_
  refine Y1 (Yv.conv rfl Tryz.underlying29 kd_2 eV) ?_
  refine AWL.perm (S' := (Ent.box s 83 (psC (psOf cc lab (V.wp wb) (mapT pg)) (.v (.slice (sg g) n c))) :: memE 129 pg l ++ V.WSt wb wm ws) ++ (([Ent.row (sg g) n c 104 7 (pre ++ frC x a)] ++ frR x a) ++ [Ent.box b8 164 [zw (sX x i 0 i.args.length), zw (sX x i 1 i.args.length), zw (sX x i 2 i.args.length)], Ent.box b5 90 (insCells i)])) (toSys (A := [Ent.box b8 164 [zw (sX x i 0 i.args.length), zw (sX x i 1 i.args.length), zw (sX x i 2 i.args.length)], Ent.box b5 90 (insCells i)]) (X := Ent.box s 83 (psC (psOf cc lab (V.wp wb) (mapT pg)) (.v (.slice (sg g) n c)))) (W := ([Ent.row (sg g) n c 104 7 (pre ++ frC x a)] ++ frR x a)) (E := (memE 129 pg l ++ V.WSt wb wm ws))) ?_
  refine kc (opens68 s pg wb wm cc lab (.v (.slice (sg g) n c)) l ws nb hl hd hz0 hz1 hw hnb (sX x i 0 i.args.length) (sI (sX x i 1 i.args.length))) ?_
  rintro t62 S62 ⟨rfl, l2, ws2, rfl, hl2, hm2, hw2⟩
  refine y1 ?_
  refine nl (rs (y1 ?_))
  refine Y1 (Yv.convW rfl Tryz.underlying2 kd_29 eV) ?_
  refine y2 (nl ?_)
  refine rt ?_
  rw [if_neg (by omega), show sysR (Mc.mk cc x [] (getM l) (V.absW ws)) i = some (opM cc (getM l) (V.absW ws) (sysA x i 0) (sI (sysA x i 1))) from by unfold sysR; rw [if_neg (by omega), if_neg (by omega), if_pos (by omega)]]
  exact ⟨rfl, l2, ws2, (sub_fin _ _ _), hl2, hm2, hw2⟩
 refine rs (y2 (nl ?_))
 refine cq (fun _ => ?_) fun _ => ?_
 ·refine AW.regionP rfl ?_
  refine phn 7 2 ?_
  refine q4 ?_
  refine Q1 (Yv.indexArr (j := 0) rfl ar_164 (E rfl rfl) (E rfl rfl) (fun hg => ⟨rfl, by decide⟩)) ?_
  refine q1 ?_
  refine Q1 (Yv.conv rfl Tryz.underlying29 kd_2 eV) ?_
  refine nq ?_
  refine op 7 ?_
  refine AWL.perm (S' := (Ent.box s 83 (psC (psOf cc lab (V.wp wb) (mapT pg)) (.v (.slice (sg g) n c))) :: memE 129 pg l ++ V.WSt wb wm ws) ++ (([Ent.row (sg g) n c 104 7 (pre ++ frC x a)] ++ frR x a) ++ [Ent.box b8 164 [zw (sX x i 0 i.args.length), zw (sX x i 1 i.args.length), zw (sX x i 2 i.args.length)], Ent.box b5 90 (insCells i)])) (toSys (A := [Ent.box b8 164 [zw (sX x i 0 i.args.length), zw (sX x i 1 i.args.length), zw (sX x i 2 i.args.length)], Ent.box b5 90 (insCells i)]) (X := Ent.box s 83 (psC (psOf cc lab (V.wp wb) (mapT pg)) (.v (.slice (sg g) n c)))) (W := ([Ent.row (sg g) n c 104 7 (pre ++ frC x a)] ++ frR x a)) (E := (memE 129 pg l ++ V.WSt wb wm ws))) ?_
  refine AWL.callF rfl rfl (B rfl) rfl ce_86 (E rfl rfl) (evsC (E rfl rfl) (evsC (E rfl rfl) evs0)) (F1 := (Ent.box s 83 (psC (psOf cc lab (V.wp wb) (mapT pg)) (.v (.slice (sg g) n c))) :: memE 129 pg l)) (S1 := (V.WSt wb wm ws)) (F2 := (([Ent.row (sg g) n c 104 7 (pre ++ frC x a)] ++ frR x a) ++ [Ent.box b8 164 [zw (sX x i 0 i.args.length), zw (sX x i 1 i.args.length), zw (sX x i 2 i.args.length)], Ent.box b5 90 (insCells i)])) (List.append_assoc _ _ _) (V.rSysClose wb wm ws nb hw (sI (sX x i 0 i.args.length))) ?_
  rintro t72 S72 ⟨rfl, ws2, hws2, rfl⟩
  refine nl ?_
  refine op 8 ?_
  refine y1 (nl ?_)
  refine dn ?_
  refine rs (y1 ?_)
  refine Y1 (Yv.convW rfl Tryz.underlying2 kd_29 eV) ?_
  refine y2 (nl ?_)
  refine rt ?_
  rw [if_neg (by omega), show sysR (Mc.mk cc x [] (getM l) (V.absW ws)) i = some (clM (getM l) (V.absW ws) (sI (sysA x i 0))) from by unfold sysR; rw [if_neg (by omega), if_neg (by omega), if_neg (by omega), if_pos (by omega)]]
  exact ⟨rfl, l, ws2, sub_fin2 _ _ _ _, hl, rfl, hws2⟩
 refine rs (y2 (nl ?_))
 refine cq (fun _ => ?_) fun _ => ?_
 ·refine AW.regionP rfl ?_
  refine tp 0 ?_
  refine tp 1 ?_
  refine T1 (i := 2) rfl (freeArr (j := 0) rfl ar_164 (E rfl rfl) (E rfl rfl) ⟨rfl, by decide⟩) ?_
  refine tp 6 ?_
  refine tp 7 ?_
  refine wp2 3 8 ?_ ?_
  ·refine y1 (nl ?_)
   refine wp2 4 8 ?_ ?_
   ·refine Y1 (Yv.andW (b := 255#64) rfl eV eV) (nl ?_)
    refine wp2 5 8 ?_ ?_
    ·refine Y1 (Yv.conv rfl Tryz.underlying29 kd_3 eV) (nl ?_)
     refine op 8 ?_
     refine y1 (nl ?_)
     refine op 9 ?_
     refine y1 (nl ?_)
     refine op 10 ?_
     refine y1 (nl ?_)
     refine op 11 ?_
     refine y1 (nl ?_)
     refine dn ?_
     refine AW.perm (S' := (Ent.box s 83 (psC (psOf ({ cc with st := 1, code := codeOf (sysA x i 0) }) lab (V.wp wb) (mapT pg)) (.v (.slice (sg g) n c))) :: memE 129 pg l ++ V.WSt wb wm ws) ++ (([Ent.row (sg g) n c 104 7 (pre ++ frC x a)] ++ frR x a) ++ [Ent.box b8 164 [zw (sX x i 0 i.args.length), zw (sX x i 1 i.args.length), zw (sX x i 2 i.args.length)], Ent.box b5 90 (insCells i)])) (toSys (A := [Ent.box b8 164 [zw (sX x i 0 i.args.length), zw (sX x i 1 i.args.length), zw (sX x i 2 i.args.length)], Ent.box b5 90 (insCells i)]) (X := Ent.box s 83 (psC (psOf ({ cc with st := 1, code := codeOf (sysA x i 0) }) lab (V.wp wb) (mapT pg)) (.v (.slice (sg g) n c)))) (W := ([Ent.row (sg g) n c 104 7 (pre ++ frC x a)] ++ frR x a)) (E := (memE 129 pg l ++ V.WSt wb wm ws))) ?_
     refine rs (y1 ?_)
     refine Y1 (Yv.convW rfl Tryz.underlying2 kd_29 eV) ?_
     refine y2 (nl ?_)
     refine rt ?_
     rw [if_pos (by omega)]
     exact ⟨rfl, sub_fin _ _ _⟩
    refine y1 (nl ?_)
    refine op 5 ?_
    refine Y1 (Yv.conv rfl Tryz.underlying29 kd_3 eV) (nl ?_)
    refine op 9 ?_
    refine y1 (nl ?_)
    refine op 10 ?_
    refine y1 (nl ?_)
    refine op 11 ?_
    refine y1 (nl ?_)
    refine dn ?_
    refine AW.perm (S' := (Ent.box s 83 (psC (psOf ({ cc with st := 1, code := codeOf (sysA x i 0) }) lab (V.wp wb) (mapT pg)) (.v (.slice (sg g) n c))) :: memE 129 pg l ++ V.WSt wb wm ws) ++ (([Ent.row (sg g) n c 104 7 (pre ++ frC x a)] ++ frR x a) ++ [Ent.box b8 164 [zw (sX x i 0 i.args.length), zw (sX x i 1 i.args.length), zw (sX x i 2 i.args.length)], Ent.box b5 90 (insCells i)])) (toSys (A := [Ent.box b8 164 [zw (sX x i 0 i.args.length), zw (sX x i 1 i.args.length), zw (sX x i 2 i.args.length)], Ent.box b5 90 (insCells i)]) (X := Ent.box s 83 (psC (psOf ({ cc with st := 1, code := codeOf (sysA x i 0) }) lab (V.wp wb) (mapT pg)) (.v (.slice (sg g) n c)))) (W := ([Ent.row (sg g) n c 104 7 (pre ++ frC x a)] ++ frR x a)) (E := (memE 129 pg l ++ V.WSt wb wm ws))) ?_
    refine rs (y1 ?_)
    refine Y1 (Yv.convW rfl Tryz.underlying2 kd_29 eV) ?_
    refine y2 (nl ?_)
    refine rt ?_
    rw [if_pos (by omega)]
    exact ⟨rfl, sub_fin _ _ _⟩
   refine y1 (nl ?_)
   refine op 4 ?_
   refine Y1 (Yv.andW (b := 255#64) rfl eV eV) (nl ?_)
   refine op 5 ?_
   refine Y1 (Yv.conv rfl Tryz.underlying29 kd_3 eV) (nl ?_)
   refine op 9 ?_
   refine y1 (nl ?_)
   refine op 10 ?_
   refine y1 (nl ?_)
   refine op 11 ?_
   refine y1 (nl ?_)
   refine dn ?_
   refine AW.perm (S' := (Ent.box s 83 (psC (psOf ({ cc with st := 1, code := codeOf (sysA x i 0) }) lab (V.wp wb) (mapT pg)) (.v (.slice (sg g) n c))) :: memE 129 pg l ++ V.WSt wb wm ws) ++ (([Ent.row (sg g) n c 104 7 (pre ++ frC x a)] ++ frR x a) ++ [Ent.box b8 164 [zw (sX x i 0 i.args.length), zw (sX x i 1 i.args.length), zw (sX x i 2 i.args.length)], Ent.box b5 90 (insCells i)])) (toSys (A := [Ent.box b8 164 [zw (sX x i 0 i.args.length), zw (sX x i 1 i.args.length), zw (sX x i 2 i.args.length)], Ent.box b5 90 (insCells i)]) (X := Ent.box s 83 (psC (psOf ({ cc with st := 1, code := codeOf (sysA x i 0) }) lab (V.wp wb) (mapT pg)) (.v (.slice (sg g) n c)))) (W := ([Ent.row (sg g) n c 104 7 (pre ++ frC x a)] ++ frR x a)) (E := (memE 129 pg l ++ V.WSt wb wm ws))) ?_
   refine rs (y1 ?_)
   refine Y1 (Yv.convW rfl Tryz.underlying2 kd_29 eV) ?_
   refine y2 (nl ?_)
   refine rt ?_
   rw [if_pos (by omega)]
   exact ⟨rfl, sub_fin _ _ _⟩
  refine y1 (nl ?_)
  refine op 3 ?_
  refine y1 (nl ?_)
  refine op 4 ?_
  refine Y1 (Yv.andW (b := 255#64) rfl eV eV) (nl ?_)
  refine op 5 ?_
  refine Y1 (Yv.conv rfl Tryz.underlying29 kd_3 eV) (nl ?_)
  refine op 9 ?_
  refine y1 (nl ?_)
  refine op 10 ?_
  refine y1 (nl ?_)
  refine op 11 ?_
  refine y1 (nl ?_)
  refine dn ?_
  refine AW.perm (S' := (Ent.box s 83 (psC (psOf ({ cc with st := 1, code := codeOf (sysA x i 0) }) lab (V.wp wb) (mapT pg)) (.v (.slice (sg g) n c))) :: memE 129 pg l ++ V.WSt wb wm ws) ++ (([Ent.row (sg g) n c 104 7 (pre ++ frC x a)] ++ frR x a) ++ [Ent.box b8 164 [zw (sX x i 0 i.args.length), zw (sX x i 1 i.args.length), zw (sX x i 2 i.args.length)], Ent.box b5 90 (insCells i)])) (toSys (A := [Ent.box b8 164 [zw (sX x i 0 i.args.length), zw (sX x i 1 i.args.length), zw (sX x i 2 i.args.length)], Ent.box b5 90 (insCells i)]) (X := Ent.box s 83 (psC (psOf ({ cc with st := 1, code := codeOf (sysA x i 0) }) lab (V.wp wb) (mapT pg)) (.v (.slice (sg g) n c)))) (W := ([Ent.row (sg g) n c 104 7 (pre ++ frC x a)] ++ frR x a)) (E := (memE 129 pg l ++ V.WSt wb wm ws))) ?_
  refine rs (y1 ?_)
  refine Y1 (Yv.convW rfl Tryz.underlying2 kd_29 eV) ?_
  refine y2 (nl ?_)
  refine rt ?_
  rw [if_pos (by omega)]
  exact ⟨rfl, sub_fin _ _ _⟩
 refine AW.perm (S' := (Ent.box s 83 (psC (psOf cc lab (V.wp wb) (mapT pg)) (.v (.slice (sg g) n c))) :: memE 129 pg l ++ V.WSt wb wm ws) ++ (([Ent.row (sg g) n c 104 7 (pre ++ frC x a)] ++ frR x a) ++ [Ent.box b8 164 [zw (sX x i 0 i.args.length), zw (sX x i 1 i.args.length), zw (sX x i 2 i.args.length)], Ent.box b5 90 (insCells i)])) (toSys (A := [Ent.box b8 164 [zw (sX x i 0 i.args.length), zw (sX x i 1 i.args.length), zw (sX x i 2 i.args.length)], Ent.box b5 90 (insCells i)]) (X := Ent.box s 83 (psC (psOf cc lab (V.wp wb) (mapT pg)) (.v (.slice (sg g) n c)))) (W := ([Ent.row (sg g) n c 104 7 (pre ++ frC x a)] ++ frR x a)) (E := (memE 129 pg l ++ V.WSt wb wm ws))) ?_
 refine rs (y2 (nl ?_))
 refine rt ?_
 rw [if_neg (by omega), show sysR (Mc.mk cc x [] (getM l) (V.absW ws)) i = none from by unfold sysR; rw [if_neg (by omega), if_neg (by omega), if_neg (by omega), if_neg (by omega)]]
 exact ⟨rfl, sub_fin _ _ _⟩


theorem toSys0 {W E : St} {X : Ent} : (([X] ++ W) ++ E).Perm ((X :: E) ++ W) := by
 show (X :: (W ++ E)).Perm (X :: (E ++ W))
 exact (List.perm_append_comm).cons X
theorem toBack {A B C : St} : ((A ++ C) ++ B).Perm (A ++ (B ++ C)) := by
 rw [List.append_assoc]
 exact (List.perm_append_comm).append_left A
def CQ (cc : Pc) (x : Fr) (i : Ins) (l : List Pg) (ws : V.WS) (v : Wd64) (ok : Bool) (cc' : Pc) (l' : List Pg) (ws' : V.WS) : Prop :=
 (i.imm = 60 ∧ v = wI 0 ∧ ok = true ∧ cc' = { cc with st := 1, code := codeOf (sysA x i 0) } ∧ l' = l ∧ ws' = ws) ∨
 (¬ i.imm = 60 ∧ cc' = cc ∧ ((sysR (Mc.mk cc x [] (getM l) (V.absW ws)) i = none ∧ v = 0#64 ∧ ok = false ∧ l' = l ∧ ws' = ws) ∨ (∃ r, sysR (Mc.mk cc x [] (getM l) (V.absW ws)) i = some r ∧ v = wI r.n ∧ ok = true ∧ PgOk l' ∧ getM l' = r.mem ∧ V.absW ws' = r.w)))
theorem call55 (s g n c pg wb wm : Nat) (cc : Pc) (lab : T) (pre : List T) (x : Fr) (a : FA) (i : Ins) (l : List Pg) (ws : V.WS) (nb : Nat) (hx : FrOk x) (hl : PgOk l) (hd : cc.prog.data.length ≤ 1048576) (hz0 : 0 ≤ cc.prog.zero) (hz1 : cc.prog.zero ≤ 268435456) (hw : V.RP nb (V.absW ws)) (hnb : nb ≤ 549755813888) (har : ∀ r ∈ i.args, 0 ≤ r ∧ r < (x.nr : Int)) (hg : i.args.length ≤ 3) : ACalls Tryz.prog 65 [pv s, .ep (.slice (sg g) n c) pre.length, .agg (insCells i)] ([Ent.box s 83 (psC (psOf cc lab (V.wp wb) (mapT pg)) (.v (.slice (sg g) n c))), Ent.row (sg g) n c 104 7 (pre ++ frC x a)] ++ frR x a ++ (memE 129 pg l ++ V.WSt wb wm ws)) (fun t S => ∃ v ok cc' l' ws', CQ cc x i l ws v ok cc' l' ws' ∧ t = .tup [zw v, bv ok] ∧ S = ([Ent.box s 83 (psC (psOf cc' lab (V.wp wb) (mapT pg)) (.v (.slice (sg g) n c))), Ent.row (sg g) n c 104 7 (pre ++ frC x a)] ++ frR x a ++ (memE 129 pg l' ++ V.WSt wb wm ws'))) :=
 (call55_ s g n c pg wb wm cc lab pre x a i l ws nb hx hl hd hz0 hz1 hw hnb har hg).lessR fun t S' h => by
  split at h
  ·rename_i h60
   obtain ⟨h1, h2⟩ := h
   exact ⟨_, _, h2, toSys0, _, _, _, _, _, .inl ⟨h60, rfl, rfl, rfl, rfl, rfl⟩, h1, rfl⟩
  ·rename_i h60
   cases hc : sysR (Mc.mk cc x [] (getM l) (V.absW ws)) i with
   | none =>
    rw [hc] at h
    obtain ⟨h1, h2⟩ := h
    exact ⟨_, _, h2, toSys0, _, _, _, _, _, .inr ⟨h60, rfl, .inl ⟨hc, rfl, rfl, rfl, rfl⟩⟩, h1, rfl⟩
   | some r =>
    rw [hc] at h
    obtain ⟨h1, l', ws', h2, h3, h4, h5⟩ := h
    exact ⟨_, _, h2, toSys0, _, _, _, _, _, .inr ⟨h60, rfl, .inr ⟨r, hc, rfl, rfl, h3, h4, h5⟩⟩, h1, rfl⟩
theorem cq_60 {cc : Pc} {x : Fr} {i : Ins} {l l' : List Pg} {ws ws' : V.WS} {v : Wd64} {ok : Bool} {cc' : Pc} (h : CQ cc x i l ws v ok cc' l' ws') (h0 : cc.st = 0) (h1 : cc'.st = 1) : i.imm = 60 ∧ ok = true := by
 rcases h with ⟨h2, _, h3, _⟩ | ⟨_, h3, _⟩
 ·exact ⟨h2, h3⟩
 rw [h3, h0] at h1; cases h1
theorem cq_n60 {cc : Pc} {x : Fr} {i : Ins} {l l' : List Pg} {ws ws' : V.WS} {v : Wd64} {ok : Bool} {cc' : Pc} (h : CQ cc x i l ws v ok cc' l' ws') (h1 : ¬ cc'.st = 1) : ¬ i.imm = 60 := by
 rcases h with ⟨_, _, _, h3, _⟩ | ⟨h2, _⟩
 ·exact absurd (by rw [h3]) h1
 exact h2
theorem do32S (s g n c pg wb wm : Nat) (cc : Pc) (lab : T) (pre : List T) (x : Fr) (a : FA) (i : Ins) (l : List Pg) (ws : V.WS) (nb : Nat) (hx : FrOk x) (hl : PgOk l) (hd : cc.prog.data.length ≤ 1048576) (hz0 : 0 ≤ cc.prog.zero) (hz1 : cc.prog.zero ≤ 268435456) (hw : V.RP nb (V.absW ws)) (hnb : nb ≤ 549755813888) (hst : cc.st = 0) (hk : i.kind = 30) (hdr : (hasF i.kind).d = true → 0 ≤ i.d ∧ i.d < (x.nr : Int)) (hr : ∀ r ∈ readsF i, 0 ≤ r ∧ r < (x.nr : Int)) (hat : 0 ≤ x.at_ ∧ x.at_ ≤ 4611686018427387904) (har : ∀ r ∈ i.args, 0 ≤ r ∧ r < (x.nr : Int)) (hg3 : i.args.length ≤ 3) (hg : i.args.length ≤ 1048576) :
    ACalls Tryz.prog 37 [pv s, .ep (.slice (sg g) n c) pre.length, .agg (insCells i)] (([Ent.box s 83 (psC (psOf cc lab (V.wp wb) (mapT pg)) (.v (.slice (sg g) n c))), Ent.row (sg g) n c 104 7 (pre ++ frC x a)] ++ frR x a) ++ (memE 129 pg l ++ V.WSt wb wm ws)) (fun t S => (okS x.set (readsF i) = false ∧ t = bv false ∧ S = (([Ent.box s 83 (psC (psOf cc lab (V.wp wb) (mapT pg)) (.v (.slice (sg g) n c))), Ent.row (sg g) n c 104 7 (pre ++ frC x a)] ++ frR x a) ++ (memE 129 pg l ++ V.WSt wb wm ws))) ∨ (okS x.set (readsF i) = true ∧ ∃ v ok cc' l' ws', CQ cc x i l ws v ok cc' l' ws' ∧ t = bv ok ∧ S = (([Ent.box s 83 (psC (psOf cc' lab (V.wp wb) (mapT pg)) (.v (.slice (sg g) n c))), Ent.row (sg g) n c 104 7 (pre ++ frC (if i.imm = 60 then x else if ok = true then goF (setD x i.d v) else x) a)] ++ frR (if i.imm = 60 then x else if ok = true then goF (setD x i.d v) else x) a) ++ (memE 129 pg l' ++ V.WSt wb wm ws')))) := by
 refine lsr (R := (fun t S => (okS x.set (readsF i) = false ∧ t = bv false ∧ (([Ent.box s 83 (psC (psOf cc lab (V.wp wb) (mapT pg)) (.v (.slice (sg g) n c))), Ent.row (sg g) n c 104 7 (pre ++ frC x a)] ++ frR x a) ++ (memE 129 pg l ++ V.WSt wb wm ws)).Sublist S) ∨ (okS x.set (readsF i) = true ∧ ∃ v ok cc' l' ws', CQ cc x i l ws v ok cc' l' ws' ∧ t = bv ok ∧ (([Ent.box s 83 (psC (psOf cc' lab (V.wp wb) (mapT pg)) (.v (.slice (sg g) n c))), Ent.row (sg g) n c 104 7 (pre ++ frC (if i.imm = 60 then x else if ok = true then goF (setD x i.d v) else x) a)] ++ frR (if i.imm = 60 then x else if ok = true then goF (setD x i.d v) else x) a) ++ (memE 129 pg l' ++ V.WSt wb wm ws')).Sublist S))) (fun t S' h => by
  rcases h with ⟨h1, h2, h3⟩ | ⟨h1, v, ok, cc', l', ws', h2, h3, h4⟩
  ·exact ⟨_, h3, .inl ⟨h1, h2, rfl⟩⟩
  ·exact ⟨_, h4, .inr ⟨h1, v, ok, cc', l', ws', h2, h3, rfl⟩⟩) ?_
 have hl1 := hx.r
 have hl3 := hx.t
 obtain ⟨hat0, hat1⟩ := hat
 refine ai Tryz.func37 Tryz.ntmps37 fun X w0 => ?_
 refine rs ?_
 refine bg fun b4 => ?_
 refine bg fun b5 => ?_
 refine y1 ?_
 refine nl (rs ?_)
 refine bg fun b7 => ?_
 refine y1 ?_
 refine nl (rs (y1 ?_))
 refine Y1 (Yv.makeFunc rfl evs0 rfl (evsC eV (evsC eV evs0)) rfl) ?_
 refine AWL.perm (S' := [Ent.box b7 4 [bv (true)], Ent.box b4 101 [.ep (.slice (sg g) n c) pre.length], Ent.row (sg g) n c 104 7 (pre ++ frC x a), Ent.row a.t x.nr x.nr 4 1 (x.set.map bv)] ++ ([Ent.box s 83 (psC (psOf cc lab (V.wp wb) (mapT pg)) (.v (.slice (sg g) n c))), Ent.row a.r x.nr x.nr 29 1 (x.r.map zw), Ent.row a.s x.ns x.ns 29 1 (x.slot.map zw), Ent.row a.h x.ns x.ns 4 1 (x.there.map bv), Ent.box b5 90 (insCells i)] ++ (memE 129 pg l ++ V.WSt wb wm ws))) pmAv ?_
 refine kc (reads49 b7 b4 g n c pre x a true i hx.t hg hr) ?_
 rintro t14 S14 ⟨rfl, rfl⟩
 refine AWL.perm (S' := ([Ent.box s 83 (psC (psOf cc lab (V.wp wb) (mapT pg)) (.v (.slice (sg g) n c))), Ent.row (sg g) n c 104 7 (pre ++ frC x a)] ++ frR x a) ++ ([Ent.box b4 101 [.ep (.slice (sg g) n c) pre.length], Ent.box b5 90 (insCells i), Ent.box b7 4 [bv (okS x.set (readsF i))]] ++ (memE 129 pg l ++ V.WSt wb wm ws))) pmB0 ?_
 refine nl (sq (rs (y2 (nl ?_))))
 refine cq (fun h0t => ?_) fun h0f => ?_
 ·refine rs (y1 (nl ?_))
  refine rt ?_
  exact .inl ⟨by simpa using h0t, rfl, sub_mid _ _ _⟩
 have hok : okS x.set (readsF i) = true := by simpa using h0f
 refine sp (rs (y2 ?_))
 refine nl (sq (rs (y2 ?_)))
 refine nl (bk (rs (y2 (nl ?_))))
 refine cf fun _ => ?_
 refine rs (y2 (nl ?_))
 refine cf fun _ => ?_
 refine sq (rs (y2 (nl ?_)))
 refine cf fun _ => ?_
 refine rs (y2 (nl ?_))
 refine cf fun _ => ?_
 refine rs (y2 (nl ?_))
 refine cf fun _ => ?_
 refine rs (y2 (nl ?_))
 refine cf fun _ => ?_
 refine rg (y2 (nl ?_))
 refine cf fun _ => ?_
 refine rs (y2 (nl ?_))
 refine cf fun _ => ?_
 refine rs (y2 (nl ?_))
 refine cf fun _ => ?_
 refine rs (y2 (nl ?_))
 refine cf fun _ => ?_
 refine rs (y2 (nl ?_))
 refine ct fun _ => ?_
 obtain ⟨hd0, hd1⟩ := hdr (by rw [hk]; rfl)
 refine rs (y3 ?_)
 refine AWL.perm (S' := ([Ent.box s 83 (psC (psOf cc lab (V.wp wb) (mapT pg)) (.v (.slice (sg g) n c))), Ent.row (sg g) n c 104 7 (pre ++ frC x a)] ++ frR x a ++ (memE 129 pg l ++ V.WSt wb wm ws)) ++ [Ent.box b4 101 [.ep (.slice (sg g) n c) pre.length], Ent.box b5 90 (insCells i), Ent.box b7 4 [bv (okS x.set (readsF i))]]) toBack ?_
 refine kc (call55 s g n c pg wb wm cc lab pre x a i l ws nb hx hl hd hz0 hz1 hw hnb har hg3) ?_
 rintro t175 S175 ⟨v, ok, cc2, l2, ws2, hcq, rfl, rfl⟩
 refine AWL.perm (S' := ([Ent.box s 83 (psC (psOf cc2 lab (V.wp wb) (mapT pg)) (.v (.slice (sg g) n c))), Ent.row (sg g) n c 104 7 (pre ++ frC x a)] ++ frR x a) ++ ([Ent.box b4 101 [.ep (.slice (sg g) n c) pre.length], Ent.box b5 90 (insCells i), Ent.box b7 4 [bv (okS x.set (readsF i))]] ++ (memE 129 pg l2 ++ V.WSt wb wm ws2))) toBack.symm ?_
 refine y5 ?_
 refine nl (rs (y5 (nl ?_)))
 refine cq (fun h12t => ?_) fun h12f => ?_
 ·obtain ⟨h60, hokt⟩ := cq_60 hcq hst h12t
  refine rs (y1 (nl ?_))
  refine rt ?_
  refine .inr ⟨hok, v, ok, cc2, l2, ws2, hcq, by rw [hokt]; rfl, ?_⟩
  rw [if_pos h60]
  exact sub_mid _ _ _
 have h60 := cq_n60 hcq h12f
 refine sp (sq (rs (y2 (nl ?_))))
 refine cq (fun h13t => ?_) fun h13f => ?_
 ·have hkf : ok = false := by simpa using h13t
  refine rs (y1 (nl ?_))
  refine rt ?_
  refine .inr ⟨hok, v, ok, cc2, l2, ws2, hcq, by rw [hkf]; rfl, ?_⟩
  rw [if_neg h60, hkf]
  exact sub_mid _ _ _
 have hkt : ok = true := by simpa using h13f
 refine sp (sq (rs (y2 ?_)))
 refine kt (fields57 i.kind) ?_
 rintro t188 S188 rfl
 refine y3 ?_
 refine bx fun b10 => ?_
 refine AWL.perm (S' := ([Ent.box s 83 (psC (psOf cc2 lab (V.wp wb) (mapT pg)) (.v (.slice (sg g) n c))), Ent.row (sg g) n c 104 7 (pre ++ frC x a)] ++ frR x a) ++ ([Ent.box b4 101 [.ep (.slice (sg g) n c) pre.length], Ent.box b5 90 (insCells i), Ent.box b7 4 [bv (okS x.set (readsF i))]] ++ (Ent.box b10 143 (List.map T.v [Value.bool false, Value.bool false, Value.bool false, Value.bool false, Value.bool false, Value.bool false, Value.bool false, Value.bool false]) :: (memE 129 pg l2 ++ V.WSt wb wm ws2)))) toTen ?_
 refine y2 ?_
 refine nl (rs (y2 (nl ?_)))
 refine cq (fun _ => ?_) fun h14f => ?_
 ·refine AW.regionH (HeldCs [(b4, 0, Value.pointer (some ⟨g, pre.length, none⟩)), (g, pre.length + 2, Value.slice a.r x.nr x.nr), (b5, 1, Value.int .i64 i.d), (g, pre.length + 4, Value.slice a.t x.nr x.nr)]) rfl (tells_cs tcA) ?_
  refine T2 (i := 0) rfl (heldB (r := .ep (.slice (sg g) n c) pre.length) 0 rfl ag_101 (E rfl rfl) rfl (fun _ _ => .ep)) ?_
  refine tq 1 ?_
  refine tq 2 ?_
  refine tq 3 ?_
  refine tq 4 ?_
  refine tq 5 ?_
  refine T2 (i := 6) rfl (heldB (r := .ep (.slice (sg g) n c) pre.length) 0 rfl ag_101 (E rfl rfl) rfl (fun _ _ => .ep)) ?_
  refine tq 7 ?_
  refine tq 8 ?_
  refine tq 9 ?_
  refine tq 10 ?_
  refine tq 11 ?_
  refine oh 12 ?_
  refine y1 ?_
  refine kh ?_
  refine oh 13 ?_
  refine Y1 (ix (j := i.d.toNat) (hj := fun hg => ⟨(Int.toNat_of_nonneg hd0).symm, show i.d.toNat < x.nr by omega⟩)) ?_
  refine kh ?_
  refine oh 14 ?_
  refine y1 ?_
  refine kh ?_
  refine oh 15 ?_
  refine Y1 (ix (j := i.d.toNat) (hj := fun hg => ⟨(Int.toNat_of_nonneg hd0).symm, show i.d.toNat < x.nr by omega⟩)) ?_
  refine kh ?_
  refine oh 16 ?_
  refine y1 ?_
  refine kh ?_
  refine dn ?_
  refine rs (y8 ?_)
  refine nl (rs (y1 (nl ?_)))
  refine rt ?_
  refine .inr ⟨hok, v, ok, cc2, l2, ws2, hcq, by rw [hkt]; rfl, ?_⟩
  rw [if_neg h60, if_pos hkt, show frR (goF (setD x i.d v)) a = frR (setD x i.d v) a from rfl, setD_rows, show (pre ++ frC (goF (setD x i.d v)) a) = (pre ++ frC x a).set (pre.length + 1) (zi (x.at_ + 1)) from (fr_jump (pre := pre) (x := x) (a := a) _).symm]
  exact sub_mid2 _ [_, _, _] _ _
 rw [hk] at h14f
 cases h14f

theorem mapsE_at {bs : List Nat} {fs : List Fn} {f : Nat} (h : f < fs.length) (hb : bs.length = fs.length) : ∃ R, (mapsE bs fs).Perm (Ent.map (bs.getD f 0) (lmT (whL (fs.getD f default).code)) :: R) := by
 have hz : f < (bs.zip fs).length := by rw [List.length_zip]; omega
 have e : (bs.zip fs) = (bs.zip fs).take f ++ (bs.zip fs)[f] :: (bs.zip fs).drop (f + 1) := by rw [← List.drop_eq_getElem_cons hz, List.take_append_drop]
 refine ⟨(((bs.zip fs).take f).map fun q => Ent.map q.1 (lmT (whL q.2.code))) ++ (((bs.zip fs).drop (f + 1)).map fun q => Ent.map q.1 (lmT (whL q.2.code))), ?_⟩
 unfold mapsE
 conv => lhs; rw [e]
 rw [List.map_append, List.map_cons]
 refine List.perm_middle.trans ?_
 rw [List.getElem_zip]
 refine List.Perm.of_eq ?_
 congr 2
 ·show bs[f] = bs.getD f 0
  rw [List.getD_eq_getElem?_getD, List.getElem?_eq_getElem (by omega)]; rfl
 rw [gd h]
theorem pJ {A X Y MP R : St} {LR LM : Ent} (h : MP.Perm (LM :: R)) : (A ++ (X ++ (Y ++ (LR :: MP)))).Perm ((A ++ [LR, LM]) ++ (X ++ (Y ++ R))) := by
 rw [List.append_assoc]
 refine List.Perm.append_left A ?_
 refine List.Perm.trans (((h.cons LR).append_left Y).append_left X) ?_
 show (X ++ (Y ++ ([LR, LM] ++ R))).Perm ([LR, LM] ++ (X ++ (Y ++ R)))
 exact ((List.perm_append_comm_assoc Y [LR, LM] R).append_left X).trans (List.perm_append_comm_assoc X [LR, LM] (Y ++ R))
theorem pC {A C X Y Z : St} : (A ++ (X ++ ((C ++ Y) ++ Z))).Perm ((A ++ C) ++ (X ++ (Y ++ Z))) := by
 rw [List.append_assoc A C, List.append_assoc C Y]
 exact (List.perm_append_comm_assoc X C (Y ++ Z)).append_left A
theorem pM {A X W Y : St} : (A ++ ((X ++ W) ++ Y)).Perm ((A ++ X) ++ (W ++ Y)) := by
 rw [List.append_assoc, List.append_assoc]
theorem pS {A X Y : St} : (A ++ (X ++ Y)).Perm ((A ++ X) ++ Y) := by rw [List.append_assoc]
section
variable {p : Prog} {x : Fr}
theorem FrIn.nrI (hp : ProgOk p) (h : FrIn p x) : (x.nr : Int) = (fnOf p x).regs := by
 have h1 := h.fn hp
 have := h1.par0
 have := h1.par2
 rw [h.nr]; omega
theorem FrIn.nsI (hp : ProgOk p) (h : FrIn p x) : (x.ns : Int) = (fnOf p x).slots := by
 have := (h.fn hp).slot0
 rw [h.ns]; omega
structure InsB (x : Fr) (i : Ins) : Prop where
 a : (hasF i.kind).a = true → 0 ≤ i.a ∧ i.a < (x.nr : Int)
 b : (hasF i.kind).b = true → 0 ≤ i.b ∧ i.b < (x.nr : Int)
 d : (hasF i.kind).d = true → 0 ≤ i.d ∧ i.d < (x.nr : Int)
 args : (hasF i.kind).args = true → ∀ r ∈ i.args, 0 ≤ r ∧ r < (x.nr : Int)
 slot : i.kind = 31 ∨ i.kind = 32 → 0 ≤ i.imm ∧ i.imm < (x.ns : Int)
 rd : ∀ r ∈ readsF i, 0 ≤ r ∧ r < (x.nr : Int)
 len : i.args.length ≤ 1048576
 at_ : 0 ≤ x.at_ ∧ x.at_ ≤ 4611686018427387904
theorem FrIn.bounds (hp : ProgOk p) (hpi : ProgIn p) (h : FrIn p x) : InsB x (insOf p x) := by
 have io := h.ins hp
 have e := h.nrI hp
 have ha : (hasF (insOf p x).kind).a = true → 0 ≤ (insOf p x).a ∧ (insOf p x).a < (x.nr : Int) := fun q => by rw [e]; exact io.a q
 have hb : (hasF (insOf p x).kind).b = true → 0 ≤ (insOf p x).b ∧ (insOf p x).b < (x.nr : Int) := fun q => by rw [e]; exact io.b q
 have hg : (hasF (insOf p x).kind).args = true → ∀ r ∈ (insOf p x).args, 0 ≤ r ∧ r < (x.nr : Int) := fun q r hr => by rw [e]; exact (io.args q).1 r hr
 refine ⟨ha, hb, fun q => by rw [e]; exact io.d q, hg, fun q => by rw [h.nsI hp]; exact io.slot q, fun r hr => ?_, ?_, h.a0, ?_⟩
 ·unfold readsF rd2 rd1 at hr
  rcases List.mem_append.1 hr with hr | hr
  ·rcases List.mem_append.1 hr with hr | hr
   ·split at hr
    ·rename_i q
     rw [List.mem_singleton.1 hr]; exact ha q
    cases hr
   split at hr
   ·rename_i q
    rw [List.mem_singleton.1 hr]; exact hb q
   cases hr
  split at hr
  ·rename_i q
   exact hg q r hr
  cases hr
 ·exact ((hpi.fn _ (getD_mem h.f1)).ins _ (getD_mem h.a1)).args
 have := h.a1
 have h2 : (fnOf p x).code.length ≤ 1048576 := (hpi.fn _ (getD_mem h.f1)).code
 have := h.a0
 omega
end
theorem isF_in {k : Int} (h : isF k = true) : 1 ≤ k ∧ k ≤ 32 := by
 unfold isF ofF at h
 by_cases q : 1 ≤ k ∧ k ≤ 32
 ·exact q
 exfalso
 repeat (first | (rw [if_neg (by omega)] at h) | (cases h))
section
variable {RF : Int → Wd64 → Wd64 → Wd64} {p : Prog} {m : Mc}
theorem step_0 {i : Ins} (h : okS m.x.set (readsF i) = false) : stepM RF m i = none := by rw [stepM, if_pos h]
theorem stepJ {i : Ins} (h0 : okS m.x.set (readsF i) = true) (hk : i.kind = 20 ∨ i.kind = 21) : stepM RF m i = some { m with x := jmpF m.c.prog m.x i } := by rw [stepM, if_neg (by rw [h0]; decide), if_pos hk]
theorem stepB {i : Ins} (h0 : okS m.x.set (readsF i) = true) (hk : i.kind = 26) : stepM RF m i = some (backM m (rA m.x i.a)) := by rw [stepM, if_neg (by rw [h0]; decide), if_neg (by omega), if_pos hk]
theorem stepC {i : Ins} (h0 : okS m.x.set (readsF i) = true) (hk : i.kind = 22 ∨ i.kind = 23 ∨ i.kind = 24 ∨ i.kind = 25) : stepM RF m i = jumpM m i := by rw [stepM, if_neg (by rw [h0]; decide), if_neg (by omega), if_neg (by omega), if_pos hk]
theorem stepSt {i : Ins} (h0 : okS m.x.set (readsF i) = true) (hk : i.kind = 18) : stepM RF m i = if memOk m.c (adF m.x i) i.size = true then some { m with x := goF m.x, mem := putsF m.mem (adF m.x i) (rA m.x i.b) i.size.toNat } else none := by rw [stepM, if_neg (by rw [h0]; decide), if_neg (by omega), if_neg (by omega), if_neg (by omega), if_pos hk]
theorem stepLd {i : Ins} (h0 : okS m.x.set (readsF i) = true) (hk : i.kind = 17) : stepM RF m i = if memOk m.c (adF m.x i) i.size = true then some { m with x := goF (setD m.x i.d (leF m.mem (adF m.x i) i.size.toNat)) } else none := by rw [stepM, if_neg (by rw [h0]; decide), if_neg (by omega), if_neg (by omega), if_neg (by omega), if_neg (by omega), if_pos hk]
theorem stepSy {i : Ins} (h0 : okS m.x.set (readsF i) = true) (hk : i.kind = 30) : stepM RF m i = sysM m i := by rw [stepM, if_neg (by rw [h0]; decide), if_neg (by omega), if_neg (by omega), if_neg (by omega), if_neg (by omega), if_neg (by omega), if_pos hk]
theorem stepV {i : Ins} (hk : valK i.kind ∨ i.kind = 32) (h17 : ¬ i.kind = 17) (h18 : ¬ i.kind = 18) : stepM RF m i = (stepA RF m.c.heap m.x i).map fun x => { m with x := x } := by
 unfold valK at hk
 cases h0 : okS m.x.set (readsF i) with
 | false => rw [step_0 h0, stepA, if_pos h0]; rfl
 | true => rw [stepM, if_neg (by rw [h0]; decide), if_neg (by omega), if_neg (by omega), if_neg (by omega), if_neg h18, if_neg h17, if_neg (by omega)]
end
theorem data_at {l : List UInt8} {j : Nat} (h : j < l.length) : (l.map u8)[j * 1 + 0]? = some (u8 (l.getD j 0)) := by
 rw [Nat.mul_one, Nat.add_zero, List.getElem?_map, List.getElem?_eq_getElem h]
 simp [h]
/-! ### a new process -/
def initM (p : Prog) : Mf := putsN (fun _ => 0) 268435456#64 p.data p.data.length
def newC (p : Prog) (heap : Wd64) (strict : Bool) : Pc := ⟨p, heap, strict, false, 0, 0#64, 0, 0⟩
def newX (p : Prog) : Fr := openFr (p.funs.getD 0 default) 0 [] 0
def newM (p : Prog) (heap : Wd64) (strict : Bool) (w : V.PW) : Mc := ⟨newC p heap strict, newX p, [], initM p, w⟩
theorem newM_ok {p : Prog} (hok : ProgOk p) (heap : Wd64) (strict : Bool) (w : V.PW) : MOk p (newM p heap strict w) := by
 refine ⟨rfl, ?_, fun y hy => (by cases hy), trivial, by show 0 < 1048576; decide⟩
 exact FrIn.open hok (f := 0) hok.some (by rw [hok.first]; rfl) 0
theorem pmE {X r : Ent} {E W : St} : (X :: r :: (E ++ W)).Perm (((X :: E) ++ W) ++ [r]) := by
 show (X :: (r :: (E ++ W))).Perm (X :: ((E ++ W) ++ [r]))
 exact ((List.perm_append_singleton r (E ++ W)).symm).cons X
theorem pmF {P E M : St} {B R : Ent} : ([R] ++ (P ++ (E ++ (B :: M)))).Perm (P ++ (E ++ (B :: R :: M))) := by
 show (R :: (P ++ (E ++ (B :: M)))).Perm (P ++ (E ++ (B :: R :: M)))
 refine List.Perm.trans (List.perm_middle (a := R) (l₁ := P) (l₂ := E ++ (B :: M))).symm ?_
 refine List.Perm.append_left P ?_
 refine List.Perm.trans (List.perm_middle (a := R) (l₁ := E) (l₂ := B :: M)).symm ?_
 exact (List.Perm.swap B R M).append_left E
theorem pmG {P E M : St} {B R : Ent} : (B :: (P ++ (E ++ (R :: M)))).Perm ([R] ++ (P ++ (E ++ (B :: M)))) :=
 (pmF (R := B) (B := R)).trans ((((List.Perm.swap B R M).append_left E).append_left P).trans (pmF (R := R) (B := B)).symm)
structure Lay where
 s : Nat
 gl : Nat
 lc : Nat
 pg : Nat
 wb : Nat
 wm : Nat
 bs : List Nat
structure Qp where
 g : Nat
 c : Nat
 a : FA
 K : List (Fr × FA)
 l : List Pg
 ws : V.WS
def rowC : List (Fr × FA) → List T
 | [] => []
 | q :: r => rowC r ++ frC q.1 q.2
def rowsE : List (Fr × FA) → St
 | [] => []
 | q :: r => frR q.1 q.2 ++ rowsE r
theorem rowC_len : ∀ K : List (Fr × FA), (rowC K).length = K.length * 7
 | [] => rfl
 | q :: r => by rw [rowC, List.length_append, rowC_len r, frC_len, List.length_cons]; omega
def labT (L : Lay) (p : Prog) : T := .v (.slice (some ⟨L.gl, 0, none⟩) p.funs.length L.lc)
def psL' (L : Lay) (c : Pc) : PS := psOf c (labT L c.prog) (V.wp L.wb) (mapT L.pg)
def p6 (L : Lay) (c : Pc) (x : Fr) (g cc : Nat) (a : FA) (K : List (Fr × FA)) : St :=
 [Ent.box L.s 83 (psC (psL' L c) (.v (.slice (some ⟨g, 0, none⟩) (K.length + 1) cc))), Ent.row (some ⟨g, 0, none⟩) (K.length + 1) cc 104 7 (rowC K ++ frC x a)] ++ frR x a
def memW (L : Lay) (l : List Pg) (ws : V.WS) : St := memE 129 L.pg l ++ V.WSt L.wb L.wm ws
def labE (L : Lay) (p : Prog) : St := Ent.row (some ⟨L.gl, 0, none⟩) p.funs.length L.lc 87 1 (L.bs.map mapT) :: mapsE L.bs p.funs
def SP (L : Lay) (m : Mc) (q : Qp) : St := p6 L m.c m.x q.g q.c q.a q.K ++ (memW L q.l q.ws ++ (rowsE q.K ++ labE L m.c.prog))
structure Rel (m : Mc) (q : Qp) : Prop where
 bl : q.K.map (·.1) = m.bl
 ok : PgOk q.l
 mem : getM q.l = m.mem
 w : V.absW q.ws = m.w
def cpT (q : Qp) : T := .ep (.slice (some ⟨q.g, 0, none⟩) (q.K.length + 1) q.c) (rowC q.K).length
/-! ### the step, kind by kind -/
section
variable {RF : Int → Wd64 → Wd64 → Wd64} {L : Lay} {p : Prog} {m : Mc} {q : Qp} {nb : Nat}
def StepR (RF : Int → Wd64 → Wd64 → Wd64) (L : Lay) (m : Mc) (i : Ins) (t : T) (S : St) : Prop :=
 ∃ m' q', t = bv (stepM RF m i).isSome ∧ m' = (stepM RF m i).getD m ∧ Rel m' q' ∧ S = SP L m' q'
theorem doV (hm : MOk p m) (hp : ProgOk p) (hpi : ProgIn p) (hq : Rel m q) (hk : valK (insOf p m.x).kind ∨ (insOf p m.x).kind = 32) (hRF : ∀ k a b, 1 ≤ k → k ≤ 8 → ACalls Tryz.prog 89 [zi k, zw a, zw b] [] (fun t S => t = zw (RF k a b))) :
    ACalls Tryz.prog 37 [.v (.pointer (some ⟨L.s, 0, none⟩)), cpT q, .agg (insCells (insOf p m.x))] (SP L m q) (StepR RF L m (insOf p m.x)) := by
 have hb := hm.top.bounds hp hpi
 have io := hm.top.ins hp
 have h1 := do32A RF L.s q.g (q.K.length + 1) q.c (psL' L m.c) (rowC q.K) m.x q.a (insOf p m.x) hm.top.ok hk hb.a hb.b hb.slot (fun h => hRF _ _ _ (io.real h).1 (io.real h).2) hb.d hb.rd hb.len hb.at_
 refine ACalls.part (memW L q.l q.ws ++ (rowsE q.K ++ labE L m.c.prog)) h1 (List.Perm.refl _) (fun t S' h => ?_)
 obtain ⟨e1, e2⟩ := h
 have hs : stepM RF m (insOf p m.x) = (stepA RF m.c.heap m.x (insOf p m.x)).map fun x => { m with x := x } := by
  have hk' := hk
  unfold valK at hk'
  exact stepV hk (by omega) (by omega)
 have hh : (psL' L m.c).heap = m.c.heap := rfl
 rw [hh] at e1 e2
 cases hA : stepA RF m.c.heap m.x (insOf p m.x) with
 | none =>
  rw [hA] at e1 e2 hs
  refine ⟨_, List.Perm.refl _, m, q, ?_, ?_, hq, ?_⟩
  ·rw [hs]; exact e1
  ·rw [hs]; rfl
  ·rw [e2]; rfl
 | some x' =>
  rw [hA] at e1 e2 hs
  refine ⟨_, List.Perm.refl _, { m with x := x' }, q, ?_, ?_, ⟨hq.bl, hq.ok, hq.mem, hq.w⟩, ?_⟩
  ·rw [hs]; exact e1
  ·rw [hs]; rfl
  ·rw [e2]; rfl
theorem doJ (hm : MOk p m) (hp : ProgOk p) (hpi : ProgIn p) (hq : Rel m q) (hbs : L.bs.length = p.funs.length) (hk : (insOf p m.x).kind = 20 ∨ (insOf p m.x).kind = 21) :
    ACalls Tryz.prog 37 [.v (.pointer (some ⟨L.s, 0, none⟩)), cpT q, .agg (insCells (insOf p m.x))] (SP L m q) (StepR RF L m (insOf p m.x)) := by
 have hb := hm.top.bounds hp hpi
 have hpr := hm.prog
 have h1 := do32J L.s q.g (q.K.length + 1) q.c L.gl m.c.prog.funs.length L.lc (psL' L m.c) (rowC q.K) m.x q.a (insOf p m.x) L.bs (whL (fnOf p m.x).code) hm.top.ok rfl (by rw [hpr]; exact hbs) hm.top.f0 (by rw [hpr]; exact hm.top.f1) hk hb.a hb.b hb.rd hb.len hb.at_
 obtain ⟨R, hR⟩ := mapsE_at (bs := L.bs) (fs := m.c.prog.funs) (f := m.x.f.toNat) (by rw [hpr]; exact hm.top.f1) (by rw [hpr]; exact hbs)
 have hR' : (mapsE L.bs m.c.prog.funs).Perm (Ent.map (L.bs.getD m.x.f.toNat 0) (lmT (whL (fnOf p m.x).code)) :: R) := by
  unfold fnOf; rw [← hpr]; exact hR
 refine ACalls.part (memW L q.l q.ws ++ (rowsE q.K ++ R)) h1 (pJ (A := p6 L m.c m.x q.g q.c q.a q.K) hR') (fun t S' h => ?_)
 obtain ⟨e1, e2⟩ := h
 cases h0 : okS m.x.set (readsF (insOf p m.x)) with
 | false =>
  rw [h0] at e1 e2
  have hs := step_0 (RF := RF) h0
  refine ⟨SP L m q, ?_, m, q, ?_, ?_, hq, rfl⟩
  ·rw [e2]; exact pJ (A := p6 L m.c m.x q.g q.c q.a q.K) hR'
  ·rw [hs]; exact e1
  ·rw [hs]; rfl
 | true =>
  rw [h0] at e1 e2
  have hs := stepJ (RF := RF) h0 hk
  refine ⟨SP L { m with x := jmpF m.c.prog m.x (insOf p m.x) } q, ?_, { m with x := jmpF m.c.prog m.x (insOf p m.x) }, q, ?_, ?_, ⟨hq.bl, hq.ok, hq.mem, hq.w⟩, rfl⟩
  ·rw [e2, if_pos rfl]
   have e3 : jmpF m.c.prog m.x (insOf p m.x) = { m.x with at_ := if (insOf p m.x).kind = 20 ∨ holdsF (insOf p m.x).cond (rA m.x (insOf p m.x).a) (rA m.x (insOf p m.x).b) = true then getL (insOf p m.x).l (whL (fnOf p m.x).code) else m.x.at_ + 1 } := by
    unfold jmpF whereOf; rw [hpr]
   rw [← e3]
   exact pJ (A := p6 L m.c (jmpF m.c.prog m.x (insOf p m.x)) q.g q.c q.a q.K) hR'
  ·rw [hs]; exact e1
  ·rw [hs]; rfl
theorem doSt (hm : MOk p m) (hp : ProgOk p) (hpi : ProgIn p) (hq : Rel m q) (hk : (insOf p m.x).kind = 18) :
    ACalls Tryz.prog 37 [.v (.pointer (some ⟨L.s, 0, none⟩)), cpT q, .agg (insCells (insOf p m.x))] (SP L m q) (StepR RF L m (insOf p m.x)) := by
 have hb := hm.top.bounds hp hpi
 have hpr := hm.prog
 have h1 := do32St L.s q.g (q.K.length + 1) q.c L.pg (psL' L m.c) (rowC q.K) m.x q.a (insOf p m.x) q.l hm.top.ok rfl hq.ok (by show m.c.prog.data.length ≤ _; rw [hpr]; exact hpi.data) (by show 0 ≤ m.c.prog.zero; rw [hpr]; exact hp.zero.1) (by show m.c.prog.zero ≤ _; rw [hpr]; exact hp.zero.2) hk hb.a hb.b hb.d hb.rd hb.len hb.at_
 refine ACalls.part (V.WSt L.wb L.wm q.ws ++ (rowsE q.K ++ labE L m.c.prog)) h1 (pM (A := p6 L m.c m.x q.g q.c q.a q.K)) (fun t S' h => ?_)
 obtain ⟨e1, l', e2, hl', hg'⟩ := h
 have hmo : (sizeOk (insOf p m.x).size && thereF (psData (psL' L m.c).prog) (psL' L m.c).heap (adF m.x (insOf p m.x)) (wI (insOf p m.x).size)) = memOk m.c (adF m.x (insOf p m.x)) (insOf p m.x).size := rfl
 rw [hmo] at e1 e2 hg'
 cases h0 : okS m.x.set (readsF (insOf p m.x)) with
 | false =>
  rw [h0] at e1 e2 hg'
  have hs := step_0 (RF := RF) h0
  refine ⟨SP L m { q with l := l' }, ?_, m, { q with l := l' }, ?_, ?_, ⟨hq.bl, hl', hg'.trans hq.mem, hq.w⟩, rfl⟩
  ·rw [e2]; exact pM (A := p6 L m.c m.x q.g q.c q.a q.K)
  ·rw [hs]; exact e1
  ·rw [hs]; rfl
 | true =>
  rw [h0, Bool.true_and] at e1 e2 hg'
  have hs := stepSt (RF := RF) h0 hk
  cases hmk : memOk m.c (adF m.x (insOf p m.x)) (insOf p m.x).size with
  | false =>
   rw [hmk] at e1 e2 hg' hs
   refine ⟨SP L m { q with l := l' }, ?_, m, { q with l := l' }, ?_, ?_, ⟨hq.bl, hl', hg'.trans hq.mem, hq.w⟩, rfl⟩
   ·rw [e2]; exact pM (A := p6 L m.c m.x q.g q.c q.a q.K)
   ·rw [hs]; exact e1
   ·rw [hs]; rfl
  | true =>
   rw [hmk] at e1 e2 hg' hs
   refine ⟨SP L { m with x := goF m.x, mem := putsF m.mem (adF m.x (insOf p m.x)) (rA m.x (insOf p m.x).b) (insOf p m.x).size.toNat } { q with l := l' }, ?_, { m with x := goF m.x, mem := putsF m.mem (adF m.x (insOf p m.x)) (rA m.x (insOf p m.x).b) (insOf p m.x).size.toNat }, { q with l := l' }, ?_, ?_, ⟨hq.bl, hl', ?_, hq.w⟩, rfl⟩
   ·rw [e2]; exact pM (A := p6 L m.c (goF m.x) q.g q.c q.a q.K)
   ·rw [hs]; exact e1
   ·rw [hs]; rfl
   ·show getM l' = putsF m.mem _ _ _
    rw [hg', if_pos rfl, hq.mem]
theorem doLd (hm : MOk p m) (hp : ProgOk p) (hpi : ProgIn p) (hq : Rel m q) (hk : (insOf p m.x).kind = 17) :
    ACalls Tryz.prog 37 [.v (.pointer (some ⟨L.s, 0, none⟩)), cpT q, .agg (insCells (insOf p m.x))] (SP L m q) (StepR RF L m (insOf p m.x)) := by
 have hb := hm.top.bounds hp hpi
 have hpr := hm.prog
 have h1 := do32Ld L.s q.g (q.K.length + 1) q.c L.pg (psL' L m.c) (rowC q.K) m.x q.a (insOf p m.x) q.l hm.top.ok rfl hq.ok (by show m.c.prog.data.length ≤ _; rw [hpr]; exact hpi.data) (by show 0 ≤ m.c.prog.zero; rw [hpr]; exact hp.zero.1) (by show m.c.prog.zero ≤ _; rw [hpr]; exact hp.zero.2) hk hb.a hb.b hb.d hb.rd hb.len hb.at_
 refine ACalls.part (V.WSt L.wb L.wm q.ws ++ (rowsE q.K ++ labE L m.c.prog)) h1 (pM (A := p6 L m.c m.x q.g q.c q.a q.K)) (fun t S' h => ?_)
 obtain ⟨e1, e2⟩ := h
 have hmo : (sizeOk (insOf p m.x).size && thereF (psData (psL' L m.c).prog) (psL' L m.c).heap (adF m.x (insOf p m.x)) (wI (insOf p m.x).size)) = memOk m.c (adF m.x (insOf p m.x)) (insOf p m.x).size := rfl
 rw [hmo] at e1 e2
 cases h0 : okS m.x.set (readsF (insOf p m.x)) with
 | false =>
  rw [h0] at e1 e2
  have hs := step_0 (RF := RF) h0
  refine ⟨SP L m q, ?_, m, q, ?_, ?_, hq, rfl⟩
  ·rw [e2]; exact pM (A := p6 L m.c m.x q.g q.c q.a q.K)
  ·rw [hs]; exact e1
  ·rw [hs]; rfl
 | true =>
  rw [h0, Bool.true_and] at e1 e2
  have hs := stepLd (RF := RF) h0 hk
  cases hmk : memOk m.c (adF m.x (insOf p m.x)) (insOf p m.x).size with
  | false =>
   rw [hmk] at e1 e2 hs
   refine ⟨SP L m q, ?_, m, q, ?_, ?_, hq, rfl⟩
   ·rw [e2]; exact pM (A := p6 L m.c m.x q.g q.c q.a q.K)
   ·rw [hs]; exact e1
   ·rw [hs]; rfl
  | true =>
   rw [hmk] at e1 e2 hs
   rw [hq.mem] at e2
   refine ⟨SP L { m with x := goF (setD m.x (insOf p m.x).d (leF m.mem (adF m.x (insOf p m.x)) (insOf p m.x).size.toNat)) } q, ?_, { m with x := goF (setD m.x (insOf p m.x).d (leF m.mem (adF m.x (insOf p m.x)) (insOf p m.x).size.toNat)) }, q, ?_, ?_, ⟨hq.bl, hq.ok, hq.mem, hq.w⟩, rfl⟩
   ·rw [e2]; exact pM (A := p6 L m.c (goF (setD m.x (insOf p m.x).d (leF m.mem (adF m.x (insOf p m.x)) (insOf p m.x).size.toNat))) q.g q.c q.a q.K)
   ·rw [hs]; exact e1
   ·rw [hs]; rfl
theorem doB (hm : MOk p m) (hp : ProgOk p) (hpi : ProgIn p) (hq : Rel m q) (hk : (insOf p m.x).kind = 26) :
    ACalls Tryz.prog 37 [.v (.pointer (some ⟨L.s, 0, none⟩)), cpT q, .agg (insCells (insOf p m.x))] (SP L m q) (StepR RF L m (insOf p m.x)) := by
 have hb := hm.top.bounds hp hpi
 have ha := hb.a (by rw [hk]; rfl)
 obtain ⟨g, c, a, K, l, ws⟩ := q
 cases K with
 | nil =>
  have hbl : m.bl = [] := hq.bl.symm
  have h1 := do32R1 L.s g c (psL' L m.c) m.x a (insOf p m.x) hm.top.ok hk ha hb.rd hb.len
  refine ACalls.part (memW L l ws ++ (rowsE [] ++ labE L m.c.prog)) h1 (List.Perm.refl _) (fun t S' h => ?_)
  obtain ⟨e1, e2⟩ := h
  cases h0 : okS m.x.set (readsF (insOf p m.x)) with
  | false =>
   rw [h0] at e1 e2
   have hs := step_0 (RF := RF) h0
   refine ⟨_, List.Perm.refl _, m, ⟨g, c, a, [], l, ws⟩, ?_, ?_, hq, ?_⟩
   ·rw [hs]; exact e1
   ·rw [hs]; rfl
   ·rw [e2]; rfl
  | true =>
   rw [h0] at e1 e2
   have hs := stepB (RF := RF) h0 hk
   have e3 : backM m (rA m.x (insOf p m.x).a) = { m with c := backC m.c (rA m.x (insOf p m.x).a) } := by
    unfold backM; rw [hbl]
   have hpc : (backC m.c (rA m.x (insOf p m.x).a)).prog = m.c.prog := by unfold backC; split <;> rfl
   refine ⟨_, List.Perm.refl _, { m with c := backC m.c (rA m.x (insOf p m.x).a) }, ⟨g, c, a, [], l, ws⟩, ?_, ?_, ⟨hq.bl, hq.ok, hq.mem, hq.w⟩, ?_⟩
   ·rw [hs]; exact e1
   ·rw [hs, e3]; rfl
   ·rw [e2, if_pos rfl]
    show _ = p6 L (backC m.c (rA m.x (insOf p m.x).a)) m.x g c a [] ++ (memW L l ws ++ (rowsE [] ++ labE L (backC m.c (rA m.x (insOf p m.x).a)).prog))
    rw [hpc]
    unfold p6 psL'
    rw [hpc, ← back_ps]; rfl
 | cons yb K' =>
  obtain ⟨y, b⟩ := yb
  have hbl : m.bl = y :: K'.map (·.1) := hq.bl.symm
  have hy : FrIn p y := hm.bl y (by rw [hbl]; exact List.mem_cons_self ..)
  have hd : 0 ≤ m.x.d ∧ m.x.d < (y.nr : Int) := by
   have h := hm.ch
   rw [hbl] at h
   exact h.1
  have hdep : K'.length ≤ 1048576 := by
   have h := hm.dep
   rw [hbl, List.length_cons, List.length_map] at h
   omega
  have h1 := do32RM L.s g c K'.length (psL' L m.c) (rowC K') y b m.x a (insOf p m.x) (rowC_len K') hdep hy.ok hd hm.top.ok hk ha hb.rd hb.len
  refine ACalls.part (memW L l ws ++ (rowsE K' ++ labE L m.c.prog)) h1 (pC (A := p6 L m.c m.x g c a ((y, b) :: K')) (C := frR y b)) (fun t S' h => ?_)
  rcases h with ⟨h0, e1, e2⟩ | ⟨h0, e1, e2⟩
  ·have hs := step_0 (RF := RF) h0
   refine ⟨SP L m ⟨g, c, a, (y, b) :: K', l, ws⟩, ?_, m, ⟨g, c, a, (y, b) :: K', l, ws⟩, ?_, ?_, hq, rfl⟩
   ·rw [e2]; exact pC (A := p6 L m.c m.x g c a ((y, b) :: K')) (C := frR y b)
   ·rw [hs]; exact e1
   ·rw [hs]; rfl
  ·have hs := stepB (RF := RF) h0 hk
   have e3 : backM m (rA m.x (insOf p m.x).a) = { m with x := setD y m.x.d (rA m.x (insOf p m.x).a), bl := K'.map (·.1) } := by
    unfold backM; rw [hbl]
   refine ⟨_, List.Perm.refl _, { m with x := setD y m.x.d (rA m.x (insOf p m.x).a), bl := K'.map (·.1) }, ⟨g, c, b, K', l, ws⟩, ?_, ?_, ⟨rfl, hq.ok, hq.mem, hq.w⟩, ?_⟩
   ·rw [hs]; exact e1
   ·rw [hs, e3]; rfl
   ·rw [e2]; rfl
theorem doC (hm : MOk p m) (hp : ProgOk p) (hpi : ProgIn p) (hq : Rel m q) (hk : (insOf p m.x).kind = 22 ∨ (insOf p m.x).kind = 23 ∨ (insOf p m.x).kind = 24 ∨ (insOf p m.x).kind = 25) :
    ACalls Tryz.prog 37 [.v (.pointer (some ⟨L.s, 0, none⟩)), cpT q, .agg (insCells (insOf p m.x))] (SP L m q) (StepR RF L m (insOf p m.x)) := by
 have hb := hm.top.bounds hp hpi
 have io := hm.top.ins hp
 have hpr := hm.prog
 have hargs : (hasF (insOf p m.x).kind).args = true := by rcases hk with h | h | h | h <;> rw [h] <;> rfl
 have hlen : m.bl.length = q.K.length := by rw [← hq.bl, List.length_map]
 have hdep := hm.dep
 have h1 := do32C L.s q.g q.c q.K.length (psL' L m.c) (rowC q.K) m.x q.a (insOf p m.x) hm.top.ok (rowC_len q.K) (by omega) hk (by show ProgOk m.c.prog; rw [hpr]; exact hp) (by show m.c.prog.funs.length ≤ _; rw [hpr]; exact hpi.funs) hb.a (hb.args hargs) hb.len (fun h => by
  show (_ ∧ _ < m.c.prog.funs.length) ∧ _ = parF m.c.prog _
  rw [hpr]; exact ⟨io.fn h, io.par hargs h⟩) hb.rd hb.at_
 refine ACalls.part (memW L q.l q.ws ++ (rowsE q.K ++ labE L m.c.prog)) h1 (List.Perm.refl _) (fun t S' h => ?_)
 rcases h with ⟨h0, e1, e2⟩ | ⟨h0, b, e1, hJ⟩
 ·have hs := step_0 (RF := RF) h0
  refine ⟨_, List.Perm.refl _, m, q, ?_, ?_, hq, ?_⟩
  ·rw [hs]; exact e1
  ·rw [hs]; rfl
  rw [e2]; rfl
 have hs := stepC (RF := RF) h0 hk
 unfold JQ at hJ
 have hpp : (psL' L m.c).prog = m.c.prog := rfl
 rw [hpp] at hJ
 unfold jumpM at hs
 cases hc : calleeF m.c.prog m.x (insOf p m.x) with
 | none =>
  rw [hc] at hJ hs
  obtain ⟨rfl, e2⟩ := hJ
  refine ⟨_, List.Perm.refl _, m, q, ?_, ?_, hq, ?_⟩
  ·rw [hs]; exact e1
  ·rw [hs]; rfl
  ·rw [e2]; rfl
 | some f =>
  rw [hc] at hJ hs
  dsimp only at hJ hs
  split at hJ
  ·rename_i h24
   rw [if_pos h24] at hs
   obtain ⟨rfl, g', c', a', e2⟩ := hJ
   refine ⟨_, List.Perm.refl _, { m with x := openFr (m.c.prog.funs.getD f default) f (argsF m.x (insOf p m.x)) m.x.d }, { q with g := g', c := c', a := a' }, ?_, ?_, ⟨hq.bl, hq.ok, hq.mem, hq.w⟩, ?_⟩
   ·rw [hs]; exact e1
   ·rw [hs]; rfl
   ·rw [e2]; rfl
  ·rename_i h24
   rw [if_neg h24] at hs
   rw [← hlen] at hJ
   split at hJ
   ·rename_i hmx
    rw [if_pos hmx] at hs
    obtain ⟨rfl, e2⟩ := hJ
    refine ⟨_, List.Perm.refl _, m, q, ?_, ?_, hq, ?_⟩
    ·rw [hs]; exact e1
    ·rw [hs]; rfl
    ·rw [e2, hlen]; rfl
   ·rename_i hmx
    rw [if_neg hmx] at hs
    obtain ⟨rfl, g', c', a', e2⟩ := hJ
    rw [hlen] at e2
    refine ⟨SP L { m with x := openFr (m.c.prog.funs.getD f default) f (argsF m.x (insOf p m.x)) (insOf p m.x).d, bl := callF m.c.strict m.x :: m.bl } ⟨g', c', a', (callF m.c.strict m.x, q.a) :: q.K, q.l, q.ws⟩, ?_, { m with x := openFr (m.c.prog.funs.getD f default) f (argsF m.x (insOf p m.x)) (insOf p m.x).d, bl := callF m.c.strict m.x :: m.bl }, ⟨g', c', a', (callF m.c.strict m.x, q.a) :: q.K, q.l, q.ws⟩, ?_, ?_, ⟨by rw [List.map_cons, hq.bl], hq.ok, hq.mem, hq.w⟩, rfl⟩
    ·rw [e2]
     exact pC (A := p6 L m.c (openFr (m.c.prog.funs.getD f default) f (argsF m.x (insOf p m.x)) (insOf p m.x).d) g' c' a' ((callF m.c.strict m.x, q.a) :: q.K)) (C := frR (callF m.c.strict m.x) q.a)
    ·rw [hs]; exact e1
    ·rw [hs]; rfl
theorem doSy (hm : MOk p m) (hp : ProgOk p) (hpi : ProgIn p) (hq : Rel m q) (hst : m.c.st = 0) (hw : V.RP nb m.w) (hnb : nb ≤ 549755813888) (hk : (insOf p m.x).kind = 30) :
    ACalls Tryz.prog 37 [.v (.pointer (some ⟨L.s, 0, none⟩)), cpT q, .agg (insCells (insOf p m.x))] (SP L m q) (StepR RF L m (insOf p m.x)) := by
 have hb := hm.top.bounds hp hpi
 have io := hm.top.ins hp
 have hpr := hm.prog
 have hargs : (hasF (insOf p m.x).kind).args = true := by rw [hk]; rfl
 have h3 := (io.args hargs).2
 rw [hk] at h3
 have h1 := do32S L.s q.g (q.K.length + 1) q.c L.pg L.wb L.wm m.c (labT L m.c.prog) (rowC q.K) m.x q.a (insOf p m.x) q.l q.ws nb hm.top.ok hq.ok (by rw [hpr]; exact hpi.data) (by rw [hpr]; exact hp.zero.1) (by rw [hpr]; exact hp.zero.2) (by rw [hq.w]; exact hw) hnb hst hk hb.d hb.rd hb.at_ (hb.args hargs) (by have : mostF 30 = 3 := rfl; omega) hb.len
 refine ACalls.part (rowsE q.K ++ labE L m.c.prog) h1 pS (fun t S' h => ?_)
 rcases h with ⟨h0, e1, e2⟩ | ⟨h0, v, ok, cc', l', ws', hcq, e1, e2⟩
 ·have hs := step_0 (RF := RF) h0
  refine ⟨SP L m q, ?_, m, q, ?_, ?_, hq, rfl⟩
  ·rw [e2]; exact pS
  ·rw [hs]; exact e1
  rw [hs]; rfl
 have hs := stepSy (RF := RF) h0 hk
 unfold sysM at hs
 have hsr : sysR ⟨m.c, m.x, [], getM q.l, V.absW q.ws⟩ (insOf p m.x) = sysR m (insOf p m.x) := by
  unfold sysR; rw [hq.mem, hq.w]
 rcases hcq with ⟨h60, rfl, rfl, rfl, rfl, rfl⟩ | ⟨h60, rfl, hc⟩
 ·rw [if_pos h60] at hs e2
  refine ⟨SP L { m with c := { m.c with st := 1, code := codeOf (sysA m.x (insOf p m.x) 0) } } q, ?_, { m with c := { m.c with st := 1, code := codeOf (sysA m.x (insOf p m.x) 0) } }, q, ?_, ?_, ⟨hq.bl, hq.ok, hq.mem, hq.w⟩, rfl⟩
  ·rw [e2]; exact pS
  ·rw [hs]; exact e1
  rw [hs]; rfl
 rw [if_neg h60] at hs e2
 rw [hsr] at hc
 rcases hc with ⟨hc, rfl, rfl, rfl, rfl⟩ | ⟨r, hc, rfl, rfl, hl', hg', hw'⟩
 ·rw [hc] at hs
  refine ⟨SP L m q, ?_, m, q, ?_, ?_, hq, rfl⟩
  ·rw [e2]; exact pS
  ·rw [hs]; exact e1
  rw [hs]; rfl
 rw [hc] at hs
 refine ⟨SP L { m with x := goF (setD m.x (insOf p m.x).d (wI r.n)), mem := r.mem, w := r.w } { q with l := l', ws := ws' }, ?_, { m with x := goF (setD m.x (insOf p m.x).d (wI r.n)), mem := r.mem, w := r.w }, { q with l := l', ws := ws' }, ?_, ?_, ⟨hq.bl, hl', hg', hw'⟩, rfl⟩
 ·rw [e2]; exact pS
 ·rw [hs]; exact e1
 rw [hs]; rfl
theorem step32 (hRF : ∀ k a b, 1 ≤ k → k ≤ 8 → ACalls Tryz.prog 89 [zi k, zw a, zw b] [] (fun t S => t = zw (RF k a b))) (hm : MOk p m) (hp : ProgOk p) (hpi : ProgIn p) (hbs : L.bs.length = p.funs.length) (hq : Rel m q) (hst : m.c.st = 0) (hw : V.RP nb m.w) (hnb : nb ≤ 549755813888) (h19 : (insOf p m.x).kind ≠ 19) :
    ACalls Tryz.prog 37 [.v (.pointer (some ⟨L.s, 0, none⟩)), cpT q, .agg (insCells (insOf p m.x))] (SP L m q) (StepR RF L m (insOf p m.x)) := by
 have hi := isF_in (hm.top.ins hp).is
 by_cases hJ : (insOf p m.x).kind = 20 ∨ (insOf p m.x).kind = 21
 ·exact doJ hm hp hpi hq hbs hJ
 by_cases hB : (insOf p m.x).kind = 26
 ·exact doB hm hp hpi hq hB
 by_cases hC : (insOf p m.x).kind = 22 ∨ (insOf p m.x).kind = 23 ∨ (insOf p m.x).kind = 24 ∨ (insOf p m.x).kind = 25
 ·exact doC hm hp hpi hq hC
 by_cases h18 : (insOf p m.x).kind = 18
 ·exact doSt hm hp hpi hq h18
 by_cases h17 : (insOf p m.x).kind = 17
 ·exact doLd hm hp hpi hq h17
 by_cases h30 : (insOf p m.x).kind = 30
 ·exact doSy hm hp hpi hq hst hw hnb h30
 refine doV hm hp hpi hq ?_ hRF
 unfold valK
 omega
end
section
variable {RF : Int → Wd64 → Wd64 → Wd64} {p : Prog} {m m' : Mc}
theorem backC_prog (c : Pc) (v : Wd64) : (backC c v).prog = c.prog ∧ (backC c v).heap = c.heap ∧ (backC c v).strict = c.strict ∧ (backC c v).steps = c.steps ∧ (backC c v).ent = c.ent := by
 unfold backC; split <;> exact ⟨rfl, rfl, rfl, rfl, rfl⟩
theorem not_ends {k : Int} (h : ¬ (k = 20 ∨ k = 24 ∨ k = 25 ∨ k = 26)) : endsF k = false := by
 unfold endsF
 simp only [Bool.or_eq_false_iff, decide_eq_false_iff_not]
 omega
theorem jmp_next (hp : ProgOk p) (h : FrIn p m.x) (hk : (insOf p m.x).kind = 20 ∨ (insOf p m.x).kind = 21) : FrIn p (jmpF p m.x (insOf p m.x)) := by
 unfold jmpF
 split
 ·refine h.jump hp ?_
  unfold nextF
  rw [nx1_t hk]
  exact List.mem_append_left _ (List.mem_singleton.2 rfl)
 rename_i hj
 refine h.jump hp ?_
 unfold nextF
 have h20 : ¬ (insOf p m.x).kind = 20 := fun e => hj (.inl e)
 rw [if_neg (by rw [not_ends (by omega)]; decide)]
 refine List.mem_append_right _ (List.mem_singleton.2 ?_)
 have := h.a0
 omega
structure Same (c c' : Pc) : Prop where
 prog : c'.prog = c.prog
 heap : c'.heap = c.heap
 strict : c'.strict = c.strict
 ent : c'.ent = c.ent
 steps : c'.steps = c.steps
theorem Same.refl (c : Pc) : Same c c := ⟨rfl, rfl, rfl, rfl, rfl⟩
theorem stepA_frame {heap : Wd64} {x x' : Fr} {i : Ins} (h : stepA RF heap x i = some x') : (x' = goF (putF x i) ∨ x' = goF (setD x i.d (valueF RF heap x i).1)) := by
 unfold stepA at h
 split at h
 ·cases h
 split at h
 ·cases h; exact .inl rfl
 split at h
 ·cases h; exact .inr rfl
 cases h
theorem step_ok (hp : ProgOk p) (hpf : p.funs.length ≤ 1048576) (hm : MOk p m) (h19 : (insOf p m.x).kind ≠ 19) (h : stepM RF m (insOf p m.x) = some m') : MOk p m' ∧ Same m.c m'.c := by
 have hpr := hm.prog
 have io := hm.top.ins hp
 unfold stepM at h
 split at h
 ·cases h
 split at h
 ·rename_i hk
  cases h
  refine ⟨⟨hpr, ?_, hm.bl, ?_, hm.dep⟩, Same.refl _⟩
  ·show FrIn p (jmpF m.c.prog m.x (insOf p m.x))
   rw [hpr]; exact jmp_next hp hm.top hk
  exact hm.ch.top rfl
 split at h
 ·cases h
  unfold backM
  split
  ·rename_i hb
   have := backC_prog m.c (rA m.x (insOf p m.x).a)
   exact ⟨⟨this.1.trans hpr, hm.top, by rw [hb]; exact fun _ q => (by cases q), by rw [hb]; trivial, by rw [hb]; decide⟩, ⟨this.1, this.2.1, this.2.2.1, this.2.2.2.2, this.2.2.2.1⟩⟩
  rename_i y r hb
  have hy := hm.bl y (by rw [hb]; exact List.mem_cons_self ..)
  refine ⟨⟨hpr, hy.setD _ _, fun z hz => hm.bl z (by rw [hb]; exact List.mem_cons_of_mem _ hz), ?_, ?_⟩, Same.refl _⟩
  ·have hc := hm.ch
   rw [hb] at hc
   exact hc.2.top rfl
  have hd := hm.dep
  rw [hb, List.length_cons] at hd
  show r.length < 1048576
  omega
 split at h
 ·rename_i hk
  have hargs : (hasF (insOf p m.x).kind).args = true := by rcases hk with h | h | h | h <;> rw [h] <;> rfl
  have hcin : ∀ f, calleeF m.c.prog m.x (insOf p m.x) = some f → f < p.funs.length ∧ (((insOf p m.x).args.map (rA m.x)).length : Int) = (p.funs.getD f default).params := by
   intro f hf
   rw [hpr] at hf
   unfold calleeF at hf
   rw [List.length_map]
   split at hf
   ·split at hf
    ·cases hf
    ·rename_i hb
     cases hf
     have hb' : badTo p m.x (insOf p m.x) = false := by simpa using hb
     unfold badTo at hb'
     simp only [Bool.or_eq_false_iff, decide_eq_false_iff_not, Bool.not_eq_false', decide_eq_true_eq] at hb'
     have h1 : toN m.x (insOf p m.x) < wI (p.funs.length : Int) := BitVec.not_le.1 hb'.1.2
     rw [BitVec.lt_def] at h1
     have h2 := wI_nat (p.funs.length : Int)
     rw [wrap_u64] at h2
     exact ⟨by omega, by have := hb'.2; omega⟩
   ·rename_i hb
    cases hf
    have hf' : (hasF (insOf p m.x).kind).f = true := by
     rcases hk with h | h | h | h
     ·rw [h]; rfl
     ·exact absurd (.inl h) hb
     ·rw [h]; rfl
     ·exact absurd (.inr h) hb
    have h1 := io.fn hf'
    have h2 := io.par hargs hf'
    unfold parF at h2
    exact ⟨h1.2, h2⟩
  unfold jumpM at h
  cases hc : calleeF m.c.prog m.x (insOf p m.x) with
  | none => rw [hc] at h; cases h
  | some f =>
   rw [hc] at h
   dsimp only at h
   obtain ⟨h1, h2⟩ := hcin f hc
   have hnew : ∀ d, FrIn p (openFr (m.c.prog.funs.getD f default) f (argsF m.x (insOf p m.x)) d) := fun d => by
    rw [hpr]; exact FrIn.open hp h1 h2 d
   split at h
   ·cases h
    exact ⟨⟨hpr, hnew _, hm.bl, hm.ch.top rfl, hm.dep⟩, Same.refl _⟩
   ·rename_i h24
    split at h
    ·cases h
    ·rename_i hmx
     cases h
     have hk2 : (insOf p m.x).kind = 22 ∨ (insOf p m.x).kind = 23 := by omega
     have hd := io.d (by rcases hk2 with h | h <;> rw [h] <;> rfl)
     have hnr : (m.x.nr : Int) = (fnOf p m.x).regs := by
      have h1 := hm.top.fn hp
      have := h1.par0
      have := h1.par2
      rw [hm.top.nr]; omega
     refine ⟨⟨hpr, hnew _, fun z hz => ?_, ⟨?_, ?_⟩, ?_⟩, Same.refl _⟩
     ·rcases List.mem_cons.1 hz with rfl | hz
      ·exact hm.top.call hp (not_ends (by omega)) _
      ·exact hm.bl z hz
     ·show 0 ≤ (insOf p m.x).d ∧ (insOf p m.x).d < (m.x.nr : Int)
      rw [hnr]; exact hd
     ·exact hm.ch.top rfl
     ·show (m.bl.length + 1) < 1048576
      omega
 split at h
 ·rename_i hk
  split at h
  ·cases h
   exact ⟨⟨hpr, hm.top.go hp (not_ends (by omega)), hm.bl, hm.ch.top rfl, hm.dep⟩, Same.refl _⟩
  cases h
 split at h
 ·rename_i hk
  split at h
  ·cases h
   have hg := hm.top.go hp (not_ends (by omega))
   exact ⟨⟨hpr, ⟨hg.f0, hg.f1, hg.nr, hg.ns, goF_ok (setD_ok hm.top.ok _ _), hg.a0, hg.a1⟩, hm.bl, hm.ch.top rfl, hm.dep⟩, Same.refl _⟩
  cases h
 split at h
 ·rename_i hk
  unfold sysM at h
  split at h
  ·cases h
   exact ⟨⟨hpr, hm.top, hm.bl, hm.ch, hm.dep⟩, ⟨rfl, rfl, rfl, rfl, rfl⟩⟩
  cases hr : sysR m (insOf p m.x) with
  | none => rw [hr] at h; cases h
  | some r =>
   rw [hr] at h
   cases h
   have hg := hm.top.go hp (not_ends (by omega))
   exact ⟨⟨hpr, ⟨hg.f0, hg.f1, hg.nr, hg.ns, goF_ok (setD_ok hm.top.ok _ _), hg.a0, hg.a1⟩, hm.bl, hm.ch.top rfl, hm.dep⟩, Same.refl _⟩
 rename_i k1 k2 k3 k4 k5 k6
 cases hA : stepA RF m.c.heap m.x (insOf p m.x) with
 | none => rw [hA] at h; cases h
 | some x' =>
  rw [hA] at h
  cases h
  have hg := hm.top.go hp (not_ends (by omega))
  rcases stepA_frame hA with rfl | rfl
  ·exact ⟨⟨hpr, ⟨hg.f0, hg.f1, hg.nr, hg.ns, goF_ok (putF_ok hm.top.ok _), hg.a0, hg.a1⟩, hm.bl, hm.ch.top rfl, hm.dep⟩, Same.refl _⟩
  ·exact ⟨⟨hpr, ⟨hg.f0, hg.f1, hg.nr, hg.ns, goF_ok (setD_ok hm.top.ok _ _), hg.a0, hg.a1⟩, hm.bl, hm.ch.top rfl, hm.dep⟩, Same.refl _⟩
/-! ### the world's bounds -/
theorem in_le {a n base size : Wd64} (h : inF a n base size = true) : n.toNat ≤ size.toNat := by
 unfold inF at h
 simp only [Bool.and_eq_true, decide_eq_true_eq] at h
 obtain ⟨⟨h1, h2⟩, h3⟩ := h
 rw [BitVec.le_def] at h1 h2 h3
 rw [BitVec.toNat_sub] at h3
 have := size.isLt
 have := (a - base).isLt
 omega
theorem data_le (hp : ProgOk p) (hd : p.data.length ≤ 1048576) : (psData p).toNat ≤ 268435456 := by
 have h := wI_nat ((p.data.length : Int) + p.zero)
 rw [wrap_u64] at h
 have h1 := hp.zero
 have h2 := hp.data
 unfold psData
 omega
theorem there_le (hp : ProgOk p) (hd : p.data.length ≤ 1048576) {c : Pc} (hc : c.prog = p) (hh : c.heap.toNat ≤ 268435456) {a n : Wd64} (h : badMem c a n = false) : n.toNat ≤ 268435456 := by
 unfold badMem thereC thereF at h
 rw [hc] at h
 simp only [Bool.and_eq_false_iff, decide_eq_false_iff_not, Bool.not_eq_false', Bool.or_eq_true] at h
 rcases h with h | h | h
 ·rw [BitVec.lt_def] at h
  have : (0#64 : Wd64).toNat = 0 := rfl
  omega
 ·have := in_le h
  have := data_le hp hd
  omega
 have := in_le h
 omega
theorem sys_w (hp : ProgOk p) (hd : p.data.length ≤ 1048576) (hc : m.c.prog = p) (hh : m.c.heap.toNat ≤ 268435456) {nb : Nat} (hw : V.RP nb m.w) {i : Ins} {r : SysR} (h : sysR m i = some r) : V.RP (nb + 268435458) r.w := by
 unfold sysR at h
 split at h
 ·cases h
  unfold rdM
  split
  ·exact hw.mono (by omega)
  split
  ·exact hw.mono (by omega)
  exact (hw.read _ _).mono (by omega)
 split at h
 ·cases h
  unfold wrM
  split
  ·exact hw.mono (by omega)
  split
  ·exact hw.mono (by omega)
  rename_i hb
  have := there_le hp hd hc hh (by simpa using hb)
  refine (hw.write _ _).mono ?_
  unfold bytesAt
  rw [List.length_map, List.length_range]
  omega
 split at h
 ·cases h
  unfold opM
  split
  ·exact hw.mono (by omega)
  ·exact hw.mono (by omega)
  exact (hw.of_open _ _).mono (by omega)
 split at h
 ·cases h
  exact (hw.close _).mono (by omega)
 cases h
theorem step_w (hp : ProgOk p) (hd : p.data.length ≤ 1048576) (hc : m.c.prog = p) (hh : m.c.heap.toNat ≤ 268435456) {nb : Nat} (hw : V.RP nb m.w) {i : Ins} (h : stepM RF m i = some m') : V.RP (nb + 268435458) m'.w := by
 unfold stepM at h
 split at h
 ·cases h
 split at h
 ·cases h; exact hw.mono (by omega)
 split at h
 ·cases h
  unfold backM
  split <;> exact hw.mono (by omega)
 split at h
 ·unfold jumpM at h
  split at h
  ·cases h
  split at h
  ·cases h; exact hw.mono (by omega)
  split at h
  ·cases h
  cases h; exact hw.mono (by omega)
 split at h
 ·split at h
  ·cases h; exact hw.mono (by omega)
  cases h
 split at h
 ·split at h
  ·cases h; exact hw.mono (by omega)
  cases h
 split at h
 ·unfold sysM at h
  split at h
  ·cases h; exact hw.mono (by omega)
  cases hr : sysR m i with
  | none => rw [hr] at h; cases h
  | some r =>
   rw [hr] at h
   cases h
   exact sys_w hp hd hc hh hw hr
 cases hA : stepA RF m.c.heap m.x i with
 | none => rw [hA] at h; cases h
 | some x' => rw [hA] at h; cases h; exact hw.mono (by omega)
theorem skip_end {L : List Ins} (hl : (L.getD (L.length - 1) default).kind ≠ 19) : ∀ n a, a < L.length → L.length - a ≤ n → skipL L n a < L.length ∧ (L.getD (skipL L n a) default).kind ≠ 19
 | 0, a, h1, h2 => by omega
 | n + 1, a, h1, h2 => by
  rw [skipL]
  split
  ·rename_i hk
   have : a + 1 < L.length := by
    rcases Nat.lt_or_ge (a + 1) L.length with q | q
    ·exact q
    ·exfalso
     rw [show L.length - 1 = a by omega] at hl
     exact hl hk
   exact skip_end hl n (a + 1) this (by omega)
  ·rename_i hk
   exact ⟨h1, hk⟩
theorem last_not19 {f : Fn} (hf : FnOk p f) : (f.code.getD (f.code.length - 1) default).kind ≠ 19 := by
 intro e
 have h := hf.last
 unfold lastK at h
 rw [e] at h; cases h
theorem adv_in (hp : ProgOk p) {x : Fr} (h : FrIn p x) : FrIn p (advF p x) ∧ (insOf p (advF p x)).kind ≠ 19 := by
 have hs := skip_end (last_not19 (h.fn hp)) _ _ h.a1 (Nat.le_refl _)
 unfold advF
 refine ⟨⟨h.f0, h.f1, h.nr, h.ns, ⟨h.ok.r, h.ok.s, h.ok.t, h.ok.h⟩, Int.natCast_nonneg _, ?_⟩, ?_⟩
 ·show (((skipL _ _ _ : Nat) : Int)).toNat < _
  rw [Int.toNat_natCast]; exact hs.1
 show ((fnOf p x).code.getD (((skipL _ _ _ : Nat) : Int)).toNat default).kind ≠ 19
 rw [Int.toNat_natCast]; exact hs.2
theorem adv_label (hp : ProgOk p) {x : Fr} (h : FrIn p x) (hk : (insOf p x).kind = 19) : advF p (goF x) = advF p x := by
 have h0 := h.a0
 have hlen : (fnOf p x).code.length - x.at_.toNat = ((fnOf p x).code.length - (x.at_ + 1).toNat) + 1 := by
  have := h.more hp (by rw [hk]; rfl)
  omega
 unfold advF
 show ({ (goF x) with at_ := ((skipL (fnOf p x).code ((fnOf p x).code.length - (x.at_ + 1).toNat) (x.at_ + 1).toNat : Nat) : Int) } : Fr) = _
 conv => rhs; rw [hlen, skipL, if_pos (show ((fnOf p x).code.getD x.at_.toNat default).kind = 19 from hk)]
 rw [show (x.at_ + 1).toNat = x.at_.toNat + 1 by omega]
 rfl
theorem adv_not (hp : ProgOk p) {x : Fr} (h : FrIn p x) (hk : (insOf p x).kind ≠ 19) : advF p x = x := by
 have h0 := h.a0
 have h1 := h.a1
 unfold advF
 rw [show (fnOf p x).code.length - x.at_.toNat = ((fnOf p x).code.length - x.at_.toNat - 1) + 1 by omega, skipL, if_neg (show ¬ ((fnOf p x).code.getD x.at_.toNat default).kind = 19 from hk)]
 rw [Int.toNat_of_nonneg h0]
theorem MOk.adv (hp : ProgOk p) (h : MOk p m) : MOk p (advM m) := ⟨h.prog, by show FrIn p (advF m.c.prog m.x); rw [h.prog]; exact (adv_in hp h.top).1, h.bl, h.ch.top rfl, h.dep⟩
theorem MOk.tick (h : MOk p m) : MOk p (tickC m) := ⟨h.prog, h.top, h.bl, h.ch, h.dep⟩
theorem MOk.stuck (h : MOk p m) : MOk p (stuckC m) := ⟨h.prog, h.top, h.bl, h.ch, h.dep⟩
end

section
variable {RF : Int → Wd64 → Wd64 → Wd64} {p : Prog} {m m' : Mc}
theorem adv_self (hp : ProgOk p) (hm : MOk p m) (hk : (insOf p m.x).kind ≠ 19) : advM m = m := by
 unfold advM
 rw [hm.prog, adv_not hp hm.top hk]
theorem runM_label (hp : ProgOk p) (hm : MOk p m) (hst : m.c.st = 0) (hk : (insOf p m.x).kind = 19) {n : Nat} (hn : 0 < n) : runM RF n { m with x := goF m.x } = runM RF n m := by
 obtain ⟨k, rfl⟩ : ∃ k, n = k + 1 := ⟨n - 1, by omega⟩
 have e : advM { m with x := goF m.x } = advM m := by
  unfold advM
  dsimp only
  rw [hm.prog, adv_label hp hm.top hk]
 rw [runM, runM, e, if_neg (show ¬ (m.c.st ≠ 0) from fun h => h hst), if_neg (show ¬ (m.c.st ≠ 0) from fun h => h hst)]
theorem runM_step (hp : ProgOk p) (hm : MOk p m) (hst : m.c.st = 0) (hk : (insOf p m.x).kind ≠ 19) {n : Nat} (h : stepM RF m (insOf p m.x) = some m') : runM RF (n + 1) m = runM RF n (tickC m') := by
 rw [runM, if_neg (fun h => h hst), adv_self hp hm hk, hm.prog, h]
theorem runM_stuck (hp : ProgOk p) (hm : MOk p m) (hst : m.c.st = 0) (hk : (insOf p m.x).kind ≠ 19) {n : Nat} (h : stepM RF m (insOf p m.x) = none) : runM RF (n + 1) m = stuckC m := by
 rw [runM, if_neg (fun h => h hst), adv_self hp hm hk, hm.prog, h]
theorem runM_end {f : Int} (h : ¬ (0 < f ∧ m.c.st = 0)) : runM RF f.toNat m = m := by
 cases hf : f.toNat with
 | zero => rfl
 | succ n =>
  rw [runM, if_pos]
  intro e
  exact h ⟨by omega, e⟩
end
theorem idxB {n k j len : Nat} (h : n = len * (k + 1)) (hj : j < len) : j * (k + 1) < n := by
 subst h; exact Nat.mul_lt_mul_of_pos_right hj (Nat.succ_pos k)
theorem toTen0 {A C : St} {x : Ent} : (A ++ (x :: C)).Perm ((A ++ C) ++ [x]) := by
 rw [List.append_assoc]
 exact ((List.perm_append_singleton x C).symm).append_left A
theorem toEnd {A C : St} {x : Ent} : ((A ++ C) ++ [x]).Perm (A ++ (x :: C)) := toTen0.symm
theorem Run15 (RF : Int → Wd64 → Wd64 → Wd64) (hRF : ∀ k a b, 1 ≤ k → k ≤ 8 → ACalls Tryz.prog 89 [zi k, zw a, zw b] [] (fun t S => t = zw (RF k a b))) (L : Lay) (p : Prog) (hp : ProgOk p) (hpi : ProgIn p) (hbs : L.bs.length = p.funs.length) (m0 : Mc) (q0 : Qp) (f0 : Int) (nb : Nat) (hm0 : MOk p m0) (hq0 : Rel m0 q0) (hh0 : m0.c.heap.toNat ≤ 268435456) (hw0 : V.RP nb m0.w) (hnb : nb + 268435458 * f0.toNat ≤ 549755813888) (hs0 : 0 ≤ m0.c.steps ∧ m0.c.steps ≤ 4611686018427387904) (hf0 : f0 ≤ 4611686018427387903) :
    ACalls Tryz.prog 12 [pv L.s, zi f0] (SP L m0 q0) (fun t S => ∃ q', t = zi (runM RF f0.toNat m0).c.st ∧ Rel (runM RF f0.toNat m0) q' ∧ S = SP L (runM RF f0.toNat m0) q') := by
 refine ai Tryz.func12 Tryz.ntmps12 fun X w0 => ?_
 refine rs (y1 ?_)
 refine nl (sq (rs (y2 (nl ?_))))
 refine cq (fun h0t => ?_) fun _ => ?_
 ·cases h0t
 refine sp (sq (bk ?_))
 refine lp3 (fun (m : Mc) (q : Qp) (f : Int) => [(0, true, pv L.s), (1, true, zi f)]) (fun (m : Mc) (q : Qp) (f : Int) => (([Ent.box L.s 83 (psC (psL' L m.c) (.v (.slice (sg q.g) (q.K.length + 1) q.c))), Ent.row (sg q.g) (q.K.length + 1) q.c 104 7 (rowC q.K ++ frC m.x q.a)] ++ frR m.x q.a) ++ (memW L q.l q.ws ++ (rowsE q.K ++ labE L m.c.prog)))) (fun (m : Mc) (q : Qp) (f : Int) => MOk p m ∧ Rel m q ∧ runM RF f.toNat m = runM RF f0.toNat m0 ∧ m.c.heap.toNat ≤ 268435456 ∧ V.RP (nb + 268435458 * (f0.toNat - f.toNat)) m.w ∧ f ≤ f0 ∧ 0 ≤ m.c.steps ∧ m.c.steps ≤ 4611686018427387904 + (f0 - f)) (fun (m : Mc) (q : Qp) (f : Int) => f.toNat * 1048578 + (1048577 - m.x.at_.toNat)) m0 q0 f0 ?_ ?_
 ·exact ⟨hm0, hq0, rfl, hh0, by rw [Nat.sub_self]; exact hw0, Int.le_refl _, hs0.1, by omega⟩
 intro m q f ⟨hm, hq, hrun, hh, hw, hff, hs1, hs2⟩
 have hpr := hm.prog
 have hfl : m.x.f.toNat < m.c.prog.funs.length := by rw [hpr]; exact hm.top.f1
 have hcl : (m.c.prog.funs.getD m.x.f.toNat default).code = (fnOf p m.x).code := by rw [hpr]; rfl
 have hcn : (m.c.prog.funs.getD m.x.f.toNat default).code.length = (fnOf p m.x).code.length := by rw [hcl]
 have hat0 := hm.top.a0
 have hat1 := hm.top.a1
 have hcb : (fnOf p m.x).code.length ≤ 1048576 := (hpi.fn _ (getD_mem hm.top.f1)).code
 have hflp : m.x.f.toNat < (psL' L m.c).prog.funs.length := hfl
 have hatp : m.x.at_.toNat < ((psL' L m.c).prog.funs.getD m.x.f.toNat default).code.length := by
  show _ < (m.c.prog.funs.getD m.x.f.toNat default).code.length
  rw [hcn]; exact hat1
 have hIq : ((psL' L m.c).prog.funs.getD m.x.f.toNat default).code.getD m.x.at_.toNat default = insOf p m.x := by
  show (m.c.prog.funs.getD m.x.f.toNat default).code.getD m.x.at_.toNat default = _
  rw [hpr]; rfl
 have hrl := rowC_len q.K
 have hKl : q.K.length < 1048576 := by
  have := hm.dep
  rw [← hq.bl, List.length_map] at this
  exact this
 refine sq (rs (y9 (nl ?_)))
 refine cq (fun h1t => ?_) fun h1f => ?_
 ·have hgo : 0 < f ∧ m.c.st = 0 := by
   have h : 0 < f ∧ (psL' L m.c).st = 0 := by simpa using h1t
   exact h
  refine sp (bk (rq (q10 ?_)))
  refine Q1 (ix (j := q.K.length) (hj := fun hg => ⟨by omega, by omega⟩)) ?_
  refine q1 (nq ?_)
  rw [← rowC_len q.K]
  show AW _ _ _ _ (([Ent.box L.s 83 (psC (psL' L m.c) (.v (.slice (sg q.g) (q.K.length + 1) q.c))), Ent.row (sg q.g) (q.K.length + 1) q.c 104 7 (rowC q.K ++ frC m.x q.a)] ++ frR m.x q.a) ++ (memW L q.l q.ws ++ (rowsE q.K ++ labE L m.c.prog)))
  refine AW.mid (α := Nat) (fun b6 => [(0, true, pv L.s), (1, true, zi f), (5, true, .ep (.slice (sg q.g) (q.K.length + 1) q.c) (rowC q.K).length), (6, true, pv b6)]) (fun b6 => ([Ent.box L.s 83 (psC (psL' L m.c) (.v (.slice (sg q.g) (q.K.length + 1) q.c))), Ent.row (sg q.g) (q.K.length + 1) q.c 104 7 (rowC q.K ++ frC m.x q.a)] ++ frR m.x q.a) ++ (Ent.box b6 90 (insCells (insOf p m.x)) :: (memW L q.l q.ws ++ (rowsE q.K ++ labE L m.c.prog)))) (fun _ => True) ?_ ?_
  ·refine AW.regionH (HeldCs [(q.g, (rowC q.K).length + 0, Value.int .i64 m.x.f), (q.g, (rowC q.K).length + 1, Value.int .i64 m.x.at_)]) rfl (tells_cs tcA) ?_
   refine tq 0 ?_
   refine tq 1 ?_
   refine tq 2 ?_
   refine tq 3 ?_
   refine tq 5 ?_
   refine tq 6 ?_
   refine tq 7 ?_
   refine tq 8 ?_
   refine tq 12 ?_
   refine tq 13 ?_
   refine tq 14 ?_
   refine tq 15 ?_
   refine AWH.two (i := 4) (j := 18) (by kernel_rfl) rfl rfl ?_ ?_
   ·refine y1 ?_
    refine kh ?_
    refine T2 (i := 9) rfl (heldAll (freeIdxSl (j := m.x.f.toNat) rfl ss_22 (B rfl) (E rfl rfl) (E rfl rfl) ⟨(Int.toNat_of_nonneg hm.top.f0).symm, idxB len_funs hflp⟩)) ?_
    refine tq 10 ?_
    refine AWH.two (i := 11) (j := 18) (by kernel_rfl) rfl rfl ?_ ?_
    ·refine Y1 (Yv.loadRp rfl ag_84 eV (fun hg => fcode_at hflp)) ?_
     refine kh ?_
     refine T2 (i := 16) rfl (heldAll (freeIdxSl (j := m.x.at_.toNat) rfl ss_84 (B rfl) (E rfl rfl) (E rfl rfl) ⟨(Int.toNat_of_nonneg hat0).symm, idxB len_code hatp⟩)) ?_
     refine AWH.two (i := 17) (j := 18) (by kernel_rfl) rfl rfl ?_ ?_
     ·refine Y1 (Yv.loadRpA rfl ag_90 eV (fun hg => ins_cells hatp)) ?_
      refine kh ?_
      refine oh 18 ?_
      refine bx fun b6 => ?_
      refine AWL.perm (S' := ([Ent.box L.s 83 (psC (psL' L m.c) (.v (.slice (sg q.g) (q.K.length + 1) q.c))), Ent.row (sg q.g) (q.K.length + 1) q.c 104 7 (rowC q.K ++ frC m.x q.a)] ++ frR m.x q.a) ++ (Ent.box b6 90 (List.map T.v [.int .i64 0, .int .i64 0, .int .i64 0, .int .i64 0, .int .i64 0, .int .i64 0, .int .i64 0, .int .i64 0, .int .i64 0, .int .i64 0, .slice none 0 0]) :: (memW L q.l q.ws ++ (rowsE q.K ++ labE L m.c.prog)))) toTen0 ?_
      refine kh ?_
      refine oh 19 ?_
      refine y1 ?_
      refine kh ?_
      refine dn ?_
      exact ⟨b6, trivial, sbZ, by rw [← hIq]; rfl⟩
     refine bx fun b6 => ?_
     refine AWL.perm (S' := ([Ent.box L.s 83 (psC (psL' L m.c) (.v (.slice (sg q.g) (q.K.length + 1) q.c))), Ent.row (sg q.g) (q.K.length + 1) q.c 104 7 (rowC q.K ++ frC m.x q.a)] ++ frR m.x q.a) ++ (Ent.box b6 90 (List.map T.v [.int .i64 0, .int .i64 0, .int .i64 0, .int .i64 0, .int .i64 0, .int .i64 0, .int .i64 0, .int .i64 0, .int .i64 0, .int .i64 0, .slice none 0 0]) :: (memW L q.l q.ws ++ (rowsE q.K ++ labE L m.c.prog)))) toTen0 ?_
     refine kh ?_
     refine oh 17 ?_
     refine Y1 (Yv.loadRpA rfl ag_90 eV (fun hg => ins_cells hatp)) ?_
     refine kh ?_
     refine oh 19 ?_
     refine y1 ?_
     refine kh ?_
     refine dn ?_
     exact ⟨b6, trivial, sbZ, by rw [← hIq]; rfl⟩
    refine bx fun b6 => ?_
    refine AWL.perm (S' := ([Ent.box L.s 83 (psC (psL' L m.c) (.v (.slice (sg q.g) (q.K.length + 1) q.c))), Ent.row (sg q.g) (q.K.length + 1) q.c 104 7 (rowC q.K ++ frC m.x q.a)] ++ frR m.x q.a) ++ (Ent.box b6 90 (List.map T.v [.int .i64 0, .int .i64 0, .int .i64 0, .int .i64 0, .int .i64 0, .int .i64 0, .int .i64 0, .int .i64 0, .int .i64 0, .int .i64 0, .slice none 0 0]) :: (memW L q.l q.ws ++ (rowsE q.K ++ labE L m.c.prog)))) toTen0 ?_
    refine kh ?_
    refine oh 11 ?_
    refine Y1 (Yv.loadRp rfl ag_84 eV (fun hg => fcode_at hflp)) ?_
    refine kh ?_
    refine oh 16 ?_
    refine Y1 (Yv.indexSl (j := m.x.at_.toNat) rfl ss_84 (B rfl) eV eV (fun hg => ⟨(Int.toNat_of_nonneg hat0).symm, idxB len_code hatp⟩)) ?_
    refine kh ?_
    refine oh 17 ?_
    refine Y1 (Yv.loadRpA rfl ag_90 eV (fun hg => ins_cells hatp)) ?_
    refine kh ?_
    refine oh 19 ?_
    refine y1 ?_
    refine kh ?_
    refine dn ?_
    exact ⟨b6, trivial, sbZ, by rw [← hIq]; rfl⟩
   refine bx fun b6 => ?_
   refine AWL.perm (S' := ([Ent.box L.s 83 (psC (psL' L m.c) (.v (.slice (sg q.g) (q.K.length + 1) q.c))), Ent.row (sg q.g) (q.K.length + 1) q.c 104 7 (rowC q.K ++ frC m.x q.a)] ++ frR m.x q.a) ++ (Ent.box b6 90 (List.map T.v [.int .i64 0, .int .i64 0, .int .i64 0, .int .i64 0, .int .i64 0, .int .i64 0, .int .i64 0, .int .i64 0, .int .i64 0, .int .i64 0, .slice none 0 0]) :: (memW L q.l q.ws ++ (rowsE q.K ++ labE L m.c.prog)))) toTen0 ?_
   refine kh ?_
   refine oh 4 ?_
   refine y1 ?_
   refine kh ?_
   refine oh 9 ?_
   refine Y1 (Yv.indexSl (j := m.x.f.toNat) rfl ss_22 (B rfl) eV eV (fun hg => ⟨(Int.toNat_of_nonneg hm.top.f0).symm, idxB len_funs hflp⟩)) ?_
   refine kh ?_
   refine oh 10 ?_
   refine y1 ?_
   refine kh ?_
   refine oh 11 ?_
   refine Y1 (Yv.loadRp rfl ag_84 eV (fun hg => fcode_at hflp)) ?_
   refine kh ?_
   refine oh 16 ?_
   refine Y1 (Yv.indexSl (j := m.x.at_.toNat) rfl ss_84 (B rfl) eV eV (fun hg => ⟨(Int.toNat_of_nonneg hat0).symm, idxB len_code hatp⟩)) ?_
   refine kh ?_
   refine oh 17 ?_
   refine Y1 (Yv.loadRpA rfl ag_90 eV (fun hg => ins_cells hatp)) ?_
   refine kh ?_
   refine oh 19 ?_
   refine y1 ?_
   refine kh ?_
   refine dn ?_
   exact ⟨b6, trivial, sbZ, by rw [← hIq]; rfl⟩
  rintro b6 hmid
  refine sq (rs (y3 (nl ?_)))
  refine cq (fun h2t => ?_) fun h2f => ?_
  ·have hk19 : (insOf p m.x).kind = 19 := h2t
   refine rs (y8 (nl ?_))
   refine AW.dropAt 6 ?_
   refine xt ?_
   have hmore := hm.top.more hp (by rw [hk19]; rfl)
   refine ⟨{ m with x := goF m.x }, q, f, ⟨⟨hm.prog, hm.top.go hp (by rw [hk19]; rfl), hm.bl, hm.ch.top rfl, hm.dep⟩, ⟨hq.bl, hq.ok, hq.mem, hq.w⟩, ?_, hh, hw, hff, hs1, hs2⟩, ?_, sbZ, ?_⟩
   ·rw [← hrun, runM_label hp hm hgo.2 hk19 (by omega)]
   ·show f.toNat * 1048578 + (1048577 - (m.x.at_ + 1).toNat) < _
    omega
   rw [show frR ({ m with x := goF m.x } : Mc).x q.a = frR m.x q.a from rfl, show (rowC q.K ++ frC ({ m with x := goF m.x } : Mc).x q.a) = (rowC q.K ++ frC m.x q.a).set ((rowC q.K).length + 1) (zi (m.x.at_ + 1)) from (fr_jump (pre := rowC q.K) (x := m.x) (a := q.a) _).symm]
   rfl
  have hk19 : ¬ (insOf p m.x).kind = 19 := h2f
  refine sp (sq (rs (y3 ?_)))
  refine AWL.perm (S' := (([Ent.box L.s 83 (psC (psL' L m.c) (.v (.slice (sg q.g) (q.K.length + 1) q.c))), Ent.row (sg q.g) (q.K.length + 1) q.c 104 7 (rowC q.K ++ frC m.x q.a)] ++ frR m.x q.a) ++ (memW L q.l q.ws ++ (rowsE q.K ++ labE L m.c.prog))) ++ [Ent.box b6 90 (insCells (insOf p m.x))]) toEnd ?_
  refine kc (step32 (L := L) (q := q) (nb := nb + 268435458 * (f0.toNat - f.toNat)) hRF hm hp hpi hbs hq hgo.2 hw (by omega) hk19) ?_
  rintro t60 S60 ⟨m2, q2, rfl, hm2, hq2, rfl⟩
  refine y1 (nl ?_)
  refine cq (fun h3t => ?_) fun h3f => ?_
  ·have hnone : stepM RF m (insOf p m.x) = none := by simpa using h3t
   rw [hnone] at hm2
   obtain rfl : m2 = m := hm2
   refine rs (y4 (nl ?_))
   refine AW.eqS (S' := SP L (stuckC m2) q2 ++ [_]) rfl ?_
   refine AW.drop (List.sublist_append_left _ _) ?_
   refine xt (rs (y5 (nl ?_)))
   refine rt ?_
   refine ⟨q2, ?_⟩
   rw [← hrun, show f.toNat = (f - 1).toNat + 1 by omega, runM_stuck hp hm hgo.2 hk19 hnone]
   exact ⟨rfl, ⟨hq2.bl, hq2.ok, hq2.mem, hq2.w⟩, rfl⟩
  have hsome : stepM RF m (insOf p m.x) = some m2 := by
   cases hs : stepM RF m (insOf p m.x) with
   | none => rw [hs] at h3f; cases h3f
   | some y => rw [hs] at hm2; rw [hm2]; rfl
  have hst2 : (psL' L m2.c).steps = m.c.steps := (step_ok hp hpi.funs hm hk19 hsome).2.steps
  refine sp (rs (y8 (nl ?_)))
  refine AW.eqS (S' := SP L (tickC m2) q2 ++ [_]) rfl ?_
  refine AW.drop (List.sublist_append_left _ _) ?_
  refine rg (y3 (nl ?_))
  obtain ⟨h1, h2⟩ := step_ok hp hpi.funs hm hk19 hsome
  have hw2 := step_w hp hpi.data hpr hh hw hsome
  refine ⟨tickC m2, q2, f - 1, ⟨h1.tick, ⟨hq2.bl, hq2.ok, hq2.mem, hq2.w⟩, ?_, by show m2.c.heap.toNat ≤ _; rw [h2.heap]; exact hh, hw2.mono (by omega), by omega, by show 0 ≤ m2.c.steps + 1; rw [h2.steps]; omega, by show m2.c.steps + 1 ≤ _; rw [h2.steps]; omega⟩, ?_, sbZ, ?_⟩
  ·rw [← hrun, show f.toNat = (f - 1).toNat + 1 by omega, runM_step hp hm hgo.2 hk19 hsome]
  ·omega
  rfl
 have hgo : ¬ (0 < f ∧ m.c.st = 0) := by
  have h : ¬ (0 < f ∧ (psL' L m.c).st = 0) := by simpa using h1f
  exact h
 refine xt (rs (y5 (nl ?_)))
 refine rt ?_
 refine ⟨q, ?_⟩
 rw [← hrun, runM_end hgo]
 exact ⟨rfl, hq, rfl⟩


theorem ofInt_lt (z : Int) : floatOfInt .f64 z < 18446744073709551616 := write64 (.number (z < 0) z.natAbs 0)
def outF (k : Int) (a b : Wd64) : Option Nat :=
 if k = 1 then fopF .add a.toNat b.toNat else if k = 2 then fopF .sub a.toNat b.toNat else if k = 3 then fopF .mul a.toNat b.toNat else if k = 4 then fopF .quo a.toNat b.toNat else some (floatOfInt .f64 (sI a))
def realF (k : Int) (a b : Wd64) : Wd64 :=
 if k = 5 then truthF (Ieee.double.order a.toNat b.toNat == some .lt)
 else if k = 6 then truthF (Ieee.double.order a.toNat b.toNat == some .lt || Ieee.double.order a.toNat b.toNat == some .eq)
 else if k = 7 then truthF (Ieee.double.order a.toNat b.toNat == some .eq)
 else frF (outF k a b)
theorem real72 (k : Int) (a b : Wd64) (h0 : 1 ≤ k) (h1 : k ≤ 8) :
    ACalls Tryz.prog 89 [zi k, zw a, zw b] [] (fun t S => t = zw (realF k a b)) := by
 refine ai Tryz.func89 Tryz.ntmps89 fun X w0 => ?_
 refine rs (y1 ?_)
 refine nl (rs (y1 ?_))
 refine Y1 (Yv.fromBits Tryz.func106 (by kernel_rfl) (by kernel_rfl) (by kernel_rfl) (by kernel_rfl) rfl eV eV) ?_
 refine y1 ?_
 refine Y1 (Yv.fromBits Tryz.func106 (by kernel_rfl) (by kernel_rfl) (by kernel_rfl) (by kernel_rfl) rfl eV eV) ?_
 refine y2 ?_
 refine nl (rs (y1 (nl ?_)))
 refine AW.mid (α := Nat) (fun r => [(9, true, zf r)]) (fun _ => []) (fun r => FOut (outF k a b) r ∧ ¬ (k = 5 ∨ k = 6 ∨ k = 7)) ?_ ?_
 ·refine rs (y1 ?_)
  refine nl (bk (rs (y2 (nl ?_))))
  refine cq (fun _ => ?_) fun _ => ?_
  ·refine rg (y2 ?_)
   refine AWL.fArith (by simp) rfl rfl (B rfl) rfl (E rfl rfl) (E rfl rfl) (fun r19 hr19 => ?_)
   refine y1 (nl ?_)
   exact ⟨r19, ⟨by rw [outF, if_pos (by omega)]; assumption, by omega⟩, sbZ, rfl⟩
  refine rs (y2 (nl ?_))
  refine cq (fun _ => ?_) fun _ => ?_
  ·refine rg (y2 ?_)
   refine AWL.fArith (by simp) rfl rfl (B rfl) rfl (E rfl rfl) (E rfl rfl) (fun r24 hr24 => ?_)
   refine y1 (nl ?_)
   exact ⟨r24, ⟨by rw [outF, if_neg (by omega), if_pos (by omega)]; assumption, by omega⟩, sbZ, rfl⟩
  refine rs (y2 (nl ?_))
  refine cq (fun _ => ?_) fun _ => ?_
  ·refine rg (y2 ?_)
   refine AWL.fArith (by simp) rfl rfl (B rfl) rfl (E rfl rfl) (E rfl rfl) (fun r29 hr29 => ?_)
   refine y1 (nl ?_)
   exact ⟨r29, ⟨by rw [outF, if_neg (by omega), if_neg (by omega), if_pos (by omega)]; assumption, by omega⟩, sbZ, rfl⟩
  refine rs (y2 (nl ?_))
  refine cq (fun _ => ?_) fun _ => ?_
  ·refine rg (y2 ?_)
   refine AWL.fArith (by simp) rfl rfl (B rfl) rfl (E rfl rfl) (E rfl rfl) (fun r34 hr34 => ?_)
   refine y1 (nl ?_)
   exact ⟨r34, ⟨by rw [outF, if_neg (by omega), if_neg (by omega), if_neg (by omega), if_pos (by omega)]; assumption, by omega⟩, sbZ, rfl⟩
  refine rs (y2 (nl ?_))
  refine cq (fun _ => ?_) fun _ => ?_
  ·refine rs (y2 ?_)
   refine Y1 (Yv.fLss rfl eV eV) ?_
   refine kt (truth71 (Ieee.double.order a.toNat b.toNat == some .lt)) ?_
   rintro t40 S40 rfl
   refine y1 (nl ?_)
   refine rt ?_
   rw [realF, if_pos (by omega)]
   rfl
  refine rs (y2 (nl ?_))
  refine cq (fun _ => ?_) fun _ => ?_
  ·refine rs (y2 ?_)
   refine Y1 (Yv.fLeq rfl eV eV) ?_
   refine kt (truth71 ((Ieee.double.order a.toNat b.toNat == some .lt || Ieee.double.order a.toNat b.toNat == some .eq))) ?_
   rintro t46 S46 rfl
   refine y1 (nl ?_)
   refine rt ?_
   rw [realF, if_neg (by omega), if_pos (by omega)]
   rfl
  refine rs (y2 (nl ?_))
  refine cq (fun _ => ?_) fun _ => ?_
  ·refine rs (y2 ?_)
   refine Y1 (Yv.fEql rfl eV eV) ?_
   refine kt (truth71 (Ieee.double.order a.toNat b.toNat == some .eq)) ?_
   rintro t52 S52 rfl
   refine y1 (nl ?_)
   refine rt ?_
   rewrite [realF]
   repeat rewrite [if_neg (by omega)]
   rw [if_pos (by omega)]
   rfl
  refine rs (y2 (nl ?_))
  refine ct fun _ => ?_
  refine rg (y1 ?_)
  refine Y1 (Yv.conv rfl Tryz.underlying29 kd_2 eV) ?_
  refine Y1 (Yv.convIF rfl (by kernel_rfl) Tryz.underlying180 eV) ?_
  refine y1 (nl ?_)
  exact ⟨_, ⟨by rw [outF, if_neg (by omega), if_neg (by omega), if_neg (by omega), if_neg (by omega)]; exact ⟨rfl, ofInt_lt _⟩, by omega⟩, sbZ, rfl⟩
 rintro r ⟨hr, hk567⟩
 refine sq (rs (y2 ?_))
 refine Y1 (Yv.fNeq rfl eV eV) (nl ?_)
 refine cq (fun h8t => ?_) fun h8f => ?_
 ·refine rs (y1 (nl ?_))
  refine rt ?_
  rw [realF, if_neg (by omega), if_neg (by omega), if_neg (by omega), fr_nan hr h8t]
  rfl
 refine sp (rs (y1 ?_))
 refine Y1 (Yv.toBits Tryz.func107 (by kernel_rfl) (by kernel_rfl) (by kernel_rfl) (by kernel_rfl) rfl eV eV (FOut.lt (by assumption))) ?_
 refine y1 (nl ?_)
 refine rt ?_
 rw [realF, if_neg (by omega), if_neg (by omega), if_neg (by omega), fr_num hr h8f]
 rfl


theorem DHolds68 (c : Int) (a b : Wd64) :
    ACalls Tryz.prog 68 [zi c, zw a, zw b] [] (fun t S => t = bv (holdsF c a b)) := by
 refine ai Tryz.func68 Tryz.ntmps68 fun X w0 => ?_
 refine rs (y1 ?_)
 refine nl (sq (rs (y1 ?_)))
 refine nl (bk (rs (y2 (nl ?_))))
 refine cq (fun _ => ?_) fun _ => ?_
 ·refine rs (y2 ?_)
  refine Y1 (Yv.eqlW rfl eV eV) ?_
  refine y1 (nl ?_)
  refine rt ?_
  rw [holdsF, if_pos (by omega)]
  rfl
 refine rs (y2 (nl ?_))
 refine cq (fun _ => ?_) fun _ => ?_
 ·refine rs (y2 ?_)
  refine Y1 (Yv.neqW rfl eV eV) ?_
  refine y1 (nl ?_)
  refine rt ?_
  rw [holdsF, if_neg (by omega), if_pos (by omega)]
  rfl
 refine rs (y2 (nl ?_))
 refine cq (fun _ => ?_) fun _ => ?_
 ·refine rs (y1 ?_)
  refine Y1 (Yv.conv rfl Tryz.underlying29 kd_2 eV) ?_
  refine y1 ?_
  refine Y1 (Yv.conv rfl Tryz.underlying29 kd_2 eV) ?_
  refine y2 (nl ?_)
  refine rt ?_
  rewrite [holdsF]
  repeat rewrite [if_neg (by omega)]
  rw [if_pos (by omega)]
  rfl
 refine rs (y2 (nl ?_))
 refine cq (fun _ => ?_) fun _ => ?_
 ·refine rs (y1 ?_)
  refine Y1 (Yv.conv rfl Tryz.underlying29 kd_2 eV) ?_
  refine y1 ?_
  refine Y1 (Yv.conv rfl Tryz.underlying29 kd_2 eV) ?_
  refine y2 (nl ?_)
  refine rt ?_
  rewrite [holdsF]
  repeat rewrite [if_neg (by omega)]
  rw [if_pos (by omega)]
  rfl
 refine rs (y2 (nl ?_))
 refine cq (fun _ => ?_) fun _ => ?_
 ·refine rs (y2 ?_)
  refine Y1 (Yv.lssW rfl eV eV) ?_
  refine y1 (nl ?_)
  refine rt ?_
  rewrite [holdsF]
  repeat rewrite [if_neg (by omega)]
  rw [if_pos (by omega)]
  rfl
 refine sp (rs (y2 ?_))
 refine Y1 (Yv.leqW rfl eV eV) ?_
 refine y1 (nl ?_)
 refine rt ?_
 rw [holdsF, if_neg (by omega), if_neg (by omega), if_neg (by omega), if_neg (by omega), if_neg (by omega)]
 rfl

theorem Dnumber95 (b : Bool) :
    ACalls Tryz.prog 95 [bv b] [] (fun t S => t = zw (truthF b)) := by
 refine ai Tryz.func95 Tryz.ntmps95 fun X w0 => ?_
 refine rs (y1 ?_)
 refine nl (sq (rs (y1 (nl ?_))))
 refine cq (fun h0t => ?_) fun h0f => ?_
 ·refine rs (y1 (nl ?_))
  refine rt ?_
  rw [truthF, if_pos h0t]; rfl
 refine sp (rs (y1 (nl ?_)))
 refine rt ?_
 rw [truthF, if_neg (by rw [h0f]; decide)]; rfl

theorem mod32 (x : Wd64) : x % 4294967296#64 = x &&& 4294967295#64 := by
 apply BitVec.eq_of_toNat_eq
 rw [BitVec.toNat_umod, BitVec.toNat_and]
 show x.toNat % 2 ^ 32 = x.toNat &&& (2 ^ 32 - 1)
 exact (Nat.and_two_pow_sub_one_eq_mod _ _).symm
theorem wide_eq (a b : Wd64) : (a >>> 32) * (b >>> 32) + (((a >>> 32) * (b % 4294967296#64) + (((a % 4294967296#64) * (b % 4294967296#64)) >>> 32)) >>> 32) + (((a % 4294967296#64) * (b >>> 32) + ((a >>> 32) * (b % 4294967296#64) + (((a % 4294967296#64) * (b % 4294967296#64)) >>> 32)) % 4294967296#64) >>> 32) = hiF a b := by
 unfold hiF
 rw [mod32 a, mod32 b, mod32, BitVec.add_comm ((a &&& 4294967295#64) * (b >>> 32))]
theorem DWide94 (a b : Wd64) :
    ACalls Tryz.prog 94 [zw a, zw b] [] (fun t S => t = .tup [zw (hiF a b), zw (a * b)]) := by
 refine ai Tryz.func94 Tryz.ntmps94 fun X w0 => ?_
 refine rs (y2 ?_)
 refine nl (rs (y1 ?_))
 refine Y1 (Yv.shrW (n := 32) rfl (E rfl rfl) (E rfl rfl) (by decide)) ?_
 refine y1 ?_
 refine nl (rs (y1 ?_))
 refine Y1 (Yv.remW (b := 4294967296#64) rfl (E rfl rfl) (E rfl rfl) (by decide)) ?_
 refine y1 ?_
 refine nl (rs (y1 ?_))
 refine Y1 (Yv.shrW (n := 32) rfl (E rfl rfl) (E rfl rfl) (by decide)) ?_
 refine y1 ?_
 refine nl (rs (y1 ?_))
 refine Y1 (Yv.remW (b := 4294967296#64) rfl (E rfl rfl) (E rfl rfl) (by decide)) ?_
 refine y1 ?_
 refine nl (rs (y2 ?_))
 refine Y1 (Yv.mulW rfl eV eV) ?_
 refine y1 ?_
 refine nl (rs (y2 ?_))
 refine Y1 (Yv.mulW rfl eV eV) ?_
 refine y1 ?_
 refine Y1 (Yv.shrW (n := 32) rfl (E rfl rfl) (E rfl rfl) (by decide)) ?_
 refine Y1 (Yv.addW rfl eV eV) ?_
 refine y1 ?_
 refine nl (rs (y2 ?_))
 refine Y1 (Yv.mulW rfl eV eV) ?_
 refine y1 ?_
 refine Y1 (Yv.remW (b := 4294967296#64) rfl (E rfl rfl) (E rfl rfl) (by decide)) ?_
 refine Y1 (Yv.addW rfl eV eV) ?_
 refine y1 ?_
 refine nl (rs (y2 ?_))
 refine Y1 (Yv.mulW rfl eV eV) ?_
 refine y1 ?_
 refine Y1 (Yv.shrW (n := 32) rfl (E rfl rfl) (E rfl rfl) (by decide)) ?_
 refine Y1 (Yv.addW rfl eV eV) ?_
 refine y1 ?_
 refine Y1 (Yv.shrW (n := 32) rfl (E rfl rfl) (E rfl rfl) (by decide)) ?_
 refine Y1 (Yv.addW rfl eV eV) ?_
 refine y2 ?_
 refine Y1 (Yv.mulW rfl eV eV) ?_
 refine y2 (nl ?_)
 refine rt ?_
 exact congrArg (fun u => T.tup [zw u, zw (a * b)]) (wide_eq a b)

theorem DBits111 (q : Option Nat) (r : Nat) (hr : FOut q r) :
    ACalls Tryz.prog 111 [zf r] [] (fun t S => t = zw (frF q)) := by
 refine ai Tryz.func111 Tryz.ntmps111 fun X w0 => ?_
 refine rs (y1 ?_)
 refine nl (sq (rs (y2 ?_)))
 refine Y1 (Yv.fNeq rfl eV eV) (nl ?_)
 refine cq (fun h0t => ?_) fun h0f => ?_
 ·refine rs (y1 (nl ?_))
  refine rt ?_
  rw [fr_nan hr h0t]
  rfl
 refine sp (rs (y1 ?_))
 refine Y1 (Yv.toBits Tryz.func107 (by kernel_rfl) (by kernel_rfl) (by kernel_rfl) (by kernel_rfl) rfl eV eV (FOut.lt (by assumption))) ?_
 refine y1 (nl ?_)
 refine rt ?_
 rw [fr_num hr h0f]
 rfl

theorem DReal96 (k : Int) (a b : Wd64) (h0 : 1 ≤ k) (h1 : k ≤ 8) :
    ACalls Tryz.prog 96 [zi k, zw a, zw b] [] (fun t S => t = zw (realF k a b)) := by
 refine ai Tryz.func96 Tryz.ntmps96 fun X w0 => ?_
 refine rs (y1 ?_)
 refine nl (rs (y1 ?_))
 refine Y1 (Yv.fromBits Tryz.func106 (by kernel_rfl) (by kernel_rfl) (by kernel_rfl) (by kernel_rfl) rfl eV eV) ?_
 refine y1 ?_
 refine nl (rs (y1 ?_))
 refine Y1 (Yv.fromBits Tryz.func106 (by kernel_rfl) (by kernel_rfl) (by kernel_rfl) (by kernel_rfl) rfl eV eV) ?_
 refine y1 ?_
 refine nl (sq (rs (y1 ?_)))
 refine nl (bk (rs (y2 (nl ?_))))
 refine cq (fun _ => ?_) fun _ => ?_
 ·refine rs (y2 ?_)
  refine AWL.fArith (by simp) rfl rfl (B rfl) rfl (E rfl rfl) (E rfl rfl) (fun r18 hr18 => ?_)
  refine kt (DBits111 (fopF .add a.toNat b.toNat) r18 (by assumption)) ?_
  rintro t19 S19 rfl
  refine y1 (nl ?_)
  refine rt ?_
  rw [realF, if_neg (by omega), if_neg (by omega), if_neg (by omega), outF, if_pos (by omega)]
  rfl
 refine rs (y2 (nl ?_))
 refine cq (fun _ => ?_) fun _ => ?_
 ·refine rs (y2 ?_)
  refine AWL.fArith (by simp) rfl rfl (B rfl) rfl (E rfl rfl) (E rfl rfl) (fun r24 hr24 => ?_)
  refine kt (DBits111 (fopF .sub a.toNat b.toNat) r24 (by assumption)) ?_
  rintro t25 S25 rfl
  refine y1 (nl ?_)
  refine rt ?_
  rw [realF, if_neg (by omega), if_neg (by omega), if_neg (by omega), outF, if_neg (by omega), if_pos (by omega)]
  rfl
 refine rs (y2 (nl ?_))
 refine cq (fun _ => ?_) fun _ => ?_
 ·refine rs (y2 ?_)
  refine AWL.fArith (by simp) rfl rfl (B rfl) rfl (E rfl rfl) (E rfl rfl) (fun r30 hr30 => ?_)
  refine kt (DBits111 (fopF .mul a.toNat b.toNat) r30 (by assumption)) ?_
  rintro t31 S31 rfl
  refine y1 (nl ?_)
  refine rt ?_
  rw [realF, if_neg (by omega), if_neg (by omega), if_neg (by omega), outF, if_neg (by omega), if_neg (by omega), if_pos (by omega)]
  rfl
 refine rs (y2 (nl ?_))
 refine cq (fun _ => ?_) fun _ => ?_
 ·refine rs (y2 ?_)
  refine AWL.fArith (by simp) rfl rfl (B rfl) rfl (E rfl rfl) (E rfl rfl) (fun r36 hr36 => ?_)
  refine kt (DBits111 (fopF .quo a.toNat b.toNat) r36 (by assumption)) ?_
  rintro t37 S37 rfl
  refine y1 (nl ?_)
  refine rt ?_
  rw [realF, if_neg (by omega), if_neg (by omega), if_neg (by omega), outF, if_neg (by omega), if_neg (by omega), if_neg (by omega), if_pos (by omega)]
  rfl
 refine rs (y2 (nl ?_))
 refine cq (fun _ => ?_) fun _ => ?_
 ·refine rs (y2 ?_)
  refine Y1 (Yv.fLss rfl eV eV) ?_
  refine kt (Dnumber95 (Ieee.double.order a.toNat b.toNat == some .lt)) ?_
  rintro t43 S43 rfl
  refine y1 (nl ?_)
  refine rt ?_
  rw [realF, if_pos (by omega)]
  rfl
 refine rs (y2 (nl ?_))
 refine cq (fun _ => ?_) fun _ => ?_
 ·refine rs (y2 ?_)
  refine Y1 (Yv.fLeq rfl eV eV) ?_
  refine kt (Dnumber95 ((Ieee.double.order a.toNat b.toNat == some .lt || Ieee.double.order a.toNat b.toNat == some .eq))) ?_
  rintro t49 S49 rfl
  refine y1 (nl ?_)
  refine rt ?_
  rw [realF, if_neg (by omega), if_pos (by omega)]
  rfl
 refine rs (y2 (nl ?_))
 refine cq (fun _ => ?_) fun _ => ?_
 ·refine rs (y2 ?_)
  refine Y1 (Yv.fEql rfl eV eV) ?_
  refine kt (Dnumber95 (Ieee.double.order a.toNat b.toNat == some .eq)) ?_
  rintro t55 S55 rfl
  refine y1 (nl ?_)
  refine rt ?_
  rewrite [realF]
  repeat rewrite [if_neg (by omega)]
  rw [if_pos (by omega)]
  rfl
 refine sp (rs (y1 ?_))
 refine Y1 (Yv.conv rfl Tryz.underlying29 kd_2 eV) ?_
 refine Y1 (Yv.convIF rfl (by kernel_rfl) Tryz.underlying180 eV) ?_
 refine kt (DBits111 (some (floatOfInt .f64 (sI a))) _ ⟨rfl, ofInt_lt _⟩) ?_
 rintro t59 S59 rfl
 refine y1 (nl ?_)
 refine rt ?_
 rw [realF, if_neg (by omega), if_neg (by omega), if_neg (by omega), outF, if_neg (by omega), if_neg (by omega), if_neg (by omega), if_neg (by omega)]
 rfl

def frD (x : Fr) (a : FA) : List T := [zi x.f, zi x.at_, .v (.slice a.r x.nr x.nr), .v (.slice a.t x.nr x.nr), .v (.slice a.s x.ns x.ns), .v (.slice a.h x.ns x.ns), zi x.d]
def frE (x : Fr) (a : FA) : St := [.row a.r x.nr x.nr 29 1 (x.r.map zw), .row a.t x.nr x.nr 4 1 (x.set.map bv), .row a.s x.ns x.ns 29 1 (x.slot.map zw), .row a.h x.ns x.ns 4 1 (x.there.map bv)]
theorem frD_len (x : Fr) (a : FA) : (frD x a).length = 7 := rfl
section
variable {pre : List T} {x : Fr} {a : FA}
theorem fd_at (i : Nat) : (pre ++ frD x a)[pre.length + i]? = (frD x a)[i]? := by rw [List.getElem?_append_right (by omega), Nat.add_sub_cancel_left]
theorem fd0 : (pre ++ frD x a)[pre.length + 0]? = some (zi x.f) := fd_at 0
theorem fd1 : (pre ++ frD x a)[pre.length + 1]? = some (zi x.at_) := fd_at 1
theorem fd2 : (pre ++ frD x a)[pre.length + 2]? = some (.v (.slice a.r x.nr x.nr)) := fd_at 2
theorem fd3 : (pre ++ frD x a)[pre.length + 3]? = some (.v (.slice a.t x.nr x.nr)) := fd_at 3
theorem fd4 : (pre ++ frD x a)[pre.length + 4]? = some (.v (.slice a.s x.ns x.ns)) := fd_at 4
theorem fd5 : (pre ++ frD x a)[pre.length + 5]? = some (.v (.slice a.h x.ns x.ns)) := fd_at 5
theorem fd6 : (pre ++ frD x a)[pre.length + 6]? = some (zi x.d) := fd_at 6
theorem fd_len : (pre ++ frD x a).length = pre.length + 7 := by rw [List.length_append]; rfl
theorem fd_set (i : Nat) (t : T) : (pre ++ frD x a).set (pre.length + i) t = pre ++ (frD x a).set i t := by
 rw [List.set_append_right _ _ (by omega), Nat.add_sub_cancel_left]
theorem fd_jump (z : Int) : (pre ++ frD x a).set (pre.length + 1) (zi z) = pre ++ frD { x with at_ := z } a := fd_set 1 _
end
theorem setE_rows (x : Fr) (a : FA) (d : Int) (v : Wd64) : frE (setD x d v) a = [.row a.r x.nr x.nr 29 1 ((x.r.map zw).set (d.toNat * 1) (zw v)), .row a.t x.nr x.nr 4 1 ((x.set.map bv).set (d.toNat * 1) (bv true)), .row a.s x.ns x.ns 29 1 (x.slot.map zw), .row a.h x.ns x.ns 4 1 (x.there.map bv)] := by
 unfold frE setD
 rw [Nat.mul_one, ← List.map_set, ← List.map_set]
theorem putE_rows (x : Fr) (a : FA) (i : Ins) : frE (putF x i) a = [.row a.r x.nr x.nr 29 1 (x.r.map zw), .row a.t x.nr x.nr 4 1 (x.set.map bv), .row a.s x.ns x.ns 29 1 ((x.slot.map zw).set (i.imm.toNat * 1) (zw (rA x i.a))), .row a.h x.ns x.ns 4 1 ((x.there.map bv).set (i.imm.toNat * 1) (bv true))] := by
 unfold frE putF
 rw [Nat.mul_one, ← List.map_set, ← List.map_set]
theorem top6D {pre : List T} {y x : Fr} {b a : FA} {k : Nat} (h : pre.length = k * 7) : (pre ++ frD y b ++ frD x a)[(k + 1) * 7 + 6]? = some (zi x.d) := by
 have h2 : (pre ++ frD y b).length = (k + 1) * 7 := by rw [List.length_append, h, frD_len]; omega
 rw [← h2]; exact fd6
theorem take_topD {pre : List T} {y x : Fr} {b a : FA} {k : Nat} (h : pre.length = k * 7) : (pre ++ frD y b ++ frD x a).take ((k + 1) * 7) = pre ++ frD y b := by
 rw [List.take_left' (by rw [List.length_append, h, frD_len]; omega)]
end Go.Proofs.YtlfklgganokgdaaGreat
