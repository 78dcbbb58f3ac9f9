/-
  TEXTS JOINED: Zk15, Zk16, Wg, Zd, Zk17, Zk18, VEq, VWk33, VNw, Ze, Zk19, Zk20, Zk22.
-/
import Derived.Test.YtlfklgganokgdaaGreatQk
set_option linter.unusedSimpArgs false
set_option linter.unusedVariables false
set_option linter.unusedSectionVars false
set_option linter.unnecessarySimpa false
set_option maxHeartbeats 64000000
namespace Go.Proofs.YtlfklgganokgdaaGreat
open Go Go.RowKit

namespace V
theorem pl_readD {ds : DS} {fd N : Int} : pl { ds with stdin := (readP fd N (pl ds)).stdin, opn := (readP fd N (pl ds)).opn } = readP fd N (pl ds) := by
 unfold readP
 split
 ·rfl
 split
 ·rfl
 rfl
theorem pl_closeD {ds : DS} {fd : Int} : pl { ds with opn := (closeP fd (pl ds)).opn } = closeP fd (pl ds) := by
 unfold closeP
 split <;> rfl
end V
open V (pl_readD pl_closeD)
theorem pGet {R : Ent} {F M D : St} : (R :: (F ++ (M ++ D))).Perm (M ++ (R :: (F ++ D))) := List.perm_append_comm_assoc (R :: F) M D
theorem w31 {k : Nat} (h : k ≤ 2147483648) : (wI (k : Int)).toNat = k := by
 have := wI_nat (k : Int)
 rw [wrap_u64] at this
 omega
theorem w31_lt {k : Nat} {n : Wd64} (h : wI (k : Int) < n) (hk : k ≤ 2147483648) : k < n.toNat := by
 rw [BitVec.lt_def, w31 hk] at h
 exact h
theorem w31_nlt {k : Nat} {n : Wd64} (h : ¬ wI (k : Int) < n) (hk : k ≤ 2147483648) : n.toNat ≤ k := by
 rw [BitVec.lt_def, w31 hk] at h
 omega
theorem Dcall69_ (s g n c pg db : Nat) (cc : Pc) (ob : Bool) (lab : T) (pre : List T) (x : Fr) (a : FA) (i : Ins) (l : List Pg) (ds : V.DS) (p : V.PW) (nb : Nat) (hx : FrOk x) (hl : PgOk l) (hd : cc.prog.data.length ≤ 1048576) (hz0 : 0 ≤ cc.prog.zero) (hz1 : cc.prog.zero ≤ 268435456) (hs : V.Side p (V.pl ds)) (hw : V.RP nb p) (hnb : nb ≤ 549755813888) (har : ∀ r ∈ i.args, 0 ≤ r ∧ r < (x.nr : Int)) (hg : i.args.length ≤ 3) (hdr : 0 ≤ i.d ∧ i.d < (x.nr : Int)) (hat : 0 ≤ x.at_ ∧ x.at_ ≤ 4611686018427387904) :
    ACalls Tryz.prog 69 [pv s, .ep (.slice (sg g) n c) pre.length, .agg (insCells i)] ((Ent.row (sg g) n c 108 7 (pre ++ frD x a) :: frE x a) ++ ((Ent.box s 64 (psD (psOf cc lab (V.wp db) (mapT pg)) ob (.v (.slice (sg g) n c))) :: memE 153 pg l) ++ V.DSt db ds)) (fun t S => if i.imm = 60 then t = bv true ∧ (((Ent.row (sg g) n c 108 7 (pre ++ frD x a) :: frE x a) ++ ((Ent.box s 64 (psD (psOf { cc with st := 1, code := codeOf (sysA x i 0) } lab (V.wp db) (mapT pg)) ob (.v (.slice (sg g) n c))) :: memE 153 pg l) ++ V.DSt db ds))).Sublist S else match sysR (Mc.mk cc x [] (getM l) p) i with
    | none => t = bv false ∧ (((Ent.row (sg g) n c 108 7 (pre ++ frD x a) :: frE x a) ++ ((Ent.box s 64 (psD (psOf cc lab (V.wp db) (mapT pg)) ob (.v (.slice (sg g) n c))) :: memE 153 pg l) ++ V.DSt db ds))).Sublist S
    | some r => t = bv true ∧ ∃ l' ds' ob', (((Ent.row (sg g) n c 108 7 (pre ++ frD (goF (setD x i.d (wI r.n))) a) :: frE (goF (setD x i.d (wI r.n))) a) ++ ((Ent.box s 64 (psD (psOf cc lab (V.wp db) (mapT pg)) ob' (.v (.slice (sg g) n c))) :: memE 153 pg l') ++ V.DSt db ds'))).Sublist S ∧ PgOk l' ∧ getM l' = r.mem ∧ V.Side r.w (V.pl ds')) := by
 have hl1 := hx.r
 have hl3 := hx.t
 obtain ⟨hat0, hat1⟩ := hat
 obtain ⟨hd0, hd1⟩ := hdr
 refine ai Tryz.func69 Tryz.ntmps69 fun X w0 => ?_
 refine rs ?_
 refine bg fun b5 => ?_
 refine y1 ?_
 refine nl (rs ?_)
 refine bg fun b7 => ?_
 refine nl (sq (rs (y1 ?_)))
 refine nl (bk ?_)
 refine lp1 (fun (k : Nat) => [(0, true, pv s), (1, true, .ep (.slice (sg g) n c) pre.length), (5, true, pv b5), (7, true, pv b7), (8, true, zv k)]) (fun (k : Nat) => ((Ent.box b7 164 [zw (sX x i 0 k), zw (sX x i 1 k), zw (sX x i 2 k)] :: Ent.box b5 90 (insCells i) :: (Ent.row (sg g) n c 108 7 (pre ++ frD x a) :: frE x a)) ++ ((Ent.box s 64 (psD (psOf cc lab (V.wp db) (mapT pg)) ob (.v (.slice (sg g) n c))) :: memE 153 pg l) ++ V.DSt db ds))) (fun (k : Nat) => k ≤ i.args.length) (fun (k : Nat) => i.args.length - k) 0 ?_ ?_
 ·exact Nat.zero_le _
 intro k hinv
 refine sq (rs (y5 (nl ?_)))
 refine cq (fun _ => ?_) fun _ => ?_
 ·have hk : k < i.args.length := by omega
  have hkr := har _ (getD_mem (l := i.args) hk)
  refine sp (sq (bk ?_))
  refine AW.regionP rfl ?_
  refine phn 13 1 ?_
  refine q12 ?_
  refine Q1 (Yv.indexArr (j := k) rfl ar_164 eV eV (fun hg => ⟨rfl, by omega⟩)) ?_
  refine nq ?_
  refine op 13 ?_
  refine AWL.storeBox (i := 0) rfl rfl rfl ag_29 rfl (E rfl rfl) (E rfl rfl) rfl rfl (by show 0 + k * 1 + 1 ≤ 3; omega) (nl ?_)
  refine dn ?_
  refine rg (y3 (nl ?_))
  refine ⟨k + 1, by omega, by omega, sbZ, ?_⟩
  rw [← sx_succ (show k < 3 by omega)]
  rfl
 obtain rfl : k = i.args.length := by omega
 refine xt (rs (y1 (nl ?_)))
 refine AW.mid (α := SysR × List Pg × V.DS × Bool) (fun y => [(0, true, pv s), (1, true, .ep (.slice (sg g) n c) pre.length), (5, true, pv b5), (7, true, pv b7), (9, true, zi y.1.n)]) (fun y => ((Ent.box b7 164 [zw (sX x i 0 i.args.length), zw (sX x i 1 i.args.length), zw (sX x i 2 i.args.length)] :: Ent.box b5 90 (insCells i) :: (Ent.row (sg g) n c 108 7 (pre ++ frD x a) :: frE x a)) ++ ((Ent.box s 64 (psD (psOf cc lab (V.wp db) (mapT pg)) y.2.2.2 (.v (.slice (sg g) n c))) :: memE 153 pg y.2.1) ++ V.DSt db y.2.2.1))) (fun y => (¬ i.imm = 60 ∧ sysR (Mc.mk cc x [] (getM l) p) i = some y.1) ∧ PgOk y.2.1 ∧ getM y.2.1 = y.1.mem ∧ V.Side y.1.w (V.pl y.2.2.1)) ?_ ?_
 ·refine rs (y2 ?_)
  refine nl (bk (sq (rs (y2 (nl ?_)))))
  refine cq (fun _ => ?_) fun _ => ?_
  ·have hi0 : i.imm = 0 := by omega
   have hsy : sysR (Mc.mk cc x [] (getM l) p) i = some (rdM cc (getM l) p (sI (sysA x i 0)) (sysA x i 1) (sysA x i 2)) := by unfold sysR; rw [if_pos hi0]
   refine sp ?_
   refine ct fun _ => ?_
   refine bk (rs ?_)
   refine Y1 (Yv.indexArr rfl ar_164 eV eV (fun hg => ⟨(Int.toNat_of_nonneg (by omega)).symm, by omega⟩)) ?_
   refine y1 ?_
   refine Y1 (Yv.gtrW (b := 2147483648#64) rfl eV eV) ?_
   refine y1 (nl ?_)
   refine cq (fun h3t => ?_) fun h3f => ?_
   ·replace h3t : 2147483648#64 < (sysA x i 2) := h3t
    have hrr : rdM cc (getM l) p (sI (sysA x i 0)) (sysA x i 1) (sysA x i 2) = ⟨-22, getM l, p⟩ := by rw [rdM, if_pos h3t]
    refine rg (y1 (nl ?_))
    refine ⟨(⟨-22, getM l, p⟩, l, ds, ob), ⟨⟨by omega, hsy.trans (congrArg some hrr)⟩, hl, rfl, hs⟩, sbZ, rfl⟩
   replace h3f : ¬ 2147483648#64 < (sysA x i 2) := h3f
   refine AW.perm (S' := Ent.box s 64 (psD (psOf cc lab (V.wp db) (mapT pg)) ob (.v (.slice (sg g) n c))) :: ((Ent.box b7 164 [zw (sX x i 0 i.args.length), zw (sX x i 1 i.args.length), zw (sX x i 2 i.args.length)] :: Ent.box b5 90 (insCells i) :: (Ent.row (sg g) n c 108 7 (pre ++ frD x a) :: frE x a)) ++ (memE 153 pg l ++ V.DSt db ds))) List.perm_middle.symm ?_
   refine rs ?_
   refine Y1 (Yv.indexArr rfl ar_164 eV eV (fun hg => ⟨(Int.toNat_of_nonneg (by omega)).symm, by omega⟩)) ?_
   refine y1 ?_
   refine Y1 (Yv.gtrW (b := 0#64) rfl eV eV) ?_
   refine y2 ?_
   refine gT (Yv.indexArr rfl ar_164 eV eV (fun hg => ⟨(Int.toNat_of_nonneg (by omega)).symm, by omega⟩)) ?_
   refine y1 ?_
   refine gT (Yv.indexArr rfl ar_164 eV eV (fun hg => ⟨(Int.toNat_of_nonneg (by omega)).symm, by omega⟩)) ?_
   refine y1 ?_
   refine AWL.callKgT rfl rfl rfl rfl (B rfl) rfl ce_45 (E rfl rfl) (evsC (Eg rfl rfl id) (evsC (Eg rfl rfl id) (evsC (Eg rfl rfl id) evs0))) (S1 := [Ent.box s 64 (psD (psOf cc lab (V.wp db) (mapT pg)) ob (.v (.slice (sg g) n c)))]) (S2 := _) rfl (fun hg => DThere45 s (psOf cc lab (V.wp db) (mapT pg)) ob (.v (.slice (sg g) n c)) (sysA x i 1) (sysA x i 2) hd hz0 hz1) (fun t S h => h) ?_
   refine y3 (nl ?_)
   refine AW.perm (S' := ((Ent.box b7 164 [zw (sX x i 0 i.args.length), zw (sX x i 1 i.args.length), zw (sX x i 2 i.args.length)] :: Ent.box b5 90 (insCells i) :: (Ent.row (sg g) n c 108 7 (pre ++ frD x a) :: frE x a)) ++ ((Ent.box s 64 (psD (psOf cc lab (V.wp db) (mapT pg)) ob (.v (.slice (sg g) n c))) :: memE 153 pg l) ++ V.DSt db ds))) List.perm_middle ?_
   refine cq (fun h4t => ?_) fun h4f => ?_
   ·have hbad : badMem cc (sysA x i 1) (sysA x i 2) = true := h4t
    have hrr : rdM cc (getM l) p (sI (sysA x i 0)) (sysA x i 1) (sysA x i 2) = ⟨-14, getM l, p⟩ := by rw [rdM, if_neg h3f, if_pos hbad]
    refine rs (y1 ?_)
    refine nl (rg (y4 (nl ?_)))
    refine ⟨(⟨-14, getM l, p⟩, l, ds, true), ⟨⟨by omega, hsy.trans (congrArg some hrr)⟩, hl, rfl, hs⟩, sbZ, rfl⟩
   have hbad : badMem cc (sysA x i 1) (sysA x i 2) = false := h4f
   have hrr := show rdM cc (getM l) p (sI (sysA x i 0)) (sysA x i 1) (sysA x i 2) = _ by rw [rdM, if_neg h3f, if_neg (by rw [hbad]; decide)]
   refine rs (y4 (nl ?_))
   refine ct fun _ => ?_
   have hTl : (V.readV (sI (sysA x i 0)) ((sysA x i 2).toNat : Int) p).1.length ≤ 549755813888 := Nat.le_trans (V.readV_len hw (sI (sysA x i 0)) _) hnb
   refine AW.mid (α := Unit) (fun _ => [(0, true, pv s), (1, true, .ep (.slice (sg g) n c) pre.length), (5, true, pv b5), (7, true, pv b7), (10, true, sv (V.readV (sI (sysA x i 0)) ((sysA x i 2).toNat : Int) p).1), (11, true, zi (V.readV (sI (sysA x i 0)) ((sysA x i 2).toNat : Int) p).2)]) (fun _ => ((Ent.box b7 164 [zw (sX x i 0 i.args.length), zw (sX x i 1 i.args.length), zw (sX x i 2 i.args.length)] :: Ent.box b5 90 (insCells i) :: (Ent.row (sg g) n c 108 7 (pre ++ frD x a) :: frE x a)) ++ ((Ent.box s 64 (psD (psOf cc lab (V.wp db) (mapT pg)) ob (.v (.slice (sg g) n c))) :: memE 153 pg l) ++ V.DSt db { ds with stdin := (V.readP (sI (sysA x i 0)) ((sysA x i 2).toNat : Int) (V.pl ds)).stdin, opn := (V.readP (sI (sysA x i 0)) ((sysA x i 2).toNat : Int) (V.pl ds)).opn }))) (fun _ => True) ?_ ?_
   ·refine AW.regionP rfl ?_
    refine phn 9 6 ?_
    refine q4 ?_
    refine Q1 (Yv.indexArr rfl ar_164 eV eV (fun hg => ⟨(Int.toNat_of_nonneg (by omega)).symm, by omega⟩)) ?_
    refine q1 ?_
    refine Q1 (Yv.conv rfl Tryz.underlying29 kd_2 eV) ?_
    refine Q1 (Yv.indexArr rfl ar_164 eV eV (fun hg => ⟨(Int.toNat_of_nonneg (by omega)).symm, by omega⟩)) ?_
    refine q1 (nq ?_)
    refine op 9 ?_
    refine cE ce_90 ((Ent.box b7 164 [zw (sX x i 0 i.args.length), zw (sX x i 1 i.args.length), zw (sX x i 2 i.args.length)] :: Ent.box b5 90 (insCells i) :: (Ent.row (sg g) n c 108 7 (pre ++ frD x a) :: frE x a)) ++ (Ent.box s 64 (psD (psOf cc lab (V.wp db) (mapT pg)) ob (.v (.slice (sg g) n c))) :: memE 153 pg l)) _ rfl rfl rfl (V.SysRead39 db ds nb (side_pb hs hw.pb) (by omega) (side_nm hs hw.nm) (sI (sysA x i 0)) (sysA x i 2).toNat) ?_
    rintro t99 S99 ⟨rfl, rfl⟩
    rw [hs.readV]
    refine nl ?_
    refine op 10 ?_
    refine y1 (nl ?_)
    refine wp2 11 12 ?_ ?_
    ·refine y1 (nl ?_)
     refine wp2 12 13 ?_ ?_
     ·refine y1 (nl ?_)
      refine op 13 ?_
      refine y1 (nl ?_)
      refine op 14 ?_
      refine y1 (nl ?_)
      refine dn ?_
      exact ⟨(), trivial, sbZ, rfl⟩
     refine y1 (nl ?_)
     refine op 12 ?_
     refine y1 (nl ?_)
     refine op 14 ?_
     refine y1 (nl ?_)
     refine dn ?_
     exact ⟨(), trivial, sbZ, rfl⟩
    refine y1 (nl ?_)
    refine op 11 ?_
    refine y1 (nl ?_)
    refine op 13 ?_
    refine y1 (nl ?_)
    refine op 14 ?_
    refine y1 (nl ?_)
    refine dn ?_
    exact ⟨(), trivial, sbZ, rfl⟩
   rintro _ hmid
   refine rs (y2 ?_)
   refine nl (rs (y1 ?_))
   refine nl (bk ?_)
   refine lp2 (fun (k : Nat) (l2 : List Pg) => [(0, true, pv s), (1, true, .ep (.slice (sg g) n c) pre.length), (5, true, pv b5), (7, true, pv b7), (9, true, zi (V.readV (sI (sysA x i 0)) ((sysA x i 2).toNat : Int) p).2), (10, true, sv (V.readV (sI (sysA x i 0)) ((sysA x i 2).toNat : Int) p).1), (12, true, zv k)]) (fun (k : Nat) (l2 : List Pg) => ((Ent.box b7 164 [zw (sX x i 0 i.args.length), zw (sX x i 1 i.args.length), zw (sX x i 2 i.args.length)] :: Ent.box b5 90 (insCells i) :: (Ent.row (sg g) n c 108 7 (pre ++ frD x a) :: frE x a)) ++ ((Ent.box s 64 (psD (psOf cc lab (V.wp db) (mapT pg)) ob (.v (.slice (sg g) n c))) :: memE 153 pg l2) ++ V.DSt db { ds with stdin := (V.readP (sI (sysA x i 0)) ((sysA x i 2).toNat : Int) (V.pl ds)).stdin, opn := (V.readP (sI (sysA x i 0)) ((sysA x i 2).toNat : Int) (V.pl ds)).opn }))) (fun (k : Nat) (l2 : List Pg) => k ≤ (V.readV (sI (sysA x i 0)) ((sysA x i 2).toNat : Int) p).1.length ∧ PgOk l2 ∧ getM l2 = putsN (getM l) (sysA x i 1) (V.readV (sI (sysA x i 0)) ((sysA x i 2).toNat : Int) p).1 k) (fun (k : Nat) (l2 : List Pg) => (V.readV (sI (sysA x i 0)) ((sysA x i 2).toNat : Int) p).1.length - k) 0 l ?_ ?_
   ·exact ⟨Nat.zero_le _, hl, rfl⟩
   intro k l2 ⟨hk0, hl2, hg2⟩
   refine sq (rs (y4 (nl ?_)))
   refine cq (fun _ => ?_) fun _ => ?_
   ·refine sp (sq (bk ?_))
    refine AW.regionP rfl ?_
    refine phn 9 1 ?_
    refine q1 ?_
    refine Q1 (Yv.indexArr rfl ar_164 eV eV (fun hg => ⟨(Int.toNat_of_nonneg (by omega)).symm, by omega⟩)) ?_
    refine q2 ?_
    refine Q1 (Yv.convW rfl Tryz.underlying3 kd_29 eV) ?_
    refine Q1 (Yv.addW rfl eV eV) ?_
    refine q2 ?_
    refine Q1 (Yv.indexL rfl st_9 eV eV (fun hg => ⟨rfl, by omega⟩)) ?_
    refine nq ?_
    refine op 9 ?_
    refine AWL.callF rfl rfl (B rfl) rfl ce_46 (E rfl rfl) (evsC (E rfl rfl) (evsC (E rfl rfl) (evsC (E rfl rfl) evs0))) (F1 := (Ent.box b7 164 [zw (sX x i 0 i.args.length), zw (sX x i 1 i.args.length), zw (sX x i 2 i.args.length)] :: Ent.box b5 90 (insCells i) :: (Ent.row (sg g) n c 108 7 (pre ++ frD x a) :: frE x a))) (S1 := (Ent.box s 64 (psD (psOf cc lab (V.wp db) (mapT pg)) ob (.v (.slice (sg g) n c))) :: memE 153 pg l2)) (F2 := (V.DSt db { ds with stdin := (V.readP (sI (sysA x i 0)) ((sysA x i 2).toNat : Int) (V.pl ds)).stdin, opn := (V.readP (sI (sysA x i 0)) ((sysA x i 2).toNat : Int) (V.pl ds)).opn })) rfl (Dput46 s pg (psOf cc lab (V.wp db) (mapT pg)) ob (.v (.slice (sg g) n c)) l2 rfl hl2 ((sysA x i 1) + wI (k : Int)) ((V.readV (sI (sysA x i 0)) ((sysA x i 2).toNat : Int) p).1.getD k 0)) ?_
    rintro t118 S118 ⟨rfl, l3, rfl, hl3, hg3⟩
    refine nl ?_
    refine dn ?_
    refine rg (y3 (nl ?_))
    refine ⟨k + 1, l3, ⟨by omega, hl3, by rw [hg3, hg2]; rfl⟩, by omega, sbZ, rfl⟩
   obtain rfl : k = (V.readV (sI (sysA x i 0)) ((sysA x i 2).toNat : Int) p).1.length := by omega
   refine xt ?_
   refine ⟨(⟨(V.readV (sI (sysA x i 0)) ((sysA x i 2).toNat : Int) p).2, putsN (getM l) (sysA x i 1) (V.readV (sI (sysA x i 0)) ((sysA x i 2).toNat : Int) p).1 (V.readV (sI (sysA x i 0)) ((sysA x i 2).toNat : Int) p).1.length, V.readP (sI (sysA x i 0)) ((sysA x i 2).toNat : Int) p⟩, l2, { ds with stdin := (V.readP (sI (sysA x i 0)) ((sysA x i 2).toNat : Int) (V.pl ds)).stdin, opn := (V.readP (sI (sysA x i 0)) ((sysA x i 2).toNat : Int) (V.pl ds)).opn }, ob), ⟨⟨by omega, hsy.trans (congrArg some hrr)⟩, hl2, hg2, (by rw [pl_readD]; exact hs.read _ _)⟩, sbZ, rfl⟩
  refine rg (y2 (nl ?_))
  refine cq (fun _ => ?_) fun _ => ?_
  ·have hi1 : i.imm = 1 := by omega
   have hsy : sysR (Mc.mk cc x [] (getM l) p) i = some (wrM cc (getM l) p (sI (sysA x i 0)) (sysA x i 1) (sysA x i 2)) := by unfold sysR; rw [if_neg (by omega), if_pos hi1]
   refine bk (rs ?_)
   refine Y1 (Yv.indexArr rfl ar_164 eV eV (fun hg => ⟨(Int.toNat_of_nonneg (by omega)).symm, by omega⟩)) ?_
   refine y1 ?_
   refine Y1 (Yv.gtrW (b := 2147483648#64) rfl eV eV) ?_
   refine y1 (nl ?_)
   refine cq (fun h8t => ?_) fun h8f => ?_
   ·replace h8t : 2147483648#64 < (sysA x i 2) := h8t
    have hrr : wrM cc (getM l) p (sI (sysA x i 0)) (sysA x i 1) (sysA x i 2) = ⟨-22, getM l, p⟩ := by rw [wrM, if_pos h8t]
    refine rg (y1 (nl ?_))
    refine ⟨(⟨-22, getM l, p⟩, l, ds, ob), ⟨⟨by omega, hsy.trans (congrArg some hrr)⟩, hl, rfl, hs⟩, sbZ, rfl⟩
   replace h8f : ¬ 2147483648#64 < (sysA x i 2) := h8f
   have hn31 : (sysA x i 2).toNat ≤ 2147483648 := by
    have h := BitVec.not_lt.1 h8f
    rw [BitVec.le_def] at h
    exact h
   refine AW.perm (S' := Ent.box s 64 (psD (psOf cc lab (V.wp db) (mapT pg)) ob (.v (.slice (sg g) n c))) :: ((Ent.box b7 164 [zw (sX x i 0 i.args.length), zw (sX x i 1 i.args.length), zw (sX x i 2 i.args.length)] :: Ent.box b5 90 (insCells i) :: (Ent.row (sg g) n c 108 7 (pre ++ frD x a) :: frE x a)) ++ (memE 153 pg l ++ V.DSt db ds))) List.perm_middle.symm ?_
   refine rs ?_
   refine Y1 (Yv.indexArr rfl ar_164 eV eV (fun hg => ⟨(Int.toNat_of_nonneg (by omega)).symm, by omega⟩)) ?_
   refine y1 ?_
   refine Y1 (Yv.gtrW (b := 0#64) rfl eV eV) ?_
   refine y2 ?_
   refine gT (Yv.indexArr rfl ar_164 eV eV (fun hg => ⟨(Int.toNat_of_nonneg (by omega)).symm, by omega⟩)) ?_
   refine y1 ?_
   refine gT (Yv.indexArr rfl ar_164 eV eV (fun hg => ⟨(Int.toNat_of_nonneg (by omega)).symm, by omega⟩)) ?_
   refine y1 ?_
   refine AWL.callKgT rfl rfl rfl rfl (B rfl) rfl ce_45 (E rfl rfl) (evsC (Eg rfl rfl id) (evsC (Eg rfl rfl id) (evsC (Eg rfl rfl id) evs0))) (S1 := [Ent.box s 64 (psD (psOf cc lab (V.wp db) (mapT pg)) ob (.v (.slice (sg g) n c)))]) (S2 := _) rfl (fun hg => DThere45 s (psOf cc lab (V.wp db) (mapT pg)) ob (.v (.slice (sg g) n c)) (sysA x i 1) (sysA x i 2) hd hz0 hz1) (fun t S h => h) ?_
   refine y3 (nl ?_)
   refine AW.perm (S' := ((Ent.box b7 164 [zw (sX x i 0 i.args.length), zw (sX x i 1 i.args.length), zw (sX x i 2 i.args.length)] :: Ent.box b5 90 (insCells i) :: (Ent.row (sg g) n c 108 7 (pre ++ frD x a) :: frE x a)) ++ ((Ent.box s 64 (psD (psOf cc lab (V.wp db) (mapT pg)) ob (.v (.slice (sg g) n c))) :: memE 153 pg l) ++ V.DSt db ds))) List.perm_middle ?_
   refine cq (fun h9t => ?_) fun h9f => ?_
   ·have hbad : badMem cc (sysA x i 1) (sysA x i 2) = true := h9t
    have hrr : wrM cc (getM l) p (sI (sysA x i 0)) (sysA x i 1) (sysA x i 2) = ⟨-14, getM l, p⟩ := by rw [wrM, if_neg h8f, if_pos hbad]
    refine rs (y1 ?_)
    refine nl (rg (y4 (nl ?_)))
    refine ⟨(⟨-14, getM l, p⟩, l, ds, true), ⟨⟨by omega, hsy.trans (congrArg some hrr)⟩, hl, rfl, hs⟩, sbZ, rfl⟩
   have hbad : badMem cc (sysA x i 1) (sysA x i 2) = false := h9f
   have hrr := show wrM cc (getM l) p (sI (sysA x i 0)) (sysA x i 1) (sysA x i 2) = _ by rw [wrM, if_neg h8f, if_neg (by rw [hbad]; decide)]
   refine rs (y4 (nl ?_))
   refine cf fun _ => ?_
   refine rs (y1 (nl ?_))
   refine AW.rowNil 5 1 ?_
   refine AW.perm (List.perm_append_singleton _ _).symm ?_
   refine sq (rs (y1 ?_))
   refine nl (bk ?_)
   refine lp3 (fun (k : Nat) (A : Option Addr) (c2 : Nat) => [(0, true, pv s), (1, true, .ep (.slice (sg g) n c) pre.length), (5, true, pv b5), (7, true, pv b7), (13, true, .v (.slice A k c2)), (14, true, zw (wI (k : Int)))]) (fun (k : Nat) (A : Option Addr) (c2 : Nat) => (Ent.row A k c2 5 1 ((bytesAt (getM l) (sysA x i 1) k).map u8) :: ((Ent.box b7 164 [zw (sX x i 0 i.args.length), zw (sX x i 1 i.args.length), zw (sX x i 2 i.args.length)] :: Ent.box b5 90 (insCells i) :: (Ent.row (sg g) n c 108 7 (pre ++ frD x a) :: frE x a)) ++ ((Ent.box s 64 (psD (psOf cc lab (V.wp db) (mapT pg)) ob (.v (.slice (sg g) n c))) :: memE 153 pg l) ++ V.DSt db ds)))) (fun (k : Nat) (A : Option Addr) (c2 : Nat) => k ≤ (sysA x i 2).toNat) (fun (k : Nat) (A : Option Addr) (c2 : Nat) => (sysA x i 2).toNat - k) 0 none 0 ?_ ?_
   ·exact Nat.zero_le _
   intro k A c2 hk0
   refine sq (rs (y1 ?_))
   refine Y1 (Yv.indexArr rfl ar_164 eV eV (fun hg => ⟨(Int.toNat_of_nonneg (by omega)).symm, by omega⟩)) ?_
   refine y1 ?_
   refine Y1 (Yv.lssW rfl eV eV) (nl ?_)
   refine cq (fun h11t => ?_) fun h11f => ?_
   ·have hk6 : k < (sysA x i 2).toNat := w31_lt (show wI (k : Int) < (sysA x i 2) from h11t) (by omega)
    refine sp (sq (bk (rg (y2 ?_))))
    refine Y1 (Yv.indexArr rfl ar_164 eV eV (fun hg => ⟨(Int.toNat_of_nonneg (by omega)).symm, by omega⟩)) ?_
    refine y2 ?_
    refine Y1 (Yv.addW rfl eV eV) ?_
    refine AWL.callKP rfl rfl (B rfl) rfl ce_48 (E rfl rfl) (evsC (E rfl rfl) (evsC (E rfl rfl) evs0)) (S1 := (Ent.box s 64 (psD (psOf cc lab (V.wp db) (mapT pg)) ob (.v (.slice (sg g) n c))) :: memE 153 pg l)) (S2 := (Ent.row A k c2 5 1 ((bytesAt (getM l) (sysA x i 1) k).map u8) :: ((Ent.box b7 164 [zw (sX x i 0 i.args.length), zw (sX x i 1 i.args.length), zw (sX x i 2 i.args.length)] :: Ent.box b5 90 (insCells i) :: (Ent.row (sg g) n c 108 7 (pre ++ frD x a) :: frE x a)) ++ V.DSt db ds))) pGet (Dget48 s pg (psOf cc lab (V.wp db) (mapT pg)) ob (.v (.slice (sg g) n c)) l rfl hl ((sysA x i 1) + wI (k : Int))) (fun t S h => h) ?_
    refine AWL.buildSlice1 rfl rfl (B rfl) rfl el_23 rfl (evsC (E rfl rfl) evs0) nB rfl rfl ?_
    refine AWL.appendRow (i := 0) rfl rfl (B rfl) rfl el_23 (B rfl) rfl (E rfl rfl) (SrcT.sl so_23 (B rfl) (E rfl rfl) rfl) (by unfold maxLen; omega) (by omega) (fun A54 c54 => ?_)
    refine y1 ?_
    refine nl (rg (y1 ?_))
    refine Y1 (Yv.addW (b := 1#64) rfl eV eV) ?_
    refine y1 (nl ?_)
    refine ⟨k + 1, A54, c54, by omega, by omega, (su (su (su (su (su (Sub.cons rfl (by rw [← wI_succ]) Sub.nil)))))), ?_⟩
    rw [bytes_succ, List.map_append]
    rfl
   have hk7 := w31_nlt (show ¬ wI (k : Int) < (sysA x i 2) from h11f) (by omega)
   obtain rfl : k = (sysA x i 2).toNat := by omega
   refine xt ?_
   refine AW.regionP rfl ?_
   refine phn 9 2 ?_
   refine q4 ?_
   refine Q1 (Yv.indexArr rfl ar_164 eV eV (fun hg => ⟨(Int.toNat_of_nonneg (by omega)).symm, by omega⟩)) ?_
   refine q1 ?_
   refine Q1 (Yv.conv rfl Tryz.underlying29 kd_2 eV) ?_
   refine q1 ?_
   refine Q1 (Yv.bytesStrRow (i := 0) rfl by_23 st_9 rfl eV) ?_
   refine nq ?_
   refine op 9 ?_
   refine cE ce_91 (Ent.row A (sysA x i 2).toNat c2 5 1 ((bytesAt (getM l) (sysA x i 1) (sysA x i 2).toNat).map u8) :: ((Ent.box b7 164 [zw (sX x i 0 i.args.length), zw (sX x i 1 i.args.length), zw (sX x i 2 i.args.length)] :: Ent.box b5 90 (insCells i) :: (Ent.row (sg g) n c 108 7 (pre ++ frD x a) :: frE x a)) ++ (Ent.box s 64 (psD (psOf cc lab (V.wp db) (mapT pg)) ob (.v (.slice (sg g) n c))) :: memE 153 pg l))) _ rfl rfl rfl (V.SysWrite40 db ds nb (side_pb hs hw.pb) hnb (side_nm hs hw.nm) (sI (sysA x i 0)) (bytesAt (getM l) (sysA x i 1) (sysA x i 2).toNat) (by rw [bytes_len]; omega)) ?_
   rintro t64 S64 ⟨rfl, ds2, hds2, rfl⟩
   refine AWL.dropAt 0 (nl ?_)
   refine op 10 ?_
   refine y1 (nl ?_)
   refine dn ?_
   refine ⟨(⟨V.writeV (sI (sysA x i 0)) (bytesAt (getM l) (sysA x i 1) (sysA x i 2).toNat) p, getM l, V.writeP (sI (sysA x i 0)) (bytesAt (getM l) (sysA x i 1) (sysA x i 2).toNat) p⟩, l, ds2, ob), ⟨⟨by omega, hsy.trans (congrArg some hrr)⟩, hl, rfl, (by rw [hds2]; exact hs.write hw.nm _ _)⟩, (su (su (su (su (Sub.cons rfl (congrArg zi (hs.writeV _ _).symm) Sub.nil))))), rfl⟩
  refine rs (y2 (nl ?_))
  refine cq (fun _ => ?_) fun _ => ?_
  ·have hi2 : i.imm = 2 := by omega
   have hsy : sysR (Mc.mk cc x [] (getM l) p) i = some (opM cc (getM l) p (sysA x i 0) (sI (sysA x i 1))) := by unfold sysR; rw [if_neg (by omega), if_neg (by omega), if_pos hi2]
   refine rg (y1 ?_)
   refine Y1 (Yv.indexArr rfl ar_164 eV eV (fun hg => ⟨(Int.toNat_of_nonneg (by omega)).symm, by omega⟩)) ?_
   refine y1 ?_
   refine Y1 (Yv.indexArr rfl ar_164 eV eV (fun hg => ⟨(Int.toNat_of_nonneg (by omega)).symm, by omega⟩)) ?_
   refine y1 ?_
   refine Y1 (Yv.conv rfl Tryz.underlying29 kd_2 eV) ?_
   refine cE ce_92 (Ent.box b7 164 [zw (sX x i 0 i.args.length), zw (sX x i 1 i.args.length), zw (sX x i 2 i.args.length)] :: Ent.box b5 90 (insCells i) :: (Ent.row (sg g) n c 108 7 (pre ++ frD x a) :: frE x a)) _ rfl rfl rfl (Dname92 s pg db cc ob lab (.v (.slice (sg g) n c)) l ds p nb hl hd hz0 hz1 hs hw hnb (sysA x i 0) (sI (sysA x i 1))) ?_
   rintro t127 S127 ⟨rfl, l2, ds2, ob2, rfl, hl2, hm2, hs2⟩
   refine y1 (nl ?_)
   refine ⟨((opM cc (getM l) p (sysA x i 0) (sI (sysA x i 1))), l2, ds2, ob2), ⟨⟨by omega, hsy⟩, hl2, hm2, hs2⟩, sbZ, rfl⟩
  refine rs (y2 (nl ?_))
  refine cq (fun _ => ?_) fun _ => ?_
  ·have hi3 : i.imm = 3 := by omega
   have hsy : sysR (Mc.mk cc x [] (getM l) p) i = some (clM (getM l) p (sI (sysA x i 0))) := by unfold sysR; rw [if_neg (by omega), if_neg (by omega), if_neg (by omega), if_pos hi3]
   refine AW.regionP rfl ?_
   refine phn 7 2 ?_
   refine q4 ?_
   refine Q1 (Yv.indexArr rfl ar_164 eV eV (fun hg => ⟨(Int.toNat_of_nonneg (by omega)).symm, by omega⟩)) ?_
   refine q1 ?_
   refine Q1 (Yv.conv rfl Tryz.underlying29 kd_2 eV) ?_
   refine nq ?_
   refine op 7 ?_
   refine cE ce_93 ((Ent.box b7 164 [zw (sX x i 0 i.args.length), zw (sX x i 1 i.args.length), zw (sX x i 2 i.args.length)] :: Ent.box b5 90 (insCells i) :: (Ent.row (sg g) n c 108 7 (pre ++ frD x a) :: frE x a)) ++ (Ent.box s 64 (psD (psOf cc lab (V.wp db) (mapT pg)) ob (.v (.slice (sg g) n c))) :: memE 153 pg l)) _ rfl rfl rfl (V.SysClose41 db ds nb (side_pb hs hw.pb) (by omega) (sI (sysA x i 0))) ?_
   rintro t137 S137 ⟨rfl, rfl⟩
   refine nl ?_
   refine op 8 ?_
   refine y1 (nl ?_)
   refine dn ?_
   refine ⟨((clM (getM l) p (sI (sysA x i 0))), l, { ds with opn := (V.closeP (sI (sysA x i 0)) (V.pl ds)).opn }, ob), ⟨⟨by omega, hsy⟩, hl, rfl, (by rw [pl_closeD]; exact hs.close _)⟩, (su (su (su (su (Sub.cons rfl (congrArg zi (hs.closeV _).symm) Sub.nil))))), rfl⟩
  refine rs (y2 (nl ?_))
  refine cq (fun _ => ?_) fun _ => ?_
  ·refine rs (y4 ?_)
   refine nl (rs (y1 ?_))
   refine Y1 (Yv.indexArr rfl ar_164 eV eV (fun hg => ⟨(Int.toNat_of_nonneg (by omega)).symm, by omega⟩)) ?_
   refine y1 ?_
   refine Y1 (Yv.remW (b := 256#64) rfl (E rfl rfl) (E rfl rfl) (by decide)) ?_
   refine Y1 (Yv.conv rfl Tryz.underlying29 kd_3 eV) ?_
   refine y3 ?_
   refine nl (rs (y1 (nl ?_)))
   refine rt ?_
   rw [if_pos (by omega)]
   refine ⟨rfl, ?_⟩
   refine (List.sublist_append_right ([Ent.box b7 164 [zw (sX x i 0 i.args.length), zw (sX x i 1 i.args.length), zw (sX x i 2 i.args.length)], Ent.box b5 90 (insCells i)]) (((Ent.row (sg g) n c 108 7 (pre ++ frD x a) :: frE x a) ++ ((Ent.box s 64 (psD (psOf { cc with st := 1, code := codeOf (sysA x i 0) } lab (V.wp db) (mapT pg)) ob (.v (.slice (sg g) n c))) :: memE 153 pg l) ++ V.DSt db ds)))).trans ?_
   unfold codeOf
   rw [← mod256]
   exact List.Sublist.refl _
  have hsy : sysR (Mc.mk cc x [] (getM l) p) i = none := by unfold sysR; rw [if_neg (by omega), if_neg (by omega), if_neg (by omega), if_neg (by omega)]
  refine rs (y1 (nl ?_))
  refine rt ?_
  rw [if_neg (by omega), hsy]
  exact ⟨rfl, (show (((Ent.row (sg g) n c 108 7 (pre ++ frD x a) :: frE x a) ++ ((Ent.box s 64 (psD (psOf cc lab (V.wp db) (mapT pg)) ob (.v (.slice (sg g) n c))) :: memE 153 pg l) ++ V.DSt db ds))).Sublist ([Ent.box b7 164 [zw (sX x i 0 i.args.length), zw (sX x i 1 i.args.length), zw (sX x i 2 i.args.length)], Ent.box b5 90 (insCells i)] ++ ((Ent.row (sg g) n c 108 7 (pre ++ frD x a) :: frE x a) ++ ((Ent.box s 64 (psD (psOf cc lab (V.wp db) (mapT pg)) ob (.v (.slice (sg g) n c))) :: memE 153 pg l) ++ V.DSt db ds))) from List.sublist_append_right _ _)⟩
 rintro ⟨r, l2, ds2, ob2⟩ ⟨⟨hn60, hsr⟩, hl2, hm2, hs2⟩
 dsimp only at hsr hl2 hm2 hs2
 refine AW.rseqP rfl ?_
 refine phn 9 1 ?_
 refine q7 ?_
 refine Q1 (Yv.convW rfl Tryz.underlying2 kd_29 eV) ?_
 refine q1 (nq ?_)
 refine op 9 ?_
 refine y1 (nl ?_)
 refine dn ?_
 refine AW.rseqP rfl ?_
 refine phn 7 1 ?_
 refine q7 (nq ?_)
 refine op 7 ?_
 refine y1 (nl ?_)
 refine dn ?_
 refine rs (y8 ?_)
 refine nl (rs (y1 (nl ?_)))
 refine rt ?_
 rw [if_neg hn60, hsr]
 refine ⟨rfl, l2, ds2, ob2, ?_, hl2, hm2, hs2⟩
 refine (List.sublist_append_right ([Ent.box b7 164 [zw (sX x i 0 i.args.length), zw (sX x i 1 i.args.length), zw (sX x i 2 i.args.length)], Ent.box b5 90 (insCells i)]) (((Ent.row (sg g) n c 108 7 (pre ++ frD (goF (setD x i.d (wI r.n))) a) :: frE (goF (setD x i.d (wI r.n))) a) ++ ((Ent.box s 64 (psD (psOf cc lab (V.wp db) (mapT pg)) ob2 (.v (.slice (sg g) n c))) :: memE 153 pg l2) ++ V.DSt db ds2)))).trans ?_
 rw [show frE (goF (setD x i.d (wI r.n))) a = frE (setD x i.d (wI r.n)) a from rfl, setE_rows, show frD (goF (setD x i.d (wI r.n))) a = frD (goF x) a from rfl, show goF x = { x with at_ := x.at_ + 1 } from rfl, ← fd_jump]
 exact List.Sublist.refl _


def SQD (s g n c pg db : Nat) (cc : Pc) (ob : Bool) (lab : T) (pre : List T) (x : Fr) (a : FA) (i : Ins) (l : List Pg) (ds : V.DS) (p : V.PW) (b : Bool) (S : St) : Prop :=
 if i.imm = 60 then b = true ∧ S = ((Ent.row (sg g) n c 108 7 (pre ++ frD x a) :: frE x a) ++ ((Ent.box s 64 (psD (psOf { cc with st := 1, code := codeOf (sysA x i 0) } lab (V.wp db) (mapT pg)) ob (.v (.slice (sg g) n c))) :: memE 153 pg l) ++ V.DSt db ds)) else match sysR (Mc.mk cc x [] (getM l) p) i with
  | none => b = false ∧ S = ((Ent.row (sg g) n c 108 7 (pre ++ frD x a) :: frE x a) ++ ((Ent.box s 64 (psD (psOf cc lab (V.wp db) (mapT pg)) ob (.v (.slice (sg g) n c))) :: memE 153 pg l) ++ V.DSt db ds))
  | some r => b = true ∧ ∃ l' ds' ob', S = ((Ent.row (sg g) n c 108 7 (pre ++ frD (goF (setD x i.d (wI r.n))) a) :: frE (goF (setD x i.d (wI r.n))) a) ++ ((Ent.box s 64 (psD (psOf cc lab (V.wp db) (mapT pg)) ob' (.v (.slice (sg g) n c))) :: memE 153 pg l') ++ V.DSt db ds')) ∧ PgOk l' ∧ getM l' = r.mem ∧ V.Side r.w (V.pl ds')
theorem Dcall69 (s g n c pg db : Nat) (cc : Pc) (ob : Bool) (lab : T) (pre : List T) (x : Fr) (a : FA) (i : Ins) (l : List Pg) (ds : V.DS) (p : V.PW) (nb : Nat) (hx : FrOk x) (hl : PgOk l) (hd : cc.prog.data.length ≤ 1048576) (hz0 : 0 ≤ cc.prog.zero) (hz1 : cc.prog.zero ≤ 268435456) (hs : V.Side p (V.pl ds)) (hw : V.RP nb p) (hnb : nb ≤ 549755813888) (har : ∀ r ∈ i.args, 0 ≤ r ∧ r < (x.nr : Int)) (hg : i.args.length ≤ 3) (hdr : 0 ≤ i.d ∧ i.d < (x.nr : Int)) (hat : 0 ≤ x.at_ ∧ x.at_ ≤ 4611686018427387904) : ACalls Tryz.prog 69 [pv s, .ep (.slice (sg g) n c) pre.length, .agg (insCells i)] ((Ent.row (sg g) n c 108 7 (pre ++ frD x a) :: frE x a) ++ ((Ent.box s 64 (psD (psOf cc lab (V.wp db) (mapT pg)) ob (.v (.slice (sg g) n c))) :: memE 153 pg l) ++ V.DSt db ds)) (fun t S => ∃ b, t = bv b ∧ SQD s g n c pg db cc ob lab pre x a i l ds p b S) :=
 (Dcall69_ s g n c pg db cc ob lab pre x a i l ds p nb hx hl hd hz0 hz1 hs hw hnb har hg hdr hat).less fun t S' h => by
  unfold SQD
  split at h
  ·rename_i h60
   simp only [if_pos h60]
   exact ⟨_, h.2, true, h.1, rfl, rfl⟩
  ·rename_i h60
   simp only [if_neg h60]
   cases hc : sysR (Mc.mk cc x [] (getM l) p) i with
   | none =>
    rw [hc] at h
    exact ⟨_, h.2, false, h.1, rfl, rfl⟩
   | some r =>
    rw [hc] at h
    obtain ⟨h1, l', ds', ob', h2, h3, h4, h5⟩ := h
    exact ⟨_, h2, true, h1, rfl, l', ds', ob', rfl, h3, h4, h5⟩
theorem DstepS_ (s g n c pg db : Nat) (cc : Pc) (ob : Bool) (lab : T) (pre : List T) (x : Fr) (a : FA) (i : Ins) (l : List Pg) (ds : V.DS) (p : V.PW) (nb : Nat) (hx : FrOk x) (hl : PgOk l) (hd : cc.prog.data.length ≤ 1048576) (hz0 : 0 ≤ cc.prog.zero) (hz1 : cc.prog.zero ≤ 268435456) (hs : V.Side p (V.pl ds)) (hw : V.RP nb p) (hnb : nb ≤ 549755813888) (har : ∀ r ∈ i.args, 0 ≤ r ∧ r < (x.nr : Int)) (hg3 : i.args.length ≤ 3) (hk : i.kind = 30) (ha : (hasF i.kind).a = true → 0 ≤ i.a ∧ i.a < (x.nr : Int)) (hb : (hasF i.kind).b = true → 0 ≤ i.b ∧ i.b < (x.nr : Int)) (hg : (hasF i.kind).args = true → ∀ r ∈ i.args, 0 ≤ r ∧ r < (x.nr : Int)) (hgl : i.args.length ≤ 1048576) (hdr : 0 ≤ i.d ∧ i.d < (x.nr : Int)) (hat : 0 ≤ x.at_ ∧ x.at_ ≤ 4611686018427387904) :
    ACalls Tryz.prog 38 [pv s, .ep (.slice (sg g) n c) pre.length, .agg (insCells i)] (([Ent.box s 64 (psD (psOf cc lab (V.wp db) (mapT pg)) ob (.v (.slice (sg g) n c))), Ent.row (sg g) n c 108 7 (pre ++ frD x a)] ++ frE x a) ++ (memE 153 pg l ++ V.DSt db ds)) (fun t S => (okS x.set (readsF i) = false ∧ t = bv false ∧ ((([Ent.box s 64 (psD (psOf cc lab (V.wp db) (mapT pg)) ob (.v (.slice (sg g) n c))), Ent.row (sg g) n c 108 7 (pre ++ frD x a)] ++ frE x a) ++ (memE 153 pg l ++ V.DSt db ds))).Sublist S) ∨ (okS x.set (readsF i) = true ∧ ∃ b S', t = bv b ∧ SQD s g n c pg db cc ob lab pre x a i l ds p b S' ∧ S'.Sublist S)) := by
 have hl3 := hx.t
 refine ai Tryz.func38 Tryz.ntmps38 fun X w0 => ?_
 refine rs ?_
 refine bg fun b5 => ?_
 refine y1 ?_
 refine nl (rs (y2 ?_))
 refine kt (Of36 i.kind) ?_
 rintro t16 S16 rfl
 refine y3 ?_
 refine bg fun b7 => ?_
 refine y2 ?_
 refine nl (sq (rq (q9 ?_)))
 refine kT (ix (j := i.a.toNat) (hj := fun hg => ⟨(Int.toNat_of_nonneg (ha (by simpa using hg)).1).symm, by have h8 := ha (by simpa using hg); omega⟩)) ?_
 refine kT (lw (hr := fun hg => bool_at (by have h9 := ha (by simpa using hg); omega))) ?_
 refine q12 ?_
 refine kT (ix (j := i.b.toNat) (hj := fun hg => ⟨(Int.toNat_of_nonneg (hb (ar hg)).1).symm, by have h8 := hb (ar hg); omega⟩)) ?_
 refine kT (lw (hr := fun hg => bool_at (by have h9 := hb (ar hg); omega))) ?_
 refine q3 (nq ?_)
 refine cq (fun h0t => ?_) fun h0f => ?_
 ·have hbd := rd_bad (x := x) (i := i) (by simpa using h0t)
  refine rs (y1 (nl ?_))
  refine rt ?_
  exact .inl ⟨hbd, rfl, (show ((([Ent.box s 64 (psD (psOf cc lab (V.wp db) (mapT pg)) ob (.v (.slice (sg g) n c))), Ent.row (sg g) n c 108 7 (pre ++ frD x a)] ++ frE x a) ++ (memE 153 pg l ++ V.DSt db ds))).Sublist ([Ent.box b7 131 (hasCells (hasF i.kind)), Ent.box b5 90 (insCells i)] ++ (([Ent.box s 64 (psD (psOf cc lab (V.wp db) (mapT pg)) ob (.v (.slice (sg g) n c))), Ent.row (sg g) n c 108 7 (pre ++ frD x a)] ++ frE x a) ++ (memE 153 pg l ++ V.DSt db ds))) from List.sublist_append_right _ _)⟩
 have hr2 := rdE_ok (x := x) (i := i) (by simpa using h0f)
 refine sp (sq (rs (y1 ?_)))
 refine nl (bk ?_)
 refine lp1 (fun (k : Nat) => [(0, true, pv s), (1, true, .ep (.slice (sg g) n c) pre.length), (5, true, pv b5), (7, true, pv b7), (9, true, zv k)]) (fun (k : Nat) => ([Ent.box b7 131 (hasCells (hasF i.kind)), Ent.box b5 90 (insCells i)] ++ (([Ent.box s 64 (psD (psOf cc lab (V.wp db) (mapT pg)) ob (.v (.slice (sg g) n c))), Ent.row (sg g) n c 108 7 (pre ++ frD x a)] ++ frE x a) ++ (memE 153 pg l ++ V.DSt db ds)))) (fun (k : Nat) => k ≤ i.args.length ∧ ((hasF i.kind).args = true → okS x.set (i.args.take k) = true)) (fun (k : Nat) => i.args.length - k) 0 ?_ ?_
 ·exact ⟨Nat.zero_le _, fun _ => rfl⟩
 intro k ⟨hk0, hka⟩
 refine sq (rs (y9 (nl ?_)))
 refine cq (fun h1t => ?_) fun h1f => ?_
 ·have hk1 : k < i.args.length ∧ (hasF i.kind).args = true := by
   have h : (k : Int) < (i.args.length : Int) ∧ (hasF i.kind).args = true := by simpa using h1t
   exact ⟨by omega, h.2⟩
  have hkr := hg hk1.2 _ (getD_mem (l := i.args) hk1.1)
  refine sp (sq (bk (rq (q9 ?_))))
  refine Q1 (ix (j := (i.args.getD k default).toNat) (hj := fun hg => ⟨(Int.toNat_of_nonneg hkr.1).symm, by omega⟩)) ?_
  refine q2 (nq ?_)
  refine cq (fun h2t => ?_) fun h2f => ?_
  ·have hbd := rd_arg (x := x) (i := i) hk1.2 hk1.1 (by simpa using h2t)
   refine rs (y1 (nl ?_))
   refine rt ?_
   exact .inl ⟨hbd, rfl, (show ((([Ent.box s 64 (psD (psOf cc lab (V.wp db) (mapT pg)) ob (.v (.slice (sg g) n c))), Ent.row (sg g) n c 108 7 (pre ++ frD x a)] ++ frE x a) ++ (memE 153 pg l ++ V.DSt db ds))).Sublist ([Ent.box b7 131 (hasCells (hasF i.kind)), Ent.box b5 90 (insCells i)] ++ (([Ent.box s 64 (psD (psOf cc lab (V.wp db) (mapT pg)) ob (.v (.slice (sg g) n c))), Ent.row (sg g) n c 108 7 (pre ++ frD x a)] ++ frE x a) ++ (memE 153 pg l ++ V.DSt db ds))) from List.sublist_append_right _ _)⟩
  refine sp (rg (y3 (nl ?_)))
  refine ⟨k + 1, ⟨by omega, fun h => ?_⟩, by omega, sbZ, rfl⟩
  rw [take_gd hk1.1, okS_app, hka h, okS_one, Bool.true_and]
  simpa using h2f
 have hok := rd_all hr2 hk0 hka (by simpa using h1f)
 refine xt (sq (rs (y2 ?_)))
 refine nl (bk (rs (y2 (nl ?_))))
 refine cf fun _ => ?_
 refine rs (y2 (nl ?_))
 refine cf fun _ => ?_
 refine rs (y2 (nl ?_))
 refine cf fun _ => ?_
 refine rs (y2 (nl ?_))
 refine cf fun _ => ?_
 refine rs (y2 (nl ?_))
 refine ct fun _ => ?_
 refine rs (y3 ?_)
 refine AWL.perm (S' := [Ent.box b7 131 (hasCells (hasF i.kind)), Ent.box b5 90 (insCells i)] ++ ((Ent.row (sg g) n c 108 7 (pre ++ frD x a) :: frE x a) ++ ((Ent.box s 64 (psD (psOf cc lab (V.wp db) (mapT pg)) ob (.v (.slice (sg g) n c))) :: memE 153 pg l) ++ V.DSt db ds))) (List.perm_middle.append_left [Ent.box b7 131 (hasCells (hasF i.kind)), Ent.box b5 90 (insCells i)]) ?_
 refine cE ce_69 [Ent.box b7 131 (hasCells (hasF i.kind)), Ent.box b5 90 (insCells i)] _ rfl rfl rfl (Dcall69 s g n c pg db cc ob lab pre x a i l ds p nb hx hl hd hz0 hz1 hs hw hnb har hg3 hdr hat) ?_
 rintro t204 S204 ⟨b, rfl, hJ⟩
 refine y1 (nl ?_)
 refine rt ?_
 exact .inr ⟨hok, b, _, rfl, hJ, List.sublist_append_right _ _⟩

section
variable {RF : Int → Wd64 → Wd64 → Wd64} {p : Prog} {m m' q q' : Mc}
theorem run_ok (hp : ProgOk p) (hpf : p.funs.length ≤ 1048576) (n : Nat) : ∀ {m : Mc}, MOk p m → MOk p (runM RF n m) ∧ m.c.steps ≤ (runM RF n m).c.steps ∧ (runM RF n m).c.steps ≤ m.c.steps + n ∧ (runM RF n m).c.heap = m.c.heap ∧ (runM RF n m).c.strict = m.c.strict := by
 induction n with
 | zero => intro m hm; exact ⟨hm, Int.le_refl _, by show m.c.steps ≤ m.c.steps + 0; omega, rfl, rfl⟩
 | succ n ih =>
  intro m hm
  rw [runM]
  by_cases h : m.c.st ≠ 0
  ·rw [if_pos h]; exact ⟨hm, Int.le_refl _, by omega, rfl, rfl⟩
  ·rw [if_neg h]
   have ha := hm.adv hp
   have h19 : (insOf p (advM m).x).kind ≠ 19 := by
    show (insOf p (advF m.c.prog m.x)).kind ≠ 19
    rw [hm.prog]; exact (adv_in hp hm.top).2
   rw [hm.prog]
   cases hs : stepM RF (advM m) (insOf p (advM m).x) with
   | none => exact ⟨ha.stuck, Int.le_refl _, by show m.c.steps ≤ m.c.steps + ((n + 1 : Nat) : Int); omega, rfl, rfl⟩
   | some q =>
    obtain ⟨h1, h2⟩ := step_ok hp hpf ha h19 hs
    obtain ⟨k1, k2, k3, k4, k5⟩ := ih h1.tick
    have e1 : q.c.steps = m.c.steps := h2.steps
    have e2 : (tickC q).c.steps = m.c.steps + 1 := by show q.c.steps + 1 = _; rw [e1]
    rw [e2] at k2 k3
    exact ⟨k1, by show m.c.steps ≤ (runM RF n (tickC q)).c.steps; omega, by show (runM RF n (tickC q)).c.steps ≤ _; omega, k4.trans h2.heap, k5.trans h2.strict⟩
theorem run_w (hp : ProgOk p) (hd : p.data.length ≤ 1048576) (hpf : p.funs.length ≤ 1048576) (n : Nat) : ∀ {m : Mc} {nb : Nat}, MOk p m → m.c.heap.toNat ≤ 268435456 → V.RP nb m.w → V.RP (nb + 268435458 * n) (runM RF n m).w := by
 induction n with
 | zero => intro m nb hm hh hw; exact hw
 | succ n ih =>
  intro m nb hm hh hw
  rw [runM]
  by_cases h : m.c.st ≠ 0
  ·rw [if_pos h]; exact hw.mono (by omega)
  ·rw [if_neg h]
   have ha := hm.adv hp
   have h19 : (insOf p (advM m).x).kind ≠ 19 := by
    show (insOf p (advF m.c.prog m.x)).kind ≠ 19
    rw [hm.prog]; exact (adv_in hp hm.top).2
   rw [hm.prog]
   cases hs : stepM RF (advM m) (insOf p (advM m).x) with
   | none => exact hw.mono (by omega)
   | some q =>
    obtain ⟨h1, h2⟩ := step_ok hp hpf ha h19 hs
    have hq := step_w (m := advM m) hp hd ha.prog hh hw hs
    exact (ih h1.tick (by show q.c.heap.toNat ≤ _; rw [h2.heap]; exact hh) hq).mono (by omega)
/-! ### strictly and not -/
structure SimF (x y : Fr) : Prop where
 is : ∃ s, y = { x with set := s } ∧ leB x.set s ∧ x.set.length = s.length
def SimL : List Fr → List Fr → Prop
 | [], [] => True
 | x :: r, y :: s => SimF x y ∧ SimL r s
 | _, _ => False
theorem SimL.len : ∀ {l l' : List Fr}, SimL l l' → l.length = l'.length
 | [], [], _ => rfl
 | [], y :: s, h => h.elim
 | x :: r, [], h => h.elim
 | x :: r, y :: s, h => by rw [List.length_cons, List.length_cons, SimL.len h.2]
end
structure DLay where
 s : Nat
 gl : Nat
 lc : Nat
 pg : Nat
 db : Nat
 bs : List Nat
structure DQ where
 g : Nat
 c : Nat
 a : FA
 K : List (Fr × FA)
 l : List Pg
 ds : V.DS
 ob : Bool
def rowD : List (Fr × FA) → List T
 | [] => []
 | q :: r => rowD r ++ frD q.1 q.2
def rowsF : List (Fr × FA) → St
 | [] => []
 | q :: r => frE q.1 q.2 ++ rowsF r
theorem rowD_len : ∀ K : List (Fr × FA), (rowD K).length = K.length * 7
 | [] => rfl
 | q :: r => by rw [rowD, List.length_append, rowD_len r, frD_len, List.length_cons]; omega
def labTD (L : DLay) (p : Prog) : T := .v (.slice (some ⟨L.gl, 0, none⟩) p.funs.length L.lc)
def psLD (L : DLay) (c : Pc) : PS := psOf c (labTD L c.prog) (V.wp L.db) (mapT L.pg)
def p7 (L : DLay) (c : Pc) (ob : Bool) (x : Fr) (g cc : Nat) (a : FA) (K : List (Fr × FA)) : St :=
 [Ent.box L.s 64 (psD (psLD L c) ob (.v (.slice (some ⟨g, 0, none⟩) (K.length + 1) cc))), Ent.row (some ⟨g, 0, none⟩) (K.length + 1) cc 108 7 (rowD K ++ frD x a)] ++ frE x a
def memD (L : DLay) (l : List Pg) (ds : V.DS) : St := memE 153 L.pg l ++ V.DSt L.db ds
def labF (L : DLay) (p : Prog) : St := Ent.row (some ⟨L.gl, 0, none⟩) p.funs.length L.lc 87 1 (L.bs.map mapT) :: mapsE L.bs p.funs
def DP (L : DLay) (m : Mc) (q : DQ) : St := p7 L m.c q.ob m.x q.g q.c q.a q.K ++ (memD L q.l q.ds ++ (rowsF q.K ++ labF L m.c.prog))
structure DRel (m : Mc) (q : DQ) : Prop where
 bl : q.K.map (·.1) = m.bl
 ok : PgOk q.l
 mem : getM q.l = m.mem
 w : V.Side m.w (V.pl q.ds)
def cpD (q : DQ) : T := .ep (.slice (some ⟨q.g, 0, none⟩) (q.K.length + 1) q.c) (rowD q.K).length
section
variable {L : DLay} {p : Prog} {m : Mc} {q : DQ} {nb : Nat}
def DStepR (L : DLay) (m : Mc) (i : Ins) (t : T) (S : St) : Prop :=
 ∃ m' q', t = bv (stepM realF m i).isSome ∧ (∀ m1, stepM realF m i = some m1 → m' = m1) ∧ (stepM realF m i = none → ∃ at_, m' = { m with x := { m.x with at_ := at_ } }) ∧ DRel m' q' ∧ S = DP L m' q'
theorem DdoV (hm : MOk p m) (hp : ProgOk p) (hpi : ProgIn p) (hq : DRel m q) (hk : valK (insOf p m.x).kind ∨ (insOf p m.x).kind = 32) :
    ACalls Tryz.prog 38 [.v (.pointer (some ⟨L.s, 0, none⟩)), cpD q, .agg (insCells (insOf p m.x))] (DP L m q) (DStepR L m (insOf p m.x)) := by
 have hb := hm.top.bounds hp hpi
 have io := hm.top.ins hp
 have h1 := DstepV_ L.s q.g (q.K.length + 1) q.c (psLD L m.c) q.ob (rowD q.K) m.x q.a (insOf p m.x) hm.top.ok hk hb.a hb.b hb.slot io.real hb.d hb.args hb.len hb.at_
 refine ACalls.part (memD L q.l q.ds ++ (rowsF q.K ++ labF L m.c.prog)) (h1.less fun t S' h => ⟨_, h.2, h.1, rfl⟩) (List.Perm.refl _) (fun t S' h => ?_) (R := fun t S => t = bv (stepA realF (psLD L m.c).heap m.x (insOf p m.x)).isSome ∧ S = _)
 obtain ⟨e1, e2⟩ := h
 have hs : stepM realF m (insOf p m.x) = (stepA realF m.c.heap m.x (insOf p m.x)).map fun x => { m with x := x } := by
  have hk' := hk
  unfold valK at hk'
  exact stepV hk (by omega) (by omega)
 have hh : (psLD L m.c).heap = m.c.heap := rfl
 rw [hh] at e1 e2
 cases hA : stepA realF m.c.heap m.x (insOf p m.x) with
 | none =>
  rw [hA] at e1 e2 hs
  refine ⟨_, List.Perm.refl _, m, q, ?_, fun m1 h => ?_, fun _ => ⟨m.x.at_, rfl⟩, hq, ?_⟩
  ·rw [hs]; exact e1
  ·rw [hs] at h; cases h
  ·rw [e2]; rfl
 | some x' =>
  rw [hA] at e1 e2 hs
  refine ⟨_, List.Perm.refl _, { m with x := x' }, q, ?_, fun m1 h => ?_, fun h => ?_, ⟨hq.bl, hq.ok, hq.mem, hq.w⟩, ?_⟩
  ·rw [hs]; exact e1
  ·rw [hs] at h; cases h; rfl
  ·rw [hs] at h; cases h
  ·rw [e2]; rfl
theorem DdoJ (hm : MOk p m) (hp : ProgOk p) (hpi : ProgIn p) (hq : DRel m q) (hbs : L.bs.length = p.funs.length) (hk : (insOf p m.x).kind = 20 ∨ (insOf p m.x).kind = 21) :
    ACalls Tryz.prog 38 [.v (.pointer (some ⟨L.s, 0, none⟩)), cpD q, .agg (insCells (insOf p m.x))] (DP L m q) (DStepR L m (insOf p m.x)) := by
 have hb := hm.top.bounds hp hpi
 have hpr := hm.prog
 have h1 := DstepJ_ L.s q.g (q.K.length + 1) q.c L.gl m.c.prog.funs.length L.lc (psLD L m.c) q.ob (rowD q.K) m.x q.a (insOf p m.x) L.bs (whL (fnOf p m.x).code) hm.top.ok rfl (by rw [hpr]; exact hbs) hm.top.f0 (by rw [hpr]; exact hm.top.f1) hk hb.a hb.b hb.args hb.len hb.at_
 obtain ⟨R, hR⟩ := mapsE_at (bs := L.bs) (fs := m.c.prog.funs) (f := m.x.f.toNat) (by rw [hpr]; exact hm.top.f1) (by rw [hpr]; exact hbs)
 have hR' : (mapsE L.bs m.c.prog.funs).Perm (Ent.map (L.bs.getD m.x.f.toNat 0) (lmT (whL (fnOf p m.x).code)) :: R) := by
  unfold fnOf; rw [← hpr]; exact hR
 refine ACalls.part (memD L q.l q.ds ++ (rowsF q.K ++ R)) (h1.less fun t S' h => ⟨_, h.2, h.1, rfl⟩) (pJ (A := p7 L m.c q.ob m.x q.g q.c q.a q.K) hR') (fun t S' h => ?_) (R := fun t S => t = bv (okS m.x.set (readsF (insOf p m.x))) ∧ S = _)
 obtain ⟨e1, e2⟩ := h
 cases h0 : okS m.x.set (readsF (insOf p m.x)) with
 | false =>
  rw [h0] at e1 e2
  have hs := step_0 (RF := realF) h0
  refine ⟨DP L m q, ?_, m, q, ?_, fun m1 h => ?_, fun _ => ⟨m.x.at_, rfl⟩, hq, rfl⟩
  ·rw [e2]; exact pJ (A := p7 L m.c q.ob m.x q.g q.c q.a q.K) hR'
  ·rw [hs]; exact e1
  ·rw [hs] at h; cases h
 | true =>
  rw [h0] at e1 e2
  have hs := stepJ (RF := realF) h0 hk
  refine ⟨DP L { m with x := jmpF m.c.prog m.x (insOf p m.x) } q, ?_, { m with x := jmpF m.c.prog m.x (insOf p m.x) }, q, ?_, fun m1 h => ?_, fun h => ?_, ⟨hq.bl, hq.ok, hq.mem, hq.w⟩, rfl⟩
  ·rw [e2, if_pos rfl]
   have e3 : jmpF m.c.prog m.x (insOf p m.x) = { m.x with at_ := if (insOf p m.x).kind = 20 ∨ holdsF (insOf p m.x).cond (rA m.x (insOf p m.x).a) (rA m.x (insOf p m.x).b) = true then getL (insOf p m.x).l (whL (fnOf p m.x).code) else m.x.at_ + 1 } := by
    unfold jmpF whereOf; rw [hpr]
   rw [← e3]
   exact pJ (A := p7 L m.c q.ob (jmpF m.c.prog m.x (insOf p m.x)) q.g q.c q.a q.K) hR'
  ·rw [hs]; exact e1
  ·rw [hs] at h; cases h; rfl
  ·rw [hs] at h; cases h
theorem DdoLd (hm : MOk p m) (hp : ProgOk p) (hpi : ProgIn p) (hq : DRel m q) (hk : (insOf p m.x).kind = 17) :
    ACalls Tryz.prog 38 [.v (.pointer (some ⟨L.s, 0, none⟩)), cpD q, .agg (insCells (insOf p m.x))] (DP L m q) (DStepR L m (insOf p m.x)) := by
 have hb := hm.top.bounds hp hpi
 have hpr := hm.prog
 have h1 := DstepLd_ L.s q.g (q.K.length + 1) q.c L.pg (psLD L m.c) q.ob (rowD q.K) m.x q.a (insOf p m.x) q.l hm.top.ok rfl hq.ok (by show m.c.prog.data.length ≤ _; rw [hpr]; exact hpi.data) (by show 0 ≤ m.c.prog.zero; rw [hpr]; exact hp.zero.1) (by show m.c.prog.zero ≤ _; rw [hpr]; exact hp.zero.2) hk hb.a hb.b hb.d hb.args hb.len hb.at_
 refine ACalls.part (V.DSt L.db q.ds ++ (rowsF q.K ++ labF L m.c.prog)) (h1.less fun t S' h => ⟨_, h.2, h.1, rfl⟩) (pM (A := p7 L m.c q.ob m.x q.g q.c q.a q.K)) (fun t S' h => ?_) (R := fun t S => t = bv (okS m.x.set (readsF (insOf p m.x)) && (sizeOk (insOf p m.x).size && thereF (psData (psLD L m.c).prog) (psLD L m.c).heap (adF m.x (insOf p m.x)) (wI (insOf p m.x).size))) ∧ S = _)
 obtain ⟨e1, e2⟩ := h
 have hmo : (sizeOk (insOf p m.x).size && thereF (psData (psLD L m.c).prog) (psLD L m.c).heap (adF m.x (insOf p m.x)) (wI (insOf p m.x).size)) = memOk m.c (adF m.x (insOf p m.x)) (insOf p m.x).size := rfl
 rw [hmo] at e1 e2
 cases h0 : okS m.x.set (readsF (insOf p m.x)) with
 | false =>
  rw [h0] at e1 e2
  have hs := step_0 (RF := realF) h0
  refine ⟨DP L m q, ?_, m, q, ?_, fun m1 h => ?_, fun _ => ⟨m.x.at_, rfl⟩, hq, rfl⟩
  ·rw [e2]; exact pM (A := p7 L m.c q.ob m.x q.g q.c q.a q.K)
  ·rw [hs]; exact e1
  ·rw [hs] at h; cases h
 | true =>
  rw [h0, Bool.true_and] at e1 e2
  have hs := stepLd (RF := realF) h0 hk
  cases hmk : memOk m.c (adF m.x (insOf p m.x)) (insOf p m.x).size with
  | false =>
   rw [hmk] at e1 e2 hs
   refine ⟨DP L m q, ?_, m, q, ?_, fun m1 h => ?_, fun _ => ⟨m.x.at_, rfl⟩, hq, rfl⟩
   ·rw [e2]; exact pM (A := p7 L m.c q.ob m.x q.g q.c q.a q.K)
   ·rw [hs]; exact e1
   ·rw [hs] at h; cases h
  | true =>
   rw [hmk] at e1 e2 hs
   rw [hq.mem] at e2
   refine ⟨DP L { m with x := goF (setD m.x (insOf p m.x).d (leF m.mem (adF m.x (insOf p m.x)) (insOf p m.x).size.toNat)) } q, ?_, { m with x := goF (setD m.x (insOf p m.x).d (leF m.mem (adF m.x (insOf p m.x)) (insOf p m.x).size.toNat)) }, q, ?_, fun m1 h => ?_, fun h => ?_, ⟨hq.bl, hq.ok, hq.mem, hq.w⟩, rfl⟩
   ·rw [e2]; exact pM (A := p7 L m.c q.ob (goF (setD m.x (insOf p m.x).d (leF m.mem (adF m.x (insOf p m.x)) (insOf p m.x).size.toNat))) q.g q.c q.a q.K)
   ·rw [hs]; exact e1
   ·rw [hs] at h; cases h; rfl
   ·rw [hs] at h; cases h
theorem DdoSt (hm : MOk p m) (hp : ProgOk p) (hpi : ProgIn p) (hq : DRel m q) (hk : (insOf p m.x).kind = 18) :
    ACalls Tryz.prog 38 [.v (.pointer (some ⟨L.s, 0, none⟩)), cpD q, .agg (insCells (insOf p m.x))] (DP L m q) (DStepR L m (insOf p m.x)) := by
 have hb := hm.top.bounds hp hpi
 have hpr := hm.prog
 have h1 := DstepSt_ L.s q.g (q.K.length + 1) q.c L.pg (psLD L m.c) q.ob (rowD q.K) m.x q.a (insOf p m.x) q.l hm.top.ok rfl hq.ok (by show m.c.prog.data.length ≤ _; rw [hpr]; exact hpi.data) (by show 0 ≤ m.c.prog.zero; rw [hpr]; exact hp.zero.1) (by show m.c.prog.zero ≤ _; rw [hpr]; exact hp.zero.2) hk hb.a hb.b hb.d hb.args hb.len hb.at_
 refine ACalls.part (V.DSt L.db q.ds ++ (rowsF q.K ++ labF L m.c.prog)) (h1.less fun t S' ⟨a1, l', a2, a3, a4⟩ => ⟨_, a2, a1, l', rfl, a3, a4⟩) (pM (A := p7 L m.c q.ob m.x q.g q.c q.a q.K)) (fun t S' h => ?_) (R := fun t S => t = bv (okS m.x.set (readsF (insOf p m.x)) && (sizeOk (insOf p m.x).size && thereF (psData (psLD L m.c).prog) (psLD L m.c).heap (adF m.x (insOf p m.x)) (wI (insOf p m.x).size))) ∧ ∃ l', S = p7 L m.c q.ob (if okS m.x.set (readsF (insOf p m.x)) = true then goF m.x else m.x) q.g q.c q.a q.K ++ memE 153 L.pg l' ∧ PgOk l' ∧ getM l' = if (okS m.x.set (readsF (insOf p m.x)) && (sizeOk (insOf p m.x).size && thereF (psData (psLD L m.c).prog) (psLD L m.c).heap (adF m.x (insOf p m.x)) (wI (insOf p m.x).size))) = true then putsF (getM q.l) (adF m.x (insOf p m.x)) (rA m.x (insOf p m.x).b) (insOf p m.x).size.toNat else getM q.l)
 obtain ⟨e1, l', e2, hl', hg'⟩ := h
 have hmo : (sizeOk (insOf p m.x).size && thereF (psData (psLD L m.c).prog) (psLD L m.c).heap (adF m.x (insOf p m.x)) (wI (insOf p m.x).size)) = memOk m.c (adF m.x (insOf p m.x)) (insOf p m.x).size := rfl
 rw [hmo] at e1 hg'
 cases h0 : okS m.x.set (readsF (insOf p m.x)) with
 | false =>
  rw [h0] at e1 e2 hg'
  have hs := step_0 (RF := realF) h0
  refine ⟨DP L m { q with l := l' }, ?_, m, { q with l := l' }, ?_, fun m1 h => ?_, fun _ => ⟨m.x.at_, rfl⟩, ⟨hq.bl, hl', hg'.trans hq.mem, hq.w⟩, rfl⟩
  ·rw [e2]; exact pM (A := p7 L m.c q.ob m.x q.g q.c q.a q.K)
  ·rw [hs]; exact e1
  ·rw [hs] at h; cases h
 | true =>
  rw [h0] at e1 e2 hg'
  rw [Bool.true_and] at e1 hg'
  have hs := stepSt (RF := realF) h0 hk
  cases hmk : memOk m.c (adF m.x (insOf p m.x)) (insOf p m.x).size with
  | false =>
   rw [hmk] at e1 hg' hs
   refine ⟨DP L { m with x := goF m.x } { q with l := l' }, ?_, { m with x := goF m.x }, { q with l := l' }, ?_, fun m1 h => ?_, fun _ => ⟨m.x.at_ + 1, rfl⟩, ⟨hq.bl, hl', hg'.trans hq.mem, hq.w⟩, rfl⟩
   ·rw [e2]; exact pM (A := p7 L m.c q.ob (goF m.x) q.g q.c q.a q.K)
   ·rw [hs]; exact e1
   ·rw [hs] at h; cases h
  | true =>
   rw [hmk] at e1 hg' hs
   refine ⟨DP L { m with x := goF m.x, mem := putsF m.mem (adF m.x (insOf p m.x)) (rA m.x (insOf p m.x).b) (insOf p m.x).size.toNat } { q with l := l' }, ?_, { m with x := goF m.x, mem := putsF m.mem (adF m.x (insOf p m.x)) (rA m.x (insOf p m.x).b) (insOf p m.x).size.toNat }, { q with l := l' }, ?_, fun m1 h => ?_, fun h => ?_, ⟨hq.bl, hl', ?_, hq.w⟩, rfl⟩
   ·rw [e2]; exact pM (A := p7 L m.c q.ob (goF m.x) q.g q.c q.a q.K)
   ·rw [hs]; exact e1
   ·rw [hs] at h; cases h; rfl
   ·rw [hs] at h; cases h
   ·show getM l' = putsF m.mem _ _ _
    rw [hg', if_pos rfl, hq.mem]
theorem DdoB (hm : MOk p m) (hp : ProgOk p) (hpi : ProgIn p) (hq : DRel m q) (hk : (insOf p m.x).kind = 26) :
    ACalls Tryz.prog 38 [.v (.pointer (some ⟨L.s, 0, none⟩)), cpD q, .agg (insCells (insOf p m.x))] (DP L m q) (DStepR L m (insOf p m.x)) := by
 have hb := hm.top.bounds hp hpi
 obtain ⟨g, c, a, K, l, ds, ob⟩ := q
 cases K with
 | nil =>
  have hbl : m.bl = [] := hq.bl.symm
  have h1 := DstepR1_ L.s g c (psLD L m.c) ob m.x a (insOf p m.x) hm.top.ok hk hb.a hb.b hb.args hb.len
  refine ACalls.part (memD L l ds ++ (rowsF [] ++ labF L m.c.prog)) (h1.less fun t S' h => ⟨_, h.2, h.1, rfl⟩) (List.Perm.refl _) (fun t S' h => ?_) (R := fun t S => t = bv (okS m.x.set (readsF (insOf p m.x))) ∧ S = _)
  obtain ⟨e1, e2⟩ := h
  cases h0 : okS m.x.set (readsF (insOf p m.x)) with
  | false =>
   rw [h0] at e1 e2
   have hs := step_0 (RF := realF) h0
   refine ⟨_, List.Perm.refl _, m, ⟨g, c, a, [], l, ds, ob⟩, ?_, fun m1 h => ?_, fun _ => ⟨m.x.at_, rfl⟩, hq, ?_⟩
   ·rw [hs]; exact e1
   ·rw [hs] at h; cases h
   ·rw [e2]; rfl
  | true =>
   rw [h0] at e1 e2
   have hs := stepB (RF := realF) h0 hk
   have e3 : backM m (rA m.x (insOf p m.x).a) = { m with c := backC m.c (rA m.x (insOf p m.x).a) } := by
    unfold backM; rw [hbl]
   have hpc : (backC m.c (rA m.x (insOf p m.x).a)).prog = m.c.prog := by unfold backC; split <;> rfl
   refine ⟨_, List.Perm.refl _, { m with c := backC m.c (rA m.x (insOf p m.x).a) }, ⟨g, c, a, [], l, ds, ob⟩, ?_, fun m1 h => ?_, fun h => ?_, ⟨hq.bl, hq.ok, hq.mem, hq.w⟩, ?_⟩
   ·rw [hs]; exact e1
   ·rw [hs, e3] at h; cases h; rfl
   ·rw [hs] at h; cases h
   ·rw [e2, if_pos rfl]
    show _ = p7 L (backC m.c (rA m.x (insOf p m.x).a)) ob m.x g c a [] ++ (memD L l ds ++ (rowsF [] ++ labF L (backC m.c (rA m.x (insOf p m.x).a)).prog))
    rw [hpc]
    unfold p7 psLD
    rw [hpc, ← back_ps]; rfl
 | cons yb K' =>
  obtain ⟨y, b⟩ := yb
  have hbl : m.bl = y :: K'.map (·.1) := hq.bl.symm
  have hy : FrIn p y := hm.bl y (by rw [hbl]; exact List.mem_cons_self ..)
  have hd : 0 ≤ m.x.d ∧ m.x.d < (y.nr : Int) := by
   have h := hm.ch
   rw [hbl] at h
   exact h.1
  have hdep : K'.length ≤ 1048576 := by
   have h := hm.dep
   rw [hbl, List.length_cons, List.length_map] at h
   omega
  have h1 := DstepRM_ L.s g c K'.length (psLD L m.c) ob (rowD K') y b m.x a (insOf p m.x) (rowD_len K') hdep hy.ok hd hm.top.ok hk hb.a hb.b hb.args hb.len
  refine ACalls.part (memD L l ds ++ (rowsF K' ++ labF L m.c.prog)) (h1.less fun t S' h => ?_) (pC (A := p7 L m.c ob m.x g c a ((y, b) :: K')) (C := frE y b)) (fun t S' h => ?_) (R := fun t S => (okS m.x.set (readsF (insOf p m.x)) = false ∧ t = bv false ∧ S = p7 L m.c ob m.x g c a ((y, b) :: K') ++ frE y b) ∨ (okS m.x.set (readsF (insOf p m.x)) = true ∧ t = bv true ∧ S = p7 L m.c ob (setD y m.x.d (rA m.x (insOf p m.x).a)) g c b K'))
  ·rcases h with ⟨a1, a2, a3⟩ | ⟨a1, a2, a3⟩
   ·exact ⟨_, a3, .inl ⟨a1, a2, rfl⟩⟩
   ·exact ⟨_, a3, .inr ⟨a1, a2, rfl⟩⟩
  rcases h with ⟨h0, e1, e2⟩ | ⟨h0, e1, e2⟩
  ·have hs := step_0 (RF := realF) h0
   refine ⟨DP L m ⟨g, c, a, (y, b) :: K', l, ds, ob⟩, ?_, m, ⟨g, c, a, (y, b) :: K', l, ds, ob⟩, ?_, fun m1 h => ?_, fun _ => ⟨m.x.at_, rfl⟩, hq, rfl⟩
   ·rw [e2]; exact pC (A := p7 L m.c ob m.x g c a ((y, b) :: K')) (C := frE y b)
   ·rw [hs]; exact e1
   ·rw [hs] at h; cases h
  ·have hs := stepB (RF := realF) h0 hk
   have e3 : backM m (rA m.x (insOf p m.x).a) = { m with x := setD y m.x.d (rA m.x (insOf p m.x).a), bl := K'.map (·.1) } := by
    unfold backM; rw [hbl]
   refine ⟨_, List.Perm.refl _, { m with x := setD y m.x.d (rA m.x (insOf p m.x).a), bl := K'.map (·.1) }, ⟨g, c, b, K', l, ds, ob⟩, ?_, fun m1 h => ?_, fun h => ?_, ⟨rfl, hq.ok, hq.mem, hq.w⟩, ?_⟩
   ·rw [hs]; exact e1
   ·rw [hs, e3] at h; cases h; rfl
   ·rw [hs] at h; cases h
   ·rw [e2]; rfl
theorem DdoC (hm : MOk p m) (hp : ProgOk p) (hpi : ProgIn p) (hq : DRel m q) (hk : (insOf p m.x).kind = 22 ∨ (insOf p m.x).kind = 23 ∨ (insOf p m.x).kind = 24 ∨ (insOf p m.x).kind = 25) :
    ACalls Tryz.prog 38 [.v (.pointer (some ⟨L.s, 0, none⟩)), cpD q, .agg (insCells (insOf p m.x))] (DP L m q) (DStepR L m (insOf p m.x)) := by
 have hb := hm.top.bounds hp hpi
 have io := hm.top.ins hp
 have hpr := hm.prog
 have hargs : (hasF (insOf p m.x).kind).args = true := by rcases hk with h | h | h | h <;> rw [h] <;> rfl
 have hlen : m.bl.length = q.K.length := by rw [← hq.bl, List.length_map]
 have hdep := hm.dep
 have h1 := DstepC_ L.s q.g q.c q.K.length (psLD L m.c) q.ob (rowD q.K) m.x q.a (insOf p m.x) hm.top.ok (by have h9 := (fn_regs hp hm.top.f1).2.1; have h8 := hm.top.nr; unfold fnOf at h8; omega) (rowD_len q.K) (by omega) hk (by show ProgOk m.c.prog; rw [hpr]; exact hp) (by show m.c.prog.funs.length ≤ _; rw [hpr]; exact hpi.funs) hb.a (hb.args hargs) hb.len hb.args hb.b (fun h => by
  show (_ ∧ _ < m.c.prog.funs.length) ∧ _ = parF m.c.prog _
  rw [hpr]; exact ⟨io.fn h, io.par hargs h⟩) hb.at_
 refine ACalls.part (memD L q.l q.ds ++ (rowsF q.K ++ labF L m.c.prog)) (h1.less fun t S' h => ?_) (List.Perm.refl _) (fun t S' h => ?_) (R := fun t S => (okS m.x.set (readsF (insOf p m.x)) = false ∧ t = bv false ∧ S = p7 L m.c q.ob m.x q.g q.c q.a q.K) ∨ (okS m.x.set (readsF (insOf p m.x)) = true ∧ ∃ b, t = bv b ∧ JQD L.s q.g q.c q.K.length (psLD L m.c) q.ob (rowD q.K) m.x q.a (insOf p m.x) b S))
 ·rcases h with ⟨a1, a2, a3⟩ | ⟨a1, b, S2, a2, a3, a4⟩
  ·exact ⟨_, a3, .inl ⟨a1, a2, rfl⟩⟩
  exact ⟨S2, a4, .inr ⟨a1, b, a2, a3⟩⟩
 rcases h with ⟨h0, e1, e2⟩ | ⟨h0, b, e1, hJ⟩
 ·have hs := step_0 (RF := realF) h0
  refine ⟨_, List.Perm.refl _, m, q, ?_, fun m1 h => (by rw [hs] at h; cases h), fun _ => ⟨m.x.at_, rfl⟩, hq, ?_⟩
  ·rw [hs]; exact e1
  rw [e2]; rfl
 have hs := stepC (RF := realF) h0 hk
 unfold JQD at hJ
 have hpp : (psLD L m.c).prog = m.c.prog := rfl
 rw [hpp] at hJ
 unfold jumpM at hs
 cases hc : calleeF m.c.prog m.x (insOf p m.x) with
 | none =>
  rw [hc] at hJ hs
  obtain ⟨rfl, e2⟩ := hJ
  refine ⟨_, List.Perm.refl _, m, q, ?_, fun m1 h => (by rw [hs] at h; cases h), fun _ => ⟨m.x.at_, rfl⟩, hq, ?_⟩
  ·rw [hs]; exact e1
  ·rw [e2]; rfl
 | some f =>
  rw [hc] at hJ hs
  dsimp only at hJ hs
  split at hJ
  ·rename_i h24
   rw [if_pos h24] at hs
   obtain ⟨rfl, g', c', a', e2⟩ := hJ
   refine ⟨_, List.Perm.refl _, { m with x := openFr (m.c.prog.funs.getD f default) f (argsF m.x (insOf p m.x)) m.x.d }, { q with g := g', c := c', a := a' }, ?_, fun m1 h => (by rw [hs] at h; cases h; rfl), fun h => (by rw [hs] at h; cases h), ⟨hq.bl, hq.ok, hq.mem, hq.w⟩, ?_⟩
   ·rw [hs]; exact e1
   ·rw [e2]; rfl
  ·rename_i h24
   rw [if_neg h24] at hs
   rw [← hlen] at hJ
   split at hJ
   ·rename_i hmx
    rw [if_pos hmx] at hs
    obtain ⟨rfl, e2⟩ := hJ
    refine ⟨_, List.Perm.refl _, m, q, ?_, fun m1 h => (by rw [hs] at h; cases h), fun _ => ⟨m.x.at_, rfl⟩, hq, ?_⟩
    ·rw [hs]; exact e1
    ·rw [e2, hlen]; rfl
   ·rename_i hmx
    rw [if_neg hmx] at hs
    obtain ⟨rfl, g', c', a', e2⟩ := hJ
    rw [hlen] at e2
    refine ⟨DP L { m with x := openFr (m.c.prog.funs.getD f default) f (argsF m.x (insOf p m.x)) (insOf p m.x).d, bl := callF m.c.strict m.x :: m.bl } ⟨g', c', a', (callF m.c.strict m.x, q.a) :: q.K, q.l, q.ds, q.ob⟩, ?_, { m with x := openFr (m.c.prog.funs.getD f default) f (argsF m.x (insOf p m.x)) (insOf p m.x).d, bl := callF m.c.strict m.x :: m.bl }, ⟨g', c', a', (callF m.c.strict m.x, q.a) :: q.K, q.l, q.ds, q.ob⟩, ?_, fun m1 h => (by rw [hs] at h; cases h; rfl), fun h => (by rw [hs] at h; cases h), ⟨by rw [List.map_cons, hq.bl], hq.ok, hq.mem, hq.w⟩, rfl⟩
    ·rw [e2]
     exact pC (A := p7 L m.c q.ob (openFr (m.c.prog.funs.getD f default) f (argsF m.x (insOf p m.x)) (insOf p m.x).d) g' c' a' ((callF m.c.strict m.x, q.a) :: q.K)) (C := frE (callF m.c.strict m.x) q.a)
    ·rw [hs]; exact e1
theorem pSy {P R : Ent} {F M D Y : St} : (([P, R] ++ F) ++ ((M ++ D) ++ Y)).Perm (((R :: F) ++ ((P :: M) ++ D)) ++ Y) := by
 have h : (P :: ((R :: F) ++ (M ++ D))).Perm ((R :: F) ++ (P :: (M ++ D))) := List.perm_middle.symm
 refine List.Perm.trans (List.Perm.of_eq ?_) (h.append_right Y)
 show P :: R :: (F ++ ((M ++ D) ++ Y)) = P :: R :: ((F ++ (M ++ D)) ++ Y)
 rw [List.append_assoc F]
theorem DdoSy (hm : MOk p m) (hp : ProgOk p) (hpi : ProgIn p) (hq : DRel m q) (hw : V.RP nb m.w) (hnb : nb ≤ 549755813888) (hk : (insOf p m.x).kind = 30) :
    ACalls Tryz.prog 38 [.v (.pointer (some ⟨L.s, 0, none⟩)), cpD q, .agg (insCells (insOf p m.x))] (DP L m q) (DStepR L m (insOf p m.x)) := by
 have hb := hm.top.bounds hp hpi
 have io := hm.top.ins hp
 have hpr := hm.prog
 have hargs : (hasF (insOf p m.x).kind).args = true := by rw [hk]; rfl
 have h3 := (io.args hargs).2
 rw [hk] at h3
 have h1 := DstepS_ L.s q.g (q.K.length + 1) q.c L.pg L.db m.c q.ob (labTD L m.c.prog) (rowD q.K) m.x q.a (insOf p m.x) q.l q.ds m.w nb hm.top.ok hq.ok (by rw [hpr]; exact hpi.data) (by rw [hpr]; exact hp.zero.1) (by rw [hpr]; exact hp.zero.2) hq.w hw hnb (hb.args hargs) (by have : mostF 30 = 3 := rfl; omega) hk hb.a hb.b hb.args hb.len (hb.d (by rw [hk]; rfl)) hb.at_
 refine ACalls.part (rowsF q.K ++ labF L m.c.prog) (h1.less fun t S' h => ?_) pS (fun t S' h => ?_) (R := fun t S => (okS m.x.set (readsF (insOf p m.x)) = false ∧ t = bv false ∧ S = p7 L m.c q.ob m.x q.g q.c q.a q.K ++ memD L q.l q.ds) ∨ (okS m.x.set (readsF (insOf p m.x)) = true ∧ ∃ b, t = bv b ∧ SQD L.s q.g (q.K.length + 1) q.c L.pg L.db m.c q.ob (labTD L m.c.prog) (rowD q.K) m.x q.a (insOf p m.x) q.l q.ds m.w b S))
 ·rcases h with ⟨a1, a2, a3⟩ | ⟨a1, b, S2, a2, a3, a4⟩
  ·exact ⟨_, a3, .inl ⟨a1, a2, rfl⟩⟩
  exact ⟨S2, a4, .inr ⟨a1, b, a2, a3⟩⟩
 rcases h with ⟨h0, e1, e2⟩ | ⟨h0, b, e1, hJ⟩
 ·have hs := step_0 (RF := realF) h0
  refine ⟨DP L m q, ?_, m, q, ?_, fun m1 h => (by rw [hs] at h; cases h), fun _ => ⟨m.x.at_, rfl⟩, hq, rfl⟩
  ·rw [e2]; exact pS
  rw [hs]; exact e1
 have hs := stepSy (RF := realF) h0 hk
 unfold sysM at hs
 have hsr : sysR ⟨m.c, m.x, [], getM q.l, m.w⟩ (insOf p m.x) = sysR m (insOf p m.x) := by
  unfold sysR; rw [hq.mem]
 unfold SQD at hJ
 by_cases h60 : (insOf p m.x).imm = 60
 ·rw [if_pos h60] at hs hJ
  obtain ⟨rfl, e2⟩ := hJ
  refine ⟨DP L { m with c := { m.c with st := 1, code := codeOf (sysA m.x (insOf p m.x) 0) } } q, ?_, { m with c := { m.c with st := 1, code := codeOf (sysA m.x (insOf p m.x) 0) } }, q, ?_, fun m1 h => (by rw [hs] at h; cases h; rfl), fun h => (by rw [hs] at h; cases h), ⟨hq.bl, hq.ok, hq.mem, hq.w⟩, rfl⟩
  ·rw [e2]; exact pSy
  rw [hs]; exact e1
 rw [if_neg h60] at hs hJ
 rw [hsr] at hJ
 cases hc : sysR m (insOf p m.x) with
 | none =>
  rw [hc] at hJ hs
  obtain ⟨rfl, e2⟩ := hJ
  refine ⟨DP L m q, ?_, m, q, ?_, fun m1 h => (by rw [hs] at h; cases h), fun _ => ⟨m.x.at_, rfl⟩, hq, rfl⟩
  ·rw [e2]; exact pSy
  ·rw [hs]; exact e1
 | some r =>
  rw [hc] at hJ hs
  obtain ⟨rfl, l', ds', ob', e2, hl', hg', hw'⟩ := hJ
  refine ⟨DP L { m with x := goF (setD m.x (insOf p m.x).d (wI r.n)), mem := r.mem, w := r.w } { q with l := l', ds := ds', ob := ob' }, ?_, { m with x := goF (setD m.x (insOf p m.x).d (wI r.n)), mem := r.mem, w := r.w }, { q with l := l', ds := ds', ob := ob' }, ?_, fun m1 h => (by rw [hs] at h; cases h; rfl), fun h => (by rw [hs] at h; cases h), ⟨hq.bl, hl', hg', hw'⟩, rfl⟩
  ·rw [e2]; exact pSy
  ·rw [hs]; exact e1
theorem Dstep38 (hm : MOk p m) (hp : ProgOk p) (hpi : ProgIn p) (hbs : L.bs.length = p.funs.length) (hq : DRel m q) (hw : V.RP nb m.w) (hnb : nb ≤ 549755813888) (h19 : (insOf p m.x).kind ≠ 19) :
    ACalls Tryz.prog 38 [.v (.pointer (some ⟨L.s, 0, none⟩)), cpD q, .agg (insCells (insOf p m.x))] (DP L m q) (DStepR L m (insOf p m.x)) := by
 have hi := isF_in (hm.top.ins hp).is
 by_cases hJ : (insOf p m.x).kind = 20 ∨ (insOf p m.x).kind = 21
 ·exact DdoJ hm hp hpi hq hbs hJ
 by_cases hB : (insOf p m.x).kind = 26
 ·exact DdoB hm hp hpi hq hB
 by_cases hC : (insOf p m.x).kind = 22 ∨ (insOf p m.x).kind = 23 ∨ (insOf p m.x).kind = 24 ∨ (insOf p m.x).kind = 25
 ·exact DdoC hm hp hpi hq hC
 by_cases hSt : (insOf p m.x).kind = 18
 ·exact DdoSt hm hp hpi hq hSt
 by_cases hLd : (insOf p m.x).kind = 17
 ·exact DdoLd hm hp hpi hq hLd
 by_cases hSy : (insOf p m.x).kind = 30
 ·exact DdoSy hm hp hpi hq hw hnb hSy
 refine DdoV hm hp hpi hq ?_
 unfold valK
 omega
end

def DEnd (m' mR : Mc) : Prop := m' = mR ∨ (mR.c.st ≠ 0 ∧ ∃ at_, m' = { mR with x := { mR.x with at_ := at_ } })
theorem dend {RF : Int → Wd64 → Wd64 → Wd64} {m : Mc} {f : Int} {k : Nat} (h : ¬ ((k : Int) < f ∧ m.c.st = 0)) : runM RF (f.toNat - k) m = m := by
 cases hf : f.toNat - k with
 | zero => rfl
 | succ n =>
  rw [runM, if_pos]
  intro e
  exact h ⟨by omega, e⟩
theorem Run13 (L : DLay) (p : Prog) (hp : ProgOk p) (hpi : ProgIn p) (hbs : L.bs.length = p.funs.length) (m0 : Mc) (q0 : DQ) (f0 : Int) (hm0 : MOk p m0) (hq0 : DRel m0 q0) (hW : ∀ j : Nat, j ≤ f0.toNat → V.RP 549755813888 (runM realF j m0).w) (hs0 : 0 ≤ m0.c.steps ∧ m0.c.steps ≤ 4611686018427387904) (hf0 : f0 ≤ 4611686018427387903) :
    ACalls Tryz.prog 13 [pv L.s, zi f0] (DP L m0 q0) (fun t S => ∃ m' q', t = zi m'.c.st ∧ DEnd m' (runM realF f0.toNat m0) ∧ DRel m' q' ∧ S = DP L m' q') := by
 refine ai Tryz.func13 Tryz.ntmps13 fun X w0 => ?_
 refine rs (y1 ?_)
 refine nl (sq (rs (y1 ?_)))
 refine nl (bk ?_)
 refine lp3 (fun (m : Mc) (q : DQ) (k : Nat) => [(0, true, pv L.s), (1, true, zi f0), (5, true, zn k)]) (fun (m : Mc) (q : DQ) (k : Nat) => (([Ent.box L.s 64 (psD (psLD L m.c) q.ob (.v (.slice (sg q.g) (q.K.length + 1) q.c))), Ent.row (sg q.g) (q.K.length + 1) q.c 108 7 (rowD q.K ++ frD m.x q.a)] ++ frE m.x q.a) ++ (memD L q.l q.ds ++ (rowsF q.K ++ labF L m.c.prog)))) (fun (m : Mc) (q : DQ) (k : Nat) => MOk p m ∧ DRel m q ∧ runM realF (f0.toNat - k) m = runM realF f0.toNat m0 ∧ (∀ N : Nat, 0 < N → runM realF N m = runM realF (k + N) m0) ∧ m.w = (runM realF k m0).w ∧ (k = 0 ∨ (k : Int) ≤ f0) ∧ 0 ≤ m.c.steps ∧ m.c.steps ≤ 4611686018427387904 + (k : Int)) (fun (m : Mc) (q : DQ) (k : Nat) => (f0.toNat - k) * 1048578 + (1048577 - m.x.at_.toNat)) m0 q0 0 ?_ ?_
 ·exact ⟨hm0, hq0, rfl, fun N _ => by rw [Nat.zero_add], rfl, .inl rfl, hs0.1, by omega⟩
 intro m q k ⟨hm, hq, hrun, hfw, hww, hff, hs1, hs2⟩
 have hw : V.RP 549755813888 m.w := by rw [hww]; exact hW k (by omega)
 have hpr := hm.prog
 have hfl : m.x.f.toNat < m.c.prog.funs.length := by rw [hpr]; exact hm.top.f1
 have hcl : (m.c.prog.funs.getD m.x.f.toNat default).code = (fnOf p m.x).code := by rw [hpr]; rfl
 have hcn : (m.c.prog.funs.getD m.x.f.toNat default).code.length = (fnOf p m.x).code.length := by rw [hcl]
 have hat0 := hm.top.a0
 have hat1 := hm.top.a1
 have hcb : (fnOf p m.x).code.length ≤ 1048576 := (hpi.fn _ (getD_mem hm.top.f1)).code
 have hflp : m.x.f.toNat < (psLD L m.c).prog.funs.length := hfl
 have hatp : m.x.at_.toNat < ((psLD L m.c).prog.funs.getD m.x.f.toNat default).code.length := by
  show _ < (m.c.prog.funs.getD m.x.f.toNat default).code.length
  rw [hcn]; exact hat1
 have hIq : ((psLD L m.c).prog.funs.getD m.x.f.toNat default).code.getD m.x.at_.toNat default = insOf p m.x := by
  show (m.c.prog.funs.getD m.x.f.toNat default).code.getD m.x.at_.toNat default = _
  rw [hpr]; rfl
 have hrl := rowD_len q.K
 have hKl : q.K.length < 1048576 := by
  have := hm.dep
  rw [← hq.bl, List.length_map] at this
  exact this
 refine sq (rs (y10 (nl ?_)))
 refine cq (fun h0t => ?_) fun h0f => ?_
 ·have hgo : (k : Int) < f0 ∧ m.c.st = 0 := by
   have h : (k : Int) < f0 ∧ (psLD L m.c).st = 0 := by simpa using h0t
   exact h
  refine sp (bk (rq (q10 ?_)))
  refine Q1 (ix (j := q.K.length) (hj := fun hg => ⟨by omega, by omega⟩)) ?_
  refine q1 (nq ?_)
  rw [← rowD_len q.K]
  show AW _ _ _ _ (([Ent.box L.s 64 (psD (psLD L m.c) q.ob (.v (.slice (sg q.g) (q.K.length + 1) q.c))), Ent.row (sg q.g) (q.K.length + 1) q.c 108 7 (rowD q.K ++ frD m.x q.a)] ++ frE m.x q.a) ++ (memD L q.l q.ds ++ (rowsF q.K ++ labF L m.c.prog)))
  refine AW.mid (α := Nat) (fun b7 => [(0, true, pv L.s), (1, true, zi f0), (5, true, zn k), (6, true, .ep (.slice (sg q.g) (q.K.length + 1) q.c) (rowD q.K).length), (7, true, pv b7)]) (fun b7 => ([Ent.box L.s 64 (psD (psLD L m.c) q.ob (.v (.slice (sg q.g) (q.K.length + 1) q.c))), Ent.row (sg q.g) (q.K.length + 1) q.c 108 7 (rowD q.K ++ frD m.x q.a)] ++ frE m.x q.a) ++ (Ent.box b7 90 (insCells (insOf p m.x)) :: (memD L q.l q.ds ++ (rowsF q.K ++ labF L m.c.prog)))) (fun _ => True) ?_ ?_
  ·refine AW.regionH (HeldCs [(q.g, (rowD q.K).length + 0, Value.int .i64 m.x.f), (q.g, (rowD q.K).length + 1, Value.int .i64 m.x.at_)]) rfl (tells_cs tcA) ?_
   refine tq 0 ?_
   refine tq 1 ?_
   refine tq 2 ?_
   refine tq 3 ?_
   refine tq 5 ?_
   refine tq 6 ?_
   refine tq 7 ?_
   refine tq 8 ?_
   refine tq 12 ?_
   refine tq 13 ?_
   refine tq 14 ?_
   refine tq 15 ?_
   refine AWH.two (i := 4) (j := 18) (by kernel_rfl) rfl rfl ?_ ?_
   ·refine y1 ?_
    refine kh ?_
    refine T2 (i := 9) rfl (heldAll (freeIdxSl (j := m.x.f.toNat) rfl ss_22 (B rfl) (E rfl rfl) (E rfl rfl) ⟨(Int.toNat_of_nonneg hm.top.f0).symm, idxB len_funs hflp⟩)) ?_
    refine tq 10 ?_
    refine AWH.two (i := 11) (j := 18) (by kernel_rfl) rfl rfl ?_ ?_
    ·refine Y1 (Yv.loadRp rfl ag_84 eV (fun hg => fcode_at hflp)) ?_
     refine kh ?_
     refine T2 (i := 16) rfl (heldAll (freeIdxSl (j := m.x.at_.toNat) rfl ss_84 (B rfl) (E rfl rfl) (E rfl rfl) ⟨(Int.toNat_of_nonneg hat0).symm, idxB len_code hatp⟩)) ?_
     refine AWH.two (i := 17) (j := 18) (by kernel_rfl) rfl rfl ?_ ?_
     ·refine Y1 (Yv.loadRpA rfl ag_90 eV (fun hg => ins_cells hatp)) ?_
      refine kh ?_
      refine oh 18 ?_
      refine bx fun b7 => ?_
      refine AWL.perm (S' := ([Ent.box L.s 64 (psD (psLD L m.c) q.ob (.v (.slice (sg q.g) (q.K.length + 1) q.c))), Ent.row (sg q.g) (q.K.length + 1) q.c 108 7 (rowD q.K ++ frD m.x q.a)] ++ frE m.x q.a) ++ (Ent.box b7 90 (List.map T.v [.int .i64 0, .int .i64 0, .int .i64 0, .int .i64 0, .int .i64 0, .int .i64 0, .int .i64 0, .int .i64 0, .int .i64 0, .int .i64 0, .slice none 0 0]) :: (memD L q.l q.ds ++ (rowsF q.K ++ labF L m.c.prog)))) toTen0 ?_
      refine kh ?_
      refine oh 19 ?_
      refine y1 ?_
      refine kh ?_
      refine dn ?_
      exact ⟨b7, trivial, sbZ, by rw [← hIq]; rfl⟩
     refine bx fun b7 => ?_
     refine AWL.perm (S' := ([Ent.box L.s 64 (psD (psLD L m.c) q.ob (.v (.slice (sg q.g) (q.K.length + 1) q.c))), Ent.row (sg q.g) (q.K.length + 1) q.c 108 7 (rowD q.K ++ frD m.x q.a)] ++ frE m.x q.a) ++ (Ent.box b7 90 (List.map T.v [.int .i64 0, .int .i64 0, .int .i64 0, .int .i64 0, .int .i64 0, .int .i64 0, .int .i64 0, .int .i64 0, .int .i64 0, .int .i64 0, .slice none 0 0]) :: (memD L q.l q.ds ++ (rowsF q.K ++ labF L m.c.prog)))) toTen0 ?_
     refine kh ?_
     refine oh 17 ?_
     refine Y1 (Yv.loadRpA rfl ag_90 eV (fun hg => ins_cells hatp)) ?_
     refine kh ?_
     refine oh 19 ?_
     refine y1 ?_
     refine kh ?_
     refine dn ?_
     exact ⟨b7, trivial, sbZ, by rw [← hIq]; rfl⟩
    refine bx fun b7 => ?_
    refine AWL.perm (S' := ([Ent.box L.s 64 (psD (psLD L m.c) q.ob (.v (.slice (sg q.g) (q.K.length + 1) q.c))), Ent.row (sg q.g) (q.K.length + 1) q.c 108 7 (rowD q.K ++ frD m.x q.a)] ++ frE m.x q.a) ++ (Ent.box b7 90 (List.map T.v [.int .i64 0, .int .i64 0, .int .i64 0, .int .i64 0, .int .i64 0, .int .i64 0, .int .i64 0, .int .i64 0, .int .i64 0, .int .i64 0, .slice none 0 0]) :: (memD L q.l q.ds ++ (rowsF q.K ++ labF L m.c.prog)))) toTen0 ?_
    refine kh ?_
    refine oh 11 ?_
    refine Y1 (Yv.loadRp rfl ag_84 eV (fun hg => fcode_at hflp)) ?_
    refine kh ?_
    refine oh 16 ?_
    refine Y1 (Yv.indexSl (j := m.x.at_.toNat) rfl ss_84 (B rfl) eV eV (fun hg => ⟨(Int.toNat_of_nonneg hat0).symm, idxB len_code hatp⟩)) ?_
    refine kh ?_
    refine oh 17 ?_
    refine Y1 (Yv.loadRpA rfl ag_90 eV (fun hg => ins_cells hatp)) ?_
    refine kh ?_
    refine oh 19 ?_
    refine y1 ?_
    refine kh ?_
    refine dn ?_
    exact ⟨b7, trivial, sbZ, by rw [← hIq]; rfl⟩
   refine bx fun b7 => ?_
   refine AWL.perm (S' := ([Ent.box L.s 64 (psD (psLD L m.c) q.ob (.v (.slice (sg q.g) (q.K.length + 1) q.c))), Ent.row (sg q.g) (q.K.length + 1) q.c 108 7 (rowD q.K ++ frD m.x q.a)] ++ frE m.x q.a) ++ (Ent.box b7 90 (List.map T.v [.int .i64 0, .int .i64 0, .int .i64 0, .int .i64 0, .int .i64 0, .int .i64 0, .int .i64 0, .int .i64 0, .int .i64 0, .int .i64 0, .slice none 0 0]) :: (memD L q.l q.ds ++ (rowsF q.K ++ labF L m.c.prog)))) toTen0 ?_
   refine kh ?_
   refine oh 4 ?_
   refine y1 ?_
   refine kh ?_
   refine oh 9 ?_
   refine Y1 (Yv.indexSl (j := m.x.f.toNat) rfl ss_22 (B rfl) eV eV (fun hg => ⟨(Int.toNat_of_nonneg hm.top.f0).symm, idxB len_funs hflp⟩)) ?_
   refine kh ?_
   refine oh 10 ?_
   refine y1 ?_
   refine kh ?_
   refine oh 11 ?_
   refine Y1 (Yv.loadRp rfl ag_84 eV (fun hg => fcode_at hflp)) ?_
   refine kh ?_
   refine oh 16 ?_
   refine Y1 (Yv.indexSl (j := m.x.at_.toNat) rfl ss_84 (B rfl) eV eV (fun hg => ⟨(Int.toNat_of_nonneg hat0).symm, idxB len_code hatp⟩)) ?_
   refine kh ?_
   refine oh 17 ?_
   refine Y1 (Yv.loadRpA rfl ag_90 eV (fun hg => ins_cells hatp)) ?_
   refine kh ?_
   refine oh 19 ?_
   refine y1 ?_
   refine kh ?_
   refine dn ?_
   exact ⟨b7, trivial, sbZ, by rw [← hIq]; rfl⟩
  rintro b7 hmid
  refine sq (rs (y3 (nl ?_)))
  refine cq (fun h1t => ?_) fun h1f => ?_
  ·have hk19 : (insOf p m.x).kind = 19 := h1t
   refine rs (y8 (nl ?_))
   refine AW.dropAt 6 ?_
   refine xt ?_
   have hmore := hm.top.more hp (by rw [hk19]; rfl)
   refine ⟨{ m with x := goF m.x }, q, k, ⟨⟨hm.prog, hm.top.go hp (by rw [hk19]; rfl), hm.bl, hm.ch.top rfl, hm.dep⟩, ⟨hq.bl, hq.ok, hq.mem, hq.w⟩, ?_, fun N hN => by rw [runM_label hp hm hgo.2 hk19 hN]; exact hfw N hN, hww, hff, hs1, hs2⟩, ?_, sbZ, ?_⟩
   ·rw [← hrun, runM_label hp hm hgo.2 hk19 (by omega)]
   ·show (f0.toNat - k) * 1048578 + (1048577 - (m.x.at_ + 1).toNat) < _
    omega
   rw [show frE ({ m with x := goF m.x } : Mc).x q.a = frE m.x q.a from rfl, show (rowD q.K ++ frD ({ m with x := goF m.x } : Mc).x q.a) = (rowD q.K ++ frD m.x q.a).set ((rowD q.K).length + 1) (zi (m.x.at_ + 1)) from (fd_jump (pre := rowD q.K) (x := m.x) (a := q.a) _).symm]
   rfl
  have hk19 : ¬ (insOf p m.x).kind = 19 := h1f
  refine sp (rs (y3 ?_))
  refine AWL.perm (S' := (([Ent.box L.s 64 (psD (psLD L m.c) q.ob (.v (.slice (sg q.g) (q.K.length + 1) q.c))), Ent.row (sg q.g) (q.K.length + 1) q.c 108 7 (rowD q.K ++ frD m.x q.a)] ++ frE m.x q.a) ++ (memD L q.l q.ds ++ (rowsF q.K ++ labF L m.c.prog))) ++ [Ent.box b7 90 (insCells (insOf p m.x))]) toEnd ?_
  refine kc (Dstep38 (L := L) (q := q) (nb := 549755813888) hm hp hpi hbs hq hw (Nat.le_refl _) hk19) ?_
  rintro t61 S61 ⟨m2, q2, rfl, hm2, hst2, hq2, rfl⟩
  refine y1 ?_
  refine nl (sq (rs (y2 (nl ?_))))
  refine cq (fun h2t => ?_) fun h2f => ?_
  ·have hnone : stepM realF m (insOf p m.x) = none := by simpa using h2t
   obtain ⟨at9, rfl⟩ := hst2 hnone
   refine rs (y4 (nl ?_))
   refine AW.eqS (S' := DP L (stuckC { m with x := { m.x with at_ := at9 } }) q2 ++ [_]) rfl ?_
   refine AW.drop (List.sublist_append_left _ _) ?_
   refine xt (rs (y5 (nl ?_)))
   refine rt ?_
   refine ⟨_, q2, rfl, .inr ?_, ⟨hq2.bl, hq2.ok, hq2.mem, hq2.w⟩, rfl⟩
   rw [← hrun, show f0.toNat - k = (f0.toNat - k - 1) + 1 by omega, runM_stuck hp hm hgo.2 hk19 hnone]
   exact ⟨(by decide : (2 : Int) ≠ 0), at9, rfl⟩
  have hsome : stepM realF m (insOf p m.x) = some m2 := by
   cases hs : stepM realF m (insOf p m.x) with
   | none => rw [hs] at h2f; cases h2f
   | some y => rw [hm2 y hs]
  have hst3 : (psLD L m2.c).steps = m.c.steps := (step_ok hp hpi.funs hm hk19 hsome).2.steps
  refine sp (rs (y8 (nl ?_)))
  refine AW.eqS (S' := DP L (tickC m2) q2 ++ [_]) rfl ?_
  refine AW.drop (List.sublist_append_left _ _) ?_
  refine rg (y3 (nl ?_))
  obtain ⟨h1, h2⟩ := step_ok hp hpi.funs hm hk19 hsome
  refine ⟨tickC m2, q2, k + 1, ⟨h1.tick, ⟨hq2.bl, hq2.ok, hq2.mem, hq2.w⟩, ?_, fun N _ => by rw [← runM_step hp hm hgo.2 hk19 hsome, hfw (N + 1) (Nat.succ_pos N), show k + (N + 1) = k + 1 + N by omega], by rw [← hfw 1 (by decide), runM_step hp hm hgo.2 hk19 hsome]; rfl, by omega, by show 0 ≤ m2.c.steps + 1; rw [h2.steps]; omega, by show m2.c.steps + 1 ≤ _; rw [h2.steps]; omega⟩, ?_, sbZ, ?_⟩
  ·rw [← hrun, show f0.toNat - k = (f0.toNat - (k + 1)) + 1 by omega, runM_step hp hm hgo.2 hk19 hsome]
  ·omega
  rfl
 have hgo : ¬ ((k : Int) < f0 ∧ m.c.st = 0) := by
  have h : ¬ ((k : Int) < f0 ∧ (psLD L m.c).st = 0) := by simpa using h0f
  exact h
 refine xt (rs (y5 (nl ?_)))
 refine rt ?_
 refine ⟨m, q, rfl, .inl ?_, hq, rfl⟩
 rw [← hrun, dend hgo]


def pickF (c : Int) (n : Int) : Int := (if c < 0 then -(c + 1) else c) % n
theorem pick_in (c : Int) {n : Int} (h : 0 < n) : 0 ≤ pickF c n ∧ pickF c n < n := ⟨Int.emod_nonneg _ (by omega), Int.emod_lt_of_pos _ h⟩
theorem pick11 (c n : Int) (h0 : -9223372036854775808 ≤ c) (h1 : c ≤ 9223372036854775807) (h2 : 0 < n) :
    ACalls Tryz.prog 11 [zi c, zi n] [] (fun t S => t = zi (pickF c n)) := by
 refine ai Tryz.func11 Tryz.ntmps11 fun X w0 => ?_
 refine rs (y1 ?_)
 refine nl (sq (rs (y2 (nl ?_))))
 refine cq (fun h0t => ?_) fun h0f => ?_
 ·refine rg (y2 ?_)
  refine Y1 (Yv.neg rfl eV) ?_
  have e9 : IntKind.i64.wrap (0 - (c + 1)) = -(c + 1) := by rw [IntWalk.i64_in _ (by omega)]; omega
  rw [e9]
  refine y1 ?_
  refine nl (rs (y2 ?_))
  refine Y1 (Yv.remN rfl eV eV (fun hg => by omega)) ?_
  refine y1 (nl ?_)
  refine rt ?_
  unfold pickF; rw [if_pos h0t]; rfl
 refine sp (rs (y2 ?_))
 refine Y1 (Yv.remN rfl eV eV (fun hg => by omega)) ?_
 refine y1 (nl ?_)
 refine rt ?_
 unfold pickF; rw [if_neg h0f]; rfl

theorem Answer21 (s : Nat) (ps : PS) (cl : T) :
    ACalls Tryz.prog 21 [pv s] [.box s 83 (psC ps cl)] (fun t S => t = zw ps.ans ∧ S = [.box s 83 (psC ps cl)]) := by
 refine ai Tryz.func21 Tryz.ntmps21 fun X w0 => ?_
 refine rs (y1 ?_)
 refine nl (sq (rs (y2 (nl ?_))))
 refine cq (fun h0t => ?_) fun _ => ?_
 ·cases h0t
 refine sp (rs (y5 (nl ?_)))
 refine rt ?_
 exact ⟨rfl, rfl⟩

theorem New6A (p : Prog) (heap : Wd64) (strict : Bool) (hp : ProgIn p) (wt : Option Addr) (hc : checkW p ≠ 0) :
    ACalls Tryz.prog 6 [.agg (progCells p), zw heap, bv strict, .v (.pointer wt)] [] (fun t S => t = .tup [.v (.pointer none), zi (checkW p)]) := by
 refine ai Tryz.func6 Tryz.ntmps6 fun X w0 => ?_
 refine rs ?_
 refine bx fun b4 => ?_
 refine y2 ?_
 refine nl (sq (rs (y1 ?_)))
 refine kp (Check6 p hp) ?_
 refine y1 ?_
 refine nl (rs (y2 (nl ?_)))
 refine cq (fun _ => ?_) fun h0f => ?_
 ·refine rs (y3 (nl ?_))
  refine rt ?_
  rfl
 exfalso; exact hc (by simpa using h0f)

theorem New6B (p : Prog) (heap : Wd64) (strict : Bool) (hp : ProgIn p) (a : Addr) (hc : checkW p = 0) (hh : heap < 65536#64 ∨ 1099511627776#64 < heap) :
    ACalls Tryz.prog 6 [.agg (progCells p), zw heap, bv strict, .v (.pointer (some a))] [] (fun t S => t = .tup [.v (.pointer none), zi (1)]) := by
 refine ai Tryz.func6 Tryz.ntmps6 fun X w0 => ?_
 refine rs ?_
 refine bx fun b4 => ?_
 refine y2 ?_
 refine nl (sq (rs (y1 ?_)))
 refine kp (Check6 p hp) ?_
 refine y1 ?_
 refine nl (rs (y2 (nl ?_)))
 refine cq (fun h0t => ?_) fun _ => ?_
 ·exact absurd hc (by simpa using h0t)
 refine sp (sq (rs (y1 ?_)))
 refine Y1 (Yv.lssW (b := 65536#64) rfl eV eV) ?_
 refine y2 ?_
 refine gF (Yv.gtrW (b := 1099511627776#64) rfl (Eg rfl rfl id) eV) ?_
 refine y5 (nl ?_)
 refine cq (fun _ => ?_) fun h1f => ?_
 ·refine rs (y2 (nl ?_))
  refine rt ?_
  rfl
 exfalso; rcases hh with hh | hh <;> simp [hh] at h1f

theorem New6C (p : Prog) (heap : Wd64) (strict : Bool) (hp : ProgIn p) (hc : checkW p = 0) :
    ACalls Tryz.prog 6 [.agg (progCells p), zw heap, bv strict, .v (.pointer none)] [] (fun t S => t = .tup [.v (.pointer none), zi (1)]) := by
 refine ai Tryz.func6 Tryz.ntmps6 fun X w0 => ?_
 refine rs ?_
 refine bx fun b4 => ?_
 refine y2 ?_
 refine nl (sq (rs (y1 ?_)))
 refine kp (Check6 p hp) ?_
 refine y1 ?_
 refine nl (rs (y2 (nl ?_)))
 refine cq (fun h0t => ?_) fun _ => ?_
 ·exact absurd hc (by simpa using h0t)
 refine sp (sq (rs (y1 ?_)))
 refine Y1 (Yv.lssW (b := 65536#64) rfl eV eV) ?_
 refine y2 ?_
 refine gF (Yv.gtrW (b := 1099511627776#64) rfl (Eg rfl rfl id) eV) ?_
 refine y5 (nl ?_)
 refine cq (fun _ => ?_) fun h1f => ?_
 ·refine rs (y2 (nl ?_))
  refine rt ?_
  rfl
 exfalso; simp at h1f

theorem Run13e (L : DLay) (m : Mc) (q : DQ) (f0 : Int) (hst : m.c.st ≠ 0) :
    ACalls Tryz.prog 13 [pv L.s, zi f0] (DP L m q) (fun t S => t = zi m.c.st ∧ S = DP L m q) := by
 refine ai Tryz.func13 Tryz.ntmps13 fun X w0 => ?_
 refine rs (y1 ?_)
 refine nl (sq (rs (y1 ?_)))
 refine nl (bk ?_)
 refine lp1 (fun (u : Unit) => [(0, true, pv L.s), (1, true, zi f0), (5, true, zi 0)]) (fun (u : Unit) => (([Ent.box L.s 64 (psD (psLD L m.c) q.ob (.v (.slice (sg q.g) (q.K.length + 1) q.c))), Ent.row (sg q.g) (q.K.length + 1) q.c 108 7 (rowD q.K ++ frD m.x q.a)] ++ frE m.x q.a) ++ (memD L q.l q.ds ++ (rowsF q.K ++ labF L m.c.prog)))) (fun (u : Unit) => True) (fun (u : Unit) => 0) (()) ?_ ?_
 ·trivial
 intro u hinv
 refine sq (rs (y10 (nl ?_)))
 refine cq (fun h0t => ?_) fun _ => ?_
 ·exfalso
  have hgo : 0 < f0 ∧ (psLD L m.c).st = 0 := by simpa using h0t
  exact hst hgo.2
 refine xt (rs (y5 (nl ?_)))
 refine rt ?_
 exact ⟨rfl, rfl⟩

def newE (p : Prog) (heap : Wd64) : Int := if checkW p = 0 ∧ (heap < 65536#64 ∨ 1099511627776#64 < heap) then 1 else checkW p
def newE0 (p : Prog) : Int := if checkW p = 0 then 1 else checkW p
theorem New6E (p : Prog) (heap : Wd64) (strict : Bool) (wb : Nat) (hp : ProgIn p) : ACalls Tryz.prog 6 [.agg (progCells p), zw heap, bv strict, pv wb] [] (fun t S => ∃ a, t = .tup [.v (.pointer a), zi (newE p heap)]) := by
 unfold newE
 by_cases hc : checkW p = 0
 ·by_cases hh : heap < 65536#64 ∨ 1099511627776#64 < heap
  ·rw [if_pos ⟨hc, hh⟩]
   exact (New6B p heap strict hp _ hc hh).mono fun t S h => ⟨_, h⟩
  rw [if_neg (fun q => hh q.2), hc]
  exact (New13 p heap strict wb hp (check_good ((check_eq p).symm.trans hc)) hc (fun q => hh (.inl q)) (fun q => hh (.inr q))).mono fun t S ⟨b41, b39, gl, c, bs, g, c2, a, l, h, _⟩ => ⟨_, h⟩
 rw [if_neg (fun q => hc q.1)]
 exact (New6A p heap strict hp _ hc).mono fun t S h => ⟨_, h⟩
theorem New6N (p : Prog) (heap : Wd64) (strict : Bool) (hp : ProgIn p) : ACalls Tryz.prog 6 [.agg (progCells p), zw heap, bv strict, .v (.pointer none)] [] (fun t S => t = .tup [.v (.pointer none), zi (newE0 p)]) := by
 unfold newE0
 by_cases hc : checkW p = 0
 ·rw [if_pos hc]; exact New6C p heap strict hp hc
 rw [if_neg hc]; exact New6A p heap strict hp none hc
theorem Check7W (p : Prog) (hp : ProgIn p) : ACalls Tryz.prog 7 [.agg (progCells p)] [] (fun t S => t = zi (checkW p)) := (Check7 p hp).mono fun t S h => by rw [h, check_eq]
end Go.Proofs.YtlfklgganokgdaaGreat

namespace Go.Proofs.YtlfklgganokgdaaGreat.V
open Go Go.RowKit
def evVals (e : Evt) : List Value := [.int .i64 e.kind, .string ⟨e.name.toArray⟩, .string ⟨e.text.toArray⟩]
theorem ba_eq (a b : List UInt8) : ((⟨a.toArray⟩ : ByteArray) = ⟨b.toArray⟩) = (a = b) := by
 apply propext
 constructor
 ·intro h
  have := congrArg (fun x : ByteArray => x.data.toList) h
  simpa using this
 rintro rfl
 rfl
theorem ev_eq (a b : Evt) : eqCells (evVals a) (evVals b) [(0, .i), (1, .s), (2, .s)] = some (decide (a = b)) := by
 cases a; cases b
 simp [eqCells, evVals, eqCell, Evt.mk.injEq, Bool.decide_and, Bool.and_assoc, ba_eq]
theorem take_gd {α : Type} [Inhabited α] {l : List α} {j : Nat} (h : j < l.length) : l.take (j + 1) = l.take j ++ [l.getD j default] := by
 rw [List.take_succ_eq_append_getElem h, getD_eq' h]
theorem same_st {α : Type} [Inhabited α] {a b : List α} {j : Nat} (hl : a.length = b.length) (hj : j < a.length) (h : a.take j = b.take j) (he : a.getD j default = b.getD j default) : a.take (j + 1) = b.take (j + 1) := by
 rw [take_gd hj, take_gd (by omega), h, he]
theorem ev_cells {l : List Evt} {j : Nat} (h : j < l.length) : ((l.flatMap evCells).drop (j * 3)).take 3 = evCells (l.getD j default) := by
 rw [drop_flat ek, List.drop_eq_getElem_cons h, List.flatMap_cons, getD_eq' h]
 rw [List.take_append_of_le_length (by rw [ek]; exact Nat.le_refl _)]
 exact List.take_of_length_le (by rw [ek]; exact Nat.le_refl _)

theorem Same49M (l m : List Evt) (A : Option Addr) (c : Nat) (hl : l.length ≤ 1099511627776) (hm : m.length ≤ 1099511627776) :
    ACalls Tryz.prog 39 [.sl 3 (l.flatMap evCells), .v (.slice A m.length c)] [.row A m.length c 149 3 (m.flatMap evCells)] (fun t S => t = .v (.bool (decide (l = m))) ∧ S = [.row A m.length c 149 3 (m.flatMap evCells)]) := by
 refine ai Tryz.func39 Tryz.ntmps39 fun X w0 => ?_
 refine rs (y1 ?_)
 refine nl (sq (rs (y5 (nl ?_))))
 refine cq (fun h0t => ?_) fun h0f => ?_
 ·
  replace h0t := sm h0t
  refine rs (y1 (nl ?_))
  refine rt ?_
  exact ⟨by rw [decide_eq_false (fun q => h0t (by rw [q]))]; rfl, rfl⟩
 replace h0f := sm h0f
 refine sp (sq (rs (y1 ?_)))
 refine nl (bk ?_)
 refine lp1 (fun (j : Nat) => [(0, true, .sl 3 (l.flatMap evCells)), (1, true, .v (.slice A m.length c)), (5, true, zv j)]) (fun (j : Nat) => [.row A m.length c 149 3 (m.flatMap evCells)]) (fun (j : Nat) => l.length = m.length ∧ j ≤ l.length ∧ l.take j = m.take j) (fun (j : Nat) => l.length - j) 0 ?_ ?_
 ·exact ⟨by omega, Nat.zero_le _, rfl⟩
 ·
  intro j hinv
  obtain ⟨hlm, hj, htk⟩ := hinv
  refine sq (rs (y4 (nl ?_)))
  refine cq (fun _ => ?_) fun _ => ?_
  ·
   refine sp (sq (bk (rq (q3 ?_))))
   refine Q1 (Yv.loadRpA (l' := evCells (l.getD j default)) rfl ag_149 eV (fun hg => ⟨ev_cells (by omega), rfl⟩)) ?_
   refine q3 ?_
   refine Q1 (Yv.loadEpA (l' := evCells (m.getD j default)) rfl ag_149 (i := 0) rfl eV (fun hg => ⟨ev_cells (by omega), rfl⟩)) ?_
   refine Q1 (Yv.neqA (us := evVals (l.getD j default)) (vs := evVals (m.getD j default)) rfl fl_149 eV eV rfl rfl (ev_eq (l.getD j default) (m.getD j default))) ?_
   refine nq ?_
   refine cq (fun h2t => ?_) fun h2f => ?_
   ·
    have hne : ¬ (l.getD j default) = (m.getD j default) := by simpa using h2t
    refine rs (y1 (nl ?_))
    refine rt ?_
    exact ⟨by rw [decide_eq_false (fun q => hne (by rw [q]))]; rfl, rfl⟩
   ·have heq : (l.getD j default) = (m.getD j default) := by simpa using h2f
    refine sp (rg (y3 (nl ?_)))
    refine ⟨j + 1, ⟨hlm, by omega, same_st hlm (by omega) htk heq⟩, by omega, sbZ, rfl⟩
  ·refine xt (rs (y1 (nl ?_)))
   refine rt ?_
   have e : l = m := by
    have h := htk
    rw [List.take_of_length_le (by omega), List.take_of_length_le (by omega)] at h
    exact h
   exact ⟨by rw [decide_eq_true e]; rfl, rfl⟩

theorem nw_mem_aux (l : Fl) : ∀ (acc : Fl), (∀ x ∈ acc, fitsB x.1 = true) → ∀ x ∈ l.foldl stepN acc, (x ∈ acc ∨ x ∈ l) ∧ fitsB x.1 = true := by
 induction l with
 | nil => intro acc ha x hx; exact ⟨.inl hx, ha x hx⟩
 | cons y r ih =>
  intro acc ha x hx
  rw [List.foldl_cons] at hx
  have hst : ∀ z ∈ stepN acc y, (z ∈ acc ∨ z = y) ∧ fitsB z.1 = true := fun z hz => by
   unfold stepN at hz
   split at hz
   ·rename_i hc
    rw [Bool.and_eq_true] at hc
    rcases List.mem_append.1 hz with hz | hz
    ·exact ⟨.inl hz, ha z hz⟩
    ·rw [List.mem_singleton.1 hz]
     exact ⟨.inr rfl, hc.2⟩
   ·exact ⟨.inl hz, ha z hz⟩
  obtain ⟨h1, h2⟩ := ih _ (fun z hz => (hst z hz).2) x hx
  refine ⟨?_, h2⟩
  rcases h1 with h1 | h1
  ·rcases (hst x h1).1 with h | h
   ·exact .inl h
   ·exact .inr (h ▸ List.mem_cons_self ..)
  ·exact .inr (List.mem_cons_of_mem _ h1)
theorem nw_mem {l : Fl} {x : Nm × List UInt8} (h : x ∈ nF l) : x ∈ l ∧ fitsB x.1 = true := by
 obtain ⟨h1, h2⟩ := nw_mem_aux l [] (fun _ h => by cases h) x h
 exact ⟨h1.resolve_left (fun h => by cases h), h2⟩
theorem nw_short {s : Nm} (h : fitsB s = true) : s.length ≤ 255 := by
 rw [fits_eq, Bool.and_eq_true, Bool.and_eq_true, decide_eq_true_eq] at h
 have := of_decide_eq_true h.1.2
 omega
def newW (stdin : List UInt8) (files : Fl) : PW := ⟨nF files, stdin, opn0, []⟩
theorem abs_new {stdin : List UInt8} {files : Fl} {fl : List FileR} (hfl : fl.map nb = nF files) : absW ⟨fl, stdin, opn0, [], none, 0⟩ = newW stdin files := by
 unfold absW newW
 rw [hfl]
theorem rp_new {B : Nat} {stdin : List UInt8} {files : Fl} (hs : stdin.length ≤ B) (hl : files.length ≤ B) (hd : ∀ x ∈ files, x.2.length ≤ B) : RP B (newW stdin files) := by
 have hnl : (nF files).length ≤ files.length := by
  have := nF_len files files.length (Nat.le_refl _)
  rwa [List.take_length] at this
 refine ⟨⟨rfl, Nat.zero_le _, fun x hx => (by cases hx), fun f hf => hd f (nw_mem hf).1, fun d hd => ?_, hs, by show (nF files).length ≤ B; omega⟩, ⟨rfl, fun d hd q => ?_⟩, ?_, fun f hf => nw_short (nw_mem hf).2⟩
 ·rw [(show ∀ d ∈ opn0, d.place = 0 by decide) d hd]
  exact Nat.zero_le _
 ·have := (show ∀ d ∈ opn0, d.kind ≠ 4 ∧ d.kind ≠ 5 by decide) d hd
  rcases q with q | q
  ·exact absurd q this.1
  exact absurd q this.2
 exact nF_uniq files [] (by simp)
end Go.Proofs.YtlfklgganokgdaaGreat.V

namespace Go.Proofs.YtlfklgganokgdaaGreat
open Go Go.RowKit
/-! ### what a state holds, counted -/
section
variable {b : Nat} {L : Lay} {m : Mc} {q : Qp} {D : DLay} {m' : Mc} {q' : DQ}
def pairB (b : Nat) (L : Lay) (D : DLay) : Ent := Ent.box b 47 [.v (.pointer (some ⟨L.s, 0, none⟩)), .v (.pointer (some ⟨L.wb, 0, none⟩)), .v (.pointer (some ⟨D.s, 0, none⟩))]
def dBox (D : DLay) (m : Mc) (q : DQ) : Ent := Ent.box D.s 64 (psD (psLD D m.c) q.ob (.v (.slice (some ⟨q.g, 0, none⟩) (q.K.length + 1) q.c)))
def dRow (m : Mc) (q : DQ) : Ent := Ent.row (some ⟨q.g, 0, none⟩) (q.K.length + 1) q.c 108 7 (rowD q.K ++ frD m.x q.a)
def dRest (D : DLay) (m : Mc) (q : DQ) : St := (dRow m q :: frE m.x q.a) ++ (memE 153 D.pg q.l ++ (rowsF q.K ++ labF D m.c.prog))
def AS (b : Nat) (L : Lay) (m : Mc) (q : Qp) (D : DLay) (m' : Mc) (q' : DQ) : St := pairB b L D :: dBox D m' q' :: (V.DSt D.db q'.ds ++ (SP L m q ++ dRest D m' q'))
theorem dp_eq : DP D m' q' = (dBox D m' q' :: dRow m' q' :: frE m'.x q'.a) ++ ((memE 153 D.pg q'.l ++ V.DSt D.db q'.ds) ++ (rowsF q'.K ++ labF D m'.c.prog)) := rfl
theorem as_perm : (AS b L m q D m' q').Perm (pairB b L D :: (SP L m q ++ DP D m' q')) := pk fun e => by
 unfold AS dRest
 rw [dp_eq]
 simp only [cn_app, cn_cons]
 omega
theorem as_sp : (AS b L m q D m' q').Perm (SP L m q ++ (pairB b L D :: dBox D m' q' :: (V.DSt D.db q'.ds ++ dRest D m' q'))) := pk fun e => by
 unfold AS
 simp only [cn_app, cn_cons]
 omega
theorem as_ld : (AS b L m q D m' q').Perm ((dBox D m' q' :: memE 153 D.pg q'.l) ++ (pairB b L D :: (V.DSt D.db q'.ds ++ (SP L m q ++ ((dRow m' q' :: frE m'.x q'.a) ++ (rowsF q'.K ++ labF D m'.c.prog)))))) := pk fun e => by
 unfold AS dRest
 simp only [cn_app, cn_cons]
 omega
def trRow (ds : V.DS) : Ent := .row ds.tA ds.trace.length ds.tc 149 3 (ds.trace.flatMap V.evCells)
theorem dst_eq (ds : V.DS) (n : Nat) : ∃ E1 E2 E3 : Ent, V.DSt n ds = E1 :: E2 :: E3 :: trRow ds :: ds.files.map V.fileRow := ⟨_, _, _, rfl⟩
theorem as_tr : ∃ F, (AS b L m q D m' q').Perm ([trRow q'.ds] ++ F) := by
 obtain ⟨E1, E2, E3, h⟩ := dst_eq q'.ds D.db
 refine ⟨pairB b L D :: dBox D m' q' :: E1 :: E2 :: E3 :: (q'.ds.files.map V.fileRow ++ (SP L m q ++ dRest D m' q')), pk fun e => ?_⟩
 unfold AS
 rw [h]
 simp only [cn_app, cn_cons, cn_nil]
 omega
theorem sp_box (L : Lay) (m : Mc) (q : Qp) : ∃ F, SP L m q = [Ent.box L.s 83 (psC (psL' L m.c) (.v (.slice (some ⟨q.g, 0, none⟩) (q.K.length + 1) q.c)))] ++ F := ⟨_, rfl⟩
theorem sp_w (L : Lay) (m : Mc) (q : Qp) : ∃ F, (SP L m q).Perm (V.WSt L.wb L.wm q.ws ++ F) := ⟨p6 L m.c m.x q.g q.c q.a q.K ++ (memE 129 L.pg q.l ++ (rowsE q.K ++ labE L m.c.prog)), pk fun e => by
 unfold SP memW
 simp only [cn_app]
 omega⟩
theorem sp_ld (L : Lay) (m : Mc) (q : Qp) : ∃ F, (SP L m q).Perm ((Ent.box L.s 83 (psC (psL' L m.c) (.v (.slice (some ⟨q.g, 0, none⟩) (q.K.length + 1) q.c))) :: memE 129 L.pg q.l) ++ F) := ⟨Ent.row (some ⟨q.g, 0, none⟩) (q.K.length + 1) q.c 104 7 (rowC q.K ++ frC m.x q.a) :: (frR m.x q.a ++ (V.WSt L.wb L.wm q.ws ++ (rowsE q.K ++ labE L m.c.prog))), pk fun e => by
 unfold SP memW p6
 simp only [cn_app, cn_cons, cn_nil]
 omega⟩
theorem ACalls.asIn {f : FuncId} {ts : List T} {r : T} (h : ACalls Tryz.prog f ts (SP L m q) (fun t S => t = r ∧ S = SP L m q)) : ACalls Tryz.prog f ts (AS b L m q D m' q') (fun t S => t = r ∧ S = AS b L m q D m' q') := h.keepIn _ as_sp
theorem ans_as : ACalls Tryz.prog 21 [.v (.pointer (some ⟨L.s, 0, none⟩))] (AS b L m q D m' q') (fun t S => t = zw m.c.ans ∧ S = AS b L m q D m' q') := by
 obtain ⟨F, hF⟩ := sp_box L m q
 exact ACalls.asIn ((Answer21 L.s (psL' L m.c) _).keepIn F (by rw [hF]))
theorem code_as : ACalls Tryz.prog 22 [.v (.pointer (some ⟨L.s, 0, none⟩))] (AS b L m q D m' q') (fun t S => t = zi m.c.code ∧ S = AS b L m q D m' q') := by
 obtain ⟨F, hF⟩ := sp_box L m q
 exact ACalls.asIn ((Code17 L.s (psL' L m.c) _).keepIn F (by rw [hF]))
theorem steps_as : ACalls Tryz.prog 23 [.v (.pointer (some ⟨L.s, 0, none⟩))] (AS b L m q D m' q') (fun t S => t = zi m.c.steps ∧ S = AS b L m q D m' q') := by
 obtain ⟨F, hF⟩ := sp_box L m q
 exact ACalls.asIn ((Steps16 L.s (psL' L m.c) _).keepIn F (by rw [hF]))
theorem trace_as (n : Nat) (hq : Rel m q) (hw : V.RP n m.w) (hn : n ≤ 549755813888) : ACalls Tryz.prog 40 [.v (.pointer (some ⟨L.wb, 0, none⟩))] (AS b L m q D m' q') (fun t S => t = .sl 3 (m.w.trace.flatMap V.evCells) ∧ S = AS b L m q D m' q') := by
 obtain ⟨F, hF⟩ := sp_w L m q
 have h := V.Trace14 L.wb L.wm q.ws n (by rw [← hq.w] at hw; exact hw.wb) (by omega)
 have e : q.ws.trace = m.w.trace := by rw [← hq.w]; rfl
 rw [e] at h
 exact ACalls.asIn (h.keepIn F hF)
theorem same_as (l : List V.Evt) (hl : l.length ≤ 1099511627776) (hm : q'.ds.trace.length ≤ 1099511627776) : ACalls Tryz.prog 39 [.sl 3 (l.flatMap V.evCells), .v (.slice q'.ds.tA q'.ds.trace.length q'.ds.tc)] (AS b L m q D m' q') (fun t S => t = .v (.bool (decide (l = q'.ds.trace))) ∧ S = AS b L m q D m' q') := by
 obtain ⟨F, hF⟩ := as_tr (b := b) (L := L) (m := m) (q := q) (D := D) (m' := m') (q' := q')
 exact ACalls.keepIn F (V.Same49M l q'.ds.trace q'.ds.tA q'.ds.tc hl hm) hF
/-! ### memory looked at -/
def okM (m : Mc) (a : Wd64) : Bool := sizeOk 8 && thereF (psData m.c.prog) m.c.heap a (wI 8)
def ldM (m : Mc) (a : Wd64) : Wd64 := if okM m a = true then leF m.mem a (8 : Int).toNat else 0#64
theorem load_as {p : Prog} (hp : ProgOk p) (hpi : ProgIn p) (hpr : m.c.prog = p) (hq : Rel m q) (a : Wd64) : ACalls Tryz.prog 19 [.v (.pointer (some ⟨L.s, 0, none⟩)), zw a, zi 8] (AS b L m q D m' q') (fun t S => t = .tup [zw (ldM m a), bv (okM m a)] ∧ S = AS b L m q D m' q') := by
 obtain ⟨F, hF⟩ := sp_ld L m q
 have h := Load54 L.s L.pg (psL' L m.c) (.v (.slice (some ⟨q.g, 0, none⟩) (q.K.length + 1) q.c)) q.l rfl hq.ok (by show m.c.prog.data.length ≤ _; rw [hpr]; exact hpi.data) (by show 0 ≤ m.c.prog.zero; rw [hpr]; exact hp.zero.1) (by show m.c.prog.zero ≤ _; rw [hpr]; exact hp.zero.2) a 8
 rw [hq.mem] at h
 exact ACalls.asIn (ACalls.keepIn F h hF)
theorem dload_as {p : Prog} (hp : ProgOk p) (hpi : ProgIn p) (hpr : m'.c.prog = p) (hq : DRel m' q') (a : Wd64) : ACalls Tryz.prog 20 [.v (.pointer (some ⟨D.s, 0, none⟩)), zw a, zi 8] (AS b L m q D m' q') (fun t S => t = .tup [zw (ldM m' a), bv (okM m' a)] ∧ S = AS b L m q D m' q') := by
 have h := DLoad20 D.s D.pg (psLD D m'.c) q'.ob (.v (.slice (some ⟨q'.g, 0, none⟩) (q'.K.length + 1) q'.c)) q'.l rfl hq.ok (by show m'.c.prog.data.length ≤ _; rw [hpr]; exact hpi.data) (by show 0 ≤ m'.c.prog.zero; rw [hpr]; exact hp.zero.1) (by show m'.c.prog.zero ≤ _; rw [hpr]; exact hp.zero.2) a 8
 rw [hq.mem] at h
 exact ACalls.keepIn _ h as_ld
theorem dend_c {m mR : Mc} (h : DEnd m mR) : m.c = mR.c := by rcases h with rfl | ⟨_, at_, rfl⟩ <;> rfl
theorem dend_w {m mR : Mc} (h : DEnd m mR) : m.w = mR.w := by rcases h with rfl | ⟨_, at_, rfl⟩ <;> rfl
theorem dend_ok {m mR : Mc} (h : DEnd m mR) (a : Wd64) : okM m a = okM mR a := by rcases h with rfl | ⟨_, at_, rfl⟩ <;> rfl
theorem dend_ld {m mR : Mc} (h : DEnd m mR) (a : Wd64) : ldM m a = ldM mR a := by rcases h with rfl | ⟨_, at_, rfl⟩ <;> rfl
/-! ### the places that are looked at -/
def triW (k : Nat) : List Wd64 := [268435456#64 + 8#64 * wI (k : Int), 1073741824#64 + 8#64 * wI (k : Int), 1073807360#64 - 8#64 * wI (k : Int)]
def allW (l : List Wd64) (k : Nat) : List Wd64 := l ++ (List.range k).flatMap triW
theorem allW_len (l : List Wd64) : ∀ k, (allW l k).length = l.length + 3 * k
 | 0 => by simp [allW]
 | k + 1 => by
  have h := allW_len l k
  unfold allW at h ⊢
  rw [List.length_append] at h ⊢
  rw [List.range_succ, List.flatMap_append, List.length_append]
  show l.length + (((List.range k).flatMap triW).length + 3) = _
  omega
theorem allW_succ (l : List Wd64) (k : Nat) : allW l (k + 1) = allW l k ++ triW k := by
 unfold allW
 rw [List.range_succ, List.flatMap_append, List.append_assoc]
 simp
theorem lt64 {j : Nat} (h : j ≤ 64) : wI (j : Int) < 64#64 ↔ j < 64 := by
 rw [BitVec.lt_def, wI_small (by omega)]
 rfl
theorem freeRem {cx : Cx} {env : Env} {S : St} {o : Oper} {x y : Operand} {ty yt : TypeId} {p q : Int} (ho : o.op = .binOp .rem ty x y yt) (hx : Ev env true x (.v (.int .i64 p))) (hy : Ev env true y (.v (.int .i64 q))) (hq : q ≠ 0) : ∀ a w, Sim cx env S a w → ∃ u, VRep w (cx.X ++ M S) (.v (.int .i64 (p.tmod q))) u ∧ ∀ w', (execOp a.eval o).run cx.P w' = .ok (.value u) w' :=
 fun a w hs => ⟨_, .v _, fun w' => by rw [exec_binOp_int ho (hx.val hs rfl) (hy.val hs rfl)]; simp [binOp, Op.intDiv, Sem.run_pure, hq]⟩
def rem7 (z : Int) : Int := z.tmod 7
theorem rem7_in (z : Int) : -6 ≤ rem7 z ∧ rem7 z ≤ 6 := by
 have h1 := Int.tmod_lt_of_pos z (b := 7) (by decide)
 have h2 := Int.lt_tmod_of_pos z (b := 7) (by decide)
 unfold rem7
 omega
end

theorem alike14 (b : Nat) (L : Lay) (p : Prog) (hp : ProgOk p) (hpi : ProgIn p) (m : Mc) (q : Qp) (D : DLay) (m2 : Mc) (q2 : DQ) (hpr : m.c.prog = p) (hq : Rel m q) (he : DEnd m2 m) (hq2 : DRel m2 q2) (n : Nat) (hw : V.RP n m.w) (hn : n ≤ 549755813888) (l : List Wd64) (hl : l.length ≤ 1048576) :
    ACalls Tryz.prog 14 [pv b, .sl 1 (l.map zw)] (AS b L m q D m2 q2) (fun t S => t = bv true ∧ S = (AS b L m q D m2 q2)) := by
 refine lsr (R := (fun t S => t = bv true ∧ (AS b L m q D m2 q2).Sublist S)) (fun t S' ⟨h1, h2⟩ => ⟨_, h2, h1, rfl⟩) ?_
 have hc := dend_c he
 have htr : m.w.trace = q2.ds.trace := by
  have h := hq2.w.trace
  rw [dend_w he] at h
  exact h.symm
 have htl : m.w.trace.length ≤ 1099511627776 := by have := hw.pb.tr; omega
 have htl2 : q2.ds.trace.length ≤ 1099511627776 := by rw [← htr]; exact htl
 have hpr2 : m2.c.prog = p := by rw [hc]; exact hpr
 refine ai Tryz.func14 Tryz.ntmps14 fun X w0 => ?_
 refine rs (y1 ?_)
 refine nl (sq ?_)
 refine AW.rseqH (HeldCs [(b, 0, Value.pointer (sg L.s)), (b, 1, Value.pointer (sg L.wb)), (b, 2, Value.pointer (sg D.s)), (D.s, 11, Value.int .u64 (m2.c.ans.toNat : Int)), (D.s, 12, Value.int .i64 m2.c.code), (D.s, 13, Value.int .i64 m2.c.steps), (D.s, 6, Value.pointer (sg D.db)), (D.db, 3, Value.slice q2.ds.tA q2.ds.trace.length q2.ds.tc)]) rfl (tells_cs tcA) ?_
 refine tq 0 ?_
 refine tq 1 ?_
 refine tq 2 ?_
 refine tq 3 ?_
 refine tq 5 ?_
 refine tq 6 ?_
 refine tq 7 ?_
 refine tq 8 ?_
 refine tq 9 ?_
 refine tq 10 ?_
 refine tq 11 ?_
 refine oh 4 ?_
 refine ka (ans_as) ?_
 rintro t16 S16 ⟨rfl, rfl⟩
 refine kh ?_
 refine oh 12 ?_
 refine Y1 (Yv.neqW rfl eV eV) ?_
 refine kh ?_
 refine oh 13 ?_
 refine y1 ?_
 refine kh ?_
 refine tg 14 ?_ (hb := by simp [hc])
 refine tg 15 ?_ (hb := by simp [hc])
 refine tg 16 ?_ (hb := by simp [hc])
 refine tg 17 ?_ (hb := by simp [hc])
 refine tg 19 ?_ (hb := by simp [hc])
 refine tg 20 ?_ (hb := by simp [hc])
 refine tg 21 ?_ (hb := by simp [hc])
 refine tg 22 ?_ (hb := by simp [hc])
 refine tg 23 ?_ (hb := by simp [hc])
 refine tg 24 ?_ (hb := by simp [hc])
 refine tg 25 ?_ (hb := by simp [hc])
 refine oh 18 ?_
 refine AWL.unguard rfl rfl rfl (by simp [hc]) ?_
 refine ka (code_as) ?_
 rintro t30 S30 ⟨rfl, rfl⟩
 refine kh ?_
 refine oh 26 ?_
 refine AWL.unguard rfl rfl rfl (by simp [hc]) ?_
 refine y1 ?_
 refine kh ?_
 refine oh 27 ?_
 refine y1 ?_
 refine kh ?_
 refine oh 28 ?_
 refine y1 ?_
 refine kh ?_
 refine tg 29 ?_ (hb := by simp [hc])
 refine tg 30 ?_ (hb := by simp [hc])
 refine tg 31 ?_ (hb := by simp [hc])
 refine tg 32 ?_ (hb := by simp [hc])
 refine tg 34 ?_ (hb := by simp [hc])
 refine tg 35 ?_ (hb := by simp [hc])
 refine tg 36 ?_ (hb := by simp [hc])
 refine tg 37 ?_ (hb := by simp [hc])
 refine tg 38 ?_ (hb := by simp [hc])
 refine tg 39 ?_ (hb := by simp [hc])
 refine tg 40 ?_ (hb := by simp [hc])
 refine oh 33 ?_
 refine AWL.unguard rfl rfl rfl (by simp [hc]) ?_
 refine ka (steps_as) ?_
 rintro t45 S45 ⟨rfl, rfl⟩
 refine kh ?_
 refine oh 41 ?_
 refine AWL.unguard rfl rfl rfl (by simp [hc]) ?_
 refine y1 ?_
 refine kh ?_
 refine oh 42 ?_
 refine y1 ?_
 refine kh ?_
 refine oh 43 ?_
 refine y1 ?_
 refine kh ?_
 refine tg 44 ?_ (hb := by simp [hc])
 refine tg 45 ?_ (hb := by simp [hc])
 refine tg 46 ?_ (hb := by simp [hc])
 refine tg 47 ?_ (hb := by simp [hc])
 refine tg 49 ?_ (hb := by simp [hc])
 refine tg 50 ?_ (hb := by simp [hc])
 refine tg 51 ?_ (hb := by simp [hc])
 refine tg 52 ?_ (hb := by simp [hc])
 refine tg 53 ?_ (hb := by simp [hc])
 refine tg 54 ?_ (hb := by simp [hc])
 refine tg 55 ?_ (hb := by simp [hc])
 refine tg 56 ?_ (hb := by simp [hc])
 refine tg 57 ?_ (hb := by simp [hc])
 refine tg 58 ?_ (hb := by simp [hc])
 refine oh 48 ?_
 refine AWL.unguard rfl rfl rfl (by simp [hc]) ?_
 refine ka (trace_as n hq hw hn) ?_
 rintro t60 S60 ⟨rfl, rfl⟩
 refine kh ?_
 refine oh 59 ?_
 refine AWL.unguard rfl rfl rfl (by simp [hc]) ?_
 refine ka (same_as m.w.trace htl htl2) ?_
 rintro t71 S71 ⟨rfl, rfl⟩
 refine kh ?_
 refine oh 60 ?_
 refine AWL.unguard rfl rfl rfl (by simp [hc]) ?_
 refine y1 ?_
 refine kh ?_
 refine oh 61 ?_
 refine y1 ?_
 refine kh ?_
 refine dn ?_
 refine cq (fun h0t => ?_) fun _ => ?_
 ·exfalso; simp [hc, htr] at h0t
 refine sp (rs (y1 (nl ?_)))
 refine AW.rowNil 29 1 ?_
 refine AW.perm (List.perm_append_singleton _ _).symm ?_
 refine rs (y2 ?_)
 refine AWL.appendRow (i := 0) rfl rfl (B rfl) rfl el_30 (B rfl) rfl (E rfl rfl) (SrcT.sl (m := l.length) so_30 (B rfl) (E rfl rfl) (by rw [List.length_map, Nat.mul_one])) (by unfold maxLen; omega) (by omega) (fun A1 c1 => ?_)
 refine y1 ?_
 refine nl (sq (rs (y1 ?_)))
 refine nl (bk ?_)
 refine AW.loop3 (fun (k : Nat) (A : Option Addr) (c : Nat) => [(0, true, pv b), (5, true, .v (.slice A (l.length + 3 * k) c)), (6, true, zw (wI (k : Int)))]) (fun (k : Nat) (A : Option Addr) (c : Nat) => ([Ent.row A (l.length + 3 * k) c 29 1 ((allW l k).map zw)] ++ (AS b L m q D m2 q2))) (fun (k : Nat) (A : Option Addr) (c : Nat) => k ≤ 64) (fun (k : Nat) (A : Option Addr) (c : Nat) => 64 - k) 0 A1 c1 ?_ ?_ ?_ ?_
 ·exact Nat.zero_le _
 ·exact (su (Sub.cons rfl (by rw [Nat.zero_add]; rfl) sbZ))
 ·first | (rw [Nat.zero_add]; simp [allW]; done) | (simp [allW]; done)
 intro k A c hinv
 refine sq (rs (y1 ?_))
 refine Y1 (Yv.lssW (b := 64#64) rfl eV eV) (nl ?_)
 refine cq (fun h1t => ?_) fun h1f => ?_
 ·have hk := (lt64 hinv).1 h1t
  refine sp (sq (bk (rg (y2 ?_))))
  refine Y1 (Yv.mulW (a := 8#64) rfl eV eV) ?_
  refine Y1 (Yv.addW (a := 268435456#64) rfl eV eV) ?_
  refine y1 ?_
  refine Y1 (Yv.mulW (a := 8#64) rfl eV eV) ?_
  refine Y1 (Yv.addW (a := 1073741824#64) rfl eV eV) ?_
  refine y1 ?_
  refine Y1 (Yv.mulW (a := 8#64) rfl eV eV) ?_
  refine Y1 (Yv.subW (a := 1073807360#64) rfl eV eV) ?_
  refine AWL.buildSlice1 rfl rfl (B rfl) rfl el_30 rfl (evsC (E rfl rfl) (evsC (E rfl rfl) (evsC (E rfl rfl) evs0))) nB rfl rfl ?_
  refine AWL.appendRow (i := 0) rfl rfl (B rfl) rfl el_30 (B rfl) rfl (E rfl rfl) (SrcT.sl (m := 3) so_30 (B rfl) (E rfl rfl) rfl) (by unfold maxLen; omega) (by omega) (fun A2 c2 => ?_)
  refine y1 ?_
  refine nl (rg (y1 ?_))
  refine Y1 (Yv.addW (b := 1#64) rfl eV eV) ?_
  refine y1 (nl ?_)
  refine ⟨k + 1, A2, c2, by omega, by omega, (su (su (Sub.cons rfl (by rw [wI_succ]) Sub.nil))), ?_⟩
  rw [allW_succ, List.map_append]
  rfl
 obtain rfl : k = 64 := by
  rcases Nat.lt_or_ge k 64 with z | z
  ·exact absurd ((lt64 hinv).2 z) h1f
  ·omega
 refine xt (sq (rs (y1 ?_)))
 refine nl (bk ?_)
 refine lp1 (fun (j : Nat) => [(0, true, pv b), (5, true, .v (.slice A (l.length + 192) c)), (7, true, zv j)]) (fun (j : Nat) => ([Ent.row A (l.length + 192) c 29 1 ((allW l 64).map zw)] ++ (AS b L m q D m2 q2))) (fun (j : Nat) => j ≤ l.length + 192) (fun (j : Nat) => l.length + 192 - j) 0 ?_ ?_
 ·exact Nat.zero_le _
 intro j hinv
 refine sq (rs (y4 (nl ?_)))
 refine cq (fun _ => ?_) fun _ => ?_
 ·have hjl : j < l.length + 192 := by omega
  refine sp (sq (bk ?_))
  refine AW.rseqH (HeldCs [(b, 0, Value.pointer (sg L.s)), (b, 2, Value.pointer (sg D.s))]) rfl (tells_cs tcA) ?_
  refine tq 0 ?_
  refine tq 1 ?_
  refine tq 2 ?_
  refine tq 3 ?_
  refine tq 4 ?_
  refine oh 5 ?_
  refine y1 ?_
  refine kh ?_
  refine oh 6 ?_
  refine y1 ?_
  refine kh ?_
  refine oh 7 ?_
  refine Y1 (lw (hr := fun hg => word_at (by rw [allW_len]; omega))) ?_
  refine kh ?_
  refine oh 8 ?_
  refine cE ce_19 [Ent.row A (l.length + 192) c 29 1 ((allW l 64).map zw)] _ rfl rfl rfl (load_as hp hpi hpr hq ((allW l 64).getD j 0#64)) ?_
  rintro t108 S108 ⟨rfl, rfl⟩
  refine kh ?_
  refine oh 9 ?_
  refine y1 ?_
  refine kh ?_
  refine tq 10 ?_
  refine tq 11 ?_
  refine oh 12 ?_
  refine y1 ?_
  refine kh ?_
  refine oh 13 ?_
  refine y1 ?_
  refine kh ?_
  refine dn ?_
  refine AW.rseqH (HeldCs [(b, 0, Value.pointer (sg L.s)), (b, 2, Value.pointer (sg D.s))]) rfl (tells_cs tcA) ?_
  refine tq 0 ?_
  refine tq 1 ?_
  refine tq 2 ?_
  refine tq 3 ?_
  refine tq 4 ?_
  refine oh 5 ?_
  refine y1 ?_
  refine kh ?_
  refine oh 6 ?_
  refine y1 ?_
  refine kh ?_
  refine oh 7 ?_
  refine Y1 (lw (hr := fun hg => word_at (by rw [allW_len]; omega))) ?_
  refine kh ?_
  refine oh 8 ?_
  refine cE ce_20 [Ent.row A (l.length + 192) c 29 1 ((allW l 64).map zw)] _ rfl rfl rfl (dload_as hp hpi hpr2 hq2 ((allW l 64).getD j 0#64)) ?_
  rintro t120 S120 ⟨rfl, rfl⟩
  refine kh ?_
  refine oh 9 ?_
  refine y1 ?_
  refine kh ?_
  refine tq 10 ?_
  refine tq 11 ?_
  refine oh 12 ?_
  refine y1 ?_
  refine kh ?_
  refine oh 13 ?_
  refine y1 ?_
  refine kh ?_
  refine dn ?_
  refine rs (y2 ?_)
  refine Y1 (Yv.neqW rfl eV eV) ?_
  refine y3 ?_
  refine gF (Yv.neqB rfl bo_4 (Eg rfl rfl id) (Eg rfl rfl id)) ?_
  refine y1 (nl ?_)
  refine cq (fun h3t => ?_) fun _ => ?_
  ·exfalso; simp [dend_ld he, dend_ok he] at h3t
  refine sp (rg (y3 (nl ?_)))
  refine ⟨j + 1, by omega, by omega, sbZ, rfl⟩
 refine xt (rs (y1 (nl ?_)))
 refine rt ?_
 exact ⟨rfl, List.sublist_append_right _ _⟩


theorem toSPz (c : Pc) (g cc : Nat) (a : FA) (l : List Pg) {L : Lay} {x : Fr} {ws : V.WS} {mem : Mf} {w : V.PW} : (SPn L c x g cc a l ++ V.WSt L.wb L.wm ws).Perm (SP L ⟨c, x, [], mem, w⟩ ⟨g, cc, a, [], l, ws⟩) := by
 unfold SPn SP memW
 show ((p6 L c x g cc a [] ++ (memE 129 L.pg l ++ labE L c.prog)) ++ V.WSt L.wb L.wm ws).Perm (p6 L c x g cc a [] ++ ((memE 129 L.pg l ++ V.WSt L.wb L.wm ws) ++ labE L c.prog))
 exact pk fun e => by simp only [cn_app]; omega
theorem toDPz (c : Pc) (g cc : Nat) (a : FA) (l : List Pg) (ob : Bool) {D : DLay} {x : Fr} {ds : V.DS} {mem : Mf} {w : V.PW} : (([Ent.row (sg D.gl) c.prog.funs.length D.lc 87 1 (D.bs.map mapT)] ++ (([Ent.box D.s 64 (psD (psLD D c) ob (.v (.slice (sg g) 1 cc))), Ent.row (sg g) 1 cc 108 7 (([] : List T) ++ frD x a)] ++ frE x a) ++ (memE 153 D.pg l ++ mapsE D.bs c.prog.funs))) ++ V.DSt D.db ds).Perm (DP D ⟨c, x, [], mem, w⟩ ⟨g, cc, a, [], l, ds, ob⟩) := by
 unfold DP p7 memD labF
 show ((_ ++ (([Ent.box D.s 64 (psD (psLD D c) ob (.v (.slice (sg g) 1 cc))), Ent.row (sg g) 1 cc 108 7 (([] : List T) ++ frD x a)] ++ frE x a) ++ _)) ++ _).Perm (([Ent.box D.s 64 (psD (psLD D c) ob (.v (.slice (sg g) 1 cc))), Ent.row (sg g) 1 cc 108 7 (([] : List T) ++ frD x a)] ++ frE x a) ++ ((memE 153 D.pg l ++ V.DSt D.db ds) ++ ([] ++ Ent.row (sg D.gl) c.prog.funs.length D.lc 87 1 (D.bs.map mapT) :: mapsE D.bs c.prog.funs)))
 exact pk fun e => by simp only [cn_app, cn_cons, cn_nil]; omega
theorem pB10 {B X N P : St} (h : (N ++ X).Perm P) : (B ++ P).Perm (N ++ (B ++ X)) := (h.symm.append_left B).trans (List.perm_append_comm_assoc _ _ _)
theorem pN10 {b : Nat} {L : Lay} {m : Mc} {q : Qp} {D : DLay} {m' : Mc} {q' : DQ} {B N X : St} (h : (N ++ X).Perm (DP D m' q')) : (AS b L m q D m' q' ++ B).Perm ((((B ++ SP L m q) ++ X) ++ N) ++ [pairB b L D]) := by
 refine (as_perm.append_right B).trans ?_
 refine ((((h.symm).append_left (SP L m q)).cons (pairB b L D)).append_right B).trans ?_
 exact pk fun e => by simp only [cn_app, cn_cons, cn_nil]; omega
theorem begun10 (p : Prog) (hp : ProgIn p) (hok : ProgOk p) (hck : checkW p = 0) (st : Bool) (xs : List UInt8) (xf : V.Fl) (hxs : xs.length ≤ 1048576) (hxl : xf.length ≤ 1048576) (hxn : ∀ x ∈ xf, x.1.length ≤ 1048576) (hxd : ∀ x ∈ xf, x.2.length ≤ 1048576) :
    ACalls Tryz.prog 10 [.agg (progCells p), bv st, V.worldT xs xf] [] (fun t S => ∃ b L q D q2, t = .v (.pointer (sg b)) ∧ Rel (newM p 65536#64 st (V.newW xs xf)) q ∧ DRel (newM p 65536#64 st (V.newW xs xf)) q2 ∧ L.bs.length = p.funs.length ∧ D.bs.length = p.funs.length ∧ S = AS b L (newM p 65536#64 st (V.newW xs xf)) q D (newM p 65536#64 st (V.newW xs xf)) q2) := by
 refine ai Tryz.func10 Tryz.ntmps10 fun X w0 => ?_
 refine rs ?_
 refine bx fun b3 => ?_
 refine bx fun b5 => ?_
 refine y1 ?_
 refine nl (rs (y1 ?_))
 refine kc (V.New9 xs xf (by omega) (by omega) (fun x hx => by have := hxd x hx; omega)) ?_
 rintro t11 S11 ⟨b1, m1, fl1, rfl, rfl, hf1⟩
 refine y1 (nl ?_)
 refine AW.perm (S' := [Ent.box b3 25 (progCells p), Ent.box b5 28 [sv xs, .sl 2 (xf.flatMap V.fCells)]] ++ V.WSt b1 m1 ⟨fl1, xs, V.opn0, [], none, 0⟩) List.perm_append_comm ?_
 refine rs (y3 ?_)
 refine kc (New13 p 65536#64 st b1 hp hok hck (by decide) (by decide)) ?_
 rintro t16 S16 ⟨s1, pg1, gl1, lc1, bs1, g1, c1, a1, l1, rfl, hbs1, hpg1, hgm1, rfl⟩
 refine y5 (nl ?_)
 refine AW.perm (S' := [Ent.box b3 25 (progCells p), Ent.box b5 28 [sv xs, .sl 2 (xf.flatMap V.fCells)]] ++ (SP (Lay.mk s1 gl1 lc1 pg1 b1 m1 bs1) (newM p 65536#64 st (V.newW xs xf)) (Qp.mk g1 c1 a1 [] l1 ⟨fl1, xs, V.opn0, [], none, 0⟩))) (pB10 (toSPz _ _ _ _ _ (L := (Lay.mk s1 gl1 lc1 pg1 b1 m1 bs1)) (ws := ⟨fl1, xs, V.opn0, [], none, 0⟩))) ?_
 have hq1 : Rel (newM p 65536#64 st (V.newW xs xf)) (Qp.mk g1 c1 a1 [] l1 ⟨fl1, xs, V.opn0, [], none, 0⟩) := ⟨rfl, hpg1, hgm1, V.abs_new hf1⟩
 refine sq (rs (y6 (nl ?_)))
 refine cq (fun h0t => ?_) fun _ => ?_
 ·exfalso; simp at h0t
 refine sp ?_
 refine AW.mid (α := Nat × Lay × Qp × DLay × DQ) (fun y => [(6, true, .v (.pointer (some ⟨y.1, 0, none⟩)))]) (fun y => AS y.1 y.2.1 (newM p 65536#64 st (V.newW xs xf)) y.2.2.1 y.2.2.2.1 (newM p 65536#64 st (V.newW xs xf)) y.2.2.2.2 ++ [Ent.box b3 25 (progCells p), Ent.box b5 28 [sv xs, .sl 2 (xf.flatMap V.fCells)]]) (fun y => Rel (newM p 65536#64 st (V.newW xs xf)) y.2.2.1 ∧ DRel (newM p 65536#64 st (V.newW xs xf)) y.2.2.2.2 ∧ y.2.1.bs.length = p.funs.length ∧ y.2.2.2.1.bs.length = p.funs.length) ?_ ?_
 ·refine AW.regionP rfl ?_
  refine tp 0 ?_
  refine tp 1 ?_
  refine tp 3 ?_
  refine wp2 2 4 ?_ ?_
  ·refine y1 (nl ?_)
   refine op 4 ?_
   refine y1 (nl ?_)
   refine op 5 ?_
   refine AWL.callE rfl rfl (B rfl) rfl ce_36 (E rfl rfl) (evsC (E rfl rfl) evs0) (F1 := ([Ent.box b3 25 (progCells p), Ent.box b5 28 [sv xs, .sl 2 (xf.flatMap V.fCells)]] ++ (SP (Lay.mk s1 gl1 lc1 pg1 b1 m1 bs1) (newM p 65536#64 st (V.newW xs xf)) (Qp.mk g1 c1 a1 [] l1 ⟨fl1, xs, V.opn0, [], none, 0⟩)))) (S1 := []) (List.append_nil _).symm (V.DNew21 xs xf (by omega) (fun x hx => by have := hxn x hx; omega) (fun x hx => by have := hxd x hx; omega)) ?_
   rintro t30 S30 ⟨db, ds, rfl, rfl, hds, hdo, hdt, hdn⟩
   refine nl ?_
   refine op 6 ?_
   refine AWL.callE rfl rfl (B rfl) rfl ce_35 (E rfl rfl) (evsC (E rfl rfl) (evsC (E rfl rfl) (evsC (E rfl rfl) (evsC (E rfl rfl) evs0)))) (F1 := (([Ent.box b3 25 (progCells p), Ent.box b5 28 [sv xs, .sl 2 (xf.flatMap V.fCells)]] ++ (SP (Lay.mk s1 gl1 lc1 pg1 b1 m1 bs1) (newM p 65536#64 st (V.newW xs xf)) (Qp.mk g1 c1 a1 [] l1 ⟨fl1, xs, V.opn0, [], none, 0⟩))) ++ V.DSt db ds)) (S1 := []) (List.append_nil _).symm (DNew35 p 65536#64 st db hp hok) ?_
   rintro t31 S31 ⟨b20, b18, gl, cc, bs, g, c2, a, l, rfl, hbs, hlo, hlm, rfl⟩
   refine nl ?_
   refine op 7 ?_
   refine y1 (nl ?_)
   refine op 8 ?_
   refine bx fun b33 => ?_
   refine AWL.perm (S' := AS b33 (Lay.mk s1 gl1 lc1 pg1 b1 m1 bs1) (newM p 65536#64 st (V.newW xs xf)) (Qp.mk g1 c1 a1 [] l1 ⟨fl1, xs, V.opn0, [], none, 0⟩) (DLay.mk b20 gl cc b18 db bs) (newM p 65536#64 st (V.newW xs xf)) (DQ.mk g c2 a [] l ds false) ++ [Ent.box b3 25 (progCells p), Ent.box b5 28 [sv xs, .sl 2 (xf.flatMap V.fCells)]]) (pN10 (toDPz (newC p 65536#64 st) g c2 a l false (D := (DLay.mk b20 gl cc b18 db bs)) (x := newX p) (ds := ds) (mem := initM p) (w := V.newW xs xf))) (nl ?_)
   refine op 9 ?_
   refine y1 (nl ?_)
   refine dn ?_
   exact ⟨(b33, (Lay.mk s1 gl1 lc1 pg1 b1 m1 bs1), (Qp.mk g1 c1 a1 [] l1 ⟨fl1, xs, V.opn0, [], none, 0⟩), (DLay.mk b20 gl cc b18 db bs), (DQ.mk g c2 a [] l ds false)), ⟨hq1, ⟨rfl, hlo, hlm, ⟨hds, hdo, hdt, hdn.perm, hdn.srt⟩⟩, hbs1, hbs⟩, sbZ, rfl⟩
  refine y1 (nl ?_)
  refine wp2 2 5 ?_ ?_
  ·refine y1 (nl ?_)
   refine op 5 ?_
   refine AWL.callE rfl rfl (B rfl) rfl ce_36 (E rfl rfl) (evsC (E rfl rfl) evs0) (F1 := ([Ent.box b3 25 (progCells p), Ent.box b5 28 [sv xs, .sl 2 (xf.flatMap V.fCells)]] ++ (SP (Lay.mk s1 gl1 lc1 pg1 b1 m1 bs1) (newM p 65536#64 st (V.newW xs xf)) (Qp.mk g1 c1 a1 [] l1 ⟨fl1, xs, V.opn0, [], none, 0⟩)))) (S1 := []) (List.append_nil _).symm (V.DNew21 xs xf (by omega) (fun x hx => by have := hxn x hx; omega) (fun x hx => by have := hxd x hx; omega)) ?_
   rintro t30 S30 ⟨db, ds, rfl, rfl, hds, hdo, hdt, hdn⟩
   refine nl ?_
   refine op 6 ?_
   refine AWL.callE rfl rfl (B rfl) rfl ce_35 (E rfl rfl) (evsC (E rfl rfl) (evsC (E rfl rfl) (evsC (E rfl rfl) (evsC (E rfl rfl) evs0)))) (F1 := (([Ent.box b3 25 (progCells p), Ent.box b5 28 [sv xs, .sl 2 (xf.flatMap V.fCells)]] ++ (SP (Lay.mk s1 gl1 lc1 pg1 b1 m1 bs1) (newM p 65536#64 st (V.newW xs xf)) (Qp.mk g1 c1 a1 [] l1 ⟨fl1, xs, V.opn0, [], none, 0⟩))) ++ V.DSt db ds)) (S1 := []) (List.append_nil _).symm (DNew35 p 65536#64 st db hp hok) ?_
   rintro t31 S31 ⟨b20, b18, gl, cc, bs, g, c2, a, l, rfl, hbs, hlo, hlm, rfl⟩
   refine nl ?_
   refine op 7 ?_
   refine y1 (nl ?_)
   refine op 8 ?_
   refine bx fun b33 => ?_
   refine AWL.perm (S' := AS b33 (Lay.mk s1 gl1 lc1 pg1 b1 m1 bs1) (newM p 65536#64 st (V.newW xs xf)) (Qp.mk g1 c1 a1 [] l1 ⟨fl1, xs, V.opn0, [], none, 0⟩) (DLay.mk b20 gl cc b18 db bs) (newM p 65536#64 st (V.newW xs xf)) (DQ.mk g c2 a [] l ds false) ++ [Ent.box b3 25 (progCells p), Ent.box b5 28 [sv xs, .sl 2 (xf.flatMap V.fCells)]]) (pN10 (toDPz (newC p 65536#64 st) g c2 a l false (D := (DLay.mk b20 gl cc b18 db bs)) (x := newX p) (ds := ds) (mem := initM p) (w := V.newW xs xf))) (nl ?_)
   refine op 9 ?_
   refine y1 (nl ?_)
   refine dn ?_
   exact ⟨(b33, (Lay.mk s1 gl1 lc1 pg1 b1 m1 bs1), (Qp.mk g1 c1 a1 [] l1 ⟨fl1, xs, V.opn0, [], none, 0⟩), (DLay.mk b20 gl cc b18 db bs), (DQ.mk g c2 a [] l ds false)), ⟨hq1, ⟨rfl, hlo, hlm, ⟨hds, hdo, hdt, hdn.perm, hdn.srt⟩⟩, hbs1, hbs⟩, sbZ, rfl⟩
  refine AWL.callE rfl rfl (B rfl) rfl ce_36 (E rfl rfl) (evsC (E rfl rfl) evs0) (F1 := ([Ent.box b3 25 (progCells p), Ent.box b5 28 [sv xs, .sl 2 (xf.flatMap V.fCells)]] ++ (SP (Lay.mk s1 gl1 lc1 pg1 b1 m1 bs1) (newM p 65536#64 st (V.newW xs xf)) (Qp.mk g1 c1 a1 [] l1 ⟨fl1, xs, V.opn0, [], none, 0⟩)))) (S1 := []) (List.append_nil _).symm (V.DNew21 xs xf (by omega) (fun x hx => by have := hxn x hx; omega) (fun x hx => by have := hxd x hx; omega)) ?_
  rintro t30 S30 ⟨db, ds, rfl, rfl, hds, hdo, hdt, hdn⟩
  refine nl ?_
  refine op 2 ?_
  refine y1 (nl ?_)
  refine op 6 ?_
  refine AWL.callE rfl rfl (B rfl) rfl ce_35 (E rfl rfl) (evsC (E rfl rfl) (evsC (E rfl rfl) (evsC (E rfl rfl) (evsC (E rfl rfl) evs0)))) (F1 := (([Ent.box b3 25 (progCells p), Ent.box b5 28 [sv xs, .sl 2 (xf.flatMap V.fCells)]] ++ (SP (Lay.mk s1 gl1 lc1 pg1 b1 m1 bs1) (newM p 65536#64 st (V.newW xs xf)) (Qp.mk g1 c1 a1 [] l1 ⟨fl1, xs, V.opn0, [], none, 0⟩))) ++ V.DSt db ds)) (S1 := []) (List.append_nil _).symm (DNew35 p 65536#64 st db hp hok) ?_
  rintro t31 S31 ⟨b20, b18, gl, cc, bs, g, c2, a, l, rfl, hbs, hlo, hlm, rfl⟩
  refine nl ?_
  refine op 7 ?_
  refine y1 (nl ?_)
  refine op 8 ?_
  refine bx fun b33 => ?_
  refine AWL.perm (S' := AS b33 (Lay.mk s1 gl1 lc1 pg1 b1 m1 bs1) (newM p 65536#64 st (V.newW xs xf)) (Qp.mk g1 c1 a1 [] l1 ⟨fl1, xs, V.opn0, [], none, 0⟩) (DLay.mk b20 gl cc b18 db bs) (newM p 65536#64 st (V.newW xs xf)) (DQ.mk g c2 a [] l ds false) ++ [Ent.box b3 25 (progCells p), Ent.box b5 28 [sv xs, .sl 2 (xf.flatMap V.fCells)]]) (pN10 (toDPz (newC p 65536#64 st) g c2 a l false (D := (DLay.mk b20 gl cc b18 db bs)) (x := newX p) (ds := ds) (mem := initM p) (w := V.newW xs xf))) (nl ?_)
  refine op 9 ?_
  refine y1 (nl ?_)
  refine dn ?_
  exact ⟨(b33, (Lay.mk s1 gl1 lc1 pg1 b1 m1 bs1), (Qp.mk g1 c1 a1 [] l1 ⟨fl1, xs, V.opn0, [], none, 0⟩), (DLay.mk b20 gl cc b18 db bs), (DQ.mk g c2 a [] l ds false)), ⟨hq1, ⟨rfl, hlo, hlm, ⟨hds, hdo, hdt, hdn.perm, hdn.srt⟩⟩, hbs1, hbs⟩, sbZ, rfl⟩
 rintro ⟨b, L, q, D, q2⟩ ⟨h1, h2, h3, h4⟩
 refine AW.drop (List.sublist_append_left _ _) ?_
 refine rt ?_
 exact ⟨b, L, q, D, q2, rfl, h1, h2, h3, h4, rfl⟩


theorem apn {A B : St} : (A ++ B).Perm (A ++ (B ++ [])) := by rw [List.append_nil]
theorem wt_le : Le (.agg [.v (.string ⟨#[]⟩), .v (.slice none 0 0)]) (V.worldT [] []) := Le.agg (.cons .refl (.cons (nil_le 2) .refl))
theorem knOk : ProgOk little := check_good ((check_eq little).symm.trans little_check)
def knM : Mc := newM little 65536#64 true (V.newW [] [])
theorem knMOk : MOk little knM := newM_ok knOk _ _ _
theorem knW : V.RP 1048576 knM.w := V.rp_new (Nat.zero_le _) (Nat.zero_le _) (fun x hx => by cases hx)
theorem kn_st1 : (runM realF (3 : Int).toNat knM).c.st = 0 := by kernel_rfl
theorem kn_st2 : (runM realF (9 : Int).toNat (runM realF (3 : Int).toNat knM)).c.st = 1 := by kernel_rfl
theorem kn_code2 : (runM realF (9 : Int).toNat (runM realF (3 : Int).toNat knM)).c.code = 254 := by kernel_rfl
theorem kn_steps2 : (runM realF (9 : Int).toNat (runM realF (3 : Int).toNat knM)).c.steps = 4 := by kernel_rfl
theorem kn1 : MOk little (runM realF (3 : Int).toNat knM) ∧ (runM realF (3 : Int).toNat knM).c.heap.toNat ≤ 268435456 ∧ V.RP (1048576 + 268435458 * 3) (runM realF (3 : Int).toNat knM).w ∧ (0 ≤ (runM realF (3 : Int).toNat knM).c.steps ∧ (runM realF (3 : Int).toNat knM).c.steps ≤ 4611686018427387904) := by
 have h := run_ok (RF := realF) knOk little_in.funs 3 knMOk
 have hh : knM.c.heap.toNat ≤ 268435456 := by decide
 have h0 : knM.c.steps = 0 := rfl
 refine ⟨h.1, ?_, run_w knOk little_in.data little_in.funs 3 knMOk hh knW, ?_⟩
 ·show (runM realF 3 knM).c.heap.toNat ≤ _
  rw [h.2.2.2.1]; exact hh
 show 0 ≤ (runM realF 3 knM).c.steps ∧ _
 have h1 := h.2.1
 have h2 := h.2.2.1
 rw [h0] at h1 h2
 exact ⟨h1, by show (runM realF 3 knM).c.steps ≤ _; omega⟩
theorem code_sp (L : Lay) (m : Mc) (q : Qp) : ACalls Tryz.prog 22 [pv L.s] (SP L m q) (fun t S => t = zi m.c.code ∧ S = SP L m q) := by
 obtain ⟨F, hF⟩ := sp_box L m q
 exact (Code17 L.s (psL' L m.c) _).keepIn F (by rw [hF])
theorem steps_sp (L : Lay) (m : Mc) (q : Qp) : ACalls Tryz.prog 23 [pv L.s] (SP L m q) (fun t S => t = zi m.c.steps ∧ S = SP L m q) := by
 obtain ⟨F, hF⟩ := sp_box L m q
 exact (Steps16 L.s (psL' L m.c) _).keepIn F (by rw [hF])
theorem kn_code (L : Lay) (q : Qp) : ACalls Tryz.prog 22 [pv L.s] (SP L (runM realF (9 : Int).toNat (runM realF (3 : Int).toNat knM)) q) (fun t S => t = zi 254 ∧ S = SP L (runM realF (9 : Int).toNat (runM realF (3 : Int).toNat knM)) q) := (code_sp L _ q).mono fun t S h => ⟨h.1.trans (congrArg zi kn_code2), h.2⟩
theorem kn_steps (L : Lay) (q : Qp) : ACalls Tryz.prog 23 [pv L.s] (SP L (runM realF (9 : Int).toNat (runM realF (3 : Int).toNat knM)) q) (fun t S => t = zi 4 ∧ S = SP L (runM realF (9 : Int).toNat (runM realF (3 : Int).toNat knM)) q) := (steps_sp L _ q).mono fun t S h => ⟨h.1.trans (congrArg zi kn_steps2), h.2⟩
theorem known8  :
    ACalls Tryz.prog 8 [] [] (fun t S => t = bv true) := by
 refine ai Tryz.func8 Tryz.ntmps8 fun X w0 => ?_
 refine rs (y1 ?_)
 refine nl (rs ?_)
 refine kt (little26) ?_
 rintro t6 S6 rfl
 refine y1 ?_
 refine kc ((V.New9 [] [] (Nat.zero_le _) (Nat.zero_le _) (fun x hx => by cases hx)).le (.cons wt_le .refl)) ?_
 rintro t8 S8 ⟨b1, m1, fl1, rfl, rfl, hf1⟩
 refine kc ((New13 little 65536#64 true b1 little_in knOk little_check (by decide) (by decide)).le (Les.cons little_le .refl)) ?_
 rintro t9 S9 ⟨s1, pg1, gl1, lc1, bs1, g1, c1, a1, l1, rfl, hbs1, hpg1, hgm1, rfl⟩
 refine y5 (nl ?_)
 have hq1 : Rel knM (Qp.mk g1 c1 a1 [] l1 ⟨fl1, [], V.opn0, [], none, 0⟩) := ⟨rfl, hpg1, hgm1, V.abs_new hf1⟩
 refine AW.perm (S' := (SP (Lay.mk s1 gl1 lc1 pg1 b1 m1 bs1) knM (Qp.mk g1 c1 a1 [] l1 ⟨fl1, [], V.opn0, [], none, 0⟩))) ((toSPz (newC little 65536#64 true) g1 c1 a1 l1 (L := (Lay.mk s1 gl1 lc1 pg1 b1 m1 bs1)) (x := newX little) (ws := ⟨fl1, [], V.opn0, [], none, 0⟩) (mem := initM little) (w := V.newW [] [])).symm.trans (apn (B := V.WSt b1 m1 ⟨fl1, [], V.opn0, [], none, 0⟩))) ?_
 refine sq (rs (y6 (nl ?_)))
 refine cq (fun h0t => ?_) fun _ => ?_
 ·exfalso; simp at h0t
 refine sp (rs (y1 ?_))
 refine ka (Run15 realF (fun k a b h0 h1 => real72 k a b h0 h1) (Lay.mk s1 gl1 lc1 pg1 b1 m1 bs1) little knOk little_in hbs1 knM (Qp.mk g1 c1 a1 [] l1 ⟨fl1, [], V.opn0, [], none, 0⟩) 3 1048576 knMOk hq1 (by decide) knW (by decide) (by decide) (by decide)) ?_
 rintro t19 S19 ⟨q2, rfl, hq2, rfl⟩
 refine y1 (nl ?_)
 rw [kn_st1]
 refine rs (y1 ?_)
 refine ka (Run15 realF (fun k a b h0 h1 => real72 k a b h0 h1) (Lay.mk s1 gl1 lc1 pg1 b1 m1 bs1) little knOk little_in hbs1 (runM realF (3 : Int).toNat knM) q2 9 (1048576 + 268435458 * 3) kn1.1 hq2 kn1.2.1 kn1.2.2.1 (by decide) kn1.2.2.2 (by decide)) ?_
 rintro t21 S21 ⟨q3, rfl, hq3, rfl⟩
 refine y1 (nl ?_)
 rw [kn_st2]
 refine rs (y3 ?_)
 refine AWL.unguard rfl rfl rfl rfl ?_
 refine y1 ?_
 refine AWL.unguard rfl rfl rfl rfl ?_
 refine y3 ?_
 refine AWL.unguard rfl rfl rfl rfl ?_
 refine y1 ?_
 refine AWL.unguard rfl rfl rfl rfl ?_
 refine ka (kn_code (Lay.mk s1 gl1 lc1 pg1 b1 m1 bs1) q3) ?_
 rintro t30 S30 ⟨rfl, rfl⟩
 refine AWL.unguard rfl rfl rfl rfl ?_
 refine y3 ?_
 refine AWL.unguard rfl rfl rfl rfl ?_
 refine y1 ?_
 refine AWL.unguard rfl rfl rfl rfl ?_
 refine ka (kn_steps (Lay.mk s1 gl1 lc1 pg1 b1 m1 bs1) q3) ?_
 rintro t35 S35 ⟨rfl, rfl⟩
 refine AWL.unguard rfl rfl rfl rfl ?_
 refine y3 ?_
 refine AWL.unguard rfl rfl rfl rfl ?_
 refine kt (little26) ?_
 rintro t39 S39 rfl
 refine AWL.unguard rfl rfl rfl rfl ?_
 refine kt (knownE) ?_
 rintro t40 S40 rfl
 refine y2 ?_
 refine AWL.unguard rfl rfl rfl rfl ?_
 refine y1 ?_
 refine AWL.unguard rfl rfl rfl rfl ?_
 refine kt (knownF) ?_
 rintro t44 S44 rfl
 refine AWL.unguard rfl rfl rfl rfl ?_
 refine y3 (nl ?_)
 refine rt ?_
 rfl

end Go.Proofs.YtlfklgganokgdaaGreat
