/-
  TEXTS JOINED: Mm17, Aw14, MMo.
-/
import Derived.Test.YtecpjlhbkmongaaGreatRows
import Derived.ProofKit
import Derived.OpenShut
import Derived.JoinedCond
import Derived.Carry
import Derived.Deep.Slices
import Derived.Test.YtecpjlhbkmongaaGreatYf
set_option linter.unusedSimpArgs false
set_option linter.unusedVariables false
set_option linter.unusedSectionVars false
set_option linter.unnecessarySimpa false
namespace Go.Proofs.YtecpjlhbkmongaaGreat.M
open Go Go.RowKit

theorem okT {ok : Bool} {l l0 : List Seg} {a : Wd64} {m : Int} (hok : ok = true ↔ 0 ≤ m ∧ rdOk l a m.toNat) (h0 : 0 ≤ m) (h1 : m ≤ 300) (hp : l.Perm l0) : ok = true ↔ thereP l0 a (wI m).toNat := by
 obtain ⟨k, rfl⟩ := Int.eq_ofNat_of_zero_le h0
 rw [hok, wI_n (by omega)]
 exact ⟨fun h => (rdOk_perm hp).1 h.2, fun h => ⟨h0, (rdOk_perm hp).2 h⟩⟩
theorem okN {ok : Bool} {l : List Seg} {a : Wd64} {m : Int} (hok : ok = true ↔ 0 ≤ m ∧ rdOk l a m.toNat) (h : (decide (m < 0) || !ok) = true) : ok = false := by
 cases ok with
 | false => rfl
 | true =>
  have := (hok.1 rfl).1
  simp at h
  omega
theorem bytesR_get {pgs : List Pg} {a : Wd64} {k j : Nat} (h : j < k) : (bytesR pgs a k).getD j 0 = getM pgs (a + wI (j : Int)) := by
 unfold bytesR
 rw [List.getD_eq_getElem?_getD, List.getElem?_map, List.getElem?_range h]
 rfl
theorem setR (mb : Nat) (s : Ms) (mm w kn : T) (i : Int) (v : Wd64) (h0 : s.x = fun _ => 0#64) (hv : v = 77#64) : ACalls Tryz.prog 17 [.v (.pointer (some ⟨mb, 0, none⟩)), zi i, zw v] [Ent.box mb 73 (mcC s mm w kn)]
    (fun t S => ∃ s2 : Ms, ((decide (0 ≤ i) && decide (i < 16)) = true → regF s2.r i = 77#64) ∧ ((decide (0 ≤ i) && decide (i < 16)) = false → regF s2.r i = 0#64 ∧ regF s2.x i = 0#64) ∧ t = zi (bif (decide (0 ≤ i) && decide (i < 16)) then 0 else 1) ∧ S = [Ent.box mb 73 (mcC s2 mm w kn)]) := by
 refine (SetReg17 mb s mm w kn i v).mono fun t S h => ?_
 by_cases hi : 0 ≤ i ∧ i < 16
 ·obtain ⟨h1, h2⟩ := h.1 hi
  have hb : (decide (0 ≤ i) && decide (i < 16)) = true := by simp [hi]
  refine ⟨_, fun _ => ?_, fun q => (by rw [hb] at q; cases q), by rw [hb]; exact h1, h2⟩
  rw [regF, if_pos hi, hv]
  exact updR_same _ _ _
 obtain ⟨h1, h2⟩ := h.2 hi
 have hb : (decide (0 ≤ i) && decide (i < 16)) = false := by
  rw [Bool.and_eq_false_iff, decide_eq_false_iff_not, decide_eq_false_iff_not]
  omega
 refine ⟨_, fun q => (by rw [hb] at q; cases q), fun _ => ⟨reg_out hi, reg_out hi⟩, by rw [hb]; exact h1, h2⟩
set_option maxHeartbeats 8000000 in
theorem MachineMakes3 (e : Wd64) (l0 : List Seg) (hl : l0.length ≤ 1048576) (hd : ∀ s ∈ l0, s.data.length ≤ 1048576) (a : Wd64) (n i : Int) (hn : -9223372036854775808 ≤ n ∧ n ≤ 9223372036854775807) :
    ACalls Tryz.prog 3 [.agg [zw e, .sl 4 (l0.flatMap segC)], zw a, zi n, zi i] [] (fun t S => t = bv true) := by
 refine ACalls.intro Tryz.func3 rfl Tryz.ntmps3 (Nat.le_of_ble_eq_true rfl) rfl fun X w0 => ?_
 refine AW.rseq ?_
 refine AWL.boxOp rfl rfl (B rfl) rfl (E rfl rfl) rfl (fun b4 => ?_)
 refine AWL.y rfl rfl (B rfl) (Yv.assign rfl (E rfl rfl)) ?_
 refine AWL.nil ?_
 refine AW.seq ?_
 refine AW.rseq ?_
 refine AWL.callT rfl rfl (B rfl) rfl ce_4 (E rfl rfl) evs0 (known4) ?_
 rintro t24 S24 rfl
 refine AWL.y rfl rfl (B rfl) (Yv.not rfl (E rfl rfl)) ?_
 refine AWL.nil ?_
 refine AW.cond rfl (fun h0t => ?_) (fun h0f => ?_)
 ·try replace h0t := of_decide_eq_true h0t
  cases h0t
 try replace h0f := of_decide_eq_false h0f
 refine AW.skip ?_
 refine AW.rseq ?_
 refine AWL.y rfl rfl (B rfl) (Yv.assign rfl (E rfl rfl)) ?_
 refine AWL.nil ?_
 refine AW.seq ?_
 refine AW.rseq ?_
 refine AWL.y rfl rfl (B rfl) (Yv.assign rfl (E rfl rfl)) ?_
 refine AWL.nil ?_
 refine AW.block ?_
 refine AW.loop2 (fun (j : Nat) (q : Nat) => [(1, true, zw a), (2, true, zi n), (3, true, zi i), (4, true, .v (.pointer (some ⟨b4, 0, none⟩))), (8, true, bv false), (9, true, zi (q : Int)), (10, true, zi (j : Int))]) (fun (j : Nat) (q : Nat) => [Ent.box b4 25 [zw e, .sl 4 (l0.flatMap segC)]]) (fun (j : Nat) (q : Nat) => q ≤ 1048576) (fun (j : Nat) (q : Nat) => l0.length - j) 0 0 ?_ ?_ ?_ ?_
 ·exact Nat.zero_le _
 ·exact (Sub.cons rfl rfl (Sub.cons rfl rfl (Sub.cons rfl rfl (Sub.cons rfl rfl (Sub.cons rfl rfl (Sub.cons rfl rfl (Sub.cons rfl rfl Sub.nil)))))))
 ·rfl
 intro j q hinv
 refine AW.seq ?_
 refine AW.rseq ?_
 refine AWL.y rfl rfl (B rfl) (Yv.move rfl (E rfl rfl)) ?_
 refine AWL.y rfl rfl (B rfl) (Yv.fieldBox rfl fo_25_1 (E rfl rfl)) ?_
 refine AWL.y rfl rfl (B rfl) (Yv.loadBox rfl ag_23 (i := 0) rfl (E rfl rfl) rfl) ?_
 refine AWL.y rfl rfl (B rfl) (Yv.lenSl rfl so_23 (B rfl) (E rfl rfl) len_segC) ?_
 refine AWL.y rfl rfl (B rfl) (Yv.lss rfl (E rfl rfl) (E rfl rfl)) ?_
 refine AWL.nil ?_
 refine AW.cond rfl (fun h1t => ?_) (fun h1f => ?_)
 ·try replace h1t := of_decide_eq_true h1t
  have hj : j < l0.length := by omega
  have hdj := hd _ (mem_getD.2 ⟨j, hj, rfl⟩)
  refine AW.skip ?_
  refine AW.seq ?_
  refine AW.block ?_
  refine AW.rseq ?_
  refine AWL.y rfl rfl (B rfl) (Yv.move rfl (E rfl rfl)) ?_
  refine AWL.y rfl rfl (B rfl) (Yv.fieldBox rfl fo_25_1 (E rfl rfl)) ?_
  refine AWL.y rfl rfl (B rfl) (Yv.loadBox rfl ag_23 (i := 0) rfl (E rfl rfl) rfl) ?_
  refine AWL.y rfl rfl (B rfl) (Yv.move rfl (E rfl rfl)) ?_
  refine AWL.y rfl rfl (B rfl) (Yv.indexSl rfl ss_23 (B rfl) (E rfl rfl) (E rfl rfl) (fun hg => ⟨rfl, (by first | omega | (simp only [len_segC, len_u8t]; omega))⟩)) ?_
  refine AWL.y rfl rfl (B rfl) (Yv.fieldRp rfl fo_29_3 (E rfl rfl)) ?_
  refine AWL.y rfl rfl (B rfl) (Yv.loadRp rfl ag_27 (E rfl rfl) (fun hg => segC_at3 hj)) ?_
  refine AWL.y rfl rfl (B rfl) (Yv.lenSl rfl so_27 (B rfl) (E rfl rfl) len_u8t) ?_
  refine AWL.y rfl rfl (B rfl) (Yv.addN_i64 rfl (E rfl rfl) (E rfl rfl) (fun hg => by omega)) ?_
  refine AWL.y rfl rfl (B rfl) (Yv.assign rfl (E rfl rfl)) ?_
  refine AWL.nil ?_
  refine AW.rseq ?_
  refine AWL.y rfl rfl (B rfl) (Yv.move rfl (E rfl rfl)) ?_
  refine AWL.y rfl rfl (B rfl) (Yv.gtr rfl (E rfl rfl) (E rfl rfl)) ?_
  refine AWL.nil ?_
  refine AW.cond rfl (fun h2t => ?_) (fun h2f => ?_)
  ·try replace h2t := of_decide_eq_true h2t
   refine AW.rseq ?_
   refine AWL.y rfl rfl (B rfl) (Yv.assign rfl (E rfl rfl)) ?_
   refine AWL.nil ?_
   refine AW.ret (retI (.tmp rfl .nil) ?_)
   rfl
  try replace h2f := of_decide_eq_false h2f
  refine AW.skip ?_
  refine AW.region ?_
  refine AWL.y rfl rfl (B rfl) (Yv.move rfl (E rfl rfl)) ?_
  refine AWL.y rfl rfl (B rfl) (Yv.addN_i64 rfl (E rfl rfl) (E rfl rfl) (fun hg => by omega)) ?_
  refine AWL.y rfl rfl (B rfl) (Yv.assign rfl (E rfl rfl)) ?_
  refine AWL.nil ?_
  exact ⟨j + 1, q + (l0.getD j default).data.length, by omega, by omega, (Sub.cons rfl rfl (Sub.cons rfl rfl (Sub.cons rfl rfl (Sub.cons rfl rfl (Sub.cons rfl rfl (Sub.cons rfl (congrArg zi (by omega)) (Sub.cons rfl rfl Sub.nil))))))), rfl⟩
 try replace h1f := of_decide_eq_false h1f
 refine AW.exit ?_
 refine AW.mid (α := Option Addr × Int × St) (fun y => [(1, true, zw a), (2, true, zi n), (3, true, zi i), (4, true, .v (.pointer (some ⟨b4, 0, none⟩))), (8, true, bv false), (11, true, .v (.pointer y.1)), (12, true, zi y.2.1)]) (fun y => Ent.box b4 25 [zw e, .sl 4 (l0.flatMap segC)] :: y.2.2) (fun y => NewP e l0 y.1 y.2.1 y.2.2) ?_ ?_
 ·refine AW.regionP rfl ?_
  refine AWP.two (i := 0) (j := 1) (by kernel_rfl) rfl rfl ?_ ?_
  ·refine AWL.y rfl rfl (B rfl) (Yv.loadBoxA rfl ag_25 (i := 0) rfl (E rfl rfl) rfl rfl) ?_
   refine AWL.nil ?_
   refine AWP.one (i := 1) (by kernel_rfl) rfl ?_
   refine AWL.y rfl rfl (B rfl) (Yv.buildS rfl sh_38 evp0 (fun _ => rfl)) ?_
   refine AWL.nil ?_
   refine AWP.one (i := 2) (by kernel_rfl) rfl ?_
   refine AWL.callT rfl rfl (B rfl) rfl ce_6 (E rfl rfl) (evsC (E rfl rfl) evs0) (wNew6) ?_
   rintro t47 S47 ⟨wb, rfl⟩
   refine AWL.nil ?_
   refine AWP.one (i := 3) (by kernel_rfl) rfl ?_
   refine AWL.callE rfl rfl (B rfl) rfl ce_5 (E rfl rfl) (evsC (E rfl rfl) (evsC (E rfl rfl) evs0)) (F1 := [Ent.box b4 25 [zw e, .sl 4 (l0.flatMap segC)]]) (S1 := []) rfl (new5Q e l0 hl hd wb) ?_
   rintro t48 S48 ⟨p, z, rfl, hN⟩
   refine AWL.nil ?_
   refine AWP.one (i := 4) (by kernel_rfl) rfl ?_
   refine AWL.y rfl rfl (B rfl) (Yv.move rfl (E rfl rfl)) ?_
   refine AWL.nil ?_
   refine AWP.two (i := 5) (j := 6) (by kernel_rfl) rfl rfl ?_ ?_
   ·refine AWL.y rfl rfl (B rfl) (Yv.extract rfl (E rfl rfl) rfl) ?_
    refine AWL.nil ?_
    refine AWP.two (i := 6) (j := 7) (by kernel_rfl) rfl rfl ?_ ?_
    ·refine AWL.y rfl rfl (B rfl) (Yv.extract rfl (E rfl rfl) rfl) ?_
     refine AWL.nil ?_
     refine AWP.one (i := 7) (by kernel_rfl) rfl ?_
     refine AWL.y rfl rfl (B rfl) (Yv.assign rfl (E rfl rfl)) ?_
     refine AWL.nil ?_
     refine AWP.one (i := 8) (by kernel_rfl) rfl ?_
     refine AWL.y rfl rfl (B rfl) (Yv.assign rfl (E rfl rfl)) ?_
     refine AWL.nil ?_
     refine AWP.done (by kernel_rfl) ?_
     exact ⟨(p, z, _), hN, (Sub.cons rfl rfl (Sub.cons rfl rfl (Sub.cons rfl rfl (Sub.cons rfl rfl (Sub.cons rfl rfl (Sub.cons rfl rfl (Sub.cons rfl rfl Sub.nil))))))), rfl⟩
    refine AWL.y rfl rfl (B rfl) (Yv.assign rfl (E rfl rfl)) ?_
    refine AWL.nil ?_
    refine AWP.one (i := 6) (by kernel_rfl) rfl ?_
    refine AWL.y rfl rfl (B rfl) (Yv.extract rfl (E rfl rfl) rfl) ?_
    refine AWL.nil ?_
    refine AWP.one (i := 8) (by kernel_rfl) rfl ?_
    refine AWL.y rfl rfl (B rfl) (Yv.assign rfl (E rfl rfl)) ?_
    refine AWL.nil ?_
    refine AWP.done (by kernel_rfl) ?_
    exact ⟨(p, z, _), hN, (Sub.cons rfl rfl (Sub.cons rfl rfl (Sub.cons rfl rfl (Sub.cons rfl rfl (Sub.cons rfl rfl (Sub.cons rfl rfl (Sub.cons rfl rfl Sub.nil))))))), rfl⟩
   refine AWL.y rfl rfl (B rfl) (Yv.extract rfl (E rfl rfl) rfl) ?_
   refine AWL.nil ?_
   refine AWP.one (i := 5) (by kernel_rfl) rfl ?_
   refine AWL.y rfl rfl (B rfl) (Yv.extract rfl (E rfl rfl) rfl) ?_
   refine AWL.nil ?_
   refine AWP.one (i := 7) (by kernel_rfl) rfl ?_
   refine AWL.y rfl rfl (B rfl) (Yv.assign rfl (E rfl rfl)) ?_
   refine AWL.nil ?_
   refine AWP.one (i := 8) (by kernel_rfl) rfl ?_
   refine AWL.y rfl rfl (B rfl) (Yv.assign rfl (E rfl rfl)) ?_
   refine AWL.nil ?_
   refine AWP.done (by kernel_rfl) ?_
   exact ⟨(p, z, _), hN, (Sub.cons rfl rfl (Sub.cons rfl rfl (Sub.cons rfl rfl (Sub.cons rfl rfl (Sub.cons rfl rfl (Sub.cons rfl rfl (Sub.cons rfl rfl Sub.nil))))))), rfl⟩
  refine AWL.y rfl rfl (B rfl) (Yv.buildS rfl sh_38 evp0 (fun _ => rfl)) ?_
  refine AWL.nil ?_
  refine AWP.two (i := 0) (j := 2) (by kernel_rfl) rfl rfl ?_ ?_
  ·refine AWL.y rfl rfl (B rfl) (Yv.loadBoxA rfl ag_25 (i := 0) rfl (E rfl rfl) rfl rfl) ?_
   refine AWL.nil ?_
   refine AWP.one (i := 2) (by kernel_rfl) rfl ?_
   refine AWL.callT rfl rfl (B rfl) rfl ce_6 (E rfl rfl) (evsC (E rfl rfl) evs0) (wNew6) ?_
   rintro t47 S47 ⟨wb, rfl⟩
   refine AWL.nil ?_
   refine AWP.one (i := 3) (by kernel_rfl) rfl ?_
   refine AWL.callE rfl rfl (B rfl) rfl ce_5 (E rfl rfl) (evsC (E rfl rfl) (evsC (E rfl rfl) evs0)) (F1 := [Ent.box b4 25 [zw e, .sl 4 (l0.flatMap segC)]]) (S1 := []) rfl (new5Q e l0 hl hd wb) ?_
   rintro t48 S48 ⟨p, z, rfl, hN⟩
   refine AWL.nil ?_
   refine AWP.one (i := 4) (by kernel_rfl) rfl ?_
   refine AWL.y rfl rfl (B rfl) (Yv.move rfl (E rfl rfl)) ?_
   refine AWL.nil ?_
   refine AWP.two (i := 5) (j := 6) (by kernel_rfl) rfl rfl ?_ ?_
   ·refine AWL.y rfl rfl (B rfl) (Yv.extract rfl (E rfl rfl) rfl) ?_
    refine AWL.nil ?_
    refine AWP.two (i := 6) (j := 7) (by kernel_rfl) rfl rfl ?_ ?_
    ·refine AWL.y rfl rfl (B rfl) (Yv.extract rfl (E rfl rfl) rfl) ?_
     refine AWL.nil ?_
     refine AWP.one (i := 7) (by kernel_rfl) rfl ?_
     refine AWL.y rfl rfl (B rfl) (Yv.assign rfl (E rfl rfl)) ?_
     refine AWL.nil ?_
     refine AWP.one (i := 8) (by kernel_rfl) rfl ?_
     refine AWL.y rfl rfl (B rfl) (Yv.assign rfl (E rfl rfl)) ?_
     refine AWL.nil ?_
     refine AWP.done (by kernel_rfl) ?_
     exact ⟨(p, z, _), hN, (Sub.cons rfl rfl (Sub.cons rfl rfl (Sub.cons rfl rfl (Sub.cons rfl rfl (Sub.cons rfl rfl (Sub.cons rfl rfl (Sub.cons rfl rfl Sub.nil))))))), rfl⟩
    refine AWL.y rfl rfl (B rfl) (Yv.assign rfl (E rfl rfl)) ?_
    refine AWL.nil ?_
    refine AWP.one (i := 6) (by kernel_rfl) rfl ?_
    refine AWL.y rfl rfl (B rfl) (Yv.extract rfl (E rfl rfl) rfl) ?_
    refine AWL.nil ?_
    refine AWP.one (i := 8) (by kernel_rfl) rfl ?_
    refine AWL.y rfl rfl (B rfl) (Yv.assign rfl (E rfl rfl)) ?_
    refine AWL.nil ?_
    refine AWP.done (by kernel_rfl) ?_
    exact ⟨(p, z, _), hN, (Sub.cons rfl rfl (Sub.cons rfl rfl (Sub.cons rfl rfl (Sub.cons rfl rfl (Sub.cons rfl rfl (Sub.cons rfl rfl (Sub.cons rfl rfl Sub.nil))))))), rfl⟩
   refine AWL.y rfl rfl (B rfl) (Yv.extract rfl (E rfl rfl) rfl) ?_
   refine AWL.nil ?_
   refine AWP.one (i := 5) (by kernel_rfl) rfl ?_
   refine AWL.y rfl rfl (B rfl) (Yv.extract rfl (E rfl rfl) rfl) ?_
   refine AWL.nil ?_
   refine AWP.one (i := 7) (by kernel_rfl) rfl ?_
   refine AWL.y rfl rfl (B rfl) (Yv.assign rfl (E rfl rfl)) ?_
   refine AWL.nil ?_
   refine AWP.one (i := 8) (by kernel_rfl) rfl ?_
   refine AWL.y rfl rfl (B rfl) (Yv.assign rfl (E rfl rfl)) ?_
   refine AWL.nil ?_
   refine AWP.done (by kernel_rfl) ?_
   exact ⟨(p, z, _), hN, (Sub.cons rfl rfl (Sub.cons rfl rfl (Sub.cons rfl rfl (Sub.cons rfl rfl (Sub.cons rfl rfl (Sub.cons rfl rfl (Sub.cons rfl rfl Sub.nil))))))), rfl⟩
  refine AWL.callT rfl rfl (B rfl) rfl ce_6 (E rfl rfl) (evsC (E rfl rfl) evs0) (wNew6) ?_
  rintro t47 S47 ⟨wb, rfl⟩
  refine AWL.nil ?_
  refine AWP.one (i := 0) (by kernel_rfl) rfl ?_
  refine AWL.y rfl rfl (B rfl) (Yv.loadBoxA rfl ag_25 (i := 0) rfl (E rfl rfl) rfl rfl) ?_
  refine AWL.nil ?_
  refine AWP.one (i := 3) (by kernel_rfl) rfl ?_
  refine AWL.callE rfl rfl (B rfl) rfl ce_5 (E rfl rfl) (evsC (E rfl rfl) (evsC (E rfl rfl) evs0)) (F1 := [Ent.box b4 25 [zw e, .sl 4 (l0.flatMap segC)]]) (S1 := []) rfl (new5Q e l0 hl hd wb) ?_
  rintro t48 S48 ⟨p, z, rfl, hN⟩
  refine AWL.nil ?_
  refine AWP.one (i := 4) (by kernel_rfl) rfl ?_
  refine AWL.y rfl rfl (B rfl) (Yv.move rfl (E rfl rfl)) ?_
  refine AWL.nil ?_
  refine AWP.two (i := 5) (j := 6) (by kernel_rfl) rfl rfl ?_ ?_
  ·refine AWL.y rfl rfl (B rfl) (Yv.extract rfl (E rfl rfl) rfl) ?_
   refine AWL.nil ?_
   refine AWP.two (i := 6) (j := 7) (by kernel_rfl) rfl rfl ?_ ?_
   ·refine AWL.y rfl rfl (B rfl) (Yv.extract rfl (E rfl rfl) rfl) ?_
    refine AWL.nil ?_
    refine AWP.one (i := 7) (by kernel_rfl) rfl ?_
    refine AWL.y rfl rfl (B rfl) (Yv.assign rfl (E rfl rfl)) ?_
    refine AWL.nil ?_
    refine AWP.one (i := 8) (by kernel_rfl) rfl ?_
    refine AWL.y rfl rfl (B rfl) (Yv.assign rfl (E rfl rfl)) ?_
    refine AWL.nil ?_
    refine AWP.done (by kernel_rfl) ?_
    exact ⟨(p, z, _), hN, (Sub.cons rfl rfl (Sub.cons rfl rfl (Sub.cons rfl rfl (Sub.cons rfl rfl (Sub.cons rfl rfl (Sub.cons rfl rfl (Sub.cons rfl rfl Sub.nil))))))), rfl⟩
   refine AWL.y rfl rfl (B rfl) (Yv.assign rfl (E rfl rfl)) ?_
   refine AWL.nil ?_
   refine AWP.one (i := 6) (by kernel_rfl) rfl ?_
   refine AWL.y rfl rfl (B rfl) (Yv.extract rfl (E rfl rfl) rfl) ?_
   refine AWL.nil ?_
   refine AWP.one (i := 8) (by kernel_rfl) rfl ?_
   refine AWL.y rfl rfl (B rfl) (Yv.assign rfl (E rfl rfl)) ?_
   refine AWL.nil ?_
   refine AWP.done (by kernel_rfl) ?_
   exact ⟨(p, z, _), hN, (Sub.cons rfl rfl (Sub.cons rfl rfl (Sub.cons rfl rfl (Sub.cons rfl rfl (Sub.cons rfl rfl (Sub.cons rfl rfl (Sub.cons rfl rfl Sub.nil))))))), rfl⟩
  refine AWL.y rfl rfl (B rfl) (Yv.extract rfl (E rfl rfl) rfl) ?_
  refine AWL.nil ?_
  refine AWP.one (i := 5) (by kernel_rfl) rfl ?_
  refine AWL.y rfl rfl (B rfl) (Yv.extract rfl (E rfl rfl) rfl) ?_
  refine AWL.nil ?_
  refine AWP.one (i := 7) (by kernel_rfl) rfl ?_
  refine AWL.y rfl rfl (B rfl) (Yv.assign rfl (E rfl rfl)) ?_
  refine AWL.nil ?_
  refine AWP.one (i := 8) (by kernel_rfl) rfl ?_
  refine AWL.y rfl rfl (B rfl) (Yv.assign rfl (E rfl rfl)) ?_
  refine AWL.nil ?_
  refine AWP.done (by kernel_rfl) ?_
  exact ⟨(p, z, _), hN, (Sub.cons rfl rfl (Sub.cons rfl rfl (Sub.cons rfl rfl (Sub.cons rfl rfl (Sub.cons rfl rfl (Sub.cons rfl rfl (Sub.cons rfl rfl Sub.nil))))))), rfl⟩
 rintro ⟨p, z, S0⟩ hN
 dsimp only at hN
 refine AW.rseq ?_
 refine AWL.y rfl rfl (B rfl) (Yv.loadBoxA rfl ag_25 (i := 0) rfl (E rfl rfl) rfl rfl) ?_
 refine AWL.callT rfl rfl (B rfl) rfl ce_5 (E rfl rfl) (evsC (E rfl rfl) (evsC (E rfl rfl) evs0)) (new5N e l0 hl hd) ?_
 rintro t53 S53 rfl
 refine AWL.y rfl rfl (B rfl) (Yv.move rfl (E rfl rfl)) ?_
 refine AWL.y rfl rfl (B rfl) (Yv.extract rfl (E rfl rfl) rfl) ?_
 refine AWL.y rfl rfl (B rfl) (Yv.extract rfl (E rfl rfl) rfl) ?_
 refine AWL.y rfl rfl (B rfl) (Yv.assign rfl (E rfl rfl)) ?_
 refine AWL.y rfl rfl (B rfl) (Yv.assign rfl (E rfl rfl)) ?_
 refine AWL.nil ?_
 refine AW.seq ?_
 refine AW.rseq ?_
 refine AWL.y rfl rfl (B rfl) (Yv.move rfl (E rfl rfl)) ?_
 refine AWL.y rfl rfl (B rfl) (Yv.neq rfl (E rfl rfl) (E rfl rfl)) ?_
 refine AWL.nil ?_
 refine AW.cond rfl (fun h3t => ?_) (fun h3f => ?_)
 ·try replace h3t := of_decide_eq_true h3t
  cases h3t
 try replace h3f := of_decide_eq_false h3f
 refine AW.skip ?_
 refine AW.seq ?_
 refine AW.rseq ?_
 refine AWL.y rfl rfl (B rfl) (Yv.fieldBox rfl fo_25_1 (E rfl rfl)) ?_
 refine AWL.y rfl rfl (B rfl) (Yv.loadBox rfl ag_23 (i := 0) rfl (E rfl rfl) rfl) ?_
 refine AWL.callT rfl rfl (B rfl) rfl ce_7 (E rfl rfl) (evsC (E rfl rfl) evs0) (May7 l0 hl hd) ?_
 rintro t60 S60 ⟨mb_, hmay, rfl⟩
 refine AWL.y rfl rfl (B rfl) (Yv.not rfl (E rfl rfl)) ?_
 refine AWL.nil ?_
 refine AW.cond rfl (fun h4t => ?_) (fun h4f => ?_)
 ·try replace h4t := of_decide_eq_true h4t
  have hnM : ¬ MayP l0 := fun q => by rw [hmay.2 q] at h4t; cases h4t
  obtain ⟨-, rfl, rfl⟩ := hN.resolve_right (fun q => hnM q.1)
  refine AW.rseq ?_
  refine AWL.y rfl rfl (B rfl) (Yv.move rfl (E rfl rfl)) ?_
  refine AWL.y rfl rfl (B rfl) (Yv.eql rfl (E rfl rfl) (E rfl rfl)) ?_
  refine AWL.y rfl rfl (B rfl) (Yv.move rfl (E rfl rfl)) ?_
  refine AWL.ygT rfl rfl rfl rfl (B rfl) (Yv.move rfl (E rfl rfl)) ?_
  refine AWL.ygT rfl rfl rfl rfl (B rfl) (Yv.eqlNilP rfl pn_30 (Eg rfl rfl id)) ?_
  refine AWL.y rfl rfl (B rfl) (Yv.pickAnd rfl (E rfl rfl) (Eg rfl rfl id)) ?_
  refine AWL.y rfl rfl (B rfl) (Yv.assign rfl (E rfl rfl)) ?_
  refine AWL.nil ?_
  refine AW.ret (retI (.tmp rfl .nil) ?_)
  rfl
 try replace h4f := of_decide_eq_false h4f
 have hM : MayP l0 := hmay.1 (by simpa using h4f)
 obtain ⟨-, mb, mm, pg, kn, w, l, pgs, hp, hsr, hpo, hme, rfl, rfl, rfl⟩ := hN.resolve_left (fun q => q.1 hM)
 have hll : l.length ≤ 1048576 := by rw [hp.length_eq]; exact hl
 refine AW.skip ?_
 refine AW.seq ?_
 refine AW.rseq ?_
 refine AWL.y rfl rfl (B rfl) (Yv.move rfl (E rfl rfl)) ?_
 refine AWL.y rfl rfl (B rfl) (Yv.neq rfl (E rfl rfl) (E rfl rfl)) ?_
 refine AWL.y rfl rfl (B rfl) (Yv.move rfl (E rfl rfl)) ?_
 refine AWL.ygF rfl rfl rfl rfl (B rfl) (Yv.move rfl (E rfl rfl)) ?_
 refine AWL.ygF rfl rfl rfl rfl (B rfl) (Yv.eqlNilP rfl pn_30 (Eg rfl rfl id)) ?_
 refine AWL.y rfl rfl (B rfl) (Yv.pickOr (t := .const (.bool true)) rfl (E rfl rfl) (Eg rfl rfl id)) ?_
 refine AWL.nil ?_
 refine AW.cond rfl (fun h5t => ?_) (fun h5f => ?_)
 ·try replace h5t := of_decide_eq_true h5t
  cases h5t
 try replace h5f := of_decide_eq_false h5f
 refine AW.skip ?_
 refine AW.rseq ?_
 refine AWL.y rfl rfl (B rfl) (Yv.loadBoxA rfl ag_25 (i := 0) rfl (E rfl rfl) rfl rfl) ?_
 refine AWL.callE rfl rfl (B rfl) rfl ce_8 (E rfl rfl) (evsC (E rfl rfl) (evsC (E rfl rfl) evs0)) (F1 := (Ent.box b4 25 [zw e, .sl 4 (l0.flatMap segC)] :: PS kn mb mm pg (ms0 e) w l pgs)) (S1 := []) (List.append_nil _).symm (DNew8 e l0 hl hd) ?_
 rintro t75 S75 ⟨db, dpg, dkn, dpgs, rfl, hdo, hdm, rfl⟩
 refine AWL.y rfl rfl (B rfl) (Yv.assign rfl (E rfl rfl)) ?_
 refine AWL.nil ?_
 refine AW.rseq ?_
 refine AWL.y rfl rfl (B rfl) (Yv.move rfl (E rfl rfl)) ?_
 refine AWL.callF rfl rfl (B rfl) rfl ce_9 (E rfl rfl) (evsC (E rfl rfl) evs0) (F1 := [Ent.box b4 25 [zw e, .sl 4 (l0.flatMap segC)], Ent.map kn []]) (S1 := [Ent.box mb 73 (mcC (ms0 e) (.v (.pointer (some ⟨mm, 0, none⟩))) w (mapT kn))]) (F2 := ((Ent.box mm 102 [.sl 4 (l.flatMap seg0), mapT pg] :: memE 95 pg pgs) ++ (Ent.box db 91 (dcC 139637976727552#64 e (.sl 4 (l0.flatMap seg0)) (mapT dpg) (mapT dkn)) :: memE 97 dpg dpgs))) rfl (Stop9 mb (ms0 e) _ _ _) ?_
 rintro t78 S78 ⟨rfl, rfl⟩
 refine AWL.y rfl rfl (B rfl) (Yv.move rfl (E rfl rfl)) ?_
 refine AWL.y rfl rfl (B rfl) (Yv.extract rfl (E rfl rfl) rfl) ?_
 refine AWL.y rfl rfl (B rfl) (Yv.extract rfl (E rfl rfl) rfl) ?_
 refine AWL.y rfl rfl (B rfl) (Yv.assign rfl (E rfl rfl)) ?_
 refine AWL.y rfl rfl (B rfl) (Yv.assign rfl (E rfl rfl)) ?_
 refine AWL.nil ?_
 refine AW.seq ?_
 refine AW.mid (α := Unit) (fun _ => [(1, true, zw a), (2, true, zi n), (3, true, zi i), (4, true, .v (.pointer (some ⟨b4, 0, none⟩))), (8, true, bv false), (11, true, .v (.pointer (some ⟨mb, 0, none⟩))), (15, true, .v (.pointer (some ⟨db, 0, none⟩))), (114, true, bv false)]) (fun _ => (Ent.box b4 25 [zw e, .sl 4 (l0.flatMap segC)] :: PS kn mb mm pg (ms0 e) w l pgs) ++ (Ent.box db 91 (dcC 139637976727552#64 e (.sl 4 (l0.flatMap seg0)) (mapT dpg) (mapT dkn)) :: memE 97 dpg dpgs)) (fun _ => True) ?_ ?_
 ·refine AW.regionP rfl ?_
  refine AWP.one (i := 0) (by kernel_rfl) rfl ?_
  refine AWL.y rfl rfl (B rfl) (Yv.move rfl (E rfl rfl)) ?_
  refine AWL.nil ?_
  refine AWP.one (i := 1) (by kernel_rfl) rfl ?_
  refine AWL.y rfl rfl (B rfl) (Yv.neq rfl (E rfl rfl) (E rfl rfl)) ?_
  refine AWL.nil ?_
  refine AWP.one (i := 2) (by kernel_rfl) rfl ?_
  refine AWL.y rfl rfl (B rfl) (Yv.move rfl (E rfl rfl)) ?_
  refine AWL.nil ?_
  refine AWP.one (i := 3) (by kernel_rfl) rfl ?_
  refine AWL.unguard rfl rfl rfl (by simp [ms0, regF, updR] <;> rfl) ?_
  refine AWL.y rfl rfl (B rfl) (Yv.move rfl (E rfl rfl)) ?_
  refine AWL.nil ?_
  refine AWP.one (i := 4) (by kernel_rfl) rfl ?_
  refine AWL.unguard rfl rfl rfl (by simp [ms0, regF, updR] <;> rfl) ?_
  refine AWL.y rfl rfl (B rfl) (Yv.neq rfl (E rfl rfl) (E rfl rfl)) ?_
  refine AWL.nil ?_
  refine AWP.one (i := 5) (by kernel_rfl) rfl ?_
  refine AWL.y rfl rfl (B rfl) (Yv.pickOr (t := .const (.bool true)) rfl (E rfl rfl) (E rfl rfl)) ?_
  refine AWL.nil ?_
  refine AWP.one (i := 6) (by kernel_rfl) rfl ?_
  refine AWL.y rfl rfl (B rfl) (Yv.move rfl (E rfl rfl)) ?_
  refine AWL.nil ?_
  refine AWP.two (i := 7) (j := 9) (by kernel_rfl) rfl rfl ?_ ?_
  ·refine AWL.unguard rfl rfl rfl (by simp [ms0, regF, updR] <;> rfl) ?_
   refine AWL.y rfl rfl (B rfl) (Yv.move rfl (E rfl rfl)) ?_
   refine AWL.nil ?_
   refine AWP.two (i := 8) (j := 9) (by kernel_rfl) rfl rfl ?_ ?_
   ·refine AWL.unguard rfl rfl rfl (by simp [ms0, regF, updR] <;> rfl) ?_
    refine AWL.callF rfl rfl (B rfl) rfl ce_10 (E rfl rfl) (evsC (E rfl rfl) evs0) (F1 := [Ent.box b4 25 [zw e, .sl 4 (l0.flatMap segC)], Ent.map kn []]) (S1 := [Ent.box mb 73 (mcC (ms0 e) (.v (.pointer (some ⟨mm, 0, none⟩))) w (mapT kn))]) (F2 := ((Ent.box mm 102 [.sl 4 (l.flatMap seg0), mapT pg] :: memE 95 pg pgs) ++ (Ent.box db 91 (dcC 139637976727552#64 e (.sl 4 (l0.flatMap seg0)) (mapT dpg) (mapT dkn)) :: memE 97 dpg dpgs))) rfl (At10 mb (ms0 e) _ _ _) ?_
    rintro t89 S89 ⟨rfl, rfl⟩
    refine AWL.nil ?_
    refine AWP.one (i := 9) (by kernel_rfl) rfl ?_
    refine AWL.unguard rfl rfl rfl (by simp [ms0, regF, updR] <;> rfl) ?_
    refine AWL.y rfl rfl (B rfl) (Yv.fieldBox rfl fo_25_0 (E rfl rfl)) ?_
    refine AWL.nil ?_
    refine AWP.one (i := 10) (by kernel_rfl) rfl ?_
    refine AWL.unguard rfl rfl rfl (by simp [ms0, regF, updR] <;> rfl) ?_
    refine AWL.y rfl rfl (B rfl) (Yv.loadBox rfl ag_22 (i := 0) rfl (E rfl rfl) rfl) ?_
    refine AWL.nil ?_
    refine AWP.one (i := 11) (by kernel_rfl) rfl ?_
    refine AWL.unguard rfl rfl rfl (by simp [ms0, regF, updR] <;> rfl) ?_
    refine AWL.y rfl rfl (B rfl) (Yv.neqW rfl (E rfl rfl) (E rfl rfl)) ?_
    refine AWL.nil ?_
    refine AWP.one (i := 12) (by kernel_rfl) rfl ?_
    refine AWL.y rfl rfl (B rfl) (Yv.pickOr (t := .const (.bool true)) rfl (E rfl rfl) (E rfl rfl)) ?_
    refine AWL.nil ?_
    refine AWP.one (i := 13) (by kernel_rfl) rfl ?_
    refine AWL.y rfl rfl (B rfl) (Yv.move rfl (E rfl rfl)) ?_
    refine AWL.nil ?_
    refine AWP.one (i := 14) (by kernel_rfl) rfl ?_
    refine AWL.unguard rfl rfl rfl (by simp [ms0, regF, updR] <;> rfl) ?_
    refine AWL.y rfl rfl (B rfl) (Yv.move rfl (E rfl rfl)) ?_
    refine AWL.nil ?_
    refine AWP.one (i := 15) (by kernel_rfl) rfl ?_
    refine AWL.unguard rfl rfl rfl (by simp [ms0, regF, updR] <;> rfl) ?_
    refine AWL.callF rfl rfl (B rfl) rfl ce_11 (E rfl rfl) (evsC (E rfl rfl) evs0) (F1 := [Ent.box b4 25 [zw e, .sl 4 (l0.flatMap segC)], Ent.map kn []]) (S1 := [Ent.box mb 73 (mcC (ms0 e) (.v (.pointer (some ⟨mm, 0, none⟩))) w (mapT kn))]) (F2 := ((Ent.box mm 102 [.sl 4 (l.flatMap seg0), mapT pg] :: memE 95 pg pgs) ++ (Ent.box db 91 (dcC 139637976727552#64 e (.sl 4 (l0.flatMap seg0)) (mapT dpg) (mapT dkn)) :: memE 97 dpg dpgs))) rfl (Steps11 mb (ms0 e) _ _ _) ?_
    rintro t96 S96 ⟨rfl, rfl⟩
    refine AWL.nil ?_
    refine AWP.one (i := 16) (by kernel_rfl) rfl ?_
    refine AWL.unguard rfl rfl rfl (by simp [ms0, regF, updR] <;> rfl) ?_
    refine AWL.y rfl rfl (B rfl) (Yv.neq rfl (E rfl rfl) (E rfl rfl)) ?_
    refine AWL.nil ?_
    refine AWP.one (i := 17) (by kernel_rfl) rfl ?_
    refine AWL.y rfl rfl (B rfl) (Yv.pickOr (t := .const (.bool true)) rfl (E rfl rfl) (E rfl rfl)) ?_
    refine AWL.nil ?_
    refine AWP.one (i := 18) (by kernel_rfl) rfl ?_
    refine AWL.y rfl rfl (B rfl) (Yv.move rfl (E rfl rfl)) ?_
    refine AWL.nil ?_
    refine AWP.one (i := 19) (by kernel_rfl) rfl ?_
    refine AWL.unguard rfl rfl rfl (by simp [ms0, regF, updR] <;> rfl) ?_
    refine AWL.y rfl rfl (B rfl) (Yv.move rfl (E rfl rfl)) ?_
    refine AWL.nil ?_
    refine AWP.one (i := 20) (by kernel_rfl) rfl ?_
    refine AWL.unguard rfl rfl rfl (by simp [ms0, regF, updR] <;> rfl) ?_
    refine AWL.callF rfl rfl (B rfl) rfl ce_12 (E rfl rfl) (evsC (E rfl rfl) (evsC (E rfl rfl) evs0)) (F1 := [Ent.box b4 25 [zw e, .sl 4 (l0.flatMap segC)], Ent.map kn []]) (S1 := [Ent.box mb 73 (mcC (ms0 e) (.v (.pointer (some ⟨mm, 0, none⟩))) w (mapT kn))]) (F2 := ((Ent.box mm 102 [.sl 4 (l.flatMap seg0), mapT pg] :: memE 95 pg pgs) ++ (Ent.box db 91 (dcC 139637976727552#64 e (.sl 4 (l0.flatMap seg0)) (mapT dpg) (mapT dkn)) :: memE 97 dpg dpgs))) rfl (Reg12 mb (ms0 e) _ _ _ 4) ?_
    rintro t101 S101 ⟨rfl, rfl⟩
    refine AWL.nil ?_
    refine AWP.one (i := 21) (by kernel_rfl) rfl ?_
    refine AWL.unguard rfl rfl rfl (by simp [ms0, regF, updR] <;> rfl) ?_
    refine AWL.y rfl rfl (B rfl) (Yv.neqW (b := 139637976727552#64) rfl (E rfl rfl) (E rfl rfl)) ?_
    refine AWL.nil ?_
    refine AWP.one (i := 22) (by kernel_rfl) rfl ?_
    refine AWL.y rfl rfl (B rfl) (Yv.pickOr (t := .const (.bool true)) rfl (E rfl rfl) (E rfl rfl)) ?_
    refine AWL.nil ?_
    refine AWP.one (i := 23) (by kernel_rfl) rfl ?_
    refine AWL.y rfl rfl (B rfl) (Yv.move rfl (E rfl rfl)) ?_
    refine AWL.nil ?_
    refine AWP.one (i := 24) (by kernel_rfl) rfl ?_
    refine AWL.unguard rfl rfl rfl (by simp [ms0, regF, updR] <;> rfl) ?_
    refine AWL.y rfl rfl (B rfl) (Yv.move rfl (E rfl rfl)) ?_
    refine AWL.nil ?_
    refine AWP.one (i := 25) (by kernel_rfl) rfl ?_
    refine AWL.unguard rfl rfl rfl (by simp [ms0, regF, updR] <;> rfl) ?_
    refine AWL.callF rfl rfl (B rfl) rfl ce_12 (E rfl rfl) (evsC (E rfl rfl) (evsC (E rfl rfl) evs0)) (F1 := [Ent.box b4 25 [zw e, .sl 4 (l0.flatMap segC)], Ent.map kn []]) (S1 := [Ent.box mb 73 (mcC (ms0 e) (.v (.pointer (some ⟨mm, 0, none⟩))) w (mapT kn))]) (F2 := ((Ent.box mm 102 [.sl 4 (l.flatMap seg0), mapT pg] :: memE 95 pg pgs) ++ (Ent.box db 91 (dcC 139637976727552#64 e (.sl 4 (l0.flatMap seg0)) (mapT dpg) (mapT dkn)) :: memE 97 dpg dpgs))) rfl (Reg12 mb (ms0 e) _ _ _ 3) ?_
    rintro t106 S106 ⟨rfl, rfl⟩
    refine AWL.nil ?_
    refine AWP.one (i := 26) (by kernel_rfl) rfl ?_
    refine AWL.unguard rfl rfl rfl (by simp [ms0, regF, updR] <;> rfl) ?_
    refine AWL.y rfl rfl (B rfl) (Yv.neqW (b := 0#64) rfl (E rfl rfl) (E rfl rfl)) ?_
    refine AWL.nil ?_
    refine AWP.one (i := 27) (by kernel_rfl) rfl ?_
    refine AWL.y rfl rfl (B rfl) (Yv.pickOr (t := .const (.bool true)) rfl (E rfl rfl) (E rfl rfl)) ?_
    refine AWL.nil ?_
    refine AWP.one (i := 28) (by kernel_rfl) rfl ?_
    refine AWL.y rfl rfl (B rfl) (Yv.move rfl (E rfl rfl)) ?_
    refine AWL.nil ?_
    refine AWP.two (i := 29) (j := 31) (by kernel_rfl) rfl rfl ?_ ?_
    ·refine AWL.unguard rfl rfl rfl (by simp [ms0, regF, updR] <;> rfl) ?_
     refine AWL.y rfl rfl (B rfl) (Yv.move rfl (E rfl rfl)) ?_
     refine AWL.nil ?_
     refine AWP.two (i := 30) (j := 31) (by kernel_rfl) rfl rfl ?_ ?_
     ·refine AWL.unguard rfl rfl rfl (by simp [ms0, regF, updR] <;> rfl) ?_
      refine AWL.callF rfl rfl (B rfl) rfl ce_13 (E rfl rfl) (evsC (E rfl rfl) evs0) (F1 := [Ent.box b4 25 [zw e, .sl 4 (l0.flatMap segC)], Ent.map kn []]) (S1 := [Ent.box mb 73 (mcC (ms0 e) (.v (.pointer (some ⟨mm, 0, none⟩))) w (mapT kn))]) (F2 := ((Ent.box mm 102 [.sl 4 (l.flatMap seg0), mapT pg] :: memE 95 pg pgs) ++ (Ent.box db 91 (dcC 139637976727552#64 e (.sl 4 (l0.flatMap seg0)) (mapT dpg) (mapT dkn)) :: memE 97 dpg dpgs))) rfl (Flags13 mb (ms0 e) _ _ _) ?_
      rintro t111 S111 ⟨rfl, E30, rfl⟩
      refine AWL.dropAt 3 ?_
      refine AWL.nil ?_
      refine AWP.one (i := 31) (by kernel_rfl) rfl ?_
      refine AWL.unguard rfl rfl rfl (by simp [ms0, regF, updR] <;> rfl) ?_
      refine AWL.y rfl rfl (B rfl) (Yv.buildS rfl sh_48 evp0 (fun _ => rfl)) ?_
      refine AWL.nil ?_
      refine AWP.one (i := 32) (by kernel_rfl) rfl ?_
      refine AWL.unguard rfl rfl rfl (by simp [ms0, regF, updR] <;> rfl) ?_
      refine AWL.y rfl rfl (B rfl) (Yv.neqA rfl fl_48 (E rfl rfl) (E rfl rfl) rfl rfl rfl) ?_
      refine AWL.nil ?_
      refine AWP.one (i := 33) (by kernel_rfl) rfl ?_
      refine AWL.y rfl rfl (B rfl) (Yv.pickOr (t := .const (.bool true)) rfl (E rfl rfl) (E rfl rfl)) ?_
      refine AWL.nil ?_
      refine AWP.done (by kernel_rfl) ?_
      exact ⟨(), trivial, (Sub.cons rfl rfl (Sub.cons rfl rfl (Sub.cons rfl rfl (Sub.cons rfl rfl (Sub.cons rfl rfl (Sub.cons rfl rfl (Sub.cons rfl rfl (Sub.cons rfl (congrArg (fun b => T.v (.bool b)) (by simp [ms0, regF, updR] <;> rfl)) Sub.nil)))))))), rfl⟩
     refine AWL.unguard rfl rfl rfl (by simp [ms0, regF, updR] <;> rfl) ?_
     refine AWL.y rfl rfl (B rfl) (Yv.buildS rfl sh_48 evp0 (fun _ => rfl)) ?_
     refine AWL.nil ?_
     refine AWP.one (i := 30) (by kernel_rfl) rfl ?_
     refine AWL.unguard rfl rfl rfl (by simp [ms0, regF, updR] <;> rfl) ?_
     refine AWL.callF rfl rfl (B rfl) rfl ce_13 (E rfl rfl) (evsC (E rfl rfl) evs0) (F1 := [Ent.box b4 25 [zw e, .sl 4 (l0.flatMap segC)], Ent.map kn []]) (S1 := [Ent.box mb 73 (mcC (ms0 e) (.v (.pointer (some ⟨mm, 0, none⟩))) w (mapT kn))]) (F2 := ((Ent.box mm 102 [.sl 4 (l.flatMap seg0), mapT pg] :: memE 95 pg pgs) ++ (Ent.box db 91 (dcC 139637976727552#64 e (.sl 4 (l0.flatMap seg0)) (mapT dpg) (mapT dkn)) :: memE 97 dpg dpgs))) rfl (Flags13 mb (ms0 e) _ _ _) ?_
     rintro t111 S111 ⟨rfl, E30, rfl⟩
     refine AWL.dropAt 3 ?_
     refine AWL.nil ?_
     refine AWP.one (i := 32) (by kernel_rfl) rfl ?_
     refine AWL.unguard rfl rfl rfl (by simp [ms0, regF, updR] <;> rfl) ?_
     refine AWL.y rfl rfl (B rfl) (Yv.neqA rfl fl_48 (E rfl rfl) (E rfl rfl) rfl rfl rfl) ?_
     refine AWL.nil ?_
     refine AWP.one (i := 33) (by kernel_rfl) rfl ?_
     refine AWL.y rfl rfl (B rfl) (Yv.pickOr (t := .const (.bool true)) rfl (E rfl rfl) (E rfl rfl)) ?_
     refine AWL.nil ?_
     refine AWP.done (by kernel_rfl) ?_
     exact ⟨(), trivial, (Sub.cons rfl rfl (Sub.cons rfl rfl (Sub.cons rfl rfl (Sub.cons rfl rfl (Sub.cons rfl rfl (Sub.cons rfl rfl (Sub.cons rfl rfl (Sub.cons rfl (congrArg (fun b => T.v (.bool b)) (by simp [ms0, regF, updR] <;> rfl)) Sub.nil)))))))), rfl⟩
    refine AWL.unguard rfl rfl rfl (by simp [ms0, regF, updR] <;> rfl) ?_
    refine AWL.y rfl rfl (B rfl) (Yv.buildS rfl sh_48 evp0 (fun _ => rfl)) ?_
    refine AWL.nil ?_
    refine AWP.one (i := 29) (by kernel_rfl) rfl ?_
    refine AWL.unguard rfl rfl rfl (by simp [ms0, regF, updR] <;> rfl) ?_
    refine AWL.y rfl rfl (B rfl) (Yv.move rfl (E rfl rfl)) ?_
    refine AWL.nil ?_
    refine AWP.one (i := 30) (by kernel_rfl) rfl ?_
    refine AWL.unguard rfl rfl rfl (by simp [ms0, regF, updR] <;> rfl) ?_
    refine AWL.callF rfl rfl (B rfl) rfl ce_13 (E rfl rfl) (evsC (E rfl rfl) evs0) (F1 := [Ent.box b4 25 [zw e, .sl 4 (l0.flatMap segC)], Ent.map kn []]) (S1 := [Ent.box mb 73 (mcC (ms0 e) (.v (.pointer (some ⟨mm, 0, none⟩))) w (mapT kn))]) (F2 := ((Ent.box mm 102 [.sl 4 (l.flatMap seg0), mapT pg] :: memE 95 pg pgs) ++ (Ent.box db 91 (dcC 139637976727552#64 e (.sl 4 (l0.flatMap seg0)) (mapT dpg) (mapT dkn)) :: memE 97 dpg dpgs))) rfl (Flags13 mb (ms0 e) _ _ _) ?_
    rintro t111 S111 ⟨rfl, E30, rfl⟩
    refine AWL.dropAt 3 ?_
    refine AWL.nil ?_
    refine AWP.one (i := 32) (by kernel_rfl) rfl ?_
    refine AWL.unguard rfl rfl rfl (by simp [ms0, regF, updR] <;> rfl) ?_
    refine AWL.y rfl rfl (B rfl) (Yv.neqA rfl fl_48 (E rfl rfl) (E rfl rfl) rfl rfl rfl) ?_
    refine AWL.nil ?_
    refine AWP.one (i := 33) (by kernel_rfl) rfl ?_
    refine AWL.y rfl rfl (B rfl) (Yv.pickOr (t := .const (.bool true)) rfl (E rfl rfl) (E rfl rfl)) ?_
    refine AWL.nil ?_
    refine AWP.done (by kernel_rfl) ?_
    exact ⟨(), trivial, (Sub.cons rfl rfl (Sub.cons rfl rfl (Sub.cons rfl rfl (Sub.cons rfl rfl (Sub.cons rfl rfl (Sub.cons rfl rfl (Sub.cons rfl rfl (Sub.cons rfl (congrArg (fun b => T.v (.bool b)) (by simp [ms0, regF, updR] <;> rfl)) Sub.nil)))))))), rfl⟩
   refine AWL.unguard rfl rfl rfl (by simp [ms0, regF, updR] <;> rfl) ?_
   refine AWL.y rfl rfl (B rfl) (Yv.fieldBox rfl fo_25_0 (E rfl rfl)) ?_
   refine AWL.nil ?_
   refine AWP.two (i := 8) (j := 10) (by kernel_rfl) rfl rfl ?_ ?_
   ·refine AWL.unguard rfl rfl rfl (by simp [ms0, regF, updR] <;> rfl) ?_
    refine AWL.callF rfl rfl (B rfl) rfl ce_10 (E rfl rfl) (evsC (E rfl rfl) evs0) (F1 := [Ent.box b4 25 [zw e, .sl 4 (l0.flatMap segC)], Ent.map kn []]) (S1 := [Ent.box mb 73 (mcC (ms0 e) (.v (.pointer (some ⟨mm, 0, none⟩))) w (mapT kn))]) (F2 := ((Ent.box mm 102 [.sl 4 (l.flatMap seg0), mapT pg] :: memE 95 pg pgs) ++ (Ent.box db 91 (dcC 139637976727552#64 e (.sl 4 (l0.flatMap seg0)) (mapT dpg) (mapT dkn)) :: memE 97 dpg dpgs))) rfl (At10 mb (ms0 e) _ _ _) ?_
    rintro t89 S89 ⟨rfl, rfl⟩
    refine AWL.nil ?_
    refine AWP.one (i := 10) (by kernel_rfl) rfl ?_
    refine AWL.unguard rfl rfl rfl (by simp [ms0, regF, updR] <;> rfl) ?_
    refine AWL.y rfl rfl (B rfl) (Yv.loadBox rfl ag_22 (i := 0) rfl (E rfl rfl) rfl) ?_
    refine AWL.nil ?_
    refine AWP.one (i := 11) (by kernel_rfl) rfl ?_
    refine AWL.unguard rfl rfl rfl (by simp [ms0, regF, updR] <;> rfl) ?_
    refine AWL.y rfl rfl (B rfl) (Yv.neqW rfl (E rfl rfl) (E rfl rfl)) ?_
    refine AWL.nil ?_
    refine AWP.one (i := 12) (by kernel_rfl) rfl ?_
    refine AWL.y rfl rfl (B rfl) (Yv.pickOr (t := .const (.bool true)) rfl (E rfl rfl) (E rfl rfl)) ?_
    refine AWL.nil ?_
    refine AWP.one (i := 13) (by kernel_rfl) rfl ?_
    refine AWL.y rfl rfl (B rfl) (Yv.move rfl (E rfl rfl)) ?_
    refine AWL.nil ?_
    refine AWP.one (i := 14) (by kernel_rfl) rfl ?_
    refine AWL.unguard rfl rfl rfl (by simp [ms0, regF, updR] <;> rfl) ?_
    refine AWL.y rfl rfl (B rfl) (Yv.move rfl (E rfl rfl)) ?_
    refine AWL.nil ?_
    refine AWP.one (i := 15) (by kernel_rfl) rfl ?_
    refine AWL.unguard rfl rfl rfl (by simp [ms0, regF, updR] <;> rfl) ?_
    refine AWL.callF rfl rfl (B rfl) rfl ce_11 (E rfl rfl) (evsC (E rfl rfl) evs0) (F1 := [Ent.box b4 25 [zw e, .sl 4 (l0.flatMap segC)], Ent.map kn []]) (S1 := [Ent.box mb 73 (mcC (ms0 e) (.v (.pointer (some ⟨mm, 0, none⟩))) w (mapT kn))]) (F2 := ((Ent.box mm 102 [.sl 4 (l.flatMap seg0), mapT pg] :: memE 95 pg pgs) ++ (Ent.box db 91 (dcC 139637976727552#64 e (.sl 4 (l0.flatMap seg0)) (mapT dpg) (mapT dkn)) :: memE 97 dpg dpgs))) rfl (Steps11 mb (ms0 e) _ _ _) ?_
    rintro t96 S96 ⟨rfl, rfl⟩
    refine AWL.nil ?_
    refine AWP.one (i := 16) (by kernel_rfl) rfl ?_
    refine AWL.unguard rfl rfl rfl (by simp [ms0, regF, updR] <;> rfl) ?_
    refine AWL.y rfl rfl (B rfl) (Yv.neq rfl (E rfl rfl) (E rfl rfl)) ?_
    refine AWL.nil ?_
    refine AWP.one (i := 17) (by kernel_rfl) rfl ?_
    refine AWL.y rfl rfl (B rfl) (Yv.pickOr (t := .const (.bool true)) rfl (E rfl rfl) (E rfl rfl)) ?_
    refine AWL.nil ?_
    refine AWP.one (i := 18) (by kernel_rfl) rfl ?_
    refine AWL.y rfl rfl (B rfl) (Yv.move rfl (E rfl rfl)) ?_
    refine AWL.nil ?_
    refine AWP.one (i := 19) (by kernel_rfl) rfl ?_
    refine AWL.unguard rfl rfl rfl (by simp [ms0, regF, updR] <;> rfl) ?_
    refine AWL.y rfl rfl (B rfl) (Yv.move rfl (E rfl rfl)) ?_
    refine AWL.nil ?_
    refine AWP.one (i := 20) (by kernel_rfl) rfl ?_
    refine AWL.unguard rfl rfl rfl (by simp [ms0, regF, updR] <;> rfl) ?_
    refine AWL.callF rfl rfl (B rfl) rfl ce_12 (E rfl rfl) (evsC (E rfl rfl) (evsC (E rfl rfl) evs0)) (F1 := [Ent.box b4 25 [zw e, .sl 4 (l0.flatMap segC)], Ent.map kn []]) (S1 := [Ent.box mb 73 (mcC (ms0 e) (.v (.pointer (some ⟨mm, 0, none⟩))) w (mapT kn))]) (F2 := ((Ent.box mm 102 [.sl 4 (l.flatMap seg0), mapT pg] :: memE 95 pg pgs) ++ (Ent.box db 91 (dcC 139637976727552#64 e (.sl 4 (l0.flatMap seg0)) (mapT dpg) (mapT dkn)) :: memE 97 dpg dpgs))) rfl (Reg12 mb (ms0 e) _ _ _ 4) ?_
    rintro t101 S101 ⟨rfl, rfl⟩
    refine AWL.nil ?_
    refine AWP.one (i := 21) (by kernel_rfl) rfl ?_
    refine AWL.unguard rfl rfl rfl (by simp [ms0, regF, updR] <;> rfl) ?_
    refine AWL.y rfl rfl (B rfl) (Yv.neqW (b := 139637976727552#64) rfl (E rfl rfl) (E rfl rfl)) ?_
    refine AWL.nil ?_
    refine AWP.one (i := 22) (by kernel_rfl) rfl ?_
    refine AWL.y rfl rfl (B rfl) (Yv.pickOr (t := .const (.bool true)) rfl (E rfl rfl) (E rfl rfl)) ?_
    refine AWL.nil ?_
    refine AWP.one (i := 23) (by kernel_rfl) rfl ?_
    refine AWL.y rfl rfl (B rfl) (Yv.move rfl (E rfl rfl)) ?_
    refine AWL.nil ?_
    refine AWP.one (i := 24) (by kernel_rfl) rfl ?_
    refine AWL.unguard rfl rfl rfl (by simp [ms0, regF, updR] <;> rfl) ?_
    refine AWL.y rfl rfl (B rfl) (Yv.move rfl (E rfl rfl)) ?_
    refine AWL.nil ?_
    refine AWP.one (i := 25) (by kernel_rfl) rfl ?_
    refine AWL.unguard rfl rfl rfl (by simp [ms0, regF, updR] <;> rfl) ?_
    refine AWL.callF rfl rfl (B rfl) rfl ce_12 (E rfl rfl) (evsC (E rfl rfl) (evsC (E rfl rfl) evs0)) (F1 := [Ent.box b4 25 [zw e, .sl 4 (l0.flatMap segC)], Ent.map kn []]) (S1 := [Ent.box mb 73 (mcC (ms0 e) (.v (.pointer (some ⟨mm, 0, none⟩))) w (mapT kn))]) (F2 := ((Ent.box mm 102 [.sl 4 (l.flatMap seg0), mapT pg] :: memE 95 pg pgs) ++ (Ent.box db 91 (dcC 139637976727552#64 e (.sl 4 (l0.flatMap seg0)) (mapT dpg) (mapT dkn)) :: memE 97 dpg dpgs))) rfl (Reg12 mb (ms0 e) _ _ _ 3) ?_
    rintro t106 S106 ⟨rfl, rfl⟩
    refine AWL.nil ?_
    refine AWP.one (i := 26) (by kernel_rfl) rfl ?_
    refine AWL.unguard rfl rfl rfl (by simp [ms0, regF, updR] <;> rfl) ?_
    refine AWL.y rfl rfl (B rfl) (Yv.neqW (b := 0#64) rfl (E rfl rfl) (E rfl rfl)) ?_
    refine AWL.nil ?_
    refine AWP.one (i := 27) (by kernel_rfl) rfl ?_
    refine AWL.y rfl rfl (B rfl) (Yv.pickOr (t := .const (.bool true)) rfl (E rfl rfl) (E rfl rfl)) ?_
    refine AWL.nil ?_
    refine AWP.one (i := 28) (by kernel_rfl) rfl ?_
    refine AWL.y rfl rfl (B rfl) (Yv.move rfl (E rfl rfl)) ?_
    refine AWL.nil ?_
    refine AWP.two (i := 29) (j := 31) (by kernel_rfl) rfl rfl ?_ ?_
    ·refine AWL.unguard rfl rfl rfl (by simp [ms0, regF, updR] <;> rfl) ?_
     refine AWL.y rfl rfl (B rfl) (Yv.move rfl (E rfl rfl)) ?_
     refine AWL.nil ?_
     refine AWP.two (i := 30) (j := 31) (by kernel_rfl) rfl rfl ?_ ?_
     ·refine AWL.unguard rfl rfl rfl (by simp [ms0, regF, updR] <;> rfl) ?_
      refine AWL.callF rfl rfl (B rfl) rfl ce_13 (E rfl rfl) (evsC (E rfl rfl) evs0) (F1 := [Ent.box b4 25 [zw e, .sl 4 (l0.flatMap segC)], Ent.map kn []]) (S1 := [Ent.box mb 73 (mcC (ms0 e) (.v (.pointer (some ⟨mm, 0, none⟩))) w (mapT kn))]) (F2 := ((Ent.box mm 102 [.sl 4 (l.flatMap seg0), mapT pg] :: memE 95 pg pgs) ++ (Ent.box db 91 (dcC 139637976727552#64 e (.sl 4 (l0.flatMap seg0)) (mapT dpg) (mapT dkn)) :: memE 97 dpg dpgs))) rfl (Flags13 mb (ms0 e) _ _ _) ?_
      rintro t111 S111 ⟨rfl, E30, rfl⟩
      refine AWL.dropAt 3 ?_
      refine AWL.nil ?_
      refine AWP.one (i := 31) (by kernel_rfl) rfl ?_
      refine AWL.unguard rfl rfl rfl (by simp [ms0, regF, updR] <;> rfl) ?_
      refine AWL.y rfl rfl (B rfl) (Yv.buildS rfl sh_48 evp0 (fun _ => rfl)) ?_
      refine AWL.nil ?_
      refine AWP.one (i := 32) (by kernel_rfl) rfl ?_
      refine AWL.unguard rfl rfl rfl (by simp [ms0, regF, updR] <;> rfl) ?_
      refine AWL.y rfl rfl (B rfl) (Yv.neqA rfl fl_48 (E rfl rfl) (E rfl rfl) rfl rfl rfl) ?_
      refine AWL.nil ?_
      refine AWP.one (i := 33) (by kernel_rfl) rfl ?_
      refine AWL.y rfl rfl (B rfl) (Yv.pickOr (t := .const (.bool true)) rfl (E rfl rfl) (E rfl rfl)) ?_
      refine AWL.nil ?_
      refine AWP.done (by kernel_rfl) ?_
      exact ⟨(), trivial, (Sub.cons rfl rfl (Sub.cons rfl rfl (Sub.cons rfl rfl (Sub.cons rfl rfl (Sub.cons rfl rfl (Sub.cons rfl rfl (Sub.cons rfl rfl (Sub.cons rfl (congrArg (fun b => T.v (.bool b)) (by simp [ms0, regF, updR] <;> rfl)) Sub.nil)))))))), rfl⟩
     refine AWL.unguard rfl rfl rfl (by simp [ms0, regF, updR] <;> rfl) ?_
     refine AWL.y rfl rfl (B rfl) (Yv.buildS rfl sh_48 evp0 (fun _ => rfl)) ?_
     refine AWL.nil ?_
     refine AWP.one (i := 30) (by kernel_rfl) rfl ?_
     refine AWL.unguard rfl rfl rfl (by simp [ms0, regF, updR] <;> rfl) ?_
     refine AWL.callF rfl rfl (B rfl) rfl ce_13 (E rfl rfl) (evsC (E rfl rfl) evs0) (F1 := [Ent.box b4 25 [zw e, .sl 4 (l0.flatMap segC)], Ent.map kn []]) (S1 := [Ent.box mb 73 (mcC (ms0 e) (.v (.pointer (some ⟨mm, 0, none⟩))) w (mapT kn))]) (F2 := ((Ent.box mm 102 [.sl 4 (l.flatMap seg0), mapT pg] :: memE 95 pg pgs) ++ (Ent.box db 91 (dcC 139637976727552#64 e (.sl 4 (l0.flatMap seg0)) (mapT dpg) (mapT dkn)) :: memE 97 dpg dpgs))) rfl (Flags13 mb (ms0 e) _ _ _) ?_
     rintro t111 S111 ⟨rfl, E30, rfl⟩
     refine AWL.dropAt 3 ?_
     refine AWL.nil ?_
     refine AWP.one (i := 32) (by kernel_rfl) rfl ?_
     refine AWL.unguard rfl rfl rfl (by simp [ms0, regF, updR] <;> rfl) ?_
     refine AWL.y rfl rfl (B rfl) (Yv.neqA rfl fl_48 (E rfl rfl) (E rfl rfl) rfl rfl rfl) ?_
     refine AWL.nil ?_
     refine AWP.one (i := 33) (by kernel_rfl) rfl ?_
     refine AWL.y rfl rfl (B rfl) (Yv.pickOr (t := .const (.bool true)) rfl (E rfl rfl) (E rfl rfl)) ?_
     refine AWL.nil ?_
     refine AWP.done (by kernel_rfl) ?_
     exact ⟨(), trivial, (Sub.cons rfl rfl (Sub.cons rfl rfl (Sub.cons rfl rfl (Sub.cons rfl rfl (Sub.cons rfl rfl (Sub.cons rfl rfl (Sub.cons rfl rfl (Sub.cons rfl (congrArg (fun b => T.v (.bool b)) (by simp [ms0, regF, updR] <;> rfl)) Sub.nil)))))))), rfl⟩
    refine AWL.unguard rfl rfl rfl (by simp [ms0, regF, updR] <;> rfl) ?_
    refine AWL.y rfl rfl (B rfl) (Yv.buildS rfl sh_48 evp0 (fun _ => rfl)) ?_
    refine AWL.nil ?_
    refine AWP.one (i := 29) (by kernel_rfl) rfl ?_
    refine AWL.unguard rfl rfl rfl (by simp [ms0, regF, updR] <;> rfl) ?_
    refine AWL.y rfl rfl (B rfl) (Yv.move rfl (E rfl rfl)) ?_
    refine AWL.nil ?_
    refine AWP.one (i := 30) (by kernel_rfl) rfl ?_
    refine AWL.unguard rfl rfl rfl (by simp [ms0, regF, updR] <;> rfl) ?_
    refine AWL.callF rfl rfl (B rfl) rfl ce_13 (E rfl rfl) (evsC (E rfl rfl) evs0) (F1 := [Ent.box b4 25 [zw e, .sl 4 (l0.flatMap segC)], Ent.map kn []]) (S1 := [Ent.box mb 73 (mcC (ms0 e) (.v (.pointer (some ⟨mm, 0, none⟩))) w (mapT kn))]) (F2 := ((Ent.box mm 102 [.sl 4 (l.flatMap seg0), mapT pg] :: memE 95 pg pgs) ++ (Ent.box db 91 (dcC 139637976727552#64 e (.sl 4 (l0.flatMap seg0)) (mapT dpg) (mapT dkn)) :: memE 97 dpg dpgs))) rfl (Flags13 mb (ms0 e) _ _ _) ?_
    rintro t111 S111 ⟨rfl, E30, rfl⟩
    refine AWL.dropAt 3 ?_
    refine AWL.nil ?_
    refine AWP.one (i := 32) (by kernel_rfl) rfl ?_
    refine AWL.unguard rfl rfl rfl (by simp [ms0, regF, updR] <;> rfl) ?_
    refine AWL.y rfl rfl (B rfl) (Yv.neqA rfl fl_48 (E rfl rfl) (E rfl rfl) rfl rfl rfl) ?_
    refine AWL.nil ?_
    refine AWP.one (i := 33) (by kernel_rfl) rfl ?_
    refine AWL.y rfl rfl (B rfl) (Yv.pickOr (t := .const (.bool true)) rfl (E rfl rfl) (E rfl rfl)) ?_
    refine AWL.nil ?_
    refine AWP.done (by kernel_rfl) ?_
    exact ⟨(), trivial, (Sub.cons rfl rfl (Sub.cons rfl rfl (Sub.cons rfl rfl (Sub.cons rfl rfl (Sub.cons rfl rfl (Sub.cons rfl rfl (Sub.cons rfl rfl (Sub.cons rfl (congrArg (fun b => T.v (.bool b)) (by simp [ms0, regF, updR] <;> rfl)) Sub.nil)))))))), rfl⟩
   refine AWL.unguard rfl rfl rfl (by simp [ms0, regF, updR] <;> rfl) ?_
   refine AWL.y rfl rfl (B rfl) (Yv.loadBox rfl ag_22 (i := 0) rfl (E rfl rfl) rfl) ?_
   refine AWL.nil ?_
   refine AWP.one (i := 8) (by kernel_rfl) rfl ?_
   refine AWL.unguard rfl rfl rfl (by simp [ms0, regF, updR] <;> rfl) ?_
   refine AWL.callF rfl rfl (B rfl) rfl ce_10 (E rfl rfl) (evsC (E rfl rfl) evs0) (F1 := [Ent.box b4 25 [zw e, .sl 4 (l0.flatMap segC)], Ent.map kn []]) (S1 := [Ent.box mb 73 (mcC (ms0 e) (.v (.pointer (some ⟨mm, 0, none⟩))) w (mapT kn))]) (F2 := ((Ent.box mm 102 [.sl 4 (l.flatMap seg0), mapT pg] :: memE 95 pg pgs) ++ (Ent.box db 91 (dcC 139637976727552#64 e (.sl 4 (l0.flatMap seg0)) (mapT dpg) (mapT dkn)) :: memE 97 dpg dpgs))) rfl (At10 mb (ms0 e) _ _ _) ?_
   rintro t89 S89 ⟨rfl, rfl⟩
   refine AWL.nil ?_
   refine AWP.one (i := 11) (by kernel_rfl) rfl ?_
   refine AWL.unguard rfl rfl rfl (by simp [ms0, regF, updR] <;> rfl) ?_
   refine AWL.y rfl rfl (B rfl) (Yv.neqW rfl (E rfl rfl) (E rfl rfl)) ?_
   refine AWL.nil ?_
   refine AWP.one (i := 12) (by kernel_rfl) rfl ?_
   refine AWL.y rfl rfl (B rfl) (Yv.pickOr (t := .const (.bool true)) rfl (E rfl rfl) (E rfl rfl)) ?_
   refine AWL.nil ?_
   refine AWP.one (i := 13) (by kernel_rfl) rfl ?_
   refine AWL.y rfl rfl (B rfl) (Yv.move rfl (E rfl rfl)) ?_
   refine AWL.nil ?_
   refine AWP.one (i := 14) (by kernel_rfl) rfl ?_
   refine AWL.unguard rfl rfl rfl (by simp [ms0, regF, updR] <;> rfl) ?_
   refine AWL.y rfl rfl (B rfl) (Yv.move rfl (E rfl rfl)) ?_
   refine AWL.nil ?_
   refine AWP.one (i := 15) (by kernel_rfl) rfl ?_
   refine AWL.unguard rfl rfl rfl (by simp [ms0, regF, updR] <;> rfl) ?_
   refine AWL.callF rfl rfl (B rfl) rfl ce_11 (E rfl rfl) (evsC (E rfl rfl) evs0) (F1 := [Ent.box b4 25 [zw e, .sl 4 (l0.flatMap segC)], Ent.map kn []]) (S1 := [Ent.box mb 73 (mcC (ms0 e) (.v (.pointer (some ⟨mm, 0, none⟩))) w (mapT kn))]) (F2 := ((Ent.box mm 102 [.sl 4 (l.flatMap seg0), mapT pg] :: memE 95 pg pgs) ++ (Ent.box db 91 (dcC 139637976727552#64 e (.sl 4 (l0.flatMap seg0)) (mapT dpg) (mapT dkn)) :: memE 97 dpg dpgs))) rfl (Steps11 mb (ms0 e) _ _ _) ?_
   rintro t96 S96 ⟨rfl, rfl⟩
   refine AWL.nil ?_
   refine AWP.one (i := 16) (by kernel_rfl) rfl ?_
   refine AWL.unguard rfl rfl rfl (by simp [ms0, regF, updR] <;> rfl) ?_
   refine AWL.y rfl rfl (B rfl) (Yv.neq rfl (E rfl rfl) (E rfl rfl)) ?_
   refine AWL.nil ?_
   refine AWP.one (i := 17) (by kernel_rfl) rfl ?_
   refine AWL.y rfl rfl (B rfl) (Yv.pickOr (t := .const (.bool true)) rfl (E rfl rfl) (E rfl rfl)) ?_
   refine AWL.nil ?_
   refine AWP.one (i := 18) (by kernel_rfl) rfl ?_
   refine AWL.y rfl rfl (B rfl) (Yv.move rfl (E rfl rfl)) ?_
   refine AWL.nil ?_
   refine AWP.one (i := 19) (by kernel_rfl) rfl ?_
   refine AWL.unguard rfl rfl rfl (by simp [ms0, regF, updR] <;> rfl) ?_
   refine AWL.y rfl rfl (B rfl) (Yv.move rfl (E rfl rfl)) ?_
   refine AWL.nil ?_
   refine AWP.one (i := 20) (by kernel_rfl) rfl ?_
   refine AWL.unguard rfl rfl rfl (by simp [ms0, regF, updR] <;> rfl) ?_
   refine AWL.callF rfl rfl (B rfl) rfl ce_12 (E rfl rfl) (evsC (E rfl rfl) (evsC (E rfl rfl) evs0)) (F1 := [Ent.box b4 25 [zw e, .sl 4 (l0.flatMap segC)], Ent.map kn []]) (S1 := [Ent.box mb 73 (mcC (ms0 e) (.v (.pointer (some ⟨mm, 0, none⟩))) w (mapT kn))]) (F2 := ((Ent.box mm 102 [.sl 4 (l.flatMap seg0), mapT pg] :: memE 95 pg pgs) ++ (Ent.box db 91 (dcC 139637976727552#64 e (.sl 4 (l0.flatMap seg0)) (mapT dpg) (mapT dkn)) :: memE 97 dpg dpgs))) rfl (Reg12 mb (ms0 e) _ _ _ 4) ?_
   rintro t101 S101 ⟨rfl, rfl⟩
   refine AWL.nil ?_
   refine AWP.one (i := 21) (by kernel_rfl) rfl ?_
   refine AWL.unguard rfl rfl rfl (by simp [ms0, regF, updR] <;> rfl) ?_
   refine AWL.y rfl rfl (B rfl) (Yv.neqW (b := 139637976727552#64) rfl (E rfl rfl) (E rfl rfl)) ?_
   refine AWL.nil ?_
   refine AWP.one (i := 22) (by kernel_rfl) rfl ?_
   refine AWL.y rfl rfl (B rfl) (Yv.pickOr (t := .const (.bool true)) rfl (E rfl rfl) (E rfl rfl)) ?_
   refine AWL.nil ?_
   refine AWP.one (i := 23) (by kernel_rfl) rfl ?_
   refine AWL.y rfl rfl (B rfl) (Yv.move rfl (E rfl rfl)) ?_
   refine AWL.nil ?_
   refine AWP.one (i := 24) (by kernel_rfl) rfl ?_
   refine AWL.unguard rfl rfl rfl (by simp [ms0, regF, updR] <;> rfl) ?_
   refine AWL.y rfl rfl (B rfl) (Yv.move rfl (E rfl rfl)) ?_
   refine AWL.nil ?_
   refine AWP.one (i := 25) (by kernel_rfl) rfl ?_
   refine AWL.unguard rfl rfl rfl (by simp [ms0, regF, updR] <;> rfl) ?_
   refine AWL.callF rfl rfl (B rfl) rfl ce_12 (E rfl rfl) (evsC (E rfl rfl) (evsC (E rfl rfl) evs0)) (F1 := [Ent.box b4 25 [zw e, .sl 4 (l0.flatMap segC)], Ent.map kn []]) (S1 := [Ent.box mb 73 (mcC (ms0 e) (.v (.pointer (some ⟨mm, 0, none⟩))) w (mapT kn))]) (F2 := ((Ent.box mm 102 [.sl 4 (l.flatMap seg0), mapT pg] :: memE 95 pg pgs) ++ (Ent.box db 91 (dcC 139637976727552#64 e (.sl 4 (l0.flatMap seg0)) (mapT dpg) (mapT dkn)) :: memE 97 dpg dpgs))) rfl (Reg12 mb (ms0 e) _ _ _ 3) ?_
   rintro t106 S106 ⟨rfl, rfl⟩
   refine AWL.nil ?_
   refine AWP.one (i := 26) (by kernel_rfl) rfl ?_
   refine AWL.unguard rfl rfl rfl (by simp [ms0, regF, updR] <;> rfl) ?_
   refine AWL.y rfl rfl (B rfl) (Yv.neqW (b := 0#64) rfl (E rfl rfl) (E rfl rfl)) ?_
   refine AWL.nil ?_
   refine AWP.one (i := 27) (by kernel_rfl) rfl ?_
   refine AWL.y rfl rfl (B rfl) (Yv.pickOr (t := .const (.bool true)) rfl (E rfl rfl) (E rfl rfl)) ?_
   refine AWL.nil ?_
   refine AWP.one (i := 28) (by kernel_rfl) rfl ?_
   refine AWL.y rfl rfl (B rfl) (Yv.move rfl (E rfl rfl)) ?_
   refine AWL.nil ?_
   refine AWP.two (i := 29) (j := 31) (by kernel_rfl) rfl rfl ?_ ?_
   ·refine AWL.unguard rfl rfl rfl (by simp [ms0, regF, updR] <;> rfl) ?_
    refine AWL.y rfl rfl (B rfl) (Yv.move rfl (E rfl rfl)) ?_
    refine AWL.nil ?_
    refine AWP.two (i := 30) (j := 31) (by kernel_rfl) rfl rfl ?_ ?_
    ·refine AWL.unguard rfl rfl rfl (by simp [ms0, regF, updR] <;> rfl) ?_
     refine AWL.callF rfl rfl (B rfl) rfl ce_13 (E rfl rfl) (evsC (E rfl rfl) evs0) (F1 := [Ent.box b4 25 [zw e, .sl 4 (l0.flatMap segC)], Ent.map kn []]) (S1 := [Ent.box mb 73 (mcC (ms0 e) (.v (.pointer (some ⟨mm, 0, none⟩))) w (mapT kn))]) (F2 := ((Ent.box mm 102 [.sl 4 (l.flatMap seg0), mapT pg] :: memE 95 pg pgs) ++ (Ent.box db 91 (dcC 139637976727552#64 e (.sl 4 (l0.flatMap seg0)) (mapT dpg) (mapT dkn)) :: memE 97 dpg dpgs))) rfl (Flags13 mb (ms0 e) _ _ _) ?_
     rintro t111 S111 ⟨rfl, E30, rfl⟩
     refine AWL.dropAt 3 ?_
     refine AWL.nil ?_
     refine AWP.one (i := 31) (by kernel_rfl) rfl ?_
     refine AWL.unguard rfl rfl rfl (by simp [ms0, regF, updR] <;> rfl) ?_
     refine AWL.y rfl rfl (B rfl) (Yv.buildS rfl sh_48 evp0 (fun _ => rfl)) ?_
     refine AWL.nil ?_
     refine AWP.one (i := 32) (by kernel_rfl) rfl ?_
     refine AWL.unguard rfl rfl rfl (by simp [ms0, regF, updR] <;> rfl) ?_
     refine AWL.y rfl rfl (B rfl) (Yv.neqA rfl fl_48 (E rfl rfl) (E rfl rfl) rfl rfl rfl) ?_
     refine AWL.nil ?_
     refine AWP.one (i := 33) (by kernel_rfl) rfl ?_
     refine AWL.y rfl rfl (B rfl) (Yv.pickOr (t := .const (.bool true)) rfl (E rfl rfl) (E rfl rfl)) ?_
     refine AWL.nil ?_
     refine AWP.done (by kernel_rfl) ?_
     exact ⟨(), trivial, (Sub.cons rfl rfl (Sub.cons rfl rfl (Sub.cons rfl rfl (Sub.cons rfl rfl (Sub.cons rfl rfl (Sub.cons rfl rfl (Sub.cons rfl rfl (Sub.cons rfl (congrArg (fun b => T.v (.bool b)) (by simp [ms0, regF, updR] <;> rfl)) Sub.nil)))))))), rfl⟩
    refine AWL.unguard rfl rfl rfl (by simp [ms0, regF, updR] <;> rfl) ?_
    refine AWL.y rfl rfl (B rfl) (Yv.buildS rfl sh_48 evp0 (fun _ => rfl)) ?_
    refine AWL.nil ?_
    refine AWP.one (i := 30) (by kernel_rfl) rfl ?_
    refine AWL.unguard rfl rfl rfl (by simp [ms0, regF, updR] <;> rfl) ?_
    refine AWL.callF rfl rfl (B rfl) rfl ce_13 (E rfl rfl) (evsC (E rfl rfl) evs0) (F1 := [Ent.box b4 25 [zw e, .sl 4 (l0.flatMap segC)], Ent.map kn []]) (S1 := [Ent.box mb 73 (mcC (ms0 e) (.v (.pointer (some ⟨mm, 0, none⟩))) w (mapT kn))]) (F2 := ((Ent.box mm 102 [.sl 4 (l.flatMap seg0), mapT pg] :: memE 95 pg pgs) ++ (Ent.box db 91 (dcC 139637976727552#64 e (.sl 4 (l0.flatMap seg0)) (mapT dpg) (mapT dkn)) :: memE 97 dpg dpgs))) rfl (Flags13 mb (ms0 e) _ _ _) ?_
    rintro t111 S111 ⟨rfl, E30, rfl⟩
    refine AWL.dropAt 3 ?_
    refine AWL.nil ?_
    refine AWP.one (i := 32) (by kernel_rfl) rfl ?_
    refine AWL.unguard rfl rfl rfl (by simp [ms0, regF, updR] <;> rfl) ?_
    refine AWL.y rfl rfl (B rfl) (Yv.neqA rfl fl_48 (E rfl rfl) (E rfl rfl) rfl rfl rfl) ?_
    refine AWL.nil ?_
    refine AWP.one (i := 33) (by kernel_rfl) rfl ?_
    refine AWL.y rfl rfl (B rfl) (Yv.pickOr (t := .const (.bool true)) rfl (E rfl rfl) (E rfl rfl)) ?_
    refine AWL.nil ?_
    refine AWP.done (by kernel_rfl) ?_
    exact ⟨(), trivial, (Sub.cons rfl rfl (Sub.cons rfl rfl (Sub.cons rfl rfl (Sub.cons rfl rfl (Sub.cons rfl rfl (Sub.cons rfl rfl (Sub.cons rfl rfl (Sub.cons rfl (congrArg (fun b => T.v (.bool b)) (by simp [ms0, regF, updR] <;> rfl)) Sub.nil)))))))), rfl⟩
   refine AWL.unguard rfl rfl rfl (by simp [ms0, regF, updR] <;> rfl) ?_
   refine AWL.y rfl rfl (B rfl) (Yv.buildS rfl sh_48 evp0 (fun _ => rfl)) ?_
   refine AWL.nil ?_
   refine AWP.one (i := 29) (by kernel_rfl) rfl ?_
   refine AWL.unguard rfl rfl rfl (by simp [ms0, regF, updR] <;> rfl) ?_
   refine AWL.y rfl rfl (B rfl) (Yv.move rfl (E rfl rfl)) ?_
   refine AWL.nil ?_
   refine AWP.one (i := 30) (by kernel_rfl) rfl ?_
   refine AWL.unguard rfl rfl rfl (by simp [ms0, regF, updR] <;> rfl) ?_
   refine AWL.callF rfl rfl (B rfl) rfl ce_13 (E rfl rfl) (evsC (E rfl rfl) evs0) (F1 := [Ent.box b4 25 [zw e, .sl 4 (l0.flatMap segC)], Ent.map kn []]) (S1 := [Ent.box mb 73 (mcC (ms0 e) (.v (.pointer (some ⟨mm, 0, none⟩))) w (mapT kn))]) (F2 := ((Ent.box mm 102 [.sl 4 (l.flatMap seg0), mapT pg] :: memE 95 pg pgs) ++ (Ent.box db 91 (dcC 139637976727552#64 e (.sl 4 (l0.flatMap seg0)) (mapT dpg) (mapT dkn)) :: memE 97 dpg dpgs))) rfl (Flags13 mb (ms0 e) _ _ _) ?_
   rintro t111 S111 ⟨rfl, E30, rfl⟩
   refine AWL.dropAt 3 ?_
   refine AWL.nil ?_
   refine AWP.one (i := 32) (by kernel_rfl) rfl ?_
   refine AWL.unguard rfl rfl rfl (by simp [ms0, regF, updR] <;> rfl) ?_
   refine AWL.y rfl rfl (B rfl) (Yv.neqA rfl fl_48 (E rfl rfl) (E rfl rfl) rfl rfl rfl) ?_
   refine AWL.nil ?_
   refine AWP.one (i := 33) (by kernel_rfl) rfl ?_
   refine AWL.y rfl rfl (B rfl) (Yv.pickOr (t := .const (.bool true)) rfl (E rfl rfl) (E rfl rfl)) ?_
   refine AWL.nil ?_
   refine AWP.done (by kernel_rfl) ?_
   exact ⟨(), trivial, (Sub.cons rfl rfl (Sub.cons rfl rfl (Sub.cons rfl rfl (Sub.cons rfl rfl (Sub.cons rfl rfl (Sub.cons rfl rfl (Sub.cons rfl rfl (Sub.cons rfl (congrArg (fun b => T.v (.bool b)) (by simp [ms0, regF, updR] <;> rfl)) Sub.nil)))))))), rfl⟩
  refine AWL.unguard rfl rfl rfl (by simp [ms0, regF, updR] <;> rfl) ?_
  refine AWL.y rfl rfl (B rfl) (Yv.fieldBox rfl fo_25_0 (E rfl rfl)) ?_
  refine AWL.nil ?_
  refine AWP.two (i := 7) (j := 10) (by kernel_rfl) rfl rfl ?_ ?_
  ·refine AWL.unguard rfl rfl rfl (by simp [ms0, regF, updR] <;> rfl) ?_
   refine AWL.y rfl rfl (B rfl) (Yv.move rfl (E rfl rfl)) ?_
   refine AWL.nil ?_
   refine AWP.two (i := 8) (j := 10) (by kernel_rfl) rfl rfl ?_ ?_
   ·refine AWL.unguard rfl rfl rfl (by simp [ms0, regF, updR] <;> rfl) ?_
    refine AWL.callF rfl rfl (B rfl) rfl ce_10 (E rfl rfl) (evsC (E rfl rfl) evs0) (F1 := [Ent.box b4 25 [zw e, .sl 4 (l0.flatMap segC)], Ent.map kn []]) (S1 := [Ent.box mb 73 (mcC (ms0 e) (.v (.pointer (some ⟨mm, 0, none⟩))) w (mapT kn))]) (F2 := ((Ent.box mm 102 [.sl 4 (l.flatMap seg0), mapT pg] :: memE 95 pg pgs) ++ (Ent.box db 91 (dcC 139637976727552#64 e (.sl 4 (l0.flatMap seg0)) (mapT dpg) (mapT dkn)) :: memE 97 dpg dpgs))) rfl (At10 mb (ms0 e) _ _ _) ?_
    rintro t89 S89 ⟨rfl, rfl⟩
    refine AWL.nil ?_
    refine AWP.one (i := 10) (by kernel_rfl) rfl ?_
    refine AWL.unguard rfl rfl rfl (by simp [ms0, regF, updR] <;> rfl) ?_
    refine AWL.y rfl rfl (B rfl) (Yv.loadBox rfl ag_22 (i := 0) rfl (E rfl rfl) rfl) ?_
    refine AWL.nil ?_
    refine AWP.one (i := 11) (by kernel_rfl) rfl ?_
    refine AWL.unguard rfl rfl rfl (by simp [ms0, regF, updR] <;> rfl) ?_
    refine AWL.y rfl rfl (B rfl) (Yv.neqW rfl (E rfl rfl) (E rfl rfl)) ?_
    refine AWL.nil ?_
    refine AWP.one (i := 12) (by kernel_rfl) rfl ?_
    refine AWL.y rfl rfl (B rfl) (Yv.pickOr (t := .const (.bool true)) rfl (E rfl rfl) (E rfl rfl)) ?_
    refine AWL.nil ?_
    refine AWP.one (i := 13) (by kernel_rfl) rfl ?_
    refine AWL.y rfl rfl (B rfl) (Yv.move rfl (E rfl rfl)) ?_
    refine AWL.nil ?_
    refine AWP.one (i := 14) (by kernel_rfl) rfl ?_
    refine AWL.unguard rfl rfl rfl (by simp [ms0, regF, updR] <;> rfl) ?_
    refine AWL.y rfl rfl (B rfl) (Yv.move rfl (E rfl rfl)) ?_
    refine AWL.nil ?_
    refine AWP.one (i := 15) (by kernel_rfl) rfl ?_
    refine AWL.unguard rfl rfl rfl (by simp [ms0, regF, updR] <;> rfl) ?_
    refine AWL.callF rfl rfl (B rfl) rfl ce_11 (E rfl rfl) (evsC (E rfl rfl) evs0) (F1 := [Ent.box b4 25 [zw e, .sl 4 (l0.flatMap segC)], Ent.map kn []]) (S1 := [Ent.box mb 73 (mcC (ms0 e) (.v (.pointer (some ⟨mm, 0, none⟩))) w (mapT kn))]) (F2 := ((Ent.box mm 102 [.sl 4 (l.flatMap seg0), mapT pg] :: memE 95 pg pgs) ++ (Ent.box db 91 (dcC 139637976727552#64 e (.sl 4 (l0.flatMap seg0)) (mapT dpg) (mapT dkn)) :: memE 97 dpg dpgs))) rfl (Steps11 mb (ms0 e) _ _ _) ?_
    rintro t96 S96 ⟨rfl, rfl⟩
    refine AWL.nil ?_
    refine AWP.one (i := 16) (by kernel_rfl) rfl ?_
    refine AWL.unguard rfl rfl rfl (by simp [ms0, regF, updR] <;> rfl) ?_
    refine AWL.y rfl rfl (B rfl) (Yv.neq rfl (E rfl rfl) (E rfl rfl)) ?_
    refine AWL.nil ?_
    refine AWP.one (i := 17) (by kernel_rfl) rfl ?_
    refine AWL.y rfl rfl (B rfl) (Yv.pickOr (t := .const (.bool true)) rfl (E rfl rfl) (E rfl rfl)) ?_
    refine AWL.nil ?_
    refine AWP.one (i := 18) (by kernel_rfl) rfl ?_
    refine AWL.y rfl rfl (B rfl) (Yv.move rfl (E rfl rfl)) ?_
    refine AWL.nil ?_
    refine AWP.one (i := 19) (by kernel_rfl) rfl ?_
    refine AWL.unguard rfl rfl rfl (by simp [ms0, regF, updR] <;> rfl) ?_
    refine AWL.y rfl rfl (B rfl) (Yv.move rfl (E rfl rfl)) ?_
    refine AWL.nil ?_
    refine AWP.one (i := 20) (by kernel_rfl) rfl ?_
    refine AWL.unguard rfl rfl rfl (by simp [ms0, regF, updR] <;> rfl) ?_
    refine AWL.callF rfl rfl (B rfl) rfl ce_12 (E rfl rfl) (evsC (E rfl rfl) (evsC (E rfl rfl) evs0)) (F1 := [Ent.box b4 25 [zw e, .sl 4 (l0.flatMap segC)], Ent.map kn []]) (S1 := [Ent.box mb 73 (mcC (ms0 e) (.v (.pointer (some ⟨mm, 0, none⟩))) w (mapT kn))]) (F2 := ((Ent.box mm 102 [.sl 4 (l.flatMap seg0), mapT pg] :: memE 95 pg pgs) ++ (Ent.box db 91 (dcC 139637976727552#64 e (.sl 4 (l0.flatMap seg0)) (mapT dpg) (mapT dkn)) :: memE 97 dpg dpgs))) rfl (Reg12 mb (ms0 e) _ _ _ 4) ?_
    rintro t101 S101 ⟨rfl, rfl⟩
    refine AWL.nil ?_
    refine AWP.one (i := 21) (by kernel_rfl) rfl ?_
    refine AWL.unguard rfl rfl rfl (by simp [ms0, regF, updR] <;> rfl) ?_
    refine AWL.y rfl rfl (B rfl) (Yv.neqW (b := 139637976727552#64) rfl (E rfl rfl) (E rfl rfl)) ?_
    refine AWL.nil ?_
    refine AWP.one (i := 22) (by kernel_rfl) rfl ?_
    refine AWL.y rfl rfl (B rfl) (Yv.pickOr (t := .const (.bool true)) rfl (E rfl rfl) (E rfl rfl)) ?_
    refine AWL.nil ?_
    refine AWP.one (i := 23) (by kernel_rfl) rfl ?_
    refine AWL.y rfl rfl (B rfl) (Yv.move rfl (E rfl rfl)) ?_
    refine AWL.nil ?_
    refine AWP.one (i := 24) (by kernel_rfl) rfl ?_
    refine AWL.unguard rfl rfl rfl (by simp [ms0, regF, updR] <;> rfl) ?_
    refine AWL.y rfl rfl (B rfl) (Yv.move rfl (E rfl rfl)) ?_
    refine AWL.nil ?_
    refine AWP.one (i := 25) (by kernel_rfl) rfl ?_
    refine AWL.unguard rfl rfl rfl (by simp [ms0, regF, updR] <;> rfl) ?_
    refine AWL.callF rfl rfl (B rfl) rfl ce_12 (E rfl rfl) (evsC (E rfl rfl) (evsC (E rfl rfl) evs0)) (F1 := [Ent.box b4 25 [zw e, .sl 4 (l0.flatMap segC)], Ent.map kn []]) (S1 := [Ent.box mb 73 (mcC (ms0 e) (.v (.pointer (some ⟨mm, 0, none⟩))) w (mapT kn))]) (F2 := ((Ent.box mm 102 [.sl 4 (l.flatMap seg0), mapT pg] :: memE 95 pg pgs) ++ (Ent.box db 91 (dcC 139637976727552#64 e (.sl 4 (l0.flatMap seg0)) (mapT dpg) (mapT dkn)) :: memE 97 dpg dpgs))) rfl (Reg12 mb (ms0 e) _ _ _ 3) ?_
    rintro t106 S106 ⟨rfl, rfl⟩
    refine AWL.nil ?_
    refine AWP.one (i := 26) (by kernel_rfl) rfl ?_
    refine AWL.unguard rfl rfl rfl (by simp [ms0, regF, updR] <;> rfl) ?_
    refine AWL.y rfl rfl (B rfl) (Yv.neqW (b := 0#64) rfl (E rfl rfl) (E rfl rfl)) ?_
    refine AWL.nil ?_
    refine AWP.one (i := 27) (by kernel_rfl) rfl ?_
    refine AWL.y rfl rfl (B rfl) (Yv.pickOr (t := .const (.bool true)) rfl (E rfl rfl) (E rfl rfl)) ?_
    refine AWL.nil ?_
    refine AWP.one (i := 28) (by kernel_rfl) rfl ?_
    refine AWL.y rfl rfl (B rfl) (Yv.move rfl (E rfl rfl)) ?_
    refine AWL.nil ?_
    refine AWP.two (i := 29) (j := 31) (by kernel_rfl) rfl rfl ?_ ?_
    ·refine AWL.unguard rfl rfl rfl (by simp [ms0, regF, updR] <;> rfl) ?_
     refine AWL.y rfl rfl (B rfl) (Yv.move rfl (E rfl rfl)) ?_
     refine AWL.nil ?_
     refine AWP.two (i := 30) (j := 31) (by kernel_rfl) rfl rfl ?_ ?_
     ·refine AWL.unguard rfl rfl rfl (by simp [ms0, regF, updR] <;> rfl) ?_
      refine AWL.callF rfl rfl (B rfl) rfl ce_13 (E rfl rfl) (evsC (E rfl rfl) evs0) (F1 := [Ent.box b4 25 [zw e, .sl 4 (l0.flatMap segC)], Ent.map kn []]) (S1 := [Ent.box mb 73 (mcC (ms0 e) (.v (.pointer (some ⟨mm, 0, none⟩))) w (mapT kn))]) (F2 := ((Ent.box mm 102 [.sl 4 (l.flatMap seg0), mapT pg] :: memE 95 pg pgs) ++ (Ent.box db 91 (dcC 139637976727552#64 e (.sl 4 (l0.flatMap seg0)) (mapT dpg) (mapT dkn)) :: memE 97 dpg dpgs))) rfl (Flags13 mb (ms0 e) _ _ _) ?_
      rintro t111 S111 ⟨rfl, E30, rfl⟩
      refine AWL.dropAt 3 ?_
      refine AWL.nil ?_
      refine AWP.one (i := 31) (by kernel_rfl) rfl ?_
      refine AWL.unguard rfl rfl rfl (by simp [ms0, regF, updR] <;> rfl) ?_
      refine AWL.y rfl rfl (B rfl) (Yv.buildS rfl sh_48 evp0 (fun _ => rfl)) ?_
      refine AWL.nil ?_
      refine AWP.one (i := 32) (by kernel_rfl) rfl ?_
      refine AWL.unguard rfl rfl rfl (by simp [ms0, regF, updR] <;> rfl) ?_
      refine AWL.y rfl rfl (B rfl) (Yv.neqA rfl fl_48 (E rfl rfl) (E rfl rfl) rfl rfl rfl) ?_
      refine AWL.nil ?_
      refine AWP.one (i := 33) (by kernel_rfl) rfl ?_
      refine AWL.y rfl rfl (B rfl) (Yv.pickOr (t := .const (.bool true)) rfl (E rfl rfl) (E rfl rfl)) ?_
      refine AWL.nil ?_
      refine AWP.done (by kernel_rfl) ?_
      exact ⟨(), trivial, (Sub.cons rfl rfl (Sub.cons rfl rfl (Sub.cons rfl rfl (Sub.cons rfl rfl (Sub.cons rfl rfl (Sub.cons rfl rfl (Sub.cons rfl rfl (Sub.cons rfl (congrArg (fun b => T.v (.bool b)) (by simp [ms0, regF, updR] <;> rfl)) Sub.nil)))))))), rfl⟩
     refine AWL.unguard rfl rfl rfl (by simp [ms0, regF, updR] <;> rfl) ?_
     refine AWL.y rfl rfl (B rfl) (Yv.buildS rfl sh_48 evp0 (fun _ => rfl)) ?_
     refine AWL.nil ?_
     refine AWP.one (i := 30) (by kernel_rfl) rfl ?_
     refine AWL.unguard rfl rfl rfl (by simp [ms0, regF, updR] <;> rfl) ?_
     refine AWL.callF rfl rfl (B rfl) rfl ce_13 (E rfl rfl) (evsC (E rfl rfl) evs0) (F1 := [Ent.box b4 25 [zw e, .sl 4 (l0.flatMap segC)], Ent.map kn []]) (S1 := [Ent.box mb 73 (mcC (ms0 e) (.v (.pointer (some ⟨mm, 0, none⟩))) w (mapT kn))]) (F2 := ((Ent.box mm 102 [.sl 4 (l.flatMap seg0), mapT pg] :: memE 95 pg pgs) ++ (Ent.box db 91 (dcC 139637976727552#64 e (.sl 4 (l0.flatMap seg0)) (mapT dpg) (mapT dkn)) :: memE 97 dpg dpgs))) rfl (Flags13 mb (ms0 e) _ _ _) ?_
     rintro t111 S111 ⟨rfl, E30, rfl⟩
     refine AWL.dropAt 3 ?_
     refine AWL.nil ?_
     refine AWP.one (i := 32) (by kernel_rfl) rfl ?_
     refine AWL.unguard rfl rfl rfl (by simp [ms0, regF, updR] <;> rfl) ?_
     refine AWL.y rfl rfl (B rfl) (Yv.neqA rfl fl_48 (E rfl rfl) (E rfl rfl) rfl rfl rfl) ?_
     refine AWL.nil ?_
     refine AWP.one (i := 33) (by kernel_rfl) rfl ?_
     refine AWL.y rfl rfl (B rfl) (Yv.pickOr (t := .const (.bool true)) rfl (E rfl rfl) (E rfl rfl)) ?_
     refine AWL.nil ?_
     refine AWP.done (by kernel_rfl) ?_
     exact ⟨(), trivial, (Sub.cons rfl rfl (Sub.cons rfl rfl (Sub.cons rfl rfl (Sub.cons rfl rfl (Sub.cons rfl rfl (Sub.cons rfl rfl (Sub.cons rfl rfl (Sub.cons rfl (congrArg (fun b => T.v (.bool b)) (by simp [ms0, regF, updR] <;> rfl)) Sub.nil)))))))), rfl⟩
    refine AWL.unguard rfl rfl rfl (by simp [ms0, regF, updR] <;> rfl) ?_
    refine AWL.y rfl rfl (B rfl) (Yv.buildS rfl sh_48 evp0 (fun _ => rfl)) ?_
    refine AWL.nil ?_
    refine AWP.one (i := 29) (by kernel_rfl) rfl ?_
    refine AWL.unguard rfl rfl rfl (by simp [ms0, regF, updR] <;> rfl) ?_
    refine AWL.y rfl rfl (B rfl) (Yv.move rfl (E rfl rfl)) ?_
    refine AWL.nil ?_
    refine AWP.one (i := 30) (by kernel_rfl) rfl ?_
    refine AWL.unguard rfl rfl rfl (by simp [ms0, regF, updR] <;> rfl) ?_
    refine AWL.callF rfl rfl (B rfl) rfl ce_13 (E rfl rfl) (evsC (E rfl rfl) evs0) (F1 := [Ent.box b4 25 [zw e, .sl 4 (l0.flatMap segC)], Ent.map kn []]) (S1 := [Ent.box mb 73 (mcC (ms0 e) (.v (.pointer (some ⟨mm, 0, none⟩))) w (mapT kn))]) (F2 := ((Ent.box mm 102 [.sl 4 (l.flatMap seg0), mapT pg] :: memE 95 pg pgs) ++ (Ent.box db 91 (dcC 139637976727552#64 e (.sl 4 (l0.flatMap seg0)) (mapT dpg) (mapT dkn)) :: memE 97 dpg dpgs))) rfl (Flags13 mb (ms0 e) _ _ _) ?_
    rintro t111 S111 ⟨rfl, E30, rfl⟩
    refine AWL.dropAt 3 ?_
    refine AWL.nil ?_
    refine AWP.one (i := 32) (by kernel_rfl) rfl ?_
    refine AWL.unguard rfl rfl rfl (by simp [ms0, regF, updR] <;> rfl) ?_
    refine AWL.y rfl rfl (B rfl) (Yv.neqA rfl fl_48 (E rfl rfl) (E rfl rfl) rfl rfl rfl) ?_
    refine AWL.nil ?_
    refine AWP.one (i := 33) (by kernel_rfl) rfl ?_
    refine AWL.y rfl rfl (B rfl) (Yv.pickOr (t := .const (.bool true)) rfl (E rfl rfl) (E rfl rfl)) ?_
    refine AWL.nil ?_
    refine AWP.done (by kernel_rfl) ?_
    exact ⟨(), trivial, (Sub.cons rfl rfl (Sub.cons rfl rfl (Sub.cons rfl rfl (Sub.cons rfl rfl (Sub.cons rfl rfl (Sub.cons rfl rfl (Sub.cons rfl rfl (Sub.cons rfl (congrArg (fun b => T.v (.bool b)) (by simp [ms0, regF, updR] <;> rfl)) Sub.nil)))))))), rfl⟩
   refine AWL.unguard rfl rfl rfl (by simp [ms0, regF, updR] <;> rfl) ?_
   refine AWL.y rfl rfl (B rfl) (Yv.loadBox rfl ag_22 (i := 0) rfl (E rfl rfl) rfl) ?_
   refine AWL.nil ?_
   refine AWP.one (i := 8) (by kernel_rfl) rfl ?_
   refine AWL.unguard rfl rfl rfl (by simp [ms0, regF, updR] <;> rfl) ?_
   refine AWL.callF rfl rfl (B rfl) rfl ce_10 (E rfl rfl) (evsC (E rfl rfl) evs0) (F1 := [Ent.box b4 25 [zw e, .sl 4 (l0.flatMap segC)], Ent.map kn []]) (S1 := [Ent.box mb 73 (mcC (ms0 e) (.v (.pointer (some ⟨mm, 0, none⟩))) w (mapT kn))]) (F2 := ((Ent.box mm 102 [.sl 4 (l.flatMap seg0), mapT pg] :: memE 95 pg pgs) ++ (Ent.box db 91 (dcC 139637976727552#64 e (.sl 4 (l0.flatMap seg0)) (mapT dpg) (mapT dkn)) :: memE 97 dpg dpgs))) rfl (At10 mb (ms0 e) _ _ _) ?_
   rintro t89 S89 ⟨rfl, rfl⟩
   refine AWL.nil ?_
   refine AWP.one (i := 11) (by kernel_rfl) rfl ?_
   refine AWL.unguard rfl rfl rfl (by simp [ms0, regF, updR] <;> rfl) ?_
   refine AWL.y rfl rfl (B rfl) (Yv.neqW rfl (E rfl rfl) (E rfl rfl)) ?_
   refine AWL.nil ?_
   refine AWP.one (i := 12) (by kernel_rfl) rfl ?_
   refine AWL.y rfl rfl (B rfl) (Yv.pickOr (t := .const (.bool true)) rfl (E rfl rfl) (E rfl rfl)) ?_
   refine AWL.nil ?_
   refine AWP.one (i := 13) (by kernel_rfl) rfl ?_
   refine AWL.y rfl rfl (B rfl) (Yv.move rfl (E rfl rfl)) ?_
   refine AWL.nil ?_
   refine AWP.one (i := 14) (by kernel_rfl) rfl ?_
   refine AWL.unguard rfl rfl rfl (by simp [ms0, regF, updR] <;> rfl) ?_
   refine AWL.y rfl rfl (B rfl) (Yv.move rfl (E rfl rfl)) ?_
   refine AWL.nil ?_
   refine AWP.one (i := 15) (by kernel_rfl) rfl ?_
   refine AWL.unguard rfl rfl rfl (by simp [ms0, regF, updR] <;> rfl) ?_
   refine AWL.callF rfl rfl (B rfl) rfl ce_11 (E rfl rfl) (evsC (E rfl rfl) evs0) (F1 := [Ent.box b4 25 [zw e, .sl 4 (l0.flatMap segC)], Ent.map kn []]) (S1 := [Ent.box mb 73 (mcC (ms0 e) (.v (.pointer (some ⟨mm, 0, none⟩))) w (mapT kn))]) (F2 := ((Ent.box mm 102 [.sl 4 (l.flatMap seg0), mapT pg] :: memE 95 pg pgs) ++ (Ent.box db 91 (dcC 139637976727552#64 e (.sl 4 (l0.flatMap seg0)) (mapT dpg) (mapT dkn)) :: memE 97 dpg dpgs))) rfl (Steps11 mb (ms0 e) _ _ _) ?_
   rintro t96 S96 ⟨rfl, rfl⟩
   refine AWL.nil ?_
   refine AWP.one (i := 16) (by kernel_rfl) rfl ?_
   refine AWL.unguard rfl rfl rfl (by simp [ms0, regF, updR] <;> rfl) ?_
   refine AWL.y rfl rfl (B rfl) (Yv.neq rfl (E rfl rfl) (E rfl rfl)) ?_
   refine AWL.nil ?_
   refine AWP.one (i := 17) (by kernel_rfl) rfl ?_
   refine AWL.y rfl rfl (B rfl) (Yv.pickOr (t := .const (.bool true)) rfl (E rfl rfl) (E rfl rfl)) ?_
   refine AWL.nil ?_
   refine AWP.one (i := 18) (by kernel_rfl) rfl ?_
   refine AWL.y rfl rfl (B rfl) (Yv.move rfl (E rfl rfl)) ?_
   refine AWL.nil ?_
   refine AWP.one (i := 19) (by kernel_rfl) rfl ?_
   refine AWL.unguard rfl rfl rfl (by simp [ms0, regF, updR] <;> rfl) ?_
   refine AWL.y rfl rfl (B rfl) (Yv.move rfl (E rfl rfl)) ?_
   refine AWL.nil ?_
   refine AWP.one (i := 20) (by kernel_rfl) rfl ?_
   refine AWL.unguard rfl rfl rfl (by simp [ms0, regF, updR] <;> rfl) ?_
   refine AWL.callF rfl rfl (B rfl) rfl ce_12 (E rfl rfl) (evsC (E rfl rfl) (evsC (E rfl rfl) evs0)) (F1 := [Ent.box b4 25 [zw e, .sl 4 (l0.flatMap segC)], Ent.map kn []]) (S1 := [Ent.box mb 73 (mcC (ms0 e) (.v (.pointer (some ⟨mm, 0, none⟩))) w (mapT kn))]) (F2 := ((Ent.box mm 102 [.sl 4 (l.flatMap seg0), mapT pg] :: memE 95 pg pgs) ++ (Ent.box db 91 (dcC 139637976727552#64 e (.sl 4 (l0.flatMap seg0)) (mapT dpg) (mapT dkn)) :: memE 97 dpg dpgs))) rfl (Reg12 mb (ms0 e) _ _ _ 4) ?_
   rintro t101 S101 ⟨rfl, rfl⟩
   refine AWL.nil ?_
   refine AWP.one (i := 21) (by kernel_rfl) rfl ?_
   refine AWL.unguard rfl rfl rfl (by simp [ms0, regF, updR] <;> rfl) ?_
   refine AWL.y rfl rfl (B rfl) (Yv.neqW (b := 139637976727552#64) rfl (E rfl rfl) (E rfl rfl)) ?_
   refine AWL.nil ?_
   refine AWP.one (i := 22) (by kernel_rfl) rfl ?_
   refine AWL.y rfl rfl (B rfl) (Yv.pickOr (t := .const (.bool true)) rfl (E rfl rfl) (E rfl rfl)) ?_
   refine AWL.nil ?_
   refine AWP.one (i := 23) (by kernel_rfl) rfl ?_
   refine AWL.y rfl rfl (B rfl) (Yv.move rfl (E rfl rfl)) ?_
   refine AWL.nil ?_
   refine AWP.one (i := 24) (by kernel_rfl) rfl ?_
   refine AWL.unguard rfl rfl rfl (by simp [ms0, regF, updR] <;> rfl) ?_
   refine AWL.y rfl rfl (B rfl) (Yv.move rfl (E rfl rfl)) ?_
   refine AWL.nil ?_
   refine AWP.one (i := 25) (by kernel_rfl) rfl ?_
   refine AWL.unguard rfl rfl rfl (by simp [ms0, regF, updR] <;> rfl) ?_
   refine AWL.callF rfl rfl (B rfl) rfl ce_12 (E rfl rfl) (evsC (E rfl rfl) (evsC (E rfl rfl) evs0)) (F1 := [Ent.box b4 25 [zw e, .sl 4 (l0.flatMap segC)], Ent.map kn []]) (S1 := [Ent.box mb 73 (mcC (ms0 e) (.v (.pointer (some ⟨mm, 0, none⟩))) w (mapT kn))]) (F2 := ((Ent.box mm 102 [.sl 4 (l.flatMap seg0), mapT pg] :: memE 95 pg pgs) ++ (Ent.box db 91 (dcC 139637976727552#64 e (.sl 4 (l0.flatMap seg0)) (mapT dpg) (mapT dkn)) :: memE 97 dpg dpgs))) rfl (Reg12 mb (ms0 e) _ _ _ 3) ?_
   rintro t106 S106 ⟨rfl, rfl⟩
   refine AWL.nil ?_
   refine AWP.one (i := 26) (by kernel_rfl) rfl ?_
   refine AWL.unguard rfl rfl rfl (by simp [ms0, regF, updR] <;> rfl) ?_
   refine AWL.y rfl rfl (B rfl) (Yv.neqW (b := 0#64) rfl (E rfl rfl) (E rfl rfl)) ?_
   refine AWL.nil ?_
   refine AWP.one (i := 27) (by kernel_rfl) rfl ?_
   refine AWL.y rfl rfl (B rfl) (Yv.pickOr (t := .const (.bool true)) rfl (E rfl rfl) (E rfl rfl)) ?_
   refine AWL.nil ?_
   refine AWP.one (i := 28) (by kernel_rfl) rfl ?_
   refine AWL.y rfl rfl (B rfl) (Yv.move rfl (E rfl rfl)) ?_
   refine AWL.nil ?_
   refine AWP.two (i := 29) (j := 31) (by kernel_rfl) rfl rfl ?_ ?_
   ·refine AWL.unguard rfl rfl rfl (by simp [ms0, regF, updR] <;> rfl) ?_
    refine AWL.y rfl rfl (B rfl) (Yv.move rfl (E rfl rfl)) ?_
    refine AWL.nil ?_
    refine AWP.two (i := 30) (j := 31) (by kernel_rfl) rfl rfl ?_ ?_
    ·refine AWL.unguard rfl rfl rfl (by simp [ms0, regF, updR] <;> rfl) ?_
     refine AWL.callF rfl rfl (B rfl) rfl ce_13 (E rfl rfl) (evsC (E rfl rfl) evs0) (F1 := [Ent.box b4 25 [zw e, .sl 4 (l0.flatMap segC)], Ent.map kn []]) (S1 := [Ent.box mb 73 (mcC (ms0 e) (.v (.pointer (some ⟨mm, 0, none⟩))) w (mapT kn))]) (F2 := ((Ent.box mm 102 [.sl 4 (l.flatMap seg0), mapT pg] :: memE 95 pg pgs) ++ (Ent.box db 91 (dcC 139637976727552#64 e (.sl 4 (l0.flatMap seg0)) (mapT dpg) (mapT dkn)) :: memE 97 dpg dpgs))) rfl (Flags13 mb (ms0 e) _ _ _) ?_
     rintro t111 S111 ⟨rfl, E30, rfl⟩
     refine AWL.dropAt 3 ?_
     refine AWL.nil ?_
     refine AWP.one (i := 31) (by kernel_rfl) rfl ?_
     refine AWL.unguard rfl rfl rfl (by simp [ms0, regF, updR] <;> rfl) ?_
     refine AWL.y rfl rfl (B rfl) (Yv.buildS rfl sh_48 evp0 (fun _ => rfl)) ?_
     refine AWL.nil ?_
     refine AWP.one (i := 32) (by kernel_rfl) rfl ?_
     refine AWL.unguard rfl rfl rfl (by simp [ms0, regF, updR] <;> rfl) ?_
     refine AWL.y rfl rfl (B rfl) (Yv.neqA rfl fl_48 (E rfl rfl) (E rfl rfl) rfl rfl rfl) ?_
     refine AWL.nil ?_
     refine AWP.one (i := 33) (by kernel_rfl) rfl ?_
     refine AWL.y rfl rfl (B rfl) (Yv.pickOr (t := .const (.bool true)) rfl (E rfl rfl) (E rfl rfl)) ?_
     refine AWL.nil ?_
     refine AWP.done (by kernel_rfl) ?_
     exact ⟨(), trivial, (Sub.cons rfl rfl (Sub.cons rfl rfl (Sub.cons rfl rfl (Sub.cons rfl rfl (Sub.cons rfl rfl (Sub.cons rfl rfl (Sub.cons rfl rfl (Sub.cons rfl (congrArg (fun b => T.v (.bool b)) (by simp [ms0, regF, updR] <;> rfl)) Sub.nil)))))))), rfl⟩
    refine AWL.unguard rfl rfl rfl (by simp [ms0, regF, updR] <;> rfl) ?_
    refine AWL.y rfl rfl (B rfl) (Yv.buildS rfl sh_48 evp0 (fun _ => rfl)) ?_
    refine AWL.nil ?_
    refine AWP.one (i := 30) (by kernel_rfl) rfl ?_
    refine AWL.unguard rfl rfl rfl (by simp [ms0, regF, updR] <;> rfl) ?_
    refine AWL.callF rfl rfl (B rfl) rfl ce_13 (E rfl rfl) (evsC (E rfl rfl) evs0) (F1 := [Ent.box b4 25 [zw e, .sl 4 (l0.flatMap segC)], Ent.map kn []]) (S1 := [Ent.box mb 73 (mcC (ms0 e) (.v (.pointer (some ⟨mm, 0, none⟩))) w (mapT kn))]) (F2 := ((Ent.box mm 102 [.sl 4 (l.flatMap seg0), mapT pg] :: memE 95 pg pgs) ++ (Ent.box db 91 (dcC 139637976727552#64 e (.sl 4 (l0.flatMap seg0)) (mapT dpg) (mapT dkn)) :: memE 97 dpg dpgs))) rfl (Flags13 mb (ms0 e) _ _ _) ?_
    rintro t111 S111 ⟨rfl, E30, rfl⟩
    refine AWL.dropAt 3 ?_
    refine AWL.nil ?_
    refine AWP.one (i := 32) (by kernel_rfl) rfl ?_
    refine AWL.unguard rfl rfl rfl (by simp [ms0, regF, updR] <;> rfl) ?_
    refine AWL.y rfl rfl (B rfl) (Yv.neqA rfl fl_48 (E rfl rfl) (E rfl rfl) rfl rfl rfl) ?_
    refine AWL.nil ?_
    refine AWP.one (i := 33) (by kernel_rfl) rfl ?_
    refine AWL.y rfl rfl (B rfl) (Yv.pickOr (t := .const (.bool true)) rfl (E rfl rfl) (E rfl rfl)) ?_
    refine AWL.nil ?_
    refine AWP.done (by kernel_rfl) ?_
    exact ⟨(), trivial, (Sub.cons rfl rfl (Sub.cons rfl rfl (Sub.cons rfl rfl (Sub.cons rfl rfl (Sub.cons rfl rfl (Sub.cons rfl rfl (Sub.cons rfl rfl (Sub.cons rfl (congrArg (fun b => T.v (.bool b)) (by simp [ms0, regF, updR] <;> rfl)) Sub.nil)))))))), rfl⟩
   refine AWL.unguard rfl rfl rfl (by simp [ms0, regF, updR] <;> rfl) ?_
   refine AWL.y rfl rfl (B rfl) (Yv.buildS rfl sh_48 evp0 (fun _ => rfl)) ?_
   refine AWL.nil ?_
   refine AWP.one (i := 29) (by kernel_rfl) rfl ?_
   refine AWL.unguard rfl rfl rfl (by simp [ms0, regF, updR] <;> rfl) ?_
   refine AWL.y rfl rfl (B rfl) (Yv.move rfl (E rfl rfl)) ?_
   refine AWL.nil ?_
   refine AWP.one (i := 30) (by kernel_rfl) rfl ?_
   refine AWL.unguard rfl rfl rfl (by simp [ms0, regF, updR] <;> rfl) ?_
   refine AWL.callF rfl rfl (B rfl) rfl ce_13 (E rfl rfl) (evsC (E rfl rfl) evs0) (F1 := [Ent.box b4 25 [zw e, .sl 4 (l0.flatMap segC)], Ent.map kn []]) (S1 := [Ent.box mb 73 (mcC (ms0 e) (.v (.pointer (some ⟨mm, 0, none⟩))) w (mapT kn))]) (F2 := ((Ent.box mm 102 [.sl 4 (l.flatMap seg0), mapT pg] :: memE 95 pg pgs) ++ (Ent.box db 91 (dcC 139637976727552#64 e (.sl 4 (l0.flatMap seg0)) (mapT dpg) (mapT dkn)) :: memE 97 dpg dpgs))) rfl (Flags13 mb (ms0 e) _ _ _) ?_
   rintro t111 S111 ⟨rfl, E30, rfl⟩
   refine AWL.dropAt 3 ?_
   refine AWL.nil ?_
   refine AWP.one (i := 32) (by kernel_rfl) rfl ?_
   refine AWL.unguard rfl rfl rfl (by simp [ms0, regF, updR] <;> rfl) ?_
   refine AWL.y rfl rfl (B rfl) (Yv.neqA rfl fl_48 (E rfl rfl) (E rfl rfl) rfl rfl rfl) ?_
   refine AWL.nil ?_
   refine AWP.one (i := 33) (by kernel_rfl) rfl ?_
   refine AWL.y rfl rfl (B rfl) (Yv.pickOr (t := .const (.bool true)) rfl (E rfl rfl) (E rfl rfl)) ?_
   refine AWL.nil ?_
   refine AWP.done (by kernel_rfl) ?_
   exact ⟨(), trivial, (Sub.cons rfl rfl (Sub.cons rfl rfl (Sub.cons rfl rfl (Sub.cons rfl rfl (Sub.cons rfl rfl (Sub.cons rfl rfl (Sub.cons rfl rfl (Sub.cons rfl (congrArg (fun b => T.v (.bool b)) (by simp [ms0, regF, updR] <;> rfl)) Sub.nil)))))))), rfl⟩
  refine AWL.unguard rfl rfl rfl (by simp [ms0, regF, updR] <;> rfl) ?_
  refine AWL.y rfl rfl (B rfl) (Yv.loadBox rfl ag_22 (i := 0) rfl (E rfl rfl) rfl) ?_
  refine AWL.nil ?_
  refine AWP.one (i := 7) (by kernel_rfl) rfl ?_
  refine AWL.unguard rfl rfl rfl (by simp [ms0, regF, updR] <;> rfl) ?_
  refine AWL.y rfl rfl (B rfl) (Yv.move rfl (E rfl rfl)) ?_
  refine AWL.nil ?_
  refine AWP.one (i := 8) (by kernel_rfl) rfl ?_
  refine AWL.unguard rfl rfl rfl (by simp [ms0, regF, updR] <;> rfl) ?_
  refine AWL.callF rfl rfl (B rfl) rfl ce_10 (E rfl rfl) (evsC (E rfl rfl) evs0) (F1 := [Ent.box b4 25 [zw e, .sl 4 (l0.flatMap segC)], Ent.map kn []]) (S1 := [Ent.box mb 73 (mcC (ms0 e) (.v (.pointer (some ⟨mm, 0, none⟩))) w (mapT kn))]) (F2 := ((Ent.box mm 102 [.sl 4 (l.flatMap seg0), mapT pg] :: memE 95 pg pgs) ++ (Ent.box db 91 (dcC 139637976727552#64 e (.sl 4 (l0.flatMap seg0)) (mapT dpg) (mapT dkn)) :: memE 97 dpg dpgs))) rfl (At10 mb (ms0 e) _ _ _) ?_
  rintro t89 S89 ⟨rfl, rfl⟩
  refine AWL.nil ?_
  refine AWP.one (i := 11) (by kernel_rfl) rfl ?_
  refine AWL.unguard rfl rfl rfl (by simp [ms0, regF, updR] <;> rfl) ?_
  refine AWL.y rfl rfl (B rfl) (Yv.neqW rfl (E rfl rfl) (E rfl rfl)) ?_
  refine AWL.nil ?_
  refine AWP.one (i := 12) (by kernel_rfl) rfl ?_
  refine AWL.y rfl rfl (B rfl) (Yv.pickOr (t := .const (.bool true)) rfl (E rfl rfl) (E rfl rfl)) ?_
  refine AWL.nil ?_
  refine AWP.one (i := 13) (by kernel_rfl) rfl ?_
  refine AWL.y rfl rfl (B rfl) (Yv.move rfl (E rfl rfl)) ?_
  refine AWL.nil ?_
  refine AWP.one (i := 14) (by kernel_rfl) rfl ?_
  refine AWL.unguard rfl rfl rfl (by simp [ms0, regF, updR] <;> rfl) ?_
  refine AWL.y rfl rfl (B rfl) (Yv.move rfl (E rfl rfl)) ?_
  refine AWL.nil ?_
  refine AWP.one (i := 15) (by kernel_rfl) rfl ?_
  refine AWL.unguard rfl rfl rfl (by simp [ms0, regF, updR] <;> rfl) ?_
  refine AWL.callF rfl rfl (B rfl) rfl ce_11 (E rfl rfl) (evsC (E rfl rfl) evs0) (F1 := [Ent.box b4 25 [zw e, .sl 4 (l0.flatMap segC)], Ent.map kn []]) (S1 := [Ent.box mb 73 (mcC (ms0 e) (.v (.pointer (some ⟨mm, 0, none⟩))) w (mapT kn))]) (F2 := ((Ent.box mm 102 [.sl 4 (l.flatMap seg0), mapT pg] :: memE 95 pg pgs) ++ (Ent.box db 91 (dcC 139637976727552#64 e (.sl 4 (l0.flatMap seg0)) (mapT dpg) (mapT dkn)) :: memE 97 dpg dpgs))) rfl (Steps11 mb (ms0 e) _ _ _) ?_
  rintro t96 S96 ⟨rfl, rfl⟩
  refine AWL.nil ?_
  refine AWP.one (i := 16) (by kernel_rfl) rfl ?_
  refine AWL.unguard rfl rfl rfl (by simp [ms0, regF, updR] <;> rfl) ?_
  refine AWL.y rfl rfl (B rfl) (Yv.neq rfl (E rfl rfl) (E rfl rfl)) ?_
  refine AWL.nil ?_
  refine AWP.one (i := 17) (by kernel_rfl) rfl ?_
  refine AWL.y rfl rfl (B rfl) (Yv.pickOr (t := .const (.bool true)) rfl (E rfl rfl) (E rfl rfl)) ?_
  refine AWL.nil ?_
  refine AWP.one (i := 18) (by kernel_rfl) rfl ?_
  refine AWL.y rfl rfl (B rfl) (Yv.move rfl (E rfl rfl)) ?_
  refine AWL.nil ?_
  refine AWP.one (i := 19) (by kernel_rfl) rfl ?_
  refine AWL.unguard rfl rfl rfl (by simp [ms0, regF, updR] <;> rfl) ?_
  refine AWL.y rfl rfl (B rfl) (Yv.move rfl (E rfl rfl)) ?_
  refine AWL.nil ?_
  refine AWP.one (i := 20) (by kernel_rfl) rfl ?_
  refine AWL.unguard rfl rfl rfl (by simp [ms0, regF, updR] <;> rfl) ?_
  refine AWL.callF rfl rfl (B rfl) rfl ce_12 (E rfl rfl) (evsC (E rfl rfl) (evsC (E rfl rfl) evs0)) (F1 := [Ent.box b4 25 [zw e, .sl 4 (l0.flatMap segC)], Ent.map kn []]) (S1 := [Ent.box mb 73 (mcC (ms0 e) (.v (.pointer (some ⟨mm, 0, none⟩))) w (mapT kn))]) (F2 := ((Ent.box mm 102 [.sl 4 (l.flatMap seg0), mapT pg] :: memE 95 pg pgs) ++ (Ent.box db 91 (dcC 139637976727552#64 e (.sl 4 (l0.flatMap seg0)) (mapT dpg) (mapT dkn)) :: memE 97 dpg dpgs))) rfl (Reg12 mb (ms0 e) _ _ _ 4) ?_
  rintro t101 S101 ⟨rfl, rfl⟩
  refine AWL.nil ?_
  refine AWP.one (i := 21) (by kernel_rfl) rfl ?_
  refine AWL.unguard rfl rfl rfl (by simp [ms0, regF, updR] <;> rfl) ?_
  refine AWL.y rfl rfl (B rfl) (Yv.neqW (b := 139637976727552#64) rfl (E rfl rfl) (E rfl rfl)) ?_
  refine AWL.nil ?_
  refine AWP.one (i := 22) (by kernel_rfl) rfl ?_
  refine AWL.y rfl rfl (B rfl) (Yv.pickOr (t := .const (.bool true)) rfl (E rfl rfl) (E rfl rfl)) ?_
  refine AWL.nil ?_
  refine AWP.one (i := 23) (by kernel_rfl) rfl ?_
  refine AWL.y rfl rfl (B rfl) (Yv.move rfl (E rfl rfl)) ?_
  refine AWL.nil ?_
  refine AWP.one (i := 24) (by kernel_rfl) rfl ?_
  refine AWL.unguard rfl rfl rfl (by simp [ms0, regF, updR] <;> rfl) ?_
  refine AWL.y rfl rfl (B rfl) (Yv.move rfl (E rfl rfl)) ?_
  refine AWL.nil ?_
  refine AWP.one (i := 25) (by kernel_rfl) rfl ?_
  refine AWL.unguard rfl rfl rfl (by simp [ms0, regF, updR] <;> rfl) ?_
  refine AWL.callF rfl rfl (B rfl) rfl ce_12 (E rfl rfl) (evsC (E rfl rfl) (evsC (E rfl rfl) evs0)) (F1 := [Ent.box b4 25 [zw e, .sl 4 (l0.flatMap segC)], Ent.map kn []]) (S1 := [Ent.box mb 73 (mcC (ms0 e) (.v (.pointer (some ⟨mm, 0, none⟩))) w (mapT kn))]) (F2 := ((Ent.box mm 102 [.sl 4 (l.flatMap seg0), mapT pg] :: memE 95 pg pgs) ++ (Ent.box db 91 (dcC 139637976727552#64 e (.sl 4 (l0.flatMap seg0)) (mapT dpg) (mapT dkn)) :: memE 97 dpg dpgs))) rfl (Reg12 mb (ms0 e) _ _ _ 3) ?_
  rintro t106 S106 ⟨rfl, rfl⟩
  refine AWL.nil ?_
  refine AWP.one (i := 26) (by kernel_rfl) rfl ?_
  refine AWL.unguard rfl rfl rfl (by simp [ms0, regF, updR] <;> rfl) ?_
  refine AWL.y rfl rfl (B rfl) (Yv.neqW (b := 0#64) rfl (E rfl rfl) (E rfl rfl)) ?_
  refine AWL.nil ?_
  refine AWP.one (i := 27) (by kernel_rfl) rfl ?_
  refine AWL.y rfl rfl (B rfl) (Yv.pickOr (t := .const (.bool true)) rfl (E rfl rfl) (E rfl rfl)) ?_
  refine AWL.nil ?_
  refine AWP.one (i := 28) (by kernel_rfl) rfl ?_
  refine AWL.y rfl rfl (B rfl) (Yv.move rfl (E rfl rfl)) ?_
  refine AWL.nil ?_
  refine AWP.two (i := 29) (j := 31) (by kernel_rfl) rfl rfl ?_ ?_
  ·refine AWL.unguard rfl rfl rfl (by simp [ms0, regF, updR] <;> rfl) ?_
   refine AWL.y rfl rfl (B rfl) (Yv.move rfl (E rfl rfl)) ?_
   refine AWL.nil ?_
   refine AWP.two (i := 30) (j := 31) (by kernel_rfl) rfl rfl ?_ ?_
   ·refine AWL.unguard rfl rfl rfl (by simp [ms0, regF, updR] <;> rfl) ?_
    refine AWL.callF rfl rfl (B rfl) rfl ce_13 (E rfl rfl) (evsC (E rfl rfl) evs0) (F1 := [Ent.box b4 25 [zw e, .sl 4 (l0.flatMap segC)], Ent.map kn []]) (S1 := [Ent.box mb 73 (mcC (ms0 e) (.v (.pointer (some ⟨mm, 0, none⟩))) w (mapT kn))]) (F2 := ((Ent.box mm 102 [.sl 4 (l.flatMap seg0), mapT pg] :: memE 95 pg pgs) ++ (Ent.box db 91 (dcC 139637976727552#64 e (.sl 4 (l0.flatMap seg0)) (mapT dpg) (mapT dkn)) :: memE 97 dpg dpgs))) rfl (Flags13 mb (ms0 e) _ _ _) ?_
    rintro t111 S111 ⟨rfl, E30, rfl⟩
    refine AWL.dropAt 3 ?_
    refine AWL.nil ?_
    refine AWP.one (i := 31) (by kernel_rfl) rfl ?_
    refine AWL.unguard rfl rfl rfl (by simp [ms0, regF, updR] <;> rfl) ?_
    refine AWL.y rfl rfl (B rfl) (Yv.buildS rfl sh_48 evp0 (fun _ => rfl)) ?_
    refine AWL.nil ?_
    refine AWP.one (i := 32) (by kernel_rfl) rfl ?_
    refine AWL.unguard rfl rfl rfl (by simp [ms0, regF, updR] <;> rfl) ?_
    refine AWL.y rfl rfl (B rfl) (Yv.neqA rfl fl_48 (E rfl rfl) (E rfl rfl) rfl rfl rfl) ?_
    refine AWL.nil ?_
    refine AWP.one (i := 33) (by kernel_rfl) rfl ?_
    refine AWL.y rfl rfl (B rfl) (Yv.pickOr (t := .const (.bool true)) rfl (E rfl rfl) (E rfl rfl)) ?_
    refine AWL.nil ?_
    refine AWP.done (by kernel_rfl) ?_
    exact ⟨(), trivial, (Sub.cons rfl rfl (Sub.cons rfl rfl (Sub.cons rfl rfl (Sub.cons rfl rfl (Sub.cons rfl rfl (Sub.cons rfl rfl (Sub.cons rfl rfl (Sub.cons rfl (congrArg (fun b => T.v (.bool b)) (by simp [ms0, regF, updR] <;> rfl)) Sub.nil)))))))), rfl⟩
   refine AWL.unguard rfl rfl rfl (by simp [ms0, regF, updR] <;> rfl) ?_
   refine AWL.y rfl rfl (B rfl) (Yv.buildS rfl sh_48 evp0 (fun _ => rfl)) ?_
   refine AWL.nil ?_
   refine AWP.one (i := 30) (by kernel_rfl) rfl ?_
   refine AWL.unguard rfl rfl rfl (by simp [ms0, regF, updR] <;> rfl) ?_
   refine AWL.callF rfl rfl (B rfl) rfl ce_13 (E rfl rfl) (evsC (E rfl rfl) evs0) (F1 := [Ent.box b4 25 [zw e, .sl 4 (l0.flatMap segC)], Ent.map kn []]) (S1 := [Ent.box mb 73 (mcC (ms0 e) (.v (.pointer (some ⟨mm, 0, none⟩))) w (mapT kn))]) (F2 := ((Ent.box mm 102 [.sl 4 (l.flatMap seg0), mapT pg] :: memE 95 pg pgs) ++ (Ent.box db 91 (dcC 139637976727552#64 e (.sl 4 (l0.flatMap seg0)) (mapT dpg) (mapT dkn)) :: memE 97 dpg dpgs))) rfl (Flags13 mb (ms0 e) _ _ _) ?_
   rintro t111 S111 ⟨rfl, E30, rfl⟩
   refine AWL.dropAt 3 ?_
   refine AWL.nil ?_
   refine AWP.one (i := 32) (by kernel_rfl) rfl ?_
   refine AWL.unguard rfl rfl rfl (by simp [ms0, regF, updR] <;> rfl) ?_
   refine AWL.y rfl rfl (B rfl) (Yv.neqA rfl fl_48 (E rfl rfl) (E rfl rfl) rfl rfl rfl) ?_
   refine AWL.nil ?_
   refine AWP.one (i := 33) (by kernel_rfl) rfl ?_
   refine AWL.y rfl rfl (B rfl) (Yv.pickOr (t := .const (.bool true)) rfl (E rfl rfl) (E rfl rfl)) ?_
   refine AWL.nil ?_
   refine AWP.done (by kernel_rfl) ?_
   exact ⟨(), trivial, (Sub.cons rfl rfl (Sub.cons rfl rfl (Sub.cons rfl rfl (Sub.cons rfl rfl (Sub.cons rfl rfl (Sub.cons rfl rfl (Sub.cons rfl rfl (Sub.cons rfl (congrArg (fun b => T.v (.bool b)) (by simp [ms0, regF, updR] <;> rfl)) Sub.nil)))))))), rfl⟩
  refine AWL.unguard rfl rfl rfl (by simp [ms0, regF, updR] <;> rfl) ?_
  refine AWL.y rfl rfl (B rfl) (Yv.buildS rfl sh_48 evp0 (fun _ => rfl)) ?_
  refine AWL.nil ?_
  refine AWP.one (i := 29) (by kernel_rfl) rfl ?_
  refine AWL.unguard rfl rfl rfl (by simp [ms0, regF, updR] <;> rfl) ?_
  refine AWL.y rfl rfl (B rfl) (Yv.move rfl (E rfl rfl)) ?_
  refine AWL.nil ?_
  refine AWP.one (i := 30) (by kernel_rfl) rfl ?_
  refine AWL.unguard rfl rfl rfl (by simp [ms0, regF, updR] <;> rfl) ?_
  refine AWL.callF rfl rfl (B rfl) rfl ce_13 (E rfl rfl) (evsC (E rfl rfl) evs0) (F1 := [Ent.box b4 25 [zw e, .sl 4 (l0.flatMap segC)], Ent.map kn []]) (S1 := [Ent.box mb 73 (mcC (ms0 e) (.v (.pointer (some ⟨mm, 0, none⟩))) w (mapT kn))]) (F2 := ((Ent.box mm 102 [.sl 4 (l.flatMap seg0), mapT pg] :: memE 95 pg pgs) ++ (Ent.box db 91 (dcC 139637976727552#64 e (.sl 4 (l0.flatMap seg0)) (mapT dpg) (mapT dkn)) :: memE 97 dpg dpgs))) rfl (Flags13 mb (ms0 e) _ _ _) ?_
  rintro t111 S111 ⟨rfl, E30, rfl⟩
  refine AWL.dropAt 3 ?_
  refine AWL.nil ?_
  refine AWP.one (i := 32) (by kernel_rfl) rfl ?_
  refine AWL.unguard rfl rfl rfl (by simp [ms0, regF, updR] <;> rfl) ?_
  refine AWL.y rfl rfl (B rfl) (Yv.neqA rfl fl_48 (E rfl rfl) (E rfl rfl) rfl rfl rfl) ?_
  refine AWL.nil ?_
  refine AWP.one (i := 33) (by kernel_rfl) rfl ?_
  refine AWL.y rfl rfl (B rfl) (Yv.pickOr (t := .const (.bool true)) rfl (E rfl rfl) (E rfl rfl)) ?_
  refine AWL.nil ?_
  refine AWP.done (by kernel_rfl) ?_
  exact ⟨(), trivial, (Sub.cons rfl rfl (Sub.cons rfl rfl (Sub.cons rfl rfl (Sub.cons rfl rfl (Sub.cons rfl rfl (Sub.cons rfl rfl (Sub.cons rfl rfl (Sub.cons rfl (congrArg (fun b => T.v (.bool b)) (by simp [ms0, regF, updR] <;> rfl)) Sub.nil)))))))), rfl⟩
 rintro _ hmid
 refine AW.cond rfl (fun h6t => ?_) (fun h6f => ?_)
 ·try replace h6t := of_decide_eq_true h6t
  cases h6t
 try replace h6f := of_decide_eq_false h6f
 refine AW.skip ?_
 refine AW.rseq ?_
 refine AWL.y rfl rfl (B rfl) (Yv.move rfl (E rfl rfl)) ?_
 refine AWL.y rfl rfl (B rfl) (Yv.assign rfl (E rfl rfl)) ?_
 refine AWL.nil ?_
 refine AW.mid (α := Int) (fun m => [(1, true, zw a), (3, true, zi i), (8, true, bv false), (11, true, .v (.pointer (some ⟨mb, 0, none⟩))), (15, true, .v (.pointer (some ⟨db, 0, none⟩))), (18, true, zi m)]) (fun _ => (Ent.box b4 25 [zw e, .sl 4 (l0.flatMap segC)] :: PS kn mb mm pg (ms0 e) w l pgs) ++ (Ent.box db 91 (dcC 139637976727552#64 e (.sl 4 (l0.flatMap seg0)) (mapT dpg) (mapT dkn)) :: memE 97 dpg dpgs)) (fun m => m ≤ 300 ∧ -9223372036854775808 ≤ m) ?_ ?_
 ·refine AW.rseq ?_
  refine AWL.y rfl rfl (B rfl) (Yv.move rfl (E rfl rfl)) ?_
  refine AWL.y rfl rfl (B rfl) (Yv.gtr rfl (E rfl rfl) (E rfl rfl)) ?_
  refine AWL.nil ?_
  refine AW.cond rfl (fun h7t => ?_) (fun h7f => ?_)
  ·try replace h7t := of_decide_eq_true h7t
   refine AW.region ?_
   refine AWL.y rfl rfl (B rfl) (Yv.assign rfl (E rfl rfl)) ?_
   refine AWL.nil ?_
   exact ⟨300, ⟨by decide, by decide⟩, (Sub.cons rfl rfl (Sub.cons rfl rfl (Sub.cons rfl rfl (Sub.cons rfl rfl (Sub.cons rfl rfl (Sub.cons rfl rfl Sub.nil)))))), rfl⟩
  try replace h7f := of_decide_eq_false h7f
  refine AW.skip ?_
  exact ⟨n, ⟨by omega, hn.1⟩, (Sub.cons rfl rfl (Sub.cons rfl rfl (Sub.cons rfl rfl (Sub.cons rfl rfl (Sub.cons rfl rfl (Sub.cons rfl rfl Sub.nil)))))), rfl⟩
 rintro m hm
 refine AW.rseq ?_
 refine AWL.y rfl rfl (B rfl) (Yv.move rfl (E rfl rfl)) ?_
 refine AWL.y rfl rfl (B rfl) (Yv.move rfl (E rfl rfl)) ?_
 refine AWL.y rfl rfl (B rfl) (Yv.move rfl (E rfl rfl)) ?_
 refine AWL.callF rfl rfl (B rfl) rfl ce_14 (E rfl rfl) (evsC (E rfl rfl) (evsC (E rfl rfl) (evsC (E rfl rfl) evs0))) (F1 := [Ent.box b4 25 [zw e, .sl 4 (l0.flatMap segC)], Ent.map kn []]) (S1 := (Ent.box mb 73 (mcC (ms0 e) (.v (.pointer (some ⟨mm, 0, none⟩))) w (mapT kn)) :: (Ent.box mm 102 [.sl 4 (l.flatMap seg0), mapT pg] :: memE 95 pg pgs))) (F2 := (Ent.box db 91 (dcC 139637976727552#64 e (.sl 4 (l0.flatMap seg0)) (mapT dpg) (mapT dkn)) :: memE 97 dpg dpgs)) rfl (readG mb mm pg (ms0 e) w (mapT kn) l pgs a hsr hll hpo m hm.1) ?_
 rintro t122 S122 ⟨ok, bs, hok, hb1, hb0, rfl, rfl⟩
 refine AWL.y rfl rfl (B rfl) (Yv.move rfl (E rfl rfl)) ?_
 refine AWL.y rfl rfl (B rfl) (Yv.extract rfl (E rfl rfl) rfl) ?_
 refine AWL.y rfl rfl (B rfl) (Yv.extract rfl (E rfl rfl) rfl) ?_
 refine AWL.y rfl rfl (B rfl) (Yv.assign rfl (E rfl rfl)) ?_
 refine AWL.y rfl rfl (B rfl) (Yv.assign rfl (E rfl rfl)) ?_
 refine AWL.nil ?_
 refine AW.drop (S' := Ent.box mb 73 (mcC (ms0 e) (.v (.pointer (some ⟨mm, 0, none⟩))) w (mapT kn)) :: (Ent.box db 91 (dcC 139637976727552#64 e (.sl 4 (l0.flatMap seg0)) (mapT dpg) (mapT dkn)) :: memE 97 dpg dpgs)) (.cons _ (.cons _ (.cons_cons _ (List.sublist_append_right _ _)))) ?_
 refine AW.perm (S' := ((Ent.box db 91 (dcC 139637976727552#64 e (.sl 4 (l0.flatMap seg0)) (mapT dpg) (mapT dkn)) :: memE 97 dpg dpgs) ++ [Ent.box mb 73 (mcC (ms0 e) (.v (.pointer (some ⟨mm, 0, none⟩))) w (mapT kn))])) (List.perm_append_singleton _ _) ?_
 refine AW.seq ?_
 refine AW.rseq ?_
 refine AWL.y rfl rfl (B rfl) (Yv.move rfl (E rfl rfl)) ?_
 refine AWL.y rfl rfl (B rfl) (Yv.lss rfl (E rfl rfl) (E rfl rfl)) ?_
 refine AWL.y rfl rfl (B rfl) (Yv.move rfl (E rfl rfl)) ?_
 refine AWL.ygF rfl rfl rfl rfl (B rfl) (Yv.move rfl (E rfl rfl)) ?_
 refine AWL.ygF rfl rfl rfl rfl (B rfl) (Yv.move rfl (E rfl rfl)) ?_
 refine AWL.ygF rfl rfl rfl rfl (B rfl) (Yv.move rfl (E rfl rfl)) ?_
 refine AWL.ygF rfl rfl rfl rfl (B rfl) (Yv.convW rfl Tryz.underlying3 kd_22 (Eg rfl rfl id)) ?_
 refine AWL.callKgF rfl rfl rfl rfl (B rfl) rfl ce_15 (E rfl rfl) (evsC (Eg rfl rfl id) (evsC (Eg rfl rfl id) (evsC (Eg rfl rfl id) (evsC (E rfl rfl) evs0)))) (S1 := [Ent.box db 91 (dcC 139637976727552#64 e (.sl 4 (l0.flatMap seg0)) (mapT dpg) (mapT dkn))]) (S2 := (memE 97 dpg dpgs ++ [Ent.box mb 73 (mcC (ms0 e) (.v (.pointer (some ⟨mm, 0, none⟩))) w (mapT kn))])) rfl (fun hg => thereK rfl (ok_all.1 hM.1) hl (okT hok (by simpa using hg) hm.1 hp)) (fun t S h => h) ?_
 refine AWL.ygF rfl rfl rfl rfl (B rfl) (Yv.not rfl (Eg rfl rfl id)) ?_
 refine AWL.y rfl rfl (B rfl) (Yv.pickOr (t := .const (.bool true)) rfl (E rfl rfl) (Eg rfl rfl id)) ?_
 refine AWL.nil ?_
 refine AW.cond rfl (fun h8t => ?_) (fun h8f => ?_)
 ·try replace h8t := of_decide_eq_true h8t
  have hno : ok = false := okN hok h8t
  obtain rfl := hb0 hno
  subst hno
  refine AW.rseq ?_
  refine AWL.y rfl rfl (B rfl) (Yv.move rfl (E rfl rfl)) ?_
  refine AWL.y rfl rfl (B rfl) (Yv.not rfl (E rfl rfl)) ?_
  refine AWL.y rfl rfl (B rfl) (Yv.move rfl (E rfl rfl)) ?_
  refine AWL.ygT rfl rfl rfl rfl (B rfl) (Yv.move rfl (E rfl rfl)) ?_
  refine AWL.ygT rfl rfl rfl rfl (B rfl) (Yv.lenSl rfl so_27 (B rfl) (Eg rfl rfl id) len_u8t) ?_
  refine AWL.ygT rfl rfl rfl rfl (B rfl) (Yv.eql rfl (Eg rfl rfl id) (E rfl rfl)) ?_
  refine AWL.y rfl rfl (B rfl) (Yv.pickAnd rfl (E rfl rfl) (Eg rfl rfl id)) ?_
  refine AWL.y rfl rfl (B rfl) (Yv.assign rfl (E rfl rfl)) ?_
  refine AWL.nil ?_
  refine AW.ret (retI (.tmp rfl .nil) ?_)
  rfl
 try replace h8f := of_decide_eq_false h8f
 obtain ⟨hm0, rfl⟩ : 0 ≤ m ∧ ok = true := by simpa using h8f
 obtain rfl := hb1 rfl
 obtain ⟨k, rfl⟩ := Int.eq_ofNat_of_zero_le hm0
 rw [show ((k : Int)).toNat = k from rfl]
 refine AW.skip ?_
 refine AW.seq ?_
 refine AW.rseq ?_
 refine AWL.y rfl rfl (B rfl) (Yv.move rfl (E rfl rfl)) ?_
 refine AWL.y rfl rfl (B rfl) (Yv.not rfl (E rfl rfl)) ?_
 refine AWL.y rfl rfl (B rfl) (Yv.move rfl (E rfl rfl)) ?_
 refine AWL.ygF rfl rfl rfl rfl (B rfl) (Yv.move rfl (E rfl rfl)) ?_
 refine AWL.ygF rfl rfl rfl rfl (B rfl) (Yv.lenSl rfl so_27 (B rfl) (Eg rfl rfl id) len_u8t) ?_
 refine AWL.ygF rfl rfl rfl rfl (B rfl) (Yv.move rfl (E rfl rfl)) ?_
 refine AWL.ygF rfl rfl rfl rfl (B rfl) (Yv.neq rfl (Eg rfl rfl id) (Eg rfl rfl id)) ?_
 refine AWL.y rfl rfl (B rfl) (Yv.pickOr (t := .const (.bool true)) rfl (E rfl rfl) (Eg rfl rfl id)) ?_
 refine AWL.nil ?_
 refine AW.cond rfl (fun h9t => ?_) (fun h9f => ?_)
 ·try replace h9t := of_decide_eq_true h9t
  rw [bytesR_len] at h9t
  simp at h9t
 try replace h9f := of_decide_eq_false h9f
 refine AW.skip ?_
 refine AW.seq ?_
 refine AW.rseq ?_
 refine AWL.y rfl rfl (B rfl) (Yv.assign rfl (E rfl rfl)) ?_
 refine AWL.nil ?_
 refine AW.block ?_
 refine AW.loop (fun (j : Nat) => [(1, true, zw a), (3, true, zi i), (8, true, bv false), (11, true, .v (.pointer (some ⟨mb, 0, none⟩))), (15, true, .v (.pointer (some ⟨db, 0, none⟩))), (18, true, zi (k : Int)), (19, true, .sl 1 ((bytesR pgs a k).map u8)), (21, true, zi (j : Int))]) (fun (j : Nat) => ((Ent.box db 91 (dcC 139637976727552#64 e (.sl 4 (l0.flatMap seg0)) (mapT dpg) (mapT dkn)) :: memE 97 dpg dpgs) ++ [Ent.box mb 73 (mcC (ms0 e) (.v (.pointer (some ⟨mm, 0, none⟩))) w (mapT kn))])) (fun (j : Nat) => j ≤ k) (fun (j : Nat) => k - j) 0 ?_ ?_ ?_ ?_
 ·exact Nat.zero_le _
 ·exact (Sub.cons rfl rfl (Sub.cons rfl rfl (Sub.cons rfl rfl (Sub.cons rfl rfl (Sub.cons rfl rfl (Sub.cons rfl rfl (Sub.cons rfl rfl (Sub.cons rfl rfl Sub.nil))))))))
 ·rfl
 intro j hinv
 refine AW.seq ?_
 refine AW.rseq ?_
 refine AWL.y rfl rfl (B rfl) (Yv.move rfl (E rfl rfl)) ?_
 refine AWL.y rfl rfl (B rfl) (Yv.move rfl (E rfl rfl)) ?_
 refine AWL.y rfl rfl (B rfl) (Yv.lss rfl (E rfl rfl) (E rfl rfl)) ?_
 refine AWL.nil ?_
 refine AW.cond rfl (fun h10t => ?_) (fun h10f => ?_)
 ·try replace h10t := of_decide_eq_true h10t
  have hj : j < k := by omega
  refine AW.skip ?_
  refine AW.seq ?_
  refine AW.block ?_
  refine AW.mid (α := Unit) (fun _ => [(1, true, zw a), (3, true, zi i), (8, true, bv false), (11, true, .v (.pointer (some ⟨mb, 0, none⟩))), (15, true, .v (.pointer (some ⟨db, 0, none⟩))), (18, true, zi (k : Int)), (19, true, .sl 1 ((bytesR pgs a k).map u8)), (21, true, zi (j : Int)), (165, true, bv false)]) (fun _ => ((Ent.box db 91 (dcC 139637976727552#64 e (.sl 4 (l0.flatMap seg0)) (mapT dpg) (mapT dkn)) :: memE 97 dpg dpgs) ++ [Ent.box mb 73 (mcC (ms0 e) (.v (.pointer (some ⟨mm, 0, none⟩))) w (mapT kn))])) (fun _ => True) ?_ ?_
  ·refine AW.regionP rfl ?_
   refine AWP.take (i := 0) rfl (by kernel_rfl) (by kernel_rfl) (by kernel_rfl) rfl rfl (B rfl) (freeMove rfl (E rfl rfl)) ?_
   refine AWP.take (i := 1) rfl (by kernel_rfl) (by kernel_rfl) (by kernel_rfl) rfl rfl (B rfl) (freeMove rfl (E rfl rfl)) ?_
   refine AWP.take (i := 4) rfl (by kernel_rfl) (by kernel_rfl) (by kernel_rfl) rfl rfl (B rfl) (freeMove rfl (E rfl rfl)) ?_
   refine AWP.take (i := 5) rfl (by kernel_rfl) (by kernel_rfl) (by kernel_rfl) rfl rfl (B rfl) (freeMove rfl (E rfl rfl)) ?_
   refine AWP.take (i := 6) rfl (by kernel_rfl) (by kernel_rfl) (by kernel_rfl) rfl rfl (B rfl) (freeMove rfl (E rfl rfl)) ?_
   refine AWP.two (i := 2) (j := 7) (by kernel_rfl) rfl rfl ?_ ?_
   ·refine AWL.y rfl rfl (B rfl) (Yv.indexSl (j := j) rfl ss_27 (B rfl) (E rfl rfl) (E rfl rfl) (fun hg => ⟨rfl, by rw [len_u8t, bytesR_len]; omega⟩)) ?_
    refine AWL.nil ?_
    refine AWP.two (i := 3) (j := 7) (by kernel_rfl) rfl rfl ?_ ?_
    ·refine AWL.y rfl rfl (B rfl) (Yv.loadRp rfl ag_5 (E rfl rfl) (fun hg => u8_gett (by rw [bytesR_len]; exact hj))) ?_
     refine AWL.nil ?_
     refine AWP.one (i := 7) (by kernel_rfl) rfl ?_
     refine AWL.y rfl rfl (B rfl) (Yv.convW rfl Tryz.underlying3 kd_22 (E rfl rfl)) ?_
     refine AWL.nil ?_
     refine AWP.one (i := 8) (by kernel_rfl) rfl ?_
     refine AWL.y rfl rfl (B rfl) (Yv.addW rfl (E rfl rfl) (E rfl rfl)) ?_
     refine AWL.nil ?_
     refine AWP.one (i := 9) (by kernel_rfl) rfl ?_
     refine AWL.callF rfl rfl (B rfl) rfl ce_16 (E rfl rfl) (evsC (E rfl rfl) (evsC (E rfl rfl) evs0)) (F1 := []) (S1 := (Ent.box db 91 (dcC 139637976727552#64 e (.sl 4 (l0.flatMap seg0)) (mapT dpg) (mapT dkn)) :: memE 97 dpg dpgs)) (F2 := [Ent.box mb 73 (mcC (ms0 e) (.v (.pointer (some ⟨mm, 0, none⟩))) w (mapT kn))]) rfl (Dget16 db dpg _ rfl dpgs hdo _) ?_
     rintro t164 S164 ⟨rfl, rfl⟩
     refine AWL.nil ?_
     refine AWP.one (i := 10) (by kernel_rfl) rfl ?_
     refine AWL.y rfl rfl (B rfl) (Yv.neq rfl (E rfl rfl) (E rfl rfl)) ?_
     refine AWL.nil ?_
     refine AWP.done (by kernel_rfl) ?_
     exact ⟨(), trivial, (Sub.cons rfl rfl (Sub.cons rfl rfl (Sub.cons rfl rfl (Sub.cons rfl rfl (Sub.cons rfl rfl (Sub.cons rfl rfl (Sub.cons rfl rfl (Sub.cons rfl rfl (Sub.cons rfl (congrArg (fun b => T.v (.bool b)) (by rw [bytesR_get hj, hme, hdm]; simp)) Sub.nil))))))))), rfl⟩
    refine AWL.y rfl rfl (B rfl) (Yv.convW rfl Tryz.underlying3 kd_22 (E rfl rfl)) ?_
    refine AWL.nil ?_
    refine AWP.two (i := 3) (j := 8) (by kernel_rfl) rfl rfl ?_ ?_
    ·refine AWL.y rfl rfl (B rfl) (Yv.loadRp rfl ag_5 (E rfl rfl) (fun hg => u8_gett (by rw [bytesR_len]; exact hj))) ?_
     refine AWL.nil ?_
     refine AWP.one (i := 8) (by kernel_rfl) rfl ?_
     refine AWL.y rfl rfl (B rfl) (Yv.addW rfl (E rfl rfl) (E rfl rfl)) ?_
     refine AWL.nil ?_
     refine AWP.one (i := 9) (by kernel_rfl) rfl ?_
     refine AWL.callF rfl rfl (B rfl) rfl ce_16 (E rfl rfl) (evsC (E rfl rfl) (evsC (E rfl rfl) evs0)) (F1 := []) (S1 := (Ent.box db 91 (dcC 139637976727552#64 e (.sl 4 (l0.flatMap seg0)) (mapT dpg) (mapT dkn)) :: memE 97 dpg dpgs)) (F2 := [Ent.box mb 73 (mcC (ms0 e) (.v (.pointer (some ⟨mm, 0, none⟩))) w (mapT kn))]) rfl (Dget16 db dpg _ rfl dpgs hdo _) ?_
     rintro t164 S164 ⟨rfl, rfl⟩
     refine AWL.nil ?_
     refine AWP.one (i := 10) (by kernel_rfl) rfl ?_
     refine AWL.y rfl rfl (B rfl) (Yv.neq rfl (E rfl rfl) (E rfl rfl)) ?_
     refine AWL.nil ?_
     refine AWP.done (by kernel_rfl) ?_
     exact ⟨(), trivial, (Sub.cons rfl rfl (Sub.cons rfl rfl (Sub.cons rfl rfl (Sub.cons rfl rfl (Sub.cons rfl rfl (Sub.cons rfl rfl (Sub.cons rfl rfl (Sub.cons rfl rfl (Sub.cons rfl (congrArg (fun b => T.v (.bool b)) (by rw [bytesR_get hj, hme, hdm]; simp)) Sub.nil))))))))), rfl⟩
    refine AWL.y rfl rfl (B rfl) (Yv.addW rfl (E rfl rfl) (E rfl rfl)) ?_
    refine AWL.nil ?_
    refine AWP.two (i := 3) (j := 9) (by kernel_rfl) rfl rfl ?_ ?_
    ·refine AWL.y rfl rfl (B rfl) (Yv.loadRp rfl ag_5 (E rfl rfl) (fun hg => u8_gett (by rw [bytesR_len]; exact hj))) ?_
     refine AWL.nil ?_
     refine AWP.one (i := 9) (by kernel_rfl) rfl ?_
     refine AWL.callF rfl rfl (B rfl) rfl ce_16 (E rfl rfl) (evsC (E rfl rfl) (evsC (E rfl rfl) evs0)) (F1 := []) (S1 := (Ent.box db 91 (dcC 139637976727552#64 e (.sl 4 (l0.flatMap seg0)) (mapT dpg) (mapT dkn)) :: memE 97 dpg dpgs)) (F2 := [Ent.box mb 73 (mcC (ms0 e) (.v (.pointer (some ⟨mm, 0, none⟩))) w (mapT kn))]) rfl (Dget16 db dpg _ rfl dpgs hdo _) ?_
     rintro t164 S164 ⟨rfl, rfl⟩
     refine AWL.nil ?_
     refine AWP.one (i := 10) (by kernel_rfl) rfl ?_
     refine AWL.y rfl rfl (B rfl) (Yv.neq rfl (E rfl rfl) (E rfl rfl)) ?_
     refine AWL.nil ?_
     refine AWP.done (by kernel_rfl) ?_
     exact ⟨(), trivial, (Sub.cons rfl rfl (Sub.cons rfl rfl (Sub.cons rfl rfl (Sub.cons rfl rfl (Sub.cons rfl rfl (Sub.cons rfl rfl (Sub.cons rfl rfl (Sub.cons rfl rfl (Sub.cons rfl (congrArg (fun b => T.v (.bool b)) (by rw [bytesR_get hj, hme, hdm]; simp)) Sub.nil))))))))), rfl⟩
    refine AWL.callF rfl rfl (B rfl) rfl ce_16 (E rfl rfl) (evsC (E rfl rfl) (evsC (E rfl rfl) evs0)) (F1 := []) (S1 := (Ent.box db 91 (dcC 139637976727552#64 e (.sl 4 (l0.flatMap seg0)) (mapT dpg) (mapT dkn)) :: memE 97 dpg dpgs)) (F2 := [Ent.box mb 73 (mcC (ms0 e) (.v (.pointer (some ⟨mm, 0, none⟩))) w (mapT kn))]) rfl (Dget16 db dpg _ rfl dpgs hdo _) ?_
    rintro t164 S164 ⟨rfl, rfl⟩
    refine AWL.nil ?_
    refine AWP.one (i := 3) (by kernel_rfl) rfl ?_
    refine AWL.y rfl rfl (B rfl) (Yv.loadRp rfl ag_5 (E rfl rfl) (fun hg => u8_gett (by rw [bytesR_len]; exact hj))) ?_
    refine AWL.nil ?_
    refine AWP.one (i := 10) (by kernel_rfl) rfl ?_
    refine AWL.y rfl rfl (B rfl) (Yv.neq rfl (E rfl rfl) (E rfl rfl)) ?_
    refine AWL.nil ?_
    refine AWP.done (by kernel_rfl) ?_
    exact ⟨(), trivial, (Sub.cons rfl rfl (Sub.cons rfl rfl (Sub.cons rfl rfl (Sub.cons rfl rfl (Sub.cons rfl rfl (Sub.cons rfl rfl (Sub.cons rfl rfl (Sub.cons rfl rfl (Sub.cons rfl (congrArg (fun b => T.v (.bool b)) (by rw [bytesR_get hj, hme, hdm]; simp)) Sub.nil))))))))), rfl⟩
   refine AWL.y rfl rfl (B rfl) (Yv.convW rfl Tryz.underlying3 kd_22 (E rfl rfl)) ?_
   refine AWL.nil ?_
   refine AWP.two (i := 2) (j := 8) (by kernel_rfl) rfl rfl ?_ ?_
   ·refine AWL.y rfl rfl (B rfl) (Yv.indexSl (j := j) rfl ss_27 (B rfl) (E rfl rfl) (E rfl rfl) (fun hg => ⟨rfl, by rw [len_u8t, bytesR_len]; omega⟩)) ?_
    refine AWL.nil ?_
    refine AWP.two (i := 3) (j := 8) (by kernel_rfl) rfl rfl ?_ ?_
    ·refine AWL.y rfl rfl (B rfl) (Yv.loadRp rfl ag_5 (E rfl rfl) (fun hg => u8_gett (by rw [bytesR_len]; exact hj))) ?_
     refine AWL.nil ?_
     refine AWP.one (i := 8) (by kernel_rfl) rfl ?_
     refine AWL.y rfl rfl (B rfl) (Yv.addW rfl (E rfl rfl) (E rfl rfl)) ?_
     refine AWL.nil ?_
     refine AWP.one (i := 9) (by kernel_rfl) rfl ?_
     refine AWL.callF rfl rfl (B rfl) rfl ce_16 (E rfl rfl) (evsC (E rfl rfl) (evsC (E rfl rfl) evs0)) (F1 := []) (S1 := (Ent.box db 91 (dcC 139637976727552#64 e (.sl 4 (l0.flatMap seg0)) (mapT dpg) (mapT dkn)) :: memE 97 dpg dpgs)) (F2 := [Ent.box mb 73 (mcC (ms0 e) (.v (.pointer (some ⟨mm, 0, none⟩))) w (mapT kn))]) rfl (Dget16 db dpg _ rfl dpgs hdo _) ?_
     rintro t164 S164 ⟨rfl, rfl⟩
     refine AWL.nil ?_
     refine AWP.one (i := 10) (by kernel_rfl) rfl ?_
     refine AWL.y rfl rfl (B rfl) (Yv.neq rfl (E rfl rfl) (E rfl rfl)) ?_
     refine AWL.nil ?_
     refine AWP.done (by kernel_rfl) ?_
     exact ⟨(), trivial, (Sub.cons rfl rfl (Sub.cons rfl rfl (Sub.cons rfl rfl (Sub.cons rfl rfl (Sub.cons rfl rfl (Sub.cons rfl rfl (Sub.cons rfl rfl (Sub.cons rfl rfl (Sub.cons rfl (congrArg (fun b => T.v (.bool b)) (by rw [bytesR_get hj, hme, hdm]; simp)) Sub.nil))))))))), rfl⟩
    refine AWL.y rfl rfl (B rfl) (Yv.addW rfl (E rfl rfl) (E rfl rfl)) ?_
    refine AWL.nil ?_
    refine AWP.two (i := 3) (j := 9) (by kernel_rfl) rfl rfl ?_ ?_
    ·refine AWL.y rfl rfl (B rfl) (Yv.loadRp rfl ag_5 (E rfl rfl) (fun hg => u8_gett (by rw [bytesR_len]; exact hj))) ?_
     refine AWL.nil ?_
     refine AWP.one (i := 9) (by kernel_rfl) rfl ?_
     refine AWL.callF rfl rfl (B rfl) rfl ce_16 (E rfl rfl) (evsC (E rfl rfl) (evsC (E rfl rfl) evs0)) (F1 := []) (S1 := (Ent.box db 91 (dcC 139637976727552#64 e (.sl 4 (l0.flatMap seg0)) (mapT dpg) (mapT dkn)) :: memE 97 dpg dpgs)) (F2 := [Ent.box mb 73 (mcC (ms0 e) (.v (.pointer (some ⟨mm, 0, none⟩))) w (mapT kn))]) rfl (Dget16 db dpg _ rfl dpgs hdo _) ?_
     rintro t164 S164 ⟨rfl, rfl⟩
     refine AWL.nil ?_
     refine AWP.one (i := 10) (by kernel_rfl) rfl ?_
     refine AWL.y rfl rfl (B rfl) (Yv.neq rfl (E rfl rfl) (E rfl rfl)) ?_
     refine AWL.nil ?_
     refine AWP.done (by kernel_rfl) ?_
     exact ⟨(), trivial, (Sub.cons rfl rfl (Sub.cons rfl rfl (Sub.cons rfl rfl (Sub.cons rfl rfl (Sub.cons rfl rfl (Sub.cons rfl rfl (Sub.cons rfl rfl (Sub.cons rfl rfl (Sub.cons rfl (congrArg (fun b => T.v (.bool b)) (by rw [bytesR_get hj, hme, hdm]; simp)) Sub.nil))))))))), rfl⟩
    refine AWL.callF rfl rfl (B rfl) rfl ce_16 (E rfl rfl) (evsC (E rfl rfl) (evsC (E rfl rfl) evs0)) (F1 := []) (S1 := (Ent.box db 91 (dcC 139637976727552#64 e (.sl 4 (l0.flatMap seg0)) (mapT dpg) (mapT dkn)) :: memE 97 dpg dpgs)) (F2 := [Ent.box mb 73 (mcC (ms0 e) (.v (.pointer (some ⟨mm, 0, none⟩))) w (mapT kn))]) rfl (Dget16 db dpg _ rfl dpgs hdo _) ?_
    rintro t164 S164 ⟨rfl, rfl⟩
    refine AWL.nil ?_
    refine AWP.one (i := 3) (by kernel_rfl) rfl ?_
    refine AWL.y rfl rfl (B rfl) (Yv.loadRp rfl ag_5 (E rfl rfl) (fun hg => u8_gett (by rw [bytesR_len]; exact hj))) ?_
    refine AWL.nil ?_
    refine AWP.one (i := 10) (by kernel_rfl) rfl ?_
    refine AWL.y rfl rfl (B rfl) (Yv.neq rfl (E rfl rfl) (E rfl rfl)) ?_
    refine AWL.nil ?_
    refine AWP.done (by kernel_rfl) ?_
    exact ⟨(), trivial, (Sub.cons rfl rfl (Sub.cons rfl rfl (Sub.cons rfl rfl (Sub.cons rfl rfl (Sub.cons rfl rfl (Sub.cons rfl rfl (Sub.cons rfl rfl (Sub.cons rfl rfl (Sub.cons rfl (congrArg (fun b => T.v (.bool b)) (by rw [bytesR_get hj, hme, hdm]; simp)) Sub.nil))))))))), rfl⟩
   refine AWL.y rfl rfl (B rfl) (Yv.addW rfl (E rfl rfl) (E rfl rfl)) ?_
   refine AWL.nil ?_
   refine AWP.two (i := 2) (j := 9) (by kernel_rfl) rfl rfl ?_ ?_
   ·refine AWL.y rfl rfl (B rfl) (Yv.indexSl (j := j) rfl ss_27 (B rfl) (E rfl rfl) (E rfl rfl) (fun hg => ⟨rfl, by rw [len_u8t, bytesR_len]; omega⟩)) ?_
    refine AWL.nil ?_
    refine AWP.two (i := 3) (j := 9) (by kernel_rfl) rfl rfl ?_ ?_
    ·refine AWL.y rfl rfl (B rfl) (Yv.loadRp rfl ag_5 (E rfl rfl) (fun hg => u8_gett (by rw [bytesR_len]; exact hj))) ?_
     refine AWL.nil ?_
     refine AWP.one (i := 9) (by kernel_rfl) rfl ?_
     refine AWL.callF rfl rfl (B rfl) rfl ce_16 (E rfl rfl) (evsC (E rfl rfl) (evsC (E rfl rfl) evs0)) (F1 := []) (S1 := (Ent.box db 91 (dcC 139637976727552#64 e (.sl 4 (l0.flatMap seg0)) (mapT dpg) (mapT dkn)) :: memE 97 dpg dpgs)) (F2 := [Ent.box mb 73 (mcC (ms0 e) (.v (.pointer (some ⟨mm, 0, none⟩))) w (mapT kn))]) rfl (Dget16 db dpg _ rfl dpgs hdo _) ?_
     rintro t164 S164 ⟨rfl, rfl⟩
     refine AWL.nil ?_
     refine AWP.one (i := 10) (by kernel_rfl) rfl ?_
     refine AWL.y rfl rfl (B rfl) (Yv.neq rfl (E rfl rfl) (E rfl rfl)) ?_
     refine AWL.nil ?_
     refine AWP.done (by kernel_rfl) ?_
     exact ⟨(), trivial, (Sub.cons rfl rfl (Sub.cons rfl rfl (Sub.cons rfl rfl (Sub.cons rfl rfl (Sub.cons rfl rfl (Sub.cons rfl rfl (Sub.cons rfl rfl (Sub.cons rfl rfl (Sub.cons rfl (congrArg (fun b => T.v (.bool b)) (by rw [bytesR_get hj, hme, hdm]; simp)) Sub.nil))))))))), rfl⟩
    refine AWL.callF rfl rfl (B rfl) rfl ce_16 (E rfl rfl) (evsC (E rfl rfl) (evsC (E rfl rfl) evs0)) (F1 := []) (S1 := (Ent.box db 91 (dcC 139637976727552#64 e (.sl 4 (l0.flatMap seg0)) (mapT dpg) (mapT dkn)) :: memE 97 dpg dpgs)) (F2 := [Ent.box mb 73 (mcC (ms0 e) (.v (.pointer (some ⟨mm, 0, none⟩))) w (mapT kn))]) rfl (Dget16 db dpg _ rfl dpgs hdo _) ?_
    rintro t164 S164 ⟨rfl, rfl⟩
    refine AWL.nil ?_
    refine AWP.one (i := 3) (by kernel_rfl) rfl ?_
    refine AWL.y rfl rfl (B rfl) (Yv.loadRp rfl ag_5 (E rfl rfl) (fun hg => u8_gett (by rw [bytesR_len]; exact hj))) ?_
    refine AWL.nil ?_
    refine AWP.one (i := 10) (by kernel_rfl) rfl ?_
    refine AWL.y rfl rfl (B rfl) (Yv.neq rfl (E rfl rfl) (E rfl rfl)) ?_
    refine AWL.nil ?_
    refine AWP.done (by kernel_rfl) ?_
    exact ⟨(), trivial, (Sub.cons rfl rfl (Sub.cons rfl rfl (Sub.cons rfl rfl (Sub.cons rfl rfl (Sub.cons rfl rfl (Sub.cons rfl rfl (Sub.cons rfl rfl (Sub.cons rfl rfl (Sub.cons rfl (congrArg (fun b => T.v (.bool b)) (by rw [bytesR_get hj, hme, hdm]; simp)) Sub.nil))))))))), rfl⟩
   refine AWL.callF rfl rfl (B rfl) rfl ce_16 (E rfl rfl) (evsC (E rfl rfl) (evsC (E rfl rfl) evs0)) (F1 := []) (S1 := (Ent.box db 91 (dcC 139637976727552#64 e (.sl 4 (l0.flatMap seg0)) (mapT dpg) (mapT dkn)) :: memE 97 dpg dpgs)) (F2 := [Ent.box mb 73 (mcC (ms0 e) (.v (.pointer (some ⟨mm, 0, none⟩))) w (mapT kn))]) rfl (Dget16 db dpg _ rfl dpgs hdo _) ?_
   rintro t164 S164 ⟨rfl, rfl⟩
   refine AWL.nil ?_
   refine AWP.one (i := 2) (by kernel_rfl) rfl ?_
   refine AWL.y rfl rfl (B rfl) (Yv.indexSl (j := j) rfl ss_27 (B rfl) (E rfl rfl) (E rfl rfl) (fun hg => ⟨rfl, by rw [len_u8t, bytesR_len]; omega⟩)) ?_
   refine AWL.nil ?_
   refine AWP.one (i := 3) (by kernel_rfl) rfl ?_
   refine AWL.y rfl rfl (B rfl) (Yv.loadRp rfl ag_5 (E rfl rfl) (fun hg => u8_gett (by rw [bytesR_len]; exact hj))) ?_
   refine AWL.nil ?_
   refine AWP.one (i := 10) (by kernel_rfl) rfl ?_
   refine AWL.y rfl rfl (B rfl) (Yv.neq rfl (E rfl rfl) (E rfl rfl)) ?_
   refine AWL.nil ?_
   refine AWP.done (by kernel_rfl) ?_
   exact ⟨(), trivial, (Sub.cons rfl rfl (Sub.cons rfl rfl (Sub.cons rfl rfl (Sub.cons rfl rfl (Sub.cons rfl rfl (Sub.cons rfl rfl (Sub.cons rfl rfl (Sub.cons rfl rfl (Sub.cons rfl (congrArg (fun b => T.v (.bool b)) (by rw [bytesR_get hj, hme, hdm]; simp)) Sub.nil))))))))), rfl⟩
  rintro _ hmid
  refine AW.cond rfl (fun h11t => ?_) (fun h11f => ?_)
  ·try replace h11t := of_decide_eq_true h11t
   cases h11t
  try replace h11f := of_decide_eq_false h11f
  refine AW.skip ?_
  refine AW.region ?_
  refine AWL.y rfl rfl (B rfl) (Yv.move rfl (E rfl rfl)) ?_
  refine AWL.y rfl rfl (B rfl) (Yv.addN_i64 rfl (E rfl rfl) (E rfl rfl) (fun hg => by omega)) ?_
  refine AWL.y rfl rfl (B rfl) (Yv.assign rfl (E rfl rfl)) ?_
  refine AWL.nil ?_
  exact ⟨j + 1, by omega, by omega, (Sub.cons rfl rfl (Sub.cons rfl rfl (Sub.cons rfl rfl (Sub.cons rfl rfl (Sub.cons rfl rfl (Sub.cons rfl rfl (Sub.cons rfl rfl (Sub.cons rfl rfl Sub.nil)))))))), rfl⟩
 try replace h10f := of_decide_eq_false h10f
 refine AW.exit ?_
 refine AW.drop (S' := [Ent.box mb 73 (mcC (ms0 e) (.v (.pointer (some ⟨mm, 0, none⟩))) w (mapT kn))]) (List.sublist_append_right _ _) ?_
 refine AW.rseq ?_
 refine AWL.y rfl rfl (B rfl) (Yv.move rfl (E rfl rfl)) ?_
 refine AWL.y rfl rfl (B rfl) (Yv.geq rfl (E rfl rfl) (E rfl rfl)) ?_
 refine AWL.y rfl rfl (B rfl) (Yv.move rfl (E rfl rfl)) ?_
 refine AWL.ygT rfl rfl rfl rfl (B rfl) (Yv.move rfl (E rfl rfl)) ?_
 refine AWL.ygT rfl rfl rfl rfl (B rfl) (Yv.lss rfl (Eg rfl rfl id) (E rfl rfl)) ?_
 refine AWL.y rfl rfl (B rfl) (Yv.pickAnd rfl (E rfl rfl) (Eg rfl rfl id)) ?_
 refine AWL.y rfl rfl (B rfl) (Yv.assign rfl (E rfl rfl)) ?_
 refine AWL.nil ?_
 refine AW.rseq ?_
 refine AWL.y rfl rfl (B rfl) (Yv.move rfl (E rfl rfl)) ?_
 refine AWL.y rfl rfl (B rfl) (Yv.move rfl (E rfl rfl)) ?_
 refine AWL.callF rfl rfl (B rfl) rfl ce_17 (E rfl rfl) (evsC (E rfl rfl) (evsC (E rfl rfl) (evsC (E rfl rfl) evs0))) (F1 := []) (S1 := [Ent.box mb 73 (mcC (ms0 e) (.v (.pointer (some ⟨mm, 0, none⟩))) w (mapT kn))]) (F2 := []) rfl (setR mb (ms0 e) _ _ _ i 77#64 rfl rfl) ?_
 rintro t174 S174 ⟨s2, hs2, hs3, rfl, rfl⟩
 refine AWL.y rfl rfl (B rfl) (Yv.assign rfl (E rfl rfl)) ?_
 refine AWL.nil ?_
 refine AW.rseq ?_
 refine AWL.y rfl rfl (B rfl) (Yv.move rfl (E rfl rfl)) ?_
 refine AWL.y rfl rfl (B rfl) (Yv.eql rfl (E rfl rfl) (E rfl rfl)) ?_
 refine AWL.y rfl rfl (B rfl) (Yv.move rfl (E rfl rfl)) ?_
 refine AWL.y rfl rfl (B rfl) (Yv.eqlB rfl bo_4 (E rfl rfl) (E rfl rfl)) ?_
 refine AWL.y rfl rfl (B rfl) (Yv.move rfl (E rfl rfl)) ?_
 refine AWL.ygT rfl rfl rfl rfl (B rfl) (Yv.move rfl (E rfl rfl)) ?_
 refine AWL.ygT rfl rfl rfl rfl (B rfl) (Yv.move rfl (Eg rfl rfl id)) ?_
 refine AWL.ygT rfl rfl rfl rfl (B rfl) (Yv.move rfl (E rfl rfl)) ?_
 refine AWL.ygT rfl rfl rfl rfl (B rfl) (Yv.move rfl (E rfl rfl)) ?_
 refine AWL.callKgT rfl rfl rfl rfl (B rfl) rfl ce_12 (E rfl rfl) (evsC (Eg rfl rfl id) (evsC (Eg rfl rfl id) evs0)) (S1 := [Ent.box mb 73 (mcC (s2) (.v (.pointer (some ⟨mm, 0, none⟩))) w (mapT kn))]) (S2 := []) rfl (fun hg => Reg12 mb s2 _ _ _ i) (fun t S h => h) ?_
 refine AWL.ygT rfl rfl rfl rfl (B rfl) (Yv.eqlW (b := 77#64) rfl (Eg rfl rfl id) (E rfl rfl)) ?_
 refine AWL.ygT rfl rfl rfl rfl (B rfl) (Yv.pickAnd rfl (Eg rfl rfl id) (Eg rfl rfl id)) ?_
 refine AWL.ygT rfl rfl rfl rfl (B rfl) (Yv.move rfl (Eg rfl rfl id)) ?_
 refine AWL.ygF rfl rfl rfl rfl (B rfl) (Yv.move rfl (E rfl rfl)) ?_
 refine AWL.ygF rfl rfl rfl rfl (B rfl) (Yv.not rfl (Eg rfl rfl id)) ?_
 refine AWL.ygF rfl rfl rfl rfl (B rfl) (Yv.move rfl (Eg rfl rfl id)) ?_
 refine AWL.ygT rfl rfl rfl rfl (B rfl) (Yv.move rfl (E rfl rfl)) ?_
 refine AWL.ygT rfl rfl rfl rfl (B rfl) (Yv.eql rfl (Eg rfl rfl id) (E rfl rfl)) ?_
 refine AWL.ygF rfl rfl rfl rfl (B rfl) (Yv.pickAnd rfl (Eg rfl rfl id) (Eg rfl rfl id)) ?_
 refine AWL.ygF rfl rfl rfl rfl (B rfl) (Yv.move rfl (Eg rfl rfl id)) ?_
 refine AWL.ygT rfl rfl rfl rfl (B rfl) (Yv.move rfl (E rfl rfl)) ?_
 refine AWL.ygT rfl rfl rfl rfl (B rfl) (Yv.move rfl (E rfl rfl)) ?_
 refine AWL.callKgT rfl rfl rfl rfl (B rfl) rfl ce_12 (E rfl rfl) (evsC (Eg rfl rfl id) (evsC (Eg rfl rfl id) evs0)) (S1 := [Ent.box mb 73 (mcC (s2) (.v (.pointer (some ⟨mm, 0, none⟩))) w (mapT kn))]) (S2 := []) rfl (fun hg => Reg12 mb s2 _ _ _ i) (fun t S h => h) ?_
 refine AWL.ygT rfl rfl rfl rfl (B rfl) (Yv.eqlW (b := 0#64) rfl (Eg rfl rfl id) (E rfl rfl)) ?_
 refine AWL.ygF rfl rfl rfl rfl (B rfl) (Yv.pickAnd rfl (Eg rfl rfl id) (Eg rfl rfl id)) ?_
 refine AWL.ygF rfl rfl rfl rfl (B rfl) (Yv.move rfl (Eg rfl rfl id)) ?_
 refine AWL.ygT rfl rfl rfl rfl (B rfl) (Yv.move rfl (E rfl rfl)) ?_
 refine AWL.ygT rfl rfl rfl rfl (B rfl) (Yv.move rfl (E rfl rfl)) ?_
 refine AWL.callKgT rfl rfl rfl rfl (B rfl) rfl ce_18 (E rfl rfl) (evsC (Eg rfl rfl id) (evsC (Eg rfl rfl id) evs0)) (S1 := [Ent.box mb 73 (mcC (s2) (.v (.pointer (some ⟨mm, 0, none⟩))) w (mapT kn))]) (S2 := []) rfl (fun hg => Xmm18 mb s2 _ _ _ i) (fun t S h => h) ?_
 refine AWL.ygT rfl rfl rfl rfl (B rfl) (Yv.eqlW (b := 0#64) rfl (Eg rfl rfl id) (E rfl rfl)) ?_
 refine AWL.ygF rfl rfl rfl rfl (B rfl) (Yv.pickAnd rfl (Eg rfl rfl id) (Eg rfl rfl id)) ?_
 refine AWL.ygT rfl rfl rfl rfl (B rfl) (Yv.pickOr (t := .const (.bool true)) rfl (Eg rfl rfl id) (Eg rfl rfl id)) ?_
 refine AWL.y rfl rfl (B rfl) (Yv.pickAnd rfl (E rfl rfl) (Eg rfl rfl id)) ?_
 refine AWL.y rfl rfl (B rfl) (Yv.assign rfl (E rfl rfl)) ?_
 refine AWL.nil ?_
 refine AW.ret (retI (.tmp rfl .nil) ?_)
 refine congrArg (fun b => T.v (.bool b)) (a₂ := true) ?_
 generalize (decide (0 ≤ i) && decide (i < 16)) = b at hs2 hs3 ⊢
 cases b with
 | false =>
  obtain ⟨g1, g2⟩ := hs3 rfl
  simp [g1, g2]
 | true =>
  have g := hs2 rfl
  simp [g]

end Go.Proofs.YtecpjlhbkmongaaGreat.M

namespace Go.Proofs.YtecpjlhbkmongaaGreat
open Go.ChangeShapes Go.WideShapes Go.ChangeAt Go Go.RowKit
theorem bulk_one {H : Type} (d : DataW H) : 1 ≤ Rows.uptoBulk d := by
 cases d with
 | lit l => cases l <;> simp [Rows.uptoBulk]
 | _ => simp [Rows.uptoBulk]
theorem bulk_append {H : Type} (l r : List (DataW H)) : Rows.uptoBulkAll (l ++ r) = Rows.uptoBulkAll l + Rows.uptoBulkAll r := by
 induction l with
 | nil => simp [Rows.uptoBulkAll]
 | cons x s ih => simp only [Rows.uptoBulkAll, List.cons_append, ih]; omega
theorem cell_lt {w : World} {a : Addr} {v : Value} (h : w.cell? a = some v) : a.block < w.heap.size := by
 rcases Nat.lt_or_ge a.block w.heap.size with hn | hn
 ·exact hn
 simp [World.cell?, Array.getElem?_eq_none hn] at h
structure Opens (P : Program) (t : TypeId) {X : Type} (k : Nat) (cells : X → List T) (bulk : X → Nat) (ok : X → Prop) : Prop where
 size : P.cellsOf t = k
 one : ∀ {H : Type} {enc : TypeId × Value → H} {w : World} {base : Nat} {spare : Nat → Bool} {held : Bool} {fuel : Nat} {cs : List Value} {x : DataW H × List MemPlace},
  DataW.trod enc P w base spare held fuel t cs = some x → ∃ a, ok a ∧ VReps w [] (cells a) cs ∧ cs.length = k ∧ bulk a ≤ Rows.uptoBulk x.1
theorem Opens.turn {P : Program} {t : TypeId} {X Y : Type} {k : Nat} {cells : X → List T} {cells' : Y → List T} {bulk : X → Nat} {bulk' : Y → Nat} {ok : X → Prop} {ok' : Y → Prop} (h : Opens P t k cells bulk ok) (g : X → Y)
    (h1 : ∀ a, ok a → cells' (g a) = cells a ∧ bulk' (g a) ≤ bulk a ∧ ok' (g a)) : Opens P t k cells' bulk' ok' :=
 ⟨h.size, fun e => by
  obtain ⟨a, h2, h3, h4, h5⟩ := h.one e
  obtain ⟨h6, h7, h8⟩ := h1 a h2
  exact ⟨g a, h8, h6 ▸ h3, h4, Nat.le_trans h7 h5⟩⟩
theorem VReps.single {w : World} {L : List Nat} {t : T} {u : Value} (h : VRep w L t u) (h1 : u.oneCell' = true) : VReps w L [t] [u] := .cons h h1 .nil
theorem opens_int {P : Program} {t : TypeId} {k : IntKind} (ht : P.underlying t = some (.int k)) (hs : P.cellsOf t = 1) : Opens P t 1 (fun z : Int => [.v (.int k z)]) (fun _ => 1) (fun z => (Lit.int k z).wf = true) :=
 ⟨hs, fun e => by
  obtain ⟨n, rfl, rfl, h⟩ := DataW.trod_int ht e
  exact ⟨n, h, .single (.v _) rfl, rfl, bulk_one _⟩⟩
structure OpensF (P : Program) (fs : List Field) (o : Nat) {X : Type} (k : Nat) (cells : X → List T) (bulk : X → Nat) (ok : X → Prop) : Prop where
 all : ∀ {H : Type} {enc : TypeId × Value → H} {w : World} {base : Nat} {spare : Nat → Bool} {held : Bool} {n : Nat} {cs : List Value} {ys : List (DataW H × List MemPlace)},
  ys.length = fs.length → cs.length = o + k → (∀ (i : Nat) (f : Field), fs[i]? = some f → DataW.trod enc P w base spare held n f.type ((cs.drop f.offset).take (P.cellsOf f.type)) = ys[i]?) →
   ∃ a, ok a ∧ VReps w [] (cells a) (cs.drop o) ∧ bulk a ≤ Rows.uptoBulkAll (ys.map (·.1))
theorem opensF_nil {P : Program} {o : Nat} : OpensF P [] o 0 (fun _ : Unit => []) (fun _ => 0) (fun _ => True) :=
 ⟨fun {H enc w base spare held n cs ys} h1 h2 _ => ⟨(), trivial, by rw [List.drop_of_length_le (by omega)]; exact .nil, Nat.zero_le _⟩⟩
theorem opensF_cons {P : Program} {f : Field} {fs : List Field} {o k m : Nat} {X Y : Type} {cells : X → List T} {cells' : Y → List T} {bulk : X → Nat} {bulk' : Y → Nat} {ok : X → Prop} {ok' : Y → Prop} (h0 : Opens P f.type k cells bulk ok) (ho : f.offset = o)
    (h : OpensF P fs (o + k) m cells' bulk' ok') : OpensF P (f :: fs) o (k + m) (fun a : X × Y => cells a.1 ++ cells' a.2) (fun a => bulk a.1 + bulk' a.2) (fun a => ok a.1 ∧ ok' a.2) :=
 ⟨fun {H enc w base spare held n cs ys} h1 h2 h3 => by
  match ys, h1 with
  | y :: ys, h1 =>
   have e := h3 0 f rfl
   rw [ho, h0.size] at e
   simp only [List.getElem?_cons_zero] at e
   obtain ⟨a, q1, q2, q3, q4⟩ := h0.one e
   obtain ⟨b, r1, r2, r3⟩ := h.all (ys := ys) (cs := cs) (by simpa using h1) (by omega) (fun i g hg => by simpa using h3 (i + 1) g (by simpa using hg))
   refine ⟨(a, b), ⟨q1, r1⟩, ?_, by simp only [List.map_cons, Rows.uptoBulkAll]; omega⟩
   rw [← List.drop_drop] at r2
   have := q2.append r2
   rwa [List.take_append_drop] at this⟩
theorem opens_struct {P : Program} {t : TypeId} {fs : Array Field} {X : Type} {k : Nat} {cells : X → List T} {bulk : X → Nat} {ok : X → Prop} (ht : P.underlying t = some (.struct fs)) (hs : P.cellsOf t = k) (h : OpensF P fs.toList 0 k cells bulk ok) :
    Opens P t k cells (fun a => bulk a + 1) ok :=
 ⟨hs, fun e => by
  obtain ⟨xs, n, _, rfl, hl, hlen, hf⟩ := DataW.trod_struct ht e
  obtain ⟨a, h1, h2, h3⟩ := h.all (by simpa using hlen) (by omega) (fun i f hi => hf i f (by simpa using hi))
  exact ⟨a, h1, by simpa using h2, by omega, by simp only [Rows.uptoBulk]; omega⟩⟩
def sumBulk {X : Type} (bulk : X → Nat) (l : List X) : Nat := (l.map bulk).sum
theorem opens_slice {P : Program} {t e : TypeId} {X : Type} {k : Nat} {cells : X → List T} {bulk : X → Nat} {ok : X → Prop} (ht : P.underlying t = some (.slice e)) (hs : P.cellsOf t = 1) (hk : 0 < k) (h : Opens P e k cells bulk ok) :
    Opens P t 1 (fun l : List X => [.sl k (l.flatMap cells)]) (fun l => sumBulk bulk l + 1) (fun l => (∀ a ∈ l, ok a) ∧ l.length ≤ maxLen) :=
 ⟨hs, fun {H enc w base spare held fuel cs x} ex => by
  rcases Go.Deep.open_slice ht ex with ⟨rfl, rfl⟩ | ⟨a, len, cap, m, n, D, Pl, rfl, hb, hl, hm, hmm, rfl, hx⟩
  ·exact ⟨[], ⟨fun a ha => (by cases ha), Nat.zero_le _⟩, .single (.sl0 (Nat.zero_le _)) rfl, rfl, by simp [sumBulk, Rows.uptoBulk]⟩
  ·have hlm : len ≤ m := by rw [hmm]; split <;> omega
   rw [h.size] at hx
   have key : ∀ q, q ≤ len → ∃ (l : List X) (us : List Value), l.length = q ∧ us.length = q * k ∧ VReps w [] (l.flatMap cells) us ∧ (∀ j u, us[j]? = some u → w.cell? (a.add j) = some u) ∧ (∀ a ∈ l, ok a) ∧
       sumBulk bulk l ≤ Rows.uptoBulkAll ((List.range q).map D) := by
    intro q
    induction q with
    | zero => exact fun _ => ⟨[], [], rfl, by simp, .nil, fun j u hu => by simp at hu, fun a ha => (by cases ha), by simp [sumBulk]⟩
    | succ q ih =>
     intro hq
     obtain ⟨l, us, h1, h2, h3, h4, h5, h6⟩ := ih (by omega)
     obtain ⟨cs', h7, h8⟩ := hx q (by omega)
     obtain ⟨a', h9, h10, h11, h12⟩ := h.one h8
     obtain ⟨_, _, h13⟩ := World.cells?_some h7
     refine ⟨l ++ [a'], us ++ cs', by simp [h1], ?_, ?_, ?_, ?_, ?_⟩
     ·rw [List.length_append, h2, h11, Nat.succ_mul]
     ·rw [List.flatMap_append]
      simpa using h3.append h10
     ·intro j u hu
      by_cases hj : j < us.length
      ·rw [List.getElem?_append_left hj] at hu
       exact h4 j u hu
      ·rw [List.getElem?_append_right (by omega)] at hu
       have hjl := (List.getElem?_eq_some_iff.1 hu).1
       have := h13 (j - us.length) (by omega)
       rw [add_add', hu] at this
       rw [← this]
       congr 2
       omega
     ·intro y hy
      rcases List.mem_append.1 hy with hy | hy
      ·exact h5 y hy
      ·rcases List.mem_singleton.1 hy with rfl
       exact h9
     ·rw [List.range_succ, List.map_append, bulk_append]
      simp only [sumBulk, List.map_append, List.sum_append, List.map_cons, List.map_nil, List.sum_cons, List.sum_nil, Rows.uptoBulkAll] at h6 h12 ⊢
      omega
   obtain ⟨l, us, h1, h2, h3, h4, h5, h6⟩ := key len (Nat.le_refl _)
   refine ⟨l, ⟨h5, by omega⟩, .single ?_ rfl, rfl, by simp only [Rows.uptoBulk]; omega⟩
   rcases Nat.eq_zero_or_pos len with rfl | hpos
   ·rw [List.eq_nil_of_length_eq_zero h1]
    exact .sl0 hm
   ·have hlu := h3.len
    have hup : 0 < us.length := by rw [h2]; exact Nat.mul_pos hpos hk
    have hc0 := h4 0 _ (List.getElem?_eq_getElem hup)
    exact .sl hpos (by rw [hlu, h2]) hlu hl hm (by have := cell_lt hc0; rwa [block_add] at this) (by simp) h4 h3.at_ h3.one⟩
def byteOfInt (z : Int) : UInt8 := UInt8.ofNat z.toNat
theorem byteOfInt_back {z : Int} (h : (Lit.int .u8 z).wf = true) : ((byteOfInt z).toNat : Int) = z := by
 have hx : 0 ≤ z ∧ z ≤ 255 := by simpa [Lit.wf, IntKind.min, IntKind.max, IntKind.signed, IntKind.bits] using h
 unfold byteOfInt
 rw [UInt8.toNat_ofNat']
 omega
theorem sumBulk_one {X : Type} : ∀ (l : List X), sumBulk (fun _ => 1) l = l.length
 | [] => rfl
 | _ :: r => by have := sumBulk_one r; simp only [sumBulk, List.map_cons, List.sum_cons, List.length_cons] at this ⊢; omega
theorem flat_one {X : Type} (f : X → T) : ∀ (l : List X), l.flatMap (fun a => [f a]) = l.map f
 | [] => rfl
 | _ :: r => by simp [flat_one f r]
theorem opens_bytes {P : Program} {t e : TypeId} (ht : P.underlying t = some (.slice e)) (hs : P.cellsOf t = 1) (he : P.underlying e = some (.int .u8)) (hs' : P.cellsOf e = 1) :
    Opens P t 1 (fun l : List UInt8 => [.sl 1 (l.map fun b => .v (.int .u8 b.toNat))]) (fun l => l.length + 1) (fun l => l.length ≤ maxLen) :=
 (opens_slice ht hs (by decide) (opens_int he hs')).turn (fun l => l.map byteOfInt) (fun l hl => ⟨by
     rw [flat_one, List.map_map]
     congr 2
     refine List.map_congr_left fun z hz => ?_
     simp only [Function.comp]
     rw [byteOfInt_back (hl.1 z hz)], by simp [sumBulk_one], by simpa using hl.2⟩)
theorem Opens.agg {P : Program} {t : TypeId} {fs : Array Field} {X : Type} {k : Nat} {cells : X → List T} {bulk : X → Nat} {ok : X → Prop} (h : Opens P t k cells bulk ok) (ht : P.underlying t = some (.struct fs))
    {H : Type} {enc : TypeId × Value → H} {w : World} {base b0 : Nat} {r : Reach} {spare : Nat → Bool} {held : Bool} {v : Value} {d : DataW H} {p : List MemPlace} (hv : Value.okWide P w r b0 t v) (e : DataW.Trod enc P w base spare held t v d p) :
    ∃ a, ok a ∧ VRep w [] (.agg (cells a)) v ∧ bulk a ≤ Rows.uptoBulk d := by
 obtain ⟨cs, rfl, hsz⟩ := okWide_struct ht hv
 obtain ⟨fuel, hf⟩ := e
 obtain ⟨a, h1, h2, h3, h4⟩ := h.one hf
 simp only [Value.cells] at h2 h3
 exact ⟨a, h1, by
  have := VRep.agg h2.len h2.at_ h2.one
  simpa using this, h4⟩
end Go.Proofs.YtecpjlhbkmongaaGreat

namespace Go.Proofs.YtecpjlhbkmongaaGreat
open Go Go.RowKit Go.ChangeShapes Go.WideShapes Go.ChangeAt
theorem laidOut : laidOutB Tryz.prog = true := by kernel_rfl
end Go.Proofs.YtecpjlhbkmongaaGreat
namespace Go.Proofs.YtecpjlhbkmongaaGreat.M
open Go.ChangeShapes Go.WideShapes Go.ChangeAt Go Go.RowKit
section
variable {H : Type} {enc : TypeId × Value → H} {w : World} {base b0 : Nat} {spare : Nat → Bool} {held : Bool} {v : Value} {d : DataW H} {p : List MemPlace}
theorem int_u64 {z : Int} (h : (Lit.int .u64 z).wf = true) : 0 ≤ z ∧ z ≤ 18446744073709551615 := by simpa [Lit.wf, IntKind.min, IntKind.max, IntKind.signed, IntKind.bits] using h
set_option maxRecDepth 100000 in
theorem open_u64 (hv : Value.okWide Tryz.prog w .any b0 22 v) (e : DataW.Trod enc Tryz.prog w base spare held 22 v d p) : ∃ a : Wd64, VRep w [] (zw a) v := by
 obtain ⟨z, rfl⟩ := okWide_int Tryz.underlying22 hv
 obtain ⟨fuel, hf⟩ := e
 obtain ⟨z', h1, _, h2⟩ := DataW.trod_int Tryz.underlying22 hf
 simp only [Value.cells, List.cons.injEq, Value.int.injEq, true_and, and_true] at h1
 subst h1
 obtain ⟨z0, z1⟩ := int_u64 h2
 refine ⟨BitVec.ofInt 64 z, ?_⟩
 have e : ((BitVec.ofInt 64 z).toNat : Int) = z := by
  rw [BitVec.toNat_ofInt]; omega
 unfold zw
 rw [e]
 exact .v _
theorem int_i64 {z : Int} (h : (Lit.int .i64 z).wf = true) : -9223372036854775808 ≤ z ∧ z ≤ 9223372036854775807 := by simpa [Lit.wf, IntKind.min, IntKind.max, IntKind.signed, IntKind.bits] using h
set_option maxRecDepth 100000 in
theorem open_i64 (hv : Value.okWide Tryz.prog w .any b0 3 v) (e : DataW.Trod enc Tryz.prog w base spare held 3 v d p) : ∃ z : Int, -9223372036854775808 ≤ z ∧ z ≤ 9223372036854775807 ∧ VRep w [] (.v (.int .i64 z)) v := by
 obtain ⟨z, rfl⟩ := okWide_int Tryz.underlying3 hv
 obtain ⟨fuel, hf⟩ := e
 obtain ⟨z', h1, _, h2⟩ := DataW.trod_int Tryz.underlying3 hf
 simp only [Value.cells, List.cons.injEq, Value.int.injEq, true_and, and_true] at h1
 subst h1
 exact ⟨z, (int_i64 h2).1, (int_i64 h2).2, .v _⟩
set_option maxRecDepth 100000 in
theorem opens22 : Opens Tryz.prog 22 1 (fun a : Wd64 => [zw a]) (fun _ => 1) (fun _ => True) :=
 (opens_int Tryz.underlying22 (by kernel_rfl)).turn (fun z => BitVec.ofInt 64 z) (fun z h => ⟨by
  have hz := int_u64 h
  have e : ((BitVec.ofInt 64 z).toNat : Int) = z := by rw [BitVec.toNat_ofInt]; omega
  unfold zw
  rw [e], Nat.le_refl _, trivial⟩)
theorem opens3 : Opens Tryz.prog 3 1 (fun z : Int => [zi z]) (fun _ => 1) (fun z => -9223372036854775808 ≤ z ∧ z ≤ 9223372036854775807) :=
 (opens_int Tryz.underlying3 (by kernel_rfl)).turn (fun z => z) (fun z h => ⟨rfl, Nat.le_refl _, int_i64 h⟩)
theorem opens27 : Opens Tryz.prog 27 1 (fun l : List UInt8 => [.sl 1 (l.map u8)]) (fun l => l.length + 1) (fun l => l.length ≤ maxLen) := opens_bytes Tryz.underlying27 (by kernel_rfl) Tryz.underlying5 (by kernel_rfl)
theorem opens29 : Opens Tryz.prog 29 4 segC (fun s => s.data.length + 1) (fun _ => True) :=
 (opens_struct Tryz.underlying29 (by kernel_rfl) (opensF_cons opens22 rfl (opensF_cons opens22 rfl (opensF_cons opens3 rfl (opensF_cons opens27 rfl opensF_nil))))).turn (fun a => (⟨a.1, a.2.1, a.2.2.1, a.2.2.2.1⟩ : Seg)) (fun a h => ⟨rfl, by dsimp only; omega, trivial⟩)
theorem opens23 : Opens Tryz.prog 23 1 (fun l : List Seg => [.sl 4 (l.flatMap segC)]) (fun l => sumBulk (fun s : Seg => s.data.length + 1) l + 1) (fun _ => True) :=
 (opens_slice Tryz.underlying23 (by kernel_rfl) (by decide) opens29).turn (fun l => l) (fun l h => ⟨rfl, Nat.le_refl _, trivial⟩)
theorem opens25 : Opens Tryz.prog 25 2 (fun q : Wd64 × List Seg => [zw q.1, .sl 4 (q.2.flatMap segC)]) (fun q => sumBulk (fun s : Seg => s.data.length + 1) q.2) (fun _ => True) :=
 (opens_struct Tryz.underlying25 (by kernel_rfl) (opensF_cons opens22 rfl (opensF_cons opens23 rfl opensF_nil))).turn (fun a => (a.1, a.2.1)) (fun a h => ⟨rfl, by dsimp only; omega, trivial⟩)
theorem sum_mem {X : Type} {f : X → Nat} {l : List X} {s : X} (h : s ∈ l) : f s ≤ sumBulk f l := by
 induction l with
 | nil => cases h
 | cons x r ih =>
  simp only [sumBulk, List.map_cons, List.sum_cons] at ih ⊢
  rcases List.mem_cons.1 h with rfl | h
  ·omega
  ·have := ih h; omega
theorem sum_len {X : Type} {f : X → Nat} (h : ∀ x, 1 ≤ f x) (l : List X) : l.length ≤ sumBulk f l := by
 induction l with
 | nil => exact Nat.zero_le _
 | cons x r ih =>
  simp only [sumBulk, List.map_cons, List.sum_cons, List.length_cons] at ih ⊢
  have := h x; omega
theorem seg_len (l : List Seg) : l.length ≤ sumBulk (fun s : Seg => s.data.length + 1) l := sum_len (fun x => by omega) l
theorem seg_in {l : List Seg} {s : Seg} (h : s ∈ l) : s.data.length + 1 ≤ sumBulk (fun s : Seg => s.data.length + 1) l := sum_mem (f := fun s : Seg => s.data.length + 1) h
set_option maxRecDepth 100000 in
theorem open_loaded (hv : Value.okWide Tryz.prog w .any b0 25 v) (e : DataW.Trod enc Tryz.prog w base spare held 25 v d p) : ∃ q : Wd64 × List Seg, VRep w [] (.agg [zw q.1, .sl 4 (q.2.flatMap segC)]) v ∧ sumBulk (fun s : Seg => s.data.length + 1) q.2 ≤ Rows.uptoBulk d := by
 obtain ⟨q, _, h2, h3⟩ := opens25.agg Tryz.underlying25 hv e
 exact ⟨q, h2, h3⟩
end
end Go.Proofs.YtecpjlhbkmongaaGreat.M
