/-
  TEXTS JOINED: Wk23, Eq, Wk24, Wk25, Sr, Wk26, Wk27, Aw27, Py, Aw28, Cp, Wk29, Wk30, Wk31, Aw14, Laws, Open, Opp.
-/
import Derived.Maps.RangeRun
import Derived.Test.YtmiggpnkicdijaaRows
import Derived.ProofKit
import Derived.OpenShut
import Derived.JoinedCond
import Derived.Carry
import Derived.Deep.Slices
import Derived.Test.YtmiggpnkicdijaaQc
set_option linter.unusedSimpArgs false
set_option linter.unusedVariables false
set_option linter.unusedSectionVars false
set_option linter.unnecessarySimpa false
namespace Go.Proofs.Ytmiggpnkicdijaa
open Go Go.RowKit
set_option linter.unusedVariables false
set_option linter.unnecessarySimpa false
set_option linter.unusedSimpArgs false

set_option maxHeartbeats 8000000 in
theorem does22 (b m : Nat) (ws : WS) (b2 : Nat) (ds : DS) (n : Nat) (hb : Both n ws ds) (hn : n ≤ 274877906944) (s : StepS) (hk : StepOk s) :
    ACalls Try.prog 22 [wp b, wp b2, .agg (stepCells s)] (WSt b m ws ++ DSt b2 ds) (fun t S => t = .v (.bool true) ∧ ∃ ws' ds', Both (n + 2 + s.text.length) ws' ds' ∧ S = WSt b m ws' ++ DSt b2 ds') := by
  have hk1 := hk
  obtain ⟨k0, k1, f0, f1, n1, nm1, tx1⟩ := hk
  refine ACalls.intro Try.func22 rfl Try.ntmps22 (Nat.le_of_ble_eq_true rfl) rfl fun X w0 => ?_
  refine AW.rseq ?_
  refine AWL.boxOp rfl rfl (B rfl) rfl (E rfl rfl) rfl (fun b5 => ?_)
  refine Y1 (Yv.assign rfl eV) ?_
  refine nl ?_
  refine AW.perm (S' := .box b5 58 (stepCells s) :: ((WSt b m ws) ++ (DSt b2 ds))) (List.perm_append_singleton _ _).symm ?_
  refine AW.seq ?_
  refine AW.rseq ?_
  refine Y1 (Yv.fieldBox rfl fo_58_0 eV) ?_
  refine Y1 (Yv.loadBox rfl ag_3 (i := 0) rfl (E rfl rfl) rfl) ?_
  refine AWL.callP rfl rfl (B rfl) rfl ce_11 (E rfl rfl) (evsC (E rfl rfl) (evsC (E rfl rfl) evs0)) (pick11 s.kind 16 k0 k1 (by decide)) (fun t S h => h) ?_
  refine nl ?_
  refine AW.block ?_
  refine AW.seq ?_
  refine AW.rseq ?_
  refine Y1 (Yv.eql rfl eV eV) ?_
  refine Y1 (Yv.assign rfl eV) ?_
  refine nl ?_
  refine AW.cond rfl (fun h0t => ?_) (fun h0f => ?_)
  ·
   try replace h0t := of_decide_eq_true h0t
   refine AW.skip ?_
   refine AW.cond rfl (fun h1t => ?_) (fun h1f => ?_)
   ·
    try replace h1t := of_decide_eq_true h1t
    refine AW.rseqH (HeldBox b5 (stepVals s)) rfl (tells_box (k := 0) rfl) ?_
    refine AWH.tk (i := 0) rfl rfl rfl (B rfl) (heldAll (freeMove rfl (E rfl rfl))) ?_
    refine AWH.tk (i := 1) rfl rfl rfl (B rfl) (heldAll (freeField rfl fo_58_3 (E rfl rfl))) ?_
    refine AWH.tk (i := 2) rfl rfl rfl (B rfl) (heldLoad rfl ag_9 (E rfl rfl) rfl) ?_
    refine AWH.tk (i := 3) rfl rfl rfl (B rfl) (heldLoadA rfl ag_58 (E rfl rfl) rfl rfl rfl rfl) ?_
    refine AWH.tk (i := 6) rfl rfl rfl (B rfl) (heldAll (freeMove rfl (E rfl rfl))) ?_
    refine AWH.tk (i := 7) rfl rfl rfl (B rfl) (heldAll (freeField rfl fo_58_3 (E rfl rfl))) ?_
    refine AWH.tk (i := 8) rfl rfl rfl (B rfl) (heldLoad rfl ag_9 (E rfl rfl) rfl) ?_
    refine AWH.tk (i := 9) rfl rfl rfl (B rfl) (heldLoadA rfl ag_58 (E rfl rfl) rfl rfl rfl rfl) ?_
    refine AWH.one (i := 4) (by kernel_rfl) rfl ?_
    refine AWL.callP rfl rfl (B rfl) rfl ce_36 (E rfl rfl) (evsC (E rfl rfl) evs0) (flags36 s hk1) (fun t S h => h) ?_
    refine tb 0 rfl ?_
    refine AWH.one (i := 5) (by kernel_rfl) rfl ?_
    refine AWL.callF rfl rfl (B rfl) rfl ce_17 (E rfl rfl) (evsC (E rfl rfl) (evsC (E rfl rfl) (evsC (E rfl rfl) evs0))) (F1 := [.box b5 58 (stepCells s)]) (S1 := (WSt b m ws)) (F2 := (DSt b2 ds)) rfl (rSysOpen b m ws n hb.r (by omega) s.name (flagsF s)) ?_
    rintro t27 S27 ⟨rfl, ws27, hd27, rfl⟩
    refine tb 0 rfl ?_
    refine AWH.one (i := 10) (by kernel_rfl) rfl ?_
    refine AWL.callP rfl rfl (B rfl) rfl ce_36 (E rfl rfl) (evsC (E rfl rfl) evs0) (flags36 s hk1) (fun t S h => h) ?_
    refine tb 0 rfl ?_
    refine AWH.one (i := 11) (by kernel_rfl) rfl ?_
    refine AWL.callE rfl rfl (B rfl) rfl ce_37 (E rfl rfl) (evsC (E rfl rfl) (evsC (E rfl rfl) (evsC (E rfl rfl) evs0))) (F1 := (.box b5 58 (stepCells s) :: (WSt b m ws27))) (S1 := (DSt b2 ds)) rfl (SysOpen37 b2 ds n hb.pd (by omega) s.name (flagsF s) (by omega)) ?_
    rintro t33 S33 ⟨rfl, ds33, he33, rfl⟩
    rw [hb.s.openV]
    refine tb 0 rfl ?_
    refine AWH.one (i := 12) (by kernel_rfl) rfl ?_
    refine Y1 (Yv.eql rfl eV eV) ?_
    refine tb 0 rfl ?_
    refine AWH.one (i := 13) (by kernel_rfl) rfl ?_
    refine Y1 (Yv.assign rfl eV) ?_
    refine tb 0 rfl ?_
    refine AWH.done (by kernel_rfl) ?_
    have hend := hb.opened hd27 he33
    refine AW.dropAt 0 ?_
    refine AW.ret (retI (.tmp rfl .nil) ?_)
    refine ⟨by first | rfl | (simp; rfl) | (simp; done), _, _, hend.mono (by omega), rfl⟩
   · exfalso; replace h1f := of_decide_eq_false h1f; omega
  try replace h0f := of_decide_eq_false h0f
  refine AW.rseq ?_
  refine Y1 (Yv.eql rfl eV eV) ?_
  refine Y1 (Yv.assign rfl eV) ?_
  refine nl ?_
  refine AW.cond rfl (fun h2t => ?_) (fun h2f => ?_)
  ·
   try replace h2t := of_decide_eq_true h2t
   refine AW.skip ?_
   refine AW.cond rfl (fun h3t => ?_) (fun h3f => ?_)
   ·
    try replace h3t := of_decide_eq_true h3t
    refine AW.rseqH (HeldBox b5 (stepVals s)) rfl (tells_box (k := 0) rfl) ?_
    refine AWH.tk (i := 0) rfl rfl rfl (B rfl) (heldAll (freeMove rfl (E rfl rfl))) ?_
    refine AWH.tk (i := 1) rfl rfl rfl (B rfl) (heldAll (freeField rfl fo_58_3 (E rfl rfl))) ?_
    refine AWH.tk (i := 2) rfl rfl rfl (B rfl) (heldLoad rfl ag_9 (E rfl rfl) rfl) ?_
    refine AWH.tk (i := 3) rfl rfl rfl (B rfl) (heldLoadA rfl ag_58 (E rfl rfl) rfl rfl rfl rfl) ?_
    refine AWH.tk (i := 6) rfl rfl rfl (B rfl) (heldAll (freeMove rfl (E rfl rfl))) ?_
    refine AWH.tk (i := 7) rfl rfl rfl (B rfl) (heldAll (freeField rfl fo_58_3 (E rfl rfl))) ?_
    refine AWH.tk (i := 8) rfl rfl rfl (B rfl) (heldLoad rfl ag_9 (E rfl rfl) rfl) ?_
    refine AWH.tk (i := 9) rfl rfl rfl (B rfl) (heldLoadA rfl ag_58 (E rfl rfl) rfl rfl rfl rfl) ?_
    refine AWH.one (i := 4) (by kernel_rfl) rfl ?_
    refine AWL.callP rfl rfl (B rfl) rfl ce_36 (E rfl rfl) (evsC (E rfl rfl) evs0) (flags36 s hk1) (fun t S h => h) ?_
    refine tb 0 rfl ?_
    refine AWH.one (i := 5) (by kernel_rfl) rfl ?_
    refine AWL.callF rfl rfl (B rfl) rfl ce_17 (E rfl rfl) (evsC (E rfl rfl) (evsC (E rfl rfl) (evsC (E rfl rfl) evs0))) (F1 := [.box b5 58 (stepCells s)]) (S1 := (WSt b m ws)) (F2 := (DSt b2 ds)) rfl (rSysOpen b m ws n hb.r (by omega) s.name (flagsF s)) ?_
    rintro t27 S27 ⟨rfl, ws27, hd27, rfl⟩
    refine tb 0 rfl ?_
    refine AWH.one (i := 10) (by kernel_rfl) rfl ?_
    refine AWL.callP rfl rfl (B rfl) rfl ce_36 (E rfl rfl) (evsC (E rfl rfl) evs0) (flags36 s hk1) (fun t S h => h) ?_
    refine tb 0 rfl ?_
    refine AWH.one (i := 11) (by kernel_rfl) rfl ?_
    refine AWL.callE rfl rfl (B rfl) rfl ce_37 (E rfl rfl) (evsC (E rfl rfl) (evsC (E rfl rfl) (evsC (E rfl rfl) evs0))) (F1 := (.box b5 58 (stepCells s) :: (WSt b m ws27))) (S1 := (DSt b2 ds)) rfl (SysOpen37 b2 ds n hb.pd (by omega) s.name (flagsF s) (by omega)) ?_
    rintro t33 S33 ⟨rfl, ds33, he33, rfl⟩
    rw [hb.s.openV]
    refine tb 0 rfl ?_
    refine AWH.one (i := 12) (by kernel_rfl) rfl ?_
    refine Y1 (Yv.eql rfl eV eV) ?_
    refine tb 0 rfl ?_
    refine AWH.one (i := 13) (by kernel_rfl) rfl ?_
    refine Y1 (Yv.assign rfl eV) ?_
    refine tb 0 rfl ?_
    refine AWH.done (by kernel_rfl) ?_
    have hend := hb.opened hd27 he33
    refine AW.dropAt 0 ?_
    refine AW.ret (retI (.tmp rfl .nil) ?_)
    refine ⟨by first | rfl | (simp; rfl) | (simp; done), _, _, hend.mono (by omega), rfl⟩
   · exfalso; replace h3f := of_decide_eq_false h3f; omega
  try replace h2f := of_decide_eq_false h2f
  refine AW.region ?_
  refine Y1 (Yv.eql rfl eV eV) ?_
  refine Y1 (Yv.assign rfl eV) ?_
  refine nl ?_
  refine AW.cond rfl (fun h4t => ?_) (fun h4f => ?_)
  ·
   try replace h4t := of_decide_eq_true h4t
   refine AW.rseqH (HeldBox b5 (stepVals s)) rfl (tells_box (k := 0) rfl) ?_
   refine AWH.tk (i := 0) rfl rfl rfl (B rfl) (heldAll (freeMove rfl (E rfl rfl))) ?_
   refine AWH.tk (i := 1) rfl rfl rfl (B rfl) (heldAll (freeField rfl fo_58_3 (E rfl rfl))) ?_
   refine AWH.tk (i := 2) rfl rfl rfl (B rfl) (heldLoad rfl ag_9 (E rfl rfl) rfl) ?_
   refine AWH.tk (i := 3) rfl rfl rfl (B rfl) (heldLoadA rfl ag_58 (E rfl rfl) rfl rfl rfl rfl) ?_
   refine AWH.tk (i := 6) rfl rfl rfl (B rfl) (heldAll (freeMove rfl (E rfl rfl))) ?_
   refine AWH.tk (i := 7) rfl rfl rfl (B rfl) (heldAll (freeField rfl fo_58_3 (E rfl rfl))) ?_
   refine AWH.tk (i := 8) rfl rfl rfl (B rfl) (heldLoad rfl ag_9 (E rfl rfl) rfl) ?_
   refine AWH.tk (i := 9) rfl rfl rfl (B rfl) (heldLoadA rfl ag_58 (E rfl rfl) rfl rfl rfl rfl) ?_
   refine AWH.one (i := 4) (by kernel_rfl) rfl ?_
   refine AWL.callP rfl rfl (B rfl) rfl ce_36 (E rfl rfl) (evsC (E rfl rfl) evs0) (flags36 s hk1) (fun t S h => h) ?_
   refine tb 0 rfl ?_
   refine AWH.one (i := 5) (by kernel_rfl) rfl ?_
   refine AWL.callF rfl rfl (B rfl) rfl ce_17 (E rfl rfl) (evsC (E rfl rfl) (evsC (E rfl rfl) (evsC (E rfl rfl) evs0))) (F1 := [.box b5 58 (stepCells s)]) (S1 := (WSt b m ws)) (F2 := (DSt b2 ds)) rfl (rSysOpen b m ws n hb.r (by omega) s.name (flagsF s)) ?_
   rintro t27 S27 ⟨rfl, ws27, hd27, rfl⟩
   refine tb 0 rfl ?_
   refine AWH.one (i := 10) (by kernel_rfl) rfl ?_
   refine AWL.callP rfl rfl (B rfl) rfl ce_36 (E rfl rfl) (evsC (E rfl rfl) evs0) (flags36 s hk1) (fun t S h => h) ?_
   refine tb 0 rfl ?_
   refine AWH.one (i := 11) (by kernel_rfl) rfl ?_
   refine AWL.callE rfl rfl (B rfl) rfl ce_37 (E rfl rfl) (evsC (E rfl rfl) (evsC (E rfl rfl) (evsC (E rfl rfl) evs0))) (F1 := (.box b5 58 (stepCells s) :: (WSt b m ws27))) (S1 := (DSt b2 ds)) rfl (SysOpen37 b2 ds n hb.pd (by omega) s.name (flagsF s) (by omega)) ?_
   rintro t33 S33 ⟨rfl, ds33, he33, rfl⟩
   rw [hb.s.openV]
   refine tb 0 rfl ?_
   refine AWH.one (i := 12) (by kernel_rfl) rfl ?_
   refine Y1 (Yv.eql rfl eV eV) ?_
   refine tb 0 rfl ?_
   refine AWH.one (i := 13) (by kernel_rfl) rfl ?_
   refine Y1 (Yv.assign rfl eV) ?_
   refine tb 0 rfl ?_
   refine AWH.done (by kernel_rfl) ?_
   have hend := hb.opened hd27 he33
   refine AW.dropAt 0 ?_
   refine AW.ret (retI (.tmp rfl .nil) ?_)
   refine ⟨by first | rfl | (simp; rfl) | (simp; done), _, _, hend.mono (by omega), rfl⟩
  try replace h4f := of_decide_eq_false h4f
  refine AW.seq ?_
  refine AW.rseq ?_
  refine Y1 (Yv.eql rfl eV eV) ?_
  refine Y1 (Yv.assign rfl eV) ?_
  refine nl ?_
  refine AW.cond rfl (fun h5t => ?_) (fun h5f => ?_)
  ·
   try replace h5t := of_decide_eq_true h5t
   refine AW.skip ?_
   refine AW.cond rfl (fun h6t => ?_) (fun h6f => ?_)
   ·
    try replace h6t := of_decide_eq_true h6t
    refine AW.rseqH (HeldBox b5 (stepVals s)) rfl (tells_box (k := 0) rfl) ?_
    refine AWH.tk (i := 0) rfl rfl rfl (B rfl) (heldAll (freeMove rfl (E rfl rfl))) ?_
    refine AWH.tk (i := 1) rfl rfl rfl (B rfl) (heldLoadA rfl ag_58 (E rfl rfl) rfl rfl rfl rfl) ?_
    refine AWH.tk (i := 3) rfl rfl rfl (B rfl) (heldAll (freeField rfl fo_58_2 (E rfl rfl))) ?_
    refine AWH.tk (i := 4) rfl rfl rfl (B rfl) (heldLoad rfl ag_51 (E rfl rfl) rfl) ?_
    refine AWH.one (i := 2) (by kernel_rfl) rfl ?_
    refine AWL.callP rfl rfl (B rfl) rfl ce_38 (E rfl rfl) (evsC (E rfl rfl) evs0) (fd38 s hk1) (fun t S h => h) ?_
    refine tb 0 rfl ?_
    refine AWH.one (i := 5) (by kernel_rfl) rfl ?_
    refine AWL.callF rfl rfl (B rfl) rfl ce_20 (E rfl rfl) (evsC (E rfl rfl) (evsC (E rfl rfl) (evsC (E rfl rfl) evs0))) (F1 := [.box b5 58 (stepCells s)]) (S1 := (WSt b m ws)) (F2 := (DSt b2 ds)) rfl (rSysRead b m ws n hb.r (by omega) (fdF s) s.n n1) ?_
    rintro t44 S44 ⟨rfl, ws44, hd44, rfl⟩
    refine tb 0 rfl ?_
    refine AWH.one (i := 6) (by kernel_rfl) rfl ?_
    refine Y1 (Yv.move rfl eV) ?_
    refine tb 0 rfl ?_
    refine AWH.two (i := 7) (j := 8) (by kernel_rfl) rfl rfl ?_ ?_
    ·
     refine Y1 (Yv.extract rfl eV rfl) ?_
     refine tb 0 rfl ?_
     refine AWH.two (i := 8) (j := 9) (by kernel_rfl) rfl rfl ?_ ?_
     ·
      refine Y1 (Yv.extract rfl eV rfl) ?_
      refine tb 0 rfl ?_
      refine AWH.one (i := 9) (by kernel_rfl) rfl ?_
      refine Y1 (Yv.assign rfl eV) ?_
      refine tb 0 rfl ?_
      refine AWH.one (i := 10) (by kernel_rfl) rfl ?_
      refine Y1 (Yv.assign rfl eV) ?_
      refine tb 0 rfl ?_
      refine AWH.done (by kernel_rfl) ?_
      refine AW.rseqH (HeldBox b5 (stepVals s)) rfl (tells_box (k := 0) rfl) ?_
      refine AWH.tk (i := 0) rfl rfl rfl (B rfl) (heldAll (freeMove rfl (E rfl rfl))) ?_
      refine AWH.tk (i := 1) rfl rfl rfl (B rfl) (heldLoadA rfl ag_58 (E rfl rfl) rfl rfl rfl rfl) ?_
      refine AWH.tk (i := 3) rfl rfl rfl (B rfl) (heldAll (freeField rfl fo_58_2 (E rfl rfl))) ?_
      refine AWH.tk (i := 4) rfl rfl rfl (B rfl) (heldLoad rfl ag_51 (E rfl rfl) rfl) ?_
      refine AWH.one (i := 2) (by kernel_rfl) rfl ?_
      refine AWL.callP rfl rfl (B rfl) rfl ce_38 (E rfl rfl) (evsC (E rfl rfl) evs0) (fd38 s hk1) (fun t S h => h) ?_
      refine tb 0 rfl ?_
      refine AWH.one (i := 5) (by kernel_rfl) rfl ?_
      refine AWL.callE rfl rfl (B rfl) rfl ce_39 (E rfl rfl) (evsC (E rfl rfl) (evsC (E rfl rfl) (evsC (E rfl rfl) evs0))) (F1 := (.box b5 58 (stepCells s) :: (WSt b m ws44))) (S1 := (DSt b2 ds)) rfl (SysRead39 b2 ds n hb.pd (by omega) hb.nd (fdF s) s.n) ?_
      rintro t53 S53 ⟨rfl, rfl⟩
      rw [hb.s.readV]
      refine tb 0 rfl ?_
      refine AWH.one (i := 6) (by kernel_rfl) rfl ?_
      refine Y1 (Yv.move rfl eV) ?_
      refine tb 0 rfl ?_
      refine AWH.two (i := 7) (j := 8) (by kernel_rfl) rfl rfl ?_ ?_
      ·
       refine Y1 (Yv.extract rfl eV rfl) ?_
       refine tb 0 rfl ?_
       refine AWH.two (i := 8) (j := 9) (by kernel_rfl) rfl rfl ?_ ?_
       ·
        refine Y1 (Yv.extract rfl eV rfl) ?_
        refine tb 0 rfl ?_
        refine AWH.one (i := 9) (by kernel_rfl) rfl ?_
        refine Y1 (Yv.assign rfl eV) ?_
        refine tb 0 rfl ?_
        refine AWH.one (i := 10) (by kernel_rfl) rfl ?_
        refine Y1 (Yv.assign rfl eV) ?_
        refine tb 0 rfl ?_
        refine AWH.done (by kernel_rfl) ?_
        refine AW.rseq ?_
        refine Y1 (Yv.move rfl eV) ?_
        refine Y1 (Yv.move rfl eV) ?_
        refine Y1 (Yv.eqlL rfl (E rfl rfl) (E rfl rfl)) ?_
        refine Y1 (Yv.move rfl eV) ?_
        refine AWL.ygT rfl rfl rfl rfl (B rfl) (Yv.move rfl (E rfl rfl)) ?_
        refine AWL.ygT rfl rfl rfl rfl (B rfl) (Yv.move rfl (E rfl rfl)) ?_
        refine AWL.ygT rfl rfl rfl rfl (B rfl) (Yv.eql rfl (Eg rfl rfl id) (Eg rfl rfl id)) ?_
        refine Y1 (Yv.pickAnd rfl (E rfl rfl) (Eg rfl rfl id)) ?_
        refine Y1 (Yv.assign rfl eV) ?_
        refine nl ?_
        have hend := hb.read hd44 pl_read
        refine AW.dropAt 0 ?_
        refine AW.ret (retI (.tmp rfl .nil) ?_)
        refine ⟨by first | rfl | (simp; rfl) | (simp; done), _, _, hend.mono (by omega), rfl⟩
       ·
        refine Y1 (Yv.assign rfl eV) ?_
        refine tb 0 rfl ?_
        refine AWH.one (i := 8) (by kernel_rfl) rfl ?_
        refine Y1 (Yv.extract rfl eV rfl) ?_
        refine tb 0 rfl ?_
        refine AWH.one (i := 10) (by kernel_rfl) rfl ?_
        refine Y1 (Yv.assign rfl eV) ?_
        refine tb 0 rfl ?_
        refine AWH.done (by kernel_rfl) ?_
        refine AW.rseq ?_
        refine Y1 (Yv.move rfl eV) ?_
        refine Y1 (Yv.move rfl eV) ?_
        refine Y1 (Yv.eqlL rfl (E rfl rfl) (E rfl rfl)) ?_
        refine Y1 (Yv.move rfl eV) ?_
        refine AWL.ygT rfl rfl rfl rfl (B rfl) (Yv.move rfl (E rfl rfl)) ?_
        refine AWL.ygT rfl rfl rfl rfl (B rfl) (Yv.move rfl (E rfl rfl)) ?_
        refine AWL.ygT rfl rfl rfl rfl (B rfl) (Yv.eql rfl (Eg rfl rfl id) (Eg rfl rfl id)) ?_
        refine Y1 (Yv.pickAnd rfl (E rfl rfl) (Eg rfl rfl id)) ?_
        refine Y1 (Yv.assign rfl eV) ?_
        refine nl ?_
        have hend := hb.read hd44 pl_read
        refine AW.dropAt 0 ?_
        refine AW.ret (retI (.tmp rfl .nil) ?_)
        refine ⟨by first | rfl | (simp; rfl) | (simp; done), _, _, hend.mono (by omega), rfl⟩
      ·
       refine Y1 (Yv.extract rfl eV rfl) ?_
       refine tb 0 rfl ?_
       refine AWH.one (i := 7) (by kernel_rfl) rfl ?_
       refine Y1 (Yv.extract rfl eV rfl) ?_
       refine tb 0 rfl ?_
       refine AWH.one (i := 9) (by kernel_rfl) rfl ?_
       refine Y1 (Yv.assign rfl eV) ?_
       refine tb 0 rfl ?_
       refine AWH.one (i := 10) (by kernel_rfl) rfl ?_
       refine Y1 (Yv.assign rfl eV) ?_
       refine tb 0 rfl ?_
       refine AWH.done (by kernel_rfl) ?_
       refine AW.rseq ?_
       refine Y1 (Yv.move rfl eV) ?_
       refine Y1 (Yv.move rfl eV) ?_
       refine Y1 (Yv.eqlL rfl (E rfl rfl) (E rfl rfl)) ?_
       refine Y1 (Yv.move rfl eV) ?_
       refine AWL.ygT rfl rfl rfl rfl (B rfl) (Yv.move rfl (E rfl rfl)) ?_
       refine AWL.ygT rfl rfl rfl rfl (B rfl) (Yv.move rfl (E rfl rfl)) ?_
       refine AWL.ygT rfl rfl rfl rfl (B rfl) (Yv.eql rfl (Eg rfl rfl id) (Eg rfl rfl id)) ?_
       refine Y1 (Yv.pickAnd rfl (E rfl rfl) (Eg rfl rfl id)) ?_
       refine Y1 (Yv.assign rfl eV) ?_
       refine nl ?_
       have hend := hb.read hd44 pl_read
       refine AW.dropAt 0 ?_
       refine AW.ret (retI (.tmp rfl .nil) ?_)
       refine ⟨by first | rfl | (simp; rfl) | (simp; done), _, _, hend.mono (by omega), rfl⟩
     ·
      refine Y1 (Yv.assign rfl eV) ?_
      refine tb 0 rfl ?_
      refine AWH.one (i := 8) (by kernel_rfl) rfl ?_
      refine Y1 (Yv.extract rfl eV rfl) ?_
      refine tb 0 rfl ?_
      refine AWH.one (i := 10) (by kernel_rfl) rfl ?_
      refine Y1 (Yv.assign rfl eV) ?_
      refine tb 0 rfl ?_
      refine AWH.done (by kernel_rfl) ?_
      refine AW.rseqH (HeldBox b5 (stepVals s)) rfl (tells_box (k := 0) rfl) ?_
      refine AWH.tk (i := 0) rfl rfl rfl (B rfl) (heldAll (freeMove rfl (E rfl rfl))) ?_
      refine AWH.tk (i := 1) rfl rfl rfl (B rfl) (heldLoadA rfl ag_58 (E rfl rfl) rfl rfl rfl rfl) ?_
      refine AWH.tk (i := 3) rfl rfl rfl (B rfl) (heldAll (freeField rfl fo_58_2 (E rfl rfl))) ?_
      refine AWH.tk (i := 4) rfl rfl rfl (B rfl) (heldLoad rfl ag_51 (E rfl rfl) rfl) ?_
      refine AWH.one (i := 2) (by kernel_rfl) rfl ?_
      refine AWL.callP rfl rfl (B rfl) rfl ce_38 (E rfl rfl) (evsC (E rfl rfl) evs0) (fd38 s hk1) (fun t S h => h) ?_
      refine tb 0 rfl ?_
      refine AWH.one (i := 5) (by kernel_rfl) rfl ?_
      refine AWL.callE rfl rfl (B rfl) rfl ce_39 (E rfl rfl) (evsC (E rfl rfl) (evsC (E rfl rfl) (evsC (E rfl rfl) evs0))) (F1 := (.box b5 58 (stepCells s) :: (WSt b m ws44))) (S1 := (DSt b2 ds)) rfl (SysRead39 b2 ds n hb.pd (by omega) hb.nd (fdF s) s.n) ?_
      rintro t53 S53 ⟨rfl, rfl⟩
      rw [hb.s.readV]
      refine tb 0 rfl ?_
      refine AWH.one (i := 6) (by kernel_rfl) rfl ?_
      refine Y1 (Yv.move rfl eV) ?_
      refine tb 0 rfl ?_
      refine AWH.two (i := 7) (j := 8) (by kernel_rfl) rfl rfl ?_ ?_
      ·
       refine Y1 (Yv.extract rfl eV rfl) ?_
       refine tb 0 rfl ?_
       refine AWH.two (i := 8) (j := 9) (by kernel_rfl) rfl rfl ?_ ?_
       ·
        refine Y1 (Yv.extract rfl eV rfl) ?_
        refine tb 0 rfl ?_
        refine AWH.one (i := 9) (by kernel_rfl) rfl ?_
        refine Y1 (Yv.assign rfl eV) ?_
        refine tb 0 rfl ?_
        refine AWH.one (i := 10) (by kernel_rfl) rfl ?_
        refine Y1 (Yv.assign rfl eV) ?_
        refine tb 0 rfl ?_
        refine AWH.done (by kernel_rfl) ?_
        refine AW.rseq ?_
        refine Y1 (Yv.move rfl eV) ?_
        refine Y1 (Yv.move rfl eV) ?_
        refine Y1 (Yv.eqlL rfl (E rfl rfl) (E rfl rfl)) ?_
        refine Y1 (Yv.move rfl eV) ?_
        refine AWL.ygT rfl rfl rfl rfl (B rfl) (Yv.move rfl (E rfl rfl)) ?_
        refine AWL.ygT rfl rfl rfl rfl (B rfl) (Yv.move rfl (E rfl rfl)) ?_
        refine AWL.ygT rfl rfl rfl rfl (B rfl) (Yv.eql rfl (Eg rfl rfl id) (Eg rfl rfl id)) ?_
        refine Y1 (Yv.pickAnd rfl (E rfl rfl) (Eg rfl rfl id)) ?_
        refine Y1 (Yv.assign rfl eV) ?_
        refine nl ?_
        have hend := hb.read hd44 pl_read
        refine AW.dropAt 0 ?_
        refine AW.ret (retI (.tmp rfl .nil) ?_)
        refine ⟨by first | rfl | (simp; rfl) | (simp; done), _, _, hend.mono (by omega), rfl⟩
       ·
        refine Y1 (Yv.assign rfl eV) ?_
        refine tb 0 rfl ?_
        refine AWH.one (i := 8) (by kernel_rfl) rfl ?_
        refine Y1 (Yv.extract rfl eV rfl) ?_
        refine tb 0 rfl ?_
        refine AWH.one (i := 10) (by kernel_rfl) rfl ?_
        refine Y1 (Yv.assign rfl eV) ?_
        refine tb 0 rfl ?_
        refine AWH.done (by kernel_rfl) ?_
        refine AW.rseq ?_
        refine Y1 (Yv.move rfl eV) ?_
        refine Y1 (Yv.move rfl eV) ?_
        refine Y1 (Yv.eqlL rfl (E rfl rfl) (E rfl rfl)) ?_
        refine Y1 (Yv.move rfl eV) ?_
        refine AWL.ygT rfl rfl rfl rfl (B rfl) (Yv.move rfl (E rfl rfl)) ?_
        refine AWL.ygT rfl rfl rfl rfl (B rfl) (Yv.move rfl (E rfl rfl)) ?_
        refine AWL.ygT rfl rfl rfl rfl (B rfl) (Yv.eql rfl (Eg rfl rfl id) (Eg rfl rfl id)) ?_
        refine Y1 (Yv.pickAnd rfl (E rfl rfl) (Eg rfl rfl id)) ?_
        refine Y1 (Yv.assign rfl eV) ?_
        refine nl ?_
        have hend := hb.read hd44 pl_read
        refine AW.dropAt 0 ?_
        refine AW.ret (retI (.tmp rfl .nil) ?_)
        refine ⟨by first | rfl | (simp; rfl) | (simp; done), _, _, hend.mono (by omega), rfl⟩
      ·
       refine Y1 (Yv.extract rfl eV rfl) ?_
       refine tb 0 rfl ?_
       refine AWH.one (i := 7) (by kernel_rfl) rfl ?_
       refine Y1 (Yv.extract rfl eV rfl) ?_
       refine tb 0 rfl ?_
       refine AWH.one (i := 9) (by kernel_rfl) rfl ?_
       refine Y1 (Yv.assign rfl eV) ?_
       refine tb 0 rfl ?_
       refine AWH.one (i := 10) (by kernel_rfl) rfl ?_
       refine Y1 (Yv.assign rfl eV) ?_
       refine tb 0 rfl ?_
       refine AWH.done (by kernel_rfl) ?_
       refine AW.rseq ?_
       refine Y1 (Yv.move rfl eV) ?_
       refine Y1 (Yv.move rfl eV) ?_
       refine Y1 (Yv.eqlL rfl (E rfl rfl) (E rfl rfl)) ?_
       refine Y1 (Yv.move rfl eV) ?_
       refine AWL.ygT rfl rfl rfl rfl (B rfl) (Yv.move rfl (E rfl rfl)) ?_
       refine AWL.ygT rfl rfl rfl rfl (B rfl) (Yv.move rfl (E rfl rfl)) ?_
       refine AWL.ygT rfl rfl rfl rfl (B rfl) (Yv.eql rfl (Eg rfl rfl id) (Eg rfl rfl id)) ?_
       refine Y1 (Yv.pickAnd rfl (E rfl rfl) (Eg rfl rfl id)) ?_
       refine Y1 (Yv.assign rfl eV) ?_
       refine nl ?_
       have hend := hb.read hd44 pl_read
       refine AW.dropAt 0 ?_
       refine AW.ret (retI (.tmp rfl .nil) ?_)
       refine ⟨by first | rfl | (simp; rfl) | (simp; done), _, _, hend.mono (by omega), rfl⟩
    ·
     refine Y1 (Yv.extract rfl eV rfl) ?_
     refine tb 0 rfl ?_
     refine AWH.one (i := 7) (by kernel_rfl) rfl ?_
     refine Y1 (Yv.extract rfl eV rfl) ?_
     refine tb 0 rfl ?_
     refine AWH.one (i := 9) (by kernel_rfl) rfl ?_
     refine Y1 (Yv.assign rfl eV) ?_
     refine tb 0 rfl ?_
     refine AWH.one (i := 10) (by kernel_rfl) rfl ?_
     refine Y1 (Yv.assign rfl eV) ?_
     refine tb 0 rfl ?_
     refine AWH.done (by kernel_rfl) ?_
     refine AW.rseqH (HeldBox b5 (stepVals s)) rfl (tells_box (k := 0) rfl) ?_
     refine AWH.tk (i := 0) rfl rfl rfl (B rfl) (heldAll (freeMove rfl (E rfl rfl))) ?_
     refine AWH.tk (i := 1) rfl rfl rfl (B rfl) (heldLoadA rfl ag_58 (E rfl rfl) rfl rfl rfl rfl) ?_
     refine AWH.tk (i := 3) rfl rfl rfl (B rfl) (heldAll (freeField rfl fo_58_2 (E rfl rfl))) ?_
     refine AWH.tk (i := 4) rfl rfl rfl (B rfl) (heldLoad rfl ag_51 (E rfl rfl) rfl) ?_
     refine AWH.one (i := 2) (by kernel_rfl) rfl ?_
     refine AWL.callP rfl rfl (B rfl) rfl ce_38 (E rfl rfl) (evsC (E rfl rfl) evs0) (fd38 s hk1) (fun t S h => h) ?_
     refine tb 0 rfl ?_
     refine AWH.one (i := 5) (by kernel_rfl) rfl ?_
     refine AWL.callE rfl rfl (B rfl) rfl ce_39 (E rfl rfl) (evsC (E rfl rfl) (evsC (E rfl rfl) (evsC (E rfl rfl) evs0))) (F1 := (.box b5 58 (stepCells s) :: (WSt b m ws44))) (S1 := (DSt b2 ds)) rfl (SysRead39 b2 ds n hb.pd (by omega) hb.nd (fdF s) s.n) ?_
     rintro t53 S53 ⟨rfl, rfl⟩
     rw [hb.s.readV]
     refine tb 0 rfl ?_
     refine AWH.one (i := 6) (by kernel_rfl) rfl ?_
     refine Y1 (Yv.move rfl eV) ?_
     refine tb 0 rfl ?_
     refine AWH.two (i := 7) (j := 8) (by kernel_rfl) rfl rfl ?_ ?_
     ·
      refine Y1 (Yv.extract rfl eV rfl) ?_
      refine tb 0 rfl ?_
      refine AWH.two (i := 8) (j := 9) (by kernel_rfl) rfl rfl ?_ ?_
      ·
       refine Y1 (Yv.extract rfl eV rfl) ?_
       refine tb 0 rfl ?_
       refine AWH.one (i := 9) (by kernel_rfl) rfl ?_
       refine Y1 (Yv.assign rfl eV) ?_
       refine tb 0 rfl ?_
       refine AWH.one (i := 10) (by kernel_rfl) rfl ?_
       refine Y1 (Yv.assign rfl eV) ?_
       refine tb 0 rfl ?_
       refine AWH.done (by kernel_rfl) ?_
       refine AW.rseq ?_
       refine Y1 (Yv.move rfl eV) ?_
       refine Y1 (Yv.move rfl eV) ?_
       refine Y1 (Yv.eqlL rfl (E rfl rfl) (E rfl rfl)) ?_
       refine Y1 (Yv.move rfl eV) ?_
       refine AWL.ygT rfl rfl rfl rfl (B rfl) (Yv.move rfl (E rfl rfl)) ?_
       refine AWL.ygT rfl rfl rfl rfl (B rfl) (Yv.move rfl (E rfl rfl)) ?_
       refine AWL.ygT rfl rfl rfl rfl (B rfl) (Yv.eql rfl (Eg rfl rfl id) (Eg rfl rfl id)) ?_
       refine Y1 (Yv.pickAnd rfl (E rfl rfl) (Eg rfl rfl id)) ?_
       refine Y1 (Yv.assign rfl eV) ?_
       refine nl ?_
       have hend := hb.read hd44 pl_read
       refine AW.dropAt 0 ?_
       refine AW.ret (retI (.tmp rfl .nil) ?_)
       refine ⟨by first | rfl | (simp; rfl) | (simp; done), _, _, hend.mono (by omega), rfl⟩
      ·
       refine Y1 (Yv.assign rfl eV) ?_
       refine tb 0 rfl ?_
       refine AWH.one (i := 8) (by kernel_rfl) rfl ?_
       refine Y1 (Yv.extract rfl eV rfl) ?_
       refine tb 0 rfl ?_
       refine AWH.one (i := 10) (by kernel_rfl) rfl ?_
       refine Y1 (Yv.assign rfl eV) ?_
       refine tb 0 rfl ?_
       refine AWH.done (by kernel_rfl) ?_
       refine AW.rseq ?_
       refine Y1 (Yv.move rfl eV) ?_
       refine Y1 (Yv.move rfl eV) ?_
       refine Y1 (Yv.eqlL rfl (E rfl rfl) (E rfl rfl)) ?_
       refine Y1 (Yv.move rfl eV) ?_
       refine AWL.ygT rfl rfl rfl rfl (B rfl) (Yv.move rfl (E rfl rfl)) ?_
       refine AWL.ygT rfl rfl rfl rfl (B rfl) (Yv.move rfl (E rfl rfl)) ?_
       refine AWL.ygT rfl rfl rfl rfl (B rfl) (Yv.eql rfl (Eg rfl rfl id) (Eg rfl rfl id)) ?_
       refine Y1 (Yv.pickAnd rfl (E rfl rfl) (Eg rfl rfl id)) ?_
       refine Y1 (Yv.assign rfl eV) ?_
       refine nl ?_
       have hend := hb.read hd44 pl_read
       refine AW.dropAt 0 ?_
       refine AW.ret (retI (.tmp rfl .nil) ?_)
       refine ⟨by first | rfl | (simp; rfl) | (simp; done), _, _, hend.mono (by omega), rfl⟩
     ·
      refine Y1 (Yv.extract rfl eV rfl) ?_
      refine tb 0 rfl ?_
      refine AWH.one (i := 7) (by kernel_rfl) rfl ?_
      refine Y1 (Yv.extract rfl eV rfl) ?_
      refine tb 0 rfl ?_
      refine AWH.one (i := 9) (by kernel_rfl) rfl ?_
      refine Y1 (Yv.assign rfl eV) ?_
      refine tb 0 rfl ?_
      refine AWH.one (i := 10) (by kernel_rfl) rfl ?_
      refine Y1 (Yv.assign rfl eV) ?_
      refine tb 0 rfl ?_
      refine AWH.done (by kernel_rfl) ?_
      refine AW.rseq ?_
      refine Y1 (Yv.move rfl eV) ?_
      refine Y1 (Yv.move rfl eV) ?_
      refine Y1 (Yv.eqlL rfl (E rfl rfl) (E rfl rfl)) ?_
      refine Y1 (Yv.move rfl eV) ?_
      refine AWL.ygT rfl rfl rfl rfl (B rfl) (Yv.move rfl (E rfl rfl)) ?_
      refine AWL.ygT rfl rfl rfl rfl (B rfl) (Yv.move rfl (E rfl rfl)) ?_
      refine AWL.ygT rfl rfl rfl rfl (B rfl) (Yv.eql rfl (Eg rfl rfl id) (Eg rfl rfl id)) ?_
      refine Y1 (Yv.pickAnd rfl (E rfl rfl) (Eg rfl rfl id)) ?_
      refine Y1 (Yv.assign rfl eV) ?_
      refine nl ?_
      have hend := hb.read hd44 pl_read
      refine AW.dropAt 0 ?_
      refine AW.ret (retI (.tmp rfl .nil) ?_)
      refine ⟨by first | rfl | (simp; rfl) | (simp; done), _, _, hend.mono (by omega), rfl⟩
   · exfalso; replace h6f := of_decide_eq_false h6f; omega
  try replace h5f := of_decide_eq_false h5f
  refine AW.region ?_
  refine Y1 (Yv.eql rfl eV eV) ?_
  refine Y1 (Yv.assign rfl eV) ?_
  refine nl ?_
  refine AW.cond rfl (fun h7t => ?_) (fun h7f => ?_)
  ·
   try replace h7t := of_decide_eq_true h7t
   refine AW.rseqH (HeldBox b5 (stepVals s)) rfl (tells_box (k := 0) rfl) ?_
   refine AWH.tk (i := 0) rfl rfl rfl (B rfl) (heldAll (freeMove rfl (E rfl rfl))) ?_
   refine AWH.tk (i := 1) rfl rfl rfl (B rfl) (heldLoadA rfl ag_58 (E rfl rfl) rfl rfl rfl rfl) ?_
   refine AWH.tk (i := 3) rfl rfl rfl (B rfl) (heldAll (freeField rfl fo_58_2 (E rfl rfl))) ?_
   refine AWH.tk (i := 4) rfl rfl rfl (B rfl) (heldLoad rfl ag_51 (E rfl rfl) rfl) ?_
   refine AWH.one (i := 2) (by kernel_rfl) rfl ?_
   refine AWL.callP rfl rfl (B rfl) rfl ce_38 (E rfl rfl) (evsC (E rfl rfl) evs0) (fd38 s hk1) (fun t S h => h) ?_
   refine tb 0 rfl ?_
   refine AWH.one (i := 5) (by kernel_rfl) rfl ?_
   refine AWL.callF rfl rfl (B rfl) rfl ce_20 (E rfl rfl) (evsC (E rfl rfl) (evsC (E rfl rfl) (evsC (E rfl rfl) evs0))) (F1 := [.box b5 58 (stepCells s)]) (S1 := (WSt b m ws)) (F2 := (DSt b2 ds)) rfl (rSysRead b m ws n hb.r (by omega) (fdF s) s.n n1) ?_
   rintro t44 S44 ⟨rfl, ws44, hd44, rfl⟩
   refine tb 0 rfl ?_
   refine AWH.one (i := 6) (by kernel_rfl) rfl ?_
   refine Y1 (Yv.move rfl eV) ?_
   refine tb 0 rfl ?_
   refine AWH.two (i := 7) (j := 8) (by kernel_rfl) rfl rfl ?_ ?_
   ·
    refine Y1 (Yv.extract rfl eV rfl) ?_
    refine tb 0 rfl ?_
    refine AWH.two (i := 8) (j := 9) (by kernel_rfl) rfl rfl ?_ ?_
    ·
     refine Y1 (Yv.extract rfl eV rfl) ?_
     refine tb 0 rfl ?_
     refine AWH.one (i := 9) (by kernel_rfl) rfl ?_
     refine Y1 (Yv.assign rfl eV) ?_
     refine tb 0 rfl ?_
     refine AWH.one (i := 10) (by kernel_rfl) rfl ?_
     refine Y1 (Yv.assign rfl eV) ?_
     refine tb 0 rfl ?_
     refine AWH.done (by kernel_rfl) ?_
     refine AW.rseqH (HeldBox b5 (stepVals s)) rfl (tells_box (k := 0) rfl) ?_
     refine AWH.tk (i := 0) rfl rfl rfl (B rfl) (heldAll (freeMove rfl (E rfl rfl))) ?_
     refine AWH.tk (i := 1) rfl rfl rfl (B rfl) (heldLoadA rfl ag_58 (E rfl rfl) rfl rfl rfl rfl) ?_
     refine AWH.tk (i := 3) rfl rfl rfl (B rfl) (heldAll (freeField rfl fo_58_2 (E rfl rfl))) ?_
     refine AWH.tk (i := 4) rfl rfl rfl (B rfl) (heldLoad rfl ag_51 (E rfl rfl) rfl) ?_
     refine AWH.one (i := 2) (by kernel_rfl) rfl ?_
     refine AWL.callP rfl rfl (B rfl) rfl ce_38 (E rfl rfl) (evsC (E rfl rfl) evs0) (fd38 s hk1) (fun t S h => h) ?_
     refine tb 0 rfl ?_
     refine AWH.one (i := 5) (by kernel_rfl) rfl ?_
     refine AWL.callE rfl rfl (B rfl) rfl ce_39 (E rfl rfl) (evsC (E rfl rfl) (evsC (E rfl rfl) (evsC (E rfl rfl) evs0))) (F1 := (.box b5 58 (stepCells s) :: (WSt b m ws44))) (S1 := (DSt b2 ds)) rfl (SysRead39 b2 ds n hb.pd (by omega) hb.nd (fdF s) s.n) ?_
     rintro t53 S53 ⟨rfl, rfl⟩
     rw [hb.s.readV]
     refine tb 0 rfl ?_
     refine AWH.one (i := 6) (by kernel_rfl) rfl ?_
     refine Y1 (Yv.move rfl eV) ?_
     refine tb 0 rfl ?_
     refine AWH.two (i := 7) (j := 8) (by kernel_rfl) rfl rfl ?_ ?_
     ·
      refine Y1 (Yv.extract rfl eV rfl) ?_
      refine tb 0 rfl ?_
      refine AWH.two (i := 8) (j := 9) (by kernel_rfl) rfl rfl ?_ ?_
      ·
       refine Y1 (Yv.extract rfl eV rfl) ?_
       refine tb 0 rfl ?_
       refine AWH.one (i := 9) (by kernel_rfl) rfl ?_
       refine Y1 (Yv.assign rfl eV) ?_
       refine tb 0 rfl ?_
       refine AWH.one (i := 10) (by kernel_rfl) rfl ?_
       refine Y1 (Yv.assign rfl eV) ?_
       refine tb 0 rfl ?_
       refine AWH.done (by kernel_rfl) ?_
       refine AW.rseq ?_
       refine Y1 (Yv.move rfl eV) ?_
       refine Y1 (Yv.move rfl eV) ?_
       refine Y1 (Yv.eqlL rfl (E rfl rfl) (E rfl rfl)) ?_
       refine Y1 (Yv.move rfl eV) ?_
       refine AWL.ygT rfl rfl rfl rfl (B rfl) (Yv.move rfl (E rfl rfl)) ?_
       refine AWL.ygT rfl rfl rfl rfl (B rfl) (Yv.move rfl (E rfl rfl)) ?_
       refine AWL.ygT rfl rfl rfl rfl (B rfl) (Yv.eql rfl (Eg rfl rfl id) (Eg rfl rfl id)) ?_
       refine Y1 (Yv.pickAnd rfl (E rfl rfl) (Eg rfl rfl id)) ?_
       refine Y1 (Yv.assign rfl eV) ?_
       refine nl ?_
       have hend := hb.read hd44 pl_read
       refine AW.dropAt 0 ?_
       refine AW.ret (retI (.tmp rfl .nil) ?_)
       refine ⟨by first | rfl | (simp; rfl) | (simp; done), _, _, hend.mono (by omega), rfl⟩
      ·
       refine Y1 (Yv.assign rfl eV) ?_
       refine tb 0 rfl ?_
       refine AWH.one (i := 8) (by kernel_rfl) rfl ?_
       refine Y1 (Yv.extract rfl eV rfl) ?_
       refine tb 0 rfl ?_
       refine AWH.one (i := 10) (by kernel_rfl) rfl ?_
       refine Y1 (Yv.assign rfl eV) ?_
       refine tb 0 rfl ?_
       refine AWH.done (by kernel_rfl) ?_
       refine AW.rseq ?_
       refine Y1 (Yv.move rfl eV) ?_
       refine Y1 (Yv.move rfl eV) ?_
       refine Y1 (Yv.eqlL rfl (E rfl rfl) (E rfl rfl)) ?_
       refine Y1 (Yv.move rfl eV) ?_
       refine AWL.ygT rfl rfl rfl rfl (B rfl) (Yv.move rfl (E rfl rfl)) ?_
       refine AWL.ygT rfl rfl rfl rfl (B rfl) (Yv.move rfl (E rfl rfl)) ?_
       refine AWL.ygT rfl rfl rfl rfl (B rfl) (Yv.eql rfl (Eg rfl rfl id) (Eg rfl rfl id)) ?_
       refine Y1 (Yv.pickAnd rfl (E rfl rfl) (Eg rfl rfl id)) ?_
       refine Y1 (Yv.assign rfl eV) ?_
       refine nl ?_
       have hend := hb.read hd44 pl_read
       refine AW.dropAt 0 ?_
       refine AW.ret (retI (.tmp rfl .nil) ?_)
       refine ⟨by first | rfl | (simp; rfl) | (simp; done), _, _, hend.mono (by omega), rfl⟩
     ·
      refine Y1 (Yv.extract rfl eV rfl) ?_
      refine tb 0 rfl ?_
      refine AWH.one (i := 7) (by kernel_rfl) rfl ?_
      refine Y1 (Yv.extract rfl eV rfl) ?_
      refine tb 0 rfl ?_
      refine AWH.one (i := 9) (by kernel_rfl) rfl ?_
      refine Y1 (Yv.assign rfl eV) ?_
      refine tb 0 rfl ?_
      refine AWH.one (i := 10) (by kernel_rfl) rfl ?_
      refine Y1 (Yv.assign rfl eV) ?_
      refine tb 0 rfl ?_
      refine AWH.done (by kernel_rfl) ?_
      refine AW.rseq ?_
      refine Y1 (Yv.move rfl eV) ?_
      refine Y1 (Yv.move rfl eV) ?_
      refine Y1 (Yv.eqlL rfl (E rfl rfl) (E rfl rfl)) ?_
      refine Y1 (Yv.move rfl eV) ?_
      refine AWL.ygT rfl rfl rfl rfl (B rfl) (Yv.move rfl (E rfl rfl)) ?_
      refine AWL.ygT rfl rfl rfl rfl (B rfl) (Yv.move rfl (E rfl rfl)) ?_
      refine AWL.ygT rfl rfl rfl rfl (B rfl) (Yv.eql rfl (Eg rfl rfl id) (Eg rfl rfl id)) ?_
      refine Y1 (Yv.pickAnd rfl (E rfl rfl) (Eg rfl rfl id)) ?_
      refine Y1 (Yv.assign rfl eV) ?_
      refine nl ?_
      have hend := hb.read hd44 pl_read
      refine AW.dropAt 0 ?_
      refine AW.ret (retI (.tmp rfl .nil) ?_)
      refine ⟨by first | rfl | (simp; rfl) | (simp; done), _, _, hend.mono (by omega), rfl⟩
    ·
     refine Y1 (Yv.assign rfl eV) ?_
     refine tb 0 rfl ?_
     refine AWH.one (i := 8) (by kernel_rfl) rfl ?_
     refine Y1 (Yv.extract rfl eV rfl) ?_
     refine tb 0 rfl ?_
     refine AWH.one (i := 10) (by kernel_rfl) rfl ?_
     refine Y1 (Yv.assign rfl eV) ?_
     refine tb 0 rfl ?_
     refine AWH.done (by kernel_rfl) ?_
     refine AW.rseqH (HeldBox b5 (stepVals s)) rfl (tells_box (k := 0) rfl) ?_
     refine AWH.tk (i := 0) rfl rfl rfl (B rfl) (heldAll (freeMove rfl (E rfl rfl))) ?_
     refine AWH.tk (i := 1) rfl rfl rfl (B rfl) (heldLoadA rfl ag_58 (E rfl rfl) rfl rfl rfl rfl) ?_
     refine AWH.tk (i := 3) rfl rfl rfl (B rfl) (heldAll (freeField rfl fo_58_2 (E rfl rfl))) ?_
     refine AWH.tk (i := 4) rfl rfl rfl (B rfl) (heldLoad rfl ag_51 (E rfl rfl) rfl) ?_
     refine AWH.one (i := 2) (by kernel_rfl) rfl ?_
     refine AWL.callP rfl rfl (B rfl) rfl ce_38 (E rfl rfl) (evsC (E rfl rfl) evs0) (fd38 s hk1) (fun t S h => h) ?_
     refine tb 0 rfl ?_
     refine AWH.one (i := 5) (by kernel_rfl) rfl ?_
     refine AWL.callE rfl rfl (B rfl) rfl ce_39 (E rfl rfl) (evsC (E rfl rfl) (evsC (E rfl rfl) (evsC (E rfl rfl) evs0))) (F1 := (.box b5 58 (stepCells s) :: (WSt b m ws44))) (S1 := (DSt b2 ds)) rfl (SysRead39 b2 ds n hb.pd (by omega) hb.nd (fdF s) s.n) ?_
     rintro t53 S53 ⟨rfl, rfl⟩
     rw [hb.s.readV]
     refine tb 0 rfl ?_
     refine AWH.one (i := 6) (by kernel_rfl) rfl ?_
     refine Y1 (Yv.move rfl eV) ?_
     refine tb 0 rfl ?_
     refine AWH.two (i := 7) (j := 8) (by kernel_rfl) rfl rfl ?_ ?_
     ·
      refine Y1 (Yv.extract rfl eV rfl) ?_
      refine tb 0 rfl ?_
      refine AWH.two (i := 8) (j := 9) (by kernel_rfl) rfl rfl ?_ ?_
      ·
       refine Y1 (Yv.extract rfl eV rfl) ?_
       refine tb 0 rfl ?_
       refine AWH.one (i := 9) (by kernel_rfl) rfl ?_
       refine Y1 (Yv.assign rfl eV) ?_
       refine tb 0 rfl ?_
       refine AWH.one (i := 10) (by kernel_rfl) rfl ?_
       refine Y1 (Yv.assign rfl eV) ?_
       refine tb 0 rfl ?_
       refine AWH.done (by kernel_rfl) ?_
       refine AW.rseq ?_
       refine Y1 (Yv.move rfl eV) ?_
       refine Y1 (Yv.move rfl eV) ?_
       refine Y1 (Yv.eqlL rfl (E rfl rfl) (E rfl rfl)) ?_
       refine Y1 (Yv.move rfl eV) ?_
       refine AWL.ygT rfl rfl rfl rfl (B rfl) (Yv.move rfl (E rfl rfl)) ?_
       refine AWL.ygT rfl rfl rfl rfl (B rfl) (Yv.move rfl (E rfl rfl)) ?_
       refine AWL.ygT rfl rfl rfl rfl (B rfl) (Yv.eql rfl (Eg rfl rfl id) (Eg rfl rfl id)) ?_
       refine Y1 (Yv.pickAnd rfl (E rfl rfl) (Eg rfl rfl id)) ?_
       refine Y1 (Yv.assign rfl eV) ?_
       refine nl ?_
       have hend := hb.read hd44 pl_read
       refine AW.dropAt 0 ?_
       refine AW.ret (retI (.tmp rfl .nil) ?_)
       refine ⟨by first | rfl | (simp; rfl) | (simp; done), _, _, hend.mono (by omega), rfl⟩
      ·
       refine Y1 (Yv.assign rfl eV) ?_
       refine tb 0 rfl ?_
       refine AWH.one (i := 8) (by kernel_rfl) rfl ?_
       refine Y1 (Yv.extract rfl eV rfl) ?_
       refine tb 0 rfl ?_
       refine AWH.one (i := 10) (by kernel_rfl) rfl ?_
       refine Y1 (Yv.assign rfl eV) ?_
       refine tb 0 rfl ?_
       refine AWH.done (by kernel_rfl) ?_
       refine AW.rseq ?_
       refine Y1 (Yv.move rfl eV) ?_
       refine Y1 (Yv.move rfl eV) ?_
       refine Y1 (Yv.eqlL rfl (E rfl rfl) (E rfl rfl)) ?_
       refine Y1 (Yv.move rfl eV) ?_
       refine AWL.ygT rfl rfl rfl rfl (B rfl) (Yv.move rfl (E rfl rfl)) ?_
       refine AWL.ygT rfl rfl rfl rfl (B rfl) (Yv.move rfl (E rfl rfl)) ?_
       refine AWL.ygT rfl rfl rfl rfl (B rfl) (Yv.eql rfl (Eg rfl rfl id) (Eg rfl rfl id)) ?_
       refine Y1 (Yv.pickAnd rfl (E rfl rfl) (Eg rfl rfl id)) ?_
       refine Y1 (Yv.assign rfl eV) ?_
       refine nl ?_
       have hend := hb.read hd44 pl_read
       refine AW.dropAt 0 ?_
       refine AW.ret (retI (.tmp rfl .nil) ?_)
       refine ⟨by first | rfl | (simp; rfl) | (simp; done), _, _, hend.mono (by omega), rfl⟩
     ·
      refine Y1 (Yv.extract rfl eV rfl) ?_
      refine tb 0 rfl ?_
      refine AWH.one (i := 7) (by kernel_rfl) rfl ?_
      refine Y1 (Yv.extract rfl eV rfl) ?_
      refine tb 0 rfl ?_
      refine AWH.one (i := 9) (by kernel_rfl) rfl ?_
      refine Y1 (Yv.assign rfl eV) ?_
      refine tb 0 rfl ?_
      refine AWH.one (i := 10) (by kernel_rfl) rfl ?_
      refine Y1 (Yv.assign rfl eV) ?_
      refine tb 0 rfl ?_
      refine AWH.done (by kernel_rfl) ?_
      refine AW.rseq ?_
      refine Y1 (Yv.move rfl eV) ?_
      refine Y1 (Yv.move rfl eV) ?_
      refine Y1 (Yv.eqlL rfl (E rfl rfl) (E rfl rfl)) ?_
      refine Y1 (Yv.move rfl eV) ?_
      refine AWL.ygT rfl rfl rfl rfl (B rfl) (Yv.move rfl (E rfl rfl)) ?_
      refine AWL.ygT rfl rfl rfl rfl (B rfl) (Yv.move rfl (E rfl rfl)) ?_
      refine AWL.ygT rfl rfl rfl rfl (B rfl) (Yv.eql rfl (Eg rfl rfl id) (Eg rfl rfl id)) ?_
      refine Y1 (Yv.pickAnd rfl (E rfl rfl) (Eg rfl rfl id)) ?_
      refine Y1 (Yv.assign rfl eV) ?_
      refine nl ?_
      have hend := hb.read hd44 pl_read
      refine AW.dropAt 0 ?_
      refine AW.ret (retI (.tmp rfl .nil) ?_)
      refine ⟨by first | rfl | (simp; rfl) | (simp; done), _, _, hend.mono (by omega), rfl⟩
   ·
    refine Y1 (Yv.extract rfl eV rfl) ?_
    refine tb 0 rfl ?_
    refine AWH.one (i := 7) (by kernel_rfl) rfl ?_
    refine Y1 (Yv.extract rfl eV rfl) ?_
    refine tb 0 rfl ?_
    refine AWH.one (i := 9) (by kernel_rfl) rfl ?_
    refine Y1 (Yv.assign rfl eV) ?_
    refine tb 0 rfl ?_
    refine AWH.one (i := 10) (by kernel_rfl) rfl ?_
    refine Y1 (Yv.assign rfl eV) ?_
    refine tb 0 rfl ?_
    refine AWH.done (by kernel_rfl) ?_
    refine AW.rseqH (HeldBox b5 (stepVals s)) rfl (tells_box (k := 0) rfl) ?_
    refine AWH.tk (i := 0) rfl rfl rfl (B rfl) (heldAll (freeMove rfl (E rfl rfl))) ?_
    refine AWH.tk (i := 1) rfl rfl rfl (B rfl) (heldLoadA rfl ag_58 (E rfl rfl) rfl rfl rfl rfl) ?_
    refine AWH.tk (i := 3) rfl rfl rfl (B rfl) (heldAll (freeField rfl fo_58_2 (E rfl rfl))) ?_
    refine AWH.tk (i := 4) rfl rfl rfl (B rfl) (heldLoad rfl ag_51 (E rfl rfl) rfl) ?_
    refine AWH.one (i := 2) (by kernel_rfl) rfl ?_
    refine AWL.callP rfl rfl (B rfl) rfl ce_38 (E rfl rfl) (evsC (E rfl rfl) evs0) (fd38 s hk1) (fun t S h => h) ?_
    refine tb 0 rfl ?_
    refine AWH.one (i := 5) (by kernel_rfl) rfl ?_
    refine AWL.callE rfl rfl (B rfl) rfl ce_39 (E rfl rfl) (evsC (E rfl rfl) (evsC (E rfl rfl) (evsC (E rfl rfl) evs0))) (F1 := (.box b5 58 (stepCells s) :: (WSt b m ws44))) (S1 := (DSt b2 ds)) rfl (SysRead39 b2 ds n hb.pd (by omega) hb.nd (fdF s) s.n) ?_
    rintro t53 S53 ⟨rfl, rfl⟩
    rw [hb.s.readV]
    refine tb 0 rfl ?_
    refine AWH.one (i := 6) (by kernel_rfl) rfl ?_
    refine Y1 (Yv.move rfl eV) ?_
    refine tb 0 rfl ?_
    refine AWH.two (i := 7) (j := 8) (by kernel_rfl) rfl rfl ?_ ?_
    ·
     refine Y1 (Yv.extract rfl eV rfl) ?_
     refine tb 0 rfl ?_
     refine AWH.two (i := 8) (j := 9) (by kernel_rfl) rfl rfl ?_ ?_
     ·
      refine Y1 (Yv.extract rfl eV rfl) ?_
      refine tb 0 rfl ?_
      refine AWH.one (i := 9) (by kernel_rfl) rfl ?_
      refine Y1 (Yv.assign rfl eV) ?_
      refine tb 0 rfl ?_
      refine AWH.one (i := 10) (by kernel_rfl) rfl ?_
      refine Y1 (Yv.assign rfl eV) ?_
      refine tb 0 rfl ?_
      refine AWH.done (by kernel_rfl) ?_
      refine AW.rseq ?_
      refine Y1 (Yv.move rfl eV) ?_
      refine Y1 (Yv.move rfl eV) ?_
      refine Y1 (Yv.eqlL rfl (E rfl rfl) (E rfl rfl)) ?_
      refine Y1 (Yv.move rfl eV) ?_
      refine AWL.ygT rfl rfl rfl rfl (B rfl) (Yv.move rfl (E rfl rfl)) ?_
      refine AWL.ygT rfl rfl rfl rfl (B rfl) (Yv.move rfl (E rfl rfl)) ?_
      refine AWL.ygT rfl rfl rfl rfl (B rfl) (Yv.eql rfl (Eg rfl rfl id) (Eg rfl rfl id)) ?_
      refine Y1 (Yv.pickAnd rfl (E rfl rfl) (Eg rfl rfl id)) ?_
      refine Y1 (Yv.assign rfl eV) ?_
      refine nl ?_
      have hend := hb.read hd44 pl_read
      refine AW.dropAt 0 ?_
      refine AW.ret (retI (.tmp rfl .nil) ?_)
      refine ⟨by first | rfl | (simp; rfl) | (simp; done), _, _, hend.mono (by omega), rfl⟩
     ·
      refine Y1 (Yv.assign rfl eV) ?_
      refine tb 0 rfl ?_
      refine AWH.one (i := 8) (by kernel_rfl) rfl ?_
      refine Y1 (Yv.extract rfl eV rfl) ?_
      refine tb 0 rfl ?_
      refine AWH.one (i := 10) (by kernel_rfl) rfl ?_
      refine Y1 (Yv.assign rfl eV) ?_
      refine tb 0 rfl ?_
      refine AWH.done (by kernel_rfl) ?_
      refine AW.rseq ?_
      refine Y1 (Yv.move rfl eV) ?_
      refine Y1 (Yv.move rfl eV) ?_
      refine Y1 (Yv.eqlL rfl (E rfl rfl) (E rfl rfl)) ?_
      refine Y1 (Yv.move rfl eV) ?_
      refine AWL.ygT rfl rfl rfl rfl (B rfl) (Yv.move rfl (E rfl rfl)) ?_
      refine AWL.ygT rfl rfl rfl rfl (B rfl) (Yv.move rfl (E rfl rfl)) ?_
      refine AWL.ygT rfl rfl rfl rfl (B rfl) (Yv.eql rfl (Eg rfl rfl id) (Eg rfl rfl id)) ?_
      refine Y1 (Yv.pickAnd rfl (E rfl rfl) (Eg rfl rfl id)) ?_
      refine Y1 (Yv.assign rfl eV) ?_
      refine nl ?_
      have hend := hb.read hd44 pl_read
      refine AW.dropAt 0 ?_
      refine AW.ret (retI (.tmp rfl .nil) ?_)
      refine ⟨by first | rfl | (simp; rfl) | (simp; done), _, _, hend.mono (by omega), rfl⟩
    ·
     refine Y1 (Yv.extract rfl eV rfl) ?_
     refine tb 0 rfl ?_
     refine AWH.one (i := 7) (by kernel_rfl) rfl ?_
     refine Y1 (Yv.extract rfl eV rfl) ?_
     refine tb 0 rfl ?_
     refine AWH.one (i := 9) (by kernel_rfl) rfl ?_
     refine Y1 (Yv.assign rfl eV) ?_
     refine tb 0 rfl ?_
     refine AWH.one (i := 10) (by kernel_rfl) rfl ?_
     refine Y1 (Yv.assign rfl eV) ?_
     refine tb 0 rfl ?_
     refine AWH.done (by kernel_rfl) ?_
     refine AW.rseq ?_
     refine Y1 (Yv.move rfl eV) ?_
     refine Y1 (Yv.move rfl eV) ?_
     refine Y1 (Yv.eqlL rfl (E rfl rfl) (E rfl rfl)) ?_
     refine Y1 (Yv.move rfl eV) ?_
     refine AWL.ygT rfl rfl rfl rfl (B rfl) (Yv.move rfl (E rfl rfl)) ?_
     refine AWL.ygT rfl rfl rfl rfl (B rfl) (Yv.move rfl (E rfl rfl)) ?_
     refine AWL.ygT rfl rfl rfl rfl (B rfl) (Yv.eql rfl (Eg rfl rfl id) (Eg rfl rfl id)) ?_
     refine Y1 (Yv.pickAnd rfl (E rfl rfl) (Eg rfl rfl id)) ?_
     refine Y1 (Yv.assign rfl eV) ?_
     refine nl ?_
     have hend := hb.read hd44 pl_read
     refine AW.dropAt 0 ?_
     refine AW.ret (retI (.tmp rfl .nil) ?_)
     refine ⟨by first | rfl | (simp; rfl) | (simp; done), _, _, hend.mono (by omega), rfl⟩
  try replace h7f := of_decide_eq_false h7f
  refine AW.seq ?_
  refine AW.rseq ?_
  refine Y1 (Yv.eql rfl eV eV) ?_
  refine Y1 (Yv.assign rfl eV) ?_
  refine nl ?_
  refine AW.cond rfl (fun h8t => ?_) (fun h8f => ?_)
  ·
   try replace h8t := of_decide_eq_true h8t
   refine AW.skip ?_
   refine AW.cond rfl (fun h9t => ?_) (fun h9f => ?_)
   ·
    try replace h9t := of_decide_eq_true h9t
    refine AW.rseqH (HeldBox b5 (stepVals s)) rfl (tells_box (k := 0) rfl) ?_
    refine AWH.tk (i := 0) rfl rfl rfl (B rfl) (heldAll (freeMove rfl (E rfl rfl))) ?_
    refine AWH.tk (i := 1) rfl rfl rfl (B rfl) (heldLoadA rfl ag_58 (E rfl rfl) rfl rfl rfl rfl) ?_
    refine AWH.tk (i := 3) rfl rfl rfl (B rfl) (heldAll (freeField rfl fo_58_4 (E rfl rfl))) ?_
    refine AWH.tk (i := 4) rfl rfl rfl (B rfl) (heldLoad rfl ag_9 (E rfl rfl) rfl) ?_
    refine AWH.tk (i := 6) rfl rfl rfl (B rfl) (heldAll (freeMove rfl (E rfl rfl))) ?_
    refine AWH.tk (i := 7) rfl rfl rfl (B rfl) (heldLoadA rfl ag_58 (E rfl rfl) rfl rfl rfl rfl) ?_
    refine AWH.tk (i := 9) rfl rfl rfl (B rfl) (heldAll (freeField rfl fo_58_4 (E rfl rfl))) ?_
    refine AWH.tk (i := 10) rfl rfl rfl (B rfl) (heldLoad rfl ag_9 (E rfl rfl) rfl) ?_
    refine AWH.one (i := 2) (by kernel_rfl) rfl ?_
    refine AWL.callP rfl rfl (B rfl) rfl ce_38 (E rfl rfl) (evsC (E rfl rfl) evs0) (fd38 s hk1) (fun t S h => h) ?_
    refine tb 0 rfl ?_
    refine AWH.one (i := 5) (by kernel_rfl) rfl ?_
    refine AWL.callF rfl rfl (B rfl) rfl ce_13 (E rfl rfl) (evsC (E rfl rfl) (evsC (E rfl rfl) (evsC (E rfl rfl) evs0))) (F1 := [.box b5 58 (stepCells s)]) (S1 := (WSt b m ws)) (F2 := (DSt b2 ds)) rfl (rSysWrite b m ws n hb.r (by omega) (fdF s) s.text (by omega)) ?_
    rintro t73 S73 ⟨rfl, ws73, hd73, rfl⟩
    refine tb 0 rfl ?_
    refine AWH.one (i := 8) (by kernel_rfl) rfl ?_
    refine AWL.callP rfl rfl (B rfl) rfl ce_38 (E rfl rfl) (evsC (E rfl rfl) evs0) (fd38 s hk1) (fun t S h => h) ?_
    refine tb 0 rfl ?_
    refine AWH.one (i := 11) (by kernel_rfl) rfl ?_
    refine AWL.callE rfl rfl (B rfl) rfl ce_40 (E rfl rfl) (evsC (E rfl rfl) (evsC (E rfl rfl) (evsC (E rfl rfl) evs0))) (F1 := (.box b5 58 (stepCells s) :: (WSt b m ws73))) (S1 := (DSt b2 ds)) rfl (SysWrite40 b2 ds n hb.pd (by omega) hb.nd (fdF s) s.text (by omega)) ?_
    rintro t79 S79 ⟨rfl, ds79, he79, rfl⟩
    rw [hb.s.writeV]
    refine tb 0 rfl ?_
    refine AWH.one (i := 12) (by kernel_rfl) rfl ?_
    refine Y1 (Yv.eql rfl eV eV) ?_
    refine tb 0 rfl ?_
    refine AWH.one (i := 13) (by kernel_rfl) rfl ?_
    refine Y1 (Yv.assign rfl eV) ?_
    refine tb 0 rfl ?_
    refine AWH.done (by kernel_rfl) ?_
    have hend := hb.wrote hd73 he79
    refine AW.dropAt 0 ?_
    refine AW.ret (retI (.tmp rfl .nil) ?_)
    refine ⟨by first | rfl | (simp; rfl) | (simp; done), _, _, hend.mono (by omega), rfl⟩
   · exfalso; replace h9f := of_decide_eq_false h9f; omega
  try replace h8f := of_decide_eq_false h8f
  refine AW.rseq ?_
  refine Y1 (Yv.eql rfl eV eV) ?_
  refine Y1 (Yv.assign rfl eV) ?_
  refine nl ?_
  refine AW.cond rfl (fun h10t => ?_) (fun h10f => ?_)
  ·
   try replace h10t := of_decide_eq_true h10t
   refine AW.skip ?_
   refine AW.cond rfl (fun h11t => ?_) (fun h11f => ?_)
   ·
    try replace h11t := of_decide_eq_true h11t
    refine AW.rseqH (HeldBox b5 (stepVals s)) rfl (tells_box (k := 0) rfl) ?_
    refine AWH.tk (i := 0) rfl rfl rfl (B rfl) (heldAll (freeMove rfl (E rfl rfl))) ?_
    refine AWH.tk (i := 1) rfl rfl rfl (B rfl) (heldLoadA rfl ag_58 (E rfl rfl) rfl rfl rfl rfl) ?_
    refine AWH.tk (i := 3) rfl rfl rfl (B rfl) (heldAll (freeField rfl fo_58_4 (E rfl rfl))) ?_
    refine AWH.tk (i := 4) rfl rfl rfl (B rfl) (heldLoad rfl ag_9 (E rfl rfl) rfl) ?_
    refine AWH.tk (i := 6) rfl rfl rfl (B rfl) (heldAll (freeMove rfl (E rfl rfl))) ?_
    refine AWH.tk (i := 7) rfl rfl rfl (B rfl) (heldLoadA rfl ag_58 (E rfl rfl) rfl rfl rfl rfl) ?_
    refine AWH.tk (i := 9) rfl rfl rfl (B rfl) (heldAll (freeField rfl fo_58_4 (E rfl rfl))) ?_
    refine AWH.tk (i := 10) rfl rfl rfl (B rfl) (heldLoad rfl ag_9 (E rfl rfl) rfl) ?_
    refine AWH.one (i := 2) (by kernel_rfl) rfl ?_
    refine AWL.callP rfl rfl (B rfl) rfl ce_38 (E rfl rfl) (evsC (E rfl rfl) evs0) (fd38 s hk1) (fun t S h => h) ?_
    refine tb 0 rfl ?_
    refine AWH.one (i := 5) (by kernel_rfl) rfl ?_
    refine AWL.callF rfl rfl (B rfl) rfl ce_13 (E rfl rfl) (evsC (E rfl rfl) (evsC (E rfl rfl) (evsC (E rfl rfl) evs0))) (F1 := [.box b5 58 (stepCells s)]) (S1 := (WSt b m ws)) (F2 := (DSt b2 ds)) rfl (rSysWrite b m ws n hb.r (by omega) (fdF s) s.text (by omega)) ?_
    rintro t73 S73 ⟨rfl, ws73, hd73, rfl⟩
    refine tb 0 rfl ?_
    refine AWH.one (i := 8) (by kernel_rfl) rfl ?_
    refine AWL.callP rfl rfl (B rfl) rfl ce_38 (E rfl rfl) (evsC (E rfl rfl) evs0) (fd38 s hk1) (fun t S h => h) ?_
    refine tb 0 rfl ?_
    refine AWH.one (i := 11) (by kernel_rfl) rfl ?_
    refine AWL.callE rfl rfl (B rfl) rfl ce_40 (E rfl rfl) (evsC (E rfl rfl) (evsC (E rfl rfl) (evsC (E rfl rfl) evs0))) (F1 := (.box b5 58 (stepCells s) :: (WSt b m ws73))) (S1 := (DSt b2 ds)) rfl (SysWrite40 b2 ds n hb.pd (by omega) hb.nd (fdF s) s.text (by omega)) ?_
    rintro t79 S79 ⟨rfl, ds79, he79, rfl⟩
    rw [hb.s.writeV]
    refine tb 0 rfl ?_
    refine AWH.one (i := 12) (by kernel_rfl) rfl ?_
    refine Y1 (Yv.eql rfl eV eV) ?_
    refine tb 0 rfl ?_
    refine AWH.one (i := 13) (by kernel_rfl) rfl ?_
    refine Y1 (Yv.assign rfl eV) ?_
    refine tb 0 rfl ?_
    refine AWH.done (by kernel_rfl) ?_
    have hend := hb.wrote hd73 he79
    refine AW.dropAt 0 ?_
    refine AW.ret (retI (.tmp rfl .nil) ?_)
    refine ⟨by first | rfl | (simp; rfl) | (simp; done), _, _, hend.mono (by omega), rfl⟩
   · exfalso; replace h11f := of_decide_eq_false h11f; omega
  try replace h10f := of_decide_eq_false h10f
  refine AW.region ?_
  refine Y1 (Yv.eql rfl eV eV) ?_
  refine Y1 (Yv.assign rfl eV) ?_
  refine nl ?_
  refine AW.cond rfl (fun h12t => ?_) (fun h12f => ?_)
  ·
   try replace h12t := of_decide_eq_true h12t
   refine AW.rseqH (HeldBox b5 (stepVals s)) rfl (tells_box (k := 0) rfl) ?_
   refine AWH.tk (i := 0) rfl rfl rfl (B rfl) (heldAll (freeMove rfl (E rfl rfl))) ?_
   refine AWH.tk (i := 1) rfl rfl rfl (B rfl) (heldLoadA rfl ag_58 (E rfl rfl) rfl rfl rfl rfl) ?_
   refine AWH.tk (i := 3) rfl rfl rfl (B rfl) (heldAll (freeField rfl fo_58_4 (E rfl rfl))) ?_
   refine AWH.tk (i := 4) rfl rfl rfl (B rfl) (heldLoad rfl ag_9 (E rfl rfl) rfl) ?_
   refine AWH.tk (i := 6) rfl rfl rfl (B rfl) (heldAll (freeMove rfl (E rfl rfl))) ?_
   refine AWH.tk (i := 7) rfl rfl rfl (B rfl) (heldLoadA rfl ag_58 (E rfl rfl) rfl rfl rfl rfl) ?_
   refine AWH.tk (i := 9) rfl rfl rfl (B rfl) (heldAll (freeField rfl fo_58_4 (E rfl rfl))) ?_
   refine AWH.tk (i := 10) rfl rfl rfl (B rfl) (heldLoad rfl ag_9 (E rfl rfl) rfl) ?_
   refine AWH.one (i := 2) (by kernel_rfl) rfl ?_
   refine AWL.callP rfl rfl (B rfl) rfl ce_38 (E rfl rfl) (evsC (E rfl rfl) evs0) (fd38 s hk1) (fun t S h => h) ?_
   refine tb 0 rfl ?_
   refine AWH.one (i := 5) (by kernel_rfl) rfl ?_
   refine AWL.callF rfl rfl (B rfl) rfl ce_13 (E rfl rfl) (evsC (E rfl rfl) (evsC (E rfl rfl) (evsC (E rfl rfl) evs0))) (F1 := [.box b5 58 (stepCells s)]) (S1 := (WSt b m ws)) (F2 := (DSt b2 ds)) rfl (rSysWrite b m ws n hb.r (by omega) (fdF s) s.text (by omega)) ?_
   rintro t73 S73 ⟨rfl, ws73, hd73, rfl⟩
   refine tb 0 rfl ?_
   refine AWH.one (i := 8) (by kernel_rfl) rfl ?_
   refine AWL.callP rfl rfl (B rfl) rfl ce_38 (E rfl rfl) (evsC (E rfl rfl) evs0) (fd38 s hk1) (fun t S h => h) ?_
   refine tb 0 rfl ?_
   refine AWH.one (i := 11) (by kernel_rfl) rfl ?_
   refine AWL.callE rfl rfl (B rfl) rfl ce_40 (E rfl rfl) (evsC (E rfl rfl) (evsC (E rfl rfl) (evsC (E rfl rfl) evs0))) (F1 := (.box b5 58 (stepCells s) :: (WSt b m ws73))) (S1 := (DSt b2 ds)) rfl (SysWrite40 b2 ds n hb.pd (by omega) hb.nd (fdF s) s.text (by omega)) ?_
   rintro t79 S79 ⟨rfl, ds79, he79, rfl⟩
   rw [hb.s.writeV]
   refine tb 0 rfl ?_
   refine AWH.one (i := 12) (by kernel_rfl) rfl ?_
   refine Y1 (Yv.eql rfl eV eV) ?_
   refine tb 0 rfl ?_
   refine AWH.one (i := 13) (by kernel_rfl) rfl ?_
   refine Y1 (Yv.assign rfl eV) ?_
   refine tb 0 rfl ?_
   refine AWH.done (by kernel_rfl) ?_
   have hend := hb.wrote hd73 he79
   refine AW.dropAt 0 ?_
   refine AW.ret (retI (.tmp rfl .nil) ?_)
   refine ⟨by first | rfl | (simp; rfl) | (simp; done), _, _, hend.mono (by omega), rfl⟩
  try replace h12f := of_decide_eq_false h12f
  refine AW.rseq ?_
  refine Y1 (Yv.eql rfl eV eV) ?_
  refine Y1 (Yv.assign rfl eV) ?_
  refine nl ?_
  refine AW.cond rfl (fun h13t => ?_) (fun h13f => ?_)
  ·
   try replace h13t := of_decide_eq_true h13t
   refine AW.rseqH (HeldBox b5 (stepVals s)) rfl (tells_box (k := 0) rfl) ?_
   refine AWH.tk (i := 0) rfl rfl rfl (B rfl) (heldAll (freeMove rfl (E rfl rfl))) ?_
   refine AWH.tk (i := 1) rfl rfl rfl (B rfl) (heldLoadA rfl ag_58 (E rfl rfl) rfl rfl rfl rfl) ?_
   refine AWH.tk (i := 4) rfl rfl rfl (B rfl) (heldAll (freeMove rfl (E rfl rfl))) ?_
   refine AWH.tk (i := 5) rfl rfl rfl (B rfl) (heldLoadA rfl ag_58 (E rfl rfl) rfl rfl rfl rfl) ?_
   refine AWH.one (i := 2) (by kernel_rfl) rfl ?_
   refine AWL.callP rfl rfl (B rfl) rfl ce_38 (E rfl rfl) (evsC (E rfl rfl) evs0) (fd38 s hk1) (fun t S h => h) ?_
   refine tb 0 rfl ?_
   refine AWH.one (i := 3) (by kernel_rfl) rfl ?_
   refine AWL.callF rfl rfl (B rfl) rfl ce_18 (E rfl rfl) (evsC (E rfl rfl) (evsC (E rfl rfl) evs0)) (F1 := [.box b5 58 (stepCells s)]) (S1 := (WSt b m ws)) (F2 := (DSt b2 ds)) rfl (rSysClose b m ws n hb.r (fdF s)) ?_
   rintro t86 S86 ⟨rfl, ws86, hd86, rfl⟩
   refine tb 0 rfl ?_
   refine AWH.one (i := 6) (by kernel_rfl) rfl ?_
   refine AWL.callP rfl rfl (B rfl) rfl ce_38 (E rfl rfl) (evsC (E rfl rfl) evs0) (fd38 s hk1) (fun t S h => h) ?_
   refine tb 0 rfl ?_
   refine AWH.one (i := 7) (by kernel_rfl) rfl ?_
   refine AWL.callE rfl rfl (B rfl) rfl ce_41 (E rfl rfl) (evsC (E rfl rfl) (evsC (E rfl rfl) evs0)) (F1 := (.box b5 58 (stepCells s) :: (WSt b m ws86))) (S1 := (DSt b2 ds)) rfl (SysClose41 b2 ds n hb.pd (by omega) (fdF s)) ?_
   rintro t90 S90 ⟨rfl, rfl⟩
   rw [hb.s.closeV]
   refine tb 0 rfl ?_
   refine AWH.one (i := 8) (by kernel_rfl) rfl ?_
   refine Y1 (Yv.eql rfl eV eV) ?_
   refine tb 0 rfl ?_
   refine AWH.one (i := 9) (by kernel_rfl) rfl ?_
   refine Y1 (Yv.assign rfl eV) ?_
   refine tb 0 rfl ?_
   refine AWH.done (by kernel_rfl) ?_
   have hend := hb.closed hd86 pl_close
   refine AW.dropAt 0 ?_
   refine AW.ret (retI (.tmp rfl .nil) ?_)
   refine ⟨by first | rfl | (simp; rfl) | (simp; done), _, _, hend.mono (by omega), rfl⟩
  try replace h13f := of_decide_eq_false h13f
  refine AW.rseq ?_
  refine Y1 (Yv.eql rfl eV eV) ?_
  refine Y1 (Yv.assign rfl eV) ?_
  refine nl ?_
  refine AW.cond rfl (fun h14t => ?_) (fun h14f => ?_)
  ·
   try replace h14t := of_decide_eq_true h14t
   refine AW.rseq ?_
   refine Y1 (Yv.move rfl eV) ?_
   refine Y1 (Yv.fieldBox rfl fo_58_4 eV) ?_
   refine Y1 (Yv.loadBox rfl ag_9 (i := 0) rfl (E rfl rfl) rfl) ?_
   refine AWL.callF rfl rfl (B rfl) rfl ce_12 (E rfl rfl) (evsC (E rfl rfl) (evsC (E rfl rfl) evs0)) (F1 := [.box b5 58 (stepCells s)]) (S1 := (WSt b m ws)) (F2 := (DSt b2 ds)) rfl (rOut b m ws n hb.r (by omega) s.text (by omega)) ?_
   rintro t97 S97 ⟨rfl, ws97, hd97, rfl⟩
   refine nl ?_
   refine AW.rseq ?_
   refine Y1 (Yv.move rfl eV) ?_
   refine Y1 (Yv.fieldBox rfl fo_58_4 eV) ?_
   refine Y1 (Yv.loadBox rfl ag_9 (i := 0) rfl (E rfl rfl) rfl) ?_
   refine AWL.callE rfl rfl (B rfl) rfl ce_42 (E rfl rfl) (evsC (E rfl rfl) (evsC (E rfl rfl) evs0)) (F1 := (.box b5 58 (stepCells s) :: (WSt b m ws97))) (S1 := (DSt b2 ds)) rfl (DOut42 b2 ds n hb.pd (by omega) hb.nd s.text (by omega)) ?_
   rintro t101 S101 ⟨rfl, ds101, he101, rfl⟩
   refine nl ?_
   refine AW.rseq ?_
   refine Y1 (Yv.assign rfl eV) ?_
   refine nl ?_
   have hend := hb.wrote hd97 he101
   refine AW.dropAt 0 ?_
   refine AW.ret (retI (.tmp rfl .nil) ?_)
   refine ⟨by first | rfl | (simp; rfl) | (simp; done), _, _, hend.mono (by omega), rfl⟩
  try replace h14f := of_decide_eq_false h14f
  refine AW.rseq ?_
  refine Y1 (Yv.eql rfl eV eV) ?_
  refine Y1 (Yv.assign rfl eV) ?_
  refine nl ?_
  refine AW.cond rfl (fun h15t => ?_) (fun h15f => ?_)
  ·
   try replace h15t := of_decide_eq_true h15t
   refine AW.rseq ?_
   refine Y1 (Yv.move rfl eV) ?_
   refine Y1 (Yv.fieldBox rfl fo_58_4 eV) ?_
   refine Y1 (Yv.loadBox rfl ag_9 (i := 0) rfl (E rfl rfl) rfl) ?_
   refine AWL.callF rfl rfl (B rfl) rfl ce_43 (E rfl rfl) (evsC (E rfl rfl) (evsC (E rfl rfl) evs0)) (F1 := [.box b5 58 (stepCells s)]) (S1 := (WSt b m ws)) (F2 := (DSt b2 ds)) rfl (rErr b m ws n hb.r (by omega) s.text (by omega)) ?_
   rintro t107 S107 ⟨rfl, ws107, hd107, rfl⟩
   refine nl ?_
   refine AW.rseq ?_
   refine Y1 (Yv.move rfl eV) ?_
   refine Y1 (Yv.fieldBox rfl fo_58_4 eV) ?_
   refine Y1 (Yv.loadBox rfl ag_9 (i := 0) rfl (E rfl rfl) rfl) ?_
   refine AWL.callE rfl rfl (B rfl) rfl ce_44 (E rfl rfl) (evsC (E rfl rfl) (evsC (E rfl rfl) evs0)) (F1 := (.box b5 58 (stepCells s) :: (WSt b m ws107))) (S1 := (DSt b2 ds)) rfl (DErr44 b2 ds n hb.pd (by omega) hb.nd s.text (by omega)) ?_
   rintro t111 S111 ⟨rfl, ds111, he111, rfl⟩
   refine nl ?_
   refine AW.rseq ?_
   refine Y1 (Yv.assign rfl eV) ?_
   refine nl ?_
   have hend := hb.wrote hd107 he111
   refine AW.dropAt 0 ?_
   refine AW.ret (retI (.tmp rfl .nil) ?_)
   refine ⟨by first | rfl | (simp; rfl) | (simp; done), _, _, hend.mono (by omega), rfl⟩
  try replace h15f := of_decide_eq_false h15f
  refine AW.seq ?_
  refine AW.rseq ?_
  refine Y1 (Yv.eql rfl eV eV) ?_
  refine Y1 (Yv.assign rfl eV) ?_
  refine nl ?_
  refine AW.cond rfl (fun h16t => ?_) (fun h16f => ?_)
  ·
   try replace h16t := of_decide_eq_true h16t
   refine AW.skip ?_
   refine AW.cond rfl (fun h17t => ?_) (fun h17f => ?_)
   ·
    try replace h17t := of_decide_eq_true h17t
    refine AW.rseq ?_
    refine Y1 (Yv.move rfl eV) ?_
    refine AWL.callF rfl rfl (B rfl) rfl ce_16 (E rfl rfl) (evsC (E rfl rfl) evs0) (F1 := [.box b5 58 (stepCells s)]) (S1 := (WSt b m ws)) (F2 := (DSt b2 ds)) rfl (rLine b m ws n hb.r (by omega)) ?_
    rintro t116 S116 ⟨rfl, ws116, hd116, rfl⟩
    refine Y1 (Yv.move rfl eV) ?_
    refine AWL.callE rfl rfl (B rfl) rfl ce_45 (E rfl rfl) (evsC (E rfl rfl) evs0) (F1 := (.box b5 58 (stepCells s) :: (WSt b m ws116))) (S1 := (DSt b2 ds)) rfl (Line45 b2 ds n hb.pd (by omega)) ?_
    rintro t118 S118 ⟨rfl, rfl⟩
    rw [hb.s.lineV]
    refine Y1 (Yv.eqlL rfl (E rfl rfl) (E rfl rfl)) ?_
    refine Y1 (Yv.assign rfl eV) ?_
    refine nl ?_
    have hend := hb.lined hd116 pl_line
    refine AW.dropAt 0 ?_
    refine AW.ret (retI (.tmp rfl .nil) ?_)
    refine ⟨by first | rfl | (simp; rfl) | (simp; done), _, _, hend.mono (by omega), rfl⟩
   · exfalso; replace h17f := of_decide_eq_false h17f; omega
  try replace h16f := of_decide_eq_false h16f
  refine AW.region ?_
  refine Y1 (Yv.eql rfl eV eV) ?_
  refine Y1 (Yv.assign rfl eV) ?_
  refine nl ?_
  refine AW.cond rfl (fun h18t => ?_) (fun h18f => ?_)
  ·
   try replace h18t := of_decide_eq_true h18t
   refine AW.rseq ?_
   refine Y1 (Yv.move rfl eV) ?_
   refine AWL.callF rfl rfl (B rfl) rfl ce_16 (E rfl rfl) (evsC (E rfl rfl) evs0) (F1 := [.box b5 58 (stepCells s)]) (S1 := (WSt b m ws)) (F2 := (DSt b2 ds)) rfl (rLine b m ws n hb.r (by omega)) ?_
   rintro t116 S116 ⟨rfl, ws116, hd116, rfl⟩
   refine Y1 (Yv.move rfl eV) ?_
   refine AWL.callE rfl rfl (B rfl) rfl ce_45 (E rfl rfl) (evsC (E rfl rfl) evs0) (F1 := (.box b5 58 (stepCells s) :: (WSt b m ws116))) (S1 := (DSt b2 ds)) rfl (Line45 b2 ds n hb.pd (by omega)) ?_
   rintro t118 S118 ⟨rfl, rfl⟩
   rw [hb.s.lineV]
   refine Y1 (Yv.eqlL rfl (E rfl rfl) (E rfl rfl)) ?_
   refine Y1 (Yv.assign rfl eV) ?_
   refine nl ?_
   have hend := hb.lined hd116 pl_line
   refine AW.dropAt 0 ?_
   refine AW.ret (retI (.tmp rfl .nil) ?_)
   refine ⟨by first | rfl | (simp; rfl) | (simp; done), _, _, hend.mono (by omega), rfl⟩
  try replace h18f := of_decide_eq_false h18f
  refine AW.seq ?_
  refine AW.rseq ?_
  refine Y1 (Yv.eql rfl eV eV) ?_
  refine Y1 (Yv.assign rfl eV) ?_
  refine nl ?_
  refine AW.cond rfl (fun h19t => ?_) (fun h19f => ?_)
  ·
   try replace h19t := of_decide_eq_true h19t
   refine AW.skip ?_
   refine AW.cond rfl (fun h20t => ?_) (fun h20f => ?_)
   ·
    try replace h20t := of_decide_eq_true h20t
    refine AW.rseq ?_
    refine Y1 (Yv.move rfl eV) ?_
    refine Y1 (Yv.fieldBox rfl fo_58_3 eV) ?_
    refine Y1 (Yv.loadBox rfl ag_9 (i := 0) rfl (E rfl rfl) rfl) ?_
    refine AWL.callF rfl rfl (B rfl) rfl ce_19 (E rfl rfl) (evsC (E rfl rfl) (evsC (E rfl rfl) evs0)) (F1 := [.box b5 58 (stepCells s)]) (S1 := (WSt b m ws)) (F2 := (DSt b2 ds)) rfl (rReadFile b m ws n hb.r (by omega) s.name) ?_
    rintro t127 S127 ⟨rfl, ws127, hd127, rfl⟩
    refine Y1 (Yv.move rfl eV) ?_
    refine Y1 (Yv.extract rfl eV rfl) ?_
    refine Y1 (Yv.extract rfl eV rfl) ?_
    refine Y1 (Yv.assign rfl eV) ?_
    refine Y1 (Yv.assign rfl eV) ?_
    refine nl ?_
    refine AW.rseq ?_
    refine Y1 (Yv.move rfl eV) ?_
    refine Y1 (Yv.fieldBox rfl fo_58_3 eV) ?_
    refine Y1 (Yv.loadBox rfl ag_9 (i := 0) rfl (E rfl rfl) rfl) ?_
    refine AWL.callE rfl rfl (B rfl) rfl ce_46 (E rfl rfl) (evsC (E rfl rfl) (evsC (E rfl rfl) evs0)) (F1 := (.box b5 58 (stepCells s) :: (WSt b m ws127))) (S1 := (DSt b2 ds)) rfl (ReadFile46 b2 ds n hb.pd (by omega) hb.nd s.name (by omega)) ?_
    rintro t134 S134 ⟨rfl, ds134, he134, rfl⟩
    rw [hb.s.rdV]
    refine Y1 (Yv.move rfl eV) ?_
    refine Y1 (Yv.extract rfl eV rfl) ?_
    refine Y1 (Yv.extract rfl eV rfl) ?_
    refine Y1 (Yv.assign rfl eV) ?_
    refine Y1 (Yv.assign rfl eV) ?_
    refine nl ?_
    refine AW.rseq ?_
    refine Y1 (Yv.move rfl eV) ?_
    refine Y1 (Yv.move rfl eV) ?_
    refine Y1 (Yv.eqlL rfl (E rfl rfl) (E rfl rfl)) ?_
    refine Y1 (Yv.move rfl eV) ?_
    refine AWL.ygT rfl rfl rfl rfl (B rfl) (Yv.move rfl (E rfl rfl)) ?_
    refine AWL.ygT rfl rfl rfl rfl (B rfl) (Yv.move rfl (E rfl rfl)) ?_
    refine AWL.ygT rfl rfl rfl rfl (B rfl) (Yv.eqlB rfl bo_4 (Eg rfl rfl id) (Eg rfl rfl id)) ?_
    refine Y1 (Yv.pickAnd rfl (E rfl rfl) (Eg rfl rfl id)) ?_
    refine Y1 (Yv.assign rfl eV) ?_
    refine nl ?_
    have hend := hb.rd hd127 he134
    refine AW.dropAt 0 ?_
    refine AW.ret (retI (.tmp rfl .nil) ?_)
    refine ⟨by first | rfl | (simp; rfl) | (simp; done), _, _, hend.mono (by omega), rfl⟩
   · exfalso; replace h20f := of_decide_eq_false h20f; omega
  try replace h19f := of_decide_eq_false h19f
  refine AW.region ?_
  refine Y1 (Yv.eql rfl eV eV) ?_
  refine Y1 (Yv.assign rfl eV) ?_
  refine nl ?_
  refine AW.cond rfl (fun h21t => ?_) (fun h21f => ?_)
  ·
   try replace h21t := of_decide_eq_true h21t
   refine AW.rseq ?_
   refine Y1 (Yv.move rfl eV) ?_
   refine Y1 (Yv.fieldBox rfl fo_58_3 eV) ?_
   refine Y1 (Yv.loadBox rfl ag_9 (i := 0) rfl (E rfl rfl) rfl) ?_
   refine AWL.callF rfl rfl (B rfl) rfl ce_19 (E rfl rfl) (evsC (E rfl rfl) (evsC (E rfl rfl) evs0)) (F1 := [.box b5 58 (stepCells s)]) (S1 := (WSt b m ws)) (F2 := (DSt b2 ds)) rfl (rReadFile b m ws n hb.r (by omega) s.name) ?_
   rintro t127 S127 ⟨rfl, ws127, hd127, rfl⟩
   refine Y1 (Yv.move rfl eV) ?_
   refine Y1 (Yv.extract rfl eV rfl) ?_
   refine Y1 (Yv.extract rfl eV rfl) ?_
   refine Y1 (Yv.assign rfl eV) ?_
   refine Y1 (Yv.assign rfl eV) ?_
   refine nl ?_
   refine AW.rseq ?_
   refine Y1 (Yv.move rfl eV) ?_
   refine Y1 (Yv.fieldBox rfl fo_58_3 eV) ?_
   refine Y1 (Yv.loadBox rfl ag_9 (i := 0) rfl (E rfl rfl) rfl) ?_
   refine AWL.callE rfl rfl (B rfl) rfl ce_46 (E rfl rfl) (evsC (E rfl rfl) (evsC (E rfl rfl) evs0)) (F1 := (.box b5 58 (stepCells s) :: (WSt b m ws127))) (S1 := (DSt b2 ds)) rfl (ReadFile46 b2 ds n hb.pd (by omega) hb.nd s.name (by omega)) ?_
   rintro t134 S134 ⟨rfl, ds134, he134, rfl⟩
   rw [hb.s.rdV]
   refine Y1 (Yv.move rfl eV) ?_
   refine Y1 (Yv.extract rfl eV rfl) ?_
   refine Y1 (Yv.extract rfl eV rfl) ?_
   refine Y1 (Yv.assign rfl eV) ?_
   refine Y1 (Yv.assign rfl eV) ?_
   refine nl ?_
   refine AW.rseq ?_
   refine Y1 (Yv.move rfl eV) ?_
   refine Y1 (Yv.move rfl eV) ?_
   refine Y1 (Yv.eqlL rfl (E rfl rfl) (E rfl rfl)) ?_
   refine Y1 (Yv.move rfl eV) ?_
   refine AWL.ygT rfl rfl rfl rfl (B rfl) (Yv.move rfl (E rfl rfl)) ?_
   refine AWL.ygT rfl rfl rfl rfl (B rfl) (Yv.move rfl (E rfl rfl)) ?_
   refine AWL.ygT rfl rfl rfl rfl (B rfl) (Yv.eqlB rfl bo_4 (Eg rfl rfl id) (Eg rfl rfl id)) ?_
   refine Y1 (Yv.pickAnd rfl (E rfl rfl) (Eg rfl rfl id)) ?_
   refine Y1 (Yv.assign rfl eV) ?_
   refine nl ?_
   have hend := hb.rd hd127 he134
   refine AW.dropAt 0 ?_
   refine AW.ret (retI (.tmp rfl .nil) ?_)
   refine ⟨by first | rfl | (simp; rfl) | (simp; done), _, _, hend.mono (by omega), rfl⟩
  try replace h21f := of_decide_eq_false h21f
  refine AW.skip ?_
  refine AW.rseqH (HeldBox b5 (stepVals s)) rfl (tells_box (k := 0) rfl) ?_
  refine AWH.tk (i := 0) rfl rfl rfl (B rfl) (heldAll (freeMove rfl (E rfl rfl))) ?_
  refine AWH.tk (i := 1) rfl rfl rfl (B rfl) (heldAll (freeField rfl fo_58_3 (E rfl rfl))) ?_
  refine AWH.tk (i := 2) rfl rfl rfl (B rfl) (heldLoad rfl ag_9 (E rfl rfl) rfl) ?_
  refine AWH.tk (i := 3) rfl rfl rfl (B rfl) (heldAll (freeField rfl fo_58_4 (E rfl rfl))) ?_
  refine AWH.tk (i := 4) rfl rfl rfl (B rfl) (heldLoad rfl ag_9 (E rfl rfl) rfl) ?_
  refine AWH.tk (i := 6) rfl rfl rfl (B rfl) (heldAll (freeMove rfl (E rfl rfl))) ?_
  refine AWH.tk (i := 7) rfl rfl rfl (B rfl) (heldAll (freeField rfl fo_58_3 (E rfl rfl))) ?_
  refine AWH.tk (i := 8) rfl rfl rfl (B rfl) (heldLoad rfl ag_9 (E rfl rfl) rfl) ?_
  refine AWH.tk (i := 9) rfl rfl rfl (B rfl) (heldAll (freeField rfl fo_58_4 (E rfl rfl))) ?_
  refine AWH.tk (i := 10) rfl rfl rfl (B rfl) (heldLoad rfl ag_9 (E rfl rfl) rfl) ?_
  refine AWH.one (i := 5) (by kernel_rfl) rfl ?_
  refine AWL.callF rfl rfl (B rfl) rfl ce_28 (E rfl rfl) (evsC (E rfl rfl) (evsC (E rfl rfl) (evsC (E rfl rfl) evs0))) (F1 := [.box b5 58 (stepCells s)]) (S1 := (WSt b m ws)) (F2 := (DSt b2 ds)) rfl (rWriteFile b m ws n hb.r (by omega) s.name s.text (by omega)) ?_
  rintro t150 S150 ⟨rfl, ws150, hd150, rfl⟩
  refine tb 0 rfl ?_
  refine AWH.one (i := 11) (by kernel_rfl) rfl ?_
  refine AWL.callE rfl rfl (B rfl) rfl ce_47 (E rfl rfl) (evsC (E rfl rfl) (evsC (E rfl rfl) (evsC (E rfl rfl) evs0))) (F1 := (.box b5 58 (stepCells s) :: (WSt b m ws150))) (S1 := (DSt b2 ds)) rfl (DWriteFile47 b2 ds n hb.pd (by omega) hb.nd s.name s.text (by omega) (by omega)) ?_
  rintro t156 S156 ⟨rfl, ds156, he156, rfl⟩
  rw [hb.s.openV]
  refine tb 0 rfl ?_
  refine AWH.one (i := 12) (by kernel_rfl) rfl ?_
  refine Y1 (Yv.eqlB rfl bo_4 (E rfl rfl) (E rfl rfl)) ?_
  refine tb 0 rfl ?_
  refine AWH.one (i := 13) (by kernel_rfl) rfl ?_
  refine Y1 (Yv.assign rfl eV) ?_
  refine tb 0 rfl ?_
  refine AWH.done (by kernel_rfl) ?_
  have hend := hb.wf hd150 he156
  refine AW.dropAt 0 ?_
  refine AW.ret (retI (.tmp rfl .nil) ?_)
  refine ⟨by first | rfl | (simp; rfl) | (simp; done), _, _, hend.mono (by omega), rfl⟩

end Go.Proofs.Ytmiggpnkicdijaa

namespace Go.Proofs.Ytmiggpnkicdijaa
open Go Go.RowKit
set_option linter.unusedSimpArgs false
set_option linter.unusedVariables false
def evVals (e : Evt) : List Value := [.int .i64 e.kind, .string ⟨e.name.toArray⟩, .string ⟨e.text.toArray⟩]
def fcVals (f : List UInt8 × List UInt8) : List Value := [.string ⟨f.1.toArray⟩, .string ⟨f.2.toArray⟩]
theorem ba_eq (a b : List UInt8) : ((⟨a.toArray⟩ : ByteArray) = ⟨b.toArray⟩) = (a = b) := by
  apply propext
  constructor
  · intro h
    have := congrArg (fun x : ByteArray => x.data.toList) h
    simpa using this
  · rintro rfl
    rfl
theorem ev_eq (a b : Evt) : eqCells (evVals a) (evVals b) [(0, .i), (1, .s), (2, .s)] = some (decide (a = b)) := by
  cases a; cases b
  simp [eqCells, evVals, eqCell, Evt.mk.injEq, Bool.decide_and, Bool.and_assoc, ba_eq]
theorem fc_eq (a b : List UInt8 × List UInt8) : eqCells (fcVals a) (fcVals b) [(0, .s), (1, .s)] = some (decide (a = b)) := by
  cases a; cases b
  simp [eqCells, fcVals, eqCell, Prod.mk.injEq, Bool.decide_and, Bool.and_assoc, ba_eq]
theorem take_gd {α : Type} [Inhabited α] {l : List α} {j : Nat} (h : j < l.length) : l.take (j + 1) = l.take j ++ [l.getD j default] := by
  rw [List.take_succ_eq_append_getElem h, getD_eq' h]
theorem same_st {α : Type} [Inhabited α] {a b : List α} {j : Nat} (hl : a.length = b.length) (hj : j < a.length) (h : a.take j = b.take j) (he : a.getD j default = b.getD j default) : a.take (j + 1) = b.take (j + 1) := by
  rw [take_gd hj, take_gd (by omega), h, he]
theorem ev_cells {l : List Evt} {j : Nat} (h : j < l.length) : ((l.flatMap evCells).drop (j * 3)).take 3 = evCells (l.getD j default) := by
  rw [drop_flat ek, List.drop_eq_getElem_cons h, List.flatMap_cons, getD_eq' h]
  rw [List.take_append_of_le_length (by rw [ek]; exact Nat.le_refl _)]
  exact List.take_of_length_le (by rw [ek]; exact Nat.le_refl _)
theorem fl_step {l : List FileR} {j : Nat} (h : j < l.length) : ((l.take j).map nb).flatMap fCells ++ [sv (l.getD j default).name, sv (l.getD j default).bytes] = ((l.take (j + 1)).map nb).flatMap fCells := by
  rw [take_gd h, List.map_append, List.flatMap_append]
  rfl
theorem fc_cells {l : List (List UInt8 × List UInt8)} {j : Nat} (h : j < l.length) : ((l.flatMap fCells).drop (j * 2)).take 2 = fCells (l.getD j default) := (fc_get h).1
end Go.Proofs.Ytmiggpnkicdijaa

namespace Go.Proofs.Ytmiggpnkicdijaa
open Go Go.RowKit
set_option linter.unusedVariables false
set_option linter.unnecessarySimpa false
set_option linter.unusedSimpArgs false

set_option maxHeartbeats 400000 in
theorem Same49 (l m : List Evt) (A1 A2 : Option Addr) (c1 c2 : Nat) (hl : l.length ≤ 1099511627776) (hm : m.length ≤ 1099511627776) :
    ACalls Try.prog 49 [.v (.slice A1 l.length c1), .v (.slice A2 m.length c2)] [.row A1 l.length c1 36 3 (l.flatMap evCells), .row A2 m.length c2 36 3 (m.flatMap evCells)] (fun t S => t = .v (.bool (decide (l = m))) ∧ S = [.row A1 l.length c1 36 3 (l.flatMap evCells), .row A2 m.length c2 36 3 (m.flatMap evCells)]) := by
  refine ACalls.intro Try.func49 rfl Try.ntmps49 (Nat.le_of_ble_eq_true rfl) rfl fun X w0 => ?_
  refine AW.rseq ?_
  refine Y1 (Yv.assign rfl eV) ?_
  refine nl ?_
  refine AW.seq ?_
  refine AW.rseq ?_
  refine Y1 (Yv.move rfl eV) ?_
  refine Y1 (Yv.lenV rfl so_33 (E rfl rfl)) ?_
  refine Y1 (Yv.move rfl eV) ?_
  refine Y1 (Yv.lenV rfl so_33 (E rfl rfl)) ?_
  refine Y1 (Yv.neq rfl eV eV) ?_
  refine nl ?_
  refine AW.cond rfl (fun h0t => ?_) (fun h0f => ?_)
  ·
   try replace h0t := of_decide_eq_true h0t
   simp only [Bool.or_eq_true, Bool.and_eq_true, Bool.or_eq_false_iff, Bool.and_eq_false_iff, Bool.not_eq_true', Bool.not_eq_false', decide_eq_true_eq, decide_eq_false_iff_not, Decidable.not_not] at h0t
   refine AW.rseq ?_
   refine Y1 (Yv.assign rfl eV) ?_
   refine nl ?_
   refine AW.ret (retI (.tmp rfl .nil) ?_)
   exact ⟨by rw [decide_eq_false (fun q => h0t (by rw [q]))]; rfl, rfl⟩
  try replace h0f := of_decide_eq_false h0f
  simp only [Bool.or_eq_true, Bool.and_eq_true, Bool.or_eq_false_iff, Bool.and_eq_false_iff, Bool.not_eq_true', Bool.not_eq_false', decide_eq_true_eq, decide_eq_false_iff_not, Decidable.not_not] at h0f
  refine AW.skip ?_
  refine AW.seq ?_
  refine AW.rseq ?_
  refine Y1 (Yv.assign rfl eV) ?_
  refine nl ?_
  refine AW.block ?_
  refine AW.loop (fun (j : Nat) => [(0, true, .v (.slice A1 l.length c1)), (1, true, .v (.slice A2 m.length c2)), (5, true, .v (.int .i64 (j : Int)))]) (fun (j : Nat) => [.row A1 l.length c1 36 3 (l.flatMap evCells), .row A2 m.length c2 36 3 (m.flatMap evCells)]) (fun (j : Nat) => l.length = m.length ∧ j ≤ l.length ∧ l.take j = m.take j) (fun (j : Nat) => l.length - j) 0 ?_ ?_ ?_ ?_
  · exact ⟨by omega, Nat.zero_le _, rfl⟩
  · exact (Sub.cons rfl rfl (Sub.cons rfl rfl (Sub.cons rfl rfl Sub.nil)))
  · rfl
  ·
   intro j hinv
   obtain ⟨hlm, hj, htk⟩ := hinv
   refine AW.seq ?_
   refine AW.rseq ?_
   refine Y1 (Yv.move rfl eV) ?_
   refine Y1 (Yv.move rfl eV) ?_
   refine Y1 (Yv.lenV rfl so_33 (E rfl rfl)) ?_
   refine Y1 (Yv.lss rfl eV eV) ?_
   refine nl ?_
   refine AW.cond rfl (fun h1t => ?_) (fun h1f => ?_)
   ·
    try replace h1t := of_decide_eq_true h1t
    refine AW.skip ?_
    refine AW.seq ?_
    refine AW.block ?_
    refine AW.rseqQ rfl (by kernel_rfl) ?_
    refine AWQ.y rfl rfl (B rfl) (Yv.move rfl (E rfl rfl)) ?_
    refine AWQ.y rfl rfl (B rfl) (Yv.move rfl (E rfl rfl)) ?_
    refine AWQ.y rfl rfl (B rfl) (Yv.indexRow rfl ss_33 (i := 0) rfl (E rfl rfl) (E rfl rfl) (fun hg => ⟨rfl, by omega⟩)) ?_
    refine AWQ.y rfl rfl (B rfl) (Yv.loadEpA (l' := evCells (l.getD j default)) rfl ag_36 (i := 0) rfl (E rfl rfl) (fun hg => ⟨ev_cells (by omega), rfl⟩)) ?_
    refine AWQ.y rfl rfl (B rfl) (Yv.move rfl (E rfl rfl)) ?_
    refine AWQ.y rfl rfl (B rfl) (Yv.move rfl (E rfl rfl)) ?_
    refine AWQ.y rfl rfl (B rfl) (Yv.indexRow rfl ss_33 (i := 1) rfl (E rfl rfl) (E rfl rfl) (fun hg => ⟨rfl, by omega⟩)) ?_
    refine AWQ.y rfl rfl (B rfl) (Yv.loadEpA (l' := evCells (m.getD j default)) rfl ag_36 (i := 1) rfl (E rfl rfl) (fun hg => ⟨ev_cells (by omega), rfl⟩)) ?_
    refine AWQ.y rfl rfl (B rfl) (Yv.neqA (us := evVals (l.getD j default)) (vs := evVals (m.getD j default)) rfl fl_36 (E rfl rfl) (E rfl rfl) rfl rfl (ev_eq (l.getD j default) (m.getD j default))) ?_
    refine AWQ.nil ?_
    refine AW.cond rfl (fun h2t => ?_) (fun h2f => ?_)
    ·
     try replace h2t := of_decide_eq_true h2t
     have hne : ¬ (l.getD j default) = (m.getD j default) := by simpa using h2t
     refine AW.rseq ?_
     refine Y1 (Yv.assign rfl eV) ?_
     refine nl ?_
     refine AW.ret (retI (.tmp rfl .nil) ?_)
     exact ⟨by rw [decide_eq_false (fun q => hne (by rw [q]))]; rfl, rfl⟩
    try replace h2f := of_decide_eq_false h2f
    have heq : (l.getD j default) = (m.getD j default) := by simpa using h2f
    refine AW.skip ?_
    refine AW.region ?_
    refine Y1 (Yv.move rfl eV) ?_
    refine Y1 (Yv.addN_i64 rfl (E rfl rfl) (E rfl rfl) (fun hg => by omega)) ?_
    refine Y1 (Yv.assign rfl eV) ?_
    refine nl ?_
    refine ⟨j + 1, ⟨hlm, by omega, same_st hlm (by omega) htk heq⟩, by omega, (Sub.cons rfl rfl (Sub.cons rfl rfl (Sub.cons rfl (by simp) Sub.nil))), rfl⟩
   try replace h1f := of_decide_eq_false h1f
   refine AW.exit ?_
   refine AW.rseq ?_
   refine Y1 (Yv.assign rfl eV) ?_
   refine nl ?_
   refine AW.ret (retI (.tmp rfl .nil) ?_)
   have e : l = m := by
     have h := htk
     rw [List.take_of_length_le (by omega), List.take_of_length_le (by omega)] at h
     exact h
   exact ⟨by rw [decide_eq_true e]; rfl, rfl⟩

set_option maxHeartbeats 400000 in
theorem files50 (l m : List (List UInt8 × List UInt8)) (A1 A2 : Option Addr) (c1 c2 : Nat) (hl : l.length ≤ 1099511627776) (hm : m.length ≤ 1099511627776) :
    ACalls Try.prog 50 [.v (.slice A1 l.length c1), .v (.slice A2 m.length c2)] [.row A1 l.length c1 46 2 (l.flatMap fCells), .row A2 m.length c2 46 2 (m.flatMap fCells)] (fun t S => t = .v (.bool (decide (l = m))) ∧ S = [.row A1 l.length c1 46 2 (l.flatMap fCells), .row A2 m.length c2 46 2 (m.flatMap fCells)]) := by
  refine ACalls.intro Try.func50 rfl Try.ntmps50 (Nat.le_of_ble_eq_true rfl) rfl fun X w0 => ?_
  refine AW.rseq ?_
  refine Y1 (Yv.assign rfl eV) ?_
  refine nl ?_
  refine AW.seq ?_
  refine AW.rseq ?_
  refine Y1 (Yv.move rfl eV) ?_
  refine Y1 (Yv.lenV rfl so_26 (E rfl rfl)) ?_
  refine Y1 (Yv.move rfl eV) ?_
  refine Y1 (Yv.lenV rfl so_26 (E rfl rfl)) ?_
  refine Y1 (Yv.neq rfl eV eV) ?_
  refine nl ?_
  refine AW.cond rfl (fun h0t => ?_) (fun h0f => ?_)
  ·
   try replace h0t := of_decide_eq_true h0t
   simp only [Bool.or_eq_true, Bool.and_eq_true, Bool.or_eq_false_iff, Bool.and_eq_false_iff, Bool.not_eq_true', Bool.not_eq_false', decide_eq_true_eq, decide_eq_false_iff_not, Decidable.not_not] at h0t
   refine AW.rseq ?_
   refine Y1 (Yv.assign rfl eV) ?_
   refine nl ?_
   refine AW.ret (retI (.tmp rfl .nil) ?_)
   exact ⟨by rw [decide_eq_false (fun q => h0t (by rw [q]))]; rfl, rfl⟩
  try replace h0f := of_decide_eq_false h0f
  simp only [Bool.or_eq_true, Bool.and_eq_true, Bool.or_eq_false_iff, Bool.and_eq_false_iff, Bool.not_eq_true', Bool.not_eq_false', decide_eq_true_eq, decide_eq_false_iff_not, Decidable.not_not] at h0f
  refine AW.skip ?_
  refine AW.seq ?_
  refine AW.rseq ?_
  refine Y1 (Yv.assign rfl eV) ?_
  refine nl ?_
  refine AW.block ?_
  refine AW.loop (fun (j : Nat) => [(0, true, .v (.slice A1 l.length c1)), (1, true, .v (.slice A2 m.length c2)), (5, true, .v (.int .i64 (j : Int)))]) (fun (j : Nat) => [.row A1 l.length c1 46 2 (l.flatMap fCells), .row A2 m.length c2 46 2 (m.flatMap fCells)]) (fun (j : Nat) => l.length = m.length ∧ j ≤ l.length ∧ l.take j = m.take j) (fun (j : Nat) => l.length - j) 0 ?_ ?_ ?_ ?_
  · exact ⟨by omega, Nat.zero_le _, rfl⟩
  · exact (Sub.cons rfl rfl (Sub.cons rfl rfl (Sub.cons rfl rfl Sub.nil)))
  · rfl
  ·
   intro j hinv
   obtain ⟨hlm, hj, htk⟩ := hinv
   refine AW.seq ?_
   refine AW.rseq ?_
   refine Y1 (Yv.move rfl eV) ?_
   refine Y1 (Yv.move rfl eV) ?_
   refine Y1 (Yv.lenV rfl so_26 (E rfl rfl)) ?_
   refine Y1 (Yv.lss rfl eV eV) ?_
   refine nl ?_
   refine AW.cond rfl (fun h1t => ?_) (fun h1f => ?_)
   ·
    try replace h1t := of_decide_eq_true h1t
    refine AW.skip ?_
    refine AW.seq ?_
    refine AW.block ?_
    refine AW.rseqQ rfl (by kernel_rfl) ?_
    refine AWQ.y rfl rfl (B rfl) (Yv.move rfl (E rfl rfl)) ?_
    refine AWQ.y rfl rfl (B rfl) (Yv.move rfl (E rfl rfl)) ?_
    refine AWQ.y rfl rfl (B rfl) (Yv.indexRow rfl ss_26 (i := 0) rfl (E rfl rfl) (E rfl rfl) (fun hg => ⟨rfl, by omega⟩)) ?_
    refine AWQ.y rfl rfl (B rfl) (Yv.loadEpA (l' := fCells (l.getD j default)) rfl ag_46 (i := 0) rfl (E rfl rfl) (fun hg => ⟨fc_cells (by omega), rfl⟩)) ?_
    refine AWQ.y rfl rfl (B rfl) (Yv.move rfl (E rfl rfl)) ?_
    refine AWQ.y rfl rfl (B rfl) (Yv.move rfl (E rfl rfl)) ?_
    refine AWQ.y rfl rfl (B rfl) (Yv.indexRow rfl ss_26 (i := 1) rfl (E rfl rfl) (E rfl rfl) (fun hg => ⟨rfl, by omega⟩)) ?_
    refine AWQ.y rfl rfl (B rfl) (Yv.loadEpA (l' := fCells (m.getD j default)) rfl ag_46 (i := 1) rfl (E rfl rfl) (fun hg => ⟨fc_cells (by omega), rfl⟩)) ?_
    refine AWQ.y rfl rfl (B rfl) (Yv.neqA (us := fcVals (l.getD j default)) (vs := fcVals (m.getD j default)) rfl fl_46 (E rfl rfl) (E rfl rfl) rfl rfl (fc_eq (l.getD j default) (m.getD j default))) ?_
    refine AWQ.nil ?_
    refine AW.cond rfl (fun h2t => ?_) (fun h2f => ?_)
    ·
     try replace h2t := of_decide_eq_true h2t
     have hne : ¬ (l.getD j default) = (m.getD j default) := by simpa using h2t
     refine AW.rseq ?_
     refine Y1 (Yv.assign rfl eV) ?_
     refine nl ?_
     refine AW.ret (retI (.tmp rfl .nil) ?_)
     exact ⟨by rw [decide_eq_false (fun q => hne (by rw [q]))]; rfl, rfl⟩
    try replace h2f := of_decide_eq_false h2f
    have heq : (l.getD j default) = (m.getD j default) := by simpa using h2f
    refine AW.skip ?_
    refine AW.region ?_
    refine Y1 (Yv.move rfl eV) ?_
    refine Y1 (Yv.addN_i64 rfl (E rfl rfl) (E rfl rfl) (fun hg => by omega)) ?_
    refine Y1 (Yv.assign rfl eV) ?_
    refine nl ?_
    refine ⟨j + 1, ⟨hlm, by omega, same_st hlm (by omega) htk heq⟩, by omega, (Sub.cons rfl rfl (Sub.cons rfl rfl (Sub.cons rfl (by simp) Sub.nil))), rfl⟩
   try replace h1f := of_decide_eq_false h1f
   refine AW.exit ?_
   refine AW.rseq ?_
   refine Y1 (Yv.assign rfl eV) ?_
   refine nl ?_
   refine AW.ret (retI (.tmp rfl .nil) ?_)
   have e : l = m := by
     have h := htk
     rw [List.take_of_length_le (by omega), List.take_of_length_le (by omega)] at h
     exact h
   exact ⟨by rw [decide_eq_true e]; rfl, rfl⟩

end Go.Proofs.Ytmiggpnkicdijaa

namespace Go.Proofs.Ytmiggpnkicdijaa
open Go Go.RowKit
set_option linter.unusedVariables false
set_option linter.unnecessarySimpa false
set_option linter.unusedSimpArgs false

set_option maxHeartbeats 4000000 in
theorem DFiles51 (b : Nat) (ds : DS) (n : Nat) (hw : PB n (pl ds)) (hn : n ≤ 1099511627776) :
    ACalls Try.prog 51 [wp b] (DSt b ds) (fun t S => ∃ A c, t = .v (.slice A ds.files.length c) ∧ S = .row A ds.files.length c 46 2 ((ds.files.map nb).flatMap fCells) :: DSt b ds) := by
  obtain ⟨ho, htr, htx, hfl, hpl, hsi, hnf⟩ := hw
  have ho : ds.opn.length = 19 := ho
  have htr : ds.trace.length ≤ n := htr
  have hsi : ds.stdin.length ≤ n := hsi
  have hnf : ds.files.length ≤ n := by have h := hnf; unfold pl at h; rwa [List.length_map] at h
  have htxt : ∀ e ∈ ds.trace, e.text.length ≤ n := htx
  refine ACalls.intro Try.func51 rfl Try.ntmps51 (Nat.le_of_ble_eq_true rfl) rfl fun X w0 => ?_
  refine AW.rseq ?_
  refine Y1 (Yv.assign rfl eV) ?_
  refine nl ?_
  refine AW.rseq ?_
  refine Y1 (Yv.assign rfl eV) ?_
  refine nl ?_
  refine AW.seq ?_
  refine AW.rseq ?_
  refine Y1 (Yv.assign rfl eV) ?_
  refine nl ?_
  refine AW.rowNil 46 2 ?_
  refine AW.perm (List.perm_append_singleton _ _).symm ?_
  refine AW.block ?_
  refine AW.loop3 (fun (j : Nat) (A : Option Addr) (c : Nat) => [(0, true, wp b), (3, true, .v (.slice A j c)), (4, true, .v (.int .i64 (j : Int)))]) (fun (j : Nat) (A : Option Addr) (c : Nat) => (.row A j c 46 2 (((ds.files.take j).map nb).flatMap fCells) :: DSt b ds)) (fun (j : Nat) (A : Option Addr) (c : Nat) => j ≤ ds.files.length) (fun (j : Nat) (A : Option Addr) (c : Nat) => ds.files.length - j) 0 none 0 ?_ ?_ ?_ ?_
  · exact Nat.zero_le _
  · exact (Sub.cons rfl rfl (Sub.cons rfl rfl (Sub.cons rfl rfl Sub.nil)))
  · rfl
  ·
   intro j A c hinv
   refine AW.seq ?_
   refine AW.rseq ?_
   refine Y1 (Yv.move rfl eV) ?_
   refine Y1 (Yv.move rfl eV) ?_
   refine Y1 (Yv.nilChk rfl eV) ?_
   refine Y1 (Yv.fieldBox rfl fo_82_0 eV) ?_
   refine Y1 (Yv.loadBox rfl ag_79 (i := 1) rfl (E rfl rfl) rfl) ?_
   refine Y1 (Yv.lenV rfl so_79 (E rfl rfl)) ?_
   refine Y1 (Yv.lss rfl eV eV) ?_
   refine nl ?_
   refine AW.cond rfl (fun h0t => ?_) (fun h0f => ?_)
   ·
    try replace h0t := of_decide_eq_true h0t
    have hjl : j < ds.files.length := by omega
    refine AW.skip ?_
    refine AW.seq ?_
    refine AW.block ?_
    refine AW.regionP rfl ?_
    refine AWP.take (i := 0) rfl (by kernel_rfl) (by kernel_rfl) (by kernel_rfl) rfl rfl (B rfl) (freeMove rfl (E rfl rfl)) ?_
    refine AWP.take (i := 1) rfl (by kernel_rfl) (by kernel_rfl) (by kernel_rfl) rfl rfl (B rfl) (freeMove rfl (E rfl rfl)) ?_
    refine AWP.take (i := 2) rfl (by kernel_rfl) (by kernel_rfl) (by kernel_rfl) rfl rfl (B rfl) (freeNil rfl (E rfl rfl)) ?_
    refine AWP.take (i := 3) rfl (by kernel_rfl) (by kernel_rfl) (by kernel_rfl) rfl rfl (B rfl) (freeField rfl fo_82_0 (E rfl rfl)) ?_
    refine AWP.take (i := 5) rfl (by kernel_rfl) (by kernel_rfl) (by kernel_rfl) rfl rfl (B rfl) (freeMove rfl (E rfl rfl)) ?_
    refine AWP.take (i := 9) rfl (by kernel_rfl) (by kernel_rfl) (by kernel_rfl) rfl rfl (B rfl) (freeMove rfl (E rfl rfl)) ?_
    refine AWP.take (i := 10) rfl (by kernel_rfl) (by kernel_rfl) (by kernel_rfl) rfl rfl (B rfl) (freeNil rfl (E rfl rfl)) ?_
    refine AWP.take (i := 11) rfl (by kernel_rfl) (by kernel_rfl) (by kernel_rfl) rfl rfl (B rfl) (freeField rfl fo_82_0 (E rfl rfl)) ?_
    refine AWP.take (i := 13) rfl (by kernel_rfl) (by kernel_rfl) (by kernel_rfl) rfl rfl (B rfl) (freeMove rfl (E rfl rfl)) ?_
    refine AWP.two (i := 4) (j := 12) (by kernel_rfl) rfl rfl ?_ ?_
    ·
     refine Y1 (Yv.loadBox rfl ag_79 (i := 1) rfl (E rfl rfl) rfl) ?_
     refine nl ?_
     refine AWP.take (i := 6) rfl (by kernel_rfl) (by kernel_rfl) (by kernel_rfl) rfl rfl (B rfl) (freeIdxRow (i := 2) rfl ss_79 rfl (E rfl rfl) (E rfl rfl) ⟨rfl, by omega⟩) ?_
     refine AWP.take (i := 7) rfl (by kernel_rfl) (by kernel_rfl) (by kernel_rfl) rfl rfl (B rfl) (freeFieldEp rfl fo_93_0 (E rfl rfl)) ?_
     refine AWP.two (i := 8) (j := 12) (by kernel_rfl) rfl rfl ?_ ?_
     ·
      refine Y1 (Yv.loadEp rfl ag_9 (i := 2) rfl (E rfl rfl) (fun hg => fnm_at (by omega))) ?_
      refine nl ?_
      refine AWP.one (i := 12) (by kernel_rfl) rfl ?_
      refine Y1 (Yv.loadBox rfl ag_79 (i := 1) rfl (E rfl rfl) rfl) ?_
      refine nl ?_
      refine AWP.one (i := 14) (by kernel_rfl) rfl ?_
      refine Y1 (Yv.indexRow rfl ss_79 (i := 2) rfl (E rfl rfl) (E rfl rfl) (fun hg => ⟨rfl, by omega⟩)) ?_
      refine nl ?_
      refine AWP.one (i := 15) (by kernel_rfl) rfl ?_
      refine Y1 (Yv.fieldEp rfl fo_93_1 (E rfl rfl)) ?_
      refine nl ?_
      refine AWP.one (i := 16) (by kernel_rfl) rfl ?_
      refine Y1 (Yv.loadEp rfl ag_71 (i := 2) rfl (E rfl rfl) (fun hg => fby_at (by omega))) ?_
      refine nl ?_
      refine AWP.one (i := 17) (by kernel_rfl) rfl ?_
      refine Y1 (Yv.bytesStrRow (i := j + 5) rfl by_71 st_9 (dfile_row (b := b) hjl) (E rfl rfl)) ?_
      refine nl ?_
      refine AWP.one (i := 18) (by kernel_rfl) rfl ?_
      refine Y1 (Yv.buildS rfl sh_46 (evpC (E rfl rfl) (evpC (E rfl rfl) evp0)) (fun _ => rfl)) ?_
      refine nl ?_
      refine AWP.one (i := 19) (by kernel_rfl) rfl ?_
      refine AWL.buildSliceE rfl rfl (B rfl) rfl el_26 (B rfl) rfl (evsC (E rfl rfl) evs0) (Nat.le_of_ble_eq_true rfl) rfl rfl ?_
      refine nl ?_
      refine AWP.one (i := 20) (by kernel_rfl) rfl ?_
      refine AWL.appendRow (i := 0) rfl rfl (B rfl) rfl el_26 (B rfl) rfl (E rfl rfl) (SrcT.sl so_26 (B rfl) (E rfl rfl) (m := 1) rfl) (by unfold maxLen; omega) (by omega) (fun A34 c34 => ?_)
      refine nl ?_
      refine AWP.one (i := 21) (by kernel_rfl) rfl ?_
      refine Y1 (Yv.assign rfl eV) ?_
      refine nl ?_
      refine AWP.done (by kernel_rfl) ?_
      refine AW.region ?_
      refine Y1 (Yv.move rfl eV) ?_
      refine Y1 (Yv.addN_i64 rfl (E rfl rfl) (E rfl rfl) (fun hg => by omega)) ?_
      refine Y1 (Yv.assign rfl eV) ?_
      refine nl ?_
      refine ⟨j + 1, A34, c34, by omega, by omega, (Sub.cons rfl rfl (Sub.cons rfl rfl (Sub.cons rfl (by simp) Sub.nil))), ?_⟩
      rw [← fl_step hjl]
      rfl
     ·
      refine Y1 (Yv.loadBox rfl ag_79 (i := 1) rfl (E rfl rfl) rfl) ?_
      refine nl ?_
      refine AWP.take (i := 14) rfl (by kernel_rfl) (by kernel_rfl) (by kernel_rfl) rfl rfl (B rfl) (freeIdxRow (i := 2) rfl ss_79 rfl (E rfl rfl) (E rfl rfl) ⟨rfl, by omega⟩) ?_
      refine AWP.take (i := 15) rfl (by kernel_rfl) (by kernel_rfl) (by kernel_rfl) rfl rfl (B rfl) (freeFieldEp rfl fo_93_1 (E rfl rfl)) ?_
      refine AWP.two (i := 8) (j := 16) (by kernel_rfl) rfl rfl ?_ ?_
      ·
       refine Y1 (Yv.loadEp rfl ag_9 (i := 2) rfl (E rfl rfl) (fun hg => fnm_at (by omega))) ?_
       refine nl ?_
       refine AWP.one (i := 16) (by kernel_rfl) rfl ?_
       refine Y1 (Yv.loadEp rfl ag_71 (i := 2) rfl (E rfl rfl) (fun hg => fby_at (by omega))) ?_
       refine nl ?_
       refine AWP.one (i := 17) (by kernel_rfl) rfl ?_
       refine Y1 (Yv.bytesStrRow (i := j + 5) rfl by_71 st_9 (dfile_row (b := b) hjl) (E rfl rfl)) ?_
       refine nl ?_
       refine AWP.one (i := 18) (by kernel_rfl) rfl ?_
       refine Y1 (Yv.buildS rfl sh_46 (evpC (E rfl rfl) (evpC (E rfl rfl) evp0)) (fun _ => rfl)) ?_
       refine nl ?_
       refine AWP.one (i := 19) (by kernel_rfl) rfl ?_
       refine AWL.buildSliceE rfl rfl (B rfl) rfl el_26 (B rfl) rfl (evsC (E rfl rfl) evs0) (Nat.le_of_ble_eq_true rfl) rfl rfl ?_
       refine nl ?_
       refine AWP.one (i := 20) (by kernel_rfl) rfl ?_
       refine AWL.appendRow (i := 0) rfl rfl (B rfl) rfl el_26 (B rfl) rfl (E rfl rfl) (SrcT.sl so_26 (B rfl) (E rfl rfl) (m := 1) rfl) (by unfold maxLen; omega) (by omega) (fun A34 c34 => ?_)
       refine nl ?_
       refine AWP.one (i := 21) (by kernel_rfl) rfl ?_
       refine Y1 (Yv.assign rfl eV) ?_
       refine nl ?_
       refine AWP.done (by kernel_rfl) ?_
       refine AW.region ?_
       refine Y1 (Yv.move rfl eV) ?_
       refine Y1 (Yv.addN_i64 rfl (E rfl rfl) (E rfl rfl) (fun hg => by omega)) ?_
       refine Y1 (Yv.assign rfl eV) ?_
       refine nl ?_
       refine ⟨j + 1, A34, c34, by omega, by omega, (Sub.cons rfl rfl (Sub.cons rfl rfl (Sub.cons rfl (by simp) Sub.nil))), ?_⟩
       rw [← fl_step hjl]
       rfl
      ·
       refine Y1 (Yv.loadEp rfl ag_71 (i := 2) rfl (E rfl rfl) (fun hg => fby_at (by omega))) ?_
       refine nl ?_
       refine AWP.two (i := 8) (j := 17) (by kernel_rfl) rfl rfl ?_ ?_
       ·
        refine Y1 (Yv.loadEp rfl ag_9 (i := 2) rfl (E rfl rfl) (fun hg => fnm_at (by omega))) ?_
        refine nl ?_
        refine AWP.one (i := 17) (by kernel_rfl) rfl ?_
        refine Y1 (Yv.bytesStrRow (i := j + 5) rfl by_71 st_9 (dfile_row (b := b) hjl) (E rfl rfl)) ?_
        refine nl ?_
        refine AWP.one (i := 18) (by kernel_rfl) rfl ?_
        refine Y1 (Yv.buildS rfl sh_46 (evpC (E rfl rfl) (evpC (E rfl rfl) evp0)) (fun _ => rfl)) ?_
        refine nl ?_
        refine AWP.one (i := 19) (by kernel_rfl) rfl ?_
        refine AWL.buildSliceE rfl rfl (B rfl) rfl el_26 (B rfl) rfl (evsC (E rfl rfl) evs0) (Nat.le_of_ble_eq_true rfl) rfl rfl ?_
        refine nl ?_
        refine AWP.one (i := 20) (by kernel_rfl) rfl ?_
        refine AWL.appendRow (i := 0) rfl rfl (B rfl) rfl el_26 (B rfl) rfl (E rfl rfl) (SrcT.sl so_26 (B rfl) (E rfl rfl) (m := 1) rfl) (by unfold maxLen; omega) (by omega) (fun A34 c34 => ?_)
        refine nl ?_
        refine AWP.one (i := 21) (by kernel_rfl) rfl ?_
        refine Y1 (Yv.assign rfl eV) ?_
        refine nl ?_
        refine AWP.done (by kernel_rfl) ?_
        refine AW.region ?_
        refine Y1 (Yv.move rfl eV) ?_
        refine Y1 (Yv.addN_i64 rfl (E rfl rfl) (E rfl rfl) (fun hg => by omega)) ?_
        refine Y1 (Yv.assign rfl eV) ?_
        refine nl ?_
        refine ⟨j + 1, A34, c34, by omega, by omega, (Sub.cons rfl rfl (Sub.cons rfl rfl (Sub.cons rfl (by simp) Sub.nil))), ?_⟩
        rw [← fl_step hjl]
        rfl
       ·
        refine Y1 (Yv.bytesStrRow (i := j + 5) rfl by_71 st_9 (dfile_row (b := b) hjl) (E rfl rfl)) ?_
        refine nl ?_
        refine AWP.one (i := 8) (by kernel_rfl) rfl ?_
        refine Y1 (Yv.loadEp rfl ag_9 (i := 2) rfl (E rfl rfl) (fun hg => fnm_at (by omega))) ?_
        refine nl ?_
        refine AWP.one (i := 18) (by kernel_rfl) rfl ?_
        refine Y1 (Yv.buildS rfl sh_46 (evpC (E rfl rfl) (evpC (E rfl rfl) evp0)) (fun _ => rfl)) ?_
        refine nl ?_
        refine AWP.one (i := 19) (by kernel_rfl) rfl ?_
        refine AWL.buildSliceE rfl rfl (B rfl) rfl el_26 (B rfl) rfl (evsC (E rfl rfl) evs0) (Nat.le_of_ble_eq_true rfl) rfl rfl ?_
        refine nl ?_
        refine AWP.one (i := 20) (by kernel_rfl) rfl ?_
        refine AWL.appendRow (i := 0) rfl rfl (B rfl) rfl el_26 (B rfl) rfl (E rfl rfl) (SrcT.sl so_26 (B rfl) (E rfl rfl) (m := 1) rfl) (by unfold maxLen; omega) (by omega) (fun A34 c34 => ?_)
        refine nl ?_
        refine AWP.one (i := 21) (by kernel_rfl) rfl ?_
        refine Y1 (Yv.assign rfl eV) ?_
        refine nl ?_
        refine AWP.done (by kernel_rfl) ?_
        refine AW.region ?_
        refine Y1 (Yv.move rfl eV) ?_
        refine Y1 (Yv.addN_i64 rfl (E rfl rfl) (E rfl rfl) (fun hg => by omega)) ?_
        refine Y1 (Yv.assign rfl eV) ?_
        refine nl ?_
        refine ⟨j + 1, A34, c34, by omega, by omega, (Sub.cons rfl rfl (Sub.cons rfl rfl (Sub.cons rfl (by simp) Sub.nil))), ?_⟩
        rw [← fl_step hjl]
        rfl
    ·
     refine Y1 (Yv.loadBox rfl ag_79 (i := 1) rfl (E rfl rfl) rfl) ?_
     refine nl ?_
     refine AWP.take (i := 14) rfl (by kernel_rfl) (by kernel_rfl) (by kernel_rfl) rfl rfl (B rfl) (freeIdxRow (i := 2) rfl ss_79 rfl (E rfl rfl) (E rfl rfl) ⟨rfl, by omega⟩) ?_
     refine AWP.take (i := 15) rfl (by kernel_rfl) (by kernel_rfl) (by kernel_rfl) rfl rfl (B rfl) (freeFieldEp rfl fo_93_1 (E rfl rfl)) ?_
     refine AWP.two (i := 4) (j := 16) (by kernel_rfl) rfl rfl ?_ ?_
     ·
      refine Y1 (Yv.loadBox rfl ag_79 (i := 1) rfl (E rfl rfl) rfl) ?_
      refine nl ?_
      refine AWP.take (i := 6) rfl (by kernel_rfl) (by kernel_rfl) (by kernel_rfl) rfl rfl (B rfl) (freeIdxRow (i := 2) rfl ss_79 rfl (E rfl rfl) (E rfl rfl) ⟨rfl, by omega⟩) ?_
      refine AWP.take (i := 7) rfl (by kernel_rfl) (by kernel_rfl) (by kernel_rfl) rfl rfl (B rfl) (freeFieldEp rfl fo_93_0 (E rfl rfl)) ?_
      refine AWP.two (i := 8) (j := 16) (by kernel_rfl) rfl rfl ?_ ?_
      ·
       refine Y1 (Yv.loadEp rfl ag_9 (i := 2) rfl (E rfl rfl) (fun hg => fnm_at (by omega))) ?_
       refine nl ?_
       refine AWP.one (i := 16) (by kernel_rfl) rfl ?_
       refine Y1 (Yv.loadEp rfl ag_71 (i := 2) rfl (E rfl rfl) (fun hg => fby_at (by omega))) ?_
       refine nl ?_
       refine AWP.one (i := 17) (by kernel_rfl) rfl ?_
       refine Y1 (Yv.bytesStrRow (i := j + 5) rfl by_71 st_9 (dfile_row (b := b) hjl) (E rfl rfl)) ?_
       refine nl ?_
       refine AWP.one (i := 18) (by kernel_rfl) rfl ?_
       refine Y1 (Yv.buildS rfl sh_46 (evpC (E rfl rfl) (evpC (E rfl rfl) evp0)) (fun _ => rfl)) ?_
       refine nl ?_
       refine AWP.one (i := 19) (by kernel_rfl) rfl ?_
       refine AWL.buildSliceE rfl rfl (B rfl) rfl el_26 (B rfl) rfl (evsC (E rfl rfl) evs0) (Nat.le_of_ble_eq_true rfl) rfl rfl ?_
       refine nl ?_
       refine AWP.one (i := 20) (by kernel_rfl) rfl ?_
       refine AWL.appendRow (i := 0) rfl rfl (B rfl) rfl el_26 (B rfl) rfl (E rfl rfl) (SrcT.sl so_26 (B rfl) (E rfl rfl) (m := 1) rfl) (by unfold maxLen; omega) (by omega) (fun A34 c34 => ?_)
       refine nl ?_
       refine AWP.one (i := 21) (by kernel_rfl) rfl ?_
       refine Y1 (Yv.assign rfl eV) ?_
       refine nl ?_
       refine AWP.done (by kernel_rfl) ?_
       refine AW.region ?_
       refine Y1 (Yv.move rfl eV) ?_
       refine Y1 (Yv.addN_i64 rfl (E rfl rfl) (E rfl rfl) (fun hg => by omega)) ?_
       refine Y1 (Yv.assign rfl eV) ?_
       refine nl ?_
       refine ⟨j + 1, A34, c34, by omega, by omega, (Sub.cons rfl rfl (Sub.cons rfl rfl (Sub.cons rfl (by simp) Sub.nil))), ?_⟩
       rw [← fl_step hjl]
       rfl
      ·
       refine Y1 (Yv.loadEp rfl ag_71 (i := 2) rfl (E rfl rfl) (fun hg => fby_at (by omega))) ?_
       refine nl ?_
       refine AWP.two (i := 8) (j := 17) (by kernel_rfl) rfl rfl ?_ ?_
       ·
        refine Y1 (Yv.loadEp rfl ag_9 (i := 2) rfl (E rfl rfl) (fun hg => fnm_at (by omega))) ?_
        refine nl ?_
        refine AWP.one (i := 17) (by kernel_rfl) rfl ?_
        refine Y1 (Yv.bytesStrRow (i := j + 5) rfl by_71 st_9 (dfile_row (b := b) hjl) (E rfl rfl)) ?_
        refine nl ?_
        refine AWP.one (i := 18) (by kernel_rfl) rfl ?_
        refine Y1 (Yv.buildS rfl sh_46 (evpC (E rfl rfl) (evpC (E rfl rfl) evp0)) (fun _ => rfl)) ?_
        refine nl ?_
        refine AWP.one (i := 19) (by kernel_rfl) rfl ?_
        refine AWL.buildSliceE rfl rfl (B rfl) rfl el_26 (B rfl) rfl (evsC (E rfl rfl) evs0) (Nat.le_of_ble_eq_true rfl) rfl rfl ?_
        refine nl ?_
        refine AWP.one (i := 20) (by kernel_rfl) rfl ?_
        refine AWL.appendRow (i := 0) rfl rfl (B rfl) rfl el_26 (B rfl) rfl (E rfl rfl) (SrcT.sl so_26 (B rfl) (E rfl rfl) (m := 1) rfl) (by unfold maxLen; omega) (by omega) (fun A34 c34 => ?_)
        refine nl ?_
        refine AWP.one (i := 21) (by kernel_rfl) rfl ?_
        refine Y1 (Yv.assign rfl eV) ?_
        refine nl ?_
        refine AWP.done (by kernel_rfl) ?_
        refine AW.region ?_
        refine Y1 (Yv.move rfl eV) ?_
        refine Y1 (Yv.addN_i64 rfl (E rfl rfl) (E rfl rfl) (fun hg => by omega)) ?_
        refine Y1 (Yv.assign rfl eV) ?_
        refine nl ?_
        refine ⟨j + 1, A34, c34, by omega, by omega, (Sub.cons rfl rfl (Sub.cons rfl rfl (Sub.cons rfl (by simp) Sub.nil))), ?_⟩
        rw [← fl_step hjl]
        rfl
       ·
        refine Y1 (Yv.bytesStrRow (i := j + 5) rfl by_71 st_9 (dfile_row (b := b) hjl) (E rfl rfl)) ?_
        refine nl ?_
        refine AWP.one (i := 8) (by kernel_rfl) rfl ?_
        refine Y1 (Yv.loadEp rfl ag_9 (i := 2) rfl (E rfl rfl) (fun hg => fnm_at (by omega))) ?_
        refine nl ?_
        refine AWP.one (i := 18) (by kernel_rfl) rfl ?_
        refine Y1 (Yv.buildS rfl sh_46 (evpC (E rfl rfl) (evpC (E rfl rfl) evp0)) (fun _ => rfl)) ?_
        refine nl ?_
        refine AWP.one (i := 19) (by kernel_rfl) rfl ?_
        refine AWL.buildSliceE rfl rfl (B rfl) rfl el_26 (B rfl) rfl (evsC (E rfl rfl) evs0) (Nat.le_of_ble_eq_true rfl) rfl rfl ?_
        refine nl ?_
        refine AWP.one (i := 20) (by kernel_rfl) rfl ?_
        refine AWL.appendRow (i := 0) rfl rfl (B rfl) rfl el_26 (B rfl) rfl (E rfl rfl) (SrcT.sl so_26 (B rfl) (E rfl rfl) (m := 1) rfl) (by unfold maxLen; omega) (by omega) (fun A34 c34 => ?_)
        refine nl ?_
        refine AWP.one (i := 21) (by kernel_rfl) rfl ?_
        refine Y1 (Yv.assign rfl eV) ?_
        refine nl ?_
        refine AWP.done (by kernel_rfl) ?_
        refine AW.region ?_
        refine Y1 (Yv.move rfl eV) ?_
        refine Y1 (Yv.addN_i64 rfl (E rfl rfl) (E rfl rfl) (fun hg => by omega)) ?_
        refine Y1 (Yv.assign rfl eV) ?_
        refine nl ?_
        refine ⟨j + 1, A34, c34, by omega, by omega, (Sub.cons rfl rfl (Sub.cons rfl rfl (Sub.cons rfl (by simp) Sub.nil))), ?_⟩
        rw [← fl_step hjl]
        rfl
     ·
      refine Y1 (Yv.loadEp rfl ag_71 (i := 2) rfl (E rfl rfl) (fun hg => fby_at (by omega))) ?_
      refine nl ?_
      refine AWP.two (i := 4) (j := 17) (by kernel_rfl) rfl rfl ?_ ?_
      ·
       refine Y1 (Yv.loadBox rfl ag_79 (i := 1) rfl (E rfl rfl) rfl) ?_
       refine nl ?_
       refine AWP.take (i := 6) rfl (by kernel_rfl) (by kernel_rfl) (by kernel_rfl) rfl rfl (B rfl) (freeIdxRow (i := 2) rfl ss_79 rfl (E rfl rfl) (E rfl rfl) ⟨rfl, by omega⟩) ?_
       refine AWP.take (i := 7) rfl (by kernel_rfl) (by kernel_rfl) (by kernel_rfl) rfl rfl (B rfl) (freeFieldEp rfl fo_93_0 (E rfl rfl)) ?_
       refine AWP.two (i := 8) (j := 17) (by kernel_rfl) rfl rfl ?_ ?_
       ·
        refine Y1 (Yv.loadEp rfl ag_9 (i := 2) rfl (E rfl rfl) (fun hg => fnm_at (by omega))) ?_
        refine nl ?_
        refine AWP.one (i := 17) (by kernel_rfl) rfl ?_
        refine Y1 (Yv.bytesStrRow (i := j + 5) rfl by_71 st_9 (dfile_row (b := b) hjl) (E rfl rfl)) ?_
        refine nl ?_
        refine AWP.one (i := 18) (by kernel_rfl) rfl ?_
        refine Y1 (Yv.buildS rfl sh_46 (evpC (E rfl rfl) (evpC (E rfl rfl) evp0)) (fun _ => rfl)) ?_
        refine nl ?_
        refine AWP.one (i := 19) (by kernel_rfl) rfl ?_
        refine AWL.buildSliceE rfl rfl (B rfl) rfl el_26 (B rfl) rfl (evsC (E rfl rfl) evs0) (Nat.le_of_ble_eq_true rfl) rfl rfl ?_
        refine nl ?_
        refine AWP.one (i := 20) (by kernel_rfl) rfl ?_
        refine AWL.appendRow (i := 0) rfl rfl (B rfl) rfl el_26 (B rfl) rfl (E rfl rfl) (SrcT.sl so_26 (B rfl) (E rfl rfl) (m := 1) rfl) (by unfold maxLen; omega) (by omega) (fun A34 c34 => ?_)
        refine nl ?_
        refine AWP.one (i := 21) (by kernel_rfl) rfl ?_
        refine Y1 (Yv.assign rfl eV) ?_
        refine nl ?_
        refine AWP.done (by kernel_rfl) ?_
        refine AW.region ?_
        refine Y1 (Yv.move rfl eV) ?_
        refine Y1 (Yv.addN_i64 rfl (E rfl rfl) (E rfl rfl) (fun hg => by omega)) ?_
        refine Y1 (Yv.assign rfl eV) ?_
        refine nl ?_
        refine ⟨j + 1, A34, c34, by omega, by omega, (Sub.cons rfl rfl (Sub.cons rfl rfl (Sub.cons rfl (by simp) Sub.nil))), ?_⟩
        rw [← fl_step hjl]
        rfl
       ·
        refine Y1 (Yv.bytesStrRow (i := j + 5) rfl by_71 st_9 (dfile_row (b := b) hjl) (E rfl rfl)) ?_
        refine nl ?_
        refine AWP.one (i := 8) (by kernel_rfl) rfl ?_
        refine Y1 (Yv.loadEp rfl ag_9 (i := 2) rfl (E rfl rfl) (fun hg => fnm_at (by omega))) ?_
        refine nl ?_
        refine AWP.one (i := 18) (by kernel_rfl) rfl ?_
        refine Y1 (Yv.buildS rfl sh_46 (evpC (E rfl rfl) (evpC (E rfl rfl) evp0)) (fun _ => rfl)) ?_
        refine nl ?_
        refine AWP.one (i := 19) (by kernel_rfl) rfl ?_
        refine AWL.buildSliceE rfl rfl (B rfl) rfl el_26 (B rfl) rfl (evsC (E rfl rfl) evs0) (Nat.le_of_ble_eq_true rfl) rfl rfl ?_
        refine nl ?_
        refine AWP.one (i := 20) (by kernel_rfl) rfl ?_
        refine AWL.appendRow (i := 0) rfl rfl (B rfl) rfl el_26 (B rfl) rfl (E rfl rfl) (SrcT.sl so_26 (B rfl) (E rfl rfl) (m := 1) rfl) (by unfold maxLen; omega) (by omega) (fun A34 c34 => ?_)
        refine nl ?_
        refine AWP.one (i := 21) (by kernel_rfl) rfl ?_
        refine Y1 (Yv.assign rfl eV) ?_
        refine nl ?_
        refine AWP.done (by kernel_rfl) ?_
        refine AW.region ?_
        refine Y1 (Yv.move rfl eV) ?_
        refine Y1 (Yv.addN_i64 rfl (E rfl rfl) (E rfl rfl) (fun hg => by omega)) ?_
        refine Y1 (Yv.assign rfl eV) ?_
        refine nl ?_
        refine ⟨j + 1, A34, c34, by omega, by omega, (Sub.cons rfl rfl (Sub.cons rfl rfl (Sub.cons rfl (by simp) Sub.nil))), ?_⟩
        rw [← fl_step hjl]
        rfl
      ·
       refine Y1 (Yv.bytesStrRow (i := j + 5) rfl by_71 st_9 (dfile_row (b := b) hjl) (E rfl rfl)) ?_
       refine nl ?_
       refine AWP.one (i := 4) (by kernel_rfl) rfl ?_
       refine Y1 (Yv.loadBox rfl ag_79 (i := 1) rfl (E rfl rfl) rfl) ?_
       refine nl ?_
       refine AWP.one (i := 6) (by kernel_rfl) rfl ?_
       refine Y1 (Yv.indexRow rfl ss_79 (i := 2) rfl (E rfl rfl) (E rfl rfl) (fun hg => ⟨rfl, by omega⟩)) ?_
       refine nl ?_
       refine AWP.one (i := 7) (by kernel_rfl) rfl ?_
       refine Y1 (Yv.fieldEp rfl fo_93_0 (E rfl rfl)) ?_
       refine nl ?_
       refine AWP.one (i := 8) (by kernel_rfl) rfl ?_
       refine Y1 (Yv.loadEp rfl ag_9 (i := 2) rfl (E rfl rfl) (fun hg => fnm_at (by omega))) ?_
       refine nl ?_
       refine AWP.one (i := 18) (by kernel_rfl) rfl ?_
       refine Y1 (Yv.buildS rfl sh_46 (evpC (E rfl rfl) (evpC (E rfl rfl) evp0)) (fun _ => rfl)) ?_
       refine nl ?_
       refine AWP.one (i := 19) (by kernel_rfl) rfl ?_
       refine AWL.buildSliceE rfl rfl (B rfl) rfl el_26 (B rfl) rfl (evsC (E rfl rfl) evs0) (Nat.le_of_ble_eq_true rfl) rfl rfl ?_
       refine nl ?_
       refine AWP.one (i := 20) (by kernel_rfl) rfl ?_
       refine AWL.appendRow (i := 0) rfl rfl (B rfl) rfl el_26 (B rfl) rfl (E rfl rfl) (SrcT.sl so_26 (B rfl) (E rfl rfl) (m := 1) rfl) (by unfold maxLen; omega) (by omega) (fun A34 c34 => ?_)
       refine nl ?_
       refine AWP.one (i := 21) (by kernel_rfl) rfl ?_
       refine Y1 (Yv.assign rfl eV) ?_
       refine nl ?_
       refine AWP.done (by kernel_rfl) ?_
       refine AW.region ?_
       refine Y1 (Yv.move rfl eV) ?_
       refine Y1 (Yv.addN_i64 rfl (E rfl rfl) (E rfl rfl) (fun hg => by omega)) ?_
       refine Y1 (Yv.assign rfl eV) ?_
       refine nl ?_
       refine ⟨j + 1, A34, c34, by omega, by omega, (Sub.cons rfl rfl (Sub.cons rfl rfl (Sub.cons rfl (by simp) Sub.nil))), ?_⟩
       rw [← fl_step hjl]
       rfl
   try replace h0f := of_decide_eq_false h0f
   obtain rfl : j = ds.files.length := by omega
   rw [List.take_length]
   refine AW.exit ?_
   refine AW.rseq ?_
   refine Y1 (Yv.move rfl eV) ?_
   refine Y1 (Yv.assign rfl eV) ?_
   refine nl ?_
   refine AW.ret (retI (.tmp rfl .nil) ?_)
   exact ⟨A, c, rfl, rfl⟩

set_option maxHeartbeats 400000 in
theorem cloneEv31R (A : Option Addr) (n c : Nat) (cs : List T) (hl : cs.length = n * 3) (hn : n ≤ 1099511627776) :
    ACalls Try.prog 31 [.v (.slice A n c)] [.row A n c 36 3 cs] (fun t S => ∃ A' c', t = .v (.slice A' n c') ∧ S = [.row A n c 36 3 cs, .row A' n c' 36 3 cs]) := by
  refine ACalls.intro Try.func31 rfl Try.ntmps31 (Nat.le_of_ble_eq_true rfl) rfl fun X w0 => ?_
  refine AW.rseq ?_
  refine Y1 (Yv.assign rfl eV) ?_
  refine nl ?_
  refine AW.seq ?_
  refine AW.rowFact 0 rfl (fun hnone => ?_)
  refine AW.rseq ?_
  refine Y1 (Yv.move rfl eV) ?_
  refine Y1 (Yv.eqNilV rfl so_33 (E rfl rfl)) ?_
  refine nl ?_
  refine AW.cond rfl (fun h0t => ?_) (fun h0f => ?_)
  ·
   try replace h0t := of_decide_eq_true h0t
   refine AW.rseq ?_
   refine Y1 (Yv.assign rfl eV) ?_
   refine nl ?_
   obtain ⟨rfl, rfl, rfl⟩ := hnone (Option.isNone_iff_eq_none.1 h0t)
   refine AW.rowNil 36 3 ?_
   refine AW.ret (retI (.tmp rfl .nil) ?_)
   exact ⟨none, 0, rfl, rfl⟩
  try replace h0f := of_decide_eq_false h0f
  refine AW.skip ?_
  refine AW.rseq ?_
  refine AWL.buildSliceRow rfl rfl (B rfl) rfl el_33 (B rfl) rfl evs0 (Nat.le_of_ble_eq_true rfl) rfl rfl (fun A5 => ?_)
  refine Y1 (Yv.move rfl eV) ?_
  refine AWL.appendRow (i := 1) rfl rfl (B rfl) rfl el_33 (B rfl) rfl (E rfl rfl) (SrcT.row so_33 (i := 0) rfl (E rfl rfl)) (by unfold maxLen; omega) (by omega) (fun A7 c7 => ?_)
  refine Y1 (Yv.assign rfl eV) ?_
  refine nl ?_
  refine AW.ret (retI (.tmp rfl .nil) ?_)
  refine ⟨A7, c7, by rw [Nat.zero_add]; rfl, ?_⟩
  rw [Nat.zero_add]
  rfl

set_option maxHeartbeats 400000 in
theorem Trace14R (b m : Nat) (ws : WS) (n : Nat) (hw : WB n ws) (hn : n ≤ 1099511627776) :
    ACalls Try.prog 14 [wp b] (WSt b m ws) (fun t S => ∃ A c, t = .v (.slice A ws.trace.length c) ∧ S = .row A ws.trace.length c 36 3 (ws.trace.flatMap evCells) :: WSt b m ws) := by
  obtain ⟨ho, htr, htx, hfl, hpl, hsi⟩ := hw
  refine ACalls.intro Try.func14 rfl Try.ntmps14 (Nat.le_of_ble_eq_true rfl) rfl fun X w0 => ?_
  refine AW.rseq ?_
  refine Y1 (Yv.assign rfl eV) ?_
  refine nl ?_
  refine AW.seq ?_
  refine AW.rseq ?_
  refine Y1 (Yv.move rfl eV) ?_
  refine Y1 (Yv.eqlNilP rfl pn_24 (E rfl rfl)) ?_
  refine nl ?_
  refine AW.cond rfl (fun h0t => ?_) (fun h0f => ?_)
  ·
   try replace h0t := of_decide_eq_true h0t
   cases h0t
  try replace h0f := of_decide_eq_false h0f
  refine AW.skip ?_
  refine AW.rseq ?_
  refine Y1 (Yv.move rfl eV) ?_
  refine Y1 (Yv.nilChk rfl eV) ?_
  refine Y1 (Yv.fieldBox rfl fo_70_3 eV) ?_
  refine Y1 (Yv.loadBox rfl ag_33 (i := 0) rfl (E rfl rfl) (trace_at ho)) ?_
  refine AWL.callF rfl rfl (B rfl) rfl ce_31 (E rfl rfl) (evsC (E rfl rfl) evs0) (F1 := [.box b 70 (wCells m ws.stdin ws.opn ws.tA ws.trace.length ws.tc), .map m (ws.files.map fileKey)]) (S1 := [.row ws.tA ws.trace.length ws.tc 36 3 (ws.trace.flatMap evCells)]) (F2 := (ws.files.map fileRow)) rfl (cloneEv31R ws.tA ws.trace.length ws.tc _ len_ev (by omega)) ?_
  rintro t9 S9 ⟨A9, c9, rfl, rfl⟩
  refine Y1 (Yv.assign rfl eV) ?_
  refine nl ?_
  refine AW.perm (S' := .row A9 ws.trace.length c9 36 3 (ws.trace.flatMap evCells) :: WSt b m ws) (List.perm_middle (l₁ := ([.box b 70 (wCells m ws.stdin ws.opn ws.tA ws.trace.length ws.tc), .map m (ws.files.map fileKey), .row ws.tA ws.trace.length ws.tc 36 3 (ws.trace.flatMap evCells)] : St))).symm ?_
  refine AW.ret (retI (.tmp rfl .nil) ?_)
  exact ⟨_, _, rfl, rfl⟩

end Go.Proofs.Ytmiggpnkicdijaa

namespace Go.Proofs.Ytmiggpnkicdijaa
open Go Go.RowKit
set_option linter.unusedSimpArgs false
set_option linter.unusedVariables false
theorem bl_lt : ∀ a b : Nm, bl a b = true ↔ a < b
  | [], [] => by
    rw [bl_irrefl]
    simp
  | [], y :: b => by
    exact ⟨fun _ => List.Lex.nil, fun _ => rfl⟩
  | x :: a, [] => by
    exact ⟨fun h => (by cases h), fun h => absurd h (List.not_lt_nil _)⟩
  | x :: a, y :: b => by
    show (decide (x < y) || ((x == y) && bl a b)) = true ↔ _
    rw [Bool.or_eq_true, Bool.and_eq_true, decide_eq_true_eq, beq_iff_eq, bl_lt a b, List.cons_lt_cons_iff]
def bytesOf (p : PW) (x : Nm) : List UInt8 := (getP x p.files).getD []
def srtN (ss : List Nm) : List Nm := ss.mergeSort (fun x y => decide (x ≤ y))
theorem srtN_perm (ss : List Nm) : (srtN ss).Perm ss := List.mergeSort_perm _ _
theorem srtN_len (ss : List Nm) : (srtN ss).length = ss.length := (srtN_perm ss).length_eq
theorem le_tr (a b c : Nm) (h1 : decide (a ≤ b) = true) (h2 : decide (b ≤ c) = true) : decide (a ≤ c) = true := by
  rw [decide_eq_true_eq] at *
  exact List.le_trans h1 h2
theorem le_tot (a b : Nm) : (decide (a ≤ b) || decide (b ≤ a)) = true := by
  rw [Bool.or_eq_true, decide_eq_true_eq, decide_eq_true_eq]
  exact List.le_total a b
theorem srtN_srt {ss : List Nm} (hn : ss.Nodup) : (srtN ss).Pairwise (fun a b => bl a b = true) := by
  have h1 : (srtN ss).Pairwise (fun a b => decide (a ≤ b) = true) := List.pairwise_mergeSort le_tr le_tot ss
  have h2 : (srtN ss).Nodup := (srtN_perm ss).nodup_iff.2 hn
  refine (h1.and h2).imp fun {a b} h => ?_
  rw [bl_lt]
  have h3 : a ≤ b := of_decide_eq_true h.1
  rcases hb : bl a b with _ | _
  · exfalso
    rcases bl_not hb with q | q
    · exact h.2 q
    · rw [bl_lt] at q
      exact h3 q
  · exact (bl_lt a b).1 hb
/-- The files, in the order of their names. -/
def filesS (p : PW) (ss : List Nm) : Fl := (srtN ss).map fun x => (x, bytesOf p x)
theorem filesS_srt {p : PW} {ss : List Nm} (hn : ss.Nodup) : Srt (filesS p ss) := by
  unfold Srt filesS
  rw [List.pairwise_map]
  exact srtN_srt hn
theorem filesS_perm {p : PW} {ss : List Nm} (hd : (p.files.map (·.1)).Nodup) (hp : ss.Perm (p.files.map (·.1))) : (filesS p ss).Perm p.files := by
  have e : (p.files.map (·.1)).map (fun x => (x, bytesOf p x)) = p.files := by
    rw [List.map_map]
    conv => rhs; rw [← List.map_id p.files]
    apply List.map_congr_left
    intro x hx
    show (x.1, bytesOf p x.1) = x
    unfold bytesOf
    rw [mem_getP (b := x.2) hd hx]
    rfl
  unfold filesS
  have h := (((srtN_perm ss).trans hp).map fun x => (x, bytesOf p x))
  rw [e] at h
  exact h
theorem nm_at {l : List Nm} {j : Nat} (h : j < l.length) : (l.map sv)[j * 1]? = some (sv (l.getD j [])) := by
  rw [Nat.mul_one, List.getElem?_map, List.getElem?_eq_getElem h, List.getD_eq_getElem?_getD, List.getElem?_eq_getElem h]
  rfl
theorem fs_step {p : PW} {l : List Nm} {j : Nat} (h : j < l.length) : ((l.take j).map fun x => (x, bytesOf p x)).flatMap fCells ++ [sv (l.getD j []), sv (bytesOf p (l.getD j []))] = ((l.take (j + 1)).map fun x => (x, bytesOf p x)).flatMap fCells := by
  rw [List.take_succ_eq_append_getElem h, List.map_append, List.flatMap_append, List.getD_eq_getElem?_getD, List.getElem?_eq_getElem h]
  rfl
end Go.Proofs.Ytmiggpnkicdijaa

namespace Go.Proofs.Ytmiggpnkicdijaa
open Go Go.RowKit
set_option linter.unusedVariables false
set_option linter.unnecessarySimpa false
set_option linter.unusedSimpArgs false

set_option maxHeartbeats 4000000 in
theorem rFiles48 (b m : Nat) (ws : WS) (n : Nat) (hr : RP n (absW ws)) (hn : n ≤ 549755813888) :
    ACalls Try.prog 48 [wp b] (WSt b m ws) (fun t S => ∃ (A : Option Addr) (c : Nat) (fs : Fl), t = .v (.slice A fs.length c) ∧ Srt fs ∧ fs.Perm (absW ws).files ∧ S = .row A fs.length c 46 2 (fs.flatMap fCells) :: WSt b m ws) := by
  have hnf : ws.files.length ≤ n := by have h := hr.pb.nf; unfold absW at h; rwa [List.length_map] at h
  have hu := hr.uq
  have hkn : (ws.files.map fileKey).map (fun e => keyS e.1) = (absW ws).files.map (·.1) := by unfold absW; rw [List.map_map, List.map_map]; rfl
  refine ACalls.intro Try.func48 rfl Try.ntmps48 (Nat.le_of_ble_eq_true rfl) rfl fun X w0 => ?_
  refine AW.rseq ?_
  refine Y1 (Yv.assign rfl eV) ?_
  refine nl ?_
  refine AW.seq ?_
  refine AW.rseq ?_
  refine Y1 (Yv.move rfl eV) ?_
  refine Y1 (Yv.eqlNilP rfl pn_24 (E rfl rfl)) ?_
  refine nl ?_
  refine AW.cond rfl (fun h0t => ?_) (fun h0f => ?_)
  ·
   try replace h0t := of_decide_eq_true h0t
   cases h0t
  try replace h0f := of_decide_eq_false h0f
  refine AW.skip ?_
  refine AW.rseq ?_
  refine Y1 (Yv.assign rfl eV) ?_
  refine nl ?_
  refine AW.seq ?_
  refine AW.rseq ?_
  refine Y1 (Yv.move rfl eV) ?_
  refine Y1 (Yv.nilChk rfl eV) ?_
  refine Y1 (Yv.fieldBox rfl fo_70_0 eV) ?_
  refine Y1 (Yv.loadBox rfl ag_64 (i := 0) rfl (E rfl rfl) rfl) ?_
  refine C1 rfl ce_59 (E rfl rfl) (evsC (E rfl rfl) evs0) (S1 := []) (S2 := _) rfl (mapsKeys59 m) ?_
  rintro t12 S12 ⟨h, rfl, rfl⟩
  refine AWL.perm (S' := .box b 70 (wCells m ws.stdin ws.opn ws.tA ws.trace.length ws.tc) :: .box h 64 [.v (.map (some m))] :: .map m (ws.files.map fileKey) :: .row ws.tA ws.trace.length ws.tc 36 3 (ws.trace.flatMap evCells) :: ws.files.map fileRow) (List.Perm.swap _ _ _) ?_
  refine AWL.callF rfl rfl (B rfl) rfl ce_58 (E rfl rfl) (evsC (E rfl rfl) evs0) (F1 := [.box b 70 (wCells m ws.stdin ws.opn ws.tA ws.trace.length ws.tc)]) (S1 := [.box h 64 [.v (.map (some m))], .map m (ws.files.map fileKey)]) (F2 := (.row ws.tA ws.trace.length ws.tc 36 3 (ws.trace.flatMap evCells) :: ws.files.map fileRow)) rfl (sorted58 h m (ws.files.map fileKey) (fun e he => by
    obtain ⟨f, _, rfl⟩ := List.mem_map.1 he
    exact ⟨_, rfl⟩) (fun e he => by
    obtain ⟨f, hf, rfl⟩ := List.mem_map.1 he
    exact Nat.le_trans (hr.ns (nb f) (List.mem_map_of_mem hf)) (by unfold maxLen; decide)) (by rw [List.length_map]; omega) (by rw [hkn]; exact hr.nd)) ?_
  rintro t13 S13 ⟨A13, c13, ss, hss, rfl, rfl⟩
  rw [hkn] at hss
  have hsl : ss.length = ws.files.length := by
    have h := hss.length_eq
    rw [List.length_map] at h
    unfold absW at h
    rwa [List.length_map] at h
  have hsn : ss.Nodup := hss.nodup_iff.2 hr.nd
  have hsr := srtN_len ss
  refine Y1 (Yv.lenV rfl so_22 (E rfl rfl)) ?_
  refine Y1 (Yv.move rfl eV) ?_
  refine nl ?_
  refine AW.dropAt 1 ?_
  refine AW.perm (S' := .row A13 ss.length c13 9 1 ((srtN ss).map sv) :: WSt b m ws) (List.perm_middle (l₁ := ([.box b 70 (wCells m ws.stdin ws.opn ws.tA ws.trace.length ws.tc), .map m (ws.files.map fileKey)] : St))).symm ?_
  refine AW.rowNil 46 2 ?_
  refine AW.perm (List.perm_append_singleton _ _).symm ?_
  refine AW.block ?_
  refine AW.loop3 (fun (j : Nat) (A : Option Addr) (c : Nat) => [(0, true, wp b), (3, true, .v (.slice A j c)), (13, true, .v (.slice A13 ss.length c13)), (14, true, .v (.int .i64 (ss.length : Int))), (15, true, .v (.int .i64 (j : Int)))]) (fun (j : Nat) (A : Option Addr) (c : Nat) => (.row A j c 46 2 ((((srtN ss).take j).map fun x => (x, bytesOf (absW ws) x)).flatMap fCells) :: .row A13 ss.length c13 9 1 ((srtN ss).map sv) :: WSt b m ws)) (fun (j : Nat) (A : Option Addr) (c : Nat) => j ≤ ss.length) (fun (j : Nat) (A : Option Addr) (c : Nat) => ss.length - j) 0 none 0 ?_ ?_ ?_ ?_
  · exact Nat.zero_le _
  · exact (Sub.cons rfl rfl (Sub.cons rfl rfl (Sub.cons rfl rfl (Sub.cons rfl rfl (Sub.cons rfl rfl Sub.nil)))))
  · rfl
  ·
   intro j A c hinv
   refine AW.rseq ?_
   refine Y1 (Yv.lss rfl eV eV) ?_
   refine nl ?_
   refine AW.seq ?_
   refine AW.cond rfl (fun h1t => ?_) (fun h1f => ?_)
   ·
    try replace h1t := of_decide_eq_true h1t
    have hjl : j < (srtN ss).length := by omega
    have hmem : ((srtN ss).getD j []) ∈ (absW ws).files.map (·.1) := by
      refine hss.subset ((srtN_perm ss).subset ?_)
      rw [List.getD_eq_getElem?_getD, List.getElem?_eq_getElem hjl]
      exact List.getElem_mem _
    obtain ⟨q, hq, hqn⟩ : ∃ q, q < ws.files.length ∧ (ws.files.getD q default).name = ((srtN ss).getD j []) := by
      obtain ⟨x, hx, hxn⟩ := List.mem_map.1 hmem
      obtain ⟨f, hf, rfl⟩ := List.mem_map.1 (show x ∈ ws.files.map nb from hx)
      obtain ⟨q, hq, rfl⟩ := List.mem_iff_getElem.1 hf
      exact ⟨q, hq, by rw [getD_eq' hq]; exact hxn⟩
    have hbo : bytesOf (absW ws) ((srtN ss).getD j []) = (ws.files.getD q default).bytes := by
      unfold bytesOf
      rw [mem_getP (b := (ws.files.getD q default).bytes) hr.nd (by
        have h1 : nb (ws.files.getD q default) ∈ ws.files.map nb := List.mem_map_of_mem (getD_mem' hq)
        unfold nb at h1
        rw [hqn] at h1
        exact h1)]
      rfl
    refine AW.skip ?_
    refine AW.seq ?_
    refine AW.block ?_
    refine AW.rseq ?_
    refine Y1 (Yv.indexRow rfl ss_22 (i := 1) rfl (E rfl rfl) (E rfl rfl) (fun hg => ⟨rfl, by omega⟩)) ?_
    refine Y1 (Yv.loadEp rfl ag_9 (i := 1) rfl (E rfl rfl) (fun hg => nm_at (by omega))) ?_
    refine Y1 (Yv.assign rfl eV) ?_
    refine nl ?_
    refine AW.region ?_
    refine Y1 (Yv.move rfl eV) ?_
    refine Y1 (Yv.move rfl eV) ?_
    refine Y1 (Yv.move rfl eV) ?_
    refine Y1 (Yv.nilChk rfl eV) ?_
    refine Y1 (Yv.fieldBox rfl fo_70_0 eV) ?_
    refine Y1 (Yv.loadBox rfl ag_64 (i := 2) rfl (E rfl rfl) rfl) ?_
    refine Y1 (Yv.move rfl eV) ?_
    refine Y1 (Yv.eqT (t' := .v (.slice (ws.files.getD q default).A (ws.files.getD q default).bytes.length (ws.files.getD q default).c)) (Yv.lookup1 (k := .s _) (i := 3) rfl mp_64 rfl (E rfl rfl) (E rfl rfl) rfl (files_good _)) (by rw [← hqn, get_file hu hq]; rfl)) ?_
    refine Y1 (Yv.bytesStrRow (i := q + 5) rfl by_71 st_9 (file_row (b := b) (m := m) hq) (E rfl rfl)) ?_
    refine Y1 (Yv.buildS rfl sh_46 (evpC (E rfl rfl) (evpC (E rfl rfl) evp0)) (fun _ => rfl)) ?_
    refine AWL.buildSliceE rfl rfl (B rfl) rfl el_26 (B rfl) rfl (evsC (E rfl rfl) evs0) (Nat.le_of_ble_eq_true rfl) rfl rfl ?_
    refine AWL.appendRow (i := 0) rfl rfl (B rfl) rfl el_26 (B rfl) rfl (E rfl rfl) (SrcT.sl so_26 (B rfl) (E rfl rfl) (m := 1) rfl) (by unfold maxLen; omega) (by omega) (fun A30 c30 => ?_)
    refine Y1 (Yv.assign rfl eV) ?_
    refine nl ?_
    refine AW.region ?_
    refine Y1 (Yv.addN_i64 rfl (E rfl rfl) (E rfl rfl) (fun hg => by omega)) ?_
    refine Y1 (Yv.move rfl eV) ?_
    refine nl ?_
    refine ⟨j + 1, A30, c30, by omega, by omega, (Sub.cons rfl rfl (Sub.cons rfl rfl (Sub.cons rfl rfl (Sub.cons rfl rfl (Sub.cons rfl (by simp) Sub.nil))))), ?_⟩
    rw [← fs_step (by omega), hbo]
    rfl
   try replace h1f := of_decide_eq_false h1f
   obtain rfl : j = ss.length := by omega
   rw [← hsr, List.take_length]
   refine AW.dropAt 1 ?_
   refine AW.exit ?_
   refine AW.rseq ?_
   refine Y1 (Yv.move rfl eV) ?_
   refine Y1 (Yv.assign rfl eV) ?_
   refine nl ?_
   refine AW.ret (retI (.tmp rfl .nil) ?_)
   refine ⟨A, c, filesS (absW ws) ss, ?_, filesS_srt hsn, filesS_perm hr.nd hss, ?_⟩
   · unfold filesS; rw [List.length_map]; rfl
   · unfold filesS; rw [List.length_map]; rfl

end Go.Proofs.Ytmiggpnkicdijaa

namespace Go.Proofs.Ytmiggpnkicdijaa
open Go Go.RowKit
set_option linter.unusedVariables false
set_option linter.unnecessarySimpa false
set_option linter.unusedSimpArgs false

set_option maxHeartbeats 8000000 in
theorem whole23 (b m : Nat) (ws : WS) (b2 : Nat) (ds : DS) (n : Nat) (hb : Both n ws ds) (hn : n ≤ 549755813888) :
    ACalls Try.prog 23 [wp b, wp b2] (WSt b m ws ++ DSt b2 ds) (fun t S => t = .v (.bool true) ∧ S = WSt b m ws ++ DSt b2 ds) := by
  have htr : ws.trace = ds.trace := hb.s.trace.symm
  have htl : ws.trace.length ≤ n := hb.r.pb.tr
  have htd : ds.trace.length ≤ n := by rw [← htr]; exact htl
  have hdn := nfl_of hb.pd
  refine ACalls.intro Try.func23 rfl Try.ntmps23 (Nat.le_of_ble_eq_true rfl) rfl fun X w0 => ?_
  refine AW.rseq ?_
  refine Y1 (Yv.assign rfl eV) ?_
  refine nl ?_
  refine AW.perm List.perm_append_comm ?_
  refine AW.rseq ?_
  refine Y1 (Yv.move rfl eV) ?_
  refine AWL.callE rfl rfl (B rfl) rfl ce_14 (E rfl rfl) (evsC (E rfl rfl) evs0) (F1 := (DSt b2 ds)) (S1 := (WSt b m ws)) rfl (Trace14R b m ws n hb.r.wb (by omega)) ?_
  rintro t10 S10 ⟨A10, c10, rfl, rfl⟩
  refine AWL.perm (S' := .row A10 ws.trace.length c10 36 3 (ws.trace.flatMap evCells) :: (DSt b2 ds ++ WSt b m ws)) List.perm_middle.symm ?_
  refine Y1 (Yv.assign rfl eV) ?_
  refine nl ?_
  refine AW.rseq ?_
  refine Y1 (Yv.move rfl eV) ?_
  refine AWL.callE rfl rfl (B rfl) rfl ce_48 (E rfl rfl) (evsC (E rfl rfl) evs0) (F1 := (.row A10 ws.trace.length c10 36 3 (ws.trace.flatMap evCells) :: DSt b2 ds)) (S1 := (WSt b m ws)) rfl (rFiles48 b m ws n hb.r hn) ?_
  rintro t12 S12 ⟨A12, c12, fs, rfl, hsr, hpm, rfl⟩
  refine AWL.perm (S' := .row A12 fs.length c12 46 2 (fs.flatMap fCells) :: .row A10 ws.trace.length c10 36 3 (ws.trace.flatMap evCells) :: (DSt b2 ds ++ WSt b m ws)) (List.perm_middle (l₁ := (.row A10 ws.trace.length c10 36 3 (ws.trace.flatMap evCells) :: DSt b2 ds : St))).symm ?_
  have hfe : fs = ds.files.map nb := srt_perm hsr hb.s.srt (hpm.trans hb.s.files)
  have hfn : fs.length ≤ n := by rw [hpm.length_eq]; exact hb.r.pb.nf
  refine Y1 (Yv.assign rfl eV) ?_
  refine nl ?_
  refine AW.seq ?_
  refine AW.rseq ?_
  refine Y1 (Yv.move rfl eV) ?_
  refine Y1 (Yv.move rfl eV) ?_
  refine Y1 (Yv.nilChk rfl eV) ?_
  refine Y1 (Yv.fieldBox rfl fo_82_3 eV) ?_
  refine Y1 (Yv.loadBox rfl ag_33 (i := 2) rfl (E rfl rfl) rfl) ?_
  refine AWL.callKP rfl rfl (B rfl) rfl ce_49 (E rfl rfl) (evsC (E rfl rfl) (evsC (E rfl rfl) evs0)) (S1 := [.row A10 ws.trace.length c10 36 3 (ws.trace.flatMap evCells), .row ds.tA ds.trace.length ds.tc 36 3 (ds.trace.flatMap evCells)]) (S2 := (.row A12 fs.length c12 46 2 (fs.flatMap fCells) :: .box b2 82 (dCells ds) :: .row ds.lA ds.files.length ds.lc 93 2 (ds.files.flatMap fileCells) :: .row ds.dA ds.opn.length ds.dc 86 3 (ds.opn.flatMap descCells) :: (ds.files.map fileRow ++ WSt b m ws))) ((List.perm_middle (l₁ := ([.row A12 fs.length c12 46 2 (fs.flatMap fCells), .row A10 ws.trace.length c10 36 3 (ws.trace.flatMap evCells), .box b2 82 (dCells ds), .row ds.lA ds.files.length ds.lc 93 2 (ds.files.flatMap fileCells), .row ds.dA ds.opn.length ds.dc 86 3 (ds.opn.flatMap descCells)] : St))).trans (((List.Perm.swap _ _ _).cons _).trans (List.Perm.swap _ _ _))) (Same49 ws.trace ds.trace A10 ds.tA c10 ds.tc (by omega) (by omega)) (fun t S h => h) ?_
  rw [decide_eq_true htr]
  refine Y1 (Yv.not rfl eV) ?_
  refine Y1 (Yv.move rfl eV) ?_
  refine AWL.unguard rfl rfl rfl (by simp) ?_
  refine Y1 (Yv.move rfl eV) ?_
  refine AWL.unguard rfl rfl rfl (by simp) ?_
  refine Y1 (Yv.move rfl eV) ?_
  refine AWL.unguard rfl rfl rfl (by simp) ?_
  refine AWL.callF rfl rfl (B rfl) rfl ce_51 (E rfl rfl) (evsC (E rfl rfl) evs0) (F1 := [.row A12 fs.length c12 46 2 (fs.flatMap fCells), .row A10 ws.trace.length c10 36 3 (ws.trace.flatMap evCells)]) (S1 := (DSt b2 ds)) (F2 := (WSt b m ws)) rfl (DFiles51 b2 ds n hb.pd (by omega)) ?_
  rintro t23 S23 ⟨A23, c23, rfl, rfl⟩
  refine AWL.unguard rfl rfl rfl (by simp) ?_
  refine AWL.callKP rfl rfl (B rfl) rfl ce_50 (E rfl rfl) (evsC (E rfl rfl) (evsC (E rfl rfl) evs0)) (S1 := [.row A12 fs.length c12 46 2 (fs.flatMap fCells), .row A23 ds.files.length c23 46 2 ((ds.files.map nb).flatMap fCells)]) (S2 := (.row A10 ws.trace.length c10 36 3 (ws.trace.flatMap evCells) :: (DSt b2 ds ++ WSt b m ws))) ((List.Perm.swap _ _ _).cons _) (by
    have h := files50 fs (ds.files.map nb) A12 A23 c12 c23 (by omega) (by rw [List.length_map]; omega)
    rw [List.length_map] at h
    exact h) (fun t S h => h) ?_
  rw [decide_eq_true hfe]
  refine AWL.unguard rfl rfl rfl (by simp) ?_
  refine Y1 (Yv.not rfl eV) ?_
  refine Y1 (Yv.pickOr (t := .const (.bool true)) rfl (E rfl rfl) (E rfl rfl)) ?_
  refine nl ?_
  refine AW.dropAt 2 ?_
  refine AW.cond rfl (fun h0t => ?_) (fun h0f => ?_)
  ·
   try replace h0t := of_decide_eq_true h0t
   exact absurd h0t (by decide)
  try replace h0f := of_decide_eq_false h0f
  refine AW.skip ?_
  refine AW.seq ?_
  refine AW.rseq ?_
  refine Y1 (Yv.assign rfl eV) ?_
  refine nl ?_
  refine AW.block ?_
  refine AW.loop2 (fun (i : Nat) (cs : List T) => [(0, true, wp b), (1, true, wp b2), (5, true, .v (.slice A10 ws.trace.length c10)), (6, true, .v (.slice A12 fs.length c12)), (7, true, .v (.int .i64 (i : Int)))]) (fun (i : Nat) (cs : List T) => (.row A12 fs.length c12 46 2 (fs.flatMap fCells) :: .row A10 ws.trace.length c10 36 3 cs :: (DSt b2 ds ++ WSt b m ws))) (fun (i : Nat) (cs : List T) => i ≤ ws.trace.length ∧ cs.length = ws.trace.length * 3) (fun (i : Nat) (cs : List T) => ws.trace.length - i) 0 ((ws.trace.flatMap evCells)) ?_ ?_ ?_ ?_
  · exact ⟨Nat.zero_le _, len_ev⟩
  · exact (Sub.cons rfl rfl (Sub.cons rfl rfl (Sub.cons rfl rfl (Sub.cons rfl rfl (Sub.cons rfl rfl Sub.nil)))))
  · rfl
  ·
   intro i cs hinv
   obtain ⟨hi, hcl⟩ := hinv
   refine AW.seq ?_
   refine AW.rseq ?_
   refine Y1 (Yv.move rfl eV) ?_
   refine Y1 (Yv.move rfl eV) ?_
   refine Y1 (Yv.lenV rfl so_33 (E rfl rfl)) ?_
   refine Y1 (Yv.lss rfl eV eV) ?_
   refine nl ?_
   refine AW.cond rfl (fun h1t => ?_) (fun h1f => ?_)
   ·
    try replace h1t := of_decide_eq_true h1t
    refine AW.skip ?_
    refine AW.seq ?_
    refine AW.block ?_
    refine AW.region ?_
    refine Y1 (Yv.move rfl eV) ?_
    refine Y1 (Yv.move rfl eV) ?_
    refine Y1 (Yv.buildS rfl sh_36 (evpC (E rfl rfl) (evpC (E rfl rfl) evp0)) (fun _ => rfl)) ?_
    refine Y1 (Yv.indexRow (j := i) rfl ss_33 (i := 1) rfl (E rfl rfl) (E rfl rfl) (fun hg => by first | exact ⟨by omega, by omega⟩ | (simp only [Bool.or_eq_true, Bool.and_eq_true, Bool.or_eq_false_iff, Bool.and_eq_false_iff, Bool.not_eq_true', Bool.not_eq_false', decide_eq_true_eq, decide_eq_false_iff_not, Decidable.not_not] at hg; exact ⟨by omega, by omega⟩))) ?_
    refine AWL.storeEp (i := 1) (m := 3) rfl rfl rfl ag_36 rfl (E rfl rfl) (E rfl rfl) rfl rfl (by decide) (by omega) ?_
    refine nl ?_
    refine AW.region ?_
    refine Y1 (Yv.move rfl eV) ?_
    refine Y1 (Yv.addN_i64 rfl (E rfl rfl) (E rfl rfl) (fun hg => by omega)) ?_
    refine Y1 (Yv.assign rfl eV) ?_
    refine nl ?_
    refine ⟨i + 1, _, ⟨by omega, ?_⟩, by omega, (Sub.cons rfl rfl (Sub.cons rfl rfl (Sub.cons rfl rfl (Sub.cons rfl rfl (Sub.cons rfl (by simp) Sub.nil))))), rfl⟩
    simp only [List.length_append, List.length_take, List.length_drop]
    show _ + 3 + _ = _
    omega
   try replace h1f := of_decide_eq_false h1f
   refine AW.exit ?_
   refine AW.seq ?_
   refine AW.rseq ?_
   refine Y1 (Yv.assign rfl eV) ?_
   refine nl ?_
   refine AW.block ?_
   refine AW.loop2 (fun (i : Nat) (cs2 : List T) => [(0, true, wp b), (1, true, wp b2), (5, true, .v (.slice A10 ws.trace.length c10)), (6, true, .v (.slice A12 fs.length c12)), (8, true, .v (.int .i64 (i : Int)))]) (fun (i : Nat) (cs2 : List T) => (.row A12 fs.length c12 46 2 cs2 :: .row A10 ws.trace.length c10 36 3 cs :: (DSt b2 ds ++ WSt b m ws))) (fun (i : Nat) (cs2 : List T) => i ≤ fs.length ∧ cs2.length = fs.length * 2) (fun (i : Nat) (cs2 : List T) => fs.length - i) 0 ((fs.flatMap fCells)) ?_ ?_ ?_ ?_
   · exact ⟨Nat.zero_le _, len_fc⟩
   · exact (Sub.cons rfl rfl (Sub.cons rfl rfl (Sub.cons rfl rfl (Sub.cons rfl rfl (Sub.cons rfl rfl Sub.nil)))))
   · rfl
   ·
    intro i cs2 hin2
    obtain ⟨hi2, hcl2⟩ := hin2
    refine AW.seq ?_
    refine AW.rseq ?_
    refine Y1 (Yv.move rfl eV) ?_
    refine Y1 (Yv.move rfl eV) ?_
    refine Y1 (Yv.lenV rfl so_26 (E rfl rfl)) ?_
    refine Y1 (Yv.lss rfl eV eV) ?_
    refine nl ?_
    refine AW.cond rfl (fun h2t => ?_) (fun h2f => ?_)
    ·
     try replace h2t := of_decide_eq_true h2t
     refine AW.skip ?_
     refine AW.seq ?_
     refine AW.block ?_
     refine AW.region ?_
     refine Y1 (Yv.move rfl eV) ?_
     refine Y1 (Yv.move rfl eV) ?_
     refine Y1 (Yv.buildS rfl sh_46 (evpC (E rfl rfl) evp0) (fun _ => rfl)) ?_
     refine Y1 (Yv.indexRow (j := i) rfl ss_26 (i := 0) rfl (E rfl rfl) (E rfl rfl) (fun hg => by first | exact ⟨by omega, by omega⟩ | (simp only [Bool.or_eq_true, Bool.and_eq_true, Bool.or_eq_false_iff, Bool.and_eq_false_iff, Bool.not_eq_true', Bool.not_eq_false', decide_eq_true_eq, decide_eq_false_iff_not, Decidable.not_not] at hg; exact ⟨by omega, by omega⟩))) ?_
     refine AWL.storeEp (i := 0) (m := 2) rfl rfl rfl ag_46 rfl (E rfl rfl) (E rfl rfl) rfl rfl (by decide) (by omega) ?_
     refine nl ?_
     refine AW.region ?_
     refine Y1 (Yv.move rfl eV) ?_
     refine Y1 (Yv.addN_i64 rfl (E rfl rfl) (E rfl rfl) (fun hg => by omega)) ?_
     refine Y1 (Yv.assign rfl eV) ?_
     refine nl ?_
     refine ⟨i + 1, _, ⟨by omega, ?_⟩, by omega, (Sub.cons rfl rfl (Sub.cons rfl rfl (Sub.cons rfl rfl (Sub.cons rfl rfl (Sub.cons rfl (by simp) Sub.nil))))), rfl⟩
     simp only [List.length_append, List.length_take, List.length_drop]
     show _ + 2 + _ = _
     omega
    try replace h2f := of_decide_eq_false h2f
    refine AW.exit ?_
    refine AW.dropAt 0 ?_
    refine AW.dropAt 0 ?_
    refine AW.rseqP rfl ?_
    refine AWP.take (i := 0) rfl (by kernel_rfl) (by kernel_rfl) (by kernel_rfl) rfl rfl (B rfl) (freeMove rfl (E rfl rfl)) ?_
    refine AWP.take (i := 2) rfl (by kernel_rfl) (by kernel_rfl) (by kernel_rfl) rfl rfl (B rfl) (freeMove rfl (E rfl rfl)) ?_
    refine AWP.take (i := 3) rfl (by kernel_rfl) (by kernel_rfl) (by kernel_rfl) rfl rfl (B rfl) (freeNil rfl (E rfl rfl)) ?_
    refine AWP.take (i := 4) rfl (by kernel_rfl) (by kernel_rfl) (by kernel_rfl) rfl rfl (B rfl) (freeField rfl fo_82_3 (E rfl rfl)) ?_
    refine AWP.two (i := 1) (j := 5) (by kernel_rfl) rfl rfl ?_ ?_
    ·
     refine AWL.callE rfl rfl (B rfl) rfl ce_14 (E rfl rfl) (evsC (E rfl rfl) evs0) (F1 := (DSt b2 ds)) (S1 := (WSt b m ws)) rfl (Trace14R b m ws n hb.r.wb (by omega)) ?_
     rintro t48 S48 ⟨A48, c48, rfl, rfl⟩
     refine AWL.perm (S' := .row A48 ws.trace.length c48 36 3 (ws.trace.flatMap evCells) :: (DSt b2 ds ++ WSt b m ws)) List.perm_middle.symm ?_
     refine nl ?_
     refine AWP.one (i := 5) (by kernel_rfl) rfl ?_
     refine Y1 (Yv.loadBox rfl ag_33 (i := 1) rfl (E rfl rfl) rfl) ?_
     refine nl ?_
     refine AWP.one (i := 6) (by kernel_rfl) rfl ?_
     refine AWL.callKP rfl rfl (B rfl) rfl ce_49 (E rfl rfl) (evsC (E rfl rfl) (evsC (E rfl rfl) evs0)) (S1 := [.row A48 ws.trace.length c48 36 3 (ws.trace.flatMap evCells), .row ds.tA ds.trace.length ds.tc 36 3 (ds.trace.flatMap evCells)]) (S2 := (.box b2 82 (dCells ds) :: .row ds.lA ds.files.length ds.lc 93 2 (ds.files.flatMap fileCells) :: .row ds.dA ds.opn.length ds.dc 86 3 (ds.opn.flatMap descCells) :: (ds.files.map fileRow ++ WSt b m ws))) ((List.perm_middle (l₁ := ([.row A48 ws.trace.length c48 36 3 (ws.trace.flatMap evCells), .box b2 82 (dCells ds), .row ds.lA ds.files.length ds.lc 93 2 (ds.files.flatMap fileCells), .row ds.dA ds.opn.length ds.dc 86 3 (ds.opn.flatMap descCells)] : St))).trans (List.Perm.swap _ _ _)) (Same49 ws.trace ds.trace A48 ds.tA c48 ds.tc (by omega) (by omega)) (fun t S h => h) ?_
     rw [decide_eq_true htr]
     refine nl ?_
     refine AWP.one (i := 7) (by kernel_rfl) rfl ?_
     refine Y1 (Yv.move rfl eV) ?_
     refine nl ?_
     refine AWP.two (i := 8) (j := 10) (by kernel_rfl) rfl rfl ?_ ?_
     ·
      refine AWL.unguard rfl rfl rfl (by simp) ?_
      refine Y1 (Yv.move rfl eV) ?_
      refine nl ?_
      refine AWP.two (i := 9) (j := 10) (by kernel_rfl) rfl rfl ?_ ?_
      ·
       refine AWL.unguard rfl rfl rfl (by simp) ?_
       refine AWL.callE rfl rfl (B rfl) rfl ce_48 (E rfl rfl) (evsC (E rfl rfl) evs0) (F1 := (.row A48 ws.trace.length c48 36 3 (ws.trace.flatMap evCells) :: DSt b2 ds)) (S1 := (WSt b m ws)) rfl (rFiles48 b m ws n hb.r hn) ?_
       rintro t56 S56 ⟨A56, c56, fs2, rfl, hsr2, hpm2, rfl⟩
       refine AWL.perm (S' := .row A56 fs2.length c56 46 2 (fs2.flatMap fCells) :: .row A48 ws.trace.length c48 36 3 (ws.trace.flatMap evCells) :: (DSt b2 ds ++ WSt b m ws)) (List.perm_middle (l₁ := (.row A48 ws.trace.length c48 36 3 (ws.trace.flatMap evCells) :: DSt b2 ds : St))).symm ?_
       have hfe2 : fs2 = ds.files.map nb := srt_perm hsr2 hb.s.srt (hpm2.trans hb.s.files)
       have hfn2 : fs2.length ≤ n := by rw [hpm2.length_eq]; exact hb.r.pb.nf
       refine nl ?_
       refine AWP.one (i := 10) (by kernel_rfl) rfl ?_
       refine AWL.unguard rfl rfl rfl (by simp) ?_
       refine Y1 (Yv.move rfl eV) ?_
       refine nl ?_
       refine AWP.one (i := 11) (by kernel_rfl) rfl ?_
       refine AWL.unguard rfl rfl rfl (by simp) ?_
       refine AWL.callF rfl rfl (B rfl) rfl ce_51 (E rfl rfl) (evsC (E rfl rfl) evs0) (F1 := [.row A56 fs2.length c56 46 2 (fs2.flatMap fCells), .row A48 ws.trace.length c48 36 3 (ws.trace.flatMap evCells)]) (S1 := (DSt b2 ds)) (F2 := (WSt b m ws)) rfl (DFiles51 b2 ds n hb.pd (by omega)) ?_
       rintro t58 S58 ⟨A58, c58, rfl, rfl⟩
       refine nl ?_
       refine AWP.one (i := 12) (by kernel_rfl) rfl ?_
       refine AWL.unguard rfl rfl rfl (by simp) ?_
       refine AWL.callKP rfl rfl (B rfl) rfl ce_50 (E rfl rfl) (evsC (E rfl rfl) (evsC (E rfl rfl) evs0)) (S1 := [.row A56 fs2.length c56 46 2 (fs2.flatMap fCells), .row A58 ds.files.length c58 46 2 ((ds.files.map nb).flatMap fCells)]) (S2 := (.row A48 ws.trace.length c48 36 3 (ws.trace.flatMap evCells) :: (DSt b2 ds ++ WSt b m ws))) ((List.Perm.swap _ _ _).cons _) (by
         have h := files50 fs2 (ds.files.map nb) A56 A58 c56 c58 (by omega) (by rw [List.length_map]; omega)
         rw [List.length_map] at h
         exact h) (fun t S h => h) ?_
       rw [decide_eq_true hfe2]
       refine nl ?_
       refine AWP.one (i := 13) (by kernel_rfl) rfl ?_
       refine Y1 (Yv.pickAnd rfl (E rfl rfl) (E rfl rfl)) ?_
       refine nl ?_
       refine AWP.one (i := 14) (by kernel_rfl) rfl ?_
       refine Y1 (Yv.assign rfl eV) ?_
       refine nl ?_
       refine AWP.done (by kernel_rfl) ?_
       refine AW.dropAt 0 ?_
       refine AW.dropAt 0 ?_
       refine AW.dropAt 0 ?_
       refine AW.perm List.perm_append_comm ?_
       refine AW.ret (retI (.tmp rfl .nil) ?_)
       exact ⟨rfl, rfl⟩
      ·
       refine AWL.unguard rfl rfl rfl (by simp) ?_
       refine Y1 (Yv.move rfl eV) ?_
       refine nl ?_
       refine AWP.one (i := 9) (by kernel_rfl) rfl ?_
       refine AWL.unguard rfl rfl rfl (by simp) ?_
       refine AWL.callE rfl rfl (B rfl) rfl ce_48 (E rfl rfl) (evsC (E rfl rfl) evs0) (F1 := (.row A48 ws.trace.length c48 36 3 (ws.trace.flatMap evCells) :: DSt b2 ds)) (S1 := (WSt b m ws)) rfl (rFiles48 b m ws n hb.r hn) ?_
       rintro t56 S56 ⟨A56, c56, fs2, rfl, hsr2, hpm2, rfl⟩
       refine AWL.perm (S' := .row A56 fs2.length c56 46 2 (fs2.flatMap fCells) :: .row A48 ws.trace.length c48 36 3 (ws.trace.flatMap evCells) :: (DSt b2 ds ++ WSt b m ws)) (List.perm_middle (l₁ := (.row A48 ws.trace.length c48 36 3 (ws.trace.flatMap evCells) :: DSt b2 ds : St))).symm ?_
       have hfe2 : fs2 = ds.files.map nb := srt_perm hsr2 hb.s.srt (hpm2.trans hb.s.files)
       have hfn2 : fs2.length ≤ n := by rw [hpm2.length_eq]; exact hb.r.pb.nf
       refine nl ?_
       refine AWP.one (i := 11) (by kernel_rfl) rfl ?_
       refine AWL.unguard rfl rfl rfl (by simp) ?_
       refine AWL.callF rfl rfl (B rfl) rfl ce_51 (E rfl rfl) (evsC (E rfl rfl) evs0) (F1 := [.row A56 fs2.length c56 46 2 (fs2.flatMap fCells), .row A48 ws.trace.length c48 36 3 (ws.trace.flatMap evCells)]) (S1 := (DSt b2 ds)) (F2 := (WSt b m ws)) rfl (DFiles51 b2 ds n hb.pd (by omega)) ?_
       rintro t58 S58 ⟨A58, c58, rfl, rfl⟩
       refine nl ?_
       refine AWP.one (i := 12) (by kernel_rfl) rfl ?_
       refine AWL.unguard rfl rfl rfl (by simp) ?_
       refine AWL.callKP rfl rfl (B rfl) rfl ce_50 (E rfl rfl) (evsC (E rfl rfl) (evsC (E rfl rfl) evs0)) (S1 := [.row A56 fs2.length c56 46 2 (fs2.flatMap fCells), .row A58 ds.files.length c58 46 2 ((ds.files.map nb).flatMap fCells)]) (S2 := (.row A48 ws.trace.length c48 36 3 (ws.trace.flatMap evCells) :: (DSt b2 ds ++ WSt b m ws))) ((List.Perm.swap _ _ _).cons _) (by
         have h := files50 fs2 (ds.files.map nb) A56 A58 c56 c58 (by omega) (by rw [List.length_map]; omega)
         rw [List.length_map] at h
         exact h) (fun t S h => h) ?_
       rw [decide_eq_true hfe2]
       refine nl ?_
       refine AWP.one (i := 13) (by kernel_rfl) rfl ?_
       refine Y1 (Yv.pickAnd rfl (E rfl rfl) (E rfl rfl)) ?_
       refine nl ?_
       refine AWP.one (i := 14) (by kernel_rfl) rfl ?_
       refine Y1 (Yv.assign rfl eV) ?_
       refine nl ?_
       refine AWP.done (by kernel_rfl) ?_
       refine AW.dropAt 0 ?_
       refine AW.dropAt 0 ?_
       refine AW.dropAt 0 ?_
       refine AW.perm List.perm_append_comm ?_
       refine AW.ret (retI (.tmp rfl .nil) ?_)
       exact ⟨rfl, rfl⟩
     ·
      refine AWL.unguard rfl rfl rfl (by simp) ?_
      refine Y1 (Yv.move rfl eV) ?_
      refine nl ?_
      refine AWP.one (i := 8) (by kernel_rfl) rfl ?_
      refine AWL.unguard rfl rfl rfl (by simp) ?_
      refine Y1 (Yv.move rfl eV) ?_
      refine nl ?_
      refine AWP.one (i := 9) (by kernel_rfl) rfl ?_
      refine AWL.unguard rfl rfl rfl (by simp) ?_
      refine AWL.callE rfl rfl (B rfl) rfl ce_48 (E rfl rfl) (evsC (E rfl rfl) evs0) (F1 := (.row A48 ws.trace.length c48 36 3 (ws.trace.flatMap evCells) :: DSt b2 ds)) (S1 := (WSt b m ws)) rfl (rFiles48 b m ws n hb.r hn) ?_
      rintro t56 S56 ⟨A56, c56, fs2, rfl, hsr2, hpm2, rfl⟩
      refine AWL.perm (S' := .row A56 fs2.length c56 46 2 (fs2.flatMap fCells) :: .row A48 ws.trace.length c48 36 3 (ws.trace.flatMap evCells) :: (DSt b2 ds ++ WSt b m ws)) (List.perm_middle (l₁ := (.row A48 ws.trace.length c48 36 3 (ws.trace.flatMap evCells) :: DSt b2 ds : St))).symm ?_
      have hfe2 : fs2 = ds.files.map nb := srt_perm hsr2 hb.s.srt (hpm2.trans hb.s.files)
      have hfn2 : fs2.length ≤ n := by rw [hpm2.length_eq]; exact hb.r.pb.nf
      refine nl ?_
      refine AWP.one (i := 11) (by kernel_rfl) rfl ?_
      refine AWL.unguard rfl rfl rfl (by simp) ?_
      refine AWL.callF rfl rfl (B rfl) rfl ce_51 (E rfl rfl) (evsC (E rfl rfl) evs0) (F1 := [.row A56 fs2.length c56 46 2 (fs2.flatMap fCells), .row A48 ws.trace.length c48 36 3 (ws.trace.flatMap evCells)]) (S1 := (DSt b2 ds)) (F2 := (WSt b m ws)) rfl (DFiles51 b2 ds n hb.pd (by omega)) ?_
      rintro t58 S58 ⟨A58, c58, rfl, rfl⟩
      refine nl ?_
      refine AWP.one (i := 12) (by kernel_rfl) rfl ?_
      refine AWL.unguard rfl rfl rfl (by simp) ?_
      refine AWL.callKP rfl rfl (B rfl) rfl ce_50 (E rfl rfl) (evsC (E rfl rfl) (evsC (E rfl rfl) evs0)) (S1 := [.row A56 fs2.length c56 46 2 (fs2.flatMap fCells), .row A58 ds.files.length c58 46 2 ((ds.files.map nb).flatMap fCells)]) (S2 := (.row A48 ws.trace.length c48 36 3 (ws.trace.flatMap evCells) :: (DSt b2 ds ++ WSt b m ws))) ((List.Perm.swap _ _ _).cons _) (by
        have h := files50 fs2 (ds.files.map nb) A56 A58 c56 c58 (by omega) (by rw [List.length_map]; omega)
        rw [List.length_map] at h
        exact h) (fun t S h => h) ?_
      rw [decide_eq_true hfe2]
      refine nl ?_
      refine AWP.one (i := 13) (by kernel_rfl) rfl ?_
      refine Y1 (Yv.pickAnd rfl (E rfl rfl) (E rfl rfl)) ?_
      refine nl ?_
      refine AWP.one (i := 14) (by kernel_rfl) rfl ?_
      refine Y1 (Yv.assign rfl eV) ?_
      refine nl ?_
      refine AWP.done (by kernel_rfl) ?_
      refine AW.dropAt 0 ?_
      refine AW.dropAt 0 ?_
      refine AW.dropAt 0 ?_
      refine AW.perm List.perm_append_comm ?_
      refine AW.ret (retI (.tmp rfl .nil) ?_)
      exact ⟨rfl, rfl⟩
    ·
     refine Y1 (Yv.loadBox rfl ag_33 (i := 0) rfl (E rfl rfl) rfl) ?_
     refine nl ?_
     refine AWP.one (i := 1) (by kernel_rfl) rfl ?_
     refine AWL.callE rfl rfl (B rfl) rfl ce_14 (E rfl rfl) (evsC (E rfl rfl) evs0) (F1 := (DSt b2 ds)) (S1 := (WSt b m ws)) rfl (Trace14R b m ws n hb.r.wb (by omega)) ?_
     rintro t48 S48 ⟨A48, c48, rfl, rfl⟩
     refine AWL.perm (S' := .row A48 ws.trace.length c48 36 3 (ws.trace.flatMap evCells) :: (DSt b2 ds ++ WSt b m ws)) List.perm_middle.symm ?_
     refine nl ?_
     refine AWP.one (i := 6) (by kernel_rfl) rfl ?_
     refine AWL.callKP rfl rfl (B rfl) rfl ce_49 (E rfl rfl) (evsC (E rfl rfl) (evsC (E rfl rfl) evs0)) (S1 := [.row A48 ws.trace.length c48 36 3 (ws.trace.flatMap evCells), .row ds.tA ds.trace.length ds.tc 36 3 (ds.trace.flatMap evCells)]) (S2 := (.box b2 82 (dCells ds) :: .row ds.lA ds.files.length ds.lc 93 2 (ds.files.flatMap fileCells) :: .row ds.dA ds.opn.length ds.dc 86 3 (ds.opn.flatMap descCells) :: (ds.files.map fileRow ++ WSt b m ws))) ((List.perm_middle (l₁ := ([.row A48 ws.trace.length c48 36 3 (ws.trace.flatMap evCells), .box b2 82 (dCells ds), .row ds.lA ds.files.length ds.lc 93 2 (ds.files.flatMap fileCells), .row ds.dA ds.opn.length ds.dc 86 3 (ds.opn.flatMap descCells)] : St))).trans (List.Perm.swap _ _ _)) (Same49 ws.trace ds.trace A48 ds.tA c48 ds.tc (by omega) (by omega)) (fun t S h => h) ?_
     rw [decide_eq_true htr]
     refine nl ?_
     refine AWP.one (i := 7) (by kernel_rfl) rfl ?_
     refine Y1 (Yv.move rfl eV) ?_
     refine nl ?_
     refine AWP.two (i := 8) (j := 10) (by kernel_rfl) rfl rfl ?_ ?_
     ·
      refine AWL.unguard rfl rfl rfl (by simp) ?_
      refine Y1 (Yv.move rfl eV) ?_
      refine nl ?_
      refine AWP.two (i := 9) (j := 10) (by kernel_rfl) rfl rfl ?_ ?_
      ·
       refine AWL.unguard rfl rfl rfl (by simp) ?_
       refine AWL.callE rfl rfl (B rfl) rfl ce_48 (E rfl rfl) (evsC (E rfl rfl) evs0) (F1 := (.row A48 ws.trace.length c48 36 3 (ws.trace.flatMap evCells) :: DSt b2 ds)) (S1 := (WSt b m ws)) rfl (rFiles48 b m ws n hb.r hn) ?_
       rintro t56 S56 ⟨A56, c56, fs2, rfl, hsr2, hpm2, rfl⟩
       refine AWL.perm (S' := .row A56 fs2.length c56 46 2 (fs2.flatMap fCells) :: .row A48 ws.trace.length c48 36 3 (ws.trace.flatMap evCells) :: (DSt b2 ds ++ WSt b m ws)) (List.perm_middle (l₁ := (.row A48 ws.trace.length c48 36 3 (ws.trace.flatMap evCells) :: DSt b2 ds : St))).symm ?_
       have hfe2 : fs2 = ds.files.map nb := srt_perm hsr2 hb.s.srt (hpm2.trans hb.s.files)
       have hfn2 : fs2.length ≤ n := by rw [hpm2.length_eq]; exact hb.r.pb.nf
       refine nl ?_
       refine AWP.one (i := 10) (by kernel_rfl) rfl ?_
       refine AWL.unguard rfl rfl rfl (by simp) ?_
       refine Y1 (Yv.move rfl eV) ?_
       refine nl ?_
       refine AWP.one (i := 11) (by kernel_rfl) rfl ?_
       refine AWL.unguard rfl rfl rfl (by simp) ?_
       refine AWL.callF rfl rfl (B rfl) rfl ce_51 (E rfl rfl) (evsC (E rfl rfl) evs0) (F1 := [.row A56 fs2.length c56 46 2 (fs2.flatMap fCells), .row A48 ws.trace.length c48 36 3 (ws.trace.flatMap evCells)]) (S1 := (DSt b2 ds)) (F2 := (WSt b m ws)) rfl (DFiles51 b2 ds n hb.pd (by omega)) ?_
       rintro t58 S58 ⟨A58, c58, rfl, rfl⟩
       refine nl ?_
       refine AWP.one (i := 12) (by kernel_rfl) rfl ?_
       refine AWL.unguard rfl rfl rfl (by simp) ?_
       refine AWL.callKP rfl rfl (B rfl) rfl ce_50 (E rfl rfl) (evsC (E rfl rfl) (evsC (E rfl rfl) evs0)) (S1 := [.row A56 fs2.length c56 46 2 (fs2.flatMap fCells), .row A58 ds.files.length c58 46 2 ((ds.files.map nb).flatMap fCells)]) (S2 := (.row A48 ws.trace.length c48 36 3 (ws.trace.flatMap evCells) :: (DSt b2 ds ++ WSt b m ws))) ((List.Perm.swap _ _ _).cons _) (by
         have h := files50 fs2 (ds.files.map nb) A56 A58 c56 c58 (by omega) (by rw [List.length_map]; omega)
         rw [List.length_map] at h
         exact h) (fun t S h => h) ?_
       rw [decide_eq_true hfe2]
       refine nl ?_
       refine AWP.one (i := 13) (by kernel_rfl) rfl ?_
       refine Y1 (Yv.pickAnd rfl (E rfl rfl) (E rfl rfl)) ?_
       refine nl ?_
       refine AWP.one (i := 14) (by kernel_rfl) rfl ?_
       refine Y1 (Yv.assign rfl eV) ?_
       refine nl ?_
       refine AWP.done (by kernel_rfl) ?_
       refine AW.dropAt 0 ?_
       refine AW.dropAt 0 ?_
       refine AW.dropAt 0 ?_
       refine AW.perm List.perm_append_comm ?_
       refine AW.ret (retI (.tmp rfl .nil) ?_)
       exact ⟨rfl, rfl⟩
      ·
       refine AWL.unguard rfl rfl rfl (by simp) ?_
       refine Y1 (Yv.move rfl eV) ?_
       refine nl ?_
       refine AWP.one (i := 9) (by kernel_rfl) rfl ?_
       refine AWL.unguard rfl rfl rfl (by simp) ?_
       refine AWL.callE rfl rfl (B rfl) rfl ce_48 (E rfl rfl) (evsC (E rfl rfl) evs0) (F1 := (.row A48 ws.trace.length c48 36 3 (ws.trace.flatMap evCells) :: DSt b2 ds)) (S1 := (WSt b m ws)) rfl (rFiles48 b m ws n hb.r hn) ?_
       rintro t56 S56 ⟨A56, c56, fs2, rfl, hsr2, hpm2, rfl⟩
       refine AWL.perm (S' := .row A56 fs2.length c56 46 2 (fs2.flatMap fCells) :: .row A48 ws.trace.length c48 36 3 (ws.trace.flatMap evCells) :: (DSt b2 ds ++ WSt b m ws)) (List.perm_middle (l₁ := (.row A48 ws.trace.length c48 36 3 (ws.trace.flatMap evCells) :: DSt b2 ds : St))).symm ?_
       have hfe2 : fs2 = ds.files.map nb := srt_perm hsr2 hb.s.srt (hpm2.trans hb.s.files)
       have hfn2 : fs2.length ≤ n := by rw [hpm2.length_eq]; exact hb.r.pb.nf
       refine nl ?_
       refine AWP.one (i := 11) (by kernel_rfl) rfl ?_
       refine AWL.unguard rfl rfl rfl (by simp) ?_
       refine AWL.callF rfl rfl (B rfl) rfl ce_51 (E rfl rfl) (evsC (E rfl rfl) evs0) (F1 := [.row A56 fs2.length c56 46 2 (fs2.flatMap fCells), .row A48 ws.trace.length c48 36 3 (ws.trace.flatMap evCells)]) (S1 := (DSt b2 ds)) (F2 := (WSt b m ws)) rfl (DFiles51 b2 ds n hb.pd (by omega)) ?_
       rintro t58 S58 ⟨A58, c58, rfl, rfl⟩
       refine nl ?_
       refine AWP.one (i := 12) (by kernel_rfl) rfl ?_
       refine AWL.unguard rfl rfl rfl (by simp) ?_
       refine AWL.callKP rfl rfl (B rfl) rfl ce_50 (E rfl rfl) (evsC (E rfl rfl) (evsC (E rfl rfl) evs0)) (S1 := [.row A56 fs2.length c56 46 2 (fs2.flatMap fCells), .row A58 ds.files.length c58 46 2 ((ds.files.map nb).flatMap fCells)]) (S2 := (.row A48 ws.trace.length c48 36 3 (ws.trace.flatMap evCells) :: (DSt b2 ds ++ WSt b m ws))) ((List.Perm.swap _ _ _).cons _) (by
         have h := files50 fs2 (ds.files.map nb) A56 A58 c56 c58 (by omega) (by rw [List.length_map]; omega)
         rw [List.length_map] at h
         exact h) (fun t S h => h) ?_
       rw [decide_eq_true hfe2]
       refine nl ?_
       refine AWP.one (i := 13) (by kernel_rfl) rfl ?_
       refine Y1 (Yv.pickAnd rfl (E rfl rfl) (E rfl rfl)) ?_
       refine nl ?_
       refine AWP.one (i := 14) (by kernel_rfl) rfl ?_
       refine Y1 (Yv.assign rfl eV) ?_
       refine nl ?_
       refine AWP.done (by kernel_rfl) ?_
       refine AW.dropAt 0 ?_
       refine AW.dropAt 0 ?_
       refine AW.dropAt 0 ?_
       refine AW.perm List.perm_append_comm ?_
       refine AW.ret (retI (.tmp rfl .nil) ?_)
       exact ⟨rfl, rfl⟩
     ·
      refine AWL.unguard rfl rfl rfl (by simp) ?_
      refine Y1 (Yv.move rfl eV) ?_
      refine nl ?_
      refine AWP.one (i := 8) (by kernel_rfl) rfl ?_
      refine AWL.unguard rfl rfl rfl (by simp) ?_
      refine Y1 (Yv.move rfl eV) ?_
      refine nl ?_
      refine AWP.one (i := 9) (by kernel_rfl) rfl ?_
      refine AWL.unguard rfl rfl rfl (by simp) ?_
      refine AWL.callE rfl rfl (B rfl) rfl ce_48 (E rfl rfl) (evsC (E rfl rfl) evs0) (F1 := (.row A48 ws.trace.length c48 36 3 (ws.trace.flatMap evCells) :: DSt b2 ds)) (S1 := (WSt b m ws)) rfl (rFiles48 b m ws n hb.r hn) ?_
      rintro t56 S56 ⟨A56, c56, fs2, rfl, hsr2, hpm2, rfl⟩
      refine AWL.perm (S' := .row A56 fs2.length c56 46 2 (fs2.flatMap fCells) :: .row A48 ws.trace.length c48 36 3 (ws.trace.flatMap evCells) :: (DSt b2 ds ++ WSt b m ws)) (List.perm_middle (l₁ := (.row A48 ws.trace.length c48 36 3 (ws.trace.flatMap evCells) :: DSt b2 ds : St))).symm ?_
      have hfe2 : fs2 = ds.files.map nb := srt_perm hsr2 hb.s.srt (hpm2.trans hb.s.files)
      have hfn2 : fs2.length ≤ n := by rw [hpm2.length_eq]; exact hb.r.pb.nf
      refine nl ?_
      refine AWP.one (i := 11) (by kernel_rfl) rfl ?_
      refine AWL.unguard rfl rfl rfl (by simp) ?_
      refine AWL.callF rfl rfl (B rfl) rfl ce_51 (E rfl rfl) (evsC (E rfl rfl) evs0) (F1 := [.row A56 fs2.length c56 46 2 (fs2.flatMap fCells), .row A48 ws.trace.length c48 36 3 (ws.trace.flatMap evCells)]) (S1 := (DSt b2 ds)) (F2 := (WSt b m ws)) rfl (DFiles51 b2 ds n hb.pd (by omega)) ?_
      rintro t58 S58 ⟨A58, c58, rfl, rfl⟩
      refine nl ?_
      refine AWP.one (i := 12) (by kernel_rfl) rfl ?_
      refine AWL.unguard rfl rfl rfl (by simp) ?_
      refine AWL.callKP rfl rfl (B rfl) rfl ce_50 (E rfl rfl) (evsC (E rfl rfl) (evsC (E rfl rfl) evs0)) (S1 := [.row A56 fs2.length c56 46 2 (fs2.flatMap fCells), .row A58 ds.files.length c58 46 2 ((ds.files.map nb).flatMap fCells)]) (S2 := (.row A48 ws.trace.length c48 36 3 (ws.trace.flatMap evCells) :: (DSt b2 ds ++ WSt b m ws))) ((List.Perm.swap _ _ _).cons _) (by
        have h := files50 fs2 (ds.files.map nb) A56 A58 c56 c58 (by omega) (by rw [List.length_map]; omega)
        rw [List.length_map] at h
        exact h) (fun t S h => h) ?_
      rw [decide_eq_true hfe2]
      refine nl ?_
      refine AWP.one (i := 13) (by kernel_rfl) rfl ?_
      refine Y1 (Yv.pickAnd rfl (E rfl rfl) (E rfl rfl)) ?_
      refine nl ?_
      refine AWP.one (i := 14) (by kernel_rfl) rfl ?_
      refine Y1 (Yv.assign rfl eV) ?_
      refine nl ?_
      refine AWP.done (by kernel_rfl) ?_
      refine AW.dropAt 0 ?_
      refine AW.dropAt 0 ?_
      refine AW.dropAt 0 ?_
      refine AW.perm List.perm_append_comm ?_
      refine AW.ret (retI (.tmp rfl .nil) ?_)
      exact ⟨rfl, rfl⟩

end Go.Proofs.Ytmiggpnkicdijaa

namespace Go.Proofs.Ytmiggpnkicdijaa
open Go Go.RowKit
set_option linter.unusedSectionVars false
set_option linter.unusedVariables false
section
variable {cx : Cx} {env : Env} {S : St} {o : Oper} {g : Bool} {x y z : Operand} {ops : Array Oper} {l : List Oper} {K : Env → St → Prop} {Q : Exit → Env → St → Prop} {d : Nat}
/-! ### arguments seen as trees for one call that writes nothing -/
def Sees (cx : Cx) (env : Env) (S : St) (g : Bool) (x : Operand) (t : T) : Prop := ∀ a w, Sim cx env S a w → g = true → VRep w [] t (a.eval x)
def Seens (cx : Cx) (env : Env) (S : St) (g : Bool) : List Operand → List T → Prop
  | [], [] => True
  | x :: r, t :: r' => Sees cx env S g x t ∧ Seens cx env S g r r'
  | _, _ => False
theorem Sees.ev {t : T} (h : Ev env g x t) : Sees cx env S g x t := fun a w hs hg => (h.rep hs hg).mono (Nat.le_refl _) (fun _ _ _ => rfl) (fun _ _ hm => by cases hm)
theorem Seens.two {t u : T} (h1 : Sees cx env S g x t) (h2 : Sees cx env S g y u) : Seens cx env S g [x, y] [t, u] := ⟨h1, h2, trivial⟩
theorem Seens.spec {a : Act} {w : World} (hs : Sim cx env S a w) (hg : g = true) : ∀ {xs : List Operand} {ts : List T}, Seens cx env S g xs ts → (xs.map a.eval).length = ts.length ∧ ∀ (j : Nat) (t : T) (u : Value), ts[j]? = some t → (xs.map a.eval)[j]? = some u → VRep w [] t u
  | [], [], _ => ⟨rfl, fun j t u h => by simp at h⟩
  | [], _ :: _, h => h.elim
  | _ :: _, [], h => h.elim
  | x :: r, t :: r', h => by
    obtain ⟨h1, h2⟩ := Seens.spec hs hg h.2
    refine ⟨by simp at h1 ⊢; exact h1, fun j t' u e1 e2 => ?_⟩
    cases j with
    | zero =>
      simp only [List.map_cons, List.getElem?_cons_zero, Option.some.injEq] at e1 e2
      subst e1; subst e2
      exact h.1 a w hs hg
    | succ j => exact h2 j t' u (by simpa using e1) (by simpa using e2)

theorem Seens.one {t : T} (h1 : Sees cx env S g x t) : Seens cx env S g [x] [t] := ⟨h1, trivial⟩
/-- copy into a row, of whatever length. -/
theorem AWL.copyRowZ {t tx e : TypeId} {b n c m i k : Nat} {zs : List Value} {A : Option Addr} {cs news : List T} (hg : o.guard = none) (hd : o.dst = some d) (hN : d < cx.N)
    (ho : o.op = .call { callee := .builtin .copy, args := #[x, y], argTypes := #[t, tx] }) (he : elemOf cx.P t = some (e, k, b, zs)) (hk : 0 < k) (hi : S[i]? = some (.row A n c e k cs)) (hx : Ev env true x (.v (.slice A n c))) (hy : SrcT cx env S y tx k m news)
    (hmn : m ≤ n)
    (hr : AWL cx ops l K ((d, true, .v (.int .i64 (m : Int))) :: env) (S.set i (.row A n c e k (news ++ cs.drop (m * k))))) : AWL cx ops (o :: l) K env S := by
  refine AWL.eff hg hd hN fun a w hs => ?_
  obtain ⟨us, hrow, hV⟩ := hs.row hi
  obtain ⟨ns, hVn, hsrc⟩ := hy a w hs
  obtain ⟨h1, i', z', h2, _, h3, _⟩ := elemOf_spec he
  have hul : us.length = n * k := hrow.1
  have hnl : ns.length = m * k := hsrc.newsLen
  have hcl : news.length = m * k := by rw [hVn.len, hnl]
  have hmk := Nat.mul_le_mul_right k hmn
  have hcells := hsrc.cells
  have hlen := hsrc.len w
  have hmin' : m.min n = m := Nat.min_eq_left hmn
  have hsz : (sizeOf e).run cx.P w = .ok k w := by simp [sizeOf, typeInfo, h2, h3, Sem.run_bind, Sem.run_pure]
  rcases hrow.2.2.2 with ⟨hA, hn0, hc0⟩ | ⟨gb, cur, fr, hA, _⟩
  · subst hA
    have hm0 : m = 0 := by omega
    have hnn : news = [] := List.eq_nil_of_length_eq_zero (by rw [hcl, hm0, Nat.zero_mul])
    have hset : S.set i (.row none n c e k (news ++ cs.drop (m * k))) = S := by
      rw [hnn, hm0, Nat.zero_mul, List.drop_zero, List.nil_append]
      obtain ⟨hlt, hel⟩ := List.getElem?_eq_some_iff.1 hi
      rw [← hel, List.set_getElem_self]
    rw [hset] at hr
    refine ⟨.int .i64 (m : Int), w, _, _, ?_, hs, .v _, hr⟩
    simp [execOp, ho, resolve, invoke, builtin, Sem.run_bind, Sem.run_pure, hx.val hs rfl, Builtin.copy_, run_underlying h1, hlen, hsz, hmin', hcells, goInt]
  · subst hA
    obtain ⟨hst, hrow'⟩ := hrow.write (P := cx.P) hVn.one (p := 0) (by omega)
    have hsim := hs.wrote hi hV hVn hrow'
    refine ⟨.int .i64 (m : Int), w.setCells gb 0 ns, _, _, ?_, hsim, .v _, ?_⟩
    · simp [execOp, ho, resolve, invoke, builtin, Sem.run_bind, Sem.run_pure, hx.val hs rfl, Builtin.copy_, run_underlying h1, hlen, hsz, hmin', hcells, hst, goInt]
    · rw [hcl, List.take_zero, List.nil_append, Nat.zero_add]
      exact hr
def T.isV : T → Bool
  | .v _ => true
  | _ => false
end
end Go.Proofs.Ytmiggpnkicdijaa

namespace Go.Proofs.Ytmiggpnkicdijaa
open Go Go.RowKit
set_option linter.unusedSimpArgs false
set_option linter.unusedVariables false
theorem nF_mem_aux (l : Fl) : ∀ (acc : Fl), (∀ x ∈ acc, fitsB x.1 = true) → ∀ x ∈ l.foldl stepN acc, (x ∈ acc ∨ x ∈ l) ∧ fitsB x.1 = true := by
  induction l with
  | nil => intro acc ha x hx; exact ⟨.inl hx, ha x hx⟩
  | cons y r ih =>
    intro acc ha x hx
    rw [List.foldl_cons] at hx
    have hst : ∀ z ∈ stepN acc y, (z ∈ acc ∨ z = y) ∧ fitsB z.1 = true := fun z hz => by
      unfold stepN at hz
      split at hz
      · rename_i hc
        rw [Bool.and_eq_true] at hc
        rcases List.mem_append.1 hz with hz | hz
        · exact ⟨.inl hz, ha z hz⟩
        · rw [List.mem_singleton.1 hz]
          exact ⟨.inr rfl, hc.2⟩
      · exact ⟨.inl hz, ha z hz⟩
    obtain ⟨h1, h2⟩ := ih _ (fun z hz => (hst z hz).2) x hx
    refine ⟨?_, h2⟩
    rcases h1 with h1 | h1
    · rcases (hst x h1).1 with h | h
      · exact .inl h
      · exact .inr (h ▸ List.mem_cons_self ..)
    · exact .inr (List.mem_cons_of_mem _ h1)
theorem nF_mem {l : Fl} {x : Nm × List UInt8} (h : x ∈ nF l) : x ∈ l ∧ fitsB x.1 = true := by
  obtain ⟨h1, h2⟩ := nF_mem_aux l [] (fun _ h => by cases h) x h
  exact ⟨h1.resolve_left (fun h => by cases h), h2⟩
theorem fits_short {s : Nm} (h : fitsB s = true) : s.length ≤ 255 := by
  rw [fits_eq, Bool.and_eq_true, Bool.and_eq_true, decide_eq_true_eq] at h
  have := of_decide_eq_true h.1.2
  omega
theorem both_new {B : Nat} {stdin : List UInt8} {files : Fl} {fl : List FileR} {ds : DS} (hfl : fl.map nb = nF files) (hs : stdin.length ≤ B) (hl : files.length ≤ B) (hd : ∀ x ∈ files, x.2.length ≤ B)
    (h1 : ds.stdin = stdin) (h2 : ds.opn = opn0) (h3 : ds.trace = []) (h4 : NI (nF files) (ds.files.map nb)) : Both B ⟨fl, stdin, opn0, [], none, 0⟩ ds := by
  have e : absW ⟨fl, stdin, opn0, [], none, 0⟩ = ⟨nF files, stdin, opn0, []⟩ := by
    unfold absW
    rw [hfl]
  have hnl : (nF files).length ≤ files.length := by
    have := nF_len files files.length (Nat.le_refl _)
    rwa [List.take_length] at this
  refine ⟨?_, ?_⟩
  · rw [e]
    refine ⟨⟨rfl, Nat.zero_le _, fun x hx => (by cases hx), fun f hf => hd f (nF_mem hf).1, fun d hd => ?_, hs, by show (nF files).length ≤ B; omega⟩, ⟨rfl, fun d hd q => ?_⟩, ?_, fun f hf => fits_short (nF_mem hf).2⟩
    · rw [(show ∀ d ∈ opn0, d.place = 0 by decide) d hd]
      exact Nat.zero_le _
    · have := (show ∀ d ∈ opn0, d.kind ≠ 4 ∧ d.kind ≠ 5 by decide) d hd
      rcases q with q | q
      · exact absurd q this.1
      · exact absurd q this.2
    · exact (h4.perm.map (·.1)).nodup_iff.2 h4.srt.nodup
  · rw [e]
    exact ⟨h1, h2, h3, h4.perm, h4.srt⟩
/-- How far the bounds grow. -/
def sumT (l : List StepS) : Nat := (l.map fun s => 2 + s.text.length).sum
theorem sumT_succ {l : List StepS} {i : Nat} (h : i < l.length) : sumT (l.take (i + 1)) = sumT (l.take i) + (2 + (l.getD i default).text.length) := by
  unfold sumT
  rw [take_gd h, List.map_append, List.sum_append]
  simp
theorem sumT_le (l : List StepS) (i : Nat) : sumT (l.take i) ≤ sumT l := by
  conv => rhs; rw [← List.take_append_drop i l]
  unfold sumT
  rw [List.map_append, List.sum_append]
  omega
theorem sk (s : StepS) : (stepCells s).length = 5 := rfl
theorem len_steps {l : List StepS} : (l.flatMap stepCells).length = l.length * 5 := len_flat sk l
theorem step_cells {l : List StepS} {j : Nat} (h : j < l.length) : ((l.flatMap stepCells).drop (j * 5)).take 5 = stepCells (l.getD j default) ∧ (stepCells (l.getD j default)).length = 5 := by
  refine ⟨?_, rfl⟩
  rw [drop_flat sk, List.drop_eq_getElem_cons h, List.flatMap_cons, getD_eq' h]
  rw [List.take_append_of_le_length (by rw [sk]; exact Nat.le_refl _)]
  exact List.take_of_length_le (by rw [sk]; exact Nat.le_refl _)
end Go.Proofs.Ytmiggpnkicdijaa

namespace Go.Proofs.Ytmiggpnkicdijaa
open Go Go.RowKit
open Go.ChangeMaps (setBlock)
set_option linter.unusedVariables false
set_option linter.unusedSimpArgs false
theorem vreps_plain {w : World} {L : List Nat} {cs : List T} {us : List Value} (hf : cs.all T.isV = true) (h : VReps w L cs us) : us.map T.v = cs := by
  apply List.ext_getElem?
  intro j
  rw [List.getElem?_map]
  cases hc : cs[j]? with
  | none =>
    have : us.length ≤ j := by rw [← h.len]; exact List.getElem?_eq_none_iff.1 hc
    rw [List.getElem?_eq_none this]; rfl
  | some t =>
    obtain ⟨u, hu, hv, _⟩ := h.get hc
    have h4 := List.all_eq_true.1 hf t (List.mem_of_getElem? hc)
    rw [hu]
    cases t with
    | v r => rw [hv.v_inv]; rfl
    | _ => cases h4
section
variable {cx : Cx} {env : Env} {S : St} {o : Oper} {g : Bool} {x y z : Operand} {ops : Array Oper} {l : List Oper} {c : Code} {K : Env → St → Prop} {Q : Exit → Env → St → Prop} {d : Nat}
/-- What a map's block holds beside its keys and values. -/
structure MapRaw (es : List (Key × T)) (ms : Array MapEntry) (clock : Nat) : Prop where
  st : Stamps ms clock
  keys : ms.toList.map (·.key) = es.map (·.1.val)
  vals : ms.toList.map (fun e => T.v e.val) = es.map (·.2)
  one : ∀ e ∈ ms.toList, e.val.oneCell' = true
theorem Sim.raw {a : Act} {w : World} (hs : Sim cx env S a w) {i b : Nat} {ob : Obj} (hi : S[i]? = some (.raw b ob)) : w.heap[b]? = some ob := hs.ents _ (List.mem_of_getElem? hi)
theorem Sim.openMap {a : Act} {w : World} (hs : Sim cx env S a w) {i b : Nat} {es : List (Key × T)} (hi : S[i]? = some (.map b es)) (hf : (es.map (·.2)).all T.isV = true) : ∃ ms clock, MapRaw es ms clock ∧ Sim cx env (S.set i (.raw b (.map ms clock))) a w := by
  obtain ⟨ms, ck, h1, h2, h3, h4⟩ := hs.mapS hi
  have e : ms.toList.map (fun e => T.v e.val) = es.map (·.2) := by
    have := vreps_plain hf h3
    rwa [List.map_map] at this
  exact ⟨ms, ck, ⟨h4, h2, e, fun e he => h3.one _ (List.mem_map.2 ⟨e, he, rfl⟩)⟩, hs.setEnt hi rfl (fun _ _ _ => rfl) rfl rfl rfl rfl h1⟩
theorem Sim.shutMap {a : Act} {w : World} (hs : Sim cx env S a w) {i b : Nat} {es : List (Key × T)} {ms : Array MapEntry} {clock : Nat} (hi : S[i]? = some (.raw b (.map ms clock))) (hr : MapRaw es ms clock) : Sim cx env (S.set i (.map b es)) a w := by
  refine hs.setEnt hi rfl (fun _ _ _ => rfl) rfl rfl rfl rfl ⟨ms, clock, hs.raw hi, hr.keys, ?_, hr.st⟩
  rw [← hr.vals]
  refine ⟨by simp, fun j t u h1 h2 => ?_, fun u hu => ?_⟩
  · rw [List.getElem?_map] at h1 h2
    cases hc : ms.toList[j]? with
    | none => rw [hc] at h1; cases h1
    | some e =>
      rw [hc] at h1 h2
      simp only [Option.map_some, Option.some.injEq] at h1 h2
      subst h1; subst h2
      exact .v _
  · obtain ⟨e, he, rfl⟩ := List.mem_map.1 hu
    exact hr.one e he
theorem AW.openMap {i b : Nat} {es : List (Key × T)} (hi : S[i]? = some (.map b es)) (hf : (es.map (·.2)).all T.isV = true) (hr : ∀ ms clock, MapRaw es ms clock → AW cx c Q env (S.set i (.raw b (.map ms clock)))) : AW cx c Q env S := fun a w hs => by
  obtain ⟨ms, ck, h1, h2⟩ := hs.openMap hi hf
  exact hr ms ck h1 a w h2
theorem AW.shutMap {i b : Nat} {es : List (Key × T)} {ms : Array MapEntry} {clock : Nat} (hi : S[i]? = some (.raw b (.map ms clock))) (hr : MapRaw es ms clock) (h : AW cx c Q env (S.set i (.map b es))) : AW cx c Q env S := fun a w hs => h a w (hs.shutMap hi hr)
theorem AWL.openMap {i b : Nat} {es : List (Key × T)} (hi : S[i]? = some (.map b es)) (hf : (es.map (·.2)).all T.isV = true) (hr : ∀ ms clock, MapRaw es ms clock → AWL cx ops l K env (S.set i (.raw b (.map ms clock)))) : AWL cx ops l K env S := fun a w hs => by
  obtain ⟨ms, ck, h1, h2⟩ := hs.openMap hi hf
  exact hr ms ck h1 a w h2
/-- range m. -/
theorem AWL.rangeMap {t kt et : TypeId} {i b : Nat} {ms : Array MapEntry} {clock : Nat} (hg : o.guard = none) (hd : o.dst = some d) (hN : d < cx.N) (ho : o.op = .range t x) (ht : cx.P.underlying t = some (.map kt et)) (hi : S[i]? = some (.raw b (.map ms clock))) (hx : Ev env true x (.v (.map (some b))))
    (hr : ∀ r, AWL cx ops l K ((d, true, .v (.pointer (some ⟨r, 0, none⟩))) :: env) (S ++ [.raw r (.mapIter (some b) clock #[] clock)])) : AWL cx ops (o :: l) K env S := by
  refine AWL.eff hg hd hN fun a w hs => ?_
  have hka := keeps_alloc w (.mapIter (some b) clock #[] clock)
  refine ⟨.pointer (some ⟨w.heap.size, 0, none⟩), w.alloc (.mapIter (some b) clock #[] clock), _, _, ?_, hs.add (e := .raw w.heap.size _) rfl hka (heap_alloc_new w _), .v _, hr _⟩
  simp only [execOp, ho, hx.val hs rfl, Sem.run_bind, run_range_map w t kt et b ms clock ht (hs.raw hi), Sem.run_pure, Result.andThen_ok]
theorem ent_same {S : St} {i : Nat} {e : Ent} (hi : S[i]? = some e) : S.set i e = S := by
  obtain ⟨hlt, hel⟩ := List.getElem?_eq_some_iff.1 hi
  rw [← hel, List.set_getElem_self]
/-- The next entry, whichever the tape says; or none is left. -/
theorem AWL.nextMap {i j r b since c0 : Nat} {seen : Array Nat} {ms : Array MapEntry} {clock : Nat} (hg : o.guard = none) (hd : o.dst = some d) (hN : d < cx.N) (ho : o.op = .next x false) (hi : S[i]? = some (.raw r (.mapIter (some b) since seen c0))) (hj : S[j]? = some (.raw b (.map ms clock)))
    (hst : ∀ e ∈ ms.toList, e.born < since) (hsc : since ≤ c0) (hx : Ev env true x (.v (.pointer (some ⟨r, 0, none⟩))))
    (h0 : (leftOf ms seen).size = 0 → AWL cx ops l K ((d, true, .tup [.v (.bool false)]) :: env) S)
    (h1 : ∀ e ∈ (leftOf ms seen).toList, AWL cx ops l K ((d, true, .tup [.v (.bool true), .v e.key, .v e.val]) :: env) (S.set i (.raw r (.mapIter (some b) since (seen.push e.born) clock)))) : AWL cx ops (o :: l) K env S := by
  refine AWL.eff hg hd hN fun a w hs => ?_
  have q1 := hs.raw hi
  have q2 := hs.raw hj
  rcases run_next_at (P := cx.P) w o.type r b since c0 seen ms clock q1 q2 hst hsc with ⟨e0, e1⟩ | ⟨e, he, w1, hw1, e1⟩
  · refine ⟨.tuple #[.bool false], w, .tup [.v (.bool false)], S, ?_, hs, ?_, h0 e0⟩
    · simp only [execOp, ho, hx.val hs rfl, Sem.run_bind, e1, Sem.run_pure, Result.andThen_ok]
    · have : VRep w (cx.X ++ M S) (.tup [.v (.bool false)]) (.tuple [Value.bool false].toArray) := .tup rfl (fun j t u h2 h3 => by
        rcases j with _ | j
        · simp only [List.getElem?_cons_zero, Option.some.injEq] at h2 h3
          subst h2; subst h3; exact .v _
        · simp at h2)
      exact this
  · refine ⟨.tuple #[.bool true, e.key, e.val], setBlock w1 r (.mapIter (some b) since (seen.push e.born) clock), .tup [.v (.bool true), .v e.key, .v e.val], _, ?_, ?_, ?_, h1 e he⟩
    · simp only [execOp, ho, hx.val hs rfl, Sem.run_bind, e1, Sem.run_pure, Result.andThen_ok]
    · have hr : r < w.heap.size := lt_of_heap q1
      have hh : w1.heap = w.heap := by rcases hw1 with rfl | rfl <;> rfl
      refine hs.setEnt hi rfl (fun k _ hne => ?_) ?_ ?_ ?_ ?_ ?_
      · have : k ≠ r := fun e => hne (by rw [e]; rfl)
        simp [setBlock, Array.getElem?_setIfInBounds, Ne.symm this, hh]
      · simp [setBlock, hh]
      · rcases hw1 with rfl | rfl <;> rfl
      · rcases hw1 with rfl | rfl <;> rfl
      · rcases hw1 with rfl | rfl <;> rfl
      · show (setBlock w1 r _).heap[r]? = _
        simp [setBlock, hh, hr]
    · have : VRep (setBlock w1 r (.mapIter (some b) since (seen.push e.born) clock)) (cx.X ++ M (S.set i (.raw r (.mapIter (some b) since (seen.push e.born) clock)))) (.tup [.v (.bool true), .v e.key, .v e.val]) (.tuple [Value.bool true, e.key, e.val].toArray) := .tup rfl (fun j t u h2 h3 => by
        rcases j with _ | _ | _ | j
        · simp only [List.getElem?_cons_zero, Option.some.injEq] at h2 h3
          subst h2; subst h3; exact .v _
        · simp only [List.getElem?_cons_succ, List.getElem?_cons_zero, Option.some.injEq] at h2 h3
          subst h2; subst h3; exact .v _
        · simp only [List.getElem?_cons_succ, List.getElem?_cons_zero, Option.some.injEq] at h2 h3
          subst h2; subst h3; exact .v _
        · simp at h2)
      exact this
/-- Both together. -/
theorem AWL.nextMap1 {i j r b since : Nat} {seen : Array Nat} {ms : Array MapEntry} {clock : Nat} (hg : o.guard = none) (hd : o.dst = some d) (hN : d < cx.N) (ho : o.op = .next x false) (hi : S[i]? = some (.raw r (.mapIter (some b) since seen clock))) (hj : S[j]? = some (.raw b (.map ms clock)))
    (hst : ∀ e ∈ ms.toList, e.born < since) (hsc : since ≤ clock) (hx : Ev env true x (.v (.pointer (some ⟨r, 0, none⟩))))
    (h : ∀ (bb : Bool) (tl : List T) (seen' : Array Nat), ((bb = false ∧ seen' = seen ∧ (leftOf ms seen).size = 0) ∨ (bb = true ∧ ∃ e ∈ (leftOf ms seen).toList, seen' = seen.push e.born)) → AWL cx ops l K ((d, true, .tup (.v (.bool bb) :: tl)) :: env) (S.set i (.raw r (.mapIter (some b) since seen' clock)))) : AWL cx ops (o :: l) K env S :=
  AWL.nextMap hg hd hN ho hi hj hst hsc hx (fun h0 => by
    have := h false [] seen (.inl ⟨rfl, rfl, h0⟩)
    rwa [ent_same hi] at this) (fun e he => h true [.v e.key, .v e.val] (seen.push e.born) (.inr ⟨rfl, e, he, rfl⟩))
/-- The entry handed out last. -/
theorem Yv.entryMap {i j r b since : Nat} {seen : Array Nat} {ms : Array MapEntry} {e : MapEntry} {clock : Nat} (ho : o.op = .entry x) (hi : S[i]? = some (.raw r (.mapIter (some b) since (seen.push e.born) clock))) (hj : S[j]? = some (.raw b (.map ms clock)))
    (he : e ∈ ms.toList) (hst : Stamps ms clock) (hx : Ev env g x (.v (.pointer (some ⟨r, 0, none⟩)))) : Yv cx o env S g (.tup [.v e.key, .v e.val]) := by
  intro a w hs hg
  have q1 := hs.raw hi
  have q2 := hs.raw hj
  refine ⟨.tuple #[e.key, e.val], ?_, fun w' hkp => ?_⟩
  · have : VRep w (cx.X ++ M S) (.tup [.v e.key, .v e.val]) (.tuple [e.key, e.val].toArray) := .tup rfl (fun j t u h2 h3 => by
      rcases j with _ | _ | j
      · simp only [List.getElem?_cons_zero, Option.some.injEq] at h2 h3
        subst h2; subst h3; exact .v _
      · simp only [List.getElem?_cons_succ, List.getElem?_cons_zero, Option.some.injEq] at h2 h3
        subst h2; subst h3; exact .v _
      · simp at h2)
    exact this
  · have p1 := (hkp.block r (lt_of_heap q1) (by simp)).trans q1
    have p2 := (hkp.block b (lt_of_heap q2) (by simp)).trans q2
    simp only [execOp, ho, hx.val hs hg, Sem.run_bind, run_entry_at (P := cx.P) w' r b since seen ms clock e p1 p2 he hst.2, Sem.run_pure, Result.andThen_ok]
end
section
variable {cx : Cx} {env : Env} {S : St} {o : Oper} {x y z : Operand} {ops : Array Oper} {l : List Oper} {K : Env → St → Prop} {d : Nat}
/-- A guarded call on a part of the state: it turns, or all stays. -/
theorem AWL.callGdT {f : FuncId} {xf : Operand} {xs : Array Operand} {ats : Array TypeId} {fst cap : Array Value} {ts : List T} {F1 S1 F2 : St} {R : T → St → Prop} {r : Value} {j dj : Nat} {c b : Bool} (hg : o.guard = some (j, true)) (hj : (ops[j]?).bind (·.dst) = some dj) (hk : get dj env = some (c, .v (.bool b)))
    (hd : o.dst = some d) (hN : d < cx.N) (ho : o.op = .call { callee := .value xf, args := xs, argTypes := ats }) (hf : calleeB cx.P f = true) (hxf : Ev env (c && b) xf (.v (.func (.func f) fst cap))) (hx : Evs env (c && b) xs.toList ts) (hS : S = F1 ++ (S1 ++ F2))
    (hc : (c && b) = true → ACalls cx.P f (fst.toList.map T.v ++ (ts ++ cap.toList.map T.v)) S1 R) (hq : ∀ t S', R t S' → t = .v r)
    (hr : ∀ S', ((c && b) = true → R (.v r) S') → ((c && b) = false → S' = S1) → AWL cx ops l K ((d, (c && b), .v r) :: env) (F1 ++ (S' ++ F2))) : AWL cx ops (o :: l) K env S := by
  cases hcc : (c && b) with
  | true =>
    rw [Bool.and_eq_true] at hcc
    obtain ⟨rfl, rfl⟩ := hcc
    refine AWL.unguard hg hj hk rfl (AWL.callF (F1 := F1) (S1 := S1) (F2 := F2) rfl hd hN ho hf hxf hx hS (hc rfl) (fun t S' h => ?_))
    have e := hq t S' h
    subst e
    exact hr S' (fun _ => h) (fun e => by cases e)
  | false =>
    intro a w hs
    unfold wpList
    have e : (c && (b == true)) = false := by rw [← hcc]; cases b <;> rfl
    rw [hs.guard hg hj hk, e, if_neg (by simp), hd]
    have h := hr S1 (fun e => by rw [hcc] at e; cases e) (fun _ => rfl)
    rw [hS] at hs
    exact h _ _ (hs.put hN (fun e => by rw [hcc] at e; cases e) (fun _ => rfl))
end
/-- The entries that have come, in their order; what is left. -/
theorem leftOf_mem {ms : Array MapEntry} {seen : Array Nat} {e : MapEntry} (h : e ∈ (leftOf ms seen).toList) : e ∈ ms.toList ∧ e.born ∉ seen.toList := by
  unfold leftOf at h
  simp at h
  refine ⟨by simpa using h.1, fun h' => h.2 (by simpa using h')⟩
theorem leftOf_none {ms : Array MapEntry} {seen : Array Nat} (h : (leftOf ms seen).size = 0) : ∀ e ∈ ms.toList, e.born ∈ seen.toList := fun e he => by
  apply Classical.byContradiction
  intro hn
  have : e ∈ leftOf ms seen := by
    unfold leftOf
    rw [Array.mem_filter]
    refine ⟨by simpa using he, ?_⟩
    simpa using hn
  have := Array.size_pos_of_mem this
  omega
/-- L: the entries that have come. -/
structure Came (ms : Array MapEntry) (L : List MapEntry) : Prop where
  sub : ∀ e ∈ L, e ∈ ms.toList
  nd : (L.map (·.born)).Nodup
theorem Came.nil {ms : Array MapEntry} : Came ms [] := ⟨fun _ h => (by cases h), .nil⟩
theorem Came.push {ms : Array MapEntry} {L : List MapEntry} {e : MapEntry} (h : Came ms L) (he : e ∈ (leftOf ms (L.map (·.born)).toArray).toList) : Came ms (L ++ [e]) := by
  obtain ⟨h1, h2⟩ := leftOf_mem he
  refine ⟨fun x hx => ?_, ?_⟩
  · rcases List.mem_append.1 hx with hx | hx
    · exact h.sub x hx
    · rw [List.mem_singleton.1 hx]; exact h1
  · rw [List.map_append, List.nodup_append]
    refine ⟨h.nd, by simp, fun p hp q hq => ?_⟩
    rw [List.map_cons, List.map_nil, List.mem_singleton] at hq
    subst hq
    rintro rfl
    exact h2 (by simpa using hp)
theorem nodup_frm {α β : Type} {f : α → β} {l : List α} (h : (l.map f).Nodup) : l.Nodup := by
  induction l with
  | nil => exact .nil
  | cons x r ih =>
    rw [List.map_cons, List.nodup_cons] at h
    rw [List.nodup_cons]
    exact ⟨fun hx => h.1 (List.mem_map.2 ⟨x, hx, rfl⟩), ih h.2⟩
theorem inj_frm {α β : Type} {f : α → β} {l : List α} (h : (l.map f).Nodup) {a b : α} (ha : a ∈ l) (hb : b ∈ l) (e : f a = f b) : a = b := by
  induction l with
  | nil => cases ha
  | cons x r ih =>
    rw [List.map_cons, List.nodup_cons] at h
    rcases List.mem_cons.1 ha with ea | ha' <;> rcases List.mem_cons.1 hb with eb | hb'
    · rw [ea, eb]
    · exact absurd (List.mem_map.2 ⟨b, hb', e.symm.trans (congrArg f ea)⟩) h.1
    · exact absurd (List.mem_map.2 ⟨a, ha', e.trans (congrArg f eb)⟩) h.1
    · exact ih h.2 ha' hb'
theorem Came.len {ms : Array MapEntry} {L : List MapEntry} {clock : Nat} (h : Came ms L) : L.length ≤ ms.toList.length := (nodup_frm h.nd).length_le_of_subset h.sub
theorem Came.perm {ms : Array MapEntry} {L : List MapEntry} {clock : Nat} (h : Came ms L) (hst : Stamps ms clock) (h0 : (leftOf ms (L.map (·.born)).toArray).size = 0) : L.Perm ms.toList := by
  refine (List.perm_ext_iff_of_nodup (nodup_frm h.nd) (nodup_frm hst.2)).2 fun e => ⟨h.sub e, fun he => ?_⟩
  have := leftOf_none h0 e he
  simp only [List.mem_map] at this
  obtain ⟨x, hx, hb⟩ := this
  rw [← inj_frm hst.2 (h.sub x hx) he hb]
  exact hx
end Go.Proofs.Ytmiggpnkicdijaa

namespace Go.Proofs.Ytmiggpnkicdijaa
open Go Go.RowKit
set_option linter.unusedSimpArgs false
set_option linter.unusedVariables false
def LQ (ms : Array MapEntry) (qs : List Nat) : List MapEntry := qs.map fun q => ms.toList.getD q default
def seenQ (ms : Array MapEntry) (qs : List Nat) : Array Nat := ((LQ ms qs).map (·.born)).toArray
def FlQ (l : List FileR) (qs : List Nat) : Fl := qs.map fun q => nb (l.getD q default)
theorem seenQ_push {ms : Array MapEntry} {qs : List Nat} {q : Nat} : (seenQ ms qs).push (ms.toList.getD q default).born = seenQ ms (qs ++ [q]) := by
  unfold seenQ LQ
  simp
theorem LQ_push {ms : Array MapEntry} {qs : List Nat} {q : Nat} : LQ ms qs ++ [ms.toList.getD q default] = LQ ms (qs ++ [q]) := by
  unfold LQ
  simp
theorem FlQ_push {l : List FileR} {qs : List Nat} {q : Nat} : FlQ l (qs ++ [q]) = FlQ l qs ++ [nb (l.getD q default)] := by
  unfold FlQ
  simp
theorem raw_len {l : List FileR} {ms : Array MapEntry} {ck : Nat} (h : MapRaw (l.map fileKey) ms ck) : ms.toList.length = l.length := by
  have := congrArg List.length h.keys
  simpa using this
theorem raw_at {l : List FileR} {ms : Array MapEntry} {ck q : Nat} (h : MapRaw (l.map fileKey) ms ck) (hq : q < l.length) :
    T.v (ms.toList.getD q default).key = sv (l.getD q default).name ∧ T.v (ms.toList.getD q default).val = .v (.slice (l.getD q default).A (l.getD q default).bytes.length (l.getD q default).c) := by
  have hl := raw_len h
  have e1 := congrArg (fun x => x[q]?) h.keys
  have e2 := congrArg (fun x => x[q]?) h.vals
  simp only [List.getElem?_map, List.getElem?_eq_getElem hq, List.getElem?_eq_getElem (show q < ms.toList.length by omega), Option.map_some, Option.some.injEq] at e1 e2
  rw [getD_eq' hq, List.getD_eq_getElem?_getD, List.getElem?_eq_getElem (show q < ms.toList.length by omega)]
  exact ⟨congrArg T.v e1, e2⟩
theorem raw_born {l : List FileR} {ms : Array MapEntry} {ck : Nat} (h : MapRaw (l.map fileKey) ms ck) : ∀ e ∈ ms.toList, e.born < ck := fun e he => h.st.1 _ (List.mem_map.2 ⟨e, he, rfl⟩)
theorem files_isV (l : List FileR) : ((l.map fileKey).map (·.2)).all T.isV = true := by
  rw [List.map_map, List.all_map, List.all_eq_true]
  exact fun _ _ => rfl
theorem row_of {l : List FileR} {q : Nat} (hq : q < l.length) : (l.map fileRow)[q]? = some (fileRow (l.getD q default)) := by
  rw [List.getElem?_map, getD_eq' hq, List.getElem?_eq_getElem hq]
  rfl
theorem LQ_len {ms : Array MapEntry} {qs : List Nat} : (LQ ms qs).length = qs.length := by
  unfold LQ
  rw [List.length_map]
theorem came_q {ms : Array MapEntry} {qs : List Nat} {e : MapEntry} (he : e ∈ (leftOf ms (seenQ ms qs)).toList) : ∃ q, q < ms.toList.length ∧ e = ms.toList.getD q default ∧ q ∉ qs := by
  obtain ⟨h1, h2⟩ := leftOf_mem he
  obtain ⟨q, hq, rfl⟩ := List.mem_iff_getElem.1 h1
  have e1 : ms.toList.getD q default = ms.toList[q] := by rw [List.getD_eq_getElem?_getD, List.getElem?_eq_getElem hq]; rfl
  refine ⟨q, hq, e1.symm, fun hm => h2 ?_⟩
  show _ ∈ ((LQ ms qs).map (·.born))
  exact List.mem_map.2 ⟨_, List.mem_map.2 ⟨q, hm, rfl⟩, by rw [e1]⟩
theorem nodup_ix {α : Type} {l : List α} (h : l.Nodup) {i j : Nat} (hi : i < l.length) (hj : j < l.length) (e : l[i] = l[j]) : i = j := by
  have h2 := List.pairwise_iff_getElem.1 (show l.Pairwise (· ≠ ·) from h)
  rcases Nat.lt_trichotomy i j with hlt | rfl | hlt
  · exact absurd e (h2 i j hi hj hlt)
  · rfl
  · exact absurd e.symm (h2 j i hj hi hlt)
theorem uniq_inj {l : List FileR} (h : Uniq l) {i j : Nat} (hi : i < l.length) (hj : j < l.length) (e : (l.getD i default).name = (l.getD j default).name) : i = j := by
  rw [getD_eq' hi, getD_eq' hj] at e
  refine nodup_ix (l := l.map FileR.name) h (by simpa using hi) (by simpa using hj) ?_
  rw [List.getElem_map, List.getElem_map]
  exact e
theorem name_new {l fl : List FileR} {qs : List Nat} {q : Nat} (hu : Uniq l) (hq : q < l.length) (hqs : ∀ i ∈ qs, i < l.length) (hn : q ∉ qs) (hfl : fl.map nb = FlQ l qs) : ∀ g ∈ fl, g.name ≠ (l.getD q default).name := fun g hg e => by
  have h1 : nb g ∈ FlQ l qs := hfl ▸ List.mem_map_of_mem hg
  obtain ⟨i, hi, hin⟩ := List.mem_map.1 h1
  have h2 : (l.getD i default).name = (l.getD q default).name := by
    rw [← e]
    exact congrArg Prod.fst hin
  exact hn (uniq_inj hu (hqs i hi) hq h2 ▸ hi)
theorem perm_end {l : List FileR} {ms : Array MapEntry} {ck : Nat} {qs : List Nat} (h : MapRaw (l.map fileKey) ms ck) (hqs : ∀ i ∈ qs, i < l.length) (hc : Came ms (LQ ms qs)) (h0 : (leftOf ms (seenQ ms qs)).size = 0) : (FlQ l qs).Perm (l.map nb) := by
  have hl := raw_len h
  have hp := hc.perm h.st h0
  have hnd : qs.Nodup := nodup_frm (f := fun q => ms.toList.getD q default) (nodup_frm hc.nd)
  have hr : qs.Perm (List.range l.length) := by
    refine (List.perm_ext_iff_of_nodup hnd List.nodup_range).2 fun q => ⟨fun hq => List.mem_range.2 (hqs q hq), fun hq => ?_⟩
    have hq := List.mem_range.1 hq
    have e1 : ms.toList.getD q default = ms.toList[q] := by rw [List.getD_eq_getElem?_getD, List.getElem?_eq_getElem (by omega)]; rfl
    have hm : ms.toList.getD q default ∈ LQ ms qs := hp.symm.subset (e1 ▸ List.getElem_mem _)
    obtain ⟨i, hi, hin⟩ := List.mem_map.1 hm
    have hil := hqs i hi
    have e2 : ms.toList.getD i default = ms.toList[i] := by rw [List.getD_eq_getElem?_getD, List.getElem?_eq_getElem (by omega)]; rfl
    rw [e1, e2] at hin
    have : i = q := nodup_ix (nodup_frm h.st.2) (by omega) (by omega) hin
    exact this ▸ hi
  have e : l.map nb = (List.range l.length).map fun q => nb (l.getD q default) := by
    apply List.ext_getElem?
    intro i
    rw [List.getElem?_map, List.getElem?_map]
    by_cases hi : i < l.length
    · rw [List.getElem?_range hi, List.getElem?_eq_getElem hi, Option.map_some, Option.map_some, getD_eq' hi]
    · rw [List.getElem?_eq_none (by omega), List.getElem?_eq_none (by rw [List.length_range]; omega)]; rfl
  rw [e]
  exact hr.map _
section
variable {α : Type} {it bx mp w m t f n : α} {A B : List α}
theorem perm_out {q : Nat} (hq : B[q]? = some f) : (it :: bx :: mp :: w :: m :: t :: (A ++ B)).Perm (f :: it :: bx :: mp :: w :: m :: t :: (A ++ (B.take q ++ B.drop (q + 1)))) := by
  obtain ⟨hl, rfl⟩ := List.getElem?_eq_some_iff.1 hq
  have e : it :: bx :: mp :: w :: m :: t :: (A ++ B) = (it :: bx :: mp :: w :: m :: t :: (A ++ B.take q)) ++ B[q] :: B.drop (q + 1) := by
    conv => lhs; rw [← List.take_append_drop q B, List.drop_eq_getElem_cons hl]
    simp [List.append_assoc]
  rw [e]
  refine List.perm_middle.trans (.of_eq ?_)
  simp [List.append_assoc]
theorem perm_in {q : Nat} (hq : B[q]? = some f) : (f :: n :: it :: bx :: mp :: w :: m :: t :: (A ++ (B.take q ++ B.drop (q + 1)))).Perm (it :: bx :: mp :: w :: m :: t :: ((A ++ [n]) ++ B)) := by
  refine ((perm_out (it := it) (bx := bx) (mp := mp) (w := w) (m := m) (t := t) (A := A ++ [n]) hq).trans ?_).symm
  refine .cons _ ?_
  have e : it :: bx :: mp :: w :: m :: t :: ((A ++ [n]) ++ (B.take q ++ B.drop (q + 1))) = (it :: bx :: mp :: w :: m :: t :: A) ++ n :: (B.take q ++ B.drop (q + 1)) := by simp
  rw [e]
  exact List.perm_middle
theorem perm_outL {F : List α} {q : Nat} (hq : B[q]? = some f) : (F ++ (A ++ B)).Perm (f :: (F ++ (A ++ (B.take q ++ B.drop (q + 1))))) := by
  obtain ⟨hl, rfl⟩ := List.getElem?_eq_some_iff.1 hq
  have e : F ++ (A ++ B) = (F ++ (A ++ B.take q)) ++ B[q] :: B.drop (q + 1) := by
    conv => lhs; rw [← List.take_append_drop q B, List.drop_eq_getElem_cons hl]
    simp [List.append_assoc]
  rw [e]
  refine List.perm_middle.trans (.of_eq ?_)
  simp [List.append_assoc]
theorem perm_inL {F : List α} {q : Nat} (hq : B[q]? = some f) : (f :: n :: (F ++ (A ++ (B.take q ++ B.drop (q + 1))))).Perm (F ++ ((A ++ [n]) ++ B)) := by
  refine ((perm_outL (F := F) (A := A ++ [n]) hq).trans ?_).symm
  refine .cons _ ?_
  have e : F ++ ((A ++ [n]) ++ (B.take q ++ B.drop (q + 1))) = (F ++ A) ++ n :: (B.take q ++ B.drop (q + 1)) := by simp
  rw [e]
  refine List.perm_middle.trans (.of_eq ?_)
  simp
theorem perm_out9 {a0 a1 a2 a3 a4 a5 a6 a7 a8 : α} {q : Nat} (hq : B[q]? = some f) : (a0 :: a1 :: a2 :: a3 :: a4 :: a5 :: a6 :: a7 :: a8 :: (A ++ B)).Perm (f :: a0 :: a1 :: a2 :: a3 :: a4 :: a5 :: a6 :: a7 :: a8 :: (A ++ (B.take q ++ B.drop (q + 1)))) := perm_outL (F := [a0, a1, a2, a3, a4, a5, a6, a7, a8]) hq
theorem perm_in8 {a1 a2 a3 a4 a5 a6 a7 a8 : α} {q : Nat} (hq : B[q]? = some f) : (f :: n :: a1 :: a2 :: a3 :: a4 :: a5 :: a6 :: a7 :: a8 :: (A ++ (B.take q ++ B.drop (q + 1)))).Perm (a1 :: a2 :: a3 :: a4 :: a5 :: a6 :: a7 :: a8 :: ((A ++ [n]) ++ B)) := perm_inL (F := [a1, a2, a3, a4, a5, a6, a7, a8]) hq
theorem perm_new4 {a1 a2 a3 a4 a5 a6 a7 a8 : α} : (a5 :: a6 :: a7 :: a8 :: a1 :: a2 :: a3 :: a4 :: B).Perm ((a1 :: a2 :: a3 :: a4 :: B) ++ [a5] ++ [a6] ++ [a7] ++ [a8]) := by
  have h : ([a5, a6, a7, a8] ++ (a1 :: a2 :: a3 :: a4 :: B)).Perm ((a1 :: a2 :: a3 :: a4 :: B) ++ [a5, a6, a7, a8]) := List.perm_append_comm
  simpa using h
theorem perm_done4 {a1 a2 a3 a4 a5 a6 a7 a8 : α} : (a5 :: a6 :: a7 :: a8 :: a1 :: a2 :: a3 :: a4 :: (A ++ B)).Perm ((a1 :: a2 :: a3 :: a4 :: B) ++ (a5 :: a6 :: a7 :: a8 :: A)) := by
  have h : ([a5, a6, a7, a8] ++ A ++ ([a1, a2, a3, a4] ++ B)).Perm (([a1, a2, a3, a4] ++ B) ++ ([a5, a6, a7, a8] ++ A)) := List.perm_append_comm
  have h2 : ([a5, a6, a7, a8] ++ ([a1, a2, a3, a4] ++ (A ++ B))).Perm ([a5, a6, a7, a8] ++ A ++ ([a1, a2, a3, a4] ++ B)) := by
    rw [List.append_assoc]
    exact List.Perm.append_left _ (List.perm_append_comm_assoc ..)
  exact h2.trans h
theorem perm_done : (bx :: mp :: w :: m :: t :: n :: (A ++ B)).Perm ((w :: m :: t :: B) ++ (bx :: mp :: n :: A)) := by
  have h1 : (bx :: mp :: w :: m :: t :: n :: (A ++ B)).Perm (w :: m :: t :: bx :: mp :: n :: (A ++ B)) := by
    have : ([bx, mp] ++ ([w, m, t] ++ n :: (A ++ B))).Perm ([w, m, t] ++ ([bx, mp] ++ n :: (A ++ B))) := List.perm_append_comm_assoc ..
    exact this
  refine h1.trans ?_
  have h2 : (bx :: mp :: n :: (A ++ B)).Perm (B ++ (bx :: mp :: n :: A)) := by
    have : ((bx :: mp :: n :: A) ++ B).Perm (B ++ (bx :: mp :: n :: A)) := List.perm_append_comm
    exact this
  exact h2.cons _ |>.cons _ |>.cons _
end
theorem sumT_over {l : List StepS} {i : Nat} (h : l.length ≤ i) : sumT (l.take (i + 1)) = sumT (l.take i) := by
  rw [List.take_of_length_le h, List.take_of_length_le (by omega)]
theorem perm_acb {α : Type} {A B C : List α} : (A ++ (C ++ B)).Perm ((A ++ B) ++ C) := by
  rw [List.append_assoc]
  exact List.Perm.append_left _ List.perm_append_comm
theorem perm_accb {α : Type} {A B C D : List α} : ((A ++ C) ++ (B ++ D)).Perm (A ++ ((C ++ D) ++ B)) := by
  rw [List.append_assoc, List.append_assoc]
  exact List.Perm.append_left _ (List.Perm.append_left _ List.perm_append_comm)
theorem Both.copied {n : Nat} {ws ws' : WS} {ds ds' : DS} (h : Both n ws ds) (e1 : ws'.stdin = ws.stdin) (e2 : ws'.opn = ws.opn) (e3 : ws'.trace = ws.trace) (e4 : (ws'.files.map nb).Perm (ws.files.map nb)) (e5 : pl ds' = pl ds) : Both n ws' ds' := by
  have hr := h.r
  have hs := h.s
  have e4 : (absW ws').files.Perm (absW ws).files := e4
  refine ⟨⟨⟨?_, ?_, ?_, ?_, ?_, ?_, ?_⟩, ⟨?_, ?_⟩, ?_, ?_⟩, ?_⟩
  · show ws'.opn.length = 19; rw [e2]; exact hr.pb.opn
  · show ws'.trace.length ≤ n; rw [e3]; exact hr.pb.tr
  · show ∀ e ∈ ws'.trace, _; rw [e3]; exact hr.pb.txt
  · exact fun f hf => hr.pb.fl f (e4.subset hf)
  · show ∀ e ∈ ws'.opn, _; rw [e2]; exact hr.pb.pl
  · show ws'.stdin.length ≤ n; rw [e1]; exact hr.pb.sin
  · rw [e4.length_eq]; exact hr.pb.nf
  · show ws'.opn.length = 19; rw [e2]; exact hr.pb.opn
  · intro d hd q
    have hd' : d ∈ (absW ws).opn := by
      have hd : d ∈ ws'.opn := hd
      rw [e2] at hd; exact hd
    rw [getP_perm ((e4.map (·.1)).nodup_iff.2 hr.nd) e4]
    exact hr.nm.2 d hd' q
  · exact (e4.map (·.1)).nodup_iff.2 hr.nd
  · exact fun f hf => hr.ns f (e4.subset hf)
  · rw [e5]
    exact ⟨hs.stdin.trans e1.symm, hs.opn.trans e2.symm, hs.trace.trans e3.symm, e4.trans hs.files, hs.srt⟩
end Go.Proofs.Ytmiggpnkicdijaa

namespace Go.Proofs.Ytmiggpnkicdijaa
open Go Go.RowKit
set_option linter.unusedVariables false
set_option linter.unnecessarySimpa false
set_option linter.unusedSimpArgs false

set_option maxHeartbeats 400000 in
theorem clone52R (A : Option Addr) (n c : Nat) (cs : List T) (hl : cs.length = n * 1) (hn : n ≤ 1099511627776) :
    ACalls Try.prog 52 [.v (.slice A n c)] [.row A n c 5 1 cs] (fun t S => ∃ A' c', t = .v (.slice A' n c') ∧ S = [.row A n c 5 1 cs, .row A' n c' 5 1 cs]) := by
  refine ACalls.intro Try.func52 rfl Try.ntmps52 (Nat.le_of_ble_eq_true rfl) rfl fun X w0 => ?_
  refine AW.rseq ?_
  refine Y1 (Yv.assign rfl eV) ?_
  refine nl ?_
  refine AW.seq ?_
  refine AW.rowFact 0 rfl (fun hnone => ?_)
  refine AW.rseq ?_
  refine Y1 (Yv.move rfl eV) ?_
  refine Y1 (Yv.eqNilV rfl so_71 (E rfl rfl)) ?_
  refine nl ?_
  refine AW.cond rfl (fun h0t => ?_) (fun h0f => ?_)
  ·
   try replace h0t := of_decide_eq_true h0t
   refine AW.rseq ?_
   refine Y1 (Yv.assign rfl eV) ?_
   refine nl ?_
   obtain ⟨rfl, rfl, rfl⟩ := hnone (Option.isNone_iff_eq_none.1 h0t)
   refine AW.rowNil 5 1 ?_
   refine AW.ret (retI (.tmp rfl .nil) ?_)
   exact ⟨none, 0, rfl, rfl⟩
  try replace h0f := of_decide_eq_false h0f
  refine AW.skip ?_
  refine AW.rseq ?_
  refine AWL.buildSliceRow rfl rfl (B rfl) rfl el_71 (B rfl) rfl evs0 (Nat.le_of_ble_eq_true rfl) rfl rfl (fun A5 => ?_)
  refine Y1 (Yv.move rfl eV) ?_
  refine AWL.appendRow (i := 1) rfl rfl (B rfl) rfl el_71 (B rfl) rfl (E rfl rfl) (SrcT.row so_71 (i := 0) rfl (E rfl rfl)) (by unfold maxLen; omega) (by omega) (fun A7 c7 => ?_)
  refine Y1 (Yv.assign rfl eV) ?_
  refine nl ?_
  refine AW.ret (retI (.tmp rfl .nil) ?_)
  refine ⟨A7, c7, by rw [Nat.zero_add]; rfl, ?_⟩
  rw [Nat.zero_add]
  rfl

set_option maxHeartbeats 4000000 in
theorem Copy24 (b m : Nat) (ws : WS) (n : Nat) (hr : RP n (absW ws)) (hn : n ≤ 549755813888) :
    ACalls Try.prog 24 [wp b] (WSt b m ws) (fun t S => ∃ b2 m2 fl tA tc, t = wp b2 ∧ S = WSt b m ws ++ WSt b2 m2 ⟨fl, ws.stdin, ws.opn, ws.trace, tA, tc⟩ ∧ (fl.map nb).Perm (ws.files.map nb)) := by
  have hw := hr.wb
  have ho := hw.opn
  have htl := hw.tr
  have hu := hr.uq
  refine ACalls.intro Try.func24 rfl Try.ntmps24 (Nat.le_of_ble_eq_true rfl) rfl fun X w0 => ?_
  refine AW.rseq ?_
  refine Y1 (Yv.assign rfl eV) ?_
  refine nl ?_
  refine AW.seq ?_
  refine AW.rseq ?_
  refine Y1 (Yv.move rfl eV) ?_
  refine Y1 (Yv.eqlNilP rfl pn_24 (E rfl rfl)) ?_
  refine nl ?_
  refine AW.cond rfl (fun h0t => ?_) (fun h0f => ?_)
  ·
   try replace h0t := of_decide_eq_true h0t
   cases h0t
  try replace h0f := of_decide_eq_false h0f
  refine AW.skip ?_
  refine AW.rseq ?_
  refine Y1 (Yv.move rfl eV) ?_
  refine Y1 (Yv.nilChk rfl eV) ?_
  refine Y1 (Yv.loadBoxA (i := 0) (l' := wCells m ws.stdin ws.opn ws.tA ws.trace.length ws.tc) rfl ag_70 rfl (E rfl rfl) (by rw [List.drop_zero, List.take_of_length_le (by rw [wCells_len, ho]; exact Nat.le_refl _)]) (by rw [wCells_len, ho])) ?_
  refine AWL.allocOp rfl rfl (B rfl) rfl zc_70 (fun b3 => ?_)
  refine AWL.perm (List.perm_append_singleton _ _).symm ?_
  refine AWL.storeBox (i := 0) rfl rfl rfl ag_70 rfl (E rfl rfl) (E rfl rfl) rfl (by show (wCells m ws.stdin ws.opn ws.tA ws.trace.length ws.tc).length = 60; rw [wCells_len, ho]) (by show 0 + 60 ≤ 60; decide) ?_
  refine nl ?_
  refine AW.eqS (S' := .box b3 70 (wCells m ws.stdin ws.opn ws.tA ws.trace.length ws.tc) :: WSt b m ws) ?_ ?_
  · show Ent.box b3 70 (_ ++ wCells m ws.stdin ws.opn ws.tA ws.trace.length ws.tc ++ _) :: _ = _
    rw [List.take_zero, List.nil_append, List.drop_of_length_le (by simp), List.append_nil]
  refine AW.rseq ?_
  refine AWL.makeMapOp rfl rfl (B rfl) rfl (fun b11 => ?_)
  refine AWL.perm (List.perm_append_singleton _ _).symm ?_
  refine Y1 (Yv.fieldBox rfl fo_70_0 eV) ?_
  refine AWL.storeBox (i := 1) rfl rfl rfl ag_64 rfl (E rfl rfl) (E rfl rfl) rfl rfl (Nat.le_of_ble_eq_true rfl) ?_
  refine nl ?_
  refine AW.eqS (S' := .map b11 [] :: .box b3 70 (wCells b11 ws.stdin ws.opn ws.tA ws.trace.length ws.tc) :: WSt b m ws) rfl ?_
  refine AW.seq ?_
  refine AW.openMap (i := 3) rfl (files_isV _) (fun ms ck hraw => ?_)
  refine AW.eqS (S' := .map b11 [] :: .box b3 70 (wCells b11 ws.stdin ws.opn ws.tA ws.trace.length ws.tc) :: .box b 70 (wCells m ws.stdin ws.opn ws.tA ws.trace.length ws.tc) :: .raw m (.map ms ck) :: .row ws.tA ws.trace.length ws.tc 36 3 (ws.trace.flatMap evCells) :: ws.files.map fileRow) rfl ?_
  refine AW.rseq ?_
  refine Y1 (Yv.move rfl eV) ?_
  refine Y1 (Yv.nilChk rfl eV) ?_
  refine Y1 (Yv.fieldBox rfl fo_70_0 eV) ?_
  refine Y1 (Yv.loadBox rfl ag_64 (i := 2) rfl (E rfl rfl) rfl) ?_
  refine AWL.rangeMap (i := 3) rfl rfl (B rfl) rfl Try.underlying64 rfl (E rfl rfl) (fun b17 => ?_)
  refine nl ?_
  refine AW.perm (S' := .raw b17 (.mapIter (some m) ck #[] ck) :: .box b3 70 (wCells b11 ws.stdin ws.opn ws.tA ws.trace.length ws.tc) :: .map b11 [] :: .box b 70 (wCells m ws.stdin ws.opn ws.tA ws.trace.length ws.tc) :: .raw m (.map ms ck) :: .row ws.tA ws.trace.length ws.tc 36 3 (ws.trace.flatMap evCells) :: ws.files.map fileRow) (((List.Perm.swap _ _ _).cons _).trans (List.perm_append_singleton _ _).symm) ?_
  refine AW.block ?_
  refine AW.loop2 (fun (qs : List Nat) (fl : List FileR) => [(0, true, wp b), (3, true, wp b3), (17, true, .v (.pointer (some ⟨b17, 0, none⟩)))]) (fun (qs : List Nat) (fl : List FileR) => (.raw b17 (.mapIter (some m) ck (seenQ ms qs) ck) :: .box b3 70 (wCells b11 ws.stdin ws.opn ws.tA ws.trace.length ws.tc) :: .map b11 (fl.map fileKey) :: .box b 70 (wCells m ws.stdin ws.opn ws.tA ws.trace.length ws.tc) :: .raw m (.map ms ck) :: .row ws.tA ws.trace.length ws.tc 36 3 (ws.trace.flatMap evCells) :: (fl.map fileRow ++ ws.files.map fileRow))) (fun (qs : List Nat) (fl : List FileR) => Came ms (LQ ms qs) ∧ (∀ i ∈ qs, i < ws.files.length) ∧ fl.map nb = FlQ ws.files qs) (fun (qs : List Nat) (fl : List FileR) => ms.toList.length - qs.length) ([]) ([]) ?_ ?_ ?_ ?_
  · exact ⟨Came.nil, fun _ h => (by cases h), rfl⟩
  · exact (Sub.cons rfl rfl (Sub.cons rfl rfl (Sub.cons rfl rfl Sub.nil)))
  · rfl
  ·
   intro qs fl hinv
   obtain ⟨hc, hqs, hfl⟩ := hinv
   refine AW.rseq ?_
   refine AWL.nextMap1 (i := 0) (j := 4) rfl rfl (B rfl) rfl rfl rfl (raw_born hraw) (Nat.le_refl _) (E rfl rfl) ?_
   rintro bb tl seen1 hnx
   refine Y1 (Yv.extract rfl eV rfl) ?_
   refine nl ?_
   refine AW.seq ?_
   refine AW.cond rfl (fun h1t => ?_) (fun h1f => ?_)
   ·
    try replace h1t := of_decide_eq_true h1t
    obtain ⟨_, e, he, rfl⟩ := hnx.resolve_left (fun q => by rw [q.1] at h1t; cases h1t)
    have hc1' := hc.push he
    obtain ⟨q, hqm, rfl, hqn⟩ := came_q he
    rw [LQ_push] at hc1'
    have hc1 := hc1'
    have hq : q < ws.files.length := by rw [← raw_len hraw]; exact hqm
    obtain ⟨hkx, hvx⟩ := raw_at hraw hq
    have hfb : (ws.files.getD q default).bytes.length ≤ n := hw.fl _ (getD_mem' hq)
    refine AW.skip ?_
    refine AW.block ?_
    refine AW.rseq ?_
    refine Y1 (Yv.eqT (t' := .tup [sv (ws.files.getD q default).name, .v (.slice (ws.files.getD q default).A (ws.files.getD q default).bytes.length (ws.files.getD q default).c)]) (Yv.entryMap (i := 0) (j := 4) rfl rfl rfl (getD_mem' hqm) hraw.st (E rfl rfl)) (by rw [hkx, hvx])) ?_
    refine Y1 (Yv.extract rfl eV rfl) ?_
    refine Y1 (Yv.extract rfl eV rfl) ?_
    refine Y1 (Yv.assign rfl eV) ?_
    refine Y1 (Yv.assign rfl eV) ?_
    refine nl ?_
    refine AW.perm (perm_out (A := fl.map fileRow) (row_of hq)).symm ?_
    refine AW.regionP rfl ?_
    refine AWP.take (i := 0) rfl (by kernel_rfl) (by kernel_rfl) (by kernel_rfl) rfl rfl (B rfl) (freeField rfl fo_70_0 (E rfl rfl)) ?_
    refine AWP.take (i := 2) rfl (by kernel_rfl) (by kernel_rfl) (by kernel_rfl) rfl rfl (B rfl) (freeMove rfl (E rfl rfl)) ?_
    refine AWP.take (i := 3) rfl (by kernel_rfl) (by kernel_rfl) (by kernel_rfl) rfl rfl (B rfl) (freeMove rfl (E rfl rfl)) ?_
    refine AWP.two (i := 1) (j := 4) (by kernel_rfl) rfl rfl ?_ ?_
    ·
     refine Y1 (Yv.loadBox rfl ag_64 (i := 2) rfl (E rfl rfl) rfl) ?_
     refine nl ?_
     refine AWP.one (i := 4) (by kernel_rfl) rfl ?_
     refine C1 rfl ce_52 (E rfl rfl) (evsC (E rfl rfl) evs0) (S1 := [.row (ws.files.getD q default).A (ws.files.getD q default).bytes.length (ws.files.getD q default).c 5 1 ((ws.files.getD q default).bytes.map u8)]) (S2 := _) rfl (clone52R (ws.files.getD q default).A (ws.files.getD q default).bytes.length (ws.files.getD q default).c ((ws.files.getD q default).bytes.map u8) (by rw [List.length_map, Nat.mul_one]) (by omega)) ?_
     rintro t27 S27 ⟨A27, c27, rfl, rfl⟩
     refine nl ?_
     refine AWP.one (i := 5) (by kernel_rfl) rfl ?_
     refine AWL.mapUpd (k := .s _) (i := 4) rfl rfl (.inl rfl) mp_64 rfl (E rfl rfl) (E rfl rfl) (E rfl rfl) rfl rfl (files_good _) ?_
     refine AWL.perm (perm_in (row_of hq)).symm ?_
     refine nl ?_
     refine AWP.done (by kernel_rfl) ?_
     refine ⟨qs ++ [q], fl ++ [⟨(ws.files.getD q default).name, (ws.files.getD q default).bytes, A27, c27⟩], ⟨hc1, ?_, ?_⟩, ?_, (Sub.cons rfl rfl (Sub.cons rfl rfl (Sub.cons rfl rfl Sub.nil))), ?_⟩
     · intro i hi
       rcases List.mem_append.1 hi with hi | hi
       · exact hqs i hi
       · rw [List.mem_singleton.1 hi]; exact hq
     · rw [FlQ_push, ← hfl, List.map_append]; rfl
     · have := hc1.len (clock := ck)
       rw [LQ_len, List.length_append] at this
       rw [List.length_append]
       simp only [List.length_cons, List.length_nil] at this ⊢
       omega
     · rw [← seenQ_push, ← put_new (l := fl) ⟨(ws.files.getD q default).name, (ws.files.getD q default).bytes, A27, c27⟩ (name_new hu hq hqs hqn hfl), List.map_append]
       rfl
    ·
     refine C1 rfl ce_52 (E rfl rfl) (evsC (E rfl rfl) evs0) (S1 := [.row (ws.files.getD q default).A (ws.files.getD q default).bytes.length (ws.files.getD q default).c 5 1 ((ws.files.getD q default).bytes.map u8)]) (S2 := _) rfl (clone52R (ws.files.getD q default).A (ws.files.getD q default).bytes.length (ws.files.getD q default).c ((ws.files.getD q default).bytes.map u8) (by rw [List.length_map, Nat.mul_one]) (by omega)) ?_
     rintro t27 S27 ⟨A27, c27, rfl, rfl⟩
     refine nl ?_
     refine AWP.one (i := 1) (by kernel_rfl) rfl ?_
     refine Y1 (Yv.loadBox rfl ag_64 (i := 3) rfl (E rfl rfl) rfl) ?_
     refine nl ?_
     refine AWP.one (i := 5) (by kernel_rfl) rfl ?_
     refine AWL.mapUpd (k := .s _) (i := 4) rfl rfl (.inl rfl) mp_64 rfl (E rfl rfl) (E rfl rfl) (E rfl rfl) rfl rfl (files_good _) ?_
     refine AWL.perm (perm_in (row_of hq)).symm ?_
     refine nl ?_
     refine AWP.done (by kernel_rfl) ?_
     refine ⟨qs ++ [q], fl ++ [⟨(ws.files.getD q default).name, (ws.files.getD q default).bytes, A27, c27⟩], ⟨hc1, ?_, ?_⟩, ?_, (Sub.cons rfl rfl (Sub.cons rfl rfl (Sub.cons rfl rfl Sub.nil))), ?_⟩
     · intro i hi
       rcases List.mem_append.1 hi with hi | hi
       · exact hqs i hi
       · rw [List.mem_singleton.1 hi]; exact hq
     · rw [FlQ_push, ← hfl, List.map_append]; rfl
     · have := hc1.len (clock := ck)
       rw [LQ_len, List.length_append] at this
       rw [List.length_append]
       simp only [List.length_cons, List.length_nil] at this ⊢
       omega
     · rw [← seenQ_push, ← put_new (l := fl) ⟨(ws.files.getD q default).name, (ws.files.getD q default).bytes, A27, c27⟩ (name_new hu hq hqs hqn hfl), List.map_append]
       rfl
   try replace h1f := of_decide_eq_false h1f
   obtain ⟨_, hsn, hlf⟩ := hnx.resolve_right (fun q => by rw [q.1] at h1f; cases h1f)
   subst hsn
   refine AW.exit ?_
   refine AW.dropAt 0 ?_
   refine AW.shutMap (i := 3) rfl hraw ?_
   refine AW.eqS (S' := .box b3 70 (wCells b11 ws.stdin ws.opn ws.tA ws.trace.length ws.tc) :: .map b11 (fl.map fileKey) :: .box b 70 (wCells m ws.stdin ws.opn ws.tA ws.trace.length ws.tc) :: .map m (ws.files.map fileKey) :: .row ws.tA ws.trace.length ws.tc 36 3 (ws.trace.flatMap evCells) :: (fl.map fileRow ++ ws.files.map fileRow)) rfl ?_
   refine AW.rseq ?_
   refine Y1 (Yv.move rfl eV) ?_
   refine Y1 (Yv.nilChk rfl eV) ?_
   refine Y1 (Yv.fieldBox rfl fo_70_3 eV) ?_
   refine Y1 (Yv.loadBox rfl ag_33 (i := 2) rfl (E rfl rfl) (trace_at ho)) ?_
   refine AWL.callF rfl rfl (B rfl) rfl ce_31 (E rfl rfl) (evsC (E rfl rfl) evs0) (F1 := [.box b3 70 (wCells b11 ws.stdin ws.opn ws.tA ws.trace.length ws.tc), .map b11 (fl.map fileKey), .box b 70 (wCells m ws.stdin ws.opn ws.tA ws.trace.length ws.tc), .map m (ws.files.map fileKey)]) (S1 := [.row ws.tA ws.trace.length ws.tc 36 3 (ws.trace.flatMap evCells)]) (F2 := (fl.map fileRow ++ ws.files.map fileRow)) rfl (cloneEv31R ws.tA ws.trace.length ws.tc _ len_ev (by omega)) ?_
   rintro t32 S32 ⟨A32, c32, rfl, rfl⟩
   refine Y1 (Yv.fieldBox rfl fo_70_3 eV) ?_
   refine AWL.storeBox (i := 0) rfl rfl rfl ag_33 rfl (E rfl rfl) (E rfl rfl) rfl rfl (by first | (rw [wCells_len, ho]; omega) | (simp only [wCells_len, List.length_set, ho]; omega)) ?_
   refine nl ?_
   refine AW.eqS (S' := .box b3 70 (wCells b11 ws.stdin ws.opn A32 ws.trace.length c32) :: .map b11 (fl.map fileKey) :: .box b 70 (wCells m ws.stdin ws.opn ws.tA ws.trace.length ws.tc) :: .map m (ws.files.map fileKey) :: .row ws.tA ws.trace.length ws.tc 36 3 (ws.trace.flatMap evCells) :: .row A32 ws.trace.length c32 36 3 (ws.trace.flatMap evCells) :: (fl.map fileRow ++ ws.files.map fileRow)) ?_ ?_
   · rw [← set_trace (A' := A32) (n' := ws.trace.length) (c' := c32) ho]
     rfl
   refine AW.perm (S' := WSt b m ws ++ WSt b3 b11 ⟨fl, ws.stdin, ws.opn, ws.trace, A32, c32⟩) perm_done.symm ?_
   refine AW.rseq ?_
   refine Y1 (Yv.assign rfl eV) ?_
   refine nl ?_
   refine AW.ret (retI (.tmp rfl .nil) ?_)
   refine ⟨b3, b11, fl, A32, c32, rfl, rfl, ?_⟩
   rw [hfl]
   exact perm_end hraw hqs hc hlf

end Go.Proofs.Ytmiggpnkicdijaa

namespace Go.Proofs.Ytmiggpnkicdijaa
open Go Go.RowKit
set_option linter.unusedVariables false
set_option linter.unnecessarySimpa false
set_option linter.unusedSimpArgs false

set_option maxHeartbeats 4000000 in
theorem DCopy25 (b : Nat) (ds : DS) (n : Nat) (hw : PB n (pl ds)) (hn : n ≤ 1099511627776) :
    ACalls Try.prog 25 [wp b] (DSt b ds) (fun t S => ∃ b2 ds2, t = wp b2 ∧ S = DSt b ds ++ DSt b2 ds2 ∧ pl ds2 = pl ds) := by
  obtain ⟨ho, htr, htx, hfl, hpl, hsi, hnf⟩ := hw
  have ho : ds.opn.length = 19 := ho
  have htr : ds.trace.length ≤ n := htr
  have hsi : ds.stdin.length ≤ n := hsi
  have hnf : ds.files.length ≤ n := by have h := hnf; unfold pl at h; rwa [List.length_map] at h
  have htxt : ∀ e ∈ ds.trace, e.text.length ≤ n := htx
  refine ACalls.intro Try.func25 rfl Try.ntmps25 (Nat.le_of_ble_eq_true rfl) rfl fun X w0 => ?_
  refine AW.rseq ?_
  refine Y1 (Yv.assign rfl eV) ?_
  refine nl ?_
  refine AW.rseq ?_
  refine Y1 (Yv.move rfl eV) ?_
  refine Y1 (Yv.nilChk rfl eV) ?_
  refine Y1 (Yv.fieldBox rfl fo_82_1 eV) ?_
  refine Y1 (Yv.loadBox rfl ag_9 (i := 0) rfl (E rfl rfl) rfl) ?_
  refine Y1 (Yv.buildS rfl sh_82 (evpC (E rfl rfl) evp0) (fun _ => rfl)) ?_
  refine AWL.boxOp rfl rfl (B rfl) rfl (E rfl rfl) rfl (fun b11 => ?_)
  refine Y1 (Yv.assign rfl eV) ?_
  refine nl ?_
  refine AW.rowNil 93 2 ?_
  refine AW.rowNil 86 3 ?_
  refine AW.rowNil 36 3 ?_
  refine AW.perm (S' := .box b11 82 [.v (.slice none 0 0), sv ds.stdin, .v (.slice none 0 0), .v (.slice none 0 0)] :: .row none 0 0 93 2 [] :: .row none 0 0 86 3 [] :: .row none 0 0 36 3 [] :: .box b 82 (dCells ds) :: .row ds.lA ds.files.length ds.lc 93 2 (ds.files.flatMap fileCells) :: .row ds.dA ds.opn.length ds.dc 86 3 (ds.opn.flatMap descCells) :: .row ds.tA ds.trace.length ds.tc 36 3 (ds.trace.flatMap evCells) :: ds.files.map fileRow) perm_new4 ?_
  refine AW.seq ?_
  refine AW.rseq ?_
  refine Y1 (Yv.assign rfl eV) ?_
  refine nl ?_
  refine AW.block ?_
  refine AW.loop4 (fun (j : Nat) (fs : List FileR) (lA : Option Addr) (lc : Nat) => [(0, true, wp b), (3, true, wp b11), (4, true, .v (.int .i64 (j : Int)))]) (fun (j : Nat) (fs : List FileR) (lA : Option Addr) (lc : Nat) => (.box b11 82 [.v (.slice lA j lc), sv ds.stdin, .v (.slice none 0 0), .v (.slice none 0 0)] :: .row lA j lc 93 2 (fs.flatMap fileCells) :: .row none 0 0 86 3 [] :: .row none 0 0 36 3 [] :: .box b 82 (dCells ds) :: .row ds.lA ds.files.length ds.lc 93 2 (ds.files.flatMap fileCells) :: .row ds.dA ds.opn.length ds.dc 86 3 (ds.opn.flatMap descCells) :: .row ds.tA ds.trace.length ds.tc 36 3 (ds.trace.flatMap evCells) :: (fs.map fileRow ++ ds.files.map fileRow))) (fun (j : Nat) (fs : List FileR) (lA : Option Addr) (lc : Nat) => j ≤ ds.files.length ∧ fs.map nb = (ds.files.take j).map nb) (fun (j : Nat) (fs : List FileR) (lA : Option Addr) (lc : Nat) => ds.files.length - j) 0 ([]) none 0 ?_ ?_ ?_ ?_
  · exact ⟨Nat.zero_le _, rfl⟩
  · exact (Sub.cons rfl rfl (Sub.cons rfl rfl (Sub.cons rfl rfl Sub.nil)))
  · rfl
  ·
   intro j fs lA lc hinv
   obtain ⟨hj, hfs⟩ := hinv
   refine AW.seq ?_
   refine AW.rseq ?_
   refine Y1 (Yv.move rfl eV) ?_
   refine Y1 (Yv.move rfl eV) ?_
   refine Y1 (Yv.nilChk rfl eV) ?_
   refine Y1 (Yv.fieldBox rfl fo_82_0 eV) ?_
   refine Y1 (Yv.loadBox rfl ag_79 (i := 4) rfl (E rfl rfl) rfl) ?_
   refine Y1 (Yv.lenV rfl so_79 (E rfl rfl)) ?_
   refine Y1 (Yv.lss rfl eV eV) ?_
   refine nl ?_
   refine AW.cond rfl (fun h0t => ?_) (fun h0f => ?_)
   ·
    try replace h0t := of_decide_eq_true h0t
    have hjl : j < ds.files.length := by omega
    have hfb : (ds.files.getD j default).bytes.length ≤ n := hfl (nb (ds.files.getD j default)) (List.mem_map_of_mem (getD_mem' hjl))
    refine AW.skip ?_
    refine AW.seq ?_
    refine AW.block ?_
    refine AW.rseq ?_
    refine Y1 (Yv.move rfl eV) ?_
    refine Y1 (Yv.nilChk rfl eV) ?_
    refine Y1 (Yv.fieldBox rfl fo_82_0 eV) ?_
    refine Y1 (Yv.loadBox rfl ag_79 (i := 4) rfl (E rfl rfl) rfl) ?_
    refine Y1 (Yv.move rfl eV) ?_
    refine Y1 (Yv.indexRow rfl ss_79 (i := 5) rfl (E rfl rfl) (E rfl rfl) (fun hg => ⟨rfl, by omega⟩)) ?_
    refine Y1 (Yv.fieldEp rfl fo_93_1 (E rfl rfl)) ?_
    refine Y1 (Yv.loadEp rfl ag_71 (i := 5) rfl (E rfl rfl) (fun hg => fby_at (by omega))) ?_
    refine Y1 (Yv.lenV rfl so_71 (E rfl rfl)) ?_
    refine AWL.makeRow (n := (ds.files.getD j default).bytes.length) (c := (ds.files.getD j default).bytes.length) rfl rfl (B rfl) rfl el_71 (E rfl rfl) (E rfl rfl) (Nat.le_refl _) (by omega) (by unfold maxLen; omega) (fun A30 => ?_)
    refine Y1 (Yv.assign rfl eV) ?_
    refine nl ?_
    refine AW.perm (List.perm_append_singleton _ _).symm ?_
    refine AW.perm (perm_out9 (A := fs.map fileRow) (row_of hjl)).symm ?_
    refine AW.rseq ?_
    refine Y1 (Yv.move rfl eV) ?_
    refine Y1 (Yv.move rfl eV) ?_
    refine Y1 (Yv.nilChk rfl eV) ?_
    refine Y1 (Yv.fieldBox rfl fo_82_0 eV) ?_
    refine Y1 (Yv.loadBox rfl ag_79 (i := 6) rfl (E rfl rfl) rfl) ?_
    refine Y1 (Yv.move rfl eV) ?_
    refine Y1 (Yv.indexRow rfl ss_79 (i := 7) rfl (E rfl rfl) (E rfl rfl) (fun hg => ⟨rfl, by omega⟩)) ?_
    refine Y1 (Yv.fieldEp rfl fo_93_1 (E rfl rfl)) ?_
    refine Y1 (Yv.loadEp rfl ag_71 (i := 7) rfl (E rfl rfl) (fun hg => fby_at (by omega))) ?_
    refine AWL.copyRowZ (i := 1) (m := (ds.files.getD j default).bytes.length) rfl rfl (B rfl) rfl el_71 (B rfl) rfl (E rfl rfl) (SrcT.row so_71 (i := 0) rfl (E rfl rfl)) (Nat.le_refl _) ?_
    refine nl ?_
    refine AW.eqS (S' := fileRow (ds.files.getD j default) :: .row A30 (ds.files.getD j default).bytes.length (ds.files.getD j default).bytes.length 5 1 ((ds.files.getD j default).bytes.map u8) :: .box b11 82 [.v (.slice lA j lc), sv ds.stdin, .v (.slice none 0 0), .v (.slice none 0 0)] :: .row lA j lc 93 2 (fs.flatMap fileCells) :: .row none 0 0 86 3 [] :: .row none 0 0 36 3 [] :: .box b 82 (dCells ds) :: .row ds.lA ds.files.length ds.lc 93 2 (ds.files.flatMap fileCells) :: .row ds.dA ds.opn.length ds.dc 86 3 (ds.opn.flatMap descCells) :: .row ds.tA ds.trace.length ds.tc 36 3 (ds.trace.flatMap evCells) :: (fs.map fileRow ++ ((ds.files.map fileRow).take j ++ (ds.files.map fileRow).drop (j + 1)))) ?_ ?_
    · rw [show List.drop ((ds.files.getD j default).bytes.length * 1) (List.replicate (ds.files.getD j default).bytes.length ([Value.int .u8 0].map T.v)).flatten = [] from List.drop_of_length_le (by simp), List.append_nil]
      rfl
    refine AW.perm (perm_in8 (row_of hjl)).symm ?_
    refine AW.regionP rfl ?_
    refine AWP.take (i := 0) rfl (by kernel_rfl) (by kernel_rfl) (by kernel_rfl) rfl rfl (B rfl) (freeMove rfl (E rfl rfl)) ?_
    refine AWP.take (i := 1) rfl (by kernel_rfl) (by kernel_rfl) (by kernel_rfl) rfl rfl (B rfl) (freeMove rfl (E rfl rfl)) ?_
    refine AWP.take (i := 2) rfl (by kernel_rfl) (by kernel_rfl) (by kernel_rfl) rfl rfl (B rfl) (freeNil rfl (E rfl rfl)) ?_
    refine AWP.take (i := 3) rfl (by kernel_rfl) (by kernel_rfl) (by kernel_rfl) rfl rfl (B rfl) (freeField rfl fo_82_0 (E rfl rfl)) ?_
    refine AWP.take (i := 5) rfl (by kernel_rfl) (by kernel_rfl) (by kernel_rfl) rfl rfl (B rfl) (freeMove rfl (E rfl rfl)) ?_
    refine AWP.take (i := 6) rfl (by kernel_rfl) (by kernel_rfl) (by kernel_rfl) rfl rfl (B rfl) (freeNil rfl (E rfl rfl)) ?_
    refine AWP.take (i := 7) rfl (by kernel_rfl) (by kernel_rfl) (by kernel_rfl) rfl rfl (B rfl) (freeField rfl fo_82_0 (E rfl rfl)) ?_
    refine AWP.take (i := 9) rfl (by kernel_rfl) (by kernel_rfl) (by kernel_rfl) rfl rfl (B rfl) (freeMove rfl (E rfl rfl)) ?_
    refine AWP.take (i := 13) rfl (by kernel_rfl) (by kernel_rfl) (by kernel_rfl) rfl rfl (B rfl) (freeMove rfl (E rfl rfl)) ?_
    refine AWP.two (i := 4) (j := 8) (by kernel_rfl) rfl rfl ?_ ?_
    ·
     refine Y1 (Yv.loadBox rfl ag_79 (i := 0) rfl (E rfl rfl) rfl) ?_
     refine nl ?_
     refine AWP.one (i := 8) (by kernel_rfl) rfl ?_
     refine Y1 (Yv.loadBox rfl ag_79 (i := 4) rfl (E rfl rfl) rfl) ?_
     refine nl ?_
     refine AWP.one (i := 10) (by kernel_rfl) rfl ?_
     refine Y1 (Yv.indexRow rfl ss_79 (i := 5) rfl (E rfl rfl) (E rfl rfl) (fun hg => ⟨rfl, by omega⟩)) ?_
     refine nl ?_
     refine AWP.one (i := 11) (by kernel_rfl) rfl ?_
     refine Y1 (Yv.fieldEp rfl fo_93_0 (E rfl rfl)) ?_
     refine nl ?_
     refine AWP.one (i := 12) (by kernel_rfl) rfl ?_
     refine Y1 (Yv.loadEp rfl ag_9 (i := 5) rfl (E rfl rfl) (fun hg => fnm_at (by omega))) ?_
     refine nl ?_
     refine AWP.one (i := 14) (by kernel_rfl) rfl ?_
     refine Y1 (Yv.buildS rfl sh_93 (evpC (E rfl rfl) (evpC (E rfl rfl) evp0)) (fun _ => rfl)) ?_
     refine nl ?_
     refine AWP.one (i := 15) (by kernel_rfl) rfl ?_
     refine AWL.buildSliceE rfl rfl (B rfl) rfl el_79 (B rfl) rfl (evsC (E rfl rfl) evs0) (Nat.le_of_ble_eq_true rfl) rfl rfl ?_
     refine nl ?_
     refine AWP.one (i := 16) (by kernel_rfl) rfl ?_
     refine AWL.appendRow (i := 1) rfl rfl (B rfl) rfl el_79 (B rfl) rfl (E rfl rfl) (SrcT.sl so_79 (B rfl) (E rfl rfl) (m := 1) rfl) (by unfold maxLen; omega) (by omega) (fun A57 c57 => ?_)
     refine nl ?_
     refine AWP.one (i := 17) (by kernel_rfl) rfl ?_
     refine Y1 (Yv.nilChk rfl eV) ?_
     refine nl ?_
     refine AWP.one (i := 18) (by kernel_rfl) rfl ?_
     refine Y1 (Yv.fieldBox rfl fo_82_0 eV) ?_
     refine nl ?_
     refine AWP.one (i := 19) (by kernel_rfl) rfl ?_
     refine AWL.storeBox (i := 0) rfl rfl rfl ag_79 rfl (E rfl rfl) (E rfl rfl) rfl rfl (Nat.le_of_ble_eq_true rfl) ?_
     refine nl ?_
     refine AWP.done (by kernel_rfl) ?_
     refine AW.region ?_
     refine Y1 (Yv.move rfl eV) ?_
     refine Y1 (Yv.addN_i64 rfl (E rfl rfl) (E rfl rfl) (fun hg => by omega)) ?_
     refine Y1 (Yv.assign rfl eV) ?_
     refine nl ?_
     refine ⟨j + 1, fs ++ [⟨(ds.files.getD j default).name, (ds.files.getD j default).bytes, A30, (ds.files.getD j default).bytes.length⟩], A57, c57, ⟨by omega, ?_⟩, by omega, (Sub.cons rfl rfl (Sub.cons rfl rfl (Sub.cons rfl (by simp) Sub.nil))), ?_⟩
     · rw [List.map_append, hfs, take_gd hjl, List.map_append]; rfl
     · rw [List.flatMap_append, List.map_append]; rfl
    ·
     refine Y1 (Yv.loadBox rfl ag_79 (i := 4) rfl (E rfl rfl) rfl) ?_
     refine nl ?_
     refine AWP.take (i := 10) rfl (by kernel_rfl) (by kernel_rfl) (by kernel_rfl) rfl rfl (B rfl) (freeIdxRow (i := 5) rfl ss_79 rfl (E rfl rfl) (E rfl rfl) ⟨rfl, by omega⟩) ?_
     refine AWP.take (i := 11) rfl (by kernel_rfl) (by kernel_rfl) (by kernel_rfl) rfl rfl (B rfl) (freeFieldEp rfl fo_93_0 (E rfl rfl)) ?_
     refine AWP.two (i := 4) (j := 12) (by kernel_rfl) rfl rfl ?_ ?_
     ·
      refine Y1 (Yv.loadBox rfl ag_79 (i := 0) rfl (E rfl rfl) rfl) ?_
      refine nl ?_
      refine AWP.one (i := 12) (by kernel_rfl) rfl ?_
      refine Y1 (Yv.loadEp rfl ag_9 (i := 5) rfl (E rfl rfl) (fun hg => fnm_at (by omega))) ?_
      refine nl ?_
      refine AWP.one (i := 14) (by kernel_rfl) rfl ?_
      refine Y1 (Yv.buildS rfl sh_93 (evpC (E rfl rfl) (evpC (E rfl rfl) evp0)) (fun _ => rfl)) ?_
      refine nl ?_
      refine AWP.one (i := 15) (by kernel_rfl) rfl ?_
      refine AWL.buildSliceE rfl rfl (B rfl) rfl el_79 (B rfl) rfl (evsC (E rfl rfl) evs0) (Nat.le_of_ble_eq_true rfl) rfl rfl ?_
      refine nl ?_
      refine AWP.one (i := 16) (by kernel_rfl) rfl ?_
      refine AWL.appendRow (i := 1) rfl rfl (B rfl) rfl el_79 (B rfl) rfl (E rfl rfl) (SrcT.sl so_79 (B rfl) (E rfl rfl) (m := 1) rfl) (by unfold maxLen; omega) (by omega) (fun A57 c57 => ?_)
      refine nl ?_
      refine AWP.one (i := 17) (by kernel_rfl) rfl ?_
      refine Y1 (Yv.nilChk rfl eV) ?_
      refine nl ?_
      refine AWP.one (i := 18) (by kernel_rfl) rfl ?_
      refine Y1 (Yv.fieldBox rfl fo_82_0 eV) ?_
      refine nl ?_
      refine AWP.one (i := 19) (by kernel_rfl) rfl ?_
      refine AWL.storeBox (i := 0) rfl rfl rfl ag_79 rfl (E rfl rfl) (E rfl rfl) rfl rfl (Nat.le_of_ble_eq_true rfl) ?_
      refine nl ?_
      refine AWP.done (by kernel_rfl) ?_
      refine AW.region ?_
      refine Y1 (Yv.move rfl eV) ?_
      refine Y1 (Yv.addN_i64 rfl (E rfl rfl) (E rfl rfl) (fun hg => by omega)) ?_
      refine Y1 (Yv.assign rfl eV) ?_
      refine nl ?_
      refine ⟨j + 1, fs ++ [⟨(ds.files.getD j default).name, (ds.files.getD j default).bytes, A30, (ds.files.getD j default).bytes.length⟩], A57, c57, ⟨by omega, ?_⟩, by omega, (Sub.cons rfl rfl (Sub.cons rfl rfl (Sub.cons rfl (by simp) Sub.nil))), ?_⟩
      · rw [List.map_append, hfs, take_gd hjl, List.map_append]; rfl
      · rw [List.flatMap_append, List.map_append]; rfl
     ·
      refine Y1 (Yv.loadEp rfl ag_9 (i := 5) rfl (E rfl rfl) (fun hg => fnm_at (by omega))) ?_
      refine nl ?_
      refine AWP.two (i := 4) (j := 14) (by kernel_rfl) rfl rfl ?_ ?_
      ·
       refine Y1 (Yv.loadBox rfl ag_79 (i := 0) rfl (E rfl rfl) rfl) ?_
       refine nl ?_
       refine AWP.one (i := 14) (by kernel_rfl) rfl ?_
       refine Y1 (Yv.buildS rfl sh_93 (evpC (E rfl rfl) (evpC (E rfl rfl) evp0)) (fun _ => rfl)) ?_
       refine nl ?_
       refine AWP.one (i := 15) (by kernel_rfl) rfl ?_
       refine AWL.buildSliceE rfl rfl (B rfl) rfl el_79 (B rfl) rfl (evsC (E rfl rfl) evs0) (Nat.le_of_ble_eq_true rfl) rfl rfl ?_
       refine nl ?_
       refine AWP.one (i := 16) (by kernel_rfl) rfl ?_
       refine AWL.appendRow (i := 1) rfl rfl (B rfl) rfl el_79 (B rfl) rfl (E rfl rfl) (SrcT.sl so_79 (B rfl) (E rfl rfl) (m := 1) rfl) (by unfold maxLen; omega) (by omega) (fun A57 c57 => ?_)
       refine nl ?_
       refine AWP.one (i := 17) (by kernel_rfl) rfl ?_
       refine Y1 (Yv.nilChk rfl eV) ?_
       refine nl ?_
       refine AWP.one (i := 18) (by kernel_rfl) rfl ?_
       refine Y1 (Yv.fieldBox rfl fo_82_0 eV) ?_
       refine nl ?_
       refine AWP.one (i := 19) (by kernel_rfl) rfl ?_
       refine AWL.storeBox (i := 0) rfl rfl rfl ag_79 rfl (E rfl rfl) (E rfl rfl) rfl rfl (Nat.le_of_ble_eq_true rfl) ?_
       refine nl ?_
       refine AWP.done (by kernel_rfl) ?_
       refine AW.region ?_
       refine Y1 (Yv.move rfl eV) ?_
       refine Y1 (Yv.addN_i64 rfl (E rfl rfl) (E rfl rfl) (fun hg => by omega)) ?_
       refine Y1 (Yv.assign rfl eV) ?_
       refine nl ?_
       refine ⟨j + 1, fs ++ [⟨(ds.files.getD j default).name, (ds.files.getD j default).bytes, A30, (ds.files.getD j default).bytes.length⟩], A57, c57, ⟨by omega, ?_⟩, by omega, (Sub.cons rfl rfl (Sub.cons rfl rfl (Sub.cons rfl (by simp) Sub.nil))), ?_⟩
       · rw [List.map_append, hfs, take_gd hjl, List.map_append]; rfl
       · rw [List.flatMap_append, List.map_append]; rfl
      ·
       refine Y1 (Yv.buildS rfl sh_93 (evpC (E rfl rfl) (evpC (E rfl rfl) evp0)) (fun _ => rfl)) ?_
       refine nl ?_
       refine AWP.two (i := 4) (j := 15) (by kernel_rfl) rfl rfl ?_ ?_
       ·
        refine Y1 (Yv.loadBox rfl ag_79 (i := 0) rfl (E rfl rfl) rfl) ?_
        refine nl ?_
        refine AWP.one (i := 15) (by kernel_rfl) rfl ?_
        refine AWL.buildSliceE rfl rfl (B rfl) rfl el_79 (B rfl) rfl (evsC (E rfl rfl) evs0) (Nat.le_of_ble_eq_true rfl) rfl rfl ?_
        refine nl ?_
        refine AWP.one (i := 16) (by kernel_rfl) rfl ?_
        refine AWL.appendRow (i := 1) rfl rfl (B rfl) rfl el_79 (B rfl) rfl (E rfl rfl) (SrcT.sl so_79 (B rfl) (E rfl rfl) (m := 1) rfl) (by unfold maxLen; omega) (by omega) (fun A57 c57 => ?_)
        refine nl ?_
        refine AWP.one (i := 17) (by kernel_rfl) rfl ?_
        refine Y1 (Yv.nilChk rfl eV) ?_
        refine nl ?_
        refine AWP.one (i := 18) (by kernel_rfl) rfl ?_
        refine Y1 (Yv.fieldBox rfl fo_82_0 eV) ?_
        refine nl ?_
        refine AWP.one (i := 19) (by kernel_rfl) rfl ?_
        refine AWL.storeBox (i := 0) rfl rfl rfl ag_79 rfl (E rfl rfl) (E rfl rfl) rfl rfl (Nat.le_of_ble_eq_true rfl) ?_
        refine nl ?_
        refine AWP.done (by kernel_rfl) ?_
        refine AW.region ?_
        refine Y1 (Yv.move rfl eV) ?_
        refine Y1 (Yv.addN_i64 rfl (E rfl rfl) (E rfl rfl) (fun hg => by omega)) ?_
        refine Y1 (Yv.assign rfl eV) ?_
        refine nl ?_
        refine ⟨j + 1, fs ++ [⟨(ds.files.getD j default).name, (ds.files.getD j default).bytes, A30, (ds.files.getD j default).bytes.length⟩], A57, c57, ⟨by omega, ?_⟩, by omega, (Sub.cons rfl rfl (Sub.cons rfl rfl (Sub.cons rfl (by simp) Sub.nil))), ?_⟩
        · rw [List.map_append, hfs, take_gd hjl, List.map_append]; rfl
        · rw [List.flatMap_append, List.map_append]; rfl
       ·
        refine AWL.buildSliceE rfl rfl (B rfl) rfl el_79 (B rfl) rfl (evsC (E rfl rfl) evs0) (Nat.le_of_ble_eq_true rfl) rfl rfl ?_
        refine nl ?_
        refine AWP.one (i := 4) (by kernel_rfl) rfl ?_
        refine Y1 (Yv.loadBox rfl ag_79 (i := 0) rfl (E rfl rfl) rfl) ?_
        refine nl ?_
        refine AWP.one (i := 16) (by kernel_rfl) rfl ?_
        refine AWL.appendRow (i := 1) rfl rfl (B rfl) rfl el_79 (B rfl) rfl (E rfl rfl) (SrcT.sl so_79 (B rfl) (E rfl rfl) (m := 1) rfl) (by unfold maxLen; omega) (by omega) (fun A57 c57 => ?_)
        refine nl ?_
        refine AWP.one (i := 17) (by kernel_rfl) rfl ?_
        refine Y1 (Yv.nilChk rfl eV) ?_
        refine nl ?_
        refine AWP.one (i := 18) (by kernel_rfl) rfl ?_
        refine Y1 (Yv.fieldBox rfl fo_82_0 eV) ?_
        refine nl ?_
        refine AWP.one (i := 19) (by kernel_rfl) rfl ?_
        refine AWL.storeBox (i := 0) rfl rfl rfl ag_79 rfl (E rfl rfl) (E rfl rfl) rfl rfl (Nat.le_of_ble_eq_true rfl) ?_
        refine nl ?_
        refine AWP.done (by kernel_rfl) ?_
        refine AW.region ?_
        refine Y1 (Yv.move rfl eV) ?_
        refine Y1 (Yv.addN_i64 rfl (E rfl rfl) (E rfl rfl) (fun hg => by omega)) ?_
        refine Y1 (Yv.assign rfl eV) ?_
        refine nl ?_
        refine ⟨j + 1, fs ++ [⟨(ds.files.getD j default).name, (ds.files.getD j default).bytes, A30, (ds.files.getD j default).bytes.length⟩], A57, c57, ⟨by omega, ?_⟩, by omega, (Sub.cons rfl rfl (Sub.cons rfl rfl (Sub.cons rfl (by simp) Sub.nil))), ?_⟩
        · rw [List.map_append, hfs, take_gd hjl, List.map_append]; rfl
        · rw [List.flatMap_append, List.map_append]; rfl
   try replace h0f := of_decide_eq_false h0f
   obtain rfl : j = ds.files.length := by omega
   rw [List.take_length] at hfs
   refine AW.exit ?_
   refine AW.rseqP rfl ?_
   refine AWP.take (i := 0) rfl (by kernel_rfl) (by kernel_rfl) (by kernel_rfl) rfl rfl (B rfl) (freeMove rfl (E rfl rfl)) ?_
   refine AWP.take (i := 1) rfl (by kernel_rfl) (by kernel_rfl) (by kernel_rfl) rfl rfl (B rfl) (freeMove rfl (E rfl rfl)) ?_
   refine AWP.take (i := 2) rfl (by kernel_rfl) (by kernel_rfl) (by kernel_rfl) rfl rfl (B rfl) (freeNil rfl (E rfl rfl)) ?_
   refine AWP.take (i := 3) rfl (by kernel_rfl) (by kernel_rfl) (by kernel_rfl) rfl rfl (B rfl) (freeField rfl fo_82_2 (E rfl rfl)) ?_
   refine AWP.take (i := 5) rfl (by kernel_rfl) (by kernel_rfl) (by kernel_rfl) rfl rfl (B rfl) (freeMove rfl (E rfl rfl)) ?_
   refine AWP.take (i := 6) rfl (by kernel_rfl) (by kernel_rfl) (by kernel_rfl) rfl rfl (B rfl) (freeNil rfl (E rfl rfl)) ?_
   refine AWP.take (i := 7) rfl (by kernel_rfl) (by kernel_rfl) (by kernel_rfl) rfl rfl (B rfl) (freeField rfl fo_82_2 (E rfl rfl)) ?_
   refine AWP.two (i := 4) (j := 8) (by kernel_rfl) rfl rfl ?_ ?_
   ·
    refine Y1 (Yv.loadBox rfl ag_80 (i := 0) rfl (E rfl rfl) rfl) ?_
    refine nl ?_
    refine AWP.one (i := 8) (by kernel_rfl) rfl ?_
    refine Y1 (Yv.loadBox rfl ag_80 (i := 4) rfl (E rfl rfl) rfl) ?_
    refine nl ?_
    refine AWP.one (i := 9) (by kernel_rfl) rfl ?_
    refine AWL.appendRow (i := 2) rfl rfl (B rfl) rfl el_80 (B rfl) rfl (E rfl rfl) (SrcT.row so_80 (i := 6) rfl (E rfl rfl)) (by unfold maxLen; omega) (by omega) (fun A69 c69 => ?_)
    refine nl ?_
    refine AWP.one (i := 10) (by kernel_rfl) rfl ?_
    refine Y1 (Yv.nilChk rfl eV) ?_
    refine nl ?_
    refine AWP.one (i := 11) (by kernel_rfl) rfl ?_
    refine Y1 (Yv.fieldBox rfl fo_82_2 eV) ?_
    refine nl ?_
    refine AWP.one (i := 12) (by kernel_rfl) rfl ?_
    refine AWL.storeBox (i := 0) rfl rfl rfl ag_80 rfl (E rfl rfl) (E rfl rfl) rfl rfl (Nat.le_of_ble_eq_true rfl) ?_
    refine nl ?_
    refine AWP.done (by kernel_rfl) ?_
    refine AW.rseqP rfl ?_
    refine AWP.take (i := 0) rfl (by kernel_rfl) (by kernel_rfl) (by kernel_rfl) rfl rfl (B rfl) (freeMove rfl (E rfl rfl)) ?_
    refine AWP.take (i := 1) rfl (by kernel_rfl) (by kernel_rfl) (by kernel_rfl) rfl rfl (B rfl) (freeMove rfl (E rfl rfl)) ?_
    refine AWP.take (i := 2) rfl (by kernel_rfl) (by kernel_rfl) (by kernel_rfl) rfl rfl (B rfl) (freeNil rfl (E rfl rfl)) ?_
    refine AWP.take (i := 3) rfl (by kernel_rfl) (by kernel_rfl) (by kernel_rfl) rfl rfl (B rfl) (freeField rfl fo_82_3 (E rfl rfl)) ?_
    refine AWP.take (i := 5) rfl (by kernel_rfl) (by kernel_rfl) (by kernel_rfl) rfl rfl (B rfl) (freeMove rfl (E rfl rfl)) ?_
    refine AWP.take (i := 6) rfl (by kernel_rfl) (by kernel_rfl) (by kernel_rfl) rfl rfl (B rfl) (freeNil rfl (E rfl rfl)) ?_
    refine AWP.take (i := 7) rfl (by kernel_rfl) (by kernel_rfl) (by kernel_rfl) rfl rfl (B rfl) (freeField rfl fo_82_3 (E rfl rfl)) ?_
    refine AWP.two (i := 4) (j := 8) (by kernel_rfl) rfl rfl ?_ ?_
    ·
     refine Y1 (Yv.loadBox rfl ag_33 (i := 0) rfl (E rfl rfl) rfl) ?_
     refine nl ?_
     refine AWP.one (i := 8) (by kernel_rfl) rfl ?_
     refine Y1 (Yv.loadBox rfl ag_33 (i := 4) rfl (E rfl rfl) rfl) ?_
     refine nl ?_
     refine AWP.one (i := 9) (by kernel_rfl) rfl ?_
     refine AWL.appendRow (i := 3) rfl rfl (B rfl) rfl el_33 (B rfl) rfl (E rfl rfl) (SrcT.row so_33 (i := 7) rfl (E rfl rfl)) (by unfold maxLen; omega) (by omega) (fun A81 c81 => ?_)
     refine nl ?_
     refine AWP.one (i := 10) (by kernel_rfl) rfl ?_
     refine Y1 (Yv.nilChk rfl eV) ?_
     refine nl ?_
     refine AWP.one (i := 11) (by kernel_rfl) rfl ?_
     refine Y1 (Yv.fieldBox rfl fo_82_3 eV) ?_
     refine nl ?_
     refine AWP.one (i := 12) (by kernel_rfl) rfl ?_
     refine AWL.storeBox (i := 0) rfl rfl rfl ag_33 rfl (E rfl rfl) (E rfl rfl) rfl rfl (Nat.le_of_ble_eq_true rfl) ?_
     refine nl ?_
     refine AWP.done (by kernel_rfl) ?_
     have hfl2 : fs.length = ds.files.length := by
       have h := congrArg List.length hfs
       simpa using h
     refine AW.eqS (S' := .box b11 82 (dCells ⟨fs, lA, lc, ds.stdin, ds.opn, A69, c69, ds.trace, A81, c81⟩) :: .row lA fs.length lc 93 2 (fs.flatMap fileCells) :: .row A69 ds.opn.length c69 86 3 (ds.opn.flatMap descCells) :: .row A81 ds.trace.length c81 36 3 (ds.trace.flatMap evCells) :: .box b 82 (dCells ds) :: .row ds.lA ds.files.length ds.lc 93 2 (ds.files.flatMap fileCells) :: .row ds.dA ds.opn.length ds.dc 86 3 (ds.opn.flatMap descCells) :: .row ds.tA ds.trace.length ds.tc 36 3 (ds.trace.flatMap evCells) :: (fs.map fileRow ++ ds.files.map fileRow)) ?_ ?_
     · simp only [dCells, hfl2, Nat.zero_add, List.nil_append]
       rfl
     refine AW.perm (S' := DSt b ds ++ DSt b11 ⟨fs, lA, lc, ds.stdin, ds.opn, A69, c69, ds.trace, A81, c81⟩) perm_done4.symm ?_
     refine AW.rseq ?_
     refine Y1 (Yv.move rfl eV) ?_
     refine Y1 (Yv.assign rfl eV) ?_
     refine nl ?_
     refine AW.ret (retI (.tmp rfl .nil) ?_)
     refine ⟨b11, ⟨fs, lA, lc, ds.stdin, ds.opn, A69, c69, ds.trace, A81, c81⟩, rfl, rfl, ?_⟩
     unfold pl
     simp only [hfs]
    ·
     refine Y1 (Yv.loadBox rfl ag_33 (i := 4) rfl (E rfl rfl) rfl) ?_
     refine nl ?_
     refine AWP.one (i := 4) (by kernel_rfl) rfl ?_
     refine Y1 (Yv.loadBox rfl ag_33 (i := 0) rfl (E rfl rfl) rfl) ?_
     refine nl ?_
     refine AWP.one (i := 9) (by kernel_rfl) rfl ?_
     refine AWL.appendRow (i := 3) rfl rfl (B rfl) rfl el_33 (B rfl) rfl (E rfl rfl) (SrcT.row so_33 (i := 7) rfl (E rfl rfl)) (by unfold maxLen; omega) (by omega) (fun A81 c81 => ?_)
     refine nl ?_
     refine AWP.one (i := 10) (by kernel_rfl) rfl ?_
     refine Y1 (Yv.nilChk rfl eV) ?_
     refine nl ?_
     refine AWP.one (i := 11) (by kernel_rfl) rfl ?_
     refine Y1 (Yv.fieldBox rfl fo_82_3 eV) ?_
     refine nl ?_
     refine AWP.one (i := 12) (by kernel_rfl) rfl ?_
     refine AWL.storeBox (i := 0) rfl rfl rfl ag_33 rfl (E rfl rfl) (E rfl rfl) rfl rfl (Nat.le_of_ble_eq_true rfl) ?_
     refine nl ?_
     refine AWP.done (by kernel_rfl) ?_
     have hfl2 : fs.length = ds.files.length := by
       have h := congrArg List.length hfs
       simpa using h
     refine AW.eqS (S' := .box b11 82 (dCells ⟨fs, lA, lc, ds.stdin, ds.opn, A69, c69, ds.trace, A81, c81⟩) :: .row lA fs.length lc 93 2 (fs.flatMap fileCells) :: .row A69 ds.opn.length c69 86 3 (ds.opn.flatMap descCells) :: .row A81 ds.trace.length c81 36 3 (ds.trace.flatMap evCells) :: .box b 82 (dCells ds) :: .row ds.lA ds.files.length ds.lc 93 2 (ds.files.flatMap fileCells) :: .row ds.dA ds.opn.length ds.dc 86 3 (ds.opn.flatMap descCells) :: .row ds.tA ds.trace.length ds.tc 36 3 (ds.trace.flatMap evCells) :: (fs.map fileRow ++ ds.files.map fileRow)) ?_ ?_
     · simp only [dCells, hfl2, Nat.zero_add, List.nil_append]
       rfl
     refine AW.perm (S' := DSt b ds ++ DSt b11 ⟨fs, lA, lc, ds.stdin, ds.opn, A69, c69, ds.trace, A81, c81⟩) perm_done4.symm ?_
     refine AW.rseq ?_
     refine Y1 (Yv.move rfl eV) ?_
     refine Y1 (Yv.assign rfl eV) ?_
     refine nl ?_
     refine AW.ret (retI (.tmp rfl .nil) ?_)
     refine ⟨b11, ⟨fs, lA, lc, ds.stdin, ds.opn, A69, c69, ds.trace, A81, c81⟩, rfl, rfl, ?_⟩
     unfold pl
     simp only [hfs]
   ·
    refine Y1 (Yv.loadBox rfl ag_80 (i := 4) rfl (E rfl rfl) rfl) ?_
    refine nl ?_
    refine AWP.one (i := 4) (by kernel_rfl) rfl ?_
    refine Y1 (Yv.loadBox rfl ag_80 (i := 0) rfl (E rfl rfl) rfl) ?_
    refine nl ?_
    refine AWP.one (i := 9) (by kernel_rfl) rfl ?_
    refine AWL.appendRow (i := 2) rfl rfl (B rfl) rfl el_80 (B rfl) rfl (E rfl rfl) (SrcT.row so_80 (i := 6) rfl (E rfl rfl)) (by unfold maxLen; omega) (by omega) (fun A69 c69 => ?_)
    refine nl ?_
    refine AWP.one (i := 10) (by kernel_rfl) rfl ?_
    refine Y1 (Yv.nilChk rfl eV) ?_
    refine nl ?_
    refine AWP.one (i := 11) (by kernel_rfl) rfl ?_
    refine Y1 (Yv.fieldBox rfl fo_82_2 eV) ?_
    refine nl ?_
    refine AWP.one (i := 12) (by kernel_rfl) rfl ?_
    refine AWL.storeBox (i := 0) rfl rfl rfl ag_80 rfl (E rfl rfl) (E rfl rfl) rfl rfl (Nat.le_of_ble_eq_true rfl) ?_
    refine nl ?_
    refine AWP.done (by kernel_rfl) ?_
    refine AW.rseqP rfl ?_
    refine AWP.take (i := 0) rfl (by kernel_rfl) (by kernel_rfl) (by kernel_rfl) rfl rfl (B rfl) (freeMove rfl (E rfl rfl)) ?_
    refine AWP.take (i := 1) rfl (by kernel_rfl) (by kernel_rfl) (by kernel_rfl) rfl rfl (B rfl) (freeMove rfl (E rfl rfl)) ?_
    refine AWP.take (i := 2) rfl (by kernel_rfl) (by kernel_rfl) (by kernel_rfl) rfl rfl (B rfl) (freeNil rfl (E rfl rfl)) ?_
    refine AWP.take (i := 3) rfl (by kernel_rfl) (by kernel_rfl) (by kernel_rfl) rfl rfl (B rfl) (freeField rfl fo_82_3 (E rfl rfl)) ?_
    refine AWP.take (i := 5) rfl (by kernel_rfl) (by kernel_rfl) (by kernel_rfl) rfl rfl (B rfl) (freeMove rfl (E rfl rfl)) ?_
    refine AWP.take (i := 6) rfl (by kernel_rfl) (by kernel_rfl) (by kernel_rfl) rfl rfl (B rfl) (freeNil rfl (E rfl rfl)) ?_
    refine AWP.take (i := 7) rfl (by kernel_rfl) (by kernel_rfl) (by kernel_rfl) rfl rfl (B rfl) (freeField rfl fo_82_3 (E rfl rfl)) ?_
    refine AWP.two (i := 4) (j := 8) (by kernel_rfl) rfl rfl ?_ ?_
    ·
     refine Y1 (Yv.loadBox rfl ag_33 (i := 0) rfl (E rfl rfl) rfl) ?_
     refine nl ?_
     refine AWP.one (i := 8) (by kernel_rfl) rfl ?_
     refine Y1 (Yv.loadBox rfl ag_33 (i := 4) rfl (E rfl rfl) rfl) ?_
     refine nl ?_
     refine AWP.one (i := 9) (by kernel_rfl) rfl ?_
     refine AWL.appendRow (i := 3) rfl rfl (B rfl) rfl el_33 (B rfl) rfl (E rfl rfl) (SrcT.row so_33 (i := 7) rfl (E rfl rfl)) (by unfold maxLen; omega) (by omega) (fun A81 c81 => ?_)
     refine nl ?_
     refine AWP.one (i := 10) (by kernel_rfl) rfl ?_
     refine Y1 (Yv.nilChk rfl eV) ?_
     refine nl ?_
     refine AWP.one (i := 11) (by kernel_rfl) rfl ?_
     refine Y1 (Yv.fieldBox rfl fo_82_3 eV) ?_
     refine nl ?_
     refine AWP.one (i := 12) (by kernel_rfl) rfl ?_
     refine AWL.storeBox (i := 0) rfl rfl rfl ag_33 rfl (E rfl rfl) (E rfl rfl) rfl rfl (Nat.le_of_ble_eq_true rfl) ?_
     refine nl ?_
     refine AWP.done (by kernel_rfl) ?_
     have hfl2 : fs.length = ds.files.length := by
       have h := congrArg List.length hfs
       simpa using h
     refine AW.eqS (S' := .box b11 82 (dCells ⟨fs, lA, lc, ds.stdin, ds.opn, A69, c69, ds.trace, A81, c81⟩) :: .row lA fs.length lc 93 2 (fs.flatMap fileCells) :: .row A69 ds.opn.length c69 86 3 (ds.opn.flatMap descCells) :: .row A81 ds.trace.length c81 36 3 (ds.trace.flatMap evCells) :: .box b 82 (dCells ds) :: .row ds.lA ds.files.length ds.lc 93 2 (ds.files.flatMap fileCells) :: .row ds.dA ds.opn.length ds.dc 86 3 (ds.opn.flatMap descCells) :: .row ds.tA ds.trace.length ds.tc 36 3 (ds.trace.flatMap evCells) :: (fs.map fileRow ++ ds.files.map fileRow)) ?_ ?_
     · simp only [dCells, hfl2, Nat.zero_add, List.nil_append]
       rfl
     refine AW.perm (S' := DSt b ds ++ DSt b11 ⟨fs, lA, lc, ds.stdin, ds.opn, A69, c69, ds.trace, A81, c81⟩) perm_done4.symm ?_
     refine AW.rseq ?_
     refine Y1 (Yv.move rfl eV) ?_
     refine Y1 (Yv.assign rfl eV) ?_
     refine nl ?_
     refine AW.ret (retI (.tmp rfl .nil) ?_)
     refine ⟨b11, ⟨fs, lA, lc, ds.stdin, ds.opn, A69, c69, ds.trace, A81, c81⟩, rfl, rfl, ?_⟩
     unfold pl
     simp only [hfs]
    ·
     refine Y1 (Yv.loadBox rfl ag_33 (i := 4) rfl (E rfl rfl) rfl) ?_
     refine nl ?_
     refine AWP.one (i := 4) (by kernel_rfl) rfl ?_
     refine Y1 (Yv.loadBox rfl ag_33 (i := 0) rfl (E rfl rfl) rfl) ?_
     refine nl ?_
     refine AWP.one (i := 9) (by kernel_rfl) rfl ?_
     refine AWL.appendRow (i := 3) rfl rfl (B rfl) rfl el_33 (B rfl) rfl (E rfl rfl) (SrcT.row so_33 (i := 7) rfl (E rfl rfl)) (by unfold maxLen; omega) (by omega) (fun A81 c81 => ?_)
     refine nl ?_
     refine AWP.one (i := 10) (by kernel_rfl) rfl ?_
     refine Y1 (Yv.nilChk rfl eV) ?_
     refine nl ?_
     refine AWP.one (i := 11) (by kernel_rfl) rfl ?_
     refine Y1 (Yv.fieldBox rfl fo_82_3 eV) ?_
     refine nl ?_
     refine AWP.one (i := 12) (by kernel_rfl) rfl ?_
     refine AWL.storeBox (i := 0) rfl rfl rfl ag_33 rfl (E rfl rfl) (E rfl rfl) rfl rfl (Nat.le_of_ble_eq_true rfl) ?_
     refine nl ?_
     refine AWP.done (by kernel_rfl) ?_
     have hfl2 : fs.length = ds.files.length := by
       have h := congrArg List.length hfs
       simpa using h
     refine AW.eqS (S' := .box b11 82 (dCells ⟨fs, lA, lc, ds.stdin, ds.opn, A69, c69, ds.trace, A81, c81⟩) :: .row lA fs.length lc 93 2 (fs.flatMap fileCells) :: .row A69 ds.opn.length c69 86 3 (ds.opn.flatMap descCells) :: .row A81 ds.trace.length c81 36 3 (ds.trace.flatMap evCells) :: .box b 82 (dCells ds) :: .row ds.lA ds.files.length ds.lc 93 2 (ds.files.flatMap fileCells) :: .row ds.dA ds.opn.length ds.dc 86 3 (ds.opn.flatMap descCells) :: .row ds.tA ds.trace.length ds.tc 36 3 (ds.trace.flatMap evCells) :: (fs.map fileRow ++ ds.files.map fileRow)) ?_ ?_
     · simp only [dCells, hfl2, Nat.zero_add, List.nil_append]
       rfl
     refine AW.perm (S' := DSt b ds ++ DSt b11 ⟨fs, lA, lc, ds.stdin, ds.opn, A69, c69, ds.trace, A81, c81⟩) perm_done4.symm ?_
     refine AW.rseq ?_
     refine Y1 (Yv.move rfl eV) ?_
     refine Y1 (Yv.assign rfl eV) ?_
     refine nl ?_
     refine AW.ret (retI (.tmp rfl .nil) ?_)
     refine ⟨b11, ⟨fs, lA, lc, ds.stdin, ds.opn, A69, c69, ds.trace, A81, c81⟩, rfl, rfl, ?_⟩
     unfold pl
     simp only [hfs]

end Go.Proofs.Ytmiggpnkicdijaa

namespace Go.Proofs.Ytmiggpnkicdijaa
open Go Go.RowKit
set_option linter.unusedVariables false
set_option linter.unnecessarySimpa false
set_option linter.unusedSimpArgs false

set_option maxHeartbeats 8000000 in
theorem WorldCopies8 (stdin : List UInt8) (files : List (List UInt8 × List UInt8)) (script one other : List StepS) (Bn : Nat) (hs : stdin.length ≤ Bn) (hl : files.length ≤ Bn) (hnm : ∀ x ∈ files, x.1.length ≤ 1099511627776) (hd : ∀ x ∈ files, x.2.length ≤ Bn) (hk : ∀ s ∈ script, StepOk s) (hk_one : ∀ s ∈ one, StepOk s) (hk_other : ∀ s ∈ other, StepOk s) (hB : Bn + sumT script + sumT one + sumT other ≤ 274877906944) (hsl : script.length ≤ 1099511627776) (hso : one.length ≤ 1099511627776) (hst : other.length ≤ 1099511627776) :
    ACalls Try.prog 8 [worldT stdin files, .sl 5 (script.flatMap stepCells), .sl 5 (one.flatMap stepCells), .sl 5 (other.flatMap stepCells)] [] (fun t S => t = .v (.bool true)) := by
  have hd9 : ∀ x ∈ files, x.2.length ≤ 1099511627776 := fun x hx => by have := hd x hx; omega
  refine ACalls.intro Try.func8 rfl Try.ntmps8 (Nat.le_of_ble_eq_true rfl) rfl fun X w0 => ?_
  refine AW.rseq ?_
  refine AWL.boxOp rfl rfl (B rfl) rfl (E rfl rfl) rfl (fun b4 => ?_)
  refine Y1 (Yv.assign rfl eV) ?_
  refine nl ?_
  refine AW.rseq ?_
  refine Y1 (Yv.loadBoxA rfl ag_28 (i := 0) rfl (E rfl rfl) rfl rfl) ?_
  refine C1 rfl ce_9 (E rfl rfl) (evsC (E rfl rfl) evs0) (S1 := []) (S2 := _) rfl (New9 stdin files (by omega) (by omega) hd9) ?_
  rintro t16 S16 ⟨b, m, fl, rfl, rfl, hfl⟩
  refine Y1 (Yv.assign rfl eV) ?_
  refine nl ?_
  refine AW.perm (S' := .box b4 28 [sv stdin, .sl 2 (files.flatMap fCells)] :: WSt b m ⟨fl, stdin, opn0, [], none, 0⟩) (List.perm_append_singleton _ _).symm ?_
  refine AW.rseq ?_
  refine Y1 (Yv.loadBoxA rfl ag_28 (i := 0) rfl (E rfl rfl) rfl rfl) ?_
  refine C1 rfl ce_21 (E rfl rfl) (evsC (E rfl rfl) evs0) (S1 := []) (S2 := _) rfl (DNew21 stdin files (by omega) hnm hd9) ?_
  rintro t18 S18 ⟨bd, ds, rfl, rfl, e1, e2, e3, e4⟩
  refine Y1 (Yv.assign rfl eV) ?_
  refine nl ?_
  refine AW.perm (S' := .box b4 28 [sv stdin, .sl 2 (files.flatMap fCells)] :: (WSt b m ⟨fl, stdin, opn0, [], none, 0⟩ ++ DSt bd ds)) (List.perm_append_comm (l₁ := (.box b4 28 [sv stdin, .sl 2 (files.flatMap fCells)] :: WSt b m ⟨fl, stdin, opn0, [], none, 0⟩ : St)) (l₂ := DSt bd ds)) ?_
  refine AW.dropAt 0 ?_
  have hb0 := both_new hfl hs hl hd e1 e2 e3 e4
  refine AW.seq ?_
  refine AW.rseq ?_
  refine Y1 (Yv.move rfl eV) ?_
  refine Y1 (Yv.eqlNilP rfl pn_24 (E rfl rfl)) ?_
  refine Y1 (Yv.move rfl eV) ?_
  refine AWL.callPgF rfl rfl rfl rfl (B rfl) rfl ce_10 (E rfl rfl) evs0 (fun hg => known10) (fun t S h => h) ?_
  refine AWL.ygF rfl rfl rfl rfl (B rfl) (Yv.not rfl (Eg rfl rfl id)) ?_
  refine Y1 (Yv.pickOr (t := .const (.bool true)) rfl (E rfl rfl) (Eg rfl rfl id)) ?_
  refine nl ?_
  refine AW.cond rfl (fun h0t => ?_) (fun h0f => ?_)
  ·
   try replace h0t := of_decide_eq_true h0t
   cases h0t
  try replace h0f := of_decide_eq_false h0f
  refine AW.skip ?_
  refine AW.seq ?_
  refine AW.rseq ?_
  refine Y1 (Yv.assign rfl eV) ?_
  refine nl ?_
  refine AW.block ?_
  refine AW.loop3 (fun (i : Nat) (ws : WS) (ds : DS) => [(1, true, .sl 5 (script.flatMap stepCells)), (2, true, .sl 5 (one.flatMap stepCells)), (3, true, .sl 5 (other.flatMap stepCells)), (9, true, wp b), (10, true, wp bd), (11, true, .v (.int .i64 (i : Int)))]) (fun (i : Nat) (ws : WS) (ds : DS) => (WSt b m ws ++ DSt bd ds)) (fun (i : Nat) (ws : WS) (ds : DS) => i ≤ script.length ∧ Both (Bn + sumT (script.take i)) ws ds) (fun (i : Nat) (ws : WS) (ds : DS) => script.length - i) 0 (⟨fl, stdin, opn0, [], none, 0⟩) ds ?_ ?_ ?_ ?_
  · exact ⟨Nat.zero_le _, hb0⟩
  · exact (Sub.cons rfl rfl (Sub.cons rfl rfl (Sub.cons rfl rfl (Sub.cons rfl rfl (Sub.cons rfl rfl (Sub.cons rfl rfl Sub.nil))))))
  · rfl
  ·
   intro i ws ds hinv
   obtain ⟨hi, hbb⟩ := hinv
   have hsti := sumT_le script i
   refine AW.seq ?_
   refine AW.rseq ?_
   refine Y1 (Yv.move rfl eV) ?_
   refine Y1 (Yv.move rfl eV) ?_
   refine Y1 (Yv.lenSl rfl so_53 (B rfl) (E rfl rfl) len_steps) ?_
   refine Y1 (Yv.lss rfl eV eV) ?_
   refine nl ?_
   refine AW.cond rfl (fun h1t => ?_) (fun h1f => ?_)
   ·
    try replace h1t := of_decide_eq_true h1t
    have hi2 : i < script.length := by omega
    refine AW.skip ?_
    refine AW.seq ?_
    refine AW.block ?_
    refine AW.rseq ?_
    refine Y1 (Yv.move rfl eV) ?_
    refine Y1 (Yv.move rfl eV) ?_
    refine Y1 (Yv.move rfl eV) ?_
    refine Y1 (Yv.move rfl eV) ?_
    refine Y1 (Yv.indexSl rfl ss_53 (B rfl) (E rfl rfl) (E rfl rfl) (fun hg => ⟨rfl, (by first | omega | (simp only [len_steps]; omega))⟩)) ?_
    refine Y1 (Yv.loadRpA rfl ag_58 (E rfl rfl) (fun hg => step_cells (by first | omega | (simp only [Bool.or_eq_true, Bool.and_eq_true, Bool.or_eq_false_iff, Bool.and_eq_false_iff, Bool.not_eq_true', Bool.not_eq_false', decide_eq_true_eq, decide_eq_false_iff_not, Decidable.not_not] at hg; omega)))) ?_
    refine AWL.callAll rfl rfl (B rfl) rfl ce_22 (E rfl rfl) (evsC (E rfl rfl) (evsC (E rfl rfl) (evsC (E rfl rfl) evs0))) (does22 b m ws bd ds (Bn + sumT (script.take i)) hbb (by omega) (script.getD i default) (hk _ (getD_mem' hi2))) ?_
    rintro t37 S37 ⟨rfl, ws1, ds1, hb1, rfl⟩
    refine Y1 (Yv.not rfl eV) ?_
    refine nl ?_
    refine AW.cond rfl (fun h2t => ?_) (fun h2f => ?_)
    ·
     try replace h2t := of_decide_eq_true h2t
     cases h2t
    try replace h2f := of_decide_eq_false h2f
    refine AW.skip ?_
    refine AW.region ?_
    refine Y1 (Yv.move rfl eV) ?_
    refine Y1 (Yv.addN_i64 rfl (E rfl rfl) (E rfl rfl) (fun hg => by omega)) ?_
    refine Y1 (Yv.assign rfl eV) ?_
    refine nl ?_
    refine ⟨i + 1, ws1, ds1, ⟨by omega, by rw [sumT_succ hi2]; exact hb1.mono (by omega)⟩, by omega, (Sub.cons rfl rfl (Sub.cons rfl rfl (Sub.cons rfl rfl (Sub.cons rfl rfl (Sub.cons rfl rfl (Sub.cons rfl (by simp) Sub.nil)))))), rfl⟩
   try replace h1f := of_decide_eq_false h1f
   obtain rfl : i = script.length := by omega
   rw [List.take_length] at hbb
   refine AW.exit ?_
   refine AW.rseq ?_
   refine Y1 (Yv.move rfl eV) ?_
   refine AWL.callF rfl rfl (B rfl) rfl ce_24 (E rfl rfl) (evsC (E rfl rfl) evs0) (F1 := []) (S1 := (WSt b m ws)) (F2 := (DSt bd ds)) rfl (Copy24 b m ws (Bn + sumT script) hbb.r (by omega)) ?_
   rintro t40 S40 ⟨b2, m2, fl2, tA2, tc2, rfl, rfl, hp2⟩
   refine Y1 (Yv.assign rfl eV) ?_
   refine nl ?_
   refine AW.perm (S' := WSt b m ws ++ (DSt bd ds ++ WSt b2 m2 ⟨fl2, ws.stdin, ws.opn, ws.trace, tA2, tc2⟩)) perm_acb ?_
   refine AW.rseq ?_
   refine Y1 (Yv.move rfl eV) ?_
   refine AWL.callF rfl rfl (B rfl) rfl ce_25 (E rfl rfl) (evsC (E rfl rfl) evs0) (F1 := (WSt b m ws)) (S1 := (DSt bd ds)) (F2 := (WSt b2 m2 ⟨fl2, ws.stdin, ws.opn, ws.trace, tA2, tc2⟩)) rfl (DCopy25 bd ds (Bn + sumT script) hbb.pd (by omega)) ?_
   rintro t42 S42 ⟨bd2, ds2, rfl, rfl, hp3⟩
   refine Y1 (Yv.assign rfl eV) ?_
   refine nl ?_
   refine AW.perm (S' := (WSt b m ws ++ DSt bd ds) ++ (WSt b2 m2 ⟨fl2, ws.stdin, ws.opn, ws.trace, tA2, tc2⟩ ++ DSt bd2 ds2)) perm_accb ?_
   have hb2 : Both (Bn + sumT script) ⟨fl2, ws.stdin, ws.opn, ws.trace, tA2, tc2⟩ ds2 := hbb.copied rfl rfl rfl hp2 hp3
   refine AW.seq ?_
   refine AW.rseq ?_
   refine Y1 (Yv.move rfl eV) ?_
   refine Y1 (Yv.eqlNilP rfl pn_24 (E rfl rfl)) ?_
   refine nl ?_
   refine AW.cond rfl (fun h3t => ?_) (fun h3f => ?_)
   ·
    try replace h3t := of_decide_eq_true h3t
    cases h3t
   try replace h3f := of_decide_eq_false h3f
   refine AW.skip ?_
   refine AW.seq ?_
   refine AW.rseq ?_
   refine Y1 (Yv.assign rfl eV) ?_
   refine nl ?_
   refine AW.block ?_
   refine AW.loop5 (fun (j : Nat) (ws : WS) (ds : DS) (wt : WS) (dt : DS) => [(2, true, .sl 5 (one.flatMap stepCells)), (3, true, .sl 5 (other.flatMap stepCells)), (9, true, wp b), (10, true, wp bd), (12, true, wp b2), (13, true, wp bd2), (14, true, .v (.int .i64 (j : Int)))]) (fun (j : Nat) (ws : WS) (ds : DS) (wt : WS) (dt : DS) => ((WSt b m ws ++ DSt bd ds) ++ (WSt b2 m2 wt ++ DSt bd2 dt))) (fun (j : Nat) (ws : WS) (ds : DS) (wt : WS) (dt : DS) => (j ≤ one.length ∨ j ≤ other.length) ∧ Both ((Bn + sumT script) + sumT (one.take j)) ws ds ∧ Both ((Bn + sumT script) + sumT (other.take j)) wt dt) (fun (j : Nat) (ws : WS) (ds : DS) (wt : WS) (dt : DS) => one.length + other.length - j) 0 ws ds (⟨fl2, ws.stdin, ws.opn, ws.trace, tA2, tc2⟩) ds2 ?_ ?_ ?_ ?_
   · exact ⟨.inl (Nat.zero_le _), hbb, hb2⟩
   · exact (Sub.cons rfl rfl (Sub.cons rfl rfl (Sub.cons rfl rfl (Sub.cons rfl rfl (Sub.cons rfl rfl (Sub.cons rfl rfl (Sub.cons rfl rfl Sub.nil)))))))
   · rfl
   ·
    intro j ws ds wt dt hin2
    obtain ⟨hj, hbb, hbt⟩ := hin2
    have hst1 := sumT_le one j
    have hst2 := sumT_le other j
    refine AW.seq ?_
    refine AW.rseq ?_
    refine Y1 (Yv.move rfl eV) ?_
    refine Y1 (Yv.move rfl eV) ?_
    refine Y1 (Yv.lenSl rfl so_53 (B rfl) (E rfl rfl) len_steps) ?_
    refine Y1 (Yv.lss rfl eV eV) ?_
    refine Y1 (Yv.move rfl eV) ?_
    refine AWL.ygF rfl rfl rfl rfl (B rfl) (Yv.move rfl (E rfl rfl)) ?_
    refine AWL.ygF rfl rfl rfl rfl (B rfl) (Yv.move rfl (E rfl rfl)) ?_
    refine AWL.ygF rfl rfl rfl rfl (B rfl) (Yv.lenSl rfl so_53 (B rfl) (Eg rfl rfl id) len_steps) ?_
    refine AWL.ygF rfl rfl rfl rfl (B rfl) (Yv.lss rfl (Eg rfl rfl id) (Eg rfl rfl id)) ?_
    refine Y1 (Yv.pickOr (t := .const (.bool true)) rfl (E rfl rfl) (Eg rfl rfl id)) ?_
    refine nl ?_
    refine AW.cond rfl (fun h4t => ?_) (fun h4f => ?_)
    ·
     try replace h4t := of_decide_eq_true h4t
     simp only [Bool.or_eq_true, Bool.and_eq_true, Bool.or_eq_false_iff, Bool.and_eq_false_iff, Bool.not_eq_true', Bool.not_eq_false', decide_eq_true_eq, decide_eq_false_iff_not, Decidable.not_not] at h4t
     refine AW.skip ?_
     refine AW.seq ?_
     refine AW.block ?_
     refine AW.rseq ?_
     refine Y1 (Yv.move rfl eV) ?_
     refine Y1 (Yv.move rfl eV) ?_
     refine Y1 (Yv.lenSl rfl so_53 (B rfl) (E rfl rfl) len_steps) ?_
     refine Y1 (Yv.lss rfl eV eV) ?_
     refine Y1 (Yv.move rfl eV) ?_
     refine AWL.ygT rfl rfl rfl rfl (B rfl) (Yv.move rfl (E rfl rfl)) ?_
     refine AWL.ygT rfl rfl rfl rfl (B rfl) (Yv.move rfl (E rfl rfl)) ?_
     refine AWL.ygT rfl rfl rfl rfl (B rfl) (Yv.move rfl (E rfl rfl)) ?_
     refine AWL.ygT rfl rfl rfl rfl (B rfl) (Yv.move rfl (E rfl rfl)) ?_
     refine AWL.ygT rfl rfl rfl rfl (B rfl) (Yv.indexSl rfl ss_53 (B rfl) (Eg rfl rfl id) (Eg rfl rfl id) (fun hg => ⟨rfl, (by first | omega | (simp only [len_steps]; omega) | (simp only [len_steps]; simp only [Bool.and_eq_true, Bool.or_eq_false_iff, Bool.not_eq_true', Bool.not_eq_false', decide_eq_true_eq, decide_eq_false_iff_not] at hg; omega))⟩)) ?_
     refine AWL.ygT rfl rfl rfl rfl (B rfl) (Yv.loadRpA rfl ag_58 (Eg rfl rfl id) (fun hg => step_cells (by first | omega | (simp only [Bool.or_eq_true, Bool.and_eq_true, Bool.or_eq_false_iff, Bool.and_eq_false_iff, Bool.not_eq_true', Bool.not_eq_false', decide_eq_true_eq, decide_eq_false_iff_not, Decidable.not_not] at hg; omega)))) ?_
     refine AWL.callGdT rfl rfl rfl rfl (B rfl) rfl ce_22 (E rfl rfl) (evsC (Eg rfl rfl id) (evsC (Eg rfl rfl id) (evsC (Eg rfl rfl id) evs0))) (F1 := []) (S1 := (WSt b m ws ++ DSt bd ds)) (F2 := (WSt b2 m2 wt ++ DSt bd2 dt)) rfl (fun hg => does22 b m ws bd ds ((Bn + sumT script) + sumT (one.take j)) hbb (by omega) (one.getD j default) (hk_one _ (getD_mem' (by first | omega | (simp only [Bool.or_eq_true, Bool.and_eq_true, Bool.or_eq_false_iff, Bool.and_eq_false_iff, Bool.not_eq_true', Bool.not_eq_false', decide_eq_true_eq, decide_eq_false_iff_not, Decidable.not_not] at hg; omega))))) (fun t S h => h.1) ?_
     rintro S68 hT68 hF68
     have hex68 : ∃ ws1 ds1, Both ((Bn + sumT script) + sumT (one.take (j + 1))) ws1 ds1 ∧ S68 = WSt b m ws1 ++ DSt bd ds1 := by
       by_cases h : j < one.length
       · obtain ⟨_, ws1, ds1, hb1, rfl⟩ := hT68 (by simp [h])
         exact ⟨ws1, ds1, by rw [sumT_succ h]; exact hb1.mono (by omega), rfl⟩
       · exact ⟨ws, ds, by rw [sumT_over (by omega)]; exact hbb, hF68 (by simp [h])⟩
     obtain ⟨ws1, ds1, hb68, rfl⟩ := hex68
     refine AWL.ygT rfl rfl rfl rfl (B rfl) (Yv.not rfl (Eg rfl rfl id)) ?_
     refine Y1 (Yv.pickAnd rfl (E rfl rfl) (Eg rfl rfl id)) ?_
     refine Y1 (Yv.move rfl eV) ?_
     refine AWL.ygF rfl rfl rfl rfl (B rfl) (Yv.move rfl (E rfl rfl)) ?_
     refine AWL.ygF rfl rfl rfl rfl (B rfl) (Yv.move rfl (E rfl rfl)) ?_
     refine AWL.ygF rfl rfl rfl rfl (B rfl) (Yv.lenSl rfl so_53 (B rfl) (Eg rfl rfl id) len_steps) ?_
     refine AWL.ygF rfl rfl rfl rfl (B rfl) (Yv.lss rfl (Eg rfl rfl id) (Eg rfl rfl id)) ?_
     refine AWL.ygF rfl rfl rfl rfl (B rfl) (Yv.move rfl (Eg rfl rfl id)) ?_
     refine AWL.ygT rfl rfl rfl rfl (B rfl) (Yv.move rfl (E rfl rfl)) ?_
     refine AWL.ygT rfl rfl rfl rfl (B rfl) (Yv.move rfl (E rfl rfl)) ?_
     refine AWL.ygT rfl rfl rfl rfl (B rfl) (Yv.move rfl (E rfl rfl)) ?_
     refine AWL.ygT rfl rfl rfl rfl (B rfl) (Yv.move rfl (E rfl rfl)) ?_
     refine AWL.ygT rfl rfl rfl rfl (B rfl) (Yv.indexSl rfl ss_53 (B rfl) (Eg rfl rfl id) (Eg rfl rfl id) (fun hg => ⟨rfl, (by first | omega | (simp only [len_steps]; omega) | (simp only [len_steps]; simp only [Bool.and_eq_true, Bool.or_eq_false_iff, Bool.not_eq_true', Bool.not_eq_false', decide_eq_true_eq, decide_eq_false_iff_not] at hg; omega))⟩)) ?_
     refine AWL.ygT rfl rfl rfl rfl (B rfl) (Yv.loadRpA rfl ag_58 (Eg rfl rfl id) (fun hg => step_cells (by first | omega | (simp only [Bool.or_eq_true, Bool.and_eq_true, Bool.or_eq_false_iff, Bool.and_eq_false_iff, Bool.not_eq_true', Bool.not_eq_false', decide_eq_true_eq, decide_eq_false_iff_not, Decidable.not_not] at hg; omega)))) ?_
     refine AWL.callGdT rfl rfl rfl rfl (B rfl) rfl ce_22 (E rfl rfl) (evsC (Eg rfl rfl id) (evsC (Eg rfl rfl id) (evsC (Eg rfl rfl id) evs0))) (F1 := (WSt b m ws1 ++ DSt bd ds1)) (S1 := (WSt b2 m2 wt ++ DSt bd2 dt)) (F2 := []) (by rw [List.append_nil]; rfl) (fun hg => does22 b2 m2 wt bd2 dt ((Bn + sumT script) + sumT (other.take j)) hbt (by omega) (other.getD j default) (hk_other _ (getD_mem' (by first | omega | (simp only [Bool.or_eq_true, Bool.and_eq_true, Bool.or_eq_false_iff, Bool.and_eq_false_iff, Bool.not_eq_true', Bool.not_eq_false', decide_eq_true_eq, decide_eq_false_iff_not, Decidable.not_not] at hg; omega))))) (fun t S h => h.1) ?_
     rintro S83 hT83 hF83
     have hex83 : ∃ ws1 ds1, Both ((Bn + sumT script) + sumT (other.take (j + 1))) ws1 ds1 ∧ S83 = WSt b2 m2 ws1 ++ DSt bd2 ds1 := by
       by_cases h : j < other.length
       · obtain ⟨_, ws1, ds1, hb1, rfl⟩ := hT83 (by simp [h])
         exact ⟨ws1, ds1, by rw [sumT_succ h]; exact hb1.mono (by omega), rfl⟩
       · exact ⟨wt, dt, by rw [sumT_over (by omega)]; exact hbt, hF83 (by simp [h])⟩
     obtain ⟨wt1, dt1, hb83, rfl⟩ := hex83
     refine AWL.ygT rfl rfl rfl rfl (B rfl) (Yv.not rfl (Eg rfl rfl id)) ?_
     refine AWL.ygF rfl rfl rfl rfl (B rfl) (Yv.pickAnd rfl (Eg rfl rfl id) (Eg rfl rfl id)) ?_
     refine Y1 (Yv.pickOr (t := .const (.bool true)) rfl (E rfl rfl) (Eg rfl rfl id)) ?_
     refine nl ?_
     refine AW.cond rfl (fun h5t => ?_) (fun h5f => ?_)
     ·
      try replace h5t := of_decide_eq_true h5t
      simp at h5t
     try replace h5f := of_decide_eq_false h5f
     refine AW.skip ?_
     refine AW.region ?_
     refine Y1 (Yv.move rfl eV) ?_
     refine Y1 (Yv.addN_i64 rfl (E rfl rfl) (E rfl rfl) (fun hg => by omega)) ?_
     refine Y1 (Yv.assign rfl eV) ?_
     refine nl ?_
     refine ⟨j + 1, ws1, ds1, wt1, dt1, ⟨by omega, hb68, hb83⟩, by omega, (Sub.cons rfl rfl (Sub.cons rfl rfl (Sub.cons rfl rfl (Sub.cons rfl rfl (Sub.cons rfl rfl (Sub.cons rfl rfl (Sub.cons rfl (by simp) Sub.nil))))))), by simp only [List.append_nil, List.nil_append, List.append_assoc]⟩
    try replace h4f := of_decide_eq_false h4f
    simp only [Bool.or_eq_true, Bool.and_eq_true, Bool.or_eq_false_iff, Bool.and_eq_false_iff, Bool.not_eq_true', Bool.not_eq_false', decide_eq_true_eq, decide_eq_false_iff_not, Decidable.not_not] at h4f
    rw [List.take_of_length_le (by omega)] at hbb hbt
    refine AW.exit ?_
    refine AW.rseq ?_
    refine Y1 (Yv.move rfl eV) ?_
    refine Y1 (Yv.move rfl eV) ?_
    refine AWL.callF rfl rfl (B rfl) rfl ce_23 (E rfl rfl) (evsC (E rfl rfl) (evsC (E rfl rfl) evs0)) (F1 := []) (S1 := (WSt b m ws ++ DSt bd ds)) (F2 := (WSt b2 m2 wt ++ DSt bd2 dt)) rfl (whole23 b m ws bd ds ((Bn + sumT script) + sumT one) hbb (by omega)) ?_
    rintro t89 S89 ⟨rfl, rfl⟩
    refine Y1 (Yv.move rfl eV) ?_
    refine AWL.unguard rfl rfl rfl rfl ?_
    refine Y1 (Yv.move rfl eV) ?_
    refine AWL.unguard rfl rfl rfl rfl ?_
    refine Y1 (Yv.move rfl eV) ?_
    refine AWL.unguard rfl rfl rfl rfl ?_
    refine AWL.callE rfl rfl (B rfl) rfl ce_23 (E rfl rfl) (evsC (E rfl rfl) (evsC (E rfl rfl) evs0)) (F1 := (WSt b m ws ++ DSt bd ds)) (S1 := (WSt b2 m2 wt ++ DSt bd2 dt)) rfl (whole23 b2 m2 wt bd2 dt ((Bn + sumT script) + sumT other) hbt (by omega)) ?_
    rintro t93 S93 ⟨rfl, rfl⟩
    refine Y1 (Yv.pickAnd rfl (E rfl rfl) (E rfl rfl)) ?_
    refine Y1 (Yv.assign rfl eV) ?_
    refine nl ?_
    refine AW.ret (retI (.tmp rfl .nil) ?_)
    rfl

end Go.Proofs.Ytmiggpnkicdijaa

namespace Go.Proofs.Ytmiggpnkicdijaa
open Go.ChangeShapes Go.WideShapes Go.ChangeAt Go Go.RowKit
theorem bulk_one {H : Type} (d : DataW H) : 1 ≤ Rows.uptoBulk d := by
  cases d with
  | lit l => cases l <;> simp [Rows.uptoBulk]
  | _ => simp [Rows.uptoBulk]
theorem bulk_append {H : Type} (l r : List (DataW H)) : Rows.uptoBulkAll (l ++ r) = Rows.uptoBulkAll l + Rows.uptoBulkAll r := by
  induction l with
  | nil => simp [Rows.uptoBulkAll]
  | cons x s ih => simp only [Rows.uptoBulkAll, List.cons_append, ih]; omega
theorem bound {H : Type} {l : List (DataW H)} (hk : Rows.uptoSmall H l = true) : Rows.uptoBulkAll l ≤ 1048576 := by
  simpa [Rows.uptoSmall] using hk
theorem cell_lt {w : World} {a : Addr} {v : Value} (h : w.cell? a = some v) : a.block < w.heap.size := by
  rcases Nat.lt_or_ge a.block w.heap.size with hn | hn
  · exact hn
  · simp [World.cell?, Array.getElem?_eq_none hn] at h
/-- A type opened: its cells read as the tree of some plain datum. -/
structure Opens (P : Program) (t : TypeId) {X : Type} (k : Nat) (cells : X → List T) (bulk : X → Nat) (ok : X → Prop) : Prop where
  size : P.cellsOf t = k
  one : ∀ {H : Type} {enc : TypeId × Value → H} {w : World} {base : Nat} {spare : Nat → Bool} {held : Bool} {fuel : Nat} {cs : List Value} {x : DataW H × List MemPlace},
    DataW.trod enc P w base spare held fuel t cs = some x → ∃ a, ok a ∧ VReps w [] (cells a) cs ∧ cs.length = k ∧ bulk a ≤ Rows.uptoBulk x.1
theorem Opens.turn {P : Program} {t : TypeId} {X Y : Type} {k : Nat} {cells : X → List T} {cells' : Y → List T} {bulk : X → Nat} {bulk' : Y → Nat} {ok : X → Prop} {ok' : Y → Prop} (h : Opens P t k cells bulk ok) (g : X → Y)
    (h1 : ∀ a, ok a → cells' (g a) = cells a ∧ bulk' (g a) ≤ bulk a ∧ ok' (g a)) : Opens P t k cells' bulk' ok' :=
  ⟨h.size, fun e => by
    obtain ⟨a, h2, h3, h4, h5⟩ := h.one e
    obtain ⟨h6, h7, h8⟩ := h1 a h2
    exact ⟨g a, h8, h6 ▸ h3, h4, Nat.le_trans h7 h5⟩⟩
theorem VReps.single {w : World} {L : List Nat} {t : T} {u : Value} (h : VRep w L t u) (h1 : u.oneCell' = true) : VReps w L [t] [u] := .cons h h1 .nil
theorem opens_int {P : Program} {t : TypeId} {k : IntKind} (ht : P.underlying t = some (.int k)) (hs : P.cellsOf t = 1) : Opens P t 1 (fun z : Int => [.v (.int k z)]) (fun _ => 1) (fun z => (Lit.int k z).wf = true) :=
  ⟨hs, fun e => by
    obtain ⟨n, rfl, rfl, h⟩ := DataW.trod_int ht e
    exact ⟨n, h, .single (.v _) rfl, rfl, bulk_one _⟩⟩
theorem opens_string {P : Program} {t : TypeId} (ht : P.underlying t = some .string) (hs : P.cellsOf t = 1) : Opens P t 1 (fun l : List UInt8 => [.v (.string ⟨l.toArray⟩)]) (fun l => l.length + 1) (fun l => l.length ≤ maxLen) :=
  ⟨hs, fun e => by
    obtain ⟨s, rfl, rfl, h⟩ := DataW.trod_string ht e
    exact ⟨s.data.toList, by simpa using h, .single (.v _) rfl, rfl, by simp [Rows.uptoBulk]⟩⟩
/-- The fields from a place on. -/
structure OpensF (P : Program) (fs : List Field) (o : Nat) {X : Type} (k : Nat) (cells : X → List T) (bulk : X → Nat) (ok : X → Prop) : Prop where
  all : ∀ {H : Type} {enc : TypeId × Value → H} {w : World} {base : Nat} {spare : Nat → Bool} {held : Bool} {n : Nat} {cs : List Value} {ys : List (DataW H × List MemPlace)},
    ys.length = fs.length → cs.length = o + k → (∀ (i : Nat) (f : Field), fs[i]? = some f → DataW.trod enc P w base spare held n f.type ((cs.drop f.offset).take (P.cellsOf f.type)) = ys[i]?) →
      ∃ a, ok a ∧ VReps w [] (cells a) (cs.drop o) ∧ bulk a ≤ Rows.uptoBulkAll (ys.map (·.1))
theorem opensF_nil {P : Program} {o : Nat} : OpensF P [] o 0 (fun _ : Unit => []) (fun _ => 0) (fun _ => True) :=
  ⟨fun {H enc w base spare held n cs ys} h1 h2 _ => ⟨(), trivial, by rw [List.drop_of_length_le (by omega)]; exact .nil, Nat.zero_le _⟩⟩
theorem opensF_cons {P : Program} {f : Field} {fs : List Field} {o k m : Nat} {X Y : Type} {cells : X → List T} {cells' : Y → List T} {bulk : X → Nat} {bulk' : Y → Nat} {ok : X → Prop} {ok' : Y → Prop} (h0 : Opens P f.type k cells bulk ok) (ho : f.offset = o)
    (h : OpensF P fs (o + k) m cells' bulk' ok') : OpensF P (f :: fs) o (k + m) (fun a : X × Y => cells a.1 ++ cells' a.2) (fun a => bulk a.1 + bulk' a.2) (fun a => ok a.1 ∧ ok' a.2) :=
  ⟨fun {H enc w base spare held n cs ys} h1 h2 h3 => by
    match ys, h1 with
    | y :: ys, h1 =>
      have e := h3 0 f rfl
      rw [ho, h0.size] at e
      simp only [List.getElem?_cons_zero] at e
      obtain ⟨a, q1, q2, q3, q4⟩ := h0.one e
      obtain ⟨b, r1, r2, r3⟩ := h.all (ys := ys) (cs := cs) (by simpa using h1) (by omega) (fun i g hg => by simpa using h3 (i + 1) g (by simpa using hg))
      refine ⟨(a, b), ⟨q1, r1⟩, ?_, by simp only [List.map_cons, Rows.uptoBulkAll]; omega⟩
      rw [← List.drop_drop] at r2
      have := q2.append r2
      rwa [List.take_append_drop] at this⟩
theorem opens_struct {P : Program} {t : TypeId} {fs : Array Field} {X : Type} {k : Nat} {cells : X → List T} {bulk : X → Nat} {ok : X → Prop} (ht : P.underlying t = some (.struct fs)) (hs : P.cellsOf t = k) (h : OpensF P fs.toList 0 k cells bulk ok) :
    Opens P t k cells (fun a => bulk a + 1) ok :=
  ⟨hs, fun e => by
    obtain ⟨xs, n, _, rfl, hl, hlen, hf⟩ := DataW.trod_struct ht e
    obtain ⟨a, h1, h2, h3⟩ := h.all (by simpa using hlen) (by omega) (fun i f hi => hf i f (by simpa using hi))
    exact ⟨a, h1, by simpa using h2, by omega, by simp only [Rows.uptoBulk]; omega⟩⟩
def sumBulk {X : Type} (bulk : X → Nat) (l : List X) : Nat := (l.map bulk).sum
theorem opens_slice {P : Program} {t e : TypeId} {X : Type} {k : Nat} {cells : X → List T} {bulk : X → Nat} {ok : X → Prop} (ht : P.underlying t = some (.slice e)) (hs : P.cellsOf t = 1) (hk : 0 < k) (h : Opens P e k cells bulk ok) :
    Opens P t 1 (fun l : List X => [.sl k (l.flatMap cells)]) (fun l => sumBulk bulk l + 1) (fun l => (∀ a ∈ l, ok a) ∧ l.length ≤ maxLen) :=
  ⟨hs, fun {H enc w base spare held fuel cs x} ex => by
    rcases Go.Deep.open_slice ht ex with ⟨rfl, rfl⟩ | ⟨a, len, cap, m, n, D, Pl, rfl, hb, hl, hm, hmm, rfl, hx⟩
    · exact ⟨[], ⟨fun a ha => (by cases ha), Nat.zero_le _⟩, .single (.sl0 (Nat.zero_le _)) rfl, rfl, by simp [sumBulk, Rows.uptoBulk]⟩
    · have hlm : len ≤ m := by rw [hmm]; split <;> omega
      rw [h.size] at hx
      have key : ∀ q, q ≤ len → ∃ (l : List X) (us : List Value), l.length = q ∧ us.length = q * k ∧ VReps w [] (l.flatMap cells) us ∧ (∀ j u, us[j]? = some u → w.cell? (a.add j) = some u) ∧ (∀ a ∈ l, ok a) ∧
          sumBulk bulk l ≤ Rows.uptoBulkAll ((List.range q).map D) := by
        intro q
        induction q with
        | zero => exact fun _ => ⟨[], [], rfl, by simp, .nil, fun j u hu => by simp at hu, fun a ha => (by cases ha), by simp [sumBulk]⟩
        | succ q ih =>
          intro hq
          obtain ⟨l, us, h1, h2, h3, h4, h5, h6⟩ := ih (by omega)
          obtain ⟨cs', h7, h8⟩ := hx q (by omega)
          obtain ⟨a', h9, h10, h11, h12⟩ := h.one h8
          obtain ⟨_, _, h13⟩ := World.cells?_some h7
          refine ⟨l ++ [a'], us ++ cs', by simp [h1], ?_, ?_, ?_, ?_, ?_⟩
          · rw [List.length_append, h2, h11, Nat.succ_mul]
          · rw [List.flatMap_append]
            simpa using h3.append h10
          · intro j u hu
            by_cases hj : j < us.length
            · rw [List.getElem?_append_left hj] at hu
              exact h4 j u hu
            · rw [List.getElem?_append_right (by omega)] at hu
              have hjl := (List.getElem?_eq_some_iff.1 hu).1
              have := h13 (j - us.length) (by omega)
              rw [add_add', hu] at this
              rw [← this]
              congr 2
              omega
          · intro y hy
            rcases List.mem_append.1 hy with hy | hy
            · exact h5 y hy
            · rcases List.mem_singleton.1 hy with rfl
              exact h9
          · rw [List.range_succ, List.map_append, bulk_append]
            simp only [sumBulk, List.map_append, List.sum_append, List.map_cons, List.map_nil, List.sum_cons, List.sum_nil, Rows.uptoBulkAll] at h6 h12 ⊢
            omega
      obtain ⟨l, us, h1, h2, h3, h4, h5, h6⟩ := key len (Nat.le_refl _)
      refine ⟨l, ⟨h5, by omega⟩, .single ?_ rfl, rfl, by simp only [Rows.uptoBulk]; omega⟩
      rcases Nat.eq_zero_or_pos len with rfl | hpos
      · rw [List.eq_nil_of_length_eq_zero h1]
        exact .sl0 hm
      · have hlu := h3.len
        have hup : 0 < us.length := by rw [h2]; exact Nat.mul_pos hpos hk
        have hc0 := h4 0 _ (List.getElem?_eq_getElem hup)
        exact .sl hpos (by rw [hlu, h2]) hlu hl hm (by have := cell_lt hc0; rwa [block_add] at this) (by simp) h4 h3.at_ h3.one⟩
/-- An argument of a struct's type. -/
theorem Opens.agg {P : Program} {t : TypeId} {fs : Array Field} {X : Type} {k : Nat} {cells : X → List T} {bulk : X → Nat} {ok : X → Prop} (h : Opens P t k cells bulk ok) (ht : P.underlying t = some (.struct fs))
    {H : Type} {enc : TypeId × Value → H} {w : World} {base b0 : Nat} {r : Reach} {spare : Nat → Bool} {held : Bool} {v : Value} {d : DataW H} {p : List MemPlace} (hv : Value.okWide P w r b0 t v) (e : DataW.Trod enc P w base spare held t v d p) :
    ∃ a, ok a ∧ VRep w [] (.agg (cells a)) v ∧ bulk a ≤ Rows.uptoBulk d := by
  obtain ⟨cs, rfl, hsz⟩ := okWide_struct ht hv
  obtain ⟨fuel, hf⟩ := e
  obtain ⟨a, h1, h2, h3, h4⟩ := h.one hf
  simp only [Value.cells] at h2 h3
  exact ⟨a, h1, by
    have := VRep.agg h2.len h2.at_ h2.one
    simpa using this, h4⟩
/-- An argument of a slice's type. -/
theorem Opens.row {P : Program} {t e : TypeId} {X : Type} {cell : X → T} {bulk : X → Nat} {ok : X → Prop} (h : Opens P t 1 (fun a => [cell a]) bulk ok) (ht : P.underlying t = some (.slice e))
    {H : Type} {enc : TypeId × Value → H} {w : World} {base b0 : Nat} {r : Reach} {spare : Nat → Bool} {held : Bool} {v : Value} {d : DataW H} {p : List MemPlace} (hv : Value.okWide P w r b0 t v) (e : DataW.Trod enc P w base spare held t v d p) :
    ∃ a, ok a ∧ VRep w [] (cell a) v ∧ bulk a ≤ Rows.uptoBulk d := by
  obtain ⟨A, l, c, rfl⟩ := okWide_slice ht hv
  obtain ⟨fuel, hf⟩ := e
  obtain ⟨a, h1, h2, h3, h4⟩ := h.one hf
  simp only [Value.cells] at h2 h3
  exact ⟨a, h1, h2.at_ 0 _ _ rfl rfl, h4⟩
end Go.Proofs.Ytmiggpnkicdijaa

namespace Go.Proofs.Ytmiggpnkicdijaa
open Go Go.RowKit
/-- Which descriptors are held. -/
structure Held (name : List UInt8) (i n : Nat) (ws : WS) : Prop where
  wb : WB n ws
  busy : ∀ k, k < i → (ws.opn.getD k default).kind ≠ 0
  free : ∀ k, i ≤ k → k < 19 → (ws.opn.getD k default).kind = 0
  has : hasK name ws.files = true
structure NameOk (name : List UInt8) : Prop where
  len : name.length ≤ 255
  idx : Lib.indexByte name 0 < 0
  ne : name ≠ []
theorem getD_set_ne {α : Type} {l : List α} {j k : Nat} (h : k ≠ j) (a d : α) : (l.set j a).getD k d = l.getD k d := by
  simp [List.getD, List.getElem?_set, Ne.symm h]
end Go.Proofs.Ytmiggpnkicdijaa

namespace Go.Proofs.Ytmiggpnkicdijaa
open Go.ChangeShapes Go.WideShapes Go.ChangeAt Go Go.RowKit
theorem laidOut : laidOutB Try.prog = true := by kernel_rfl
theorem opens9 : Opens Try.prog 9 1 (fun l : List UInt8 => [sv l]) (fun l => l.length + 1) (fun l => l.length ≤ maxLen) := opens_string Try.underlying9 (by kernel_rfl)
theorem opens3 : Opens Try.prog 3 1 (fun z : Int => [.v (.int .i64 z)]) (fun _ => 1) (fun z => (Lit.int .i64 z).wf = true) := opens_int Try.underlying3 (by kernel_rfl)
theorem opens51 : Opens Try.prog 51 1 (fun z : Int => [.v (.int .u64 z)]) (fun _ => 1) (fun z => (Lit.int .u64 z).wf = true) := opens_int Try.underlying51 (by kernel_rfl)
theorem int_i64 {z : Int} (h : (Lit.int .i64 z).wf = true) : -9223372036854775808 ≤ z ∧ z ≤ 9223372036854775807 := by simpa [Lit.wf, IntKind.min, IntKind.max, IntKind.signed, IntKind.bits] using h
theorem int_u64 {z : Int} (h : (Lit.int .u64 z).wf = true) : 0 ≤ z ∧ z ≤ 18446744073709551615 := by simpa [Lit.wf, IntKind.min, IntKind.max, IntKind.signed, IntKind.bits] using h
end Go.Proofs.Ytmiggpnkicdijaa

namespace Go.Proofs.Ytmiggpnkicdijaa
open Go.ChangeShapes Go.WideShapes Go.ChangeAt Go Go.RowKit
def fileBulk (f : List UInt8 × List UInt8) : Nat := f.1.length + f.2.length + 3
theorem opens46 : Opens Try.prog 46 2 fCells fileBulk (fun f => f.1.length ≤ maxLen ∧ f.2.length ≤ maxLen) :=
  (opens_struct Try.underlying46 (by kernel_rfl) (opensF_cons opens9 rfl (opensF_cons opens9 rfl opensF_nil))).turn (fun a => (a.1, a.2.1)) (fun a h => ⟨rfl, by simp only [fileBulk]; omega, ⟨h.1, h.2.1⟩⟩)
theorem opens26 : Opens Try.prog 26 1 (fun l : List (List UInt8 × List UInt8) => [.sl 2 (l.flatMap fCells)]) (fun l => sumBulk fileBulk l + 1) (fun l => (∀ f ∈ l, f.1.length ≤ maxLen ∧ f.2.length ≤ maxLen) ∧ l.length ≤ maxLen) := opens_slice Try.underlying26 (by kernel_rfl) (by decide) opens46
def stepBulk (s : StepS) : Nat := s.name.length + s.text.length + 6
def StepWf (s : StepS) : Prop := (-9223372036854775808 ≤ s.kind ∧ s.kind ≤ 9223372036854775807) ∧ (-9223372036854775808 ≤ s.fd ∧ s.fd ≤ 9223372036854775807) ∧ s.n ≤ 18446744073709551615
theorem opens2 : Opens Try.prog 2 1 (fun z : Int => [.v (.int .i64 z)]) (fun _ => 1) (fun z => (Lit.int .i64 z).wf = true) := opens_int Try.underlying2 (by kernel_rfl)
theorem opens58 : Opens Try.prog 58 5 stepCells stepBulk StepWf :=
  (opens_struct Try.underlying58 (by kernel_rfl) (opensF_cons opens3 rfl (opensF_cons opens2 rfl (opensF_cons opens51 rfl (opensF_cons opens9 rfl (opensF_cons opens9 rfl opensF_nil)))))).turn (fun a => (⟨a.1, a.2.1, a.2.2.1.toNat, a.2.2.2.1, a.2.2.2.2.1⟩ : StepS))
    (fun a h => by
      obtain ⟨h1, h2, h3, h4, h5, _⟩ := h
      have p := int_u64 h3
      refine ⟨?_, by simp only [stepBulk]; omega, ⟨int_i64 h1, int_i64 h2, by show a.2.2.1.toNat ≤ _; omega⟩⟩
      show [_, _, T.v (.int .u64 (a.2.2.1.toNat : Int)), _, _] = _
      rw [Int.toNat_of_nonneg p.1]
      rfl)
theorem opens53 : Opens Try.prog 53 1 (fun l : List StepS => [.sl 5 (l.flatMap stepCells)]) (fun l => sumBulk stepBulk l + 1) (fun l => (∀ s ∈ l, StepWf s) ∧ l.length ≤ maxLen) := opens_slice Try.underlying53 (by kernel_rfl) (by decide) opens58
def worldBulk (w : List UInt8 × List (List UInt8 × List UInt8)) : Nat := w.1.length + sumBulk fileBulk w.2
def WorldWf (w : List UInt8 × List (List UInt8 × List UInt8)) : Prop := w.1.length ≤ maxLen ∧ w.2.length ≤ maxLen
theorem opens28 : Opens Try.prog 28 2 (fun w : List UInt8 × List (List UInt8 × List UInt8) => [sv w.1, .sl 2 (w.2.flatMap fCells)]) worldBulk WorldWf :=
  (opens_struct Try.underlying28 (by kernel_rfl) (opensF_cons opens9 rfl (opensF_cons opens26 rfl opensF_nil))).turn (fun a => (a.1, a.2.1)) (fun a h => ⟨rfl, by simp only [worldBulk]; omega, ⟨h.1, h.2.1.2⟩⟩)
theorem sum_mem {X : Type} {f : X → Nat} {l : List X} {s : X} (h : s ∈ l) : f s ≤ sumBulk f l := by
  induction l with
  | nil => cases h
  | cons x r ih =>
    simp only [sumBulk, List.map_cons, List.sum_cons] at ih ⊢
    rcases List.mem_cons.1 h with rfl | h
    · omega
    · have := ih h; omega
theorem sum_le {X : Type} {f g : X → Nat} (h : ∀ x, f x ≤ g x) (l : List X) : sumBulk f l ≤ sumBulk g l := by
  induction l with
  | nil => exact Nat.le_refl _
  | cons x r ih =>
    simp only [sumBulk, List.map_cons, List.sum_cons] at ih ⊢
    have := h x; omega
theorem sum_len {X : Type} {f : X → Nat} (h : ∀ x, 1 ≤ f x) (l : List X) : l.length ≤ sumBulk f l := by
  induction l with
  | nil => exact Nat.zero_le _
  | cons x r ih =>
    simp only [sumBulk, List.map_cons, List.sum_cons, List.length_cons] at ih ⊢
    have := h x; omega
theorem sumT_bulk (l : List StepS) : sumT l ≤ sumBulk stepBulk l := sum_le (f := fun s : StepS => 2 + s.text.length) (fun s => by simp only [stepBulk]; omega) l
theorem steps_ok {l : List StepS} (h : ∀ s ∈ l, StepWf s) (hb : sumBulk stepBulk l ≤ 1048576) : ∀ s ∈ l, StepOk s := fun s hs => by
  have h1 := h s hs
  have h2 := sum_mem (f := stepBulk) hs
  simp only [stepBulk] at h2 hb
  exact ⟨h1.1.1, h1.1.2, h1.2.1.1, h1.2.1.2, h1.2.2, by omega, by omega⟩
theorem files_le {l : List (List UInt8 × List UInt8)} : l.length ≤ sumBulk fileBulk l := sum_len (fun x => by simp only [fileBulk]; omega) l
theorem files_in {l : List (List UInt8 × List UInt8)} {x : List UInt8 × List UInt8} (h : x ∈ l) : x.1.length + x.2.length ≤ sumBulk fileBulk l := by
  have := sum_mem (f := fileBulk) h
  simp only [fileBulk] at this ⊢
  omega
section
variable {H : Type} {enc : TypeId × Value → H} {w : World} {base b0 : Nat} {spare : Nat → Bool} {held : Bool} {v : Value} {d : DataW H} {p : List MemPlace}
set_option maxRecDepth 100000 in
theorem open_world (hv : Value.okWide Try.prog w .any b0 28 v) (e : DataW.Trod enc Try.prog w base spare held 28 v d p) : ∃ x : List UInt8 × List (List UInt8 × List UInt8), VRep w [] (worldT x.1 x.2) v ∧ worldBulk x ≤ Rows.uptoBulk d := by
  obtain ⟨x, _, h1, h2⟩ := opens28.agg Try.underlying28 hv e
  exact ⟨x, h1, h2⟩
set_option maxRecDepth 100000 in
theorem open_steps (hv : Value.okWide Try.prog w .any b0 53 v) (e : DataW.Trod enc Try.prog w base spare held 53 v d p) : ∃ l : List StepS, (∀ s ∈ l, StepWf s) ∧ VRep w [] (.sl 5 (l.flatMap stepCells)) v ∧ sumBulk stepBulk l + 1 ≤ Rows.uptoBulk d := by
  obtain ⟨l, h1, h2, h3⟩ := Opens.row (cell := fun l : List StepS => T.sl 5 (l.flatMap stepCells)) opens53 Try.underlying53 hv e
  exact ⟨l, h1.1, h2, h3⟩
end
end Go.Proofs.Ytmiggpnkicdijaa
