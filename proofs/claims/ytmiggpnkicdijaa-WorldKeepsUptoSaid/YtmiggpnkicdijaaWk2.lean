/-
  CONTRACTS of the world package: the trace; walked by program.
-/
import Derived.Test.YtmiggpnkicdijaaWk1
import Derived.Test.YtmiggpnkicdijaaSay
namespace Go.Proofs.Ytmiggpnkicdijaa
open Go Go.RowKit
set_option linter.unusedVariables false

set_option maxHeartbeats 400000 in
theorem at29 (b j : Nat) (hj : j < 19) :
    ACalls Try.prog 29 [wp b, .v (.int .i64 (j : Int))] [] fun t S => t = .v (.pointer (some ⟨b, 2 + j * 3, none⟩)) := by
  refine ACalls.intro Try.func29 rfl Try.ntmps29 (Nat.le_of_ble_eq_true rfl) rfl fun X w0 => ?_
  refine AW.rseq ?_
  refine AWL.y rfl rfl (B rfl) (Yv.assign rfl (E rfl rfl)) ?_
  refine AWL.nil ?_
  refine AW.seq ?_
  refine AW.rseq ?_
  refine AWL.y rfl rfl (B rfl) (Yv.move rfl (E rfl rfl)) ?_
  refine AWL.y rfl rfl (B rfl) (Yv.eqlNilP rfl pn_24 (E rfl rfl)) ?_
  refine AWL.y rfl rfl (B rfl) (Yv.move rfl (E rfl rfl)) ?_
  refine AWL.ygF rfl rfl rfl rfl (B rfl) (Yv.move rfl (E rfl rfl)) ?_
  refine AWL.ygF rfl rfl rfl rfl (B rfl) (Yv.lss rfl (Eg rfl rfl id) (E rfl rfl)) ?_
  refine AWL.y rfl rfl (B rfl) (Yv.pickOr (t := .const (.bool true)) rfl (E rfl rfl) (Eg rfl rfl id)) ?_
  refine AWL.y rfl rfl (B rfl) (Yv.move rfl (E rfl rfl)) ?_
  refine AWL.ygF rfl rfl rfl rfl (B rfl) (Yv.move rfl (E rfl rfl)) ?_
  refine AWL.ygF rfl rfl rfl rfl (B rfl) (Yv.geq rfl (Eg rfl rfl id) (E rfl rfl)) ?_
  refine AWL.y rfl rfl (B rfl) (Yv.pickOr (t := .const (.bool true)) rfl (E rfl rfl) (Eg rfl rfl id)) ?_
  refine AWL.nil ?_
  refine AW.cond rfl (fun h0t => ?_) (fun h0f => ?_)
  ·
    try replace h0t := of_decide_eq_true h0t
    omega
  ·
    try replace h0f := of_decide_eq_false h0f
    refine AW.skip ?_
    refine AW.rseq ?_
    refine AWL.y rfl rfl (B rfl) (Yv.move rfl (E rfl rfl)) ?_
    refine AWL.y rfl rfl (B rfl) (Yv.move rfl (E rfl rfl)) ?_
    refine AWL.y rfl rfl (B rfl) (Yv.nilChk rfl (E rfl rfl)) ?_
    refine AWL.y rfl rfl (B rfl) (Yv.fieldBox rfl fo_70_2 (E rfl rfl)) ?_
    refine AWL.y rfl rfl (B rfl) (Yv.indexArr rfl ar_68 (E rfl rfl) (E rfl rfl) (fun hg => ⟨rfl, by omega⟩)) ?_
    refine AWL.y rfl rfl (B rfl) (Yv.assign rfl (E rfl rfl)) ?_
    refine AWL.nil ?_
    refine AW.ret (retI (.tmp rfl .nil) ?_)
    rfl

set_option maxHeartbeats 1000000 in
theorem say30 (b m : Nat) (ws : WS) (k : Int) (name text : List UInt8) (n : Nat) (hw : WB n ws) (hn : n ≤ 1099511627776) (ht : text.length ≤ 1099511627776) :
    ACalls Try.prog 30 [wp b, .v (.int .i64 k), sv name, sv text] (WSt b m ws) (fun t S => t = .tup [] ∧ ∃ A c, S = WSt b m { ws with trace := sayF k name text ws.trace, tA := A, tc := c }) := by
  obtain ⟨ho, htr, htx, hfl, hpl, hsi⟩ := hw
  refine ACalls.intro Try.func30 rfl Try.ntmps30 (Nat.le_of_ble_eq_true rfl) rfl fun X w0 => ?_
  refine AW.seq ?_
  refine AW.rseq ?_
  refine AWL.y rfl rfl (B rfl) (Yv.move rfl (E rfl rfl)) ?_
  refine AWL.y rfl rfl (B rfl) (Yv.eqlL rfl (E rfl rfl) (E rfl rfl)) ?_
  refine AWL.nil ?_
  refine AW.cond rfl (fun h0t => ?_) (fun h0f => ?_)
  ·
    try replace h0t := of_decide_eq_true h0t
    refine AW.ret (retI .nil ?_)
    exact ⟨rfl, ws.tA, ws.tc, by rw [h0t, sayF_nil]⟩
  ·
    try replace h0f := of_decide_eq_false h0f
    refine AW.skip ?_
    refine AW.seq ?_
    refine AW.rseq ?_
    refine AWL.y rfl rfl (B rfl) (Yv.move rfl (E rfl rfl)) ?_
    refine AWL.y rfl rfl (B rfl) (Yv.nilChk rfl (E rfl rfl)) ?_
    refine AWL.y rfl rfl (B rfl) (Yv.fieldBox rfl fo_70_3 (E rfl rfl)) ?_
    refine AWL.y rfl rfl (B rfl) (Yv.loadBox rfl ag_33 (i := 0) rfl (E rfl rfl) (trace_at ho)) ?_
    refine AWL.y rfl rfl (B rfl) (Yv.lenV rfl so_33 (E rfl rfl)) ?_
    refine AWL.y rfl rfl (B rfl) (Yv.assign rfl (E rfl rfl)) ?_
    refine AWL.nil ?_
    refine AW.rseq ?_
    refine AWL.y rfl rfl (B rfl) (Yv.move rfl (E rfl rfl)) ?_
    refine AWL.y rfl rfl (B rfl) (Yv.gtr rfl (E rfl rfl) (E rfl rfl)) ?_
    refine AWL.y rfl rfl (B rfl) (Yv.move rfl (E rfl rfl)) ?_
    refine AWL.ygT rfl rfl rfl rfl (B rfl) (Yv.move rfl (E rfl rfl)) ?_
    refine AWL.ygT rfl rfl rfl rfl (B rfl) (Yv.nilChk rfl (Eg rfl rfl id)) ?_
    refine AWL.ygT rfl rfl rfl rfl (B rfl) (Yv.fieldBox rfl fo_70_3 (Eg rfl rfl id)) ?_
    refine AWL.ygT rfl rfl rfl rfl (B rfl) (Yv.loadBox rfl ag_33 (i := 0) rfl (Eg rfl rfl id) (trace_at ho)) ?_
    refine AWL.ygT rfl rfl rfl rfl (B rfl) (Yv.move rfl (E rfl rfl)) ?_
    refine AWL.ygT rfl rfl rfl rfl (B rfl) (Yv.subN_i64 rfl (Eg rfl rfl id) (E rfl rfl) (fun hg => by first | omega | (simp only [Bool.and_eq_true, Bool.or_eq_false_iff, Bool.not_eq_true', Bool.not_eq_false', decide_eq_true_eq, decide_eq_false_iff_not] at hg; omega))) ?_
    refine AWL.ygT rfl rfl rfl rfl (B rfl) (Yv.indexRow (j := ws.trace.length - 1) rfl ss_33 (i := 2) rfl (Eg rfl rfl id) (Eg rfl rfl id) (fun hg => by first | exact ⟨by omega, by omega⟩ | (simp only [Bool.or_eq_true, Bool.and_eq_true, Bool.or_eq_false_iff, Bool.and_eq_false_iff, Bool.not_eq_true', Bool.not_eq_false', decide_eq_true_eq, decide_eq_false_iff_not, Decidable.not_not] at hg; exact ⟨by omega, by omega⟩))) ?_
    refine AWL.ygT rfl rfl rfl rfl (B rfl) (Yv.fieldEp rfl fo_36_0 (Eg rfl rfl id)) ?_
    refine AWL.ygT rfl rfl rfl rfl (B rfl) (Yv.loadEp rfl ag_3 (i := 2) rfl (Eg rfl rfl id) (fun hg => evk_at (by first | omega | (simp only [Bool.or_eq_true, Bool.and_eq_true, Bool.or_eq_false_iff, Bool.and_eq_false_iff, Bool.not_eq_true', Bool.not_eq_false', decide_eq_true_eq, decide_eq_false_iff_not, Decidable.not_not] at hg; omega)))) ?_
    refine AWL.ygT rfl rfl rfl rfl (B rfl) (Yv.move rfl (E rfl rfl)) ?_
    refine AWL.ygT rfl rfl rfl rfl (B rfl) (Yv.eql rfl (Eg rfl rfl id) (Eg rfl rfl id)) ?_
    refine AWL.y rfl rfl (B rfl) (Yv.pickAnd rfl (E rfl rfl) (Eg rfl rfl id)) ?_
    refine AWL.y rfl rfl (B rfl) (Yv.move rfl (E rfl rfl)) ?_
    refine AWL.ygT rfl rfl rfl rfl (B rfl) (Yv.move rfl (E rfl rfl)) ?_
    refine AWL.ygT rfl rfl rfl rfl (B rfl) (Yv.nilChk rfl (Eg rfl rfl id)) ?_
    refine AWL.ygT rfl rfl rfl rfl (B rfl) (Yv.fieldBox rfl fo_70_3 (Eg rfl rfl id)) ?_
    refine AWL.ygT rfl rfl rfl rfl (B rfl) (Yv.loadBox rfl ag_33 (i := 0) rfl (Eg rfl rfl id) (trace_at ho)) ?_
    refine AWL.ygT rfl rfl rfl rfl (B rfl) (Yv.move rfl (E rfl rfl)) ?_
    refine AWL.ygT rfl rfl rfl rfl (B rfl) (Yv.subN_i64 rfl (Eg rfl rfl id) (E rfl rfl) (fun hg => by first | omega | (simp only [Bool.and_eq_true, Bool.or_eq_false_iff, Bool.not_eq_true', Bool.not_eq_false', decide_eq_true_eq, decide_eq_false_iff_not] at hg; omega))) ?_
    refine AWL.ygT rfl rfl rfl rfl (B rfl) (Yv.indexRow (j := ws.trace.length - 1) rfl ss_33 (i := 2) rfl (Eg rfl rfl id) (Eg rfl rfl id) (fun hg => by first | exact ⟨by omega, by omega⟩ | (simp only [Bool.or_eq_true, Bool.and_eq_true, Bool.or_eq_false_iff, Bool.and_eq_false_iff, Bool.not_eq_true', Bool.not_eq_false', decide_eq_true_eq, decide_eq_false_iff_not, Decidable.not_not] at hg; exact ⟨by omega, by omega⟩))) ?_
    refine AWL.ygT rfl rfl rfl rfl (B rfl) (Yv.fieldEp rfl fo_36_1 (Eg rfl rfl id)) ?_
    refine AWL.ygT rfl rfl rfl rfl (B rfl) (Yv.loadEp rfl ag_9 (i := 2) rfl (Eg rfl rfl id) (fun hg => evn_at (by first | omega | (simp only [Bool.or_eq_true, Bool.and_eq_true, Bool.or_eq_false_iff, Bool.and_eq_false_iff, Bool.not_eq_true', Bool.not_eq_false', decide_eq_true_eq, decide_eq_false_iff_not, Decidable.not_not] at hg; omega)))) ?_
    refine AWL.ygT rfl rfl rfl rfl (B rfl) (Yv.move rfl (E rfl rfl)) ?_
    refine AWL.ygT rfl rfl rfl rfl (B rfl) (Yv.eqlL rfl (Eg rfl rfl id) (Eg rfl rfl id)) ?_
    refine AWL.y rfl rfl (B rfl) (Yv.pickAnd rfl (E rfl rfl) (Eg rfl rfl id)) ?_
    refine AWL.nil ?_
    refine AW.cond rfl (fun h1t => ?_) (fun h1f => ?_)
    ·
      try replace h1t := of_decide_eq_true h1t
      simp only [Bool.or_eq_true, Bool.and_eq_true, Bool.or_eq_false_iff, Bool.and_eq_false_iff, Bool.not_eq_true', Bool.not_eq_false', decide_eq_true_eq, decide_eq_false_iff_not, Decidable.not_not] at h1t
      obtain ⟨⟨g1, g2⟩, g3⟩ := h1t
      have hlast := htx _ (last_mem (l := ws.trace) (by omega))
      unfold lastE at hlast
      refine AW.rseq ?_
      refine AWL.y rfl rfl (B rfl) (Yv.move rfl (E rfl rfl)) ?_
      refine AWL.y rfl rfl (B rfl) (Yv.nilChk rfl (E rfl rfl)) ?_
      refine AWL.y rfl rfl (B rfl) (Yv.fieldBox rfl fo_70_3 (E rfl rfl)) ?_
      refine AWL.y rfl rfl (B rfl) (Yv.loadBox rfl ag_33 (i := 0) rfl (E rfl rfl) (trace_at ho)) ?_
      refine AWL.y rfl rfl (B rfl) (Yv.move rfl (E rfl rfl)) ?_
      refine AWL.y rfl rfl (B rfl) (Yv.subN_i64 rfl (E rfl rfl) (E rfl rfl) (fun hg => by omega)) ?_
      refine AWL.y rfl rfl (B rfl) (Yv.indexRow (j := ws.trace.length - 1) rfl ss_33 (i := 2) rfl (E rfl rfl) (E rfl rfl) (fun hg => by first | exact ⟨by omega, by omega⟩ | (simp only [Bool.or_eq_true, Bool.and_eq_true, Bool.or_eq_false_iff, Bool.and_eq_false_iff, Bool.not_eq_true', Bool.not_eq_false', decide_eq_true_eq, decide_eq_false_iff_not, Decidable.not_not] at hg; exact ⟨by omega, by omega⟩))) ?_
      refine AWL.y rfl rfl (B rfl) (Yv.fieldEp rfl fo_36_2 (E rfl rfl)) ?_
      refine AWL.y rfl rfl (B rfl) (Yv.loadEp rfl ag_9 (i := 2) rfl (E rfl rfl) (fun hg => evt_at (by first | omega | (simp only [Bool.or_eq_true, Bool.and_eq_true, Bool.or_eq_false_iff, Bool.and_eq_false_iff, Bool.not_eq_true', Bool.not_eq_false', decide_eq_true_eq, decide_eq_false_iff_not, Decidable.not_not] at hg; omega)))) ?_
      refine AWL.y rfl rfl (B rfl) (Yv.move rfl (E rfl rfl)) ?_
      refine AWL.y rfl rfl (B rfl) (Yv.addL rfl (E rfl rfl) (E rfl rfl) (fun hg => by omega)) ?_
      refine AWL.y rfl rfl (B rfl) (Yv.indexRow (j := ws.trace.length - 1) rfl ss_33 (i := 2) rfl (E rfl rfl) (E rfl rfl) (fun hg => by first | exact ⟨by omega, by omega⟩ | (simp only [Bool.or_eq_true, Bool.and_eq_true, Bool.or_eq_false_iff, Bool.and_eq_false_iff, Bool.not_eq_true', Bool.not_eq_false', decide_eq_true_eq, decide_eq_false_iff_not, Decidable.not_not] at hg; exact ⟨by omega, by omega⟩))) ?_
      refine AWL.y rfl rfl (B rfl) (Yv.fieldEp rfl fo_36_2 (E rfl rfl)) ?_
      refine AWL.storeEp1 (i := 2) rfl rfl rfl ag_9 rfl (E rfl rfl) (E rfl rfl) rfl rfl (by rw [len_ev]; omega) ?_
      refine AWL.nil ?_
      refine AW.ret (retI .nil ?_)
      exact ⟨rfl, ws.tA, ws.tc, (wst_more h0f ⟨by omega, g2, g3⟩).symm⟩
    ·
      try replace h1f := of_decide_eq_false h1f
      have hno : ¬ (0 < ws.trace.length ∧ (lastE ws.trace).kind = k ∧ (lastE ws.trace).name = name) := fun q => by
        obtain ⟨q1, q2, q3⟩ := q
        unfold lastE at q2 q3
        rw [decide_eq_true (show (0 : Int) < ws.trace.length by omega), decide_eq_true q2, decide_eq_true q3] at h1f
        cases h1f
      refine AW.skip ?_
      refine AW.regionP rfl ?_
      refine AWP.take (i := 0) rfl (by kernel_rfl) (by kernel_rfl) (by kernel_rfl) rfl rfl (B rfl) (freeMove rfl (E rfl rfl)) ?_
      refine AWP.take (i := 1) rfl (by kernel_rfl) (by kernel_rfl) (by kernel_rfl) rfl rfl (B rfl) (freeMove rfl (E rfl rfl)) ?_
      refine AWP.take (i := 2) rfl (by kernel_rfl) (by kernel_rfl) (by kernel_rfl) rfl rfl (B rfl) (freeNil rfl (E rfl rfl)) ?_
      refine AWP.take (i := 3) rfl (by kernel_rfl) (by kernel_rfl) (by kernel_rfl) rfl rfl (B rfl) (freeField rfl fo_70_3 (E rfl rfl)) ?_
      refine AWP.take (i := 5) rfl (by kernel_rfl) (by kernel_rfl) (by kernel_rfl) rfl rfl (B rfl) (freeMove rfl (E rfl rfl)) ?_
      refine AWP.take (i := 6) rfl (by kernel_rfl) (by kernel_rfl) (by kernel_rfl) rfl rfl (B rfl) (freeMove rfl (E rfl rfl)) ?_
      refine AWP.take (i := 7) rfl (by kernel_rfl) (by kernel_rfl) (by kernel_rfl) rfl rfl (B rfl) (freeMove rfl (E rfl rfl)) ?_
      refine AWP.two (i := 4) (j := 8) (by kernel_rfl) rfl rfl ?_ ?_
      ·
        refine AWL.y rfl rfl (B rfl) (Yv.loadBox rfl ag_33 (i := 0) rfl (E rfl rfl) (trace_at ho)) ?_
        refine AWL.nil ?_
        refine AWP.one (i := 8) (by kernel_rfl) rfl ?_
        refine AWL.callP rfl rfl (B rfl) rfl ce_26 (E rfl rfl) (evsC (E rfl rfl) evs0) (clone26 text (by omega)) (fun t S h => h) ?_
        refine AWL.nil ?_
        refine AWP.one (i := 9) (by kernel_rfl) rfl ?_
        refine AWL.y rfl rfl (B rfl) (Yv.buildS rfl sh_36 (evpC (E rfl rfl) (evpC (E rfl rfl) (evpC (E rfl rfl) evp0))) (fun _ => rfl)) ?_
        refine AWL.nil ?_
        refine AWP.one (i := 10) (by kernel_rfl) rfl ?_
        refine AWL.buildSliceE rfl rfl (B rfl) rfl el_33 (B rfl) rfl (evsC (E rfl rfl) evs0) (Nat.le_of_ble_eq_true rfl) rfl rfl ?_
        refine AWL.nil ?_
        refine AWP.one (i := 11) (by kernel_rfl) rfl ?_
        refine AWL.appendRow (i := 2) rfl rfl (B rfl) rfl el_33 (B rfl) rfl (E rfl rfl) (SrcT.sl so_33 (B rfl) (E rfl rfl) (m := 1) rfl) (by unfold maxLen; omega) (by omega) (fun A68 c68 => ?_)
        refine AWL.nil ?_
        refine AWP.one (i := 12) (by kernel_rfl) rfl ?_
        refine AWL.y rfl rfl (B rfl) (Yv.nilChk rfl (E rfl rfl)) ?_
        refine AWL.nil ?_
        refine AWP.one (i := 13) (by kernel_rfl) rfl ?_
        refine AWL.y rfl rfl (B rfl) (Yv.fieldBox rfl fo_70_3 (E rfl rfl)) ?_
        refine AWL.nil ?_
        refine AWP.one (i := 14) (by kernel_rfl) rfl ?_
        refine AWL.storeBox (i := 0) rfl rfl rfl ag_33 rfl (E rfl rfl) (E rfl rfl) rfl rfl (by rw [wCells_len, ho]; omega) ?_
        refine AWL.nil ?_
        refine AWP.done (by kernel_rfl) ?_
        refine retN .nil ?_
        exact ⟨rfl, A68, c68, (wst_new ho h0f hno).symm⟩
      ·
        refine AWL.callP rfl rfl (B rfl) rfl ce_26 (E rfl rfl) (evsC (E rfl rfl) evs0) (clone26 text (by omega)) (fun t S h => h) ?_
        refine AWL.nil ?_
        refine AWP.two (i := 4) (j := 9) (by kernel_rfl) rfl rfl ?_ ?_
        ·
          refine AWL.y rfl rfl (B rfl) (Yv.loadBox rfl ag_33 (i := 0) rfl (E rfl rfl) (trace_at ho)) ?_
          refine AWL.nil ?_
          refine AWP.one (i := 9) (by kernel_rfl) rfl ?_
          refine AWL.y rfl rfl (B rfl) (Yv.buildS rfl sh_36 (evpC (E rfl rfl) (evpC (E rfl rfl) (evpC (E rfl rfl) evp0))) (fun _ => rfl)) ?_
          refine AWL.nil ?_
          refine AWP.one (i := 10) (by kernel_rfl) rfl ?_
          refine AWL.buildSliceE rfl rfl (B rfl) rfl el_33 (B rfl) rfl (evsC (E rfl rfl) evs0) (Nat.le_of_ble_eq_true rfl) rfl rfl ?_
          refine AWL.nil ?_
          refine AWP.one (i := 11) (by kernel_rfl) rfl ?_
          refine AWL.appendRow (i := 2) rfl rfl (B rfl) rfl el_33 (B rfl) rfl (E rfl rfl) (SrcT.sl so_33 (B rfl) (E rfl rfl) (m := 1) rfl) (by unfold maxLen; omega) (by omega) (fun A68 c68 => ?_)
          refine AWL.nil ?_
          refine AWP.one (i := 12) (by kernel_rfl) rfl ?_
          refine AWL.y rfl rfl (B rfl) (Yv.nilChk rfl (E rfl rfl)) ?_
          refine AWL.nil ?_
          refine AWP.one (i := 13) (by kernel_rfl) rfl ?_
          refine AWL.y rfl rfl (B rfl) (Yv.fieldBox rfl fo_70_3 (E rfl rfl)) ?_
          refine AWL.nil ?_
          refine AWP.one (i := 14) (by kernel_rfl) rfl ?_
          refine AWL.storeBox (i := 0) rfl rfl rfl ag_33 rfl (E rfl rfl) (E rfl rfl) rfl rfl (by rw [wCells_len, ho]; omega) ?_
          refine AWL.nil ?_
          refine AWP.done (by kernel_rfl) ?_
          refine retN .nil ?_
          exact ⟨rfl, A68, c68, (wst_new ho h0f hno).symm⟩
        ·
          refine AWL.y rfl rfl (B rfl) (Yv.buildS rfl sh_36 (evpC (E rfl rfl) (evpC (E rfl rfl) (evpC (E rfl rfl) evp0))) (fun _ => rfl)) ?_
          refine AWL.nil ?_
          refine AWP.two (i := 4) (j := 10) (by kernel_rfl) rfl rfl ?_ ?_
          ·
            refine AWL.y rfl rfl (B rfl) (Yv.loadBox rfl ag_33 (i := 0) rfl (E rfl rfl) (trace_at ho)) ?_
            refine AWL.nil ?_
            refine AWP.one (i := 10) (by kernel_rfl) rfl ?_
            refine AWL.buildSliceE rfl rfl (B rfl) rfl el_33 (B rfl) rfl (evsC (E rfl rfl) evs0) (Nat.le_of_ble_eq_true rfl) rfl rfl ?_
            refine AWL.nil ?_
            refine AWP.one (i := 11) (by kernel_rfl) rfl ?_
            refine AWL.appendRow (i := 2) rfl rfl (B rfl) rfl el_33 (B rfl) rfl (E rfl rfl) (SrcT.sl so_33 (B rfl) (E rfl rfl) (m := 1) rfl) (by unfold maxLen; omega) (by omega) (fun A68 c68 => ?_)
            refine AWL.nil ?_
            refine AWP.one (i := 12) (by kernel_rfl) rfl ?_
            refine AWL.y rfl rfl (B rfl) (Yv.nilChk rfl (E rfl rfl)) ?_
            refine AWL.nil ?_
            refine AWP.one (i := 13) (by kernel_rfl) rfl ?_
            refine AWL.y rfl rfl (B rfl) (Yv.fieldBox rfl fo_70_3 (E rfl rfl)) ?_
            refine AWL.nil ?_
            refine AWP.one (i := 14) (by kernel_rfl) rfl ?_
            refine AWL.storeBox (i := 0) rfl rfl rfl ag_33 rfl (E rfl rfl) (E rfl rfl) rfl rfl (by rw [wCells_len, ho]; omega) ?_
            refine AWL.nil ?_
            refine AWP.done (by kernel_rfl) ?_
            refine retN .nil ?_
            exact ⟨rfl, A68, c68, (wst_new ho h0f hno).symm⟩
          ·
            refine AWL.buildSliceE rfl rfl (B rfl) rfl el_33 (B rfl) rfl (evsC (E rfl rfl) evs0) (Nat.le_of_ble_eq_true rfl) rfl rfl ?_
            refine AWL.nil ?_
            refine AWP.one (i := 4) (by kernel_rfl) rfl ?_
            refine AWL.y rfl rfl (B rfl) (Yv.loadBox rfl ag_33 (i := 0) rfl (E rfl rfl) (trace_at ho)) ?_
            refine AWL.nil ?_
            refine AWP.one (i := 11) (by kernel_rfl) rfl ?_
            refine AWL.appendRow (i := 2) rfl rfl (B rfl) rfl el_33 (B rfl) rfl (E rfl rfl) (SrcT.sl so_33 (B rfl) (E rfl rfl) (m := 1) rfl) (by unfold maxLen; omega) (by omega) (fun A68 c68 => ?_)
            refine AWL.nil ?_
            refine AWP.one (i := 12) (by kernel_rfl) rfl ?_
            refine AWL.y rfl rfl (B rfl) (Yv.nilChk rfl (E rfl rfl)) ?_
            refine AWL.nil ?_
            refine AWP.one (i := 13) (by kernel_rfl) rfl ?_
            refine AWL.y rfl rfl (B rfl) (Yv.fieldBox rfl fo_70_3 (E rfl rfl)) ?_
            refine AWL.nil ?_
            refine AWP.one (i := 14) (by kernel_rfl) rfl ?_
            refine AWL.storeBox (i := 0) rfl rfl rfl ag_33 rfl (E rfl rfl) (E rfl rfl) rfl rfl (by rw [wCells_len, ho]; omega) ?_
            refine AWL.nil ?_
            refine AWP.done (by kernel_rfl) ?_
            refine retN .nil ?_
            exact ⟨rfl, A68, c68, (wst_new ho h0f hno).symm⟩

end Go.Proofs.Ytmiggpnkicdijaa
