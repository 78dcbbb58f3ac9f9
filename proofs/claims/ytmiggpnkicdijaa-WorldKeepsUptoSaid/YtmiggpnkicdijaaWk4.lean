/-
  CONTRACTS of the world package: writing to a file; walked by program.
-/
import Derived.Test.YtmiggpnkicdijaaWk3
namespace Go.Proofs.Ytmiggpnkicdijaa
open Go Go.RowKit
set_option linter.unusedVariables false

set_option maxHeartbeats 2000000 in
theorem SysWrite13_5 (b m : Nat) (ws : WS) (j q : Nat) (s : List UInt8) (n : Nat) (hj : j < 19) (hk : (ws.opn.getD j default).kind = 5) (hq : q < ws.files.length) (hu : Uniq ws.files) (hnm : (ws.opn.getD j default).name = (ws.files.getD q default).name) (hw : WB n ws) (hn : n ≤ 549755813888) (hs : s.length ≤ 549755813888) :
    ACalls Try.prog 13 [wp b, .v (.int .i64 (j : Int)), sv s] (WSt b m ws) (fun t S => t = .v (.int .i64 (s.length : Int)) ∧ ∃ A c tA tc, S = WSt b m (wrF j q s A c tA tc ws)) := by
  obtain ⟨ho, htr, htx, hfl, hpl, hsi⟩ := hw
  have hpj : (ws.opn.getD j default).place ≤ n := hpl _ (getD_mem' (by omega))
  have hfq : (ws.files.getD q default).bytes.length ≤ n := hfl _ (getD_mem' hq)
  refine ACalls.intro Try.func13 rfl Try.ntmps13 (Nat.le_of_ble_eq_true rfl) rfl fun X w0 => ?_
  refine AW.rseq ?_
  refine AWL.y rfl rfl (B rfl) (Yv.assign rfl (E rfl rfl)) ?_
  refine AWL.nil ?_
  refine AW.rseq ?_
  refine AWL.y rfl rfl (B rfl) (Yv.move rfl (E rfl rfl)) ?_
  refine AWL.y rfl rfl (B rfl) (Yv.move rfl (E rfl rfl)) ?_
  refine AWL.callP rfl rfl (B rfl) rfl ce_29 (E rfl rfl) (evsC (E rfl rfl) (evsC (E rfl rfl) evs0)) (at29 b j hj) (fun t S h => h) ?_
  refine AWL.y rfl rfl (B rfl) (Yv.assign rfl (E rfl rfl)) ?_
  refine AWL.nil ?_
  refine AW.seq ?_
  refine AW.rseq ?_
  refine AWL.y rfl rfl (B rfl) (Yv.move rfl (E rfl rfl)) ?_
  refine AWL.y rfl rfl (B rfl) (Yv.nilChk rfl (E rfl rfl)) ?_
  refine AWL.y rfl rfl (B rfl) (Yv.fieldBox rfl fo_67_0 (E rfl rfl)) ?_
  refine AWL.y rfl rfl (B rfl) (Yv.loadBox rfl ag_3 (i := 0) rfl (E rfl rfl) (kind_at (by omega))) ?_
  refine AWL.nil ?_
  refine AW.block ?_
  refine AW.rseq ?_
  refine AWL.y rfl rfl (B rfl) (Yv.eql rfl (E rfl rfl) (E rfl rfl)) ?_
  refine AWL.y rfl rfl (B rfl) (Yv.assign rfl (E rfl rfl)) ?_
  refine AWL.nil ?_
  refine AW.cond rfl (fun h0t => ?_) (fun h0f => ?_)
  ·
    try replace h0t := of_decide_eq_true h0t
    omega
  ·
    try replace h0f := of_decide_eq_false h0f
    refine AW.rseq ?_
    refine AWL.y rfl rfl (B rfl) (Yv.eql rfl (E rfl rfl) (E rfl rfl)) ?_
    refine AWL.y rfl rfl (B rfl) (Yv.assign rfl (E rfl rfl)) ?_
    refine AWL.nil ?_
    refine AW.cond rfl (fun h1t => ?_) (fun h1f => ?_)
    ·
      try replace h1t := of_decide_eq_true h1t
      omega
    ·
      try replace h1f := of_decide_eq_false h1f
      refine AW.rseq ?_
      refine AWL.y rfl rfl (B rfl) (Yv.eql rfl (E rfl rfl) (E rfl rfl)) ?_
      refine AWL.y rfl rfl (B rfl) (Yv.assign rfl (E rfl rfl)) ?_
      refine AWL.nil ?_
      refine AW.cond rfl (fun h2t => ?_) (fun h2f => ?_)
      ·
        try replace h2t := of_decide_eq_true h2t
        refine AW.rseq ?_
        refine AWL.y rfl rfl (B rfl) (Yv.move rfl (E rfl rfl)) ?_
        refine AWL.y rfl rfl (B rfl) (Yv.neqL rfl (E rfl rfl) (E rfl rfl)) ?_
        refine AWL.nil ?_
        refine AW.cond rfl (fun h3t => ?_) (fun h3f => ?_)
        ·
          try replace h3t := of_decide_eq_true h3t
          simp only [Bool.or_eq_true, Bool.and_eq_true, Bool.or_eq_false_iff, Bool.and_eq_false_iff, Bool.not_eq_true', Bool.not_eq_false', decide_eq_true_eq, decide_eq_false_iff_not, Decidable.not_not] at h3t
          have hs0 : s ≠ [] := by simpa using h3t
          refine AW.rseqQ rfl (by kernel_rfl) ?_
          refine AWQ.y rfl rfl (B rfl) (Yv.move rfl (E rfl rfl)) ?_
          refine AWQ.y rfl rfl (B rfl) (Yv.nilChk rfl (E rfl rfl)) ?_
          refine AWQ.y rfl rfl (B rfl) (Yv.fieldBox rfl fo_70_0 (E rfl rfl)) ?_
          refine AWQ.y rfl rfl (B rfl) (Yv.loadBox rfl ag_64 (i := 0) rfl (E rfl rfl) rfl) ?_
          refine AWQ.y rfl rfl (B rfl) (Yv.move rfl (E rfl rfl)) ?_
          refine AWQ.y rfl rfl (B rfl) (Yv.nilChk rfl (E rfl rfl)) ?_
          refine AWQ.y rfl rfl (B rfl) (Yv.fieldBox rfl fo_67_1 (E rfl rfl)) ?_
          refine AWQ.y rfl rfl (B rfl) (Yv.loadBox rfl ag_9 (i := 0) rfl (E rfl rfl) (name_at (by omega))) ?_
          refine AWQ.y rfl rfl (B rfl) (Yv.eqT (t' := .v (.slice (ws.files.getD q default).A (ws.files.getD q default).bytes.length (ws.files.getD q default).c)) (Yv.lookup1 (k := .s _) (i := 1) rfl mp_64 rfl (E rfl rfl) (E rfl rfl) rfl (files_good _)) (by rw [hnm, get_file hu hq]; rfl)) ?_
          refine AWQ.y rfl rfl (B rfl) (Yv.assign rfl (E rfl rfl)) ?_
          refine AWQ.nil ?_
          refine AW.mid (α := Option Addr × Nat) (fun r => [(0, true, wp b), (2, true, sv s), (7, true, .v (.pointer (some ⟨b, 2 + j * 3, none⟩))), (8, true, .v (.slice r.1 (padTo (ws.files.getD q default).bytes ((ws.opn.getD j default).place + s.length)).length r.2))]) (fun r => (WSt b m ws).set (q + 3) (.row r.1 (padTo (ws.files.getD q default).bytes ((ws.opn.getD j default).place + s.length)).length r.2 5 1 (List.map u8 (padTo (ws.files.getD q default).bytes ((ws.opn.getD j default).place + s.length))))) (fun _ => True) ?_ ?_
          ·
            refine AW.rseq ?_
            refine AWL.y rfl rfl (B rfl) (Yv.move rfl (E rfl rfl)) ?_
            refine AWL.y rfl rfl (B rfl) (Yv.nilChk rfl (E rfl rfl)) ?_
            refine AWL.y rfl rfl (B rfl) (Yv.fieldBox rfl fo_67_2 (E rfl rfl)) ?_
            refine AWL.y rfl rfl (B rfl) (Yv.loadBox rfl ag_3 (i := 0) rfl (E rfl rfl) (place_at (by omega))) ?_
            refine AWL.y rfl rfl (B rfl) (Yv.move rfl (E rfl rfl)) ?_
            refine AWL.y rfl rfl (B rfl) (Yv.lenL rfl st_9 (E rfl rfl)) ?_
            refine AWL.y rfl rfl (B rfl) (Yv.addN_i64 rfl (E rfl rfl) (E rfl rfl) (fun hg => by omega)) ?_
            refine AWL.y rfl rfl (B rfl) (Yv.move rfl (E rfl rfl)) ?_
            refine AWL.y rfl rfl (B rfl) (Yv.lenV rfl so_71 (E rfl rfl)) ?_
            refine AWL.y rfl rfl (B rfl) (Yv.subN_i64 rfl (E rfl rfl) (E rfl rfl) (fun hg => by omega)) ?_
            refine AWL.y rfl rfl (B rfl) (Yv.assign rfl (E rfl rfl)) ?_
            refine AWL.nil ?_
            refine AW.rseq ?_
            refine AWL.y rfl rfl (B rfl) (Yv.move rfl (E rfl rfl)) ?_
            refine AWL.y rfl rfl (B rfl) (Yv.gtr rfl (E rfl rfl) (E rfl rfl)) ?_
            refine AWL.nil ?_
            refine AW.cond rfl (fun h4t => ?_) (fun h4f => ?_)
            ·
              try replace h4t := of_decide_eq_true h4t
              have egap : (((ws.opn.getD j default).place : Int) + (s.length : Int) - ((ws.files.getD q default).bytes.length : Int)) = (((ws.opn.getD j default).place + s.length - (ws.files.getD q default).bytes.length : Nat) : Int) := by omega
              rw [egap]
              refine AW.region ?_
              refine AWL.y rfl rfl (B rfl) (Yv.move rfl (E rfl rfl)) ?_
              refine AWL.y rfl rfl (B rfl) (Yv.move rfl (E rfl rfl)) ?_
              refine AWL.appendZerosAny (m := (ws.opn.getD j default).place + s.length - (ws.files.getD q default).bytes.length) (i := q + 3) rfl rfl (B rfl) rfl el_71 kd_3 (by omega) (file_row hq) (E rfl rfl) (E rfl rfl) (by unfold maxLen; omega) (by omega) (fun A54 c54 => ?_)
              refine AWL.y rfl rfl (B rfl) (Yv.assign rfl (E rfl rfl)) ?_
              refine AWL.nil ?_
              have el : (padTo (ws.files.getD q default).bytes ((ws.opn.getD j default).place + s.length)).length = (ws.files.getD q default).bytes.length + ((ws.opn.getD j default).place + s.length - (ws.files.getD q default).bytes.length) := by rw [padTo_len]; omega
              refine ⟨(A54, c54), trivial, ?_, ?_⟩
              · exact (Sub.cons rfl rfl (Sub.cons rfl rfl (Sub.cons rfl rfl (Sub.cons rfl (by rw [el]) Sub.nil))))
              · rw [el]
                unfold padTo
                rw [← pad_cells] <;> rfl
            ·
              try replace h4f := of_decide_eq_false h4f
              refine AW.skip ?_
              have el : (padTo (ws.files.getD q default).bytes ((ws.opn.getD j default).place + s.length)) = (ws.files.getD q default).bytes := padTo_id (by omega)
              refine ⟨((ws.files.getD q default).A, (ws.files.getD q default).c), trivial, ?_, ?_⟩
              · exact (Sub.cons rfl rfl (Sub.cons rfl rfl (Sub.cons rfl rfl (Sub.cons rfl (by rw [el] <;> rfl) Sub.nil))))
              · rw [el]; exact (wst_same hq).symm
          ·
            rintro ⟨A1, c1⟩ _
            have hgl : (padTo (ws.files.getD q default).bytes ((ws.opn.getD j default).place + s.length)).length = max (ws.files.getD q default).bytes.length ((ws.opn.getD j default).place + s.length) := padTo_len _ _
            have hlen0 : 0 < s.length := List.length_pos_iff.2 hs0
            refine AW.rseq ?_
            refine AWL.y rfl rfl (B rfl) (Yv.move rfl (E rfl rfl)) ?_
            refine AWL.y rfl rfl (B rfl) (Yv.move rfl (E rfl rfl)) ?_
            refine AWL.y rfl rfl (B rfl) (Yv.nilChk rfl (E rfl rfl)) ?_
            refine AWL.y rfl rfl (B rfl) (Yv.fieldBox rfl fo_67_2 (E rfl rfl)) ?_
            refine AWL.y rfl rfl (B rfl) (Yv.loadBox rfl ag_3 (i := 0) rfl (E rfl rfl) (place_at (by omega))) ?_
            refine AWL.y rfl rfl (B rfl) (Yv.sliceRowFrom (i := q + 3) (lo := (ws.opn.getD j default).place) rfl ss_71 (file_row_set hq _) (E rfl rfl) (Bound.some_ (E rfl rfl) (fun _ => rfl)) (fun hg => by omega)) ?_
            refine AWL.y rfl rfl (B rfl) (Yv.move rfl (E rfl rfl)) ?_
            refine AWL.copyRowAt (i := q + 3) (lo := (ws.opn.getD j default).place) (m := s.length) rfl rfl (B rfl) rfl el_71 (file_row_set hq _) (E rfl rfl) (SrcT.strL st_9 (E rfl rfl)) (by omega) hlen0 ?_
            refine AWL.nil ?_
            refine AW.rseqP rfl ?_
            refine AWP.take (i := 0) rfl (by kernel_rfl) (by kernel_rfl) (by kernel_rfl) rfl rfl (B rfl) (freeMove rfl (E rfl rfl)) ?_
            refine AWP.take (i := 1) rfl (by kernel_rfl) (by kernel_rfl) (by kernel_rfl) rfl rfl (B rfl) (freeNil rfl (E rfl rfl)) ?_
            refine AWP.take (i := 2) rfl (by kernel_rfl) (by kernel_rfl) (by kernel_rfl) rfl rfl (B rfl) (freeField rfl fo_70_0 (E rfl rfl)) ?_
            refine AWP.take (i := 4) rfl (by kernel_rfl) (by kernel_rfl) (by kernel_rfl) rfl rfl (B rfl) (freeMove rfl (E rfl rfl)) ?_
            refine AWP.take (i := 5) rfl (by kernel_rfl) (by kernel_rfl) (by kernel_rfl) rfl rfl (B rfl) (freeNil rfl (E rfl rfl)) ?_
            refine AWP.take (i := 6) rfl (by kernel_rfl) (by kernel_rfl) (by kernel_rfl) rfl rfl (B rfl) (freeField rfl fo_67_1 (E rfl rfl)) ?_
            refine AWP.take (i := 8) rfl (by kernel_rfl) (by kernel_rfl) (by kernel_rfl) rfl rfl (B rfl) (freeMove rfl (E rfl rfl)) ?_
            refine AWP.two (i := 3) (j := 7) (by kernel_rfl) rfl rfl ?_ ?_
            ·
              refine AWL.y rfl rfl (B rfl) (Yv.loadBox rfl ag_64 (i := 0) rfl (E rfl rfl) rfl) ?_
              refine AWL.nil ?_
              refine AWP.one (i := 7) (by kernel_rfl) rfl ?_
              refine AWL.y rfl rfl (B rfl) (Yv.loadBox rfl ag_9 (i := 0) rfl (E rfl rfl) (name_at (by omega))) ?_
              refine AWL.nil ?_
              refine AWP.one (i := 9) (by kernel_rfl) rfl ?_
              refine AWL.mapUpd (k := .s _) (i := 1) (r := .v (.slice A1 (padTo (ws.files.getD q default).bytes ((ws.opn.getD j default).place + s.length)).length c1)) rfl rfl (.inl rfl) mp_64 rfl (E rfl rfl) (E rfl rfl) (E rfl rfl) rfl rfl (files_good _) ?_
              refine AWL.nil ?_
              refine AWP.done (by kernel_rfl) ?_
              refine AW.rseq ?_
              refine AWL.y rfl rfl (B rfl) (Yv.move rfl (E rfl rfl)) ?_
              refine AWL.y rfl rfl (B rfl) (Yv.nilChk rfl (E rfl rfl)) ?_
              refine AWL.y rfl rfl (B rfl) (Yv.fieldBox rfl fo_67_2 (E rfl rfl)) ?_
              refine AWL.y rfl rfl (B rfl) (Yv.loadBox rfl ag_3 (i := 0) rfl (E rfl rfl) (place_at (by omega))) ?_
              refine AWL.y rfl rfl (B rfl) (Yv.move rfl (E rfl rfl)) ?_
              refine AWL.y rfl rfl (B rfl) (Yv.lenL rfl st_9 (E rfl rfl)) ?_
              refine AWL.y rfl rfl (B rfl) (Yv.addN_i64 rfl (E rfl rfl) (E rfl rfl) (fun hg => by omega)) ?_
              refine AWL.y rfl rfl (B rfl) (Yv.nilChk rfl (E rfl rfl)) ?_
              refine AWL.y rfl rfl (B rfl) (Yv.fieldBox rfl fo_67_2 (E rfl rfl)) ?_
              refine AWL.storeBox (i := 0) rfl rfl rfl ag_3 rfl (E rfl rfl) (E rfl rfl) rfl rfl (by rw [wCells_len, ho]; omega) ?_
              refine AWL.nil ?_
              refine AW.eqS (S' := WSt b m { ws with files := ws.files.set q { (ws.files.getD q default) with bytes := writeAt (ws.files.getD q default).bytes (ws.opn.getD j default).place s, A := A1, c := c1 }, opn := ws.opn.set j { (ws.opn.getD j default) with place := (ws.opn.getD j default).place + s.length } }) ?_ ?_
              · have e0 : { (ws.files.getD q default) with bytes := writeAt (ws.files.getD q default).bytes (ws.opn.getD j default).place s, A := A1, c := c1 }.bytes.length = (padTo (ws.files.getD q default).bytes ((ws.opn.getD j default).place + s.length)).length := by rw [hgl]; exact writeAt_len _ _ _
                have e1 := put_file { (ws.files.getD q default) with bytes := writeAt (ws.files.getD q default).bytes (ws.opn.getD j default).place s, A := A1, c := c1 } hu hq rfl
                have e2 := set_desc (m := m) (s := ws.stdin) (A := ws.tA) (n := ws.trace.length) (c := ws.tc) (show j < ws.opn.length by omega) 2 1 [.v (.int .i64 (((ws.opn.getD j default).place + s.length : Nat) : Int))] { (ws.opn.getD j default) with place := (ws.opn.getD j default).place + s.length } (by decide) rfl
                have e3 := writeAt_cells (ws.files.getD q default).bytes (ws.opn.getD j default).place s
                have e4 : fileRow { (ws.files.getD q default) with bytes := writeAt (ws.files.getD q default).bytes (ws.opn.getD j default).place s, A := A1, c := c1 } = .row A1 (padTo (ws.files.getD q default).bytes ((ws.opn.getD j default).place + s.length)).length c1 5 1 ((List.map u8 (padTo (ws.files.getD q default).bytes ((ws.opn.getD j default).place + s.length))).take (ws.opn.getD j default).place ++ List.map u8 s ++ (List.map u8 (padTo (ws.files.getD q default).bytes ((ws.opn.getD j default).place + s.length))).drop ((ws.opn.getD j default).place + s.length)) := by
                  unfold fileRow; rw [e3]; simp only; rw [writeAt_len, hgl]
                simp only [e0] at e1
                rw [← wst_wrote { (ws.files.getD q default) with bytes := (padTo (ws.files.getD q default).bytes ((ws.opn.getD j default).place + s.length)), A := A1, c := c1 } { (ws.files.getD q default) with bytes := writeAt (ws.files.getD q default).bytes (ws.opn.getD j default).place s, A := A1, c := c1 } { (ws.opn.getD j default) with place := (ws.opn.getD j default).place + s.length }, ← e1, ← e2, e4, hnm]
                rfl
              have hw2 : WB (n + s.length) { ws with files := ws.files.set q { (ws.files.getD q default) with bytes := writeAt (ws.files.getD q default).bytes (ws.opn.getD j default).place s, A := A1, c := c1 }, opn := ws.opn.set j { (ws.opn.getD j default) with place := (ws.opn.getD j default).place + s.length } } := wb_wrote hj hq ⟨ho, htr, htx, hfl, hpl, hsi⟩ _ _
              have hgd : (ws.opn.set j { (ws.opn.getD j default) with place := (ws.opn.getD j default).place + s.length }).getD j default = { (ws.opn.getD j default) with place := (ws.opn.getD j default).place + s.length } := getD_set (by omega) _ _
              refine AW.region ?_
              refine AWL.y rfl rfl (B rfl) (Yv.move rfl (E rfl rfl)) ?_
              refine AWL.y rfl rfl (B rfl) (Yv.move rfl (E rfl rfl)) ?_
              refine AWL.y rfl rfl (B rfl) (Yv.nilChk rfl (E rfl rfl)) ?_
              refine AWL.y rfl rfl (B rfl) (Yv.fieldBox rfl fo_67_1 (E rfl rfl)) ?_
              refine AWL.y rfl rfl (B rfl) (Yv.loadBox rfl ag_9 (i := 0) rfl (E rfl rfl) (r := sv (ws.opn.getD j default).name) ((name_at (by rw [List.length_set]; omega)).trans (by rw [hgd]))) ?_
              refine AWL.y rfl rfl (B rfl) (Yv.move rfl (E rfl rfl)) ?_
              refine AWL.callAll rfl rfl (B rfl) rfl ce_30 (E rfl rfl) (evsC (E rfl rfl) (evsC (E rfl rfl) (evsC (E rfl rfl) (evsC (E rfl rfl) evs0)))) (say30 b m { ws with files := ws.files.set q { (ws.files.getD q default) with bytes := writeAt (ws.files.getD q default).bytes (ws.opn.getD j default).place s, A := A1, c := c1 }, opn := ws.opn.set j { (ws.opn.getD j default) with place := (ws.opn.getD j default).place + s.length } } 3 (ws.opn.getD j default).name s (n + s.length) hw2 (by omega) (by omega)) ?_
              rintro t87 S87 ⟨rfl, A87, c87, rfl⟩
              refine AWL.nil ?_
              refine AW.rseq ?_
              refine AWL.y rfl rfl (B rfl) (Yv.move rfl (E rfl rfl)) ?_
              refine AWL.y rfl rfl (B rfl) (Yv.lenL rfl st_9 (E rfl rfl)) ?_
              refine AWL.y rfl rfl (B rfl) (Yv.assign rfl (E rfl rfl)) ?_
              refine AWL.nil ?_
              refine AW.ret (retI (.tmp rfl .nil) ?_)
              first
                | exact ⟨rfl, none, 0, none, 0, by unfold wrF; rw [if_pos h3f]⟩
                | exact ⟨rfl, A1, c1, A87, c87, by unfold wrF; rw [if_neg hs0]⟩
            ·
              refine AWL.y rfl rfl (B rfl) (Yv.loadBox rfl ag_9 (i := 0) rfl (E rfl rfl) (name_at (by omega))) ?_
              refine AWL.nil ?_
              refine AWP.one (i := 3) (by kernel_rfl) rfl ?_
              refine AWL.y rfl rfl (B rfl) (Yv.loadBox rfl ag_64 (i := 0) rfl (E rfl rfl) rfl) ?_
              refine AWL.nil ?_
              refine AWP.one (i := 9) (by kernel_rfl) rfl ?_
              refine AWL.mapUpd (k := .s _) (i := 1) (r := .v (.slice A1 (padTo (ws.files.getD q default).bytes ((ws.opn.getD j default).place + s.length)).length c1)) rfl rfl (.inl rfl) mp_64 rfl (E rfl rfl) (E rfl rfl) (E rfl rfl) rfl rfl (files_good _) ?_
              refine AWL.nil ?_
              refine AWP.done (by kernel_rfl) ?_
              refine AW.rseq ?_
              refine AWL.y rfl rfl (B rfl) (Yv.move rfl (E rfl rfl)) ?_
              refine AWL.y rfl rfl (B rfl) (Yv.nilChk rfl (E rfl rfl)) ?_
              refine AWL.y rfl rfl (B rfl) (Yv.fieldBox rfl fo_67_2 (E rfl rfl)) ?_
              refine AWL.y rfl rfl (B rfl) (Yv.loadBox rfl ag_3 (i := 0) rfl (E rfl rfl) (place_at (by omega))) ?_
              refine AWL.y rfl rfl (B rfl) (Yv.move rfl (E rfl rfl)) ?_
              refine AWL.y rfl rfl (B rfl) (Yv.lenL rfl st_9 (E rfl rfl)) ?_
              refine AWL.y rfl rfl (B rfl) (Yv.addN_i64 rfl (E rfl rfl) (E rfl rfl) (fun hg => by omega)) ?_
              refine AWL.y rfl rfl (B rfl) (Yv.nilChk rfl (E rfl rfl)) ?_
              refine AWL.y rfl rfl (B rfl) (Yv.fieldBox rfl fo_67_2 (E rfl rfl)) ?_
              refine AWL.storeBox (i := 0) rfl rfl rfl ag_3 rfl (E rfl rfl) (E rfl rfl) rfl rfl (by rw [wCells_len, ho]; omega) ?_
              refine AWL.nil ?_
              refine AW.eqS (S' := WSt b m { ws with files := ws.files.set q { (ws.files.getD q default) with bytes := writeAt (ws.files.getD q default).bytes (ws.opn.getD j default).place s, A := A1, c := c1 }, opn := ws.opn.set j { (ws.opn.getD j default) with place := (ws.opn.getD j default).place + s.length } }) ?_ ?_
              · have e0 : { (ws.files.getD q default) with bytes := writeAt (ws.files.getD q default).bytes (ws.opn.getD j default).place s, A := A1, c := c1 }.bytes.length = (padTo (ws.files.getD q default).bytes ((ws.opn.getD j default).place + s.length)).length := by rw [hgl]; exact writeAt_len _ _ _
                have e1 := put_file { (ws.files.getD q default) with bytes := writeAt (ws.files.getD q default).bytes (ws.opn.getD j default).place s, A := A1, c := c1 } hu hq rfl
                have e2 := set_desc (m := m) (s := ws.stdin) (A := ws.tA) (n := ws.trace.length) (c := ws.tc) (show j < ws.opn.length by omega) 2 1 [.v (.int .i64 (((ws.opn.getD j default).place + s.length : Nat) : Int))] { (ws.opn.getD j default) with place := (ws.opn.getD j default).place + s.length } (by decide) rfl
                have e3 := writeAt_cells (ws.files.getD q default).bytes (ws.opn.getD j default).place s
                have e4 : fileRow { (ws.files.getD q default) with bytes := writeAt (ws.files.getD q default).bytes (ws.opn.getD j default).place s, A := A1, c := c1 } = .row A1 (padTo (ws.files.getD q default).bytes ((ws.opn.getD j default).place + s.length)).length c1 5 1 ((List.map u8 (padTo (ws.files.getD q default).bytes ((ws.opn.getD j default).place + s.length))).take (ws.opn.getD j default).place ++ List.map u8 s ++ (List.map u8 (padTo (ws.files.getD q default).bytes ((ws.opn.getD j default).place + s.length))).drop ((ws.opn.getD j default).place + s.length)) := by
                  unfold fileRow; rw [e3]; simp only; rw [writeAt_len, hgl]
                simp only [e0] at e1
                rw [← wst_wrote { (ws.files.getD q default) with bytes := (padTo (ws.files.getD q default).bytes ((ws.opn.getD j default).place + s.length)), A := A1, c := c1 } { (ws.files.getD q default) with bytes := writeAt (ws.files.getD q default).bytes (ws.opn.getD j default).place s, A := A1, c := c1 } { (ws.opn.getD j default) with place := (ws.opn.getD j default).place + s.length }, ← e1, ← e2, e4, hnm]
                rfl
              have hw2 : WB (n + s.length) { ws with files := ws.files.set q { (ws.files.getD q default) with bytes := writeAt (ws.files.getD q default).bytes (ws.opn.getD j default).place s, A := A1, c := c1 }, opn := ws.opn.set j { (ws.opn.getD j default) with place := (ws.opn.getD j default).place + s.length } } := wb_wrote hj hq ⟨ho, htr, htx, hfl, hpl, hsi⟩ _ _
              have hgd : (ws.opn.set j { (ws.opn.getD j default) with place := (ws.opn.getD j default).place + s.length }).getD j default = { (ws.opn.getD j default) with place := (ws.opn.getD j default).place + s.length } := getD_set (by omega) _ _
              refine AW.region ?_
              refine AWL.y rfl rfl (B rfl) (Yv.move rfl (E rfl rfl)) ?_
              refine AWL.y rfl rfl (B rfl) (Yv.move rfl (E rfl rfl)) ?_
              refine AWL.y rfl rfl (B rfl) (Yv.nilChk rfl (E rfl rfl)) ?_
              refine AWL.y rfl rfl (B rfl) (Yv.fieldBox rfl fo_67_1 (E rfl rfl)) ?_
              refine AWL.y rfl rfl (B rfl) (Yv.loadBox rfl ag_9 (i := 0) rfl (E rfl rfl) (r := sv (ws.opn.getD j default).name) ((name_at (by rw [List.length_set]; omega)).trans (by rw [hgd]))) ?_
              refine AWL.y rfl rfl (B rfl) (Yv.move rfl (E rfl rfl)) ?_
              refine AWL.callAll rfl rfl (B rfl) rfl ce_30 (E rfl rfl) (evsC (E rfl rfl) (evsC (E rfl rfl) (evsC (E rfl rfl) (evsC (E rfl rfl) evs0)))) (say30 b m { ws with files := ws.files.set q { (ws.files.getD q default) with bytes := writeAt (ws.files.getD q default).bytes (ws.opn.getD j default).place s, A := A1, c := c1 }, opn := ws.opn.set j { (ws.opn.getD j default) with place := (ws.opn.getD j default).place + s.length } } 3 (ws.opn.getD j default).name s (n + s.length) hw2 (by omega) (by omega)) ?_
              rintro t87 S87 ⟨rfl, A87, c87, rfl⟩
              refine AWL.nil ?_
              refine AW.rseq ?_
              refine AWL.y rfl rfl (B rfl) (Yv.move rfl (E rfl rfl)) ?_
              refine AWL.y rfl rfl (B rfl) (Yv.lenL rfl st_9 (E rfl rfl)) ?_
              refine AWL.y rfl rfl (B rfl) (Yv.assign rfl (E rfl rfl)) ?_
              refine AWL.nil ?_
              refine AW.ret (retI (.tmp rfl .nil) ?_)
              first
                | exact ⟨rfl, none, 0, none, 0, by unfold wrF; rw [if_pos h3f]⟩
                | exact ⟨rfl, A1, c1, A87, c87, by unfold wrF; rw [if_neg hs0]⟩
        ·
          try replace h3f := of_decide_eq_false h3f
          simp only [Bool.or_eq_true, Bool.and_eq_true, Bool.or_eq_false_iff, Bool.and_eq_false_iff, Bool.not_eq_true', Bool.not_eq_false', decide_eq_true_eq, decide_eq_false_iff_not, Decidable.not_not] at h3f
          refine AW.skip ?_
          refine AW.rseq ?_
          refine AWL.y rfl rfl (B rfl) (Yv.move rfl (E rfl rfl)) ?_
          refine AWL.y rfl rfl (B rfl) (Yv.lenL rfl st_9 (E rfl rfl)) ?_
          refine AWL.y rfl rfl (B rfl) (Yv.assign rfl (E rfl rfl)) ?_
          refine AWL.nil ?_
          refine AW.ret (retI (.tmp rfl .nil) ?_)
          first
            | exact ⟨rfl, none, 0, none, 0, by unfold wrF; rw [if_pos h3f]⟩
            | exact ⟨rfl, A1, c1, A87, c87, by unfold wrF; rw [if_neg hs0]⟩
      ·
        try replace h2f := of_decide_eq_false h2f
        omega

end Go.Proofs.Ytmiggpnkicdijaa
