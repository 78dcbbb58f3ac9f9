/-
  CONTRACTS of the world package: opening; walked by program.
-/
import Derived.Test.YtmiggpnkicdijaaWk4
import Derived.Test.YtmiggpnkicdijaaOpenF
namespace Go.Proofs.Ytmiggpnkicdijaa
open Go Go.RowKit
set_option linter.unusedVariables false

set_option maxHeartbeats 400000 in
theorem Out12 (b m : Nat) (ws : WS) (s : List UInt8) (n : Nat) (hk : (ws.opn.getD 1 default).kind = 2) (hw : WB n ws) (hn : n ≤ 1099511627776) (hs : s.length ≤ 1099511627776) :
    ACalls Try.prog 12 [wp b, sv s] (WSt b m ws) (fun t S => ∃ A c, S = WSt b m { ws with trace := sayF 1 [] s ws.trace, tA := A, tc := c }) := by
  refine ACalls.intro Try.func12 rfl Try.ntmps12 (Nat.le_of_ble_eq_true rfl) rfl fun X w0 => ?_
  refine AW.region ?_
  refine AWL.y rfl rfl (B rfl) (Yv.move rfl (E rfl rfl)) ?_
  refine AWL.y rfl rfl (B rfl) (Yv.move rfl (E rfl rfl)) ?_
  refine AWL.callAll rfl rfl (B rfl) rfl ce_13 (E rfl rfl) (evsC (E rfl rfl) (evsC (E rfl rfl) (evsC (E rfl rfl) evs0))) (SysWrite13_2 b m ws 1 s n (by decide) hk hw hn hs) ?_
  rintro t6 S6 ⟨rfl, A6, c6, rfl⟩
  refine AWL.nil ?_
  refine retN .nil ?_
  exact ⟨_, _, rfl⟩

set_option maxHeartbeats 2000000 in
theorem SysOpen17 (b m : Nat) (ws : WS) (name : List UInt8) (flags : Int) (n : Nat) (hw : WB n ws) (hn : n ≤ 549755813888) :
    ACalls Try.prog 17 [wp b, sv name, .v (.int .i64 flags)] (WSt b m ws) (fun t S => t = .v (.int .i64 (openR name flags ws)) ∧ ∃ A c tA tc, S = WSt b m (openS name flags A c tA tc ws)) := by
  obtain ⟨ho, htr, htx, hfl, hpl, hsi⟩ := hw
  refine ACalls.intro Try.func17 rfl Try.ntmps17 (Nat.le_of_ble_eq_true rfl) rfl fun X w0 => ?_
  refine AW.rseq ?_
  refine AWL.y rfl rfl (B rfl) (Yv.assign rfl (E rfl rfl)) ?_
  refine AWL.nil ?_
  refine AW.seq ?_
  refine AW.block ?_
  refine AW.rseq ?_
  refine AWL.y rfl rfl (B rfl) (Yv.move rfl (E rfl rfl)) ?_
  refine AWL.y rfl rfl (B rfl) (Yv.eqlNilP rfl pn_24 (E rfl rfl)) ?_
  refine AWL.y rfl rfl (B rfl) (Yv.assign rfl (E rfl rfl)) ?_
  refine AWL.nil ?_
  refine AW.cond rfl (fun h0t => ?_) (fun h0f => ?_)
  ·
    try replace h0t := of_decide_eq_true h0t
    cases h0t
  ·
    try replace h0f := of_decide_eq_false h0f
    refine AW.rseq ?_
    refine AWL.y rfl rfl (B rfl) (Yv.move rfl (E rfl rfl)) ?_
    refine AWL.y rfl rfl (B rfl) (Yv.lenL rfl st_9 (E rfl rfl)) ?_
    refine AWL.y rfl rfl (B rfl) (Yv.gtr rfl (E rfl rfl) (E rfl rfl)) ?_
    refine AWL.y rfl rfl (B rfl) (Yv.assign rfl (E rfl rfl)) ?_
    refine AWL.nil ?_
    refine AW.cond rfl (fun h1t => ?_) (fun h1f => ?_)
    ·
      try replace h1t := of_decide_eq_true h1t
      refine AW.rseq ?_
      refine AWL.y rfl rfl (B rfl) (Yv.assign rfl (E rfl rfl)) ?_
      refine AWL.nil ?_
      refine AW.ret (retI (.tmp rfl .nil) ?_)
      have e : openR name flags ws = -36 := by
        unfold openR
        rw [if_pos (by omega)]
      exact ⟨by rw [e]; rfl, none, 0, none, 0, by unfold openS; rw [if_pos (by omega)]⟩
    ·
      try replace h1f := of_decide_eq_false h1f
      refine AW.rseq ?_
      refine AWL.y rfl rfl (B rfl) (Yv.move rfl (E rfl rfl)) ?_
      refine AWL.y rfl rfl (B rfl) (Yv.neq rfl (E rfl rfl) (E rfl rfl)) ?_
      refine AWL.y rfl rfl (B rfl) (Yv.move rfl (E rfl rfl)) ?_
      refine AWL.ygT rfl rfl rfl rfl (B rfl) (Yv.move rfl (E rfl rfl)) ?_
      refine AWL.ygT rfl rfl rfl rfl (B rfl) (Yv.neq rfl (Eg rfl rfl id) (E rfl rfl)) ?_
      refine AWL.y rfl rfl (B rfl) (Yv.pickAnd rfl (E rfl rfl) (Eg rfl rfl id)) ?_
      refine AWL.y rfl rfl (B rfl) (Yv.move rfl (E rfl rfl)) ?_
      refine AWL.ygF rfl rfl rfl rfl (B rfl) (Yv.move rfl (E rfl rfl)) ?_
      refine AWL.callPgF rfl rfl rfl rfl (B rfl) rfl ce_32 (E rfl rfl) (evsC (Eg rfl rfl id) (evsC (E rfl rfl) evs0)) (fun hg => indexByte32 name 0) (fun t S h => h) ?_
      refine AWL.ygF rfl rfl rfl rfl (B rfl) (Yv.geq rfl (Eg rfl rfl id) (E rfl rfl)) ?_
      refine AWL.y rfl rfl (B rfl) (Yv.pickOr (t := .const (.bool true)) rfl (E rfl rfl) (Eg rfl rfl id)) ?_
      refine AWL.y rfl rfl (B rfl) (Yv.assign rfl (E rfl rfl)) ?_
      refine AWL.nil ?_
      refine AW.cond rfl (fun h2t => ?_) (fun h2f => ?_)
      ·
        try replace h2t := of_decide_eq_true h2t
        simp only [Bool.or_eq_true, Bool.and_eq_true, Bool.or_eq_false_iff, Bool.and_eq_false_iff, Bool.not_eq_true', Bool.not_eq_false', decide_eq_true_eq, decide_eq_false_iff_not, Decidable.not_not] at h2t
        refine AW.rseq ?_
        refine AWL.y rfl rfl (B rfl) (Yv.assign rfl (E rfl rfl)) ?_
        refine AWL.nil ?_
        refine AW.ret (retI (.tmp rfl .nil) ?_)
        have e : openR name flags ws = -22 := by
          unfold openR
          rw [if_neg (by omega), if_pos (by omega)]
        exact ⟨by rw [e]; rfl, none, 0, none, 0, by unfold openS; rw [if_pos (by omega)]⟩
      ·
        try replace h2f := of_decide_eq_false h2f
        simp only [Bool.or_eq_true, Bool.and_eq_true, Bool.or_eq_false_iff, Bool.and_eq_false_iff, Bool.not_eq_true', Bool.not_eq_false', decide_eq_true_eq, decide_eq_false_iff_not, Decidable.not_not] at h2f
        refine AW.rseq ?_
        refine AWL.y rfl rfl (B rfl) (Yv.move rfl (E rfl rfl)) ?_
        refine AWL.y rfl rfl (B rfl) (Yv.eqlL rfl (E rfl rfl) (E rfl rfl)) ?_
        refine AWL.y rfl rfl (B rfl) (Yv.assign rfl (E rfl rfl)) ?_
        refine AWL.nil ?_
        refine AW.cond rfl (fun h3t => ?_) (fun h3f => ?_)
        ·
          try replace h3t := of_decide_eq_true h3t
          refine AW.rseq ?_
          refine AWL.y rfl rfl (B rfl) (Yv.assign rfl (E rfl rfl)) ?_
          refine AWL.nil ?_
          refine AW.ret (retI (.tmp rfl .nil) ?_)
          have e : openR name flags ws = -2 := by
            unfold openR
            rw [if_neg (by omega), if_neg (by omega), if_pos h3t]
          exact ⟨by rw [e]; rfl, none, 0, none, 0, by unfold openS; rw [if_pos (by omega)]⟩
        ·
          try replace h3f := of_decide_eq_false h3f
          refine AW.skip ?_
          refine AW.seq ?_
          refine AW.rseq ?_
          refine AWL.y rfl rfl (B rfl) (Yv.move rfl (E rfl rfl)) ?_
          refine AWL.y rfl rfl (B rfl) (Yv.nilChk rfl (E rfl rfl)) ?_
          refine AWL.y rfl rfl (B rfl) (Yv.fieldBox rfl fo_70_0 (E rfl rfl)) ?_
          refine AWL.y rfl rfl (B rfl) (Yv.loadBox rfl ag_64 (i := 0) rfl (E rfl rfl) rfl) ?_
          refine AWL.y rfl rfl (B rfl) (Yv.move rfl (E rfl rfl)) ?_
          refine AWL.y rfl rfl (B rfl) (Yv.lookup2 (k := .s _) (i := 1) rfl mp_64 rfl (E rfl rfl) (E rfl rfl) rfl (files_good _)) ?_
          refine AWL.y rfl rfl (B rfl) (Yv.move rfl (E rfl rfl)) ?_
          refine AWL.y rfl rfl (B rfl) (Yv.extract rfl (E rfl rfl) rfl) ?_
          refine AWL.y rfl rfl (B rfl) (Yv.extract rfl (E rfl rfl) rfl) ?_
          refine AWL.y rfl rfl (B rfl) (Yv.assign rfl (E rfl rfl)) ?_
          refine AWL.y rfl rfl (B rfl) (Yv.assign rfl (E rfl rfl)) ?_
          refine AWL.nil ?_
          refine AW.rseq ?_
          refine AWL.y rfl rfl (B rfl) (Yv.move rfl (E rfl rfl)) ?_
          refine AWL.y rfl rfl (B rfl) (Yv.eql rfl (E rfl rfl) (E rfl rfl)) ?_
          refine AWL.y rfl rfl (B rfl) (Yv.move rfl (E rfl rfl)) ?_
          refine AWL.ygT rfl rfl rfl rfl (B rfl) (Yv.move rfl (E rfl rfl)) ?_
          refine AWL.ygT rfl rfl rfl rfl (B rfl) (Yv.not rfl (Eg rfl rfl id)) ?_
          refine AWL.y rfl rfl (B rfl) (Yv.pickAnd rfl (E rfl rfl) (Eg rfl rfl id)) ?_
          refine AWL.nil ?_
          refine AW.cond rfl (fun h4t => ?_) (fun h4f => ?_)
          ·
            try replace h4t := of_decide_eq_true h4t
            simp only [Bool.or_eq_true, Bool.and_eq_true, Bool.or_eq_false_iff, Bool.and_eq_false_iff, Bool.not_eq_true', Bool.not_eq_false', decide_eq_true_eq, decide_eq_false_iff_not, Decidable.not_not] at h4t
            refine AW.rseq ?_
            refine AWL.y rfl rfl (B rfl) (Yv.assign rfl (E rfl rfl)) ?_
            refine AWL.nil ?_
            refine AW.ret (retI (.tmp rfl .nil) ?_)
            have e : openR name flags ws = -2 := by
              unfold openR
              rw [if_neg (by omega), if_neg (by omega), if_neg h3f, if_pos ⟨h4t.1, by unfold hasK; rw [h4t.2]⟩]
            exact ⟨by rw [e]; rfl, none, 0, none, 0, by unfold openS; rw [if_pos (by omega)]⟩
          ·
            try replace h4f := of_decide_eq_false h4f
            simp only [Bool.or_eq_true, Bool.and_eq_true, Bool.or_eq_false_iff, Bool.and_eq_false_iff, Bool.not_eq_true', Bool.not_eq_false', decide_eq_true_eq, decide_eq_false_iff_not, Decidable.not_not] at h4f
            have hR : openR name flags ws = if freeIx ws.opn < 19 then (freeIx ws.opn : Int) else -24 := by
              unfold openR
              rw [if_neg (by omega), if_neg (by omega), if_neg h3f, if_neg (fun q => h4f.elim (fun h => h q.1) (fun h => by have := q.2; unfold hasK at this; rw [h] at this; cases this))]
            refine AW.skip ?_
            refine AW.seq ?_
            refine AW.rseq ?_
            refine AWL.y rfl rfl (B rfl) (Yv.move rfl (E rfl rfl)) ?_
            refine AWL.nil ?_
            refine AW.block ?_
            refine AW.loop (fun (j : Nat) => [(0, true, wp b), (1, true, sv name), (2, true, .v (.int .i64 flags)), (47, true, .v (.int .i64 (j : Int)))]) (fun (j : Nat) => (WSt b m ws)) (fun (j : Nat) => j ≤ 19 ∧ ∀ i, i < j → (ws.opn.getD i default).kind ≠ 0) (fun (j : Nat) => 19 - j) 0 ?_ ?_ ?_ ?_
            · exact ⟨Nat.zero_le _, fun i hi => absurd hi (Nat.not_lt_zero i)⟩
            · exact (Sub.cons rfl rfl (Sub.cons rfl rfl (Sub.cons rfl rfl (Sub.cons rfl rfl Sub.nil))))
            · rfl
            ·
              intro j hinv
              obtain ⟨hj, hbef⟩ := hinv
              refine AW.rseq ?_
              refine AWL.y rfl rfl (B rfl) (Yv.lss rfl (E rfl rfl) (E rfl rfl)) ?_
              refine AWL.nil ?_
              refine AW.seq ?_
              refine AW.cond rfl (fun h5t => ?_) (fun h5f => ?_)
              ·
                try replace h5t := of_decide_eq_true h5t
                refine AW.skip ?_
                refine AW.seq ?_
                refine AW.block ?_
                refine AW.rseq ?_
                refine AWL.y rfl rfl (B rfl) (Yv.move rfl (E rfl rfl)) ?_
                refine AWL.y rfl rfl (B rfl) (Yv.assign rfl (E rfl rfl)) ?_
                refine AWL.nil ?_
                refine AW.seq ?_
                refine AW.rseq ?_
                refine AWL.y rfl rfl (B rfl) (Yv.move rfl (E rfl rfl)) ?_
                refine AWL.y rfl rfl (B rfl) (Yv.move rfl (E rfl rfl)) ?_
                refine AWL.y rfl rfl (B rfl) (Yv.nilChk rfl (E rfl rfl)) ?_
                refine AWL.y rfl rfl (B rfl) (Yv.fieldBox rfl fo_70_2 (E rfl rfl)) ?_
                refine AWL.y rfl rfl (B rfl) (Yv.indexArr rfl ar_68 (E rfl rfl) (E rfl rfl) (fun hg => ⟨rfl, by omega⟩)) ?_
                refine AWL.y rfl rfl (B rfl) (Yv.fieldBox rfl fo_67_0 (E rfl rfl)) ?_
                refine AWL.y rfl rfl (B rfl) (Yv.loadBox rfl ag_3 (i := 0) rfl (E rfl rfl) (kind_at (by omega))) ?_
                refine AWL.y rfl rfl (B rfl) (Yv.neq rfl (E rfl rfl) (E rfl rfl)) ?_
                refine AWL.nil ?_
                refine AW.cond rfl (fun h6t => ?_) (fun h6f => ?_)
                ·
                  try replace h6t := of_decide_eq_true h6t
                  refine AW.exit ?_
                  refine AW.region ?_
                  refine AWL.y rfl rfl (B rfl) (Yv.addN_i64 rfl (E rfl rfl) (E rfl rfl) (fun hg => by omega)) ?_
                  refine AWL.y rfl rfl (B rfl) (Yv.move rfl (E rfl rfl)) ?_
                  refine AWL.nil ?_
                  refine ⟨j + 1, ⟨by omega, fun i hi => ?_⟩, by omega, (Sub.cons rfl rfl (Sub.cons rfl rfl (Sub.cons rfl rfl (Sub.cons rfl (by simp) Sub.nil)))), rfl⟩
                  rcases Nat.lt_or_ge i j with h | h
                  · exact hbef i h
                  · obtain rfl : i = j := by omega
                    simpa using h6t
                ·
                  try replace h6f := of_decide_eq_false h6f
                  have hk0 : (ws.opn.getD j default).kind = 0 := by simpa using h6f
                  have hix : freeIx ws.opn = j := freeIx_is (by omega) hk0 hbef
                  rw [hix, if_pos (by omega)] at hR
                  refine AW.skip ?_
                  refine AW.rseq ?_
                  refine AWL.y rfl rfl (B rfl) (Yv.move rfl (E rfl rfl)) ?_
                  refine AWL.callP rfl rfl (B rfl) rfl ce_26 (E rfl rfl) (evsC (E rfl rfl) evs0) (clone26 name (by omega)) (fun t S h => h) ?_
                  refine AWL.y rfl rfl (B rfl) (Yv.assign rfl (E rfl rfl)) ?_
                  refine AWL.nil ?_
                  refine AW.rseq ?_
                  refine AWL.y rfl rfl (B rfl) (Yv.move rfl (E rfl rfl)) ?_
                  refine AWL.y rfl rfl (B rfl) (Yv.move rfl (E rfl rfl)) ?_
                  refine AWL.y rfl rfl (B rfl) (Yv.move rfl (E rfl rfl)) ?_
                  refine AWL.y rfl rfl (B rfl) (Yv.buildS rfl sh_67 (evpC (E rfl rfl) (evpC (E rfl rfl) evp0)) (fun _ => rfl)) ?_
                  refine AWL.y rfl rfl (B rfl) (Yv.nilChk rfl (E rfl rfl)) ?_
                  refine AWL.y rfl rfl (B rfl) (Yv.fieldBox rfl fo_70_2 (E rfl rfl)) ?_
                  refine AWL.y rfl rfl (B rfl) (Yv.indexArr rfl ar_68 (E rfl rfl) (E rfl rfl) (fun hg => ⟨rfl, by omega⟩)) ?_
                  refine AWL.storeBox (i := 0) rfl rfl rfl ag_67 rfl (E rfl rfl) (E rfl rfl) rfl rfl (by first | (rw [wCells_len, ho]; omega) | (simp only [wCells_len, List.length_set, ho]; omega)) ?_
                  refine AWL.nil ?_
                  refine AW.eqS (wst_desc (b := b) (m := m) (ws := ws) (j := j) (by omega) 0 3 (descCells ⟨4, name, 0⟩) ⟨4, name, 0⟩ (by decide) rfl) ?_
                  refine AW.seq ?_
                  refine AW.rseq ?_
                  refine AWL.y rfl rfl (B rfl) (Yv.move rfl (E rfl rfl)) ?_
                  refine AWL.y rfl rfl (B rfl) (Yv.eql rfl (E rfl rfl) (E rfl rfl)) ?_
                  refine AWL.nil ?_
                  refine AW.cond rfl (fun h7t => ?_) (fun h7f => ?_)
                  ·
                    try replace h7t := of_decide_eq_true h7t
                    refine AW.rseq ?_
                    refine AWL.y rfl rfl (B rfl) (Yv.move rfl (E rfl rfl)) ?_
                    refine AWL.y rfl rfl (B rfl) (Yv.move rfl (E rfl rfl)) ?_
                    refine AWL.y rfl rfl (B rfl) (Yv.nilChk rfl (E rfl rfl)) ?_
                    refine AWL.y rfl rfl (B rfl) (Yv.fieldBox rfl fo_70_2 (E rfl rfl)) ?_
                    refine AWL.y rfl rfl (B rfl) (Yv.indexArr rfl ar_68 (E rfl rfl) (E rfl rfl) (fun hg => ⟨rfl, by omega⟩)) ?_
                    refine AWL.y rfl rfl (B rfl) (Yv.fieldBox rfl fo_67_0 (E rfl rfl)) ?_
                    refine AWL.storeBox (i := 0) rfl rfl rfl ag_3 rfl (E rfl rfl) (E rfl rfl) rfl rfl (by first | (rw [wCells_len, ho]; omega) | (simp only [wCells_len, List.length_set, ho]; omega)) ?_
                    refine AWL.nil ?_
                    refine AW.eqS (S' := WSt b m { ws with opn := ws.opn.set j ⟨5, name, 0⟩ }) ?_ ?_
                    · have e := wst_desc (b := b) (m := m) (ws := { ws with opn := ws.opn.set j ⟨4, name, 0⟩ }) (j := j) (by rw [List.length_set]; omega) 0 1 [.v (.int .i64 5)] ⟨5, name, 0⟩ (by decide) (by rw [getD_set (by omega)]; rfl)
                      simp only [List.set_set] at e
                      rw [← e]; rfl
                    refine AW.rseq ?_
                    refine AWL.y rfl rfl (B rfl) (Yv.move rfl (E rfl rfl)) ?_
                    refine AWL.y rfl rfl (B rfl) (Yv.nilChk rfl (E rfl rfl)) ?_
                    refine AWL.y rfl rfl (B rfl) (Yv.fieldBox rfl fo_70_0 (E rfl rfl)) ?_
                    refine AWL.y rfl rfl (B rfl) (Yv.loadBox rfl ag_64 (i := 0) rfl (E rfl rfl) rfl) ?_
                    refine AWL.y rfl rfl (B rfl) (Yv.move rfl (E rfl rfl)) ?_
                    refine AWL.buildSliceRow rfl rfl (B rfl) rfl el_71 (B rfl) rfl evs0 (Nat.le_of_ble_eq_true rfl) rfl rfl (fun A80 => ?_)
                    refine AWL.mapUpd (k := .s _) (i := 1) rfl rfl (.inl rfl) mp_64 rfl (E rfl rfl) (E rfl rfl) (E rfl rfl) rfl rfl (files_good _) ?_
                    refine AWL.nil ?_
                    refine AW.filePut (f := ⟨name, [], A80, 0⟩) (l := ws.files) (a := .box b 70 (wCells m ws.stdin (ws.opn.set j ⟨5, name, 0⟩) ws.tA ws.trace.length ws.tc)) (b := .map m ((putF ⟨name, [], A80, 0⟩ ws.files).map fileKey)) (c := .row ws.tA ws.trace.length ws.tc 36 3 (ws.trace.flatMap evCells)) (by
                      have e := put_key ⟨name, [], A80, 0⟩ ws.files
                      rw [← e]; rfl) ?_
                    refine AW.eqS (S' := WSt b m { ws with opn := ws.opn.set j ⟨5, name, 0⟩, files := putF ⟨name, [], A80, 0⟩ ws.files }) rfl ?_
                    refine AW.region ?_
                    refine AWL.y rfl rfl (B rfl) (Yv.move rfl (E rfl rfl)) ?_
                    refine AWL.y rfl rfl (B rfl) (Yv.move rfl (E rfl rfl)) ?_
                    refine AWL.y rfl rfl (B rfl) (Yv.nilChk rfl (E rfl rfl)) ?_
                    refine AWL.y rfl rfl (B rfl) (Yv.fieldBox rfl fo_70_3 (E rfl rfl)) ?_
                    refine AWL.y rfl rfl (B rfl) (Yv.loadBox rfl ag_33 (i := 0) rfl (E rfl rfl) (trace_at (by first | exact ho | (rw [List.length_set]; exact ho)))) ?_
                    refine AWL.y rfl rfl (B rfl) (Yv.move rfl (E rfl rfl)) ?_
                    refine AWL.y rfl rfl (B rfl) (Yv.buildS rfl sh_36 (evpC (E rfl rfl) (evpC (E rfl rfl) evp0)) (fun _ => rfl)) ?_
                    refine AWL.buildSliceE rfl rfl (B rfl) rfl el_33 (B rfl) rfl (evsC (E rfl rfl) evs0) (Nat.le_of_ble_eq_true rfl) rfl rfl ?_
                    refine AWL.appendRow (i := 2) rfl rfl (B rfl) rfl el_33 (B rfl) rfl (E rfl rfl) (SrcT.sl so_33 (B rfl) (E rfl rfl) (m := 1) rfl) (by show ws.trace.length + 1 ≤ maxLen; unfold maxLen; omega) (by show (ws.trace.length + 1) * _ ≤ _; omega) (fun A89 c89 => ?_)
                    refine AWL.y rfl rfl (B rfl) (Yv.nilChk rfl (E rfl rfl)) ?_
                    refine AWL.y rfl rfl (B rfl) (Yv.fieldBox rfl fo_70_3 (E rfl rfl)) ?_
                    refine AWL.storeBox (i := 0) rfl rfl rfl ag_33 rfl (E rfl rfl) (E rfl rfl) rfl rfl (by first | (rw [wCells_len, ho]; omega) | (simp only [wCells_len, List.length_set, ho]; omega)) ?_
                    refine AWL.nil ?_
                    refine AW.rseq ?_
                    refine AWL.y rfl rfl (B rfl) (Yv.move rfl (E rfl rfl)) ?_
                    refine AWL.y rfl rfl (B rfl) (Yv.assign rfl (E rfl rfl)) ?_
                    refine AWL.nil ?_
                    refine AW.ret (retI (.tmp rfl .nil) ?_)
                    refine ⟨by rw [hR]; rfl, A80, 0, A89, c89, ?_⟩
                    unfold openS
                    rw [if_neg (by omega), if_pos (by omega), hix]
                    have e := wst_event (b := b) (m := m) (ws := { ws with opn := ws.opn.set j ⟨5, name, 0⟩, files := putF ⟨name, [], A80, 0⟩ ws.files }) (by simpa using ho) ⟨3, name, []⟩ A89 c89
                    exact e.symm
                  ·
                    try replace h7f := of_decide_eq_false h7f
                    refine AW.skip ?_
                    refine AW.rseq ?_
                    refine AWL.y rfl rfl (B rfl) (Yv.move rfl (E rfl rfl)) ?_
                    refine AWL.y rfl rfl (B rfl) (Yv.assign rfl (E rfl rfl)) ?_
                    refine AWL.nil ?_
                    refine AW.ret (retI (.tmp rfl .nil) ?_)
                    refine ⟨by rw [hR]; rfl, none, 0, none, 0, ?_⟩
                    unfold openS
                    rw [if_neg (by omega), if_neg (by omega), hix]
              ·
                try replace h5f := of_decide_eq_false h5f
                refine AW.exit ?_
                refine AW.rseq ?_
                refine AWL.y rfl rfl (B rfl) (Yv.assign rfl (E rfl rfl)) ?_
                refine AWL.nil ?_
                refine AW.ret (retI (.tmp rfl .nil) ?_)
                have hnf : ¬ freeIx ws.opn < 19 := by
                  rw [← ho]
                  exact freeIx_none (fun i hi => hbef i (by omega))
                rw [if_neg hnf] at hR
                exact ⟨by rw [hR]; rfl, none, 0, none, 0, by unfold openS; rw [if_pos (by omega)]⟩

end Go.Proofs.Ytmiggpnkicdijaa
