/-
  CONTRACT of the law Tells; walked by program.
-/
import Derived.Test.YtmiggpnkicdijaaWk9
import Derived.Test.YtmiggpnkicdijaaTells
namespace Go.Proofs.Ytmiggpnkicdijaa
open Go Go.RowKit
set_option linter.unusedVariables false

set_option maxHeartbeats 2000000 in
theorem WorldTells3 (texts : List (List UInt8)) (kinds : List Int) (ht : sizeB texts ≤ 1099511627) (hkl : kinds.length ≤ 1099511627776) (hk : ∀ z ∈ kinds, -9223372036854775808 ≤ z ∧ z ≤ 9223372036854775807) :
    ACalls Try.prog 3 [.sl 1 (texts.map sv), .sl 1 (kinds.map fun z => T.v (.int .i64 z))] [] (fun t S => t = .v (.bool true)) := by
  have htl := sizeB_len texts
  refine ACalls.intro Try.func3 rfl Try.ntmps3 (Nat.le_of_ble_eq_true rfl) rfl fun X w0 => ?_
  refine AW.rseq ?_
  refine AWL.y rfl rfl (B rfl) (Yv.assign rfl (E rfl rfl)) ?_
  refine AWL.nil ?_
  refine AW.rseq ?_
  refine AWL.y rfl rfl (B rfl) (Yv.buildS rfl sh_28 evp0 (fun _ => rfl)) ?_
  refine AWL.retype (k := 13) (t := .agg [sv [], .v (.slice none 0 0)]) (t' := worldT [] []) rfl (world_nil _) ?_
  refine AWL.call rfl rfl (B rfl) rfl ce_9 (E rfl rfl) (evsC (E rfl rfl) evs0) (S1 := []) (S2 := _) rfl (New9 [] [] (by first | decide | omega) (by decide) (fun x hx => by cases hx)) ?_
  rintro t14 S14 ⟨b, m, fl, rfl, rfl, hfl⟩
  obtain rfl := fl_nil hfl
  have hw0 : WB 0 ⟨[], [], opn0, [], none, 0⟩ := new_wb (l := []) rfl (by first | exact Nat.le_refl _ | decide) (fun x hx => by cases hx)
  refine AWL.eqS (List.append_nil _) ?_
  refine AWL.y rfl rfl (B rfl) (Yv.assign rfl (E rfl rfl)) ?_
  refine AWL.nil ?_
  refine AW.seq ?_
  refine AW.rseq ?_
  refine AWL.y rfl rfl (B rfl) (Yv.move rfl (E rfl rfl)) ?_
  refine AWL.y rfl rfl (B rfl) (Yv.eqlNilP rfl pn_24 (E rfl rfl)) ?_
  refine AWL.y rfl rfl (B rfl) (Yv.move rfl (E rfl rfl)) ?_
  refine AWL.callPgF rfl rfl rfl rfl (B rfl) rfl ce_10 (E rfl rfl) evs0 (fun hg => known10) (fun t S h => h) ?_
  refine AWL.ygF rfl rfl rfl rfl (B rfl) (Yv.not rfl (Eg rfl rfl id)) ?_
  refine AWL.y rfl rfl (B rfl) (Yv.pickOr (t := .const (.bool true)) rfl (E rfl rfl) (Eg rfl rfl id)) ?_
  refine AWL.nil ?_
  refine AW.cond rfl (fun h0t => ?_) (fun h0f => ?_)
  ·
    try replace h0t := of_decide_eq_true h0t
    cases h0t
  ·
    try replace h0f := of_decide_eq_false h0f
    refine AW.skip ?_
    refine AW.rseq ?_
    refine AWL.y rfl rfl (B rfl) (Yv.assign rfl (E rfl rfl)) ?_
    refine AWL.nil ?_
    refine AW.rseq ?_
    refine AWL.y rfl rfl (B rfl) (Yv.assign rfl (E rfl rfl)) ?_
    refine AWL.nil ?_
    refine AW.seq ?_
    refine AW.rseq ?_
    refine AWL.y rfl rfl (B rfl) (Yv.assign rfl (E rfl rfl)) ?_
    refine AWL.nil ?_
    refine AW.block ?_
    refine AW.loop2 (fun (i : Nat) (ws : WS) => [(0, true, .sl 1 (texts.map sv)), (1, true, .sl 1 (kinds.map fun z => T.v (.int .i64 z))), (5, true, wp b), (6, true, sv (toldF 1 ws.trace)), (7, true, sv (toldF 2 ws.trace)), (8, true, .v (.int .i64 (i : Int)))]) (fun (i : Nat) (ws : WS) => (WSt b m ws)) (fun (i : Nat) (ws : WS) => i ≤ texts.length ∧ Tells (sizeB (texts.take i)) ws) (fun (i : Nat) (ws : WS) => texts.length - i) 0 (⟨[], [], opn0, [], none, 0⟩) ?_ ?_ ?_ ?_
    · exact ⟨Nat.zero_le _, hw0, rfl, rfl, (fun e he => by cases he), (fun j h1 h2 => by cases h2), Nat.le_refl _, Nat.le_refl _⟩
    · exact (Sub.cons rfl rfl (Sub.cons rfl rfl (Sub.cons rfl rfl (Sub.cons rfl rfl (Sub.cons rfl rfl (Sub.cons rfl rfl Sub.nil))))))
    · rfl
    ·
      intro i ws hinv
      obtain ⟨hi, hT⟩ := hinv
      have hq1 := hT.t1
      have hq2 := hT.t2
      have hst0 := sizeB_take texts i
      refine AW.seq ?_
      refine AW.rseq ?_
      refine AWL.y rfl rfl (B rfl) (Yv.move rfl (E rfl rfl)) ?_
      refine AWL.y rfl rfl (B rfl) (Yv.move rfl (E rfl rfl)) ?_
      refine AWL.y rfl rfl (B rfl) (Yv.lenSl rfl so_22 (B rfl) (E rfl rfl) len_svs) ?_
      refine AWL.y rfl rfl (B rfl) (Yv.lss rfl (E rfl rfl) (E rfl rfl)) ?_
      refine AWL.nil ?_
      refine AW.cond rfl (fun h1t => ?_) (fun h1f => ?_)
      ·
        try replace h1t := of_decide_eq_true h1t
        have hsz := sizeB_succ (l := texts) (i := i) (by omega)
        have hst := sizeB_take texts (i + 1)
        refine AW.skip ?_
        refine AW.seq ?_
        refine AW.block ?_
        refine AW.rseq ?_
        refine AWL.y rfl rfl (B rfl) (Yv.assign rfl (E rfl rfl)) ?_
        refine AWL.nil ?_
        refine AW.mid (α := Int) (fun k => [(0, true, .sl 1 (texts.map sv)), (1, true, .sl 1 (kinds.map fun z => T.v (.int .i64 z))), (5, true, wp b), (6, true, sv (toldF 1 ws.trace)), (7, true, sv (toldF 2 ws.trace)), (8, true, .v (.int .i64 (i : Int))), (9, true, .v (.int .i64 k))]) (fun _ => WSt b m ws) (fun _ => True) ?_ ?_
        ·
          refine AW.rseq ?_
          refine AWL.y rfl rfl (B rfl) (Yv.move rfl (E rfl rfl)) ?_
          refine AWL.y rfl rfl (B rfl) (Yv.lenSl rfl so_23 (B rfl) (E rfl rfl) len_i64s) ?_
          refine AWL.y rfl rfl (B rfl) (Yv.gtr rfl (E rfl rfl) (E rfl rfl)) ?_
          refine AWL.nil ?_
          refine AW.cond rfl (fun h2t => ?_) (fun h2f => ?_)
          ·
            try replace h2t := of_decide_eq_true h2t
            refine AW.region ?_
            refine AWL.y rfl rfl (B rfl) (Yv.move rfl (E rfl rfl)) ?_
            refine AWL.y rfl rfl (B rfl) (Yv.move rfl (E rfl rfl)) ?_
            refine AWL.y rfl rfl (B rfl) (Yv.move rfl (E rfl rfl)) ?_
            refine AWL.y rfl rfl (B rfl) (Yv.lenSl rfl so_23 (B rfl) (E rfl rfl) len_i64s) ?_
            refine AWL.y rfl rfl (B rfl) (Yv.remN rfl (E rfl rfl) (E rfl rfl) (fun hg => by omega)) ?_
            refine AWL.y rfl rfl (B rfl) (Yv.indexSl (j := (i % kinds.length)) rfl ss_23 (B rfl) (E rfl rfl) (E rfl rfl) (fun hg => ⟨(Int.natCast_emod i kinds.length).symm, by rw [len_i64s, Nat.mul_one, Nat.mul_one]; exact Nat.mod_lt _ (by omega)⟩)) ?_
            refine AWL.y rfl rfl (B rfl) (Yv.loadRp rfl ag_3 (E rfl rfl) (fun hg => i64_get (Nat.mod_lt _ (by omega)))) ?_
            refine AWL.callP rfl rfl (B rfl) rfl ce_11 (E rfl rfl) (evsC (E rfl rfl) (evsC (E rfl rfl) evs0)) (pick11 (kinds.getD (i % kinds.length) 0) 2 (hk _ (getD_memZ (Nat.mod_lt _ (by omega)))).1 (hk _ (getD_memZ (Nat.mod_lt _ (by omega)))).2 (by decide)) (fun t S h => h) ?_
            refine AWL.y rfl rfl (B rfl) (Yv.assign rfl (E rfl rfl)) ?_
            refine AWL.nil ?_
            exact ⟨_, trivial, (Sub.cons rfl rfl (Sub.cons rfl rfl (Sub.cons rfl rfl (Sub.cons rfl rfl (Sub.cons rfl rfl (Sub.cons rfl rfl (Sub.cons rfl rfl Sub.nil))))))), rfl⟩
          ·
            try replace h2f := of_decide_eq_false h2f
            refine AW.skip ?_
            exact ⟨0, trivial, (Sub.cons rfl rfl (Sub.cons rfl rfl (Sub.cons rfl rfl (Sub.cons rfl rfl (Sub.cons rfl rfl (Sub.cons rfl rfl (Sub.cons rfl rfl Sub.nil))))))), rfl⟩
        ·
          rintro k _
          refine AW.rseq ?_
          refine AWL.y rfl rfl (B rfl) (Yv.move rfl (E rfl rfl)) ?_
          refine AWL.y rfl rfl (B rfl) (Yv.eql rfl (E rfl rfl) (E rfl rfl)) ?_
          refine AWL.nil ?_
          refine AW.cond rfl (fun h3t => ?_) (fun h3f => ?_)
          ·
            try replace h3t := of_decide_eq_true h3t
            refine AW.rseq ?_
            refine AWL.y rfl rfl (B rfl) (Yv.move rfl (E rfl rfl)) ?_
            refine AWL.y rfl rfl (B rfl) (Yv.move rfl (E rfl rfl)) ?_
            refine AWL.y rfl rfl (B rfl) (Yv.move rfl (E rfl rfl)) ?_
            refine AWL.y rfl rfl (B rfl) (Yv.indexSl rfl ss_22 (B rfl) (E rfl rfl) (E rfl rfl) (fun hg => ⟨rfl, (by first | omega | (simp only [len_svs, len_i64s, len_ev]; omega))⟩)) ?_
            refine AWL.y rfl rfl (B rfl) (Yv.loadRp rfl ag_9 (E rfl rfl) (fun hg => sv_get (by omega))) ?_
            refine AWL.y rfl rfl (B rfl) (Yv.addL rfl (E rfl rfl) (E rfl rfl) (fun hg => by omega)) ?_
            refine AWL.y rfl rfl (B rfl) (Yv.assign rfl (E rfl rfl)) ?_
            refine AWL.nil ?_
            refine AW.region ?_
            refine AWL.y rfl rfl (B rfl) (Yv.move rfl (E rfl rfl)) ?_
            refine AWL.y rfl rfl (B rfl) (Yv.move rfl (E rfl rfl)) ?_
            refine AWL.y rfl rfl (B rfl) (Yv.move rfl (E rfl rfl)) ?_
            refine AWL.y rfl rfl (B rfl) (Yv.indexSl rfl ss_22 (B rfl) (E rfl rfl) (E rfl rfl) (fun hg => ⟨rfl, (by first | omega | (simp only [len_svs, len_i64s, len_ev]; omega))⟩)) ?_
            refine AWL.y rfl rfl (B rfl) (Yv.loadRp rfl ag_9 (E rfl rfl) (fun hg => sv_get (by omega))) ?_
            refine AWL.callAll rfl rfl (B rfl) rfl ce_12 (E rfl rfl) (evsC (E rfl rfl) (evsC (E rfl rfl) evs0)) (Out12 b m ws (texts.getD i []) (sizeB (texts.take i)) hT.k1 hT.wb (by omega) (by omega)) ?_
            rintro t51 S51 ⟨A51, c51, rfl⟩
            refine AWL.nil ?_
            refine AW.region ?_
            refine AWL.y rfl rfl (B rfl) (Yv.move rfl (E rfl rfl)) ?_
            refine AWL.y rfl rfl (B rfl) (Yv.addN_i64 rfl (E rfl rfl) (E rfl rfl) (fun hg => by omega)) ?_
            refine AWL.y rfl rfl (B rfl) (Yv.assign rfl (E rfl rfl)) ?_
            refine AWL.nil ?_
            have hn1 := tells_say hT 1 (texts.getD i []) A51 c51
            have e1 := told_say 1 1 [] (texts.getD i []) ws.trace
            have e2 := told_say 1 2 [] (texts.getD i []) ws.trace
            rw [if_pos rfl] at e1
            rw [if_neg (by decide), List.append_nil] at e2
            refine ⟨i + 1, { ws with trace := sayF 1 [] (texts.getD i []) ws.trace, tA := A51, tc := c51 }, ⟨by omega, by rw [hsz]; exact hn1⟩, by omega, ?_, rfl⟩
            exact (Sub.cons rfl rfl (Sub.cons rfl rfl (Sub.cons rfl rfl (Sub.cons rfl (congrArg sv e1) (Sub.cons rfl (congrArg sv e2) (Sub.cons rfl (by simp) Sub.nil))))))
          ·
            try replace h3f := of_decide_eq_false h3f
            refine AW.rseq ?_
            refine AWL.y rfl rfl (B rfl) (Yv.move rfl (E rfl rfl)) ?_
            refine AWL.y rfl rfl (B rfl) (Yv.move rfl (E rfl rfl)) ?_
            refine AWL.y rfl rfl (B rfl) (Yv.move rfl (E rfl rfl)) ?_
            refine AWL.y rfl rfl (B rfl) (Yv.indexSl rfl ss_22 (B rfl) (E rfl rfl) (E rfl rfl) (fun hg => ⟨rfl, (by first | omega | (simp only [len_svs, len_i64s, len_ev]; omega))⟩)) ?_
            refine AWL.y rfl rfl (B rfl) (Yv.loadRp rfl ag_9 (E rfl rfl) (fun hg => sv_get (by omega))) ?_
            refine AWL.y rfl rfl (B rfl) (Yv.addL rfl (E rfl rfl) (E rfl rfl) (fun hg => by omega)) ?_
            refine AWL.y rfl rfl (B rfl) (Yv.assign rfl (E rfl rfl)) ?_
            refine AWL.nil ?_
            refine AW.rseq ?_
            refine AWL.y rfl rfl (B rfl) (Yv.move rfl (E rfl rfl)) ?_
            refine AWL.y rfl rfl (B rfl) (Yv.move rfl (E rfl rfl)) ?_
            refine AWL.y rfl rfl (B rfl) (Yv.move rfl (E rfl rfl)) ?_
            refine AWL.y rfl rfl (B rfl) (Yv.indexSl rfl ss_22 (B rfl) (E rfl rfl) (E rfl rfl) (fun hg => ⟨rfl, (by first | omega | (simp only [len_svs, len_i64s, len_ev]; omega))⟩)) ?_
            refine AWL.y rfl rfl (B rfl) (Yv.loadRp rfl ag_9 (E rfl rfl) (fun hg => sv_get (by omega))) ?_
            refine AWL.callAll rfl rfl (B rfl) rfl ce_13 (E rfl rfl) (evsC (E rfl rfl) (evsC (E rfl rfl) (evsC (E rfl rfl) evs0))) (SysWrite13_3 b m ws 2 (texts.getD i []) (sizeB (texts.take i)) (by decide) hT.k2 hT.wb (by omega) (by omega)) ?_
            rintro t63 S63 ⟨rfl, A63, c63, rfl⟩
            refine AWL.y rfl rfl (B rfl) (Yv.assign rfl (E rfl rfl)) ?_
            refine AWL.nil ?_
            refine AW.rseq ?_
            refine AWL.y rfl rfl (B rfl) (Yv.move rfl (E rfl rfl)) ?_
            refine AWL.y rfl rfl (B rfl) (Yv.move rfl (E rfl rfl)) ?_
            refine AWL.y rfl rfl (B rfl) (Yv.move rfl (E rfl rfl)) ?_
            refine AWL.y rfl rfl (B rfl) (Yv.indexSl rfl ss_22 (B rfl) (E rfl rfl) (E rfl rfl) (fun hg => ⟨rfl, (by first | omega | (simp only [len_svs, len_i64s, len_ev]; omega))⟩)) ?_
            refine AWL.y rfl rfl (B rfl) (Yv.loadRp rfl ag_9 (E rfl rfl) (fun hg => sv_get (by omega))) ?_
            refine AWL.y rfl rfl (B rfl) (Yv.lenL rfl st_9 (E rfl rfl)) ?_
            refine AWL.y rfl rfl (B rfl) (Yv.neq rfl (E rfl rfl) (E rfl rfl)) ?_
            refine AWL.nil ?_
            refine AW.cond rfl (fun h4t => ?_) (fun h4f => ?_)
            ·
              try replace h4t := of_decide_eq_true h4t
              simp at h4t
            ·
              try replace h4f := of_decide_eq_false h4f
              refine AW.skip ?_
              refine AW.region ?_
              refine AWL.y rfl rfl (B rfl) (Yv.move rfl (E rfl rfl)) ?_
              refine AWL.y rfl rfl (B rfl) (Yv.addN_i64 rfl (E rfl rfl) (E rfl rfl) (fun hg => by omega)) ?_
              refine AWL.y rfl rfl (B rfl) (Yv.assign rfl (E rfl rfl)) ?_
              refine AWL.nil ?_
              have hn1 := tells_say hT 2 (texts.getD i []) A63 c63
              have e1 := told_say 2 1 [] (texts.getD i []) ws.trace
              have e2 := told_say 2 2 [] (texts.getD i []) ws.trace
              rw [if_neg (by decide), List.append_nil] at e1
              rw [if_pos rfl] at e2
              refine ⟨i + 1, { ws with trace := sayF 2 [] (texts.getD i []) ws.trace, tA := A63, tc := c63 }, ⟨by omega, by rw [hsz]; exact hn1⟩, by omega, ?_, rfl⟩
              exact (Sub.cons rfl rfl (Sub.cons rfl rfl (Sub.cons rfl rfl (Sub.cons rfl (congrArg sv e1) (Sub.cons rfl (congrArg sv e2) (Sub.cons rfl (by simp) Sub.nil))))))
      ·
        try replace h1f := of_decide_eq_false h1f
        refine AW.exit ?_
        refine AW.rseq ?_
        refine AWL.y rfl rfl (B rfl) (Yv.move rfl (E rfl rfl)) ?_
        refine AWL.callAll rfl rfl (B rfl) rfl ce_14 (E rfl rfl) (evsC (E rfl rfl) evs0) (Trace14 b m ws (sizeB (texts.take i)) hT.wb (by omega)) ?_
        rintro t72 S72 ⟨rfl, rfl⟩
        refine AWL.y rfl rfl (B rfl) (Yv.assign rfl (E rfl rfl)) ?_
        refine AWL.nil ?_
        refine AW.seq ?_
        refine AW.rseq ?_
        refine AWL.y rfl rfl (B rfl) (Yv.assign rfl (E rfl rfl)) ?_
        refine AWL.nil ?_
        refine AW.block ?_
        refine AW.loop (fun (q : Nat) => [(5, true, wp b), (6, true, sv (toldF 1 ws.trace)), (7, true, sv (toldF 2 ws.trace)), (11, true, .sl 3 (ws.trace.flatMap evCells)), (12, true, .v (.int .i64 (q : Int)))]) (fun (q : Nat) => (WSt b m ws)) (fun (q : Nat) => q ≤ ws.trace.length) (fun (q : Nat) => ws.trace.length - q) 0 ?_ ?_ ?_ ?_
        · exact Nat.zero_le _
        · exact (Sub.cons rfl rfl (Sub.cons rfl rfl (Sub.cons rfl rfl (Sub.cons rfl rfl (Sub.cons rfl rfl Sub.nil)))))
        · rfl
        ·
          intro q hinv
          have htr := hT.wb.tr
          refine AW.seq ?_
          refine AW.rseq ?_
          refine AWL.y rfl rfl (B rfl) (Yv.move rfl (E rfl rfl)) ?_
          refine AWL.y rfl rfl (B rfl) (Yv.move rfl (E rfl rfl)) ?_
          refine AWL.y rfl rfl (B rfl) (Yv.lenSl rfl so_33 (B rfl) (E rfl rfl) len_ev) ?_
          refine AWL.y rfl rfl (B rfl) (Yv.lss rfl (E rfl rfl) (E rfl rfl)) ?_
          refine AWL.nil ?_
          refine AW.cond rfl (fun h5t => ?_) (fun h5f => ?_)
          ·
            try replace h5t := of_decide_eq_true h5t
            refine AW.skip ?_
            refine AW.seq ?_
            refine AW.block ?_
            refine AW.rseqQ rfl (by kernel_rfl) ?_
            refine AWQ.y rfl rfl (B rfl) (Yv.move rfl (E rfl rfl)) ?_
            refine AWQ.y rfl rfl (B rfl) (Yv.move rfl (E rfl rfl)) ?_
            refine AWQ.y rfl rfl (B rfl) (Yv.indexSl (j := q) rfl ss_33 (B rfl) (E rfl rfl) (E rfl rfl) (fun hg => by first | exact ⟨by omega, by rw [len_ev]; omega⟩ | (simp only [Bool.or_eq_true, Bool.and_eq_true, Bool.or_eq_false_iff, Bool.and_eq_false_iff, Bool.not_eq_true', Bool.not_eq_false', decide_eq_true_eq, decide_eq_false_iff_not, Decidable.not_not] at hg; exact ⟨by omega, by rw [len_ev]; omega⟩))) ?_
            refine AWQ.y rfl rfl (B rfl) (Yv.fieldRp rfl fo_36_2 (E rfl rfl)) ?_
            refine AWQ.y rfl rfl (B rfl) (Yv.loadRp rfl ag_9 (E rfl rfl) (fun hg => evt_at (by first | omega | (simp only [Bool.or_eq_true, Bool.and_eq_true, Bool.or_eq_false_iff, Bool.and_eq_false_iff, Bool.not_eq_true', Bool.not_eq_false', decide_eq_true_eq, decide_eq_false_iff_not, Decidable.not_not] at hg; omega)))) ?_
            refine AWQ.y rfl rfl (B rfl) (Yv.eqlL rfl (E rfl rfl) (E rfl rfl)) ?_
            refine AWQ.y rfl rfl (B rfl) (Yv.move rfl (E rfl rfl)) ?_
            refine AWQ.ygF rfl rfl rfl rfl (B rfl) (Yv.move rfl (E rfl rfl)) ?_
            refine AWQ.ygF rfl rfl rfl rfl (B rfl) (Yv.move rfl (E rfl rfl)) ?_
            refine AWQ.ygF rfl rfl rfl rfl (B rfl) (Yv.indexSl (j := q) rfl ss_33 (B rfl) (Eg rfl rfl id) (Eg rfl rfl id) (fun hg => by first | exact ⟨by omega, by rw [len_ev]; omega⟩ | (simp only [Bool.or_eq_true, Bool.and_eq_true, Bool.or_eq_false_iff, Bool.and_eq_false_iff, Bool.not_eq_true', Bool.not_eq_false', decide_eq_true_eq, decide_eq_false_iff_not, Decidable.not_not] at hg; exact ⟨by omega, by rw [len_ev]; omega⟩))) ?_
            refine AWQ.ygF rfl rfl rfl rfl (B rfl) (Yv.fieldRp rfl fo_36_1 (Eg rfl rfl id)) ?_
            refine AWQ.ygF rfl rfl rfl rfl (B rfl) (Yv.loadRp rfl ag_9 (Eg rfl rfl id) (fun hg => evn_at (by first | omega | (simp only [Bool.or_eq_true, Bool.and_eq_true, Bool.or_eq_false_iff, Bool.and_eq_false_iff, Bool.not_eq_true', Bool.not_eq_false', decide_eq_true_eq, decide_eq_false_iff_not, Decidable.not_not] at hg; omega)))) ?_
            refine AWQ.ygF rfl rfl rfl rfl (B rfl) (Yv.neqL rfl (Eg rfl rfl id) (E rfl rfl)) ?_
            refine AWQ.y rfl rfl (B rfl) (Yv.pickOr (t := .const (.bool true)) rfl (E rfl rfl) (Eg rfl rfl id)) ?_
            refine AWQ.y rfl rfl (B rfl) (Yv.move rfl (E rfl rfl)) ?_
            refine AWQ.ygF rfl rfl rfl rfl (B rfl) (Yv.move rfl (E rfl rfl)) ?_
            refine AWQ.ygF rfl rfl rfl rfl (B rfl) (Yv.gtr rfl (Eg rfl rfl id) (E rfl rfl)) ?_
            refine AWQ.ygF rfl rfl rfl rfl (B rfl) (Yv.move rfl (Eg rfl rfl id)) ?_
            refine AWQ.ygT rfl rfl rfl rfl (B rfl) (Yv.move rfl (E rfl rfl)) ?_
            refine AWQ.ygT rfl rfl rfl rfl (B rfl) (Yv.move rfl (E rfl rfl)) ?_
            refine AWQ.ygT rfl rfl rfl rfl (B rfl) (Yv.indexSl (j := q) rfl ss_33 (B rfl) (Eg rfl rfl id) (Eg rfl rfl id) (fun hg => by first | exact ⟨by omega, by rw [len_ev]; omega⟩ | (simp only [Bool.or_eq_true, Bool.and_eq_true, Bool.or_eq_false_iff, Bool.and_eq_false_iff, Bool.not_eq_true', Bool.not_eq_false', decide_eq_true_eq, decide_eq_false_iff_not, Decidable.not_not] at hg; exact ⟨by omega, by rw [len_ev]; omega⟩))) ?_
            refine AWQ.ygT rfl rfl rfl rfl (B rfl) (Yv.fieldRp rfl fo_36_0 (Eg rfl rfl id)) ?_
            refine AWQ.ygT rfl rfl rfl rfl (B rfl) (Yv.loadRp rfl ag_3 (Eg rfl rfl id) (fun hg => evk_at (by first | omega | (simp only [Bool.or_eq_true, Bool.and_eq_true, Bool.or_eq_false_iff, Bool.and_eq_false_iff, Bool.not_eq_true', Bool.not_eq_false', decide_eq_true_eq, decide_eq_false_iff_not, Decidable.not_not] at hg; omega)))) ?_
            refine AWQ.ygT rfl rfl rfl rfl (B rfl) (Yv.move rfl (E rfl rfl)) ?_
            refine AWQ.ygT rfl rfl rfl rfl (B rfl) (Yv.move rfl (E rfl rfl)) ?_
            refine AWQ.ygT rfl rfl rfl rfl (B rfl) (Yv.subN_i64 rfl (Eg rfl rfl id) (E rfl rfl) (fun hg => by first | omega | (simp only [Bool.and_eq_true, Bool.or_eq_false_iff, Bool.not_eq_true', Bool.not_eq_false', decide_eq_true_eq, decide_eq_false_iff_not] at hg; omega))) ?_
            refine AWQ.ygT rfl rfl rfl rfl (B rfl) (Yv.indexSl (j := q - 1) rfl ss_33 (B rfl) (Eg rfl rfl id) (Eg rfl rfl id) (fun hg => by first | exact ⟨by omega, by rw [len_ev]; omega⟩ | (simp only [Bool.or_eq_true, Bool.and_eq_true, Bool.or_eq_false_iff, Bool.and_eq_false_iff, Bool.not_eq_true', Bool.not_eq_false', decide_eq_true_eq, decide_eq_false_iff_not, Decidable.not_not] at hg; exact ⟨by omega, by rw [len_ev]; omega⟩))) ?_
            refine AWQ.ygT rfl rfl rfl rfl (B rfl) (Yv.fieldRp rfl fo_36_0 (Eg rfl rfl id)) ?_
            refine AWQ.ygT rfl rfl rfl rfl (B rfl) (Yv.loadRp rfl ag_3 (Eg rfl rfl id) (fun hg => evk_at (by first | omega | (simp only [Bool.or_eq_true, Bool.and_eq_true, Bool.or_eq_false_iff, Bool.and_eq_false_iff, Bool.not_eq_true', Bool.not_eq_false', decide_eq_true_eq, decide_eq_false_iff_not, Decidable.not_not] at hg; omega)))) ?_
            refine AWQ.ygT rfl rfl rfl rfl (B rfl) (Yv.eql rfl (Eg rfl rfl id) (Eg rfl rfl id)) ?_
            refine AWQ.ygF rfl rfl rfl rfl (B rfl) (Yv.pickAnd rfl (Eg rfl rfl id) (Eg rfl rfl id)) ?_
            refine AWQ.y rfl rfl (B rfl) (Yv.pickOr (t := .const (.bool true)) rfl (E rfl rfl) (Eg rfl rfl id)) ?_
            refine AWQ.nil ?_
            refine AW.cond rfl (fun h6t => ?_) (fun h6f => ?_)
            ·
              try replace h6t := of_decide_eq_true h6t
              exfalso
              simp only [Bool.or_eq_true, Bool.and_eq_true, Bool.or_eq_false_iff, Bool.and_eq_false_iff, Bool.not_eq_true', Bool.not_eq_false', decide_eq_true_eq, decide_eq_false_iff_not, Decidable.not_not] at h6t
              have hqg := hT.good _ (getD_mem' (l := ws.trace) (j := q) (by omega))
              rcases h6t with (h | h) | ⟨h, h2⟩
              · exact hqg.1 h
              · exact h hqg.2
              · exact hT.alt q (by omega) (by omega) h2
            ·
              try replace h6f := of_decide_eq_false h6f
              refine AW.skip ?_
              refine AW.region ?_
              refine AWL.y rfl rfl (B rfl) (Yv.move rfl (E rfl rfl)) ?_
              refine AWL.y rfl rfl (B rfl) (Yv.addN_i64 rfl (E rfl rfl) (E rfl rfl) (fun hg => by omega)) ?_
              refine AWL.y rfl rfl (B rfl) (Yv.assign rfl (E rfl rfl)) ?_
              refine AWL.nil ?_
              refine ⟨q + 1, by omega, by omega, (Sub.cons rfl rfl (Sub.cons rfl rfl (Sub.cons rfl rfl (Sub.cons rfl rfl (Sub.cons rfl (by simp) Sub.nil))))), rfl⟩
          ·
            try replace h5f := of_decide_eq_false h5f
            refine AW.exit ?_
            have hq1 := hT.t1
            have hq2 := hT.t2
            have hq3 := hT.wb.tr
            refine AW.rseq ?_
            refine AWL.y rfl rfl (B rfl) (Yv.move rfl (E rfl rfl)) ?_
            refine AWL.callP rfl rfl (B rfl) rfl ce_15 (E rfl rfl) (evsC (E rfl rfl) (evsC (E rfl rfl) evs0)) (told15 ws.trace 1 (by omega) (by omega)) (fun t S h => h) ?_
            refine AWL.y rfl rfl (B rfl) (Yv.move rfl (E rfl rfl)) ?_
            refine AWL.y rfl rfl (B rfl) (Yv.eqlL rfl (E rfl rfl) (E rfl rfl)) ?_
            refine AWL.y rfl rfl (B rfl) (Yv.move rfl (E rfl rfl)) ?_
            refine AWL.ygT rfl rfl rfl rfl (B rfl) (Yv.move rfl (E rfl rfl)) ?_
            refine AWL.callPgT rfl rfl rfl rfl (B rfl) rfl ce_15 (E rfl rfl) (evsC (Eg rfl rfl id) (evsC (E rfl rfl) evs0)) (fun hg => told15 ws.trace 2 (by omega) (by omega)) (fun t S h => h) ?_
            refine AWL.ygT rfl rfl rfl rfl (B rfl) (Yv.move rfl (E rfl rfl)) ?_
            refine AWL.ygT rfl rfl rfl rfl (B rfl) (Yv.eqlL rfl (Eg rfl rfl id) (Eg rfl rfl id)) ?_
            refine AWL.y rfl rfl (B rfl) (Yv.pickAnd rfl (E rfl rfl) (Eg rfl rfl id)) ?_
            refine AWL.y rfl rfl (B rfl) (Yv.assign rfl (E rfl rfl)) ?_
            refine AWL.nil ?_
            refine AW.ret (retI (.tmp rfl .nil) ?_)
            simp [tupOf]

end Go.Proofs.Ytmiggpnkicdijaa
