/-
  CONTRACTS of the heap package: the document's bytes of a graph; a graph of its own; walked by program.
-/
import Derived.Test.YtbndnmmceccbkaaWk12
import Derived.Test.YtbndnmmceccbkaaOwn
namespace Go.Proofs.Ytbndnmmceccbkaa
open Go Go.RowKit
set_option linter.unusedVariables false

set_option maxHeartbeats 400000 in
theorem refWord47 (x : Int) (h0 : 0 ≤ x) (h1 : x ≤ 18446744073709551615) :
    ACalls Try.prog 47 [.v (.int .u64 x)] [] (fun t_ S => t_ = u8s (leBytes 8 x)) := by
  refine ACalls.intro Try.func47 rfl Try.ntmps47 (Nat.le_of_ble_eq_true rfl) rfl fun X w0 => ?_
  refine AW.rseq ?_
  refine AWL.y rfl rfl (B rfl) (Yv.assign rfl (E rfl rfl)) ?_
  refine AWL.nil ?_
  refine AW.rseq ?_
  refine AWL.y rfl rfl (B rfl) (Yv.assign rfl (E rfl rfl)) ?_
  refine AWL.nil ?_
  refine AW.rowNil 5 1 ?_
  refine AW.seq ?_
  refine AW.rseq ?_
  refine AWL.y rfl rfl (B rfl) (Yv.assign rfl (E rfl rfl)) ?_
  refine AWL.nil ?_
  refine AW.block ?_
  refine AW.loop3 (fun (j : Nat) (A1 : Option Addr) (c1 : Nat) => [(0, true, .v (.int .u64 (x / 256 ^ j : Int))), (3, true, .v (.slice A1 j c1)), (4, true, .v (.int .i64 (j : Int)))]) (fun (j : Nat) (A1 : Option Addr) (c1 : Nat) => [.row A1 j c1 5 1 ((leBytes j x).map u8)]) (fun (j : Nat) (A1 : Option Addr) (c1 : Nat) => j ≤ 8) (fun (j : Nat) (A1 : Option Addr) (c1 : Nat) => 8 - j) 0 none 0 ?_ ?_ ?_ ?_
  · exact Nat.zero_le _
  · exact Sub.cons rfl (by simp) (Sub.cons rfl rfl (Sub.cons rfl rfl Sub.nil))
  · simp [leBytes]
  ·
    intro j A1 c1 hinv
    have hjx := div_range x j h0 h1
    have hmm : 0 ≤ x / 256 ^ j % 256 ∧ x / 256 ^ j % 256 < 256 := ⟨Int.emod_nonneg _ (by decide), Int.emod_lt_of_pos _ (by decide)⟩
    refine AW.seq ?_
    refine AW.rseq ?_
    refine AWL.y rfl rfl (B rfl) (Yv.move rfl (E rfl rfl)) ?_
    refine AWL.y rfl rfl (B rfl) (Yv.lss rfl (E rfl rfl) (E rfl rfl)) ?_
    refine AWL.nil ?_
    refine AW.cond rfl (fun h0t => ?_) (fun h0f => ?_)
    ·
      try replace h0t := of_decide_eq_true h0t
      refine AW.skip ?_
      refine AW.seq ?_
      refine AW.block ?_
      refine AW.rseq ?_
      refine AWL.y rfl rfl (B rfl) (Yv.move rfl (E rfl rfl)) ?_
      refine AWL.y rfl rfl (B rfl) (Yv.move rfl (E rfl rfl)) ?_
      refine AWL.y rfl rfl (B rfl) (Yv.remN rfl (E rfl rfl) (E rfl rfl) (fun hg => by omega)) ?_
      refine AWL.y rfl rfl (B rfl) (Yv.convN_u8 rfl Try.underlying29 kd_5 (E rfl rfl) (fun hg => by omega)) ?_
      refine AWL.buildSlice1 rfl rfl (B rfl) rfl el_40 rfl (evsC (E rfl rfl) evs0) (Nat.le_of_ble_eq_true rfl) rfl rfl ?_
      refine AWL.appendRow (i := 0) rfl rfl (B rfl) rfl el_40 (B rfl) rfl (E rfl rfl) (SrcT.sl so_40 (B rfl) (E rfl rfl) rfl) (by unfold maxLen; omega) (by omega) (fun A14 c14 => ?_)
      refine AWL.y rfl rfl (B rfl) (Yv.assign rfl (E rfl rfl)) ?_
      refine AWL.nil ?_
      refine AW.region ?_
      refine AWL.y rfl rfl (B rfl) (Yv.move rfl (E rfl rfl)) ?_
      refine AWL.y rfl rfl (B rfl) (Yv.quoN_u64 rfl (E rfl rfl) (E rfl rfl) (fun hg => by omega)) ?_
      refine AWL.y rfl rfl (B rfl) (Yv.assign rfl (E rfl rfl)) ?_
      refine AWL.nil ?_
      refine AW.region ?_
      refine AWL.y rfl rfl (B rfl) (Yv.move rfl (E rfl rfl)) ?_
      refine AWL.y rfl rfl (B rfl) (Yv.addN_i64 rfl (E rfl rfl) (E rfl rfl) (fun hg => by omega)) ?_
      refine AWL.y rfl rfl (B rfl) (Yv.assign rfl (E rfl rfl)) ?_
      refine AWL.nil ?_
      refine ⟨j + 1, A14, c14, by omega, by omega, ?_, ?_⟩
      · exact Sub.cons rfl (by simp only [div_succ]) (Sub.cons rfl rfl (Sub.cons rfl (by simp) Sub.nil))
      · simp only [leBytes_succ, List.set_cons_zero, List.map_append, List.map_cons, List.map_nil, ← u8_emod]
    ·
      try replace h0f := of_decide_eq_false h0f
      refine AW.exit ?_
      obtain rfl : j = 8 := by omega
      refine AW.freeze 0 3 rfl (B rfl) rfl ?_
      refine AW.rseq ?_
      refine AWL.y rfl rfl (B rfl) (Yv.move rfl (E rfl rfl)) ?_
      refine AWL.y rfl rfl (B rfl) (Yv.assign rfl (E rfl rfl)) ?_
      refine AWL.nil ?_
      refine AW.ret (retI (.tmp rfl .nil) ?_)
      rfl

set_option maxHeartbeats 400000 in
theorem refValue48 (r : RefV) (pl : List Int) (hr : fitsF r pl.length = true) :
    ACalls Try.prog 48 [.agg (refCells r), .sl 1 (pl.map zu)] [] (fun t_ S => t_ = .v (.int .u64 (wordV pl r))) := by
  refine ACalls.intro Try.func48 rfl Try.ntmps48 (Nat.le_of_ble_eq_true rfl) rfl fun X w0 => ?_
  refine AW.rseq ?_
  refine AWL.boxOp rfl rfl (B rfl) rfl (E rfl rfl) rfl (fun b2 => ?_)
  refine AWL.y rfl rfl (B rfl) (Yv.assign rfl (E rfl rfl)) ?_
  refine AWL.nil ?_
  refine AW.seq ?_
  refine AW.rseq ?_
  refine AWL.y rfl rfl (B rfl) (Yv.fieldBox rfl fo_54_0 (E rfl rfl)) ?_
  refine AWL.y rfl rfl (B rfl) (Yv.loadBox rfl ag_3 (i := 0) rfl (E rfl rfl) rfl) ?_
  refine AWL.y rfl rfl (B rfl) (Yv.eql rfl (E rfl rfl) (E rfl rfl)) ?_
  refine AWL.nil ?_
  refine AW.cond rfl (fun h0t => ?_) (fun h0f => ?_)
  ·
    try replace h0t := of_decide_eq_true h0t
    have hr1 := fits_small hr h0t
    refine AW.rseq ?_
    refine AWL.y rfl rfl (B rfl) (Yv.fieldBox rfl fo_54_1 (E rfl rfl)) ?_
    refine AWL.y rfl rfl (B rfl) (Yv.loadBox rfl ag_2 (i := 0) rfl (E rfl rfl) rfl) ?_
    refine AWL.y rfl rfl (B rfl) (Yv.mulN_i64 rfl (E rfl rfl) (E rfl rfl) (fun hg => by omega)) ?_
    refine AWL.y rfl rfl (B rfl) (Yv.addN_i64 rfl (E rfl rfl) (E rfl rfl) (fun hg => by omega)) ?_
    refine AWL.y rfl rfl (B rfl) (Yv.conv rfl Try.underlying2 kd_29 (E rfl rfl)) ?_
    refine AWL.y rfl rfl (B rfl) (Yv.assign rfl (E rfl rfl)) ?_
    refine AWL.nil ?_
    refine AW.ret (retI (.tmp rfl .nil) ?_)
    show T.v (.int .u64 _) = T.v (.int .u64 _)
    rw [wordV_small h0t, IntKind.wrap_u64]
  ·
    try replace h0f := of_decide_eq_false h0f
    have hr2 : 0 ≤ r.n ∧ r.n < (pl.length : Int) := (fits_which hr).resolve_left h0f
    refine AW.skip ?_
    refine AW.rseq ?_
    refine AWL.y rfl rfl (B rfl) (Yv.move rfl (E rfl rfl)) ?_
    refine AWL.y rfl rfl (B rfl) (Yv.fieldBox rfl fo_54_1 (E rfl rfl)) ?_
    refine AWL.y rfl rfl (B rfl) (Yv.loadBox rfl ag_2 (i := 0) rfl (E rfl rfl) rfl) ?_
    refine AWL.y rfl rfl (B rfl) (Yv.indexSl rfl ss_41 (B rfl) (E rfl rfl) (E rfl rfl) (fun hg => ⟨(Int.toNat_of_nonneg (by omega)).symm, (by first | omega | (simp only [len_zu, len_refs, len_things, len_u8s]; omega))⟩)) ?_
    refine AWL.y rfl rfl (B rfl) (Yv.loadRp rfl ag_29 (E rfl rfl) (fun hg => zu_get (by omega))) ?_
    refine AWL.y rfl rfl (B rfl) (Yv.assign rfl (E rfl rfl)) ?_
    refine AWL.nil ?_
    refine AW.ret (retI (.tmp rfl .nil) ?_)
    show T.v (.int .u64 _) = T.v (.int .u64 _)
    rw [wordV_thing h0f]

set_option maxHeartbeats 2000000 in
theorem refLay24 (g : Graph) (a : Int) (hgr : GraphOk 1099511627 g) (ha0 : 0 ≤ a) (ha1 : a ≤ 18446744073709551615) (hts : totalF g.things ≤ 100000000000000) :
    ACalls Try.prog 24 [graphT g, .v (.int .u64 a)] [] (fun t_ S => t_ = layT g a) := by
  have hb1 := hgr.tl
  have hb2 := hgr.rl
  refine ACalls.intro Try.func24 rfl Try.ntmps24 (Nat.le_of_ble_eq_true rfl) rfl fun X w0 => ?_
  refine AW.rseq ?_
  refine AWL.boxOp rfl rfl (B rfl) rfl (E rfl rfl) rfl (fun b2 => ?_)
  refine AWL.y rfl rfl (B rfl) (Yv.assign rfl (E rfl rfl)) ?_
  refine AWL.y rfl rfl (B rfl) (Yv.assign rfl (E rfl rfl)) ?_
  refine AWL.y rfl rfl (B rfl) (Yv.assign rfl (E rfl rfl)) ?_
  refine AWL.nil ?_
  refine AW.rseq ?_
  refine AWL.y rfl rfl (B rfl) (Yv.loadBoxA rfl ag_27 (i := 0) rfl (E rfl rfl) rfl rfl) ?_
  refine AWL.callP rfl rfl (B rfl) rfl ce_14 (E rfl rfl) (evsC (E rfl rfl) evs0) (refCheck14 g hgr) (fun t S h => h) ?_
  refine AWL.y rfl rfl (B rfl) (Yv.assign rfl (E rfl rfl)) ?_
  refine AWL.nil ?_
  refine AW.seq ?_
  refine AW.rseq ?_
  refine AWL.y rfl rfl (B rfl) (Yv.move rfl (E rfl rfl)) ?_
  refine AWL.y rfl rfl (B rfl) (Yv.neq rfl (E rfl rfl) (E rfl rfl)) ?_
  refine AWL.nil ?_
  refine AW.cond rfl (fun h0t => ?_) (fun h0f => ?_)
  ·
    try replace h0t := of_decide_eq_true h0t
    simp only [Bool.or_eq_true, Bool.and_eq_true, Bool.or_eq_false_iff, Bool.and_eq_false_iff, Bool.not_eq_true', Bool.not_eq_false', decide_eq_true_eq, decide_eq_false_iff_not, Decidable.not_not] at h0t
    refine AW.rseq ?_
    refine AWL.y rfl rfl (B rfl) (Yv.move rfl (E rfl rfl)) ?_
    refine AWL.y rfl rfl (B rfl) (Yv.assign rfl (E rfl rfl)) ?_
    refine AWL.y rfl rfl (B rfl) (Yv.assign rfl (E rfl rfl)) ?_
    refine AWL.y rfl rfl (B rfl) (Yv.assign rfl (E rfl rfl)) ?_
    refine AWL.nil ?_
    refine AW.rowNil 5 1 ?_
    refine AW.freeze 1 4 rfl (B rfl) rfl ?_
    refine AW.rowNil 29 1 ?_
    refine AW.freeze 1 5 rfl (B rfl) rfl ?_
    refine AW.ret (retI (.tmp rfl (.tmp rfl (.tmp rfl .nil))) ?_)
    rw [lay_bad h0t]
    rfl
  ·
    try replace h0f := of_decide_eq_false h0f
    simp only [Bool.or_eq_true, Bool.and_eq_true, Bool.or_eq_false_iff, Bool.and_eq_false_iff, Bool.not_eq_true', Bool.not_eq_false', decide_eq_true_eq, decide_eq_false_iff_not, Decidable.not_not] at h0f
    have hck := check_zero.1 h0f
    refine AW.skip ?_
    refine AW.seq ?_
    refine AW.rseq ?_
    refine AWL.y rfl rfl (B rfl) (Yv.move rfl (E rfl rfl)) ?_
    refine AWL.y rfl rfl (B rfl) (Yv.remN rfl (E rfl rfl) (E rfl rfl) (fun hg => by omega)) ?_
    refine AWL.y rfl rfl (B rfl) (Yv.neq rfl (E rfl rfl) (E rfl rfl)) ?_
    refine AWL.y rfl rfl (B rfl) (Yv.move rfl (E rfl rfl)) ?_
    refine AWL.ygF rfl rfl rfl rfl (B rfl) (Yv.move rfl (E rfl rfl)) ?_
    refine AWL.ygF rfl rfl rfl rfl (B rfl) (Yv.gtr rfl (Eg rfl rfl id) (E rfl rfl)) ?_
    refine AWL.y rfl rfl (B rfl) (Yv.pickOr (t := .const (.bool true)) rfl (E rfl rfl) (Eg rfl rfl id)) ?_
    refine AWL.nil ?_
    refine AW.cond rfl (fun h1t => ?_) (fun h1f => ?_)
    ·
      try replace h1t := of_decide_eq_true h1t
      simp only [Bool.or_eq_true, Bool.and_eq_true, Bool.or_eq_false_iff, Bool.and_eq_false_iff, Bool.not_eq_true', Bool.not_eq_false', decide_eq_true_eq, decide_eq_false_iff_not, Decidable.not_not] at h1t
      refine AW.rseq ?_
      refine AWL.y rfl rfl (B rfl) (Yv.assign rfl (E rfl rfl)) ?_
      refine AWL.y rfl rfl (B rfl) (Yv.assign rfl (E rfl rfl)) ?_
      refine AWL.y rfl rfl (B rfl) (Yv.assign rfl (E rfl rfl)) ?_
      refine AWL.nil ?_
      refine AW.rowNil 5 1 ?_
      refine AW.freeze 1 4 rfl (B rfl) rfl ?_
      refine AW.rowNil 29 1 ?_
      refine AW.freeze 1 5 rfl (B rfl) rfl ?_
      refine AW.ret (retI (.tmp rfl (.tmp rfl (.tmp rfl .nil))) ?_)
      rw [lay_arg hck (layOk_odd (by omega))]
      rfl
    ·
      try replace h1f := of_decide_eq_false h1f
      simp only [Bool.or_eq_true, Bool.and_eq_true, Bool.or_eq_false_iff, Bool.and_eq_false_iff, Bool.not_eq_true', Bool.not_eq_false', decide_eq_true_eq, decide_eq_false_iff_not, Decidable.not_not] at h1f
      refine AW.skip ?_
      refine AW.rseq ?_
      refine AWL.y rfl rfl (B rfl) (Yv.assign rfl (E rfl rfl)) ?_
      refine AWL.nil ?_
      refine AW.rowNil 29 1 ?_
      refine AW.rseq ?_
      refine AWL.y rfl rfl (B rfl) (Yv.move rfl (E rfl rfl)) ?_
      refine AWL.y rfl rfl (B rfl) (Yv.assign rfl (E rfl rfl)) ?_
      refine AWL.nil ?_
      refine AW.seq ?_
      refine AW.rseq ?_
      refine AWL.y rfl rfl (B rfl) (Yv.assign rfl (E rfl rfl)) ?_
      refine AWL.nil ?_
      refine AW.block ?_
      refine AW.loop3 (fun (j : Nat) (Ap : Option Addr) (cp : Nat) => [(2, true, .v (vp b2)), (8, true, .v (.slice Ap j cp)), (9, true, .v (.int .u64 (a + totalF (g.things.take j)))), (10, true, .v (.int .i64 (j : Int)))]) (fun (j : Nat) (Ap : Option Addr) (cp : Nat) => [.box b2 27 (gCells g), .row Ap j cp 29 1 ((placesF a (g.things.take j)).map zu)]) (fun (j : Nat) (Ap : Option Addr) (cp : Nat) => j ≤ g.things.length ∧ a + totalF (g.things.take j) ≤ 9223372036854775808) (fun (j : Nat) (Ap : Option Addr) (cp : Nat) => g.things.length - j) 0 none 0 ?_ ?_ ?_ ?_
      · exact ⟨Nat.zero_le _, by show a + 0 ≤ _; omega⟩
      · exact (Sub.cons rfl rfl (Sub.cons rfl rfl (Sub.cons rfl (by simp [totalF]) (Sub.cons rfl rfl Sub.nil))))
      · rfl
      ·
        intro j Ap cp hinv
        obtain ⟨hjl, hend⟩ := hinv
        have htt := total_le g.things j
        have htn := totalF_nonneg (g.things.take j)
        refine AW.seq ?_
        refine AW.rseq ?_
        refine AWL.y rfl rfl (B rfl) (Yv.move rfl (E rfl rfl)) ?_
        refine AWL.y rfl rfl (B rfl) (Yv.fieldBox rfl fo_27_0 (E rfl rfl)) ?_
        refine AWL.y rfl rfl (B rfl) (Yv.loadBox rfl ag_25 (i := 0) rfl (E rfl rfl) rfl) ?_
        refine AWL.y rfl rfl (B rfl) (Yv.lenSl rfl so_25 (B rfl) (E rfl rfl) len_things) ?_
        refine AWL.y rfl rfl (B rfl) (Yv.lss rfl (E rfl rfl) (E rfl rfl)) ?_
        refine AWL.nil ?_
        refine AW.cond rfl (fun h2t => ?_) (fun h2f => ?_)
        ·
          try replace h2t := of_decide_eq_true h2t
          have htj := hgr.ts (g.things.getD j default) (getD_mem' (by omega))
          have hst := total_step (l := g.things) (j := j) (by omega)
          have hsr := size_range htj
          have htt1 := total_le g.things (j + 1)
          refine AW.skip ?_
          refine AW.seq ?_
          refine AW.block ?_
          refine AW.rseq ?_
          refine AWL.y rfl rfl (B rfl) (Yv.move rfl (E rfl rfl)) ?_
          refine AWL.y rfl rfl (B rfl) (Yv.move rfl (E rfl rfl)) ?_
          refine AWL.buildSlice1 rfl rfl (B rfl) rfl el_41 rfl (evsC (E rfl rfl) evs0) (Nat.le_of_ble_eq_true rfl) rfl rfl ?_
          refine AWL.appendRow (i := 1) rfl rfl (B rfl) rfl el_41 (B rfl) rfl (E rfl rfl) (SrcT.sl so_41 (B rfl) (E rfl rfl) rfl) (by unfold maxLen; omega) (by omega) (fun A41 c41 => ?_)
          refine AWL.y rfl rfl (B rfl) (Yv.assign rfl (E rfl rfl)) ?_
          refine AWL.nil ?_
          refine AW.rseq ?_
          refine AWL.y rfl rfl (B rfl) (Yv.fieldBox rfl fo_27_0 (E rfl rfl)) ?_
          refine AWL.y rfl rfl (B rfl) (Yv.loadBox rfl ag_25 (i := 0) rfl (E rfl rfl) rfl) ?_
          refine AWL.y rfl rfl (B rfl) (Yv.move rfl (E rfl rfl)) ?_
          refine AWL.y rfl rfl (B rfl) (Yv.indexSl rfl ss_25 (B rfl) (E rfl rfl) (E rfl rfl) (fun hg => ⟨rfl, (by first | omega | (simp only [len_zu, len_refs, len_things, len_u8s]; omega))⟩)) ?_
          refine AWL.y rfl rfl (B rfl) (Yv.loadRpA rfl ag_24 (E rfl rfl) (fun hg => thing_get (by omega))) ?_
          refine AWL.callP rfl rfl (B rfl) rfl ce_10 (E rfl rfl) (evsC (E rfl rfl) evs0) (refSize10 (g.things.getD j default) htj) (fun t S h => h) ?_
          refine AWL.y rfl rfl (B rfl) (Yv.convN_u64 rfl Try.underlying2 kd_29 (E rfl rfl) (fun hg => by omega)) ?_
          refine AWL.y rfl rfl (B rfl) (Yv.assign rfl (E rfl rfl)) ?_
          refine AWL.nil ?_
          refine AW.seq ?_
          refine AW.rseq ?_
          refine AWL.y rfl rfl (B rfl) (Yv.move rfl (E rfl rfl)) ?_
          refine AWL.y rfl rfl (B rfl) (Yv.move rfl (E rfl rfl)) ?_
          refine AWL.y rfl rfl (B rfl) (Yv.subN_u64 rfl (E rfl rfl) (E rfl rfl) (fun hg => by omega)) ?_
          refine AWL.y rfl rfl (B rfl) (Yv.gtr rfl (E rfl rfl) (E rfl rfl)) ?_
          refine AWL.nil ?_
          refine AW.cond rfl (fun h3t => ?_) (fun h3f => ?_)
          ·
            try replace h3t := of_decide_eq_true h3t
            refine AW.rseq ?_
            refine AWL.y rfl rfl (B rfl) (Yv.assign rfl (E rfl rfl)) ?_
            refine AWL.y rfl rfl (B rfl) (Yv.assign rfl (E rfl rfl)) ?_
            refine AWL.y rfl rfl (B rfl) (Yv.assign rfl (E rfl rfl)) ?_
            refine AWL.nil ?_
            refine AW.rowNil 5 1 ?_
            refine AW.freeze 2 4 rfl (B rfl) rfl ?_
            refine AW.rowNil 29 1 ?_
            refine AW.freeze 2 5 rfl (B rfl) rfl ?_
            refine AW.ret (retI (.tmp rfl (.tmp rfl (.tmp rfl .nil))) ?_)
            rw [lay_arg hck (layOk_far (j + 1) (by omega))]
            rfl
          ·
            try replace h3f := of_decide_eq_false h3f
            refine AW.skip ?_
            refine AW.region ?_
            refine AWL.y rfl rfl (B rfl) (Yv.move rfl (E rfl rfl)) ?_
            refine AWL.y rfl rfl (B rfl) (Yv.move rfl (E rfl rfl)) ?_
            refine AWL.y rfl rfl (B rfl) (Yv.addN_u64 rfl (E rfl rfl) (E rfl rfl) (fun hg => by omega)) ?_
            refine AWL.y rfl rfl (B rfl) (Yv.assign rfl (E rfl rfl)) ?_
            refine AWL.nil ?_
            refine AW.region ?_
            refine AWL.y rfl rfl (B rfl) (Yv.move rfl (E rfl rfl)) ?_
            refine AWL.y rfl rfl (B rfl) (Yv.addN_i64 rfl (E rfl rfl) (E rfl rfl) (fun hg => by omega)) ?_
            refine AWL.y rfl rfl (B rfl) (Yv.assign rfl (E rfl rfl)) ?_
            refine AWL.nil ?_
            refine ⟨j + 1, A41, c41, ⟨by omega, by omega⟩, by omega, Sub.cons rfl rfl (Sub.cons rfl rfl (Sub.cons rfl (by rw [hst, Int.add_assoc]) (Sub.cons rfl (by simp) Sub.nil))), ?_⟩
            rw [places_step (by omega), List.map_append]
            rfl
        ·
          try replace h2f := of_decide_eq_false h2f
          refine AW.exit ?_
          obtain rfl : j = g.things.length := by omega
          rw [List.take_length] at *
          have hplo := places_ok ha0 hend
          refine AW.freeze 1 8 rfl (B rfl) rfl ?_
          refine AW.rseq ?_
          refine AWL.y rfl rfl (B rfl) (Yv.assign rfl (E rfl rfl)) ?_
          refine AWL.nil ?_
          refine AW.rowNil 5 1 ?_
          refine AW.perm (List.Perm.swap _ _ _) ?_
          refine AW.seq ?_
          refine AW.rseq ?_
          refine AWL.y rfl rfl (B rfl) (Yv.assign rfl (E rfl rfl)) ?_
          refine AWL.nil ?_
          refine AW.block ?_
          refine AW.loop3 (fun (j : Nat) (A1 : Option Addr) (c1 : Nat) => [(2, true, .v (vp b2)), (8, true, .sl 1 ((placesF a g.things).map zu)), (12, true, .v (.slice A1 (layB (placesF a g.things) (g.things.take j)).length c1)), (13, true, .v (.int .i64 (j : Int)))]) (fun (j : Nat) (A1 : Option Addr) (c1 : Nat) => [.row A1 (layB (placesF a g.things) (g.things.take j)).length c1 5 1 ((layB (placesF a g.things) (g.things.take j)).map u8), .box b2 27 (gCells g)]) (fun (j : Nat) (A1 : Option Addr) (c1 : Nat) => j ≤ g.things.length) (fun (j : Nat) (A1 : Option Addr) (c1 : Nat) => g.things.length - j) 0 none 0 ?_ ?_ ?_ ?_
          · exact Nat.zero_le _
          · exact (Sub.cons rfl rfl (Sub.cons rfl rfl (Sub.cons rfl rfl (Sub.cons rfl rfl Sub.nil))))
          · rfl
          ·
            intro j A1 c1 hinv
            have hbl := layB_len (pl := (placesF a g.things)) (l := g.things.take j) (fun t ht => (check_thing hck t (List.mem_of_mem_take ht)).1)
            have hbm := total_mod (l := g.things.take j) (fun t ht => (check_thing hck t (List.mem_of_mem_take ht)).1)
            have htt := total_le g.things j
            refine AW.seq ?_
            refine AW.rseq ?_
            refine AWL.y rfl rfl (B rfl) (Yv.move rfl (E rfl rfl)) ?_
            refine AWL.y rfl rfl (B rfl) (Yv.fieldBox rfl fo_27_0 (E rfl rfl)) ?_
            refine AWL.y rfl rfl (B rfl) (Yv.loadBox rfl ag_25 (i := 1) rfl (E rfl rfl) rfl) ?_
            refine AWL.y rfl rfl (B rfl) (Yv.lenSl rfl so_25 (B rfl) (E rfl rfl) len_things) ?_
            refine AWL.y rfl rfl (B rfl) (Yv.lss rfl (E rfl rfl) (E rfl rfl)) ?_
            refine AWL.nil ?_
            refine AW.cond rfl (fun h4t => ?_) (fun h4f => ?_)
            ·
              try replace h4t := of_decide_eq_true h4t
              have htj := hgr.ts (g.things.getD j default) (getD_mem' (by omega))
              have hmd := check_thing hck (g.things.getD j default) (getD_mem' (by omega))
              have hsp := made_spec hmd.1
              have hhd := headF_range (by omega) htj
              have hst := total_step (l := g.things) (j := j) (by omega)
              have htt1 := total_le g.things (j + 1)
              have hb3 := htj.by_
              have hb4 := htj.rl
              have hthl := thingB_len (pl := (placesF a g.things)) hmd.1
              rw [thingB, List.length_append, wordsB_len] at hthl
              have hN2 : ((layB (placesF a g.things) (g.things.take j)) ++ headB (g.things.getD j default) ++ codeB (g.things.getD j default)).length = (layB (placesF a g.things) (g.things.take j)).length + (headB (g.things.getD j default) ++ codeB (g.things.getD j default)).length := by simp only [List.length_append, Nat.add_assoc]
              have hfit := fun q hq => (check_thing hck (g.things.getD j default) (getD_mem' (by omega))).2 q hq
              refine AW.skip ?_
              refine AW.seq ?_
              refine AW.block ?_
              refine AW.rseq ?_
              refine AWL.y rfl rfl (B rfl) (Yv.fieldBox rfl fo_27_0 (E rfl rfl)) ?_
              refine AWL.y rfl rfl (B rfl) (Yv.loadBox rfl ag_25 (i := 1) rfl (E rfl rfl) rfl) ?_
              refine AWL.y rfl rfl (B rfl) (Yv.move rfl (E rfl rfl)) ?_
              refine AWL.y rfl rfl (B rfl) (Yv.indexSl rfl ss_25 (B rfl) (E rfl rfl) (E rfl rfl) (fun hg => ⟨rfl, (by first | omega | (simp only [len_zu, len_refs, len_things, len_u8s]; omega))⟩)) ?_
              refine AWL.y rfl rfl (B rfl) (Yv.loadRpA rfl ag_24 (E rfl rfl) (fun hg => thing_get (by omega))) ?_
              refine AWL.allocOp rfl rfl (B rfl) rfl zc_24 (fun b14 => ?_)
              refine AWL.storeBox (i := 2) rfl rfl rfl ag_24 rfl (E rfl rfl) (E rfl rfl) rfl rfl (Nat.le_of_ble_eq_true rfl) ?_
              refine AWL.nil ?_
              refine AW.rseq ?_
              refine AWL.y rfl rfl (B rfl) (Yv.move rfl (E rfl rfl)) ?_
              refine AWL.y rfl rfl (B rfl) (Yv.loadBoxA rfl ag_24 (i := 2) rfl (E rfl rfl) rfl rfl) ?_
              refine AWL.callP rfl rfl (B rfl) rfl ce_12 (E rfl rfl) (evsC (E rfl rfl) evs0) (refHeader12 (g.things.getD j default) htj) (fun t S h => h) ?_
              refine AWL.callT rfl rfl (B rfl) rfl ce_47 (E rfl rfl) (evsC (E rfl rfl) evs0) (refWord47 (headF (g.things.getD j default)) hhd.1 hhd.2) ?_
              rintro t71 S71 rfl
              have hl8 := leBytes_length 8 (headF (g.things.getD j default))
              refine AWL.appendRow (i := 0) rfl rfl (B rfl) rfl el_40 (B rfl) rfl (E rfl rfl) (SrcT.sl so_40 (B rfl) (E rfl rfl) len_u8s) (by unfold maxLen; omega) (by omega) (fun A72 c72 => ?_)
              refine AWL.y rfl rfl (B rfl) (Yv.assign rfl (E rfl rfl)) ?_
              refine AWL.nil ?_
              refine AW.rseq ?_
              refine AWL.y rfl rfl (B rfl) (Yv.move rfl (E rfl rfl)) ?_
              refine AWL.y rfl rfl (B rfl) (Yv.fieldBox rfl fo_24_2 (E rfl rfl)) ?_
              refine AWL.y rfl rfl (B rfl) (Yv.loadBox rfl ag_9 (i := 2) rfl (E rfl rfl) rfl) ?_
              refine AWL.appendRow (i := 0) rfl rfl (B rfl) rfl el_40 (B rfl) rfl (E rfl rfl) (SrcT.strL st_9 (E rfl rfl)) (by unfold maxLen; omega) (by omega) (fun A76 c76 => ?_)
              refine AWL.y rfl rfl (B rfl) (Yv.assign rfl (E rfl rfl)) ?_
              refine AWL.nil ?_
              refine AW.seq ?_
              refine AW.block ?_
              refine AW.loop3 (fun (k : Nat) (A1 : Option Addr) (c1 : Nat) => [(2, true, .v (vp b2)), (8, true, .sl 1 ((placesF a g.things).map zu)), (12, true, .v (.slice A1 ((layB (placesF a g.things) (g.things.take j)).length + (leBytes 8 (headF (g.things.getD j default))).length + (g.things.getD j default).bytes.length + k) c1)), (13, true, .v (.int .i64 (j : Int))), (14, true, .v (vp b14))]) (fun (k : Nat) (A1 : Option Addr) (c1 : Nat) => [.row A1 ((layB (placesF a g.things) (g.things.take j)).length + (leBytes 8 (headF (g.things.getD j default))).length + (g.things.getD j default).bytes.length + k) c1 5 1 (((layB (placesF a g.things) (g.things.take j)) ++ (leBytes 8 (headF (g.things.getD j default)) ++ (g.things.getD j default).bytes) ++ List.replicate k 0).map u8), .box b2 27 (gCells g), .box b14 24 (thingCells (g.things.getD j default))]) (fun (k : Nat) (A1 : Option Addr) (c1 : Nat) => k ≤ (((g.things.getD j default).bytes.length + 7) / 8 * 8 - (g.things.getD j default).bytes.length)) (fun (k : Nat) (A1 : Option Addr) (c1 : Nat) => (((g.things.getD j default).bytes.length + 7) / 8 * 8 - (g.things.getD j default).bytes.length) - k) 0 A76 c76 ?_ ?_ ?_ ?_
              · exact Nat.zero_le _
              · exact (Sub.cons rfl rfl (Sub.cons rfl rfl (Sub.cons rfl rfl (Sub.cons rfl rfl (Sub.cons rfl rfl Sub.nil)))))
              · refine congrArg (fun q => [q, _, _]) (rowEq rfl ?_)
                simp
              ·
                intro k A1 c1 hinv
                refine AW.seq ?_
                refine AW.rseq ?_
                refine AWL.y rfl rfl (B rfl) (Yv.move rfl (E rfl rfl)) ?_
                refine AWL.y rfl rfl (B rfl) (Yv.lenV rfl so_40 (E rfl rfl)) ?_
                refine AWL.y rfl rfl (B rfl) (Yv.remN rfl (E rfl rfl) (E rfl rfl) (fun hg => by omega)) ?_
                refine AWL.y rfl rfl (B rfl) (Yv.neq rfl (E rfl rfl) (E rfl rfl)) ?_
                refine AWL.nil ?_
                refine AW.cond rfl (fun h5t => ?_) (fun h5f => ?_)
                ·
                  try replace h5t := of_decide_eq_true h5t
                  simp only [Bool.or_eq_true, Bool.and_eq_true, Bool.or_eq_false_iff, Bool.and_eq_false_iff, Bool.not_eq_true', Bool.not_eq_false', decide_eq_true_eq, decide_eq_false_iff_not, Decidable.not_not] at h5t
                  refine AW.skip ?_
                  refine AW.block ?_
                  refine AW.region ?_
                  refine AWL.y rfl rfl (B rfl) (Yv.move rfl (E rfl rfl)) ?_
                  refine AWL.buildSlice1 rfl rfl (B rfl) rfl el_40 rfl (evsC (E rfl rfl) evs0) (Nat.le_of_ble_eq_true rfl) rfl rfl ?_
                  refine AWL.appendRow (i := 0) rfl rfl (B rfl) rfl el_40 (B rfl) rfl (E rfl rfl) (SrcT.sl so_40 (B rfl) (E rfl rfl) rfl) (by unfold maxLen; omega) (by omega) (fun A83 c83 => ?_)
                  refine AWL.y rfl rfl (B rfl) (Yv.assign rfl (E rfl rfl)) ?_
                  refine AWL.nil ?_
                  refine ⟨k + 1, A83, c83, by omega, by omega, Sub.cons rfl rfl (Sub.cons rfl rfl (Sub.cons rfl rfl (Sub.cons rfl rfl (Sub.cons rfl rfl Sub.nil)))), ?_⟩
                  refine congrArg (fun q => [q, _, _]) (rowEq rfl ?_)
                  simp only [pad_step, List.map_append]
                  rfl
                ·
                  try replace h5f := of_decide_eq_false h5f
                  simp only [Bool.or_eq_true, Bool.and_eq_true, Bool.or_eq_false_iff, Bool.and_eq_false_iff, Bool.not_eq_true', Bool.not_eq_false', decide_eq_true_eq, decide_eq_false_iff_not, Decidable.not_not] at h5f
                  refine AW.exit ?_
                  refine AW.mid (α := Option Addr × Nat) (fun q => [(2, true, .v (vp b2)), (8, true, .sl 1 ((placesF a g.things).map zu)), (12, true, .v (.slice q.1 ((layB (placesF a g.things) (g.things.take j)) ++ headB (g.things.getD j default) ++ codeB (g.things.getD j default)).length q.2)), (13, true, .v (.int .i64 (j : Int))), (14, true, .v (vp b14))]) (fun q => [.row q.1 ((layB (placesF a g.things) (g.things.take j)) ++ headB (g.things.getD j default) ++ codeB (g.things.getD j default)).length q.2 5 1 (((layB (placesF a g.things) (g.things.take j)) ++ headB (g.things.getD j default) ++ codeB (g.things.getD j default)).map u8), .box b2 27 (gCells g), .box b14 24 (thingCells (g.things.getD j default))]) (fun _ => True) ?_ ?_
                  ·
                    obtain rfl : k = (((g.things.getD j default).bytes.length + 7) / 8 * 8 - (g.things.getD j default).bytes.length) := by omega
                    have hrow : (layB (placesF a g.things) (g.things.take j)) ++ (leBytes 8 (headF (g.things.getD j default)) ++ (g.things.getD j default).bytes) ++ List.replicate (((g.things.getD j default).bytes.length + 7) / 8 * 8 - (g.things.getD j default).bytes.length) 0 = (layB (placesF a g.things) (g.things.take j)) ++ headB (g.things.getD j default) := by rw [headB, zerosB]; simp only [List.append_assoc]
                    refine AW.rseq ?_
                    refine AWL.y rfl rfl (B rfl) (Yv.fieldBox rfl fo_24_0 (E rfl rfl)) ?_
                    refine AWL.y rfl rfl (B rfl) (Yv.loadBox rfl ag_3 (i := 2) rfl (E rfl rfl) rfl) ?_
                    refine AWL.y rfl rfl (B rfl) (Yv.eql rfl (E rfl rfl) (E rfl rfl)) ?_
                    refine AWL.nil ?_
                    refine AW.cond rfl (fun h6t => ?_) (fun h6f => ?_)
                    ·
                      try replace h6t := of_decide_eq_true h6t
                      refine AW.region ?_
                      refine AWL.y rfl rfl (B rfl) (Yv.move rfl (E rfl rfl)) ?_
                      refine AWL.y rfl rfl (B rfl) (Yv.fieldBox rfl fo_24_1 (E rfl rfl)) ?_
                      refine AWL.y rfl rfl (B rfl) (Yv.loadBox rfl ag_3 (i := 2) rfl (E rfl rfl) rfl) ?_
                      refine AWL.y rfl rfl (B rfl) (Yv.convN_u64 rfl Try.underlying3 kd_29 (E rfl rfl) (fun hg => by omega)) ?_
                      refine AWL.y rfl rfl (B rfl) (Yv.mulN_u64 rfl (E rfl rfl) (E rfl rfl) (fun hg => by omega)) ?_
                      refine AWL.y rfl rfl (B rfl) (Yv.addN_u64 rfl (E rfl rfl) (E rfl rfl) (fun hg => by omega)) ?_
                      refine AWL.callT rfl rfl (B rfl) rfl ce_47 (E rfl rfl) (evsC (E rfl rfl) evs0) (refWord47 (4194304 + 16 * (g.things.getD j default).tag) (by omega) (by omega)) ?_
                      rintro t93 S93 rfl
                      have hl8 := leBytes_length 8 (4194304 + 16 * (g.things.getD j default).tag)
                      refine AWL.appendRow (i := 0) rfl rfl (B rfl) rfl el_40 (B rfl) rfl (E rfl rfl) (SrcT.sl so_40 (B rfl) (E rfl rfl) len_u8s) (by unfold maxLen; omega) (by omega) (fun A94 c94 => ?_)
                      refine AWL.y rfl rfl (B rfl) (Yv.assign rfl (E rfl rfl)) ?_
                      refine AWL.nil ?_
                      exact ⟨(A94, c94), trivial, (Sub.cons rfl rfl (Sub.cons rfl rfl (Sub.cons rfl (congrArg (fun q => T.v (.slice A94 q c94)) (by simp only [List.length_append, headB_len, codeB_len, leBytes_length, if_pos h6t]; omega)) (Sub.cons rfl rfl (Sub.cons rfl rfl Sub.nil))))), congrArg (fun q => [q, _, _]) (rowEq (by simp only [List.length_append, headB_len, codeB_len, leBytes_length, if_pos h6t]; omega) (by rw [hrow, codeB, if_pos h6t, List.map_append (f := u8) (l₂ := leBytes 8 (4194304 + 16 * (g.things.getD j default).tag))]))⟩
                    ·
                      try replace h6f := of_decide_eq_false h6f
                      refine AW.skip ?_
                      exact ⟨(A1, c1), trivial, (Sub.cons rfl rfl (Sub.cons rfl rfl (Sub.cons rfl (congrArg (fun q => T.v (.slice A1 q c1)) (by simp only [List.length_append, headB_len, codeB_len, leBytes_length, if_neg h6f]; omega)) (Sub.cons rfl rfl (Sub.cons rfl rfl Sub.nil))))), congrArg (fun q => [q, _, _]) (rowEq (by simp only [List.length_append, headB_len, codeB_len, leBytes_length, if_neg h6f]; omega) (by rw [hrow, codeB, if_neg h6f, List.append_nil]))⟩
                  ·
                    rintro q hmid
                    refine AW.rseq ?_
                    refine AWL.y rfl rfl (B rfl) (Yv.assign rfl (E rfl rfl)) ?_
                    refine AWL.nil ?_
                    refine AW.block ?_
                    refine AW.loop3 (fun (i : Nat) (A1 : Option Addr) (c1 : Nat) => [(2, true, .v (vp b2)), (8, true, .sl 1 ((placesF a g.things).map zu)), (12, true, .v (.slice A1 (((layB (placesF a g.things) (g.things.take j)) ++ headB (g.things.getD j default) ++ codeB (g.things.getD j default)).length + 8 * i) c1)), (13, true, .v (.int .i64 (j : Int))), (14, true, .v (vp b14)), (15, true, .v (.int .i64 (i : Int)))]) (fun (i : Nat) (A1 : Option Addr) (c1 : Nat) => [.row A1 (((layB (placesF a g.things) (g.things.take j)) ++ headB (g.things.getD j default) ++ codeB (g.things.getD j default)).length + 8 * i) c1 5 1 (((layB (placesF a g.things) (g.things.take j)) ++ headB (g.things.getD j default) ++ codeB (g.things.getD j default) ++ wordsB (placesF a g.things) ((g.things.getD j default).refs.take i)).map u8), .box b2 27 (gCells g), .box b14 24 (thingCells (g.things.getD j default))]) (fun (i : Nat) (A1 : Option Addr) (c1 : Nat) => i ≤ (g.things.getD j default).refs.length) (fun (i : Nat) (A1 : Option Addr) (c1 : Nat) => (g.things.getD j default).refs.length - i) 0 q.1 q.2 ?_ ?_ ?_ ?_
                    · exact Nat.zero_le _
                    · exact (Sub.cons rfl rfl (Sub.cons rfl rfl (Sub.cons rfl rfl (Sub.cons rfl rfl (Sub.cons rfl rfl (Sub.cons rfl rfl Sub.nil))))))
                    · simp [wordsB]
                    ·
                      intro i A1 c1 hinv
                      refine AW.seq ?_
                      refine AW.rseq ?_
                      refine AWL.y rfl rfl (B rfl) (Yv.move rfl (E rfl rfl)) ?_
                      refine AWL.y rfl rfl (B rfl) (Yv.fieldBox rfl fo_24_3 (E rfl rfl)) ?_
                      refine AWL.y rfl rfl (B rfl) (Yv.loadBox rfl ag_22 (i := 2) rfl (E rfl rfl) rfl) ?_
                      refine AWL.y rfl rfl (B rfl) (Yv.lenSl rfl so_22 (B rfl) (E rfl rfl) len_refs) ?_
                      refine AWL.y rfl rfl (B rfl) (Yv.lss rfl (E rfl rfl) (E rfl rfl)) ?_
                      refine AWL.nil ?_
                      refine AW.cond rfl (fun h7t => ?_) (fun h7f => ?_)
                      ·
                        try replace h7t := of_decide_eq_true h7t
                        refine AW.skip ?_
                        refine AW.seq ?_
                        refine AW.block ?_
                        refine AW.region ?_
                        refine AWL.y rfl rfl (B rfl) (Yv.move rfl (E rfl rfl)) ?_
                        refine AWL.y rfl rfl (B rfl) (Yv.fieldBox rfl fo_24_3 (E rfl rfl)) ?_
                        refine AWL.y rfl rfl (B rfl) (Yv.loadBox rfl ag_22 (i := 2) rfl (E rfl rfl) rfl) ?_
                        refine AWL.y rfl rfl (B rfl) (Yv.move rfl (E rfl rfl)) ?_
                        refine AWL.y rfl rfl (B rfl) (Yv.indexSl rfl ss_22 (B rfl) (E rfl rfl) (E rfl rfl) (fun hg => ⟨rfl, (by first | omega | (simp only [len_zu, len_refs, len_things, len_u8s]; omega))⟩)) ?_
                        refine AWL.y rfl rfl (B rfl) (Yv.loadRpA rfl ag_54 (E rfl rfl) (fun hg => ref_get (by omega))) ?_
                        refine AWL.y rfl rfl (B rfl) (Yv.move rfl (E rfl rfl)) ?_
                        refine AWL.callP rfl rfl (B rfl) rfl ce_48 (E rfl rfl) (evsC (E rfl rfl) (evsC (E rfl rfl) evs0)) (refValue48 ((g.things.getD j default).refs.getD i default) (placesF a g.things) (by rw [placesF_len]; exact hfit _ (getD_mem' (by omega)))) (fun t S h => h) ?_
                        refine AWL.callT rfl rfl (B rfl) rfl ce_47 (E rfl rfl) (evsC (E rfl rfl) evs0) (refWord47 (wordV (placesF a g.things) ((g.things.getD j default).refs.getD i default)) (wordV_range hplo _).1 (wordV_range hplo _).2) ?_
                        rintro t110 S110 rfl
                        have hl8 := leBytes_length 8 (wordV (placesF a g.things) ((g.things.getD j default).refs.getD i default))
                        refine AWL.appendRow (i := 0) rfl rfl (B rfl) rfl el_40 (B rfl) rfl (E rfl rfl) (SrcT.sl so_40 (B rfl) (E rfl rfl) len_u8s) (by unfold maxLen; omega) (by omega) (fun A111 c111 => ?_)
                        refine AWL.y rfl rfl (B rfl) (Yv.assign rfl (E rfl rfl)) ?_
                        refine AWL.nil ?_
                        refine AW.region ?_
                        refine AWL.y rfl rfl (B rfl) (Yv.move rfl (E rfl rfl)) ?_
                        refine AWL.y rfl rfl (B rfl) (Yv.addN_i64 rfl (E rfl rfl) (E rfl rfl) (fun hg => by omega)) ?_
                        refine AWL.y rfl rfl (B rfl) (Yv.assign rfl (E rfl rfl)) ?_
                        refine AWL.nil ?_
                        refine ⟨i + 1, A111, c111, by omega, by omega, Sub.cons rfl rfl (Sub.cons rfl rfl (Sub.cons rfl (congrArg (fun q => T.v (.slice A111 q c111)) (by omega)) (Sub.cons rfl rfl (Sub.cons rfl rfl (Sub.cons rfl (by simp) Sub.nil))))), ?_⟩
                        refine congrArg (fun q => [q, _, _]) (rowEq (by omega) ?_)
                        rw [wordsB_step (by omega)]
                        simp only [← List.append_assoc, List.map_append]
                      ·
                        try replace h7f := of_decide_eq_false h7f
                        refine AW.exit ?_
                        obtain rfl : i = (g.things.getD j default).refs.length := by omega
                        have hs3 : (layB (placesF a g.things) (g.things.take j)) ++ headB (g.things.getD j default) ++ codeB (g.things.getD j default) ++ wordsB (placesF a g.things) ((g.things.getD j default).refs.take (g.things.getD j default).refs.length) = layB (placesF a g.things) (g.things.take (j + 1)) := by
                          rw [List.take_length, layB_step (by omega), thingB]; simp only [List.append_assoc]
                        have hl3 : ((layB (placesF a g.things) (g.things.take j)) ++ headB (g.things.getD j default) ++ codeB (g.things.getD j default)).length + 8 * (g.things.getD j default).refs.length = (layB (placesF a g.things) (g.things.take (j + 1))).length := by
                          rw [← hs3, (List.length_append : ((layB (placesF a g.things) (g.things.take j)) ++ headB (g.things.getD j default) ++ codeB (g.things.getD j default) ++ wordsB (placesF a g.things) ((g.things.getD j default).refs.take (g.things.getD j default).refs.length)).length = _), wordsB_len, List.take_length]
                        refine AW.dropAt 2 ?_
                        refine AW.region ?_
                        refine AWL.y rfl rfl (B rfl) (Yv.move rfl (E rfl rfl)) ?_
                        refine AWL.y rfl rfl (B rfl) (Yv.addN_i64 rfl (E rfl rfl) (E rfl rfl) (fun hg => by omega)) ?_
                        refine AWL.y rfl rfl (B rfl) (Yv.assign rfl (E rfl rfl)) ?_
                        refine AWL.nil ?_
                        refine ⟨j + 1, A1, c1, by omega, by omega, Sub.cons rfl rfl (Sub.cons rfl rfl (Sub.cons rfl (congrArg (fun q => T.v (.slice A1 q c1)) hl3.symm) (Sub.cons rfl (by simp) Sub.nil))), ?_⟩
                        refine congrArg (fun q => [q, _]) (rowEq hl3 ?_)
                        rw [hs3]
            ·
              try replace h4f := of_decide_eq_false h4f
              refine AW.exit ?_
              obtain rfl : j = g.things.length := by omega
              refine AW.rseq ?_
              refine AWL.y rfl rfl (B rfl) (Yv.assign rfl (E rfl rfl)) ?_
              refine AWL.nil ?_
              refine AW.rowNil 29 1 ?_
              refine AW.seq ?_
              refine AW.rseq ?_
              refine AWL.y rfl rfl (B rfl) (Yv.assign rfl (E rfl rfl)) ?_
              refine AWL.nil ?_
              refine AW.block ?_
              refine AW.loop3 (fun (i : Nat) (A2 : Option Addr) (c2 : Nat) => [(2, true, .v (vp b2)), (8, true, .sl 1 ((placesF a g.things).map zu)), (12, true, .v (.slice A1 (layB (placesF a g.things) (g.things.take g.things.length)).length c1)), (16, true, .v (.slice A2 i c2)), (17, true, .v (.int .i64 (i : Int)))]) (fun (i : Nat) (A2 : Option Addr) (c2 : Nat) => [.row A1 (layB (placesF a g.things) (g.things.take g.things.length)).length c1 5 1 ((layB (placesF a g.things) (g.things.take g.things.length)).map u8), .box b2 27 (gCells g), .row A2 i c2 29 1 ((wordsF (placesF a g.things) (g.roots.take i)).map zu)]) (fun (i : Nat) (A2 : Option Addr) (c2 : Nat) => i ≤ g.roots.length) (fun (i : Nat) (A2 : Option Addr) (c2 : Nat) => g.roots.length - i) 0 none 0 ?_ ?_ ?_ ?_
              · exact Nat.zero_le _
              · exact (Sub.cons rfl rfl (Sub.cons rfl rfl (Sub.cons rfl rfl (Sub.cons rfl rfl (Sub.cons rfl rfl Sub.nil)))))
              · rfl
              ·
                intro i A2 c2 hinv
                refine AW.seq ?_
                refine AW.rseq ?_
                refine AWL.y rfl rfl (B rfl) (Yv.move rfl (E rfl rfl)) ?_
                refine AWL.y rfl rfl (B rfl) (Yv.fieldBox rfl fo_27_1 (E rfl rfl)) ?_
                refine AWL.y rfl rfl (B rfl) (Yv.loadBox rfl ag_22 (i := 1) rfl (E rfl rfl) rfl) ?_
                refine AWL.y rfl rfl (B rfl) (Yv.lenSl rfl so_22 (B rfl) (E rfl rfl) len_refs) ?_
                refine AWL.y rfl rfl (B rfl) (Yv.lss rfl (E rfl rfl) (E rfl rfl)) ?_
                refine AWL.nil ?_
                refine AW.cond rfl (fun h8t => ?_) (fun h8f => ?_)
                ·
                  try replace h8t := of_decide_eq_true h8t
                  refine AW.skip ?_
                  refine AW.seq ?_
                  refine AW.block ?_
                  refine AW.region ?_
                  refine AWL.y rfl rfl (B rfl) (Yv.move rfl (E rfl rfl)) ?_
                  refine AWL.y rfl rfl (B rfl) (Yv.fieldBox rfl fo_27_1 (E rfl rfl)) ?_
                  refine AWL.y rfl rfl (B rfl) (Yv.loadBox rfl ag_22 (i := 1) rfl (E rfl rfl) rfl) ?_
                  refine AWL.y rfl rfl (B rfl) (Yv.move rfl (E rfl rfl)) ?_
                  refine AWL.y rfl rfl (B rfl) (Yv.indexSl rfl ss_22 (B rfl) (E rfl rfl) (E rfl rfl) (fun hg => ⟨rfl, (by first | omega | (simp only [len_zu, len_refs, len_things, len_u8s]; omega))⟩)) ?_
                  refine AWL.y rfl rfl (B rfl) (Yv.loadRpA rfl ag_54 (E rfl rfl) (fun hg => ref_get (by omega))) ?_
                  refine AWL.y rfl rfl (B rfl) (Yv.move rfl (E rfl rfl)) ?_
                  refine AWL.callP rfl rfl (B rfl) rfl ce_48 (E rfl rfl) (evsC (E rfl rfl) (evsC (E rfl rfl) evs0)) (refValue48 (g.roots.getD i default) (placesF a g.things) (by rw [placesF_len]; exact check_roots hck _ (getD_mem' (by omega)))) (fun t S h => h) ?_
                  refine AWL.buildSlice1 rfl rfl (B rfl) rfl el_41 rfl (evsC (E rfl rfl) evs0) (Nat.le_of_ble_eq_true rfl) rfl rfl ?_
                  refine AWL.appendRow (i := 2) rfl rfl (B rfl) rfl el_41 (B rfl) rfl (E rfl rfl) (SrcT.sl so_41 (B rfl) (E rfl rfl) rfl) (by unfold maxLen; omega) (by omega) (fun A128 c128 => ?_)
                  refine AWL.y rfl rfl (B rfl) (Yv.assign rfl (E rfl rfl)) ?_
                  refine AWL.nil ?_
                  refine AW.region ?_
                  refine AWL.y rfl rfl (B rfl) (Yv.move rfl (E rfl rfl)) ?_
                  refine AWL.y rfl rfl (B rfl) (Yv.addN_i64 rfl (E rfl rfl) (E rfl rfl) (fun hg => by omega)) ?_
                  refine AWL.y rfl rfl (B rfl) (Yv.assign rfl (E rfl rfl)) ?_
                  refine AWL.nil ?_
                  refine ⟨i + 1, A128, c128, by omega, by omega, Sub.cons rfl rfl (Sub.cons rfl rfl (Sub.cons rfl rfl (Sub.cons rfl rfl (Sub.cons rfl (by simp) Sub.nil)))), ?_⟩
                  refine congrArg (fun q => [_, _, q]) (rowEq rfl ?_)
                  rw [wordsF_step (by omega), List.map_append]
                  rfl
                ·
                  try replace h8f := of_decide_eq_false h8f
                  refine AW.exit ?_
                  obtain rfl : i = g.roots.length := by omega
                  refine AW.freeze 0 12 rfl (B rfl) rfl ?_
                  refine AW.freeze 1 16 rfl (B rfl) rfl ?_
                  refine AW.rseq ?_
                  refine AWL.y rfl rfl (B rfl) (Yv.move rfl (E rfl rfl)) ?_
                  refine AWL.y rfl rfl (B rfl) (Yv.move rfl (E rfl rfl)) ?_
                  refine AWL.y rfl rfl (B rfl) (Yv.assign rfl (E rfl rfl)) ?_
                  refine AWL.y rfl rfl (B rfl) (Yv.assign rfl (E rfl rfl)) ?_
                  refine AWL.y rfl rfl (B rfl) (Yv.assign rfl (E rfl rfl)) ?_
                  refine AWL.nil ?_
                  refine AW.ret (retI (.tmp rfl (.tmp rfl (.tmp rfl .nil))) ?_)
                  rw [lay_ok hck (layOk_fine (by omega) hend), List.take_length, List.take_length]
                  rfl

set_option maxHeartbeats 400000 in
theorem list40 (l : List RefV) (hl : l.length ≤ 1099511627) :
    ACalls Try.prog 40 [refsT l] [] (fun t_ S => t_ = refsM l) := by
  refine ACalls.intro Try.func40 rfl Try.ntmps40 (Nat.le_of_ble_eq_true rfl) rfl fun X w0 => ?_
  refine AW.rseq ?_
  refine AWL.y rfl rfl (B rfl) (Yv.assign rfl (E rfl rfl)) ?_
  refine AWL.nil ?_
  refine AW.rseq ?_
  refine AWL.y rfl rfl (B rfl) (Yv.move rfl (E rfl rfl)) ?_
  refine AWL.y rfl rfl (B rfl) (Yv.lenSl rfl so_22 (B rfl) (E rfl rfl) len_refs) ?_
  refine AWL.y rfl rfl (B rfl) (Yv.addN_i64 rfl (E rfl rfl) (E rfl rfl) (fun hg => by omega)) ?_
  refine AWL.makeRow (n := l.length + 1) (c := l.length + 1) rfl rfl (B rfl) rfl el_22 (E rfl rfl) (E rfl rfl) (by omega) (by omega) (by unfold maxLen; omega) (fun A7 => ?_)
  refine AWL.y rfl rfl (B rfl) (Yv.assign rfl (E rfl rfl)) ?_
  refine AWL.nil ?_
  refine AW.rseq ?_
  refine AWL.y rfl rfl (B rfl) (Yv.move rfl (E rfl rfl)) ?_
  refine AWL.y rfl rfl (B rfl) (Yv.move rfl (E rfl rfl)) ?_
  refine AWL.copyRowK (i := 0) rfl rfl (B rfl) rfl el_22 (B rfl) rfl (E rfl rfl) (SrcT.sl so_22 (B rfl) (E rfl rfl) len_refs) (by omega) (by omega) ?_
  refine AWL.nil ?_
  refine AW.rseq ?_
  refine AWL.y rfl rfl (B rfl) (Yv.move rfl (E rfl rfl)) ?_
  refine AWL.y rfl rfl (B rfl) (Yv.move rfl (E rfl rfl)) ?_
  refine AWL.y rfl rfl (B rfl) (Yv.lenSl rfl so_22 (B rfl) (E rfl rfl) len_refs) ?_
  refine AWL.y rfl rfl (B rfl) (Yv.indexRow (j := l.length) rfl ss_22 (i := 0) rfl (E rfl rfl) (E rfl rfl) (fun hg => ⟨rfl, by omega⟩)) ?_
  refine AWL.y rfl rfl (B rfl) (Yv.fieldEp rfl fo_54_1 (E rfl rfl)) ?_
  refine AWL.storeEp1 (i := 0) rfl rfl rfl ag_2 rfl (E rfl rfl) (E rfl rfl) rfl rfl (by rw [List.length_append, List.length_drop, len_refs, List.length_flatten]; simp; omega) ?_
  refine AWL.nil ?_
  refine AW.eqS (congrArg (fun q => [q]) (rowEq rfl (mark_cells l))) ?_
  refine AW.rseq ?_
  refine AWL.y rfl rfl (B rfl) (Yv.move rfl (E rfl rfl)) ?_
  refine AWL.y rfl rfl (B rfl) (Yv.move rfl (E rfl rfl)) ?_
  refine AWL.y rfl rfl (B rfl) (Yv.lenSl rfl so_22 (B rfl) (E rfl rfl) len_refs) ?_
  refine AWL.y rfl rfl (B rfl) (Yv.sliceRow0 (m := l.length) (i := 0) rfl ss_22 rfl (E rfl rfl) (Bound.some_ (E rfl rfl) (fun _ => rfl)) (fun hg => by omega)) ?_
  refine AWL.freezeSp 0 19 rfl (B rfl) (by omega) (by omega) rfl ?_
  refine AWL.y rfl rfl (B rfl) (Yv.assign rfl (E rfl rfl)) ?_
  refine AWL.nil ?_
  refine AW.ret (retI (.tmp rfl .nil) ?_)
  rfl

set_option maxHeartbeats 400000 in
theorem own16 (g : Graph) (hgr : GraphOk 1099511627 g) :
    ACalls Try.prog 16 [graphT g] [] (fun t_ S => t_ = graphM g) := by
  have hb1 := hgr.tl
  have hb2 := hgr.rl
  refine ACalls.intro Try.func16 rfl Try.ntmps16 (Nat.le_of_ble_eq_true rfl) rfl fun X w0 => ?_
  refine AW.rseq ?_
  refine AWL.boxOp rfl rfl (B rfl) rfl (E rfl rfl) rfl (fun b1 => ?_)
  refine AWL.allocOp rfl rfl (B rfl) rfl zc_27 (fun b2 => ?_)
  refine AWL.nil ?_
  refine AW.rseq ?_
  refine AWL.y rfl rfl (B rfl) (Yv.fieldBox rfl fo_27_1 (E rfl rfl)) ?_
  refine AWL.y rfl rfl (B rfl) (Yv.loadBox rfl ag_22 (i := 0) rfl (E rfl rfl) rfl) ?_
  refine AWL.callT rfl rfl (B rfl) rfl ce_40 (E rfl rfl) (evsC (E rfl rfl) evs0) (list40 g.roots hb2) ?_
  rintro t8 S8 rfl
  refine AWL.y rfl rfl (B rfl) (Yv.buildS rfl sh_27 (evpC (E rfl rfl) evp0) (fun _ => rfl)) ?_
  refine AWL.allocOp rfl rfl (B rfl) rfl zc_27 (fun b3 => ?_)
  refine AWL.storeBox (i := 2) rfl rfl rfl ag_27 rfl (E rfl rfl) (E rfl rfl) rfl rfl (Nat.le_of_ble_eq_true rfl) ?_
  refine AWL.nil ?_
  refine AW.rowNil 24 4 ?_
  refine AW.seq ?_
  refine AW.rseq ?_
  refine AWL.y rfl rfl (B rfl) (Yv.assign rfl (E rfl rfl)) ?_
  refine AWL.nil ?_
  refine AW.block ?_
  refine AW.loop3 (fun (j : Nat) (A : Option Addr) (c : Nat) => [(1, true, .v (vp b1)), (2, true, .v (vp b2)), (3, true, .v (vp b3)), (4, true, .v (.int .i64 (j : Int)))]) (fun (j : Nat) (A : Option Addr) (c : Nat) => [.box b1 27 (gCells g), .box b2 27 [.v (.slice none 0 0), .v (.slice none 0 0)], .box b3 27 [.v (.slice A j c), refsM g.roots], .row A j c 24 4 ((g.things.take j).flatMap thingMCells)]) (fun (j : Nat) (A : Option Addr) (c : Nat) => j ≤ g.things.length) (fun (j : Nat) (A : Option Addr) (c : Nat) => g.things.length - j) 0 none 0 ?_ ?_ ?_ ?_
  · exact Nat.zero_le _
  · exact (Sub.cons rfl rfl (Sub.cons rfl rfl (Sub.cons rfl rfl (Sub.cons rfl rfl Sub.nil))))
  · rfl
  ·
    intro j A c hinv
    refine AW.seq ?_
    refine AW.rseq ?_
    refine AWL.y rfl rfl (B rfl) (Yv.move rfl (E rfl rfl)) ?_
    refine AWL.y rfl rfl (B rfl) (Yv.fieldBox rfl fo_27_0 (E rfl rfl)) ?_
    refine AWL.y rfl rfl (B rfl) (Yv.loadBox rfl ag_25 (i := 0) rfl (E rfl rfl) rfl) ?_
    refine AWL.y rfl rfl (B rfl) (Yv.lenSl rfl so_25 (B rfl) (E rfl rfl) len_things) ?_
    refine AWL.y rfl rfl (B rfl) (Yv.lss rfl (E rfl rfl) (E rfl rfl)) ?_
    refine AWL.nil ?_
    refine AW.cond rfl (fun h0t => ?_) (fun h0f => ?_)
    ·
      try replace h0t := of_decide_eq_true h0t
      have htj := hgr.ts (g.things.getD j default) (getD_mem' (by omega))
      refine AW.skip ?_
      refine AW.seq ?_
      refine AW.block ?_
      refine AW.rseq ?_
      refine AWL.y rfl rfl (B rfl) (Yv.fieldBox rfl fo_27_0 (E rfl rfl)) ?_
      refine AWL.y rfl rfl (B rfl) (Yv.loadBox rfl ag_25 (i := 0) rfl (E rfl rfl) rfl) ?_
      refine AWL.y rfl rfl (B rfl) (Yv.move rfl (E rfl rfl)) ?_
      refine AWL.y rfl rfl (B rfl) (Yv.indexSl rfl ss_25 (B rfl) (E rfl rfl) (E rfl rfl) (fun hg => ⟨rfl, (by first | omega | (simp only [len_refs, len_things, len_u8s]; omega))⟩)) ?_
      refine AWL.y rfl rfl (B rfl) (Yv.loadRpA rfl ag_24 (E rfl rfl) (fun hg => thing_get (by omega))) ?_
      refine AWL.allocOp rfl rfl (B rfl) rfl zc_24 (fun b5 => ?_)
      refine AWL.storeBox (i := 4) rfl rfl rfl ag_24 rfl (E rfl rfl) (E rfl rfl) rfl rfl (Nat.le_of_ble_eq_true rfl) ?_
      refine AWL.nil ?_
      refine AW.rseq ?_
      refine AWL.y rfl rfl (B rfl) (Yv.fieldBox rfl fo_24_3 (E rfl rfl)) ?_
      refine AWL.y rfl rfl (B rfl) (Yv.loadBox rfl ag_22 (i := 4) rfl (E rfl rfl) rfl) ?_
      refine AWL.callT rfl rfl (B rfl) rfl ce_40 (E rfl rfl) (evsC (E rfl rfl) evs0) (list40 (g.things.getD j default).refs htj.rl) ?_
      rintro t24 S24 rfl
      refine AWL.y rfl rfl (B rfl) (Yv.fieldBox rfl fo_24_3 (E rfl rfl)) ?_
      refine AWL.storeBox (i := 4) rfl rfl rfl ag_22 rfl (E rfl rfl) (E rfl rfl) rfl rfl (Nat.le_of_ble_eq_true rfl) ?_
      refine AWL.nil ?_
      refine AW.region ?_
      refine AWL.y rfl rfl (B rfl) (Yv.fieldBox rfl fo_27_0 (E rfl rfl)) ?_
      refine AWL.y rfl rfl (B rfl) (Yv.loadBox rfl ag_25 (i := 2) rfl (E rfl rfl) rfl) ?_
      refine AWL.y rfl rfl (B rfl) (Yv.loadBoxA rfl ag_24 (i := 4) rfl (E rfl rfl) rfl rfl) ?_
      refine AWL.buildSliceE rfl rfl (B rfl) rfl el_25 (B rfl) rfl (evsC (E rfl rfl) evs0) (Nat.le_of_ble_eq_true rfl) rfl rfl ?_
      refine AWL.appendRow (i := 3) rfl rfl (B rfl) rfl el_25 (B rfl) rfl (E rfl rfl) (SrcT.sl so_25 (B rfl) (E rfl rfl) rfl) (by unfold maxLen; omega) (by omega) (fun A30 c30 => ?_)
      refine AWL.y rfl rfl (B rfl) (Yv.fieldBox rfl fo_27_0 (E rfl rfl)) ?_
      refine AWL.storeBox (i := 2) rfl rfl rfl ag_25 rfl (E rfl rfl) (E rfl rfl) rfl rfl (Nat.le_of_ble_eq_true rfl) ?_
      refine AWL.nil ?_
      refine AW.dropAt 4 ?_
      refine AW.region ?_
      refine AWL.y rfl rfl (B rfl) (Yv.move rfl (E rfl rfl)) ?_
      refine AWL.y rfl rfl (B rfl) (Yv.addN_i64 rfl (E rfl rfl) (E rfl rfl) (fun hg => by omega)) ?_
      refine AWL.y rfl rfl (B rfl) (Yv.assign rfl (E rfl rfl)) ?_
      refine AWL.nil ?_
      refine ⟨j + 1, A30, c30, by omega, by omega, Sub.cons rfl rfl (Sub.cons rfl rfl (Sub.cons rfl rfl (Sub.cons rfl (by simp) Sub.nil))), ?_⟩
      rw [takeM_step (by omega)]; rfl
    ·
      try replace h0f := of_decide_eq_false h0f
      obtain rfl : j = g.things.length := by omega
      refine AW.exit ?_
      refine AW.freezeCell 3 2 0 rfl (B rfl) rfl rfl ?_
      refine AW.rseq ?_
      refine AWL.y rfl rfl (B rfl) (Yv.loadBoxA rfl ag_27 (i := 2) rfl (E rfl rfl) rfl rfl) ?_
      refine AWL.storeBox (i := 1) rfl rfl rfl ag_27 rfl (E rfl rfl) (E rfl rfl) rfl rfl (Nat.le_of_ble_eq_true rfl) ?_
      refine AWL.nil ?_
      refine AW.ret (retI (.cellA (i := 1) rfl ag_27 rfl rfl rfl .nil) ?_)
      rw [List.take_length]; rfl

set_option maxHeartbeats 400000 in
theorem kept23 (g h : Graph) (hgr : GraphOk 1099511627 g) (hhr : GraphOk 1099511627 h) :
    ACalls Try.prog 23 [graphM g, graphT h] [] fun t_ S => t_ = .v (.bool (graphEq g h)) := by
  have hb1 := hgr.tl
  have hb2 := hgr.rl
  refine ACalls.intro Try.func23 rfl Try.ntmps23 (Nat.le_of_ble_eq_true rfl) rfl fun X w0 => ?_
  refine AW.rseq ?_
  refine AWL.boxOp rfl rfl (B rfl) rfl (E rfl rfl) rfl (fun b2 => ?_)
  refine AWL.boxOp rfl rfl (B rfl) rfl (E rfl rfl) rfl (fun b3 => ?_)
  refine AWL.y rfl rfl (B rfl) (Yv.assign rfl (E rfl rfl)) ?_
  refine AWL.nil ?_
  refine AW.seq ?_
  refine AW.rseq ?_
  refine AWL.y rfl rfl (B rfl) (Yv.assign rfl (E rfl rfl)) ?_
  refine AWL.nil ?_
  refine AW.block ?_
  refine AW.loop (fun (j : Nat) => [(2, true, .v (vp b2)), (3, true, .v (vp b3)), (5, true, .v (.int .i64 (j : Int)))]) (fun (j : Nat) => [.box b2 27 (gMCells g), .box b3 27 (gCells h)]) (fun (j : Nat) => j ≤ g.things.length) (fun (j : Nat) => g.things.length - j) 0 ?_ ?_ ?_ ?_
  · exact Nat.zero_le _
  · exact (Sub.cons rfl rfl (Sub.cons rfl rfl (Sub.cons rfl rfl Sub.nil)))
  · rfl
  ·
    intro j hinv
    refine AW.seq ?_
    refine AW.rseq ?_
    refine AWL.y rfl rfl (B rfl) (Yv.move rfl (E rfl rfl)) ?_
    refine AWL.y rfl rfl (B rfl) (Yv.fieldBox rfl fo_27_0 (E rfl rfl)) ?_
    refine AWL.y rfl rfl (B rfl) (Yv.loadBox rfl ag_25 (i := 0) rfl (E rfl rfl) rfl) ?_
    refine AWL.y rfl rfl (B rfl) (Yv.lenSl rfl so_25 (B rfl) (E rfl rfl) len_thingsM) ?_
    refine AWL.y rfl rfl (B rfl) (Yv.lss rfl (E rfl rfl) (E rfl rfl)) ?_
    refine AWL.nil ?_
    refine AW.cond rfl (fun h0t => ?_) (fun h0f => ?_)
    ·
      try replace h0t := of_decide_eq_true h0t
      have htj := hgr.ts (g.things.getD j default) (getD_mem' (by omega))
      have hb3 := htj.rl
      refine AW.skip ?_
      refine AW.seq ?_
      refine AW.block ?_
      refine AW.rseq ?_
      refine AWL.y rfl rfl (B rfl) (Yv.fieldBox rfl fo_27_0 (E rfl rfl)) ?_
      refine AWL.y rfl rfl (B rfl) (Yv.loadBox rfl ag_25 (i := 0) rfl (E rfl rfl) rfl) ?_
      refine AWL.y rfl rfl (B rfl) (Yv.move rfl (E rfl rfl)) ?_
      refine AWL.y rfl rfl (B rfl) (Yv.indexSl rfl ss_25 (B rfl) (E rfl rfl) (E rfl rfl) (fun hg => ⟨rfl, (by first | omega | (simp only [len_thingsM, len_refs, len_things, len_u8s]; omega))⟩)) ?_
      refine AWL.y rfl rfl (B rfl) (Yv.fieldRp rfl fo_24_3 (E rfl rfl)) ?_
      refine AWL.y rfl rfl (B rfl) (Yv.loadRp rfl ag_22 (E rfl rfl) (fun hg => thingM_refs (by omega))) ?_
      refine AWL.y rfl rfl (B rfl) (Yv.assign rfl (E rfl rfl)) ?_
      refine AWL.nil ?_
      refine AW.rseq ?_
      refine AWL.y rfl rfl (B rfl) (Yv.move rfl (E rfl rfl)) ?_
      refine AWL.y rfl rfl (B rfl) (Yv.move rfl (E rfl rfl)) ?_
      refine AWL.y rfl rfl (B rfl) (Yv.lenSp rfl so_22 (E rfl rfl)) ?_
      refine AWL.y rfl rfl (B rfl) (Yv.addN_i64 rfl (E rfl rfl) (E rfl rfl) (fun hg => by omega)) ?_
      refine AWL.y rfl rfl (B rfl) (Yv.sliceSp (hi := (g.things.getD j default).refs.length + 1) rfl ss_22 (B rfl) (E rfl rfl) (Bound.some_ (E rfl rfl) (fun _ => rfl)) (fun hg => by rw [mark_len]; omega)) ?_
      refine AWL.y rfl rfl (B rfl) (Yv.move rfl (E rfl rfl)) ?_
      refine AWL.y rfl rfl (B rfl) (Yv.lenSp rfl so_22 (E rfl rfl)) ?_
      refine AWL.y rfl rfl (B rfl) (Yv.indexSl (j := (g.things.getD j default).refs.length) rfl ss_22 (B rfl) (E rfl rfl) (E rfl rfl) (fun hg => ⟨rfl, by rw [List.length_take, mark_len]; omega⟩)) ?_
      refine AWL.y rfl rfl (B rfl) (Yv.fieldRp rfl fo_54_1 (E rfl rfl)) ?_
      refine AWL.y rfl rfl (B rfl) (Yv.loadRp rfl ag_2 (E rfl rfl) (fun hg => mark_at _)) ?_
      refine AWL.y rfl rfl (B rfl) (Yv.neq rfl (E rfl rfl) (E rfl rfl)) ?_
      refine AWL.nil ?_
      refine AW.cond rfl (fun h1t => ?_) (fun h1f => ?_)
      ·
        try replace h1t := of_decide_eq_true h1t
        simp at h1t
      ·
        try replace h1f := of_decide_eq_false h1f
        refine AW.skip ?_
        refine AW.region ?_
        refine AWL.y rfl rfl (B rfl) (Yv.move rfl (E rfl rfl)) ?_
        refine AWL.y rfl rfl (B rfl) (Yv.addN_i64 rfl (E rfl rfl) (E rfl rfl) (fun hg => by omega)) ?_
        refine AWL.y rfl rfl (B rfl) (Yv.assign rfl (E rfl rfl)) ?_
        refine AWL.nil ?_
        refine ⟨j + 1, by omega, by omega, Sub.cons rfl rfl (Sub.cons rfl rfl (Sub.cons rfl (by simp) Sub.nil)), rfl⟩
    ·
      try replace h0f := of_decide_eq_false h0f
      refine AW.exit ?_
      refine AW.rseq ?_
      refine AWL.y rfl rfl (B rfl) (Yv.fieldBox rfl fo_27_1 (E rfl rfl)) ?_
      refine AWL.y rfl rfl (B rfl) (Yv.loadBox rfl ag_22 (i := 0) rfl (E rfl rfl) rfl) ?_
      refine AWL.y rfl rfl (B rfl) (Yv.assign rfl (E rfl rfl)) ?_
      refine AWL.nil ?_
      refine AW.rseq ?_
      refine AWL.y rfl rfl (B rfl) (Yv.move rfl (E rfl rfl)) ?_
      refine AWL.y rfl rfl (B rfl) (Yv.move rfl (E rfl rfl)) ?_
      refine AWL.y rfl rfl (B rfl) (Yv.lenSp rfl so_22 (E rfl rfl)) ?_
      refine AWL.y rfl rfl (B rfl) (Yv.addN_i64 rfl (E rfl rfl) (E rfl rfl) (fun hg => by omega)) ?_
      refine AWL.y rfl rfl (B rfl) (Yv.sliceSp (hi := g.roots.length + 1) rfl ss_22 (B rfl) (E rfl rfl) (Bound.some_ (E rfl rfl) (fun _ => rfl)) (fun hg => by rw [mark_len]; omega)) ?_
      refine AWL.y rfl rfl (B rfl) (Yv.move rfl (E rfl rfl)) ?_
      refine AWL.y rfl rfl (B rfl) (Yv.lenSp rfl so_22 (E rfl rfl)) ?_
      refine AWL.y rfl rfl (B rfl) (Yv.indexSl (j := g.roots.length) rfl ss_22 (B rfl) (E rfl rfl) (E rfl rfl) (fun hg => ⟨rfl, by rw [List.length_take, mark_len]; omega⟩)) ?_
      refine AWL.y rfl rfl (B rfl) (Yv.fieldRp rfl fo_54_1 (E rfl rfl)) ?_
      refine AWL.y rfl rfl (B rfl) (Yv.loadRp rfl ag_2 (E rfl rfl) (fun hg => mark_at _)) ?_
      refine AWL.y rfl rfl (B rfl) (Yv.eql rfl (E rfl rfl) (E rfl rfl)) ?_
      refine AWL.y rfl rfl (B rfl) (Yv.move rfl (E rfl rfl)) ?_
      refine AWL.ygT rfl rfl rfl rfl (B rfl) (Yv.loadBoxA rfl ag_27 (i := 0) rfl (E rfl rfl) rfl rfl) ?_
      refine AWL.retype (k := 46) (t' := graphT g) rfl (graphM_le g) ?_
      refine AWL.ygT rfl rfl rfl rfl (B rfl) (Yv.loadBoxA rfl ag_27 (i := 1) rfl (E rfl rfl) rfl rfl) ?_
      refine AWL.callPgT rfl rfl rfl rfl (B rfl) rfl ce_19 (E rfl rfl) (evsC (Eg rfl rfl id) (evsC (Eg rfl rfl id) evs0)) (fun hg => refEqual19 g h hgr hhr) (fun t S h => h) ?_
      refine AWL.y rfl rfl (B rfl) (Yv.pickAnd rfl (E rfl rfl) (Eg rfl rfl id)) ?_
      refine AWL.y rfl rfl (B rfl) (Yv.assign rfl (E rfl rfl)) ?_
      refine AWL.nil ?_
      refine AW.ret (retI (.tmp rfl .nil) ?_)
      rfl

set_option maxHeartbeats 400000 in
theorem HeapLays5 (g : Graph) (a : Int) (hg : GraphOk 1048576 g) (ha0 : 0 ≤ a) (ha1 : a ≤ 18446744073709551615) (hts : totalF g.things ≤ 16777216) :
    ACalls Try.prog 5 [graphT g, .v (.int .u64 a)] [] (fun t_ S => t_ = .v (.bool true)) := by
  have hgr := graph_up (by decide) hg
  have hb1 := hg.tl
  have hb2 := hg.rl
  have hwl : (layWs g a).length ≤ 1048576 := by
    unfold layWs
    split
    · rw [wordsF, List.length_map]; omega
    · simp
  refine ACalls.intro Try.func5 rfl Try.ntmps5 (Nat.le_of_ble_eq_true rfl) rfl fun X w0 => ?_
  refine AW.rseq ?_
  refine AWL.boxOp rfl rfl (B rfl) rfl (E rfl rfl) rfl (fun b2 => ?_)
  refine AWL.y rfl rfl (B rfl) (Yv.assign rfl (E rfl rfl)) ?_
  refine AWL.nil ?_
  refine AW.rseq ?_
  refine AWL.y rfl rfl (B rfl) (Yv.loadBoxA rfl ag_27 (i := 0) rfl (E rfl rfl) rfl rfl) ?_
  refine AWL.callT rfl rfl (B rfl) rfl ce_16 (E rfl rfl) (evsC (E rfl rfl) evs0) (own16 g hgr) ?_
  rintro t14 S14 rfl
  refine AWL.allocOp rfl rfl (B rfl) rfl zc_27 (fun b5 => ?_)
  refine AWL.storeBox (i := 1) rfl rfl rfl ag_27 rfl (E rfl rfl) (E rfl rfl) rfl rfl (Nat.le_of_ble_eq_true rfl) ?_
  refine AWL.nil ?_
  refine AW.rseq ?_
  refine AWL.y rfl rfl (B rfl) (Yv.loadBoxA rfl ag_27 (i := 0) rfl (E rfl rfl) rfl rfl) ?_
  refine AWL.y rfl rfl (B rfl) (Yv.move rfl (E rfl rfl)) ?_
  refine AWL.callT rfl rfl (B rfl) rfl ce_24 (E rfl rfl) (evsC (E rfl rfl) (evsC (E rfl rfl) evs0)) (refLay24 g a hgr ha0 ha1 (by omega)) ?_
  rintro t18 S18 rfl
  refine AWL.y rfl rfl (B rfl) (Yv.move rfl (E rfl rfl)) ?_
  refine AWL.y rfl rfl (B rfl) (Yv.extract rfl (E rfl rfl) rfl) ?_
  refine AWL.y rfl rfl (B rfl) (Yv.extract rfl (E rfl rfl) rfl) ?_
  refine AWL.y rfl rfl (B rfl) (Yv.extract rfl (E rfl rfl) rfl) ?_
  refine AWL.y rfl rfl (B rfl) (Yv.assign rfl (E rfl rfl)) ?_
  refine AWL.y rfl rfl (B rfl) (Yv.assign rfl (E rfl rfl)) ?_
  refine AWL.y rfl rfl (B rfl) (Yv.assign rfl (E rfl rfl)) ?_
  refine AWL.nil ?_
  refine AW.rseq ?_
  refine AWL.y rfl rfl (B rfl) (Yv.loadBoxA rfl ag_27 (i := 1) rfl (E rfl rfl) rfl rfl) ?_
  refine AWL.retype (k := 23) (t' := graphT g) rfl (graphM_le g) ?_
  refine AWL.y rfl rfl (B rfl) (Yv.move rfl (E rfl rfl)) ?_
  refine AWL.callT rfl rfl (B rfl) rfl ce_25 (E rfl rfl) (evsC (E rfl rfl) (evsC (E rfl rfl) evs0)) (Lay25 g a hgr ha0 ha1 (by omega)) ?_
  rintro t25 S25 rfl
  refine AWL.y rfl rfl (B rfl) (Yv.move rfl (E rfl rfl)) ?_
  refine AWL.y rfl rfl (B rfl) (Yv.extract rfl (E rfl rfl) rfl) ?_
  refine AWL.y rfl rfl (B rfl) (Yv.extract rfl (E rfl rfl) rfl) ?_
  refine AWL.y rfl rfl (B rfl) (Yv.extract rfl (E rfl rfl) rfl) ?_
  refine AWL.y rfl rfl (B rfl) (Yv.assign rfl (E rfl rfl)) ?_
  refine AWL.y rfl rfl (B rfl) (Yv.assign rfl (E rfl rfl)) ?_
  refine AWL.y rfl rfl (B rfl) (Yv.assign rfl (E rfl rfl)) ?_
  refine AWL.nil ?_
  refine AW.seq ?_
  refine AW.rseq ?_
  refine AWL.y rfl rfl (B rfl) (Yv.move rfl (E rfl rfl)) ?_
  refine AWL.y rfl rfl (B rfl) (Yv.move rfl (E rfl rfl)) ?_
  refine AWL.y rfl rfl (B rfl) (Yv.neq rfl (E rfl rfl) (E rfl rfl)) ?_
  refine AWL.y rfl rfl (B rfl) (Yv.move rfl (E rfl rfl)) ?_
  refine AWL.ygF rfl rfl rfl rfl (B rfl) (Yv.move rfl (E rfl rfl)) ?_
  refine AWL.ygF rfl rfl rfl rfl (B rfl) (Yv.bytesStr rfl by_40 st_9 (Eg rfl rfl id)) ?_
  refine AWL.ygF rfl rfl rfl rfl (B rfl) (Yv.move rfl (E rfl rfl)) ?_
  refine AWL.ygF rfl rfl rfl rfl (B rfl) (Yv.bytesStr rfl by_40 st_9 (Eg rfl rfl id)) ?_
  refine AWL.ygF rfl rfl rfl rfl (B rfl) (Yv.neqL rfl (Eg rfl rfl id) (Eg rfl rfl id)) ?_
  refine AWL.y rfl rfl (B rfl) (Yv.pickOr (t := .const (.bool true)) rfl (E rfl rfl) (Eg rfl rfl id)) ?_
  refine AWL.y rfl rfl (B rfl) (Yv.move rfl (E rfl rfl)) ?_
  refine AWL.ygF rfl rfl rfl rfl (B rfl) (Yv.move rfl (E rfl rfl)) ?_
  refine AWL.ygF rfl rfl rfl rfl (B rfl) (Yv.lenSl rfl so_41 (B rfl) (Eg rfl rfl id) len_zu) ?_
  refine AWL.ygF rfl rfl rfl rfl (B rfl) (Yv.move rfl (E rfl rfl)) ?_
  refine AWL.ygF rfl rfl rfl rfl (B rfl) (Yv.lenSl rfl so_41 (B rfl) (Eg rfl rfl id) len_zu) ?_
  refine AWL.ygF rfl rfl rfl rfl (B rfl) (Yv.neq rfl (Eg rfl rfl id) (Eg rfl rfl id)) ?_
  refine AWL.y rfl rfl (B rfl) (Yv.pickOr (t := .const (.bool true)) rfl (E rfl rfl) (Eg rfl rfl id)) ?_
  refine AWL.nil ?_
  refine AW.cond rfl (fun h0t => ?_) (fun h0f => ?_)
  ·
    try replace h0t := of_decide_eq_true h0t
    simp at h0t
  ·
    try replace h0f := of_decide_eq_false h0f
    refine AW.skip ?_
    refine AW.seq ?_
    refine AW.rseq ?_
    refine AWL.y rfl rfl (B rfl) (Yv.assign rfl (E rfl rfl)) ?_
    refine AWL.nil ?_
    refine AW.block ?_
    refine AW.loop (fun (j : Nat) => [(2, true, .v (vp b2)), (5, true, .v (vp b5)), (7, true, .sl 1 ((layWs g a).map zu)), (10, true, .sl 1 ((layWs g a).map zu)), (12, true, .v (.int .i64 (j : Int)))]) (fun (j : Nat) => [.box b2 27 (gCells g), .box b5 27 (gMCells g)]) (fun (j : Nat) => j ≤ (layWs g a).length) (fun (j : Nat) => (layWs g a).length - j) 0 ?_ ?_ ?_ ?_
    · exact Nat.zero_le _
    · exact (Sub.cons rfl rfl (Sub.cons rfl rfl (Sub.cons rfl rfl (Sub.cons rfl rfl (Sub.cons rfl rfl Sub.nil)))))
    · rfl
    ·
      intro j hinv
      refine AW.seq ?_
      refine AW.rseq ?_
      refine AWL.y rfl rfl (B rfl) (Yv.move rfl (E rfl rfl)) ?_
      refine AWL.y rfl rfl (B rfl) (Yv.move rfl (E rfl rfl)) ?_
      refine AWL.y rfl rfl (B rfl) (Yv.lenSl rfl so_41 (B rfl) (E rfl rfl) len_zu) ?_
      refine AWL.y rfl rfl (B rfl) (Yv.lss rfl (E rfl rfl) (E rfl rfl)) ?_
      refine AWL.nil ?_
      refine AW.cond rfl (fun h1t => ?_) (fun h1f => ?_)
      ·
        try replace h1t := of_decide_eq_true h1t
        refine AW.skip ?_
        refine AW.seq ?_
        refine AW.block ?_
        refine AW.rseqQ rfl (by kernel_rfl) ?_
        refine AWQ.y rfl rfl (B rfl) (Yv.move rfl (E rfl rfl)) ?_
        refine AWQ.y rfl rfl (B rfl) (Yv.move rfl (E rfl rfl)) ?_
        refine AWQ.y rfl rfl (B rfl) (Yv.indexSl rfl ss_41 (B rfl) (E rfl rfl) (E rfl rfl) (fun hg => ⟨rfl, (by first | omega | (simp only [len_zu, len_refs, len_things, len_u8s]; omega))⟩)) ?_
        refine AWQ.y rfl rfl (B rfl) (Yv.loadRp rfl ag_29 (E rfl rfl) (fun hg => zu_get (by omega))) ?_
        refine AWQ.y rfl rfl (B rfl) (Yv.move rfl (E rfl rfl)) ?_
        refine AWQ.y rfl rfl (B rfl) (Yv.move rfl (E rfl rfl)) ?_
        refine AWQ.y rfl rfl (B rfl) (Yv.indexSl rfl ss_41 (B rfl) (E rfl rfl) (E rfl rfl) (fun hg => ⟨rfl, (by first | omega | (simp only [len_zu, len_refs, len_things, len_u8s]; omega))⟩)) ?_
        refine AWQ.y rfl rfl (B rfl) (Yv.loadRp rfl ag_29 (E rfl rfl) (fun hg => zu_get (by omega))) ?_
        refine AWQ.y rfl rfl (B rfl) (Yv.neq rfl (E rfl rfl) (E rfl rfl)) ?_
        refine AWQ.nil ?_
        refine AW.cond rfl (fun h2t => ?_) (fun h2f => ?_)
        ·
          try replace h2t := of_decide_eq_true h2t
          simp at h2t
        ·
          try replace h2f := of_decide_eq_false h2f
          refine AW.skip ?_
          refine AW.region ?_
          refine AWL.y rfl rfl (B rfl) (Yv.move rfl (E rfl rfl)) ?_
          refine AWL.y rfl rfl (B rfl) (Yv.addN_i64 rfl (E rfl rfl) (E rfl rfl) (fun hg => by omega)) ?_
          refine AWL.y rfl rfl (B rfl) (Yv.assign rfl (E rfl rfl)) ?_
          refine AWL.nil ?_
          refine ⟨j + 1, by omega, by omega, Sub.cons rfl rfl (Sub.cons rfl rfl (Sub.cons rfl rfl (Sub.cons rfl rfl (Sub.cons rfl (by simp) Sub.nil)))), rfl⟩
      ·
        try replace h1f := of_decide_eq_false h1f
        refine AW.exit ?_
        refine AW.rseq ?_
        refine AWL.y rfl rfl (B rfl) (Yv.loadBoxA rfl ag_27 (i := 1) rfl (E rfl rfl) rfl rfl) ?_
        refine AWL.y rfl rfl (B rfl) (Yv.loadBoxA rfl ag_27 (i := 0) rfl (E rfl rfl) rfl rfl) ?_
        refine AWL.callP rfl rfl (B rfl) rfl ce_23 (E rfl rfl) (evsC (E rfl rfl) (evsC (E rfl rfl) evs0)) (kept23 g g hgr hgr) (fun t S h => h) ?_
        refine AWL.y rfl rfl (B rfl) (Yv.move rfl (E rfl rfl)) ?_
        refine AWL.callPgT rfl rfl rfl rfl (B rfl) rfl ce_15 (E rfl rfl) evs0 (fun hg => known15) (fun t S h => h) ?_
        refine AWL.y rfl rfl (B rfl) (Yv.pickAnd rfl (E rfl rfl) (Eg rfl rfl id)) ?_
        refine AWL.y rfl rfl (B rfl) (Yv.assign rfl (E rfl rfl)) ?_
        refine AWL.nil ?_
        refine AW.ret (retI (.tmp rfl .nil) ?_)
        rw [graphEq_iff.2 rfl]; rfl

end Go.Proofs.Ytbndnmmceccbkaa
