/-
  CONTRACTS of the heap package: graphs laid; walked by program.
-/
import Derived.Test.YtbndnmmceccbkaaWk5
import Derived.Test.YtbndnmmceccbkaaLay
namespace Go.Proofs.Ytbndnmmceccbkaa
open Go Go.RowKit
set_option linter.unusedVariables false

set_option maxHeartbeats 400000 in
theorem put50 (bs : List UInt8) (A : Option Addr) (m c : Nat) (x : Int) (h0 : 0 ≤ x) (h1 : x ≤ 18446744073709551615) (h2 : m ≤ 140737488355000) :
    ACalls Try.prog 50 [.v (.slice A m c), .v (.int .u64 x)] [.row A m c 5 1 (bs.map u8)] fun t S => ∃ A' c', t = .v (.slice A' (m + 8) c') ∧ S = [.row A' (m + 8) c' 5 1 ((bs ++ leBytes 8 x).map u8)] := by
  refine ACalls.intro Try.func50 rfl Try.ntmps50 (Nat.le_of_ble_eq_true rfl) rfl fun X w0 => ?_
  refine AW.rseq ?_
  refine AWL.y rfl rfl (B rfl) (Yv.assign rfl (E rfl rfl)) ?_
  refine AWL.nil ?_
  refine AW.seq ?_
  refine AW.rseq ?_
  refine AWL.y rfl rfl (B rfl) (Yv.move rfl (E rfl rfl)) ?_
  refine AWL.nil ?_
  refine AW.block ?_
  refine AW.loop3 (fun (j : Nat) (A1 : Option Addr) (c1 : Nat) => [(0, true, .v (.slice A1 (m + j) c1)), (1, true, .v (.int .u64 (x / 256 ^ j : Int))), (5, true, .v (.int .i64 (j : Int)))]) (fun (j : Nat) (A1 : Option Addr) (c1 : Nat) => [.row A1 (m + j) c1 5 1 ((bs ++ leBytes j x).map u8)]) (fun (j : Nat) (A1 : Option Addr) (c1 : Nat) => j ≤ 8) (fun (j : Nat) (A1 : Option Addr) (c1 : Nat) => 8 - j) 0 A c ?_ ?_ ?_ ?_
  · exact Nat.zero_le _
  · exact Sub.cons rfl rfl (Sub.cons rfl (by simp) (Sub.cons rfl rfl Sub.nil))
  · simp [leBytes]
  ·
    intro j A1 c1 hinv
    have hjx := div_range x j h0 h1
    refine AW.rseq ?_
    refine AWL.y rfl rfl (B rfl) (Yv.lss rfl (E rfl rfl) (E rfl rfl)) ?_
    refine AWL.nil ?_
    refine AW.seq ?_
    refine AW.cond rfl (fun h0t => ?_) (fun h0f => ?_)
    ·
      try replace h0t := of_decide_eq_true h0t
      refine AW.skip ?_
      refine AW.seq ?_
      refine AW.block ?_
      refine AW.rseq ?_
      refine AWL.y rfl rfl (B rfl) (Yv.move rfl (E rfl rfl)) ?_
      refine AWL.y rfl rfl (B rfl) (Yv.move rfl (E rfl rfl)) ?_
      refine AWL.y rfl rfl (B rfl) (Yv.conv rfl Try.underlying29 kd_5 (E rfl rfl)) ?_
      refine AWL.buildSlice1 rfl rfl (B rfl) rfl el_40 rfl (evsC (E rfl rfl) evs0) (Nat.le_of_ble_eq_true rfl) rfl rfl ?_
      refine AWL.appendRow (i := 0) rfl rfl (B rfl) rfl el_40 (B rfl) rfl (E rfl rfl) (SrcT.sl so_40 (B rfl) (E rfl rfl) rfl) (by unfold maxLen; omega) (by omega) (fun A11 c11 => ?_)
      refine AWL.y rfl rfl (B rfl) (Yv.assign rfl (E rfl rfl)) ?_
      refine AWL.nil ?_
      refine AW.region ?_
      refine AWL.y rfl rfl (B rfl) (Yv.move rfl (E rfl rfl)) ?_
      refine AWL.y rfl rfl (B rfl) (Yv.shrC 256 (by decide) (by decide) (by decide) rfl (E rfl rfl) (E rfl rfl)) ?_
      refine AWL.y rfl rfl (B rfl) (Yv.assign rfl (E rfl rfl)) ?_
      refine AWL.nil ?_
      refine AW.region ?_
      refine AWL.y rfl rfl (B rfl) (Yv.addN_i64 rfl (E rfl rfl) (E rfl rfl) (fun hg => by omega)) ?_
      refine AWL.y rfl rfl (B rfl) (Yv.move rfl (E rfl rfl)) ?_
      refine AWL.nil ?_
      refine ⟨j + 1, A11, c11, by omega, by omega, ?_, ?_⟩
      · exact Sub.cons rfl rfl (Sub.cons rfl (by simp only [div_succ]) (Sub.cons rfl (by simp) Sub.nil))
      · simp only [leBytes_succ, u8_wrap, List.set_cons_zero, ← List.append_assoc, List.map_append, List.map_cons, List.map_nil]; rfl
    ·
      try replace h0f := of_decide_eq_false h0f
      refine AW.exit ?_
      refine AW.rseq ?_
      refine AWL.y rfl rfl (B rfl) (Yv.move rfl (E rfl rfl)) ?_
      refine AWL.y rfl rfl (B rfl) (Yv.assign rfl (E rfl rfl)) ?_
      refine AWL.nil ?_
      refine AW.ret (retI (.tmp rfl .nil) ?_)
      have hj : j = 8 := by omega
      subst hj
      exact ⟨A1, c1, rfl, rfl⟩

set_option maxHeartbeats 400000 in
theorem value49 (r : RefV) (pl : List Int) (b : Nat) (hr : r.kind = 1 ∨ (0 ≤ r.n ∧ r.n < (pl.length : Int))) :
    ACalls Try.prog 49 [.agg (refCells r), .v (vp b)] [.box b 41 [.sl 1 (pl.map zu)]] (fun t_ S => t_ = .v (.int .u64 (wordV pl r)) ∧ S = [.box b 41 [.sl 1 (pl.map zu)]]) := by
  refine ACalls.intro Try.func49 rfl Try.ntmps49 (Nat.le_of_ble_eq_true rfl) rfl fun X w0 => ?_
  refine AW.rseq ?_
  refine AWL.boxOp rfl rfl (B rfl) rfl (E rfl rfl) rfl (fun b2 => ?_)
  refine AWL.y rfl rfl (B rfl) (Yv.assign rfl (E rfl rfl)) ?_
  refine AWL.nil ?_
  refine AW.seq ?_
  refine AW.rseq ?_
  refine AWL.y rfl rfl (B rfl) (Yv.fieldBox rfl fo_54_0 (E rfl rfl)) ?_
  refine AWL.y rfl rfl (B rfl) (Yv.loadBox rfl ag_3 (i := 1) rfl (E rfl rfl) rfl) ?_
  refine AWL.y rfl rfl (B rfl) (Yv.eql rfl (E rfl rfl) (E rfl rfl)) ?_
  refine AWL.nil ?_
  refine AW.cond rfl (fun h0t => ?_) (fun h0f => ?_)
  ·
    try replace h0t := of_decide_eq_true h0t
    refine AW.rseq ?_
    refine AWL.y rfl rfl (B rfl) (Yv.fieldBox rfl fo_54_1 (E rfl rfl)) ?_
    refine AWL.y rfl rfl (B rfl) (Yv.loadBox rfl ag_2 (i := 1) rfl (E rfl rfl) rfl) ?_
    refine AWL.y rfl rfl (B rfl) (Yv.conv rfl Try.underlying2 kd_29 (E rfl rfl)) ?_
    refine AWL.y rfl rfl (B rfl) (Yv.shlC 2 (by decide) (by decide) rfl (E rfl rfl) (E rfl rfl)) ?_
    refine AWL.y rfl rfl (B rfl) (Yv.bits rfl rfl (E rfl rfl) (E rfl rfl)) ?_
    refine AWL.y rfl rfl (B rfl) (Yv.assign rfl (E rfl rfl)) ?_
    refine AWL.nil ?_
    refine AW.dropAt 1 ?_
    refine AW.ret (retI (.tmp rfl .nil) ?_)
    refine ⟨?_, rfl⟩
    show T.v (.int .u64 _) = T.v (.int .u64 _)
    rw [wordV_small h0t, word_small]
  ·
    try replace h0f := of_decide_eq_false h0f
    have hr2 : 0 ≤ r.n ∧ r.n < (pl.length : Int) := hr.resolve_left h0f
    refine AW.skip ?_
    refine AW.rseq ?_
    refine AWL.y rfl rfl (B rfl) (Yv.loadBox rfl ag_41 (i := 0) rfl (E rfl rfl) rfl) ?_
    refine AWL.y rfl rfl (B rfl) (Yv.fieldBox rfl fo_54_1 (E rfl rfl)) ?_
    refine AWL.y rfl rfl (B rfl) (Yv.loadBox rfl ag_2 (i := 1) rfl (E rfl rfl) rfl) ?_
    refine AWL.y rfl rfl (B rfl) (Yv.indexSl rfl ss_41 (B rfl) (E rfl rfl) (E rfl rfl) (fun hg => ⟨(Int.toNat_of_nonneg (by omega)).symm, (by first | omega | (simp only [len_zu, len_refs, len_things, len_u8s]; omega))⟩)) ?_
    refine AWL.y rfl rfl (B rfl) (Yv.loadRp rfl ag_29 (E rfl rfl) (fun hg => zu_get (by omega))) ?_
    refine AWL.y rfl rfl (B rfl) (Yv.assign rfl (E rfl rfl)) ?_
    refine AWL.nil ?_
    refine AW.dropAt 1 ?_
    refine AW.ret (retI (.tmp rfl .nil) ?_)
    refine ⟨?_, rfl⟩
    show T.v (.int .u64 _) = T.v (.int .u64 _)
    rw [wordV_thing h0f]

set_option maxHeartbeats 2000000 in
theorem Lay25 (g : Graph) (a : Int) (hgr : GraphOk 1099511627 g) (ha0 : 0 ≤ a) (ha1 : a ≤ 18446744073709551615) (hts : totalF g.things ≤ 100000000000000) :
    ACalls Try.prog 25 [graphT g, .v (.int .u64 a)] [] (fun t_ S => t_ = layT g a) := by
  have hb1 := hgr.tl
  have hb2 := hgr.rl
  refine ACalls.intro Try.func25 rfl Try.ntmps25 (Nat.le_of_ble_eq_true rfl) rfl fun X w0 => ?_
  refine AW.rseq ?_
  refine AWL.boxOp rfl rfl (B rfl) rfl (E rfl rfl) rfl (fun b2 => ?_)
  refine AWL.y rfl rfl (B rfl) (Yv.assign rfl (E rfl rfl)) ?_
  refine AWL.y rfl rfl (B rfl) (Yv.assign rfl (E rfl rfl)) ?_
  refine AWL.y rfl rfl (B rfl) (Yv.assign rfl (E rfl rfl)) ?_
  refine AWL.nil ?_
  refine AW.seq ?_
  refine AW.rseq ?_
  refine AWL.y rfl rfl (B rfl) (Yv.loadBoxA rfl ag_27 (i := 0) rfl (E rfl rfl) rfl rfl) ?_
  refine AWL.callP rfl rfl (B rfl) rfl ce_13 (E rfl rfl) (evsC (E rfl rfl) evs0) (Check13 g hgr) (fun t S h => h) ?_
  refine AWL.y rfl rfl (B rfl) (Yv.assign rfl (E rfl rfl)) ?_
  refine AWL.nil ?_
  refine AW.rseq ?_
  refine AWL.y rfl rfl (B rfl) (Yv.move rfl (E rfl rfl)) ?_
  refine AWL.y rfl rfl (B rfl) (Yv.neq rfl (E rfl rfl) (E rfl rfl)) ?_
  refine AWL.nil ?_
  refine AW.cond rfl (fun h0t => ?_) (fun h0f => ?_)
  ·
    try replace h0t := of_decide_eq_true h0t
    simp only [Bool.or_eq_true, Bool.and_eq_true, Bool.or_eq_false_iff, Bool.and_eq_false_iff, Bool.not_eq_true', Bool.not_eq_false', decide_eq_true_eq, decide_eq_false_iff_not, Decidable.not_not] at h0t
    refine AW.rseq ?_
    refine AWL.y rfl rfl (B rfl) (Yv.move rfl (E rfl rfl)) ?_
    refine AWL.y rfl rfl (B rfl) (Yv.assign rfl (E rfl rfl)) ?_
    refine AWL.y rfl rfl (B rfl) (Yv.assign rfl (E rfl rfl)) ?_
    refine AWL.y rfl rfl (B rfl) (Yv.assign rfl (E rfl rfl)) ?_
    refine AWL.nil ?_
    refine AW.rowNil 5 1 ?_
    refine AW.freeze 1 4 rfl (B rfl) rfl ?_
    refine AW.rowNil 29 1 ?_
    refine AW.freeze 1 5 rfl (B rfl) rfl ?_
    refine AW.ret (retI (.tmp rfl (.tmp rfl (.tmp rfl .nil))) ?_)
    rw [lay_bad h0t]
    rfl
  ·
    try replace h0f := of_decide_eq_false h0f
    simp only [Bool.or_eq_true, Bool.and_eq_true, Bool.or_eq_false_iff, Bool.and_eq_false_iff, Bool.not_eq_true', Bool.not_eq_false', decide_eq_true_eq, decide_eq_false_iff_not, Decidable.not_not] at h0f
    have hck := check_zero.1 h0f
    refine AW.skip ?_
    refine AW.rseq ?_
    refine AWL.y rfl rfl (B rfl) (Yv.fieldBox rfl fo_27_0 (E rfl rfl)) ?_
    refine AWL.y rfl rfl (B rfl) (Yv.loadBox rfl ag_25 (i := 0) rfl (E rfl rfl) rfl) ?_
    refine AWL.y rfl rfl (B rfl) (Yv.lenSl rfl so_25 (B rfl) (E rfl rfl) len_things) ?_
    refine AWL.makeRow (n := g.things.length) (c := g.things.length) rfl rfl (B rfl) rfl el_41 (E rfl rfl) (E rfl rfl) (by omega) (by omega) (by unfold maxLen; omega) (fun A30 => ?_)
    refine AWL.allocOp rfl rfl (B rfl) rfl zc_41 (fun b8 => ?_)
    refine AWL.storeBox (i := 2) rfl rfl rfl ag_41 rfl (E rfl rfl) (E rfl rfl) rfl rfl (Nat.le_of_ble_eq_true rfl) ?_
    refine AWL.nil ?_
    refine AW.rseq ?_
    refine AWL.y rfl rfl (B rfl) (Yv.move rfl (E rfl rfl)) ?_
    refine AWL.y rfl rfl (B rfl) (Yv.assign rfl (E rfl rfl)) ?_
    refine AWL.nil ?_
    refine AW.seq ?_
    refine AW.rseq ?_
    refine AWL.y rfl rfl (B rfl) (Yv.fieldBox rfl fo_27_0 (E rfl rfl)) ?_
    refine AWL.y rfl rfl (B rfl) (Yv.loadBox rfl ag_25 (i := 0) rfl (E rfl rfl) rfl) ?_
    refine AWL.y rfl rfl (B rfl) (Yv.lenSl rfl so_25 (B rfl) (E rfl rfl) len_things) ?_
    refine AWL.y rfl rfl (B rfl) (Yv.move rfl (E rfl rfl)) ?_
    refine AWL.nil ?_
    refine AW.block ?_
    refine AW.loop (fun (j : Nat) => [(1, true, .v (.int .u64 a)), (2, true, .v (vp b2)), (8, true, .v (vp b8)), (9, true, .v (.int .u64 (a + totalF (g.things.take j)))), (33, true, .sl 4 (g.things.flatMap thingCells)), (34, true, .v (.int .i64 (g.things.length : Int))), (35, true, .v (.int .i64 (j : Int)))]) (fun (j : Nat) => [.box b2 27 (gCells g), .row A30 g.things.length g.things.length 29 1 ((placesF a (g.things.take j)).map zu ++ List.replicate (g.things.length - (placesF a (g.things.take j)).length) (zu 0)), .box b8 41 [.v (.slice A30 g.things.length g.things.length)]]) (fun (j : Nat) => j ≤ g.things.length ∧ (j = 0 ∨ a + totalF (g.things.take j) ≤ 9223372036854775808)) (fun (j : Nat) => g.things.length - j) 0 ?_ ?_ ?_ ?_
    · exact ⟨Nat.zero_le _, .inl rfl⟩
    · exact (Sub.cons rfl rfl (Sub.cons rfl rfl (Sub.cons rfl rfl (Sub.cons rfl (by simp [totalF]) (Sub.cons rfl rfl (Sub.cons rfl rfl (Sub.cons rfl rfl Sub.nil)))))))
    · exact congrArg (fun q => [.box b2 27 (gCells g), q, _]) (rowEq rfl (fill_nil _))
    ·
      intro j hinv
      obtain ⟨hjl, hend⟩ := hinv
      have htt := total_le g.things j
      have htn := totalF_nonneg (g.things.take j)
      refine AW.rseq ?_
      refine AWL.y rfl rfl (B rfl) (Yv.lss rfl (E rfl rfl) (E rfl rfl)) ?_
      refine AWL.nil ?_
      refine AW.seq ?_
      refine AW.cond rfl (fun h1t => ?_) (fun h1f => ?_)
      ·
        try replace h1t := of_decide_eq_true h1t
        have htj := hgr.ts (g.things.getD j default) (getD_mem' (by omega))
        have hst := total_step (l := g.things) (j := j) (by omega)
        have hsr := size_range htj
        have htt1 := total_le g.things (j + 1)
        refine AW.skip ?_
        refine AW.seq ?_
        refine AW.block ?_
        refine AW.rseq ?_
        refine AWL.y rfl rfl (B rfl) (Yv.move rfl (E rfl rfl)) ?_
        refine AWL.y rfl rfl (B rfl) (Yv.indexSl rfl ss_25 (B rfl) (E rfl rfl) (E rfl rfl) (fun hg => ⟨rfl, (by first | omega | (simp only [len_zu, len_refs, len_things, len_u8s]; omega))⟩)) ?_
        refine AWL.y rfl rfl (B rfl) (Yv.loadRpA rfl ag_24 (E rfl rfl) (fun hg => thing_get (by omega))) ?_
        refine AWL.allocOp rfl rfl (B rfl) rfl zc_24 (fun b11 => ?_)
        refine AWL.y rfl rfl (B rfl) (Yv.assign rfl (E rfl rfl)) ?_
        refine AWL.storeBox (i := 3) rfl rfl rfl ag_24 rfl (E rfl rfl) (E rfl rfl) rfl rfl (Nat.le_of_ble_eq_true rfl) ?_
        refine AWL.nil ?_
        refine AW.rseq ?_
        refine AWL.y rfl rfl (B rfl) (Yv.loadBox rfl ag_41 (i := 2) rfl (E rfl rfl) rfl) ?_
        refine AWL.y rfl rfl (B rfl) (Yv.move rfl (E rfl rfl)) ?_
        refine AWL.y rfl rfl (B rfl) (Yv.move rfl (E rfl rfl)) ?_
        refine AWL.y rfl rfl (B rfl) (Yv.indexRow rfl ss_41 (i := 1) rfl (E rfl rfl) (E rfl rfl) (fun hg => ⟨rfl, by omega⟩)) ?_
        refine AWL.storeEp1 (i := 1) rfl rfl rfl ag_29 rfl (E rfl rfl) (E rfl rfl) rfl rfl (by rw [List.length_append, List.length_map, List.length_replicate, placesF_len, List.length_take]; omega) ?_
        refine AWL.nil ?_
        refine AW.rseq ?_
        refine AWL.y rfl rfl (B rfl) (Yv.loadBoxA rfl ag_24 (i := 3) rfl (E rfl rfl) rfl rfl) ?_
        refine AWL.callP rfl rfl (B rfl) rfl ce_9 (E rfl rfl) (evsC (E rfl rfl) evs0) (Size9 (g.things.getD j default) htj) (fun t S h => h) ?_
        refine AWL.y rfl rfl (B rfl) (Yv.convN_u64 rfl Try.underlying2 kd_29 (E rfl rfl) (fun hg => by omega)) ?_
        refine AWL.y rfl rfl (B rfl) (Yv.assign rfl (E rfl rfl)) ?_
        refine AWL.nil ?_
        refine AW.seq ?_
        refine AW.rseq ?_
        refine AWL.y rfl rfl (B rfl) (Yv.move rfl (E rfl rfl)) ?_
        refine AWL.y rfl rfl (B rfl) (Yv.gtr rfl (E rfl rfl) (E rfl rfl)) ?_
        refine AWL.y rfl rfl (B rfl) (Yv.move rfl (E rfl rfl)) ?_
        refine AWL.ygF rfl rfl rfl rfl (B rfl) (Yv.move rfl (E rfl rfl)) ?_
        refine AWL.ygF rfl rfl rfl rfl (B rfl) (Yv.move rfl (E rfl rfl)) ?_
        refine AWL.ygF rfl rfl rfl rfl (B rfl) (Yv.subN_u64 rfl (E rfl rfl) (Eg rfl rfl id) (fun hg => by first | omega | (simp only [Bool.and_eq_true, Bool.or_eq_false_iff, Bool.not_eq_true', Bool.not_eq_false', decide_eq_true_eq, decide_eq_false_iff_not] at hg; omega))) ?_
        refine AWL.ygF rfl rfl rfl rfl (B rfl) (Yv.gtr rfl (Eg rfl rfl id) (Eg rfl rfl id)) ?_
        refine AWL.y rfl rfl (B rfl) (Yv.pickOr (t := .const (.bool true)) rfl (E rfl rfl) (Eg rfl rfl id)) ?_
        refine AWL.nil ?_
        refine AW.cond rfl (fun h2t => ?_) (fun h2f => ?_)
        ·
          try replace h2t := of_decide_eq_true h2t
          simp only [Bool.or_eq_true, Bool.and_eq_true, Bool.or_eq_false_iff, Bool.and_eq_false_iff, Bool.not_eq_true', Bool.not_eq_false', decide_eq_true_eq, decide_eq_false_iff_not, Decidable.not_not] at h2t
          refine AW.rseq ?_
          refine AWL.y rfl rfl (B rfl) (Yv.assign rfl (E rfl rfl)) ?_
          refine AWL.y rfl rfl (B rfl) (Yv.assign rfl (E rfl rfl)) ?_
          refine AWL.y rfl rfl (B rfl) (Yv.assign rfl (E rfl rfl)) ?_
          refine AWL.nil ?_
          refine AW.rowNil 5 1 ?_
          refine AW.freeze 4 4 rfl (B rfl) rfl ?_
          refine AW.rowNil 29 1 ?_
          refine AW.freeze 4 5 rfl (B rfl) rfl ?_
          refine AW.ret (retI (.tmp rfl (.tmp rfl (.tmp rfl .nil))) ?_)
          rw [lay_arg hck (layOk_far (j + 1) (by omega))]
          rfl
        ·
          try replace h2f := of_decide_eq_false h2f
          simp only [Bool.or_eq_true, Bool.and_eq_true, Bool.or_eq_false_iff, Bool.and_eq_false_iff, Bool.not_eq_true', Bool.not_eq_false', decide_eq_true_eq, decide_eq_false_iff_not, Decidable.not_not] at h2f
          refine AW.skip ?_
          refine AW.region ?_
          refine AWL.y rfl rfl (B rfl) (Yv.move rfl (E rfl rfl)) ?_
          refine AWL.y rfl rfl (B rfl) (Yv.move rfl (E rfl rfl)) ?_
          refine AWL.y rfl rfl (B rfl) (Yv.addN_u64 rfl (E rfl rfl) (E rfl rfl) (fun hg => by omega)) ?_
          refine AWL.y rfl rfl (B rfl) (Yv.assign rfl (E rfl rfl)) ?_
          refine AWL.nil ?_
          refine AW.dropAt 3 ?_
          refine AW.region ?_
          refine AWL.y rfl rfl (B rfl) (Yv.addN_i64 rfl (E rfl rfl) (E rfl rfl) (fun hg => by omega)) ?_
          refine AWL.y rfl rfl (B rfl) (Yv.move rfl (E rfl rfl)) ?_
          refine AWL.nil ?_
          refine ⟨j + 1, ⟨by omega, .inr (by omega)⟩, by omega, Sub.cons rfl rfl (Sub.cons rfl rfl (Sub.cons rfl rfl (Sub.cons rfl (by rw [hst, Int.add_assoc]) (Sub.cons rfl rfl (Sub.cons rfl rfl (Sub.cons rfl (by simp) Sub.nil)))))), ?_⟩
          have hf := fill_row (placesF a (g.things.take j)) g.things.length (a + totalF (g.things.take j)) (by rw [placesF_len, List.length_take]; omega)
          rw [places_step (by omega), ← hf]
          rw [placesF_len, List.length_take, Nat.min_eq_left (by omega), Nat.mul_one]
          rfl
      ·
        try replace h1f := of_decide_eq_false h1f
        refine AW.exit ?_
        refine AW.seq ?_
        obtain rfl : j = g.things.length := by omega
        rw [List.take_length] at *
        have h00 : g.things.length = 0 → totalF g.things = 0 := fun e => by rw [List.eq_nil_of_length_eq_zero e]; rfl
        refine AW.rseq ?_
        refine AWL.y rfl rfl (B rfl) (Yv.move rfl (E rfl rfl)) ?_
        refine AWL.y rfl rfl (B rfl) (Yv.remN rfl (E rfl rfl) (E rfl rfl) (fun hg => by omega)) ?_
        refine AWL.y rfl rfl (B rfl) (Yv.neq rfl (E rfl rfl) (E rfl rfl)) ?_
        refine AWL.y rfl rfl (B rfl) (Yv.move rfl (E rfl rfl)) ?_
        refine AWL.ygF rfl rfl rfl rfl (B rfl) (Yv.move rfl (E rfl rfl)) ?_
        refine AWL.ygF rfl rfl rfl rfl (B rfl) (Yv.gtr rfl (Eg rfl rfl id) (E rfl rfl)) ?_
        refine AWL.y rfl rfl (B rfl) (Yv.pickOr (t := .const (.bool true)) rfl (E rfl rfl) (Eg rfl rfl id)) ?_
        refine AWL.nil ?_
        refine AW.cond rfl (fun h3t => ?_) (fun h3f => ?_)
        ·
          try replace h3t := of_decide_eq_true h3t
          simp only [Bool.or_eq_true, Bool.and_eq_true, Bool.or_eq_false_iff, Bool.and_eq_false_iff, Bool.not_eq_true', Bool.not_eq_false', decide_eq_true_eq, decide_eq_false_iff_not, Decidable.not_not] at h3t
          refine AW.rseq ?_
          refine AWL.y rfl rfl (B rfl) (Yv.assign rfl (E rfl rfl)) ?_
          refine AWL.y rfl rfl (B rfl) (Yv.assign rfl (E rfl rfl)) ?_
          refine AWL.y rfl rfl (B rfl) (Yv.assign rfl (E rfl rfl)) ?_
          refine AWL.nil ?_
          refine AW.rowNil 5 1 ?_
          refine AW.freeze 3 4 rfl (B rfl) rfl ?_
          refine AW.rowNil 29 1 ?_
          refine AW.freeze 3 5 rfl (B rfl) rfl ?_
          refine AW.ret (retI (.tmp rfl (.tmp rfl (.tmp rfl .nil))) ?_)
          rw [lay_arg hck (layOk_odd (by omega))]
          rfl
        ·
          try replace h3f := of_decide_eq_false h3f
          simp only [Bool.or_eq_true, Bool.and_eq_true, Bool.or_eq_false_iff, Bool.and_eq_false_iff, Bool.not_eq_true', Bool.not_eq_false', decide_eq_true_eq, decide_eq_false_iff_not, Decidable.not_not] at h3f
          have hfin : a + totalF g.things ≤ 9223372036854775808 := by omega
          have hplo := places_ok ha0 hfin
          refine AW.skip ?_
          refine AW.eqS (S' := [.box b2 27 (gCells g), .row A30 g.things.length g.things.length 29 1 ((placesF a g.things).map zu), .box b8 41 [.v (.slice A30 g.things.length g.things.length)]]) (by rw [placesF_len, Nat.sub_self, List.replicate_zero, List.append_nil]) ?_
          refine AW.freezeCell 1 1 0 rfl (by decide) rfl rfl ?_
          refine AW.rseq ?_
          refine AWL.y rfl rfl (B rfl) (Yv.makeFunc rfl evs0 rfl (evsC (E rfl rfl) evs0) rfl) ?_
          refine AWL.y rfl rfl (B rfl) (Yv.assign rfl (E rfl rfl)) ?_
          refine AWL.nil ?_
          refine AW.rseq ?_
          refine AWL.y rfl rfl (B rfl) (Yv.assign rfl (E rfl rfl)) ?_
          refine AWL.nil ?_
          refine AW.rowNil 5 1 ?_
          refine AW.perm (List.reverse_perm _) ?_
          refine AW.seq ?_
          refine AW.rseq ?_
          refine AWL.y rfl rfl (B rfl) (Yv.fieldBox rfl fo_27_0 (E rfl rfl)) ?_
          refine AWL.y rfl rfl (B rfl) (Yv.loadBox rfl ag_25 (i := 2) rfl (E rfl rfl) rfl) ?_
          refine AWL.y rfl rfl (B rfl) (Yv.lenSl rfl so_25 (B rfl) (E rfl rfl) len_things) ?_
          refine AWL.y rfl rfl (B rfl) (Yv.move rfl (E rfl rfl)) ?_
          refine AWL.nil ?_
          refine AW.block ?_
          refine AW.loop3 (fun (j : Nat) (A1 : Option Addr) (c1 : Nat) => [(2, true, .v (vp b2)), (13, true, .v (.func (.func 49) #[] #[vp b8])), (14, true, .v (.slice A1 (layB (placesF a g.things) (g.things.take j)).length c1)), (68, true, .sl 4 (g.things.flatMap thingCells)), (69, true, .v (.int .i64 (g.things.length : Int))), (70, true, .v (.int .i64 (j : Int)))]) (fun (j : Nat) (A1 : Option Addr) (c1 : Nat) => [.row A1 (layB (placesF a g.things) (g.things.take j)).length c1 5 1 ((layB (placesF a g.things) (g.things.take j)).map u8), .box b8 41 [.sl 1 ((placesF a g.things).map zu)], .box b2 27 (gCells g)]) (fun (j : Nat) (A1 : Option Addr) (c1 : Nat) => j ≤ g.things.length) (fun (j : Nat) (A1 : Option Addr) (c1 : Nat) => g.things.length - j) 0 none 0 ?_ ?_ ?_ ?_
          · exact Nat.zero_le _
          · exact (Sub.cons rfl rfl (Sub.cons rfl rfl (Sub.cons rfl rfl (Sub.cons rfl rfl (Sub.cons rfl rfl (Sub.cons rfl rfl Sub.nil))))))
          · rfl
          ·
            intro j A1 c1 hinv
            have hbl := layB_len (pl := (placesF a g.things)) (l := g.things.take j) (fun t ht => (check_thing hck t (List.mem_of_mem_take ht)).1)
            have hbm := total_mod (l := g.things.take j) (fun t ht => (check_thing hck t (List.mem_of_mem_take ht)).1)
            have htt := total_le g.things j
            refine AW.rseq ?_
            refine AWL.y rfl rfl (B rfl) (Yv.lss rfl (E rfl rfl) (E rfl rfl)) ?_
            refine AWL.nil ?_
            refine AW.seq ?_
            refine AW.cond rfl (fun h4t => ?_) (fun h4f => ?_)
            ·
              try replace h4t := of_decide_eq_true h4t
              have htj := hgr.ts (g.things.getD j default) (getD_mem' (by omega))
              have hmd := check_thing hck (g.things.getD j default) (getD_mem' (by omega))
              have hsp := made_spec hmd.1
              have hhd := headF_range (by omega) htj
              have hst := total_step (l := g.things) (j := j) (by omega)
              have htt1 := total_le g.things (j + 1)
              have hb3 := htj.by_
              have hb4 := htj.rl
              have hthl := thingB_len (pl := (placesF a g.things)) hmd.1
              rw [thingB, List.length_append, wordsB_len] at hthl
              have hN2 : ((layB (placesF a g.things) (g.things.take j)) ++ headB (g.things.getD j default) ++ codeB (g.things.getD j default)).length = (layB (placesF a g.things) (g.things.take j)).length + (headB (g.things.getD j default) ++ codeB (g.things.getD j default)).length := by simp only [List.length_append, Nat.add_assoc]
              have hfit := fun q hq => fits_which ((check_thing hck (g.things.getD j default) (getD_mem' (by omega))).2 q hq)
              refine AW.skip ?_
              refine AW.seq ?_
              refine AW.block ?_
              refine AW.rseq ?_
              refine AWL.y rfl rfl (B rfl) (Yv.indexSl rfl ss_25 (B rfl) (E rfl rfl) (E rfl rfl) (fun hg => ⟨rfl, (by first | omega | (simp only [len_zu, len_refs, len_things, len_u8s]; omega))⟩)) ?_
              refine AWL.y rfl rfl (B rfl) (Yv.loadRpA rfl ag_24 (E rfl rfl) (fun hg => thing_get (by omega))) ?_
              refine AWL.allocOp rfl rfl (B rfl) rfl zc_24 (fun b16 => ?_)
              refine AWL.storeBox (i := 3) rfl rfl rfl ag_24 rfl (E rfl rfl) (E rfl rfl) rfl rfl (Nat.le_of_ble_eq_true rfl) ?_
              refine AWL.nil ?_
              refine AW.rseq ?_
              refine AWL.y rfl rfl (B rfl) (Yv.move rfl (E rfl rfl)) ?_
              refine AWL.y rfl rfl (B rfl) (Yv.loadBoxA rfl ag_24 (i := 3) rfl (E rfl rfl) rfl rfl) ?_
              refine AWL.callP rfl rfl (B rfl) rfl ce_11 (E rfl rfl) (evsC (E rfl rfl) evs0) (Header11 (g.things.getD j default) htj) (fun t S h => h) ?_
              refine AWL.call rfl rfl (B rfl) rfl ce_50 (E rfl rfl) (evsC (E rfl rfl) (evsC (E rfl rfl) evs0)) (S1 := [.row _ _ _ 5 1 (List.map u8 (layB (placesF a g.things) (g.things.take j)))]) (S2 := _) rfl (put50 _ _ _ _ _ hhd.1 hhd.2 (by omega)) ?_
              rintro t77 S77 ⟨A77, c77, rfl, rfl⟩
              refine AWL.y rfl rfl (B rfl) (Yv.assign rfl (E rfl rfl)) ?_
              refine AWL.nil ?_
              refine AW.rseq ?_
              refine AWL.y rfl rfl (B rfl) (Yv.move rfl (E rfl rfl)) ?_
              refine AWL.y rfl rfl (B rfl) (Yv.fieldBox rfl fo_24_2 (E rfl rfl)) ?_
              refine AWL.y rfl rfl (B rfl) (Yv.loadBox rfl ag_9 (i := 3) rfl (E rfl rfl) rfl) ?_
              refine AWL.appendRow (i := 0) rfl rfl (B rfl) rfl el_40 (B rfl) rfl (E rfl rfl) (SrcT.strL st_9 (E rfl rfl)) (by unfold maxLen; omega) (by omega) (fun A81 c81 => ?_)
              refine AWL.y rfl rfl (B rfl) (Yv.assign rfl (E rfl rfl)) ?_
              refine AWL.nil ?_
              refine AW.seq ?_
              refine AW.block ?_
              refine AW.loop3 (fun (k : Nat) (A1 : Option Addr) (c1 : Nat) => [(2, true, .v (vp b2)), (13, true, .v (.func (.func 49) #[] #[vp b8])), (14, true, .v (.slice A1 ((layB (placesF a g.things) (g.things.take j)).length + 8 + (g.things.getD j default).bytes.length + k) c1)), (16, true, .v (vp b16)), (68, true, .sl 4 (g.things.flatMap thingCells)), (69, true, .v (.int .i64 (g.things.length : Int))), (70, true, .v (.int .i64 (j : Int)))]) (fun (k : Nat) (A1 : Option Addr) (c1 : Nat) => [.row A1 ((layB (placesF a g.things) (g.things.take j)).length + 8 + (g.things.getD j default).bytes.length + k) c1 5 1 (((layB (placesF a g.things) (g.things.take j)) ++ (leBytes 8 (headF (g.things.getD j default)) ++ (g.things.getD j default).bytes) ++ List.replicate k 0).map u8), .box b8 41 [.sl 1 ((placesF a g.things).map zu)], .box b2 27 (gCells g), .box b16 24 (thingCells (g.things.getD j default))]) (fun (k : Nat) (A1 : Option Addr) (c1 : Nat) => k ≤ ((g.things.getD j default).bytes.length + 7) / 8 * 8 - (g.things.getD j default).bytes.length) (fun (k : Nat) (A1 : Option Addr) (c1 : Nat) => ((g.things.getD j default).bytes.length + 7) / 8 * 8 - (g.things.getD j default).bytes.length - k) 0 A81 c81 ?_ ?_ ?_ ?_
              · exact Nat.zero_le _
              · exact (Sub.cons rfl rfl (Sub.cons rfl rfl (Sub.cons rfl rfl (Sub.cons rfl rfl (Sub.cons rfl rfl (Sub.cons rfl rfl (Sub.cons rfl rfl Sub.nil)))))))
              · refine congrArg (fun q => [q, _, _, _]) (rowEq rfl ?_)
                simp
              ·
                intro k A1 c1 hinv
                refine AW.seq ?_
                refine AW.rseq ?_
                refine AWL.y rfl rfl (B rfl) (Yv.move rfl (E rfl rfl)) ?_
                refine AWL.y rfl rfl (B rfl) (Yv.lenV rfl so_40 (E rfl rfl)) ?_
                refine AWL.y rfl rfl (B rfl) (Yv.remN rfl (E rfl rfl) (E rfl rfl) (fun hg => by omega)) ?_
                refine AWL.y rfl rfl (B rfl) (Yv.gtr rfl (E rfl rfl) (E rfl rfl)) ?_
                refine AWL.nil ?_
                refine AW.cond rfl (fun h5t => ?_) (fun h5f => ?_)
                ·
                  try replace h5t := of_decide_eq_true h5t
                  refine AW.skip ?_
                  refine AW.block ?_
                  refine AW.region ?_
                  refine AWL.y rfl rfl (B rfl) (Yv.move rfl (E rfl rfl)) ?_
                  refine AWL.buildSlice1 rfl rfl (B rfl) rfl el_40 rfl (evsC (E rfl rfl) evs0) (Nat.le_of_ble_eq_true rfl) rfl rfl ?_
                  refine AWL.appendRow (i := 0) rfl rfl (B rfl) rfl el_40 (B rfl) rfl (E rfl rfl) (SrcT.sl so_40 (B rfl) (E rfl rfl) rfl) (by unfold maxLen; omega) (by omega) (fun A88 c88 => ?_)
                  refine AWL.y rfl rfl (B rfl) (Yv.assign rfl (E rfl rfl)) ?_
                  refine AWL.nil ?_
                  refine ⟨k + 1, A88, c88, by omega, by omega, Sub.cons rfl rfl (Sub.cons rfl rfl (Sub.cons rfl rfl (Sub.cons rfl rfl (Sub.cons rfl rfl (Sub.cons rfl rfl (Sub.cons rfl rfl Sub.nil)))))), ?_⟩
                  refine congrArg (fun q => [q, _, _, _]) (rowEq rfl ?_)
                  simp only [pad_step, List.map_append]
                  rfl
                ·
                  try replace h5f := of_decide_eq_false h5f
                  refine AW.exit ?_
                  refine AW.mid (α := Option Addr × Nat) (fun q => [(2, true, .v (vp b2)), (13, true, .v (.func (.func 49) #[] #[vp b8])), (14, true, .v (.slice q.1 ((layB (placesF a g.things) (g.things.take j)) ++ headB (g.things.getD j default) ++ codeB (g.things.getD j default)).length q.2)), (16, true, .v (vp b16)), (68, true, .sl 4 (g.things.flatMap thingCells)), (69, true, .v (.int .i64 (g.things.length : Int))), (70, true, .v (.int .i64 (j : Int)))]) (fun q => [.row q.1 ((layB (placesF a g.things) (g.things.take j)) ++ headB (g.things.getD j default) ++ codeB (g.things.getD j default)).length q.2 5 1 (((layB (placesF a g.things) (g.things.take j)) ++ headB (g.things.getD j default) ++ codeB (g.things.getD j default)).map u8), .box b8 41 [.sl 1 ((placesF a g.things).map zu)], .box b2 27 (gCells g), .box b16 24 (thingCells (g.things.getD j default))]) (fun _ => True) ?_ ?_
                  ·
                    obtain rfl : k = ((g.things.getD j default).bytes.length + 7) / 8 * 8 - (g.things.getD j default).bytes.length := by omega
                    have hrow : (layB (placesF a g.things) (g.things.take j)) ++ (leBytes 8 (headF (g.things.getD j default)) ++ (g.things.getD j default).bytes) ++ List.replicate (((g.things.getD j default).bytes.length + 7) / 8 * 8 - (g.things.getD j default).bytes.length) 0 = (layB (placesF a g.things) (g.things.take j)) ++ headB (g.things.getD j default) := by rw [headB, zerosB]; simp only [List.append_assoc]
                    refine AW.rseq ?_
                    refine AWL.y rfl rfl (B rfl) (Yv.fieldBox rfl fo_24_0 (E rfl rfl)) ?_
                    refine AWL.y rfl rfl (B rfl) (Yv.loadBox rfl ag_3 (i := 3) rfl (E rfl rfl) rfl) ?_
                    refine AWL.y rfl rfl (B rfl) (Yv.eql rfl (E rfl rfl) (E rfl rfl)) ?_
                    refine AWL.nil ?_
                    refine AW.cond rfl (fun h6t => ?_) (fun h6f => ?_)
                    ·
                      try replace h6t := of_decide_eq_true h6t
                      refine AW.region ?_
                      refine AWL.y rfl rfl (B rfl) (Yv.move rfl (E rfl rfl)) ?_
                      refine AWL.y rfl rfl (B rfl) (Yv.fieldBox rfl fo_24_1 (E rfl rfl)) ?_
                      refine AWL.y rfl rfl (B rfl) (Yv.loadBox rfl ag_3 (i := 3) rfl (E rfl rfl) rfl) ?_
                      refine AWL.y rfl rfl (B rfl) (Yv.convN_u64 rfl Try.underlying3 kd_29 (E rfl rfl) (fun hg => by omega)) ?_
                      refine AWL.y rfl rfl (B rfl) (Yv.mulN_u64 rfl (E rfl rfl) (E rfl rfl) (fun hg => by omega)) ?_
                      refine AWL.y rfl rfl (B rfl) (Yv.addN_u64 rfl (E rfl rfl) (E rfl rfl) (fun hg => by omega)) ?_
                      refine AWL.call rfl rfl (B rfl) rfl ce_50 (E rfl rfl) (evsC (E rfl rfl) (evsC (E rfl rfl) evs0)) (S1 := [.row _ _ _ 5 1 (List.map u8 _)]) (S2 := _) rfl (put50 _ _ _ _ _ (by omega) (by omega) (by omega)) ?_
                      rintro t98 S98 ⟨A98, c98, rfl, rfl⟩
                      refine AWL.y rfl rfl (B rfl) (Yv.assign rfl (E rfl rfl)) ?_
                      refine AWL.nil ?_
                      exact ⟨(A98, c98), trivial, (Sub.cons rfl rfl (Sub.cons rfl rfl (Sub.cons rfl (congrArg (fun q => T.v (.slice A98 q c98)) (by rw [List.length_append, List.length_append, headB_len, codeB_len, if_pos h6t]; omega)) (Sub.cons rfl rfl (Sub.cons rfl rfl (Sub.cons rfl rfl (Sub.cons rfl rfl Sub.nil))))))), congrArg (fun q => [q, _, _, _]) (rowEq (by rw [List.length_append, List.length_append, headB_len, codeB_len, if_pos h6t]; omega) (by rw [hrow, codeB, if_pos h6t]))⟩
                    ·
                      try replace h6f := of_decide_eq_false h6f
                      refine AW.skip ?_
                      exact ⟨(A1, c1), trivial, (Sub.cons rfl rfl (Sub.cons rfl rfl (Sub.cons rfl (congrArg (fun q => T.v (.slice A1 q c1)) (by rw [List.length_append, List.length_append, headB_len, codeB_len, if_neg h6f]; omega)) (Sub.cons rfl rfl (Sub.cons rfl rfl (Sub.cons rfl rfl (Sub.cons rfl rfl Sub.nil))))))), congrArg (fun q => [q, _, _, _]) (rowEq (by rw [List.length_append, List.length_append, headB_len, codeB_len, if_neg h6f]; omega) (by rw [hrow, codeB, if_neg h6f, List.append_nil]))⟩
                  ·
                    rintro q hmid
                    refine AW.rseq ?_
                    refine AWL.y rfl rfl (B rfl) (Yv.fieldBox rfl fo_24_3 (E rfl rfl)) ?_
                    refine AWL.y rfl rfl (B rfl) (Yv.loadBox rfl ag_22 (i := 3) rfl (E rfl rfl) rfl) ?_
                    refine AWL.y rfl rfl (B rfl) (Yv.lenSl rfl so_22 (B rfl) (E rfl rfl) len_refs) ?_
                    refine AWL.y rfl rfl (B rfl) (Yv.move rfl (E rfl rfl)) ?_
                    refine AWL.nil ?_
                    refine AW.block ?_
                    refine AW.loop3 (fun (i : Nat) (A1 : Option Addr) (c1 : Nat) => [(2, true, .v (vp b2)), (13, true, .v (.func (.func 49) #[] #[vp b8])), (14, true, .v (.slice A1 (((layB (placesF a g.things) (g.things.take j)) ++ headB (g.things.getD j default) ++ codeB (g.things.getD j default)).length + 8 * i) c1)), (16, true, .v (vp b16)), (68, true, .sl 4 (g.things.flatMap thingCells)), (69, true, .v (.int .i64 (g.things.length : Int))), (70, true, .v (.int .i64 (j : Int))), (100, true, refsT (g.things.getD j default).refs), (101, true, .v (.int .i64 ((g.things.getD j default).refs.length : Int))), (102, true, .v (.int .i64 (i : Int)))]) (fun (i : Nat) (A1 : Option Addr) (c1 : Nat) => [.row A1 (((layB (placesF a g.things) (g.things.take j)) ++ headB (g.things.getD j default) ++ codeB (g.things.getD j default)).length + 8 * i) c1 5 1 (((layB (placesF a g.things) (g.things.take j)) ++ headB (g.things.getD j default) ++ codeB (g.things.getD j default) ++ wordsB (placesF a g.things) ((g.things.getD j default).refs.take i)).map u8), .box b8 41 [.sl 1 ((placesF a g.things).map zu)], .box b2 27 (gCells g), .box b16 24 (thingCells (g.things.getD j default))]) (fun (i : Nat) (A1 : Option Addr) (c1 : Nat) => i ≤ (g.things.getD j default).refs.length) (fun (i : Nat) (A1 : Option Addr) (c1 : Nat) => (g.things.getD j default).refs.length - i) 0 q.1 q.2 ?_ ?_ ?_ ?_
                    · exact Nat.zero_le _
                    · exact (Sub.cons rfl rfl (Sub.cons rfl rfl (Sub.cons rfl rfl (Sub.cons rfl rfl (Sub.cons rfl rfl (Sub.cons rfl rfl (Sub.cons rfl rfl (Sub.cons rfl rfl (Sub.cons rfl rfl (Sub.cons rfl rfl Sub.nil))))))))))
                    · simp [wordsB]
                    ·
                      intro i A1 c1 hinv
                      refine AW.rseq ?_
                      refine AWL.y rfl rfl (B rfl) (Yv.lss rfl (E rfl rfl) (E rfl rfl)) ?_
                      refine AWL.nil ?_
                      refine AW.seq ?_
                      refine AW.cond rfl (fun h7t => ?_) (fun h7f => ?_)
                      ·
                        try replace h7t := of_decide_eq_true h7t
                        refine AW.skip ?_
                        refine AW.seq ?_
                        refine AW.block ?_
                        refine AW.rseq ?_
                        refine AWL.y rfl rfl (B rfl) (Yv.indexSl rfl ss_22 (B rfl) (E rfl rfl) (E rfl rfl) (fun hg => ⟨rfl, (by first | omega | (simp only [len_zu, len_refs, len_things, len_u8s]; omega))⟩)) ?_
                        refine AWL.y rfl rfl (B rfl) (Yv.loadRpA rfl ag_54 (E rfl rfl) (fun hg => ref_get (by omega))) ?_
                        refine AWL.allocOp rfl rfl (B rfl) rfl zc_54 (fun b18 => ?_)
                        refine AWL.storeBox (i := 4) rfl rfl rfl ag_54 rfl (E rfl rfl) (E rfl rfl) rfl rfl (Nat.le_of_ble_eq_true rfl) ?_
                        refine AWL.nil ?_
                        refine AW.region ?_
                        refine AWL.y rfl rfl (B rfl) (Yv.move rfl (E rfl rfl)) ?_
                        refine AWL.y rfl rfl (B rfl) (Yv.move rfl (E rfl rfl)) ?_
                        refine AWL.y rfl rfl (B rfl) (Yv.loadBoxA rfl ag_54 (i := 4) rfl (E rfl rfl) rfl rfl) ?_
                        refine AWL.perm (List.Perm.swap _ _ _) ?_
                        refine AWL.callK rfl rfl (B rfl) rfl ce_49 (E rfl rfl) (evsC (E rfl rfl) evs0) (S1 := [.box b8 41 [.sl 1 ((placesF a g.things).map zu)]]) (S2 := _) rfl (value49 ((g.things.getD j default).refs.getD i default) (placesF a g.things) b8 (by rw [placesF_len]; exact hfit _ (getD_mem' (by omega)))) (fun t S h => h) ?_
                        refine AWL.perm (List.Perm.swap _ _ _) ?_
                        refine AWL.call rfl rfl (B rfl) rfl ce_50 (E rfl rfl) (evsC (E rfl rfl) (evsC (E rfl rfl) evs0)) (S1 := [.row _ _ _ 5 1 (List.map u8 _)]) (S2 := _) rfl (put50 _ _ _ _ _ (wordV_range hplo _).1 (wordV_range hplo _).2 (by omega)) ?_
                        rintro t110 S110 ⟨A110, c110, rfl, rfl⟩
                        refine AWL.y rfl rfl (B rfl) (Yv.assign rfl (E rfl rfl)) ?_
                        refine AWL.nil ?_
                        refine AW.dropAt 4 ?_
                        refine AW.region ?_
                        refine AWL.y rfl rfl (B rfl) (Yv.addN_i64 rfl (E rfl rfl) (E rfl rfl) (fun hg => by omega)) ?_
                        refine AWL.y rfl rfl (B rfl) (Yv.move rfl (E rfl rfl)) ?_
                        refine AWL.nil ?_
                        refine ⟨i + 1, A110, c110, by omega, by omega, Sub.cons rfl rfl (Sub.cons rfl rfl (Sub.cons rfl rfl (Sub.cons rfl rfl (Sub.cons rfl rfl (Sub.cons rfl rfl (Sub.cons rfl rfl (Sub.cons rfl rfl (Sub.cons rfl rfl (Sub.cons rfl (by simp) Sub.nil))))))))), ?_⟩
                        refine congrArg (fun q => [q, _, _, _]) (rowEq rfl ?_)
                        rw [wordsB_step (by omega), ← List.append_assoc]
                      ·
                        try replace h7f := of_decide_eq_false h7f
                        refine AW.exit ?_
                        obtain rfl : i = (g.things.getD j default).refs.length := by omega
                        have hs3 : (layB (placesF a g.things) (g.things.take j)) ++ headB (g.things.getD j default) ++ codeB (g.things.getD j default) ++ wordsB (placesF a g.things) ((g.things.getD j default).refs.take (g.things.getD j default).refs.length) = layB (placesF a g.things) (g.things.take (j + 1)) := by
                          rw [List.take_length, layB_step (by omega), thingB]; simp only [List.append_assoc]
                        have hl3 : ((layB (placesF a g.things) (g.things.take j)) ++ headB (g.things.getD j default) ++ codeB (g.things.getD j default)).length + 8 * (g.things.getD j default).refs.length = (layB (placesF a g.things) (g.things.take (j + 1))).length := by
                          rw [← hs3, (List.length_append : ((layB (placesF a g.things) (g.things.take j)) ++ headB (g.things.getD j default) ++ codeB (g.things.getD j default) ++ wordsB (placesF a g.things) ((g.things.getD j default).refs.take (g.things.getD j default).refs.length)).length = _), wordsB_len, List.take_length]
                        refine AW.dropAt 3 ?_
                        refine AW.region ?_
                        refine AWL.y rfl rfl (B rfl) (Yv.addN_i64 rfl (E rfl rfl) (E rfl rfl) (fun hg => by omega)) ?_
                        refine AWL.y rfl rfl (B rfl) (Yv.move rfl (E rfl rfl)) ?_
                        refine AWL.nil ?_
                        refine ⟨j + 1, A1, c1, by omega, by omega, Sub.cons rfl rfl (Sub.cons rfl rfl (Sub.cons rfl (congrArg (fun q => T.v (.slice A1 q c1)) hl3.symm) (Sub.cons rfl rfl (Sub.cons rfl rfl (Sub.cons rfl (by simp) Sub.nil))))), ?_⟩
                        refine congrArg (fun q => [q, _, _]) (rowEq hl3 ?_)
                        rw [hs3]
            ·
              try replace h4f := of_decide_eq_false h4f
              refine AW.exit ?_
              obtain rfl : j = g.things.length := by omega
              refine AW.rseq ?_
              refine AWL.y rfl rfl (B rfl) (Yv.assign rfl (E rfl rfl)) ?_
              refine AWL.nil ?_
              refine AW.rowNil 29 1 ?_
              refine AW.seq ?_
              refine AW.rseq ?_
              refine AWL.y rfl rfl (B rfl) (Yv.fieldBox rfl fo_27_1 (E rfl rfl)) ?_
              refine AWL.y rfl rfl (B rfl) (Yv.loadBox rfl ag_22 (i := 2) rfl (E rfl rfl) rfl) ?_
              refine AWL.y rfl rfl (B rfl) (Yv.lenSl rfl so_22 (B rfl) (E rfl rfl) len_refs) ?_
              refine AWL.y rfl rfl (B rfl) (Yv.move rfl (E rfl rfl)) ?_
              refine AWL.nil ?_
              refine AW.block ?_
              refine AW.loop3 (fun (i : Nat) (A2 : Option Addr) (c2 : Nat) => [(2, true, .v (vp b2)), (13, true, .v (.func (.func 49) #[] #[vp b8])), (14, true, .v (.slice A1 (layB (placesF a g.things) (g.things.take g.things.length)).length c1)), (19, true, .v (.slice A2 i c2)), (114, true, refsT g.roots), (115, true, .v (.int .i64 (g.roots.length : Int))), (116, true, .v (.int .i64 (i : Int)))]) (fun (i : Nat) (A2 : Option Addr) (c2 : Nat) => [.row A1 (layB (placesF a g.things) (g.things.take g.things.length)).length c1 5 1 ((layB (placesF a g.things) (g.things.take g.things.length)).map u8), .box b8 41 [.sl 1 ((placesF a g.things).map zu)], .box b2 27 (gCells g), .row A2 i c2 29 1 ((wordsF (placesF a g.things) (g.roots.take i)).map zu)]) (fun (i : Nat) (A2 : Option Addr) (c2 : Nat) => i ≤ g.roots.length) (fun (i : Nat) (A2 : Option Addr) (c2 : Nat) => g.roots.length - i) 0 none 0 ?_ ?_ ?_ ?_
              · exact Nat.zero_le _
              · exact (Sub.cons rfl rfl (Sub.cons rfl rfl (Sub.cons rfl rfl (Sub.cons rfl rfl (Sub.cons rfl rfl (Sub.cons rfl rfl (Sub.cons rfl rfl Sub.nil)))))))
              · rfl
              ·
                intro i A2 c2 hinv
                refine AW.rseq ?_
                refine AWL.y rfl rfl (B rfl) (Yv.lss rfl (E rfl rfl) (E rfl rfl)) ?_
                refine AWL.nil ?_
                refine AW.seq ?_
                refine AW.cond rfl (fun h8t => ?_) (fun h8f => ?_)
                ·
                  try replace h8t := of_decide_eq_true h8t
                  refine AW.skip ?_
                  refine AW.seq ?_
                  refine AW.block ?_
                  refine AW.rseq ?_
                  refine AWL.y rfl rfl (B rfl) (Yv.indexSl rfl ss_22 (B rfl) (E rfl rfl) (E rfl rfl) (fun hg => ⟨rfl, (by first | omega | (simp only [len_zu, len_refs, len_things, len_u8s]; omega))⟩)) ?_
                  refine AWL.y rfl rfl (B rfl) (Yv.loadRpA rfl ag_54 (E rfl rfl) (fun hg => ref_get (by omega))) ?_
                  refine AWL.allocOp rfl rfl (B rfl) rfl zc_54 (fun b21 => ?_)
                  refine AWL.storeBox (i := 4) rfl rfl rfl ag_54 rfl (E rfl rfl) (E rfl rfl) rfl rfl (Nat.le_of_ble_eq_true rfl) ?_
                  refine AWL.nil ?_
                  refine AW.region ?_
                  refine AWL.y rfl rfl (B rfl) (Yv.move rfl (E rfl rfl)) ?_
                  refine AWL.y rfl rfl (B rfl) (Yv.move rfl (E rfl rfl)) ?_
                  refine AWL.y rfl rfl (B rfl) (Yv.loadBoxA rfl ag_54 (i := 4) rfl (E rfl rfl) rfl rfl) ?_
                  refine AWL.perm (List.Perm.swap _ _ _) ?_
                  refine AWL.callK rfl rfl (B rfl) rfl ce_49 (E rfl rfl) (evsC (E rfl rfl) evs0) (S1 := [.box b8 41 [.sl 1 ((placesF a g.things).map zu)]]) (S2 := _) rfl (value49 (g.roots.getD i default) (placesF a g.things) b8 (by rw [placesF_len]; exact fits_which (check_roots hck _ (getD_mem' (by omega))))) (fun t S h => h) ?_
                  refine AWL.perm (List.Perm.swap _ _ _) ?_
                  refine AWL.buildSlice1 rfl rfl (B rfl) rfl el_41 rfl (evsC (E rfl rfl) evs0) (Nat.le_of_ble_eq_true rfl) rfl rfl ?_
                  refine AWL.appendRow (i := 3) rfl rfl (B rfl) rfl el_41 (B rfl) rfl (E rfl rfl) (SrcT.sl so_41 (B rfl) (E rfl rfl) rfl) (by unfold maxLen; omega) (by omega) (fun A125 c125 => ?_)
                  refine AWL.y rfl rfl (B rfl) (Yv.assign rfl (E rfl rfl)) ?_
                  refine AWL.nil ?_
                  refine AW.dropAt 4 ?_
                  refine AW.region ?_
                  refine AWL.y rfl rfl (B rfl) (Yv.addN_i64 rfl (E rfl rfl) (E rfl rfl) (fun hg => by omega)) ?_
                  refine AWL.y rfl rfl (B rfl) (Yv.move rfl (E rfl rfl)) ?_
                  refine AWL.nil ?_
                  refine ⟨i + 1, A125, c125, by omega, by omega, Sub.cons rfl rfl (Sub.cons rfl rfl (Sub.cons rfl rfl (Sub.cons rfl rfl (Sub.cons rfl rfl (Sub.cons rfl rfl (Sub.cons rfl (by simp) Sub.nil)))))), ?_⟩
                  refine congrArg (fun q => [_, _, _, q]) (rowEq rfl ?_)
                  rw [wordsF_step (by omega), List.map_append]
                  rfl
                ·
                  try replace h8f := of_decide_eq_false h8f
                  refine AW.exit ?_
                  obtain rfl : i = g.roots.length := by omega
                  refine AW.freeze 0 14 rfl (B rfl) rfl ?_
                  refine AW.freeze 2 19 rfl (B rfl) rfl ?_
                  refine AW.rseq ?_
                  refine AWL.y rfl rfl (B rfl) (Yv.move rfl (E rfl rfl)) ?_
                  refine AWL.y rfl rfl (B rfl) (Yv.move rfl (E rfl rfl)) ?_
                  refine AWL.y rfl rfl (B rfl) (Yv.assign rfl (E rfl rfl)) ?_
                  refine AWL.y rfl rfl (B rfl) (Yv.assign rfl (E rfl rfl)) ?_
                  refine AWL.y rfl rfl (B rfl) (Yv.assign rfl (E rfl rfl)) ?_
                  refine AWL.nil ?_
                  refine AW.ret (retI (.tmp rfl (.tmp rfl (.tmp rfl .nil))) ?_)
                  rw [lay_ok hck (layOk_fine (by omega) hfin), List.take_length, List.take_length]
                  rfl

end Go.Proofs.Ytbndnmmceccbkaa
