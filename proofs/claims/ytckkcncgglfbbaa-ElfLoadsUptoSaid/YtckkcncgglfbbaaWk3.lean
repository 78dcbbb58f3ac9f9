/-
  CONTRACTS of the elf package: Same, part, load, Load; walked by program.
-/
import Derived.Test.YtckkcncgglfbbaaWk2
import Derived.Test.YtckkcncgglfbbaaLoad
namespace Go.Proofs.Ytckkcncgglfbbaa
open Go Go.RowKit
set_option linter.unusedVariables false

set_option maxHeartbeats 400000 in
theorem same17 (p q : Img) (hp : ImgOk p) (hq : ImgOk q) :
    ACalls Try.prog 17 [imgT p, imgT q] [] fun t S => t = .v (.bool (decide (p = q))) := by
  obtain ⟨hp1, hp2, hp3, hp4⟩ := hp
  have hp := (⟨hp1, hp2, hp3, hp4⟩ : ImgOk p)
  obtain ⟨hq1, hq2, hq3, hq4⟩ := hq
  have hq := (⟨hq1, hq2, hq3, hq4⟩ : ImgOk q)
  refine ACalls.intro Try.func17 rfl Try.ntmps17 (Nat.le_of_ble_eq_true rfl) rfl fun X w0 => ?_
  refine AW.rseq ?_
  refine AWL.boxOp rfl rfl (B rfl) rfl (E rfl rfl) rfl (fun b2 => ?_)
  refine AWL.boxOp rfl rfl (B rfl) rfl (E rfl rfl) rfl (fun b3 => ?_)
  refine AWL.y rfl rfl (B rfl) (Yv.assign rfl (E rfl rfl)) ?_
  refine AWL.nil ?_
  refine AW.seq ?_
  refine AW.rseq ?_
  refine AWL.y rfl rfl (B rfl) (Yv.fieldBox rfl fo_25_0 (E rfl rfl)) ?_
  refine AWL.y rfl rfl (B rfl) (Yv.loadBox rfl ag_22 (i := 0) rfl (E rfl rfl) rfl) ?_
  refine AWL.y rfl rfl (B rfl) (Yv.fieldBox rfl fo_25_0 (E rfl rfl)) ?_
  refine AWL.y rfl rfl (B rfl) (Yv.loadBox rfl ag_22 (i := 1) rfl (E rfl rfl) rfl) ?_
  refine AWL.y rfl rfl (B rfl) (Yv.neq rfl (E rfl rfl) (E rfl rfl)) ?_
  refine AWL.y rfl rfl (B rfl) (Yv.move rfl (E rfl rfl)) ?_
  refine AWL.ygF rfl rfl rfl rfl (B rfl) (Yv.fieldBox rfl fo_25_1 (E rfl rfl)) ?_
  refine AWL.ygF rfl rfl rfl rfl (B rfl) (Yv.loadBox rfl ag_23 (i := 0) rfl (Eg rfl rfl id) rfl) ?_
  refine AWL.ygF rfl rfl rfl rfl (B rfl) (Yv.lenSl rfl so_23 (B rfl) (Eg rfl rfl id) len_segs) ?_
  refine AWL.ygF rfl rfl rfl rfl (B rfl) (Yv.fieldBox rfl fo_25_1 (E rfl rfl)) ?_
  refine AWL.ygF rfl rfl rfl rfl (B rfl) (Yv.loadBox rfl ag_23 (i := 1) rfl (Eg rfl rfl id) rfl) ?_
  refine AWL.ygF rfl rfl rfl rfl (B rfl) (Yv.lenSl rfl so_23 (B rfl) (Eg rfl rfl id) len_segs) ?_
  refine AWL.ygF rfl rfl rfl rfl (B rfl) (Yv.neq rfl (Eg rfl rfl id) (Eg rfl rfl id)) ?_
  refine AWL.y rfl rfl (B rfl) (Yv.pickOr (t := .const (.bool true)) rfl (E rfl rfl) (Eg rfl rfl id)) ?_
  refine AWL.nil ?_
  refine AW.cond rfl (fun h0t => ?_) (fun h0f => ?_)
  ·
    try replace h0t := of_decide_eq_true h0t
    refine AW.rseq ?_
    refine AWL.y rfl rfl (B rfl) (Yv.assign rfl (E rfl rfl)) ?_
    refine AWL.nil ?_
    refine AW.ret (retI (.tmp rfl .nil) ?_)
    simp only [Bool.or_eq_true, Bool.and_eq_true, Bool.or_eq_false_iff, Bool.and_eq_false_iff, Bool.not_eq_true', Bool.not_eq_false', decide_eq_true_eq, decide_eq_false_iff_not, Decidable.not_not] at h0t
    exact congrArg (fun x => T.v (.bool x)) (not_same0 h0t).symm
  ·
    try replace h0f := of_decide_eq_false h0f
    simp only [Bool.or_eq_true, Bool.and_eq_true, Bool.or_eq_false_iff, Bool.and_eq_false_iff, Bool.not_eq_true', Bool.not_eq_false', decide_eq_true_eq, decide_eq_false_iff_not, Decidable.not_not] at h0f
    obtain ⟨g1, g2⟩ := h0f
    refine AW.skip ?_
    refine AW.seq ?_
    refine AW.rseq ?_
    refine AWL.y rfl rfl (B rfl) (Yv.assign rfl (E rfl rfl)) ?_
    refine AWL.nil ?_
    refine AW.block ?_
    refine AW.loop (fun (j : Nat) => [(2, true, .v (.pointer (some ⟨b2, 0, none⟩))), (3, true, .v (.pointer (some ⟨b3, 0, none⟩))), (5, true, .v (.int .i64 (j : Int)))]) (fun (j : Nat) => [.box b2 25 [.v (.int .u64 p.entry), .sl 4 (p.segs.flatMap segCells)], .box b3 25 [.v (.int .u64 q.entry), .sl 4 (q.segs.flatMap segCells)]]) (fun (j : Nat) => j ≤ p.segs.length ∧ p.segs.take j = q.segs.take j) (fun (j : Nat) => p.segs.length - j) 0 ?_ ?_ ?_ ?_
    · exact ⟨Nat.zero_le _, rfl⟩
    · exact (Sub.cons rfl rfl (Sub.cons rfl rfl (Sub.cons rfl rfl Sub.nil)))
    · rfl
    ·
      intro j hinv
      obtain ⟨hj, htk⟩ := hinv
      refine AW.seq ?_
      refine AW.rseq ?_
      refine AWL.y rfl rfl (B rfl) (Yv.move rfl (E rfl rfl)) ?_
      refine AWL.y rfl rfl (B rfl) (Yv.fieldBox rfl fo_25_1 (E rfl rfl)) ?_
      refine AWL.y rfl rfl (B rfl) (Yv.loadBox rfl ag_23 (i := 0) rfl (E rfl rfl) rfl) ?_
      refine AWL.y rfl rfl (B rfl) (Yv.lenSl rfl so_23 (B rfl) (E rfl rfl) len_segs) ?_
      refine AWL.y rfl rfl (B rfl) (Yv.lss rfl (E rfl rfl) (E rfl rfl)) ?_
      refine AWL.nil ?_
      refine AW.cond rfl (fun h1t => ?_) (fun h1f => ?_)
      ·
        try replace h1t := of_decide_eq_true h1t
        refine AW.skip ?_
        refine AW.seq ?_
        refine AW.block ?_
        refine AW.rseq ?_
        refine AWL.y rfl rfl (B rfl) (Yv.fieldBox rfl fo_25_1 (E rfl rfl)) ?_
        refine AWL.y rfl rfl (B rfl) (Yv.loadBox rfl ag_23 (i := 0) rfl (E rfl rfl) rfl) ?_
        refine AWL.y rfl rfl (B rfl) (Yv.move rfl (E rfl rfl)) ?_
        refine AWL.y rfl rfl (B rfl) (Yv.indexSl rfl ss_23 (B rfl) (E rfl rfl) (E rfl rfl) (fun hg => ⟨rfl, (by first | omega | (simp only [len_u8s, len_segs]; omega))⟩)) ?_
        refine AWL.y rfl rfl (B rfl) (Yv.loadRpA rfl ag_42 (E rfl rfl) (fun hg => seg_get (by omega))) ?_
        refine AWL.allocOp rfl rfl (B rfl) rfl zc_42 (fun b6 => ?_)
        refine AWL.storeBox (i := 2) rfl rfl rfl ag_42 rfl (E rfl rfl) (E rfl rfl) rfl rfl (Nat.le_of_ble_eq_true rfl) ?_
        refine AWL.nil ?_
        refine AW.rseq ?_
        refine AWL.y rfl rfl (B rfl) (Yv.fieldBox rfl fo_25_1 (E rfl rfl)) ?_
        refine AWL.y rfl rfl (B rfl) (Yv.loadBox rfl ag_23 (i := 1) rfl (E rfl rfl) rfl) ?_
        refine AWL.y rfl rfl (B rfl) (Yv.move rfl (E rfl rfl)) ?_
        refine AWL.y rfl rfl (B rfl) (Yv.indexSl rfl ss_23 (B rfl) (E rfl rfl) (E rfl rfl) (fun hg => ⟨rfl, (by first | omega | (simp only [len_u8s, len_segs]; omega))⟩)) ?_
        refine AWL.y rfl rfl (B rfl) (Yv.loadRpA rfl ag_42 (E rfl rfl) (fun hg => seg_get (by omega))) ?_
        refine AWL.allocOp rfl rfl (B rfl) rfl zc_42 (fun b7 => ?_)
        refine AWL.storeBox (i := 3) rfl rfl rfl ag_42 rfl (E rfl rfl) (E rfl rfl) rfl rfl (Nat.le_of_ble_eq_true rfl) ?_
        refine AWL.nil ?_
        refine AW.rseq ?_
        refine AWL.y rfl rfl (B rfl) (Yv.fieldBox rfl fo_42_0 (E rfl rfl)) ?_
        refine AWL.y rfl rfl (B rfl) (Yv.loadBox rfl ag_22 (i := 2) rfl (E rfl rfl) rfl) ?_
        refine AWL.y rfl rfl (B rfl) (Yv.fieldBox rfl fo_42_0 (E rfl rfl)) ?_
        refine AWL.y rfl rfl (B rfl) (Yv.loadBox rfl ag_22 (i := 3) rfl (E rfl rfl) rfl) ?_
        refine AWL.y rfl rfl (B rfl) (Yv.neq rfl (E rfl rfl) (E rfl rfl)) ?_
        refine AWL.y rfl rfl (B rfl) (Yv.move rfl (E rfl rfl)) ?_
        refine AWL.ygF rfl rfl rfl rfl (B rfl) (Yv.fieldBox rfl fo_42_1 (E rfl rfl)) ?_
        refine AWL.ygF rfl rfl rfl rfl (B rfl) (Yv.loadBox rfl ag_22 (i := 2) rfl (Eg rfl rfl id) rfl) ?_
        refine AWL.ygF rfl rfl rfl rfl (B rfl) (Yv.fieldBox rfl fo_42_1 (E rfl rfl)) ?_
        refine AWL.ygF rfl rfl rfl rfl (B rfl) (Yv.loadBox rfl ag_22 (i := 3) rfl (Eg rfl rfl id) rfl) ?_
        refine AWL.ygF rfl rfl rfl rfl (B rfl) (Yv.neq rfl (Eg rfl rfl id) (Eg rfl rfl id)) ?_
        refine AWL.y rfl rfl (B rfl) (Yv.pickOr (t := .const (.bool true)) rfl (E rfl rfl) (Eg rfl rfl id)) ?_
        refine AWL.y rfl rfl (B rfl) (Yv.move rfl (E rfl rfl)) ?_
        refine AWL.ygF rfl rfl rfl rfl (B rfl) (Yv.fieldBox rfl fo_42_2 (E rfl rfl)) ?_
        refine AWL.ygF rfl rfl rfl rfl (B rfl) (Yv.loadBox rfl ag_3 (i := 2) rfl (Eg rfl rfl id) rfl) ?_
        refine AWL.ygF rfl rfl rfl rfl (B rfl) (Yv.fieldBox rfl fo_42_2 (E rfl rfl)) ?_
        refine AWL.ygF rfl rfl rfl rfl (B rfl) (Yv.loadBox rfl ag_3 (i := 3) rfl (Eg rfl rfl id) rfl) ?_
        refine AWL.ygF rfl rfl rfl rfl (B rfl) (Yv.neq rfl (Eg rfl rfl id) (Eg rfl rfl id)) ?_
        refine AWL.y rfl rfl (B rfl) (Yv.pickOr (t := .const (.bool true)) rfl (E rfl rfl) (Eg rfl rfl id)) ?_
        refine AWL.y rfl rfl (B rfl) (Yv.move rfl (E rfl rfl)) ?_
        refine AWL.ygF rfl rfl rfl rfl (B rfl) (Yv.fieldBox rfl fo_42_3 (E rfl rfl)) ?_
        refine AWL.ygF rfl rfl rfl rfl (B rfl) (Yv.loadBox rfl ag_27 (i := 2) rfl (Eg rfl rfl id) rfl) ?_
        refine AWL.ygF rfl rfl rfl rfl (B rfl) (Yv.bytesStr rfl by_27 st_9 (Eg rfl rfl id)) ?_
        refine AWL.ygF rfl rfl rfl rfl (B rfl) (Yv.fieldBox rfl fo_42_3 (E rfl rfl)) ?_
        refine AWL.ygF rfl rfl rfl rfl (B rfl) (Yv.loadBox rfl ag_27 (i := 3) rfl (Eg rfl rfl id) rfl) ?_
        refine AWL.ygF rfl rfl rfl rfl (B rfl) (Yv.bytesStr rfl by_27 st_9 (Eg rfl rfl id)) ?_
        refine AWL.ygF rfl rfl rfl rfl (B rfl) (Yv.neqS rfl (Eg rfl rfl id) (Eg rfl rfl id)) ?_
        refine AWL.y rfl rfl (B rfl) (Yv.pickOr (t := .const (.bool true)) rfl (E rfl rfl) (Eg rfl rfl id)) ?_
        refine AWL.nil ?_
        refine AW.cond rfl (fun h2t => ?_) (fun h2f => ?_)
        ·
          try replace h2t := of_decide_eq_true h2t
          refine AW.rseq ?_
          refine AWL.y rfl rfl (B rfl) (Yv.assign rfl (E rfl rfl)) ?_
          refine AWL.nil ?_
          refine AW.ret (retI (.tmp rfl .nil) ?_)
          exact congrArg (fun x => T.v (.bool x)) (not_same (by omega) (by omega) h2t).symm
        ·
          try replace h2f := of_decide_eq_false h2f
          refine AW.skip ?_
          refine AW.dropAt 3 ?_
          refine AW.dropAt 2 ?_
          refine AW.region ?_
          refine AWL.y rfl rfl (B rfl) (Yv.move rfl (E rfl rfl)) ?_
          refine AWL.y rfl rfl (B rfl) (Yv.addN_i64 rfl (E rfl rfl) (E rfl rfl) (fun hg => by omega)) ?_
          refine AWL.y rfl rfl (B rfl) (Yv.assign rfl (E rfl rfl)) ?_
          refine AWL.nil ?_
          refine ⟨j + 1, ⟨by omega, ?_⟩, by omega, Sub.cons rfl rfl (Sub.cons rfl rfl (Sub.cons rfl (by simp) Sub.nil)), rfl⟩
          exact take_more htk (by omega) (by omega) (seg_eq h2f)
      ·
        try replace h1f := of_decide_eq_false h1f
        refine AW.exit ?_
        refine AW.rseq ?_
        refine AWL.y rfl rfl (B rfl) (Yv.assign rfl (E rfl rfl)) ?_
        refine AWL.nil ?_
        refine AW.ret (retI (.tmp rfl .nil) ?_)
        exact congrArg (fun x => T.v (.bool x)) (is_same g1 (by omega) htk (by omega)).symm

set_option maxHeartbeats 400000 in
theorem part38 (bs : List UInt8) (a : Int) (h0 : 0 ≤ a) (h1 : a + 56 ≤ bs.length) (h2 : bs.length ≤ 1099511627776) :
    ACalls Try.prog 38 [u8s bs, .v (.int .u64 a)] [] (fun t S => ∃ cs, t = .tup [.agg [.v (.int .u64 (num bs (a + 16) 8)), .v (.int .u64 (num bs (a + 40) 8)), .v (.int .i64 (num bs (a + 4) 4 % 8)), .sl 1 cs], .v (.bool (partOk bs a))] ∧ (partOk bs a = true → cs = (partSeg bs a).data.map u8)) := by
  have n1 := num8 bs (a + 8)
  have n2 := num8 bs (a + 32)
  have n3 := num8 bs (a + 16)
  have n4 := num8 bs (a + 40)
  have n5 := num4 bs (a + 4)
  refine ACalls.intro Try.func38 rfl Try.ntmps38 (Nat.le_of_ble_eq_true rfl) rfl fun X w0 => ?_
  refine AW.rseq ?_
  refine AWL.allocOp rfl rfl (B rfl) rfl zc_42 (fun b4 => ?_)
  refine AWL.y rfl rfl (B rfl) (Yv.assign rfl (E rfl rfl)) ?_
  refine AWL.nil ?_
  refine AW.rseq ?_
  refine AWL.y rfl rfl (B rfl) (Yv.move rfl (E rfl rfl)) ?_
  refine AWL.y rfl rfl (B rfl) (Yv.move rfl (E rfl rfl)) ?_
  refine AWL.y rfl rfl (B rfl) (Yv.addN_u64 rfl (E rfl rfl) (E rfl rfl) (fun hg => by omega)) ?_
  refine AWL.callP rfl rfl (B rfl) rfl ce_36 (E rfl rfl) (evsC (E rfl rfl) (evsC (E rfl rfl) evs0)) (take36 bs _ (by omega) (by omega) (by omega)) (fun t S h => h) ?_
  refine AWL.y rfl rfl (B rfl) (Yv.move rfl (E rfl rfl)) ?_
  refine AWL.y rfl rfl (B rfl) (Yv.move rfl (E rfl rfl)) ?_
  refine AWL.y rfl rfl (B rfl) (Yv.addN_u64 rfl (E rfl rfl) (E rfl rfl) (fun hg => by omega)) ?_
  refine AWL.callP rfl rfl (B rfl) rfl ce_36 (E rfl rfl) (evsC (E rfl rfl) (evsC (E rfl rfl) evs0)) (take36 bs _ (by omega) (by omega) (by omega)) (fun t S h => h) ?_
  refine AWL.y rfl rfl (B rfl) (Yv.assign rfl (E rfl rfl)) ?_
  refine AWL.y rfl rfl (B rfl) (Yv.assign rfl (E rfl rfl)) ?_
  refine AWL.nil ?_
  refine AW.rseq ?_
  refine AWL.y rfl rfl (B rfl) (Yv.move rfl (E rfl rfl)) ?_
  refine AWL.y rfl rfl (B rfl) (Yv.move rfl (E rfl rfl)) ?_
  refine AWL.y rfl rfl (B rfl) (Yv.addN_u64 rfl (E rfl rfl) (E rfl rfl) (fun hg => by omega)) ?_
  refine AWL.callP rfl rfl (B rfl) rfl ce_36 (E rfl rfl) (evsC (E rfl rfl) (evsC (E rfl rfl) evs0)) (take36 bs _ (by omega) (by omega) (by omega)) (fun t S h => h) ?_
  refine AWL.y rfl rfl (B rfl) (Yv.move rfl (E rfl rfl)) ?_
  refine AWL.y rfl rfl (B rfl) (Yv.move rfl (E rfl rfl)) ?_
  refine AWL.y rfl rfl (B rfl) (Yv.addN_u64 rfl (E rfl rfl) (E rfl rfl) (fun hg => by omega)) ?_
  refine AWL.callP rfl rfl (B rfl) rfl ce_36 (E rfl rfl) (evsC (E rfl rfl) (evsC (E rfl rfl) evs0)) (take36 bs _ (by omega) (by omega) (by omega)) (fun t S h => h) ?_
  refine AWL.y rfl rfl (B rfl) (Yv.move rfl (E rfl rfl)) ?_
  refine AWL.y rfl rfl (B rfl) (Yv.move rfl (E rfl rfl)) ?_
  refine AWL.y rfl rfl (B rfl) (Yv.addN_u64 rfl (E rfl rfl) (E rfl rfl) (fun hg => by omega)) ?_
  refine AWL.callP rfl rfl (B rfl) rfl ce_35 (E rfl rfl) (evsC (E rfl rfl) (evsC (E rfl rfl) evs0)) (take35 bs _ (by omega) (by omega) (by omega)) (fun t S h => h) ?_
  refine AWL.y rfl rfl (B rfl) (Yv.andN_u32 3 8 (by decide) (by decide) (by decide) rfl (E rfl rfl) (E rfl rfl) (fun hg => ⟨by omega, by omega⟩)) ?_
  refine AWL.y rfl rfl (B rfl) (Yv.convN_i64 rfl Try.underlying45 kd_3 (E rfl rfl) (fun hg => by omega)) ?_
  refine AWL.y rfl rfl (B rfl) (Yv.buildS rfl sh_42 (evpC (E rfl rfl) (evpC (E rfl rfl) (evpC (E rfl rfl) evp0))) (fun _ => rfl)) ?_
  refine AWL.allocOp rfl rfl (B rfl) rfl zc_42 (fun b8 => ?_)
  refine AWL.storeBox (i := 1) rfl rfl rfl ag_42 rfl (E rfl rfl) (E rfl rfl) rfl rfl (Nat.le_of_ble_eq_true rfl) ?_
  refine AWL.nil ?_
  refine AW.seq ?_
  refine AW.rseq ?_
  refine AWL.y rfl rfl (B rfl) (Yv.move rfl (E rfl rfl)) ?_
  refine AWL.y rfl rfl (B rfl) (Yv.move rfl (E rfl rfl)) ?_
  refine AWL.y rfl rfl (B rfl) (Yv.move rfl (E rfl rfl)) ?_
  refine AWL.callP rfl rfl (B rfl) rfl ce_37 (E rfl rfl) (evsC (E rfl rfl) (evsC (E rfl rfl) (evsC (E rfl rfl) evs0))) (within37 bs _ _ (by omega) (by omega) (by omega) (by omega)) (fun t S h => h) ?_
  refine AWL.y rfl rfl (B rfl) (Yv.not rfl (E rfl rfl)) ?_
  refine AWL.y rfl rfl (B rfl) (Yv.move rfl (E rfl rfl)) ?_
  refine AWL.ygF rfl rfl rfl rfl (B rfl) (Yv.fieldBox rfl fo_42_0 (E rfl rfl)) ?_
  refine AWL.ygF rfl rfl rfl rfl (B rfl) (Yv.loadBox rfl ag_22 (i := 1) rfl (Eg rfl rfl id) rfl) ?_
  refine AWL.ygF rfl rfl rfl rfl (B rfl) (Yv.remN rfl (Eg rfl rfl id) (E rfl rfl) (fun hg => by first | omega | (simp only [Bool.and_eq_true, Bool.or_eq_false_iff, Bool.not_eq_true', Bool.not_eq_false', decide_eq_true_eq, decide_eq_false_iff_not] at hg; omega))) ?_
  refine AWL.ygF rfl rfl rfl rfl (B rfl) (Yv.move rfl (E rfl rfl)) ?_
  refine AWL.ygF rfl rfl rfl rfl (B rfl) (Yv.remN rfl (Eg rfl rfl id) (E rfl rfl) (fun hg => by first | omega | (simp only [Bool.and_eq_true, Bool.or_eq_false_iff, Bool.not_eq_true', Bool.not_eq_false', decide_eq_true_eq, decide_eq_false_iff_not] at hg; omega))) ?_
  refine AWL.ygF rfl rfl rfl rfl (B rfl) (Yv.neq rfl (Eg rfl rfl id) (Eg rfl rfl id)) ?_
  refine AWL.y rfl rfl (B rfl) (Yv.pickOr (t := .const (.bool true)) rfl (E rfl rfl) (Eg rfl rfl id)) ?_
  refine AWL.nil ?_
  refine AW.cond rfl (fun h0t => ?_) (fun h0f => ?_)
  ·
    try replace h0t := of_decide_eq_true h0t
    refine AW.rowNil 5 1 ?_
    refine AW.freezeCell 2 1 3 rfl (B rfl) rfl rfl ?_
    refine AW.rseq ?_
    refine AWL.y rfl rfl (B rfl) (Yv.loadBoxA rfl ag_42 (i := 1) rfl (E rfl rfl) rfl rfl) ?_
    refine AWL.storeBox (i := 0) rfl rfl rfl ag_42 rfl (E rfl rfl) (E rfl rfl) rfl rfl (Nat.le_of_ble_eq_true rfl) ?_
    refine AWL.y rfl rfl (B rfl) (Yv.assign rfl (E rfl rfl)) ?_
    refine AWL.nil ?_
    refine AW.ret (retI (.cellA (i := 0) rfl ag_42 rfl rfl rfl (.tmp rfl .nil)) ?_)
    simp only [Bool.or_eq_true, Bool.and_eq_true, Bool.or_eq_false_iff, Bool.and_eq_false_iff, Bool.not_eq_true', Bool.not_eq_false', decide_eq_true_eq, decide_eq_false_iff_not, Decidable.not_not] at h0t
    have hc : partOk bs a = false := by
      rw [← Bool.not_eq_true]
      simp only [partOk, Bool.and_eq_true, decide_eq_true_eq]
      omega
    rw [hc]
    exact ⟨_, rfl, fun h => by cases h⟩
  ·
    try replace h0f := of_decide_eq_false h0f
    simp only [Bool.or_eq_true, Bool.and_eq_true, Bool.or_eq_false_iff, Bool.and_eq_false_iff, Bool.not_eq_true', Bool.not_eq_false', decide_eq_true_eq, decide_eq_false_iff_not, Decidable.not_not] at h0f
    obtain ⟨⟨w1, w2⟩, w3⟩ := h0f
    refine AW.skip ?_
    refine AW.rseq ?_
    refine AWL.y rfl rfl (B rfl) (Yv.move rfl (E rfl rfl)) ?_
    refine AWL.y rfl rfl (B rfl) (Yv.move rfl (E rfl rfl)) ?_
    refine AWL.y rfl rfl (B rfl) (Yv.move rfl (E rfl rfl)) ?_
    refine AWL.y rfl rfl (B rfl) (Yv.move rfl (E rfl rfl)) ?_
    refine AWL.y rfl rfl (B rfl) (Yv.addN_u64 rfl (E rfl rfl) (E rfl rfl) (fun hg => by omega)) ?_
    refine AWL.y rfl rfl (B rfl) (Yv.sliceMap rfl ss_27 (E rfl rfl) (Bound.some_ (E rfl rfl) (fun hg => (Int.toNat_of_nonneg (by omega)).symm)) (Bound.some_ (E rfl rfl) (fun hg => (Int.toNat_of_nonneg (by omega)).symm)) (fun hg => ⟨by omega, by omega⟩)) ?_
    refine AWL.callT rfl rfl (B rfl) rfl ce_40 (E rfl rfl) (evsC (E rfl rfl) evs0) (clone40 _ (by simp only [List.length_take, List.length_drop]; omega)) ?_
    rintro t52 S52 rfl
    refine AWL.y rfl rfl (B rfl) (Yv.fieldBox rfl fo_42_3 (E rfl rfl)) ?_
    refine AWL.storeBox (i := 1) rfl rfl rfl ag_27 rfl (E rfl rfl) (E rfl rfl) rfl rfl (Nat.le_of_ble_eq_true rfl) ?_
    refine AWL.nil ?_
    refine AW.rseq ?_
    refine AWL.y rfl rfl (B rfl) (Yv.loadBoxA rfl ag_42 (i := 1) rfl (E rfl rfl) rfl rfl) ?_
    refine AWL.storeBox (i := 0) rfl rfl rfl ag_42 rfl (E rfl rfl) (E rfl rfl) rfl rfl (Nat.le_of_ble_eq_true rfl) ?_
    refine AWL.y rfl rfl (B rfl) (Yv.assign rfl (E rfl rfl)) ?_
    refine AWL.nil ?_
    refine AW.ret (retI (.cellA (i := 0) rfl ag_42 rfl rfl rfl (.tmp rfl .nil)) ?_)
    have hc : partOk bs a = true := by
      simp only [partOk, Bool.and_eq_true, decide_eq_true_eq]
      exact ⟨⟨w1, w2⟩, w3⟩
    rw [hc]
    refine ⟨_, rfl, fun _ => ?_⟩
    have e : (num bs (a + 8) 8 + num bs (a + 32) 8).toNat - (num bs (a + 8) 8).toNat = (num bs (a + 32) 8).toNat := by omega
    rw [e]
    rfl

set_option maxHeartbeats 400000 in
theorem load29 (bs : List UInt8) (h2 : bs.length ≤ 1099511627776) :
    ACalls Try.prog 29 [u8s bs] [] (fun t S => ∃ e cs, t = .tup [.agg [.v (.int .u64 e), .sl 4 cs], .v (.bool (loadF bs).isSome)] ∧ ∀ i, loadF bs = some i → e = i.entry ∧ cs = i.segs.flatMap segCells) := by
  have n1 := num8 bs 24
  have n2 := num8 bs 32
  have n3 := num2 bs 56
  refine ACalls.intro Try.func29 rfl Try.ntmps29 (Nat.le_of_ble_eq_true rfl) rfl fun X w0 => ?_
  refine AW.rseq ?_
  refine AWL.allocOp rfl rfl (B rfl) rfl zc_25 (fun b2 => ?_)
  refine AWL.y rfl rfl (B rfl) (Yv.assign rfl (E rfl rfl)) ?_
  refine AWL.nil ?_
  refine AW.rseq ?_
  refine AWL.allocOp rfl rfl (B rfl) rfl zc_25 (fun b4 => ?_)
  refine AWL.nil ?_
  refine AW.rowNil 42 4 ?_
  refine AW.seq ?_
  refine AW.rseq ?_
  refine AWL.y rfl rfl (B rfl) (Yv.move rfl (E rfl rfl)) ?_
  refine AWL.y rfl rfl (B rfl) (Yv.lenSl rfl so_27 (B rfl) (E rfl rfl) len_u8s) ?_
  refine AWL.y rfl rfl (B rfl) (Yv.lss rfl (E rfl rfl) (E rfl rfl)) ?_
  refine AWL.y rfl rfl (B rfl) (Yv.move rfl (E rfl rfl)) ?_
  refine AWL.ygF rfl rfl rfl rfl (B rfl) (Yv.move rfl (E rfl rfl)) ?_
  refine AWL.ygF rfl rfl rfl rfl (B rfl) (Yv.sliceMap rfl ss_27 (Eg rfl rfl id) Bound.none_ (Bound.some_ (E rfl rfl) (fun hg => (Int.toNat_of_nonneg (by omega)).symm)) (fun hg => ⟨by first | omega | (simp only [Bool.and_eq_true, Bool.or_eq_false_iff, Bool.not_eq_true', Bool.not_eq_false', decide_eq_true_eq, decide_eq_false_iff_not] at hg; omega), by first | omega | (simp only [Bool.and_eq_true, Bool.or_eq_false_iff, Bool.not_eq_true', Bool.not_eq_false', decide_eq_true_eq, decide_eq_false_iff_not] at hg; omega)⟩)) ?_
  refine AWL.ygF rfl rfl rfl rfl (B rfl) (Yv.bytesStr rfl by_27 st_9 (Eg rfl rfl id)) ?_
  refine AWL.callPgF rfl rfl rfl rfl (B rfl) rfl ce_33 (E rfl rfl) (evsC (Eg rfl rfl id) (evsC (E rfl rfl) evs0)) (fun hg => hasPrefix33 _ _ (by simp only [ByteArray.size, List.size_toArray, List.length_take, List.length_drop]; omega) (by decide)) (fun t S h => h) ?_
  refine AWL.ygF rfl rfl rfl rfl (B rfl) (Yv.not rfl (Eg rfl rfl id)) ?_
  refine AWL.y rfl rfl (B rfl) (Yv.pickOr (t := .const (.bool true)) rfl (E rfl rfl) (Eg rfl rfl id)) ?_
  refine AWL.nil ?_
  refine AW.cond rfl (fun h0t => ?_) (fun h0f => ?_)
  ·
    try replace h0t := of_decide_eq_true h0t
    rw [Bool.or_eq_true] at h0t
    replace h0t := h0t.imp of_decide_eq_true id
    refine AW.freezeCell 2 1 1 rfl (B rfl) rfl rfl ?_
    refine AW.rseq ?_
    refine AWL.y rfl rfl (B rfl) (Yv.loadBoxA rfl ag_25 (i := 1) rfl (E rfl rfl) rfl rfl) ?_
    refine AWL.storeBox (i := 0) rfl rfl rfl ag_25 rfl (E rfl rfl) (E rfl rfl) rfl rfl (Nat.le_of_ble_eq_true rfl) ?_
    refine AWL.y rfl rfl (B rfl) (Yv.assign rfl (E rfl rfl)) ?_
    refine AWL.nil ?_
    refine AW.ret (retI (.cellA (i := 0) rfl ag_25 rfl rfl rfl (.tmp rfl .nil)) ?_)
    have hc : loadF bs = none := by
      apply loadF_hdr
      rw [← Bool.not_eq_true]
      intro hh
      simp only [hdrB, Bool.and_eq_true, decide_eq_true_eq] at hh
      obtain ⟨⟨q1, q2⟩, q3⟩ := hh
      rcases h0t with h | h
      · omega
      · rw [head_magic (by omega), q2] at h
        simp at h
    rw [hc]
    exact ⟨_, _, rfl, fun i h => by cases h⟩
  ·
    try replace h0f := of_decide_eq_false h0f
    rw [Bool.or_eq_false_iff] at h0f
    obtain ⟨g1, g2⟩ := h0f
    replace g1 := of_decide_eq_false g1
    rw [head_magic (by omega)] at g2
    simp only [Bool.not_eq_false', decide_eq_true_eq] at g2
    refine AW.skip ?_
    refine AW.seq ?_
    refine AW.rseq ?_
    refine AWL.y rfl rfl (B rfl) (Yv.move rfl (E rfl rfl)) ?_
    refine AWL.callP rfl rfl (B rfl) rfl ce_34 (E rfl rfl) (evsC (E rfl rfl) (evsC (E rfl rfl) evs0)) (take34 bs _ (by omega) (by omega) (by omega)) (fun t S h => h) ?_
    refine AWL.y rfl rfl (B rfl) (Yv.neq rfl (E rfl rfl) (E rfl rfl)) ?_
    refine AWL.y rfl rfl (B rfl) (Yv.move rfl (E rfl rfl)) ?_
    refine AWL.ygF rfl rfl rfl rfl (B rfl) (Yv.move rfl (E rfl rfl)) ?_
    refine AWL.callPgF rfl rfl rfl rfl (B rfl) rfl ce_34 (E rfl rfl) (evsC (Eg rfl rfl id) (evsC (E rfl rfl) evs0)) (fun hg => take34 bs _ (by omega) (by omega) (by omega)) (fun t S h => h) ?_
    refine AWL.ygF rfl rfl rfl rfl (B rfl) (Yv.neq rfl (Eg rfl rfl id) (E rfl rfl)) ?_
    refine AWL.y rfl rfl (B rfl) (Yv.pickOr (t := .const (.bool true)) rfl (E rfl rfl) (Eg rfl rfl id)) ?_
    refine AWL.y rfl rfl (B rfl) (Yv.move rfl (E rfl rfl)) ?_
    refine AWL.ygF rfl rfl rfl rfl (B rfl) (Yv.move rfl (E rfl rfl)) ?_
    refine AWL.callPgF rfl rfl rfl rfl (B rfl) rfl ce_35 (E rfl rfl) (evsC (Eg rfl rfl id) (evsC (E rfl rfl) evs0)) (fun hg => take35 bs _ (by omega) (by omega) (by omega)) (fun t S h => h) ?_
    refine AWL.ygF rfl rfl rfl rfl (B rfl) (Yv.neq rfl (Eg rfl rfl id) (E rfl rfl)) ?_
    refine AWL.y rfl rfl (B rfl) (Yv.pickOr (t := .const (.bool true)) rfl (E rfl rfl) (Eg rfl rfl id)) ?_
    refine AWL.y rfl rfl (B rfl) (Yv.move rfl (E rfl rfl)) ?_
    refine AWL.ygF rfl rfl rfl rfl (B rfl) (Yv.move rfl (E rfl rfl)) ?_
    refine AWL.callPgF rfl rfl rfl rfl (B rfl) rfl ce_34 (E rfl rfl) (evsC (Eg rfl rfl id) (evsC (E rfl rfl) evs0)) (fun hg => take34 bs _ (by omega) (by omega) (by omega)) (fun t S h => h) ?_
    refine AWL.ygF rfl rfl rfl rfl (B rfl) (Yv.neq rfl (Eg rfl rfl id) (E rfl rfl)) ?_
    refine AWL.y rfl rfl (B rfl) (Yv.pickOr (t := .const (.bool true)) rfl (E rfl rfl) (Eg rfl rfl id)) ?_
    refine AWL.y rfl rfl (B rfl) (Yv.move rfl (E rfl rfl)) ?_
    refine AWL.ygF rfl rfl rfl rfl (B rfl) (Yv.move rfl (E rfl rfl)) ?_
    refine AWL.callPgF rfl rfl rfl rfl (B rfl) rfl ce_34 (E rfl rfl) (evsC (Eg rfl rfl id) (evsC (E rfl rfl) evs0)) (fun hg => take34 bs _ (by omega) (by omega) (by omega)) (fun t S h => h) ?_
    refine AWL.ygF rfl rfl rfl rfl (B rfl) (Yv.neq rfl (Eg rfl rfl id) (E rfl rfl)) ?_
    refine AWL.y rfl rfl (B rfl) (Yv.pickOr (t := .const (.bool true)) rfl (E rfl rfl) (Eg rfl rfl id)) ?_
    refine AWL.nil ?_
    refine AW.cond rfl (fun h1t => ?_) (fun h1f => ?_)
    ·
      try replace h1t := of_decide_eq_true h1t
      simp only [Bool.or_eq_true, Bool.and_eq_true, Bool.or_eq_false_iff, Bool.and_eq_false_iff, Bool.not_eq_true', Bool.not_eq_false', decide_eq_true_eq, decide_eq_false_iff_not, Decidable.not_not] at h1t
      refine AW.freezeCell 2 1 1 rfl (B rfl) rfl rfl ?_
      refine AW.rseq ?_
      refine AWL.y rfl rfl (B rfl) (Yv.loadBoxA rfl ag_25 (i := 1) rfl (E rfl rfl) rfl rfl) ?_
      refine AWL.storeBox (i := 0) rfl rfl rfl ag_25 rfl (E rfl rfl) (E rfl rfl) rfl rfl (Nat.le_of_ble_eq_true rfl) ?_
      refine AWL.y rfl rfl (B rfl) (Yv.assign rfl (E rfl rfl)) ?_
      refine AWL.nil ?_
      refine AW.ret (retI (.cellA (i := 0) rfl ag_25 rfl rfl rfl (.tmp rfl .nil)) ?_)
      have hc : loadF bs = none := by
        apply loadF_hdr
        rw [← Bool.not_eq_true]
        simp only [hdrB, kindsB, Bool.and_eq_true, decide_eq_true_eq]
        omega
      rw [hc]
      exact ⟨_, _, rfl, fun i h => by cases h⟩
    ·
      try replace h1f := of_decide_eq_false h1f
      simp only [Bool.or_eq_true, Bool.and_eq_true, Bool.or_eq_false_iff, Bool.and_eq_false_iff, Bool.not_eq_true', Bool.not_eq_false', decide_eq_true_eq, decide_eq_false_iff_not, Decidable.not_not] at h1f
      obtain ⟨⟨⟨⟨k1, k2⟩, k3⟩, k4⟩, k5⟩ := h1f
      have hh : hdrB bs = true := by
        simp only [hdrB, kindsB, Bool.and_eq_true, decide_eq_true_eq]
        exact ⟨⟨by omega, g2⟩, ⟨⟨⟨k1, k2⟩, k3⟩, k4⟩, k5⟩
      refine AW.skip ?_
      refine AW.rseq ?_
      refine AWL.y rfl rfl (B rfl) (Yv.move rfl (E rfl rfl)) ?_
      refine AWL.callP rfl rfl (B rfl) rfl ce_36 (E rfl rfl) (evsC (E rfl rfl) (evsC (E rfl rfl) evs0)) (take36 bs _ (by omega) (by omega) (by omega)) (fun t S h => h) ?_
      refine AWL.y rfl rfl (B rfl) (Yv.fieldBox rfl fo_25_0 (E rfl rfl)) ?_
      refine AWL.storeBox (i := 1) rfl rfl rfl ag_22 rfl (E rfl rfl) (E rfl rfl) rfl rfl (Nat.le_of_ble_eq_true rfl) ?_
      refine AWL.nil ?_
      refine AW.rseq ?_
      refine AWL.y rfl rfl (B rfl) (Yv.move rfl (E rfl rfl)) ?_
      refine AWL.callP rfl rfl (B rfl) rfl ce_36 (E rfl rfl) (evsC (E rfl rfl) (evsC (E rfl rfl) evs0)) (take36 bs _ (by omega) (by omega) (by omega)) (fun t S h => h) ?_
      refine AWL.y rfl rfl (B rfl) (Yv.move rfl (E rfl rfl)) ?_
      refine AWL.callP rfl rfl (B rfl) rfl ce_34 (E rfl rfl) (evsC (E rfl rfl) (evsC (E rfl rfl) evs0)) (take34 bs _ (by omega) (by omega) (by omega)) (fun t S h => h) ?_
      refine AWL.y rfl rfl (B rfl) (Yv.convN_u64 rfl Try.underlying47 kd_22 (E rfl rfl) (fun hg => by omega)) ?_
      refine AWL.y rfl rfl (B rfl) (Yv.assign rfl (E rfl rfl)) ?_
      refine AWL.y rfl rfl (B rfl) (Yv.assign rfl (E rfl rfl)) ?_
      refine AWL.nil ?_
      refine AW.seq ?_
      refine AW.rseq ?_
      refine AWL.y rfl rfl (B rfl) (Yv.move rfl (E rfl rfl)) ?_
      refine AWL.y rfl rfl (B rfl) (Yv.lss rfl (E rfl rfl) (E rfl rfl)) ?_
      refine AWL.y rfl rfl (B rfl) (Yv.move rfl (E rfl rfl)) ?_
      refine AWL.ygF rfl rfl rfl rfl (B rfl) (Yv.move rfl (E rfl rfl)) ?_
      refine AWL.ygF rfl rfl rfl rfl (B rfl) (Yv.gtr rfl (Eg rfl rfl id) (E rfl rfl)) ?_
      refine AWL.y rfl rfl (B rfl) (Yv.pickOr (t := .const (.bool true)) rfl (E rfl rfl) (Eg rfl rfl id)) ?_
      refine AWL.y rfl rfl (B rfl) (Yv.move rfl (E rfl rfl)) ?_
      refine AWL.ygF rfl rfl rfl rfl (B rfl) (Yv.move rfl (E rfl rfl)) ?_
      refine AWL.ygF rfl rfl rfl rfl (B rfl) (Yv.move rfl (E rfl rfl)) ?_
      refine AWL.ygF rfl rfl rfl rfl (B rfl) (Yv.move rfl (E rfl rfl)) ?_
      refine AWL.ygF rfl rfl rfl rfl (B rfl) (Yv.mulN_u64 rfl (Eg rfl rfl id) (E rfl rfl) (fun hg => by first | omega | (simp only [Bool.and_eq_true, Bool.or_eq_false_iff, Bool.not_eq_true', Bool.not_eq_false', decide_eq_true_eq, decide_eq_false_iff_not] at hg; omega))) ?_
      refine AWL.callPgF rfl rfl rfl rfl (B rfl) rfl ce_37 (E rfl rfl) (evsC (Eg rfl rfl id) (evsC (Eg rfl rfl id) (evsC (Eg rfl rfl id) evs0))) (fun hg => within37 bs _ _ (by omega) (by omega) (by omega) (by omega)) (fun t S h => h) ?_
      refine AWL.ygF rfl rfl rfl rfl (B rfl) (Yv.not rfl (Eg rfl rfl id)) ?_
      refine AWL.y rfl rfl (B rfl) (Yv.pickOr (t := .const (.bool true)) rfl (E rfl rfl) (Eg rfl rfl id)) ?_
      refine AWL.nil ?_
      refine AW.cond rfl (fun h2t => ?_) (fun h2f => ?_)
      ·
        try replace h2t := of_decide_eq_true h2t
        simp only [Bool.or_eq_true, Bool.and_eq_true, Bool.or_eq_false_iff, Bool.and_eq_false_iff, Bool.not_eq_true', Bool.not_eq_false', decide_eq_true_eq, decide_eq_false_iff_not, Decidable.not_not] at h2t
        refine AW.freezeCell 2 1 1 rfl (B rfl) rfl rfl ?_
        refine AW.rseq ?_
        refine AWL.y rfl rfl (B rfl) (Yv.loadBoxA rfl ag_25 (i := 1) rfl (E rfl rfl) rfl rfl) ?_
        refine AWL.storeBox (i := 0) rfl rfl rfl ag_25 rfl (E rfl rfl) (E rfl rfl) rfl rfl (Nat.le_of_ble_eq_true rfl) ?_
        refine AWL.y rfl rfl (B rfl) (Yv.assign rfl (E rfl rfl)) ?_
        refine AWL.nil ?_
        refine AW.ret (retI (.cellA (i := 0) rfl ag_25 rfl rfl rfl (.tmp rfl .nil)) ?_)
        have hc : loadF bs = none := by
          apply loadF_tab
          rw [← Bool.not_eq_true]
          simp only [tableOk, Bool.and_eq_true, decide_eq_true_eq]
          omega
        rw [hc]
        exact ⟨_, _, rfl, fun i h => by cases h⟩
      ·
        try replace h2f := of_decide_eq_false h2f
        simp only [Bool.or_eq_true, Bool.and_eq_true, Bool.or_eq_false_iff, Bool.and_eq_false_iff, Bool.not_eq_true', Bool.not_eq_false', decide_eq_true_eq, decide_eq_false_iff_not, Decidable.not_not] at h2f
        obtain ⟨⟨t1, t2⟩, t3, t4⟩ := h2f
        have ht : tableOk bs = true := by
          simp only [tableOk, Bool.and_eq_true, decide_eq_true_eq]
          exact ⟨⟨⟨by omega, by omega⟩, by omega⟩, by omega⟩
        refine AW.skip ?_
        refine AW.seq ?_
        refine AW.rseq ?_
        refine AWL.y rfl rfl (B rfl) (Yv.move rfl (E rfl rfl)) ?_
        refine AWL.y rfl rfl (B rfl) (Yv.assign rfl (E rfl rfl)) ?_
        refine AWL.nil ?_
        refine AW.block ?_
        refine AW.loop4 (fun (j : Nat) (l : List Seg) (A : Option Addr) (c : Nat) => [(0, true, u8s bs), (2, true, .v (.pointer (some ⟨b2, 0, none⟩))), (4, true, .v (.pointer (some ⟨b4, 0, none⟩))), (5, true, .v (.int .u64 (num bs 32 8))), (6, true, .v (.int .u64 (num bs 56 2))), (7, true, .v (.int .u64 (num bs 32 8 + 56 * (j : Int))))]) (fun (j : Nat) (l : List Seg) (A : Option Addr) (c : Nat) => [.box b2 25 [.v (.int .u64 0), .v (.slice none 0 0)], .box b4 25 [.v (.int .u64 (num bs 24 8)), .v (.slice A l.length c)], .row A l.length c 42 4 (l.flatMap segCells)]) (fun (j : Nat) (l : List Seg) (A : Option Addr) (c : Nat) => j ≤ (num bs 56 2).toNat ∧ l.length ≤ j ∧ (loadRows bs ((num bs 56 2).toNat - j) (num bs 32 8 + 56 * (j : Int))).map (l ++ ·) = loadRows bs (num bs 56 2).toNat (num bs 32 8)) (fun (j : Nat) (l : List Seg) (A : Option Addr) (c : Nat) => (num bs 56 2).toNat - j) 0 ([]) none 0 ?_ ?_ ?_ ?_
        · exact ⟨Nat.zero_le _, Nat.le_refl _, by simp⟩
        · exact Sub.cons rfl rfl (Sub.cons rfl rfl (Sub.cons rfl rfl (Sub.cons rfl rfl (Sub.cons rfl rfl (Sub.cons rfl (by simp) Sub.nil)))))
        · rfl
        ·
          intro j l A c hinv
          obtain ⟨hj, hl, hrows⟩ := hinv
          refine AW.seq ?_
          refine AW.rseq ?_
          refine AWL.y rfl rfl (B rfl) (Yv.move rfl (E rfl rfl)) ?_
          refine AWL.y rfl rfl (B rfl) (Yv.move rfl (E rfl rfl)) ?_
          refine AWL.y rfl rfl (B rfl) (Yv.move rfl (E rfl rfl)) ?_
          refine AWL.y rfl rfl (B rfl) (Yv.mulN_u64 rfl (E rfl rfl) (E rfl rfl) (fun hg => by omega)) ?_
          refine AWL.y rfl rfl (B rfl) (Yv.addN_u64 rfl (E rfl rfl) (E rfl rfl) (fun hg => by omega)) ?_
          refine AWL.y rfl rfl (B rfl) (Yv.lss rfl (E rfl rfl) (E rfl rfl)) ?_
          refine AWL.nil ?_
          refine AW.cond rfl (fun h3t => ?_) (fun h3f => ?_)
          ·
            try replace h3t := of_decide_eq_true h3t
            refine AW.skip ?_
            refine AW.seq ?_
            refine AW.block ?_
            refine AW.rseq ?_
            refine AWL.y rfl rfl (B rfl) (Yv.move rfl (E rfl rfl)) ?_
            refine AWL.y rfl rfl (B rfl) (Yv.move rfl (E rfl rfl)) ?_
            refine AWL.callP rfl rfl (B rfl) rfl ce_35 (E rfl rfl) (evsC (E rfl rfl) (evsC (E rfl rfl) evs0)) (take35 bs _ (by omega) (by omega) (by omega)) (fun t S h => h) ?_
            refine AWL.nil ?_
            refine AW.block ?_
            refine AW.seq ?_
            refine AW.rseq ?_
            refine AWL.y rfl rfl (B rfl) (Yv.eql rfl (E rfl rfl) (E rfl rfl)) ?_
            refine AWL.y rfl rfl (B rfl) (Yv.assign rfl (E rfl rfl)) ?_
            refine AWL.nil ?_
            refine AW.cond rfl (fun h4t => ?_) (fun h4f => ?_)
            ·
              try replace h4t := of_decide_eq_true h4t
              refine AW.skip ?_
              refine AW.cond rfl (fun h5t => ?_) (fun h5f => ?_)
              ·
                try replace h5t := of_decide_eq_true h5t
                refine AW.exit ?_
                try refine AW.dropAt 3 ?_
                refine AW.region ?_
                refine AWL.y rfl rfl (B rfl) (Yv.move rfl (E rfl rfl)) ?_
                refine AWL.y rfl rfl (B rfl) (Yv.addN_u64 rfl (E rfl rfl) (E rfl rfl) (fun hg => by omega)) ?_
                refine AWL.y rfl rfl (B rfl) (Yv.assign rfl (E rfl rfl)) ?_
                refine AWL.nil ?_
                rw [rows_skip (by omega) (by omega)] at hrows
                refine ⟨j + 1, l, A, c, ⟨by omega, by omega, ?_⟩, by omega, ?_, rfl⟩
                · rw [← hrows]; congr 2 <;> omega
                · exact Sub.cons rfl rfl (Sub.cons rfl rfl (Sub.cons rfl rfl (Sub.cons rfl rfl (Sub.cons rfl rfl (Sub.cons rfl (by congr 2; omega) Sub.nil)))))
              ·
                try replace h5f := of_decide_eq_false h5f
                exact absurd h4t h5f
            ·
              try replace h4f := of_decide_eq_false h4f
              refine AW.region ?_
              refine AWL.y rfl rfl (B rfl) (Yv.eql rfl (E rfl rfl) (E rfl rfl)) ?_
              refine AWL.y rfl rfl (B rfl) (Yv.assign rfl (E rfl rfl)) ?_
              refine AWL.nil ?_
              refine AW.cond rfl (fun h6t => ?_) (fun h6f => ?_)
              ·
                try replace h6t := of_decide_eq_true h6t
                refine AW.exit ?_
                try refine AW.dropAt 3 ?_
                refine AW.region ?_
                refine AWL.y rfl rfl (B rfl) (Yv.move rfl (E rfl rfl)) ?_
                refine AWL.y rfl rfl (B rfl) (Yv.addN_u64 rfl (E rfl rfl) (E rfl rfl) (fun hg => by omega)) ?_
                refine AWL.y rfl rfl (B rfl) (Yv.assign rfl (E rfl rfl)) ?_
                refine AWL.nil ?_
                rw [rows_skip (by omega) (by omega)] at hrows
                refine ⟨j + 1, l, A, c, ⟨by omega, by omega, ?_⟩, by omega, ?_, rfl⟩
                · rw [← hrows]; congr 2 <;> omega
                · exact Sub.cons rfl rfl (Sub.cons rfl rfl (Sub.cons rfl rfl (Sub.cons rfl rfl (Sub.cons rfl rfl (Sub.cons rfl (by congr 2; omega) Sub.nil)))))
              ·
                try replace h6f := of_decide_eq_false h6f
                refine AW.rseq ?_
                refine AWL.y rfl rfl (B rfl) (Yv.eql rfl (E rfl rfl) (E rfl rfl)) ?_
                refine AWL.y rfl rfl (B rfl) (Yv.assign rfl (E rfl rfl)) ?_
                refine AWL.nil ?_
                refine AW.cond rfl (fun h7t => ?_) (fun h7f => ?_)
                ·
                  try replace h7t := of_decide_eq_true h7t
                  refine AW.rseq ?_
                  refine AWL.y rfl rfl (B rfl) (Yv.move rfl (E rfl rfl)) ?_
                  refine AWL.y rfl rfl (B rfl) (Yv.move rfl (E rfl rfl)) ?_
                  refine AWL.callT rfl rfl (B rfl) rfl ce_38 (E rfl rfl) (evsC (E rfl rfl) (evsC (E rfl rfl) evs0)) (part38 bs _ (by omega) (by omega) h2) ?_
                  rintro t89 S89 ⟨cs89, rfl, hcs89⟩
                  refine AWL.y rfl rfl (B rfl) (Yv.move rfl (E rfl rfl)) ?_
                  refine AWL.y rfl rfl (B rfl) (Yv.extract rfl (E rfl rfl) rfl) ?_
                  refine AWL.y rfl rfl (B rfl) (Yv.extract rfl (E rfl rfl) rfl) ?_
                  refine AWL.allocOp rfl rfl (B rfl) rfl zc_42 (fun b8 => ?_)
                  refine AWL.storeBox (i := 3) rfl rfl rfl ag_42 rfl (E rfl rfl) (E rfl rfl) rfl rfl (Nat.le_of_ble_eq_true rfl) ?_
                  refine AWL.y rfl rfl (B rfl) (Yv.assign rfl (E rfl rfl)) ?_
                  refine AWL.nil ?_
                  refine AW.seq ?_
                  refine AW.rseq ?_
                  refine AWL.y rfl rfl (B rfl) (Yv.move rfl (E rfl rfl)) ?_
                  refine AWL.y rfl rfl (B rfl) (Yv.not rfl (E rfl rfl)) ?_
                  refine AWL.nil ?_
                  refine AW.cond rfl (fun h8t => ?_) (fun h8f => ?_)
                  ·
                    try replace h8t := of_decide_eq_true h8t
                    refine AW.freezeCell 2 1 1 rfl (B rfl) rfl rfl ?_
                    refine AW.rseq ?_
                    refine AWL.y rfl rfl (B rfl) (Yv.loadBoxA rfl ag_25 (i := 1) rfl (E rfl rfl) rfl rfl) ?_
                    refine AWL.storeBox (i := 0) rfl rfl rfl ag_25 rfl (E rfl rfl) (E rfl rfl) rfl rfl (Nat.le_of_ble_eq_true rfl) ?_
                    refine AWL.y rfl rfl (B rfl) (Yv.assign rfl (E rfl rfl)) ?_
                    refine AWL.nil ?_
                    refine AW.ret (retI (.cellA (i := 0) rfl ag_25 rfl rfl rfl (.tmp rfl .nil)) ?_)
                    simp only [Bool.not_eq_true'] at h8t
                    have hc : loadF bs = none := by
                      rw [loadF_rows hh ht, ← hrows, rows_bad (by omega) h4f h6f (fun _ => h8t)]
                      rfl
                    rw [hc]
                    exact ⟨_, _, rfl, fun i h => by cases h⟩
                  ·
                    try replace h8f := of_decide_eq_false h8f
                    simp only [Bool.not_eq_false'] at h8f
                    have hpk := h8f
                    refine AW.skip ?_
                    refine AW.region ?_
                    refine AWL.y rfl rfl (B rfl) (Yv.fieldBox rfl fo_25_1 (E rfl rfl)) ?_
                    refine AWL.y rfl rfl (B rfl) (Yv.loadBox rfl ag_23 (i := 1) rfl (E rfl rfl) rfl) ?_
                    refine AWL.y rfl rfl (B rfl) (Yv.loadBoxA rfl ag_42 (i := 3) rfl (E rfl rfl) rfl rfl) ?_
                    refine AWL.buildSliceE rfl rfl (B rfl) rfl el_23 (B rfl) rfl (evsC (E rfl rfl) evs0) (Nat.le_of_ble_eq_true rfl) rfl rfl ?_
                    refine AWL.appendRow (i := 2) rfl rfl (B rfl) rfl el_23 (B rfl) rfl (E rfl rfl) (SrcT.sl so_23 (B rfl) (E rfl rfl) rfl) (by unfold maxLen; omega) (by omega) (fun A99 c99 => ?_)
                    refine AWL.y rfl rfl (B rfl) (Yv.fieldBox rfl fo_25_1 (E rfl rfl)) ?_
                    refine AWL.storeBox (i := 1) rfl rfl rfl ag_23 rfl (E rfl rfl) (E rfl rfl) rfl rfl (Nat.le_of_ble_eq_true rfl) ?_
                    refine AWL.nil ?_
                    try refine AW.dropAt 3 ?_
                    refine AW.region ?_
                    refine AWL.y rfl rfl (B rfl) (Yv.move rfl (E rfl rfl)) ?_
                    refine AWL.y rfl rfl (B rfl) (Yv.addN_u64 rfl (E rfl rfl) (E rfl rfl) (fun hg => by omega)) ?_
                    refine AWL.y rfl rfl (B rfl) (Yv.assign rfl (E rfl rfl)) ?_
                    refine AWL.nil ?_
                    rw [rows_load (by omega) h7t hpk] at hrows
                    refine ⟨j + 1, l ++ [partSeg bs (num bs 32 8 + 56 * (j : Int))], A99, c99, ⟨by omega, by simp; omega, ?_⟩, by omega, ?_, ?_⟩
                    · rw [← hrows, Option.map_map]; congr 2
                      · funext x; simp
                      · omega
                    · exact Sub.cons rfl rfl (Sub.cons rfl rfl (Sub.cons rfl rfl (Sub.cons rfl rfl (Sub.cons rfl rfl (Sub.cons rfl (by congr 2; omega) Sub.nil)))))
                    · simp only [List.length_append, List.length_singleton, List.flatMap_append, hcs89 hpk]; rfl
                ·
                  try replace h7f := of_decide_eq_false h7f
                  refine AW.freezeCell 2 1 1 rfl (B rfl) rfl rfl ?_
                  refine AW.rseq ?_
                  refine AWL.y rfl rfl (B rfl) (Yv.loadBoxA rfl ag_25 (i := 1) rfl (E rfl rfl) rfl rfl) ?_
                  refine AWL.storeBox (i := 0) rfl rfl rfl ag_25 rfl (E rfl rfl) (E rfl rfl) rfl rfl (Nat.le_of_ble_eq_true rfl) ?_
                  refine AWL.y rfl rfl (B rfl) (Yv.assign rfl (E rfl rfl)) ?_
                  refine AWL.nil ?_
                  refine AW.ret (retI (.cellA (i := 0) rfl ag_25 rfl rfl rfl (.tmp rfl .nil)) ?_)
                  have hc : loadF bs = none := by
                    rw [loadF_rows hh ht, ← hrows, rows_bad (by omega) h4f h6f (fun h => absurd h h7f)]
                    rfl
                  rw [hc]
                  exact ⟨_, _, rfl, fun i h => by cases h⟩
          ·
            try replace h3f := of_decide_eq_false h3f
            refine AW.exit ?_
            refine AW.freezeCell 2 1 1 rfl (B rfl) rfl rfl ?_
            refine AW.rseq ?_
            refine AWL.y rfl rfl (B rfl) (Yv.loadBoxA rfl ag_25 (i := 1) rfl (E rfl rfl) rfl rfl) ?_
            refine AWL.storeBox (i := 0) rfl rfl rfl ag_25 rfl (E rfl rfl) (E rfl rfl) rfl rfl (Nat.le_of_ble_eq_true rfl) ?_
            refine AWL.y rfl rfl (B rfl) (Yv.assign rfl (E rfl rfl)) ?_
            refine AWL.nil ?_
            refine AW.ret (retI (.cellA (i := 0) rfl ag_25 rfl rfl rfl (.tmp rfl .nil)) ?_)
            have hc : loadF bs = some ⟨num bs 24 8, l⟩ := by
              rw [loadF_rows hh ht, ← hrows, rows_done (by omega)]
              simp
            rw [hc]
            refine ⟨_, _, rfl, fun i h => ?_⟩
            obtain rfl := Option.some.inj h
            exact ⟨rfl, rfl⟩

theorem chk24 {bs : List UInt8} {e : Int} {cs : List T} (h2 : bs.length ≤ 1099511627776) (hi : ∀ i, loadF bs = some i → e = i.entry ∧ cs = i.segs.flatMap segCells) (hg : (true && !!(loadF bs).isSome) = true) :
    ACalls Try.prog 24 [.agg [.v (.int .u64 e), .sl 4 cs], .v (.bool false)] [] (fun t S => t = .v (.int .i64 (errOf (chkOr bs)))) := by
  cases h : loadF bs with
  | none => rw [h] at hg; cases hg
  | some i =>
    obtain ⟨rfl, rfl⟩ := hi i h
    refine (checked24 i false (loadF_ok h2 h)).mono fun t S ht => ?_
    rw [ht]
    simp only [chkOr, h]
set_option maxHeartbeats 400000 in
theorem Load16 (bs : List UInt8) (h2 : bs.length ≤ 1099511627776) :
    ACalls Try.prog 16 [u8s bs] [] (fun t S => t = .tup [imgT ((LoadF bs).getD ⟨0, []⟩), .v (.int .i64 (if (LoadF bs).isSome then 0 else 240))]) := by
  refine ACalls.intro Try.func16 rfl Try.ntmps16 (Nat.le_of_ble_eq_true rfl) rfl fun X w0 => ?_
  refine AW.rseq ?_
  refine AWL.allocOp rfl rfl (B rfl) rfl zc_25 (fun b2 => ?_)
  refine AWL.y rfl rfl (B rfl) (Yv.assign rfl (E rfl rfl)) ?_
  refine AWL.nil ?_
  refine AW.rseq ?_
  refine AWL.y rfl rfl (B rfl) (Yv.move rfl (E rfl rfl)) ?_
  refine AWL.callT rfl rfl (B rfl) rfl ce_29 (E rfl rfl) (evsC (E rfl rfl) evs0) (load29 bs h2) ?_
  rintro t8 S8 ⟨e8, cs8, rfl, hi8⟩
  refine AWL.y rfl rfl (B rfl) (Yv.move rfl (E rfl rfl)) ?_
  refine AWL.y rfl rfl (B rfl) (Yv.extract rfl (E rfl rfl) rfl) ?_
  refine AWL.y rfl rfl (B rfl) (Yv.extract rfl (E rfl rfl) rfl) ?_
  refine AWL.allocOp rfl rfl (B rfl) rfl zc_25 (fun b4 => ?_)
  refine AWL.storeBox (i := 1) rfl rfl rfl ag_25 rfl (E rfl rfl) (E rfl rfl) rfl rfl (Nat.le_of_ble_eq_true rfl) ?_
  refine AWL.y rfl rfl (B rfl) (Yv.assign rfl (E rfl rfl)) ?_
  refine AWL.nil ?_
  refine AW.seq ?_
  refine AW.rseq ?_
  refine AWL.y rfl rfl (B rfl) (Yv.move rfl (E rfl rfl)) ?_
  refine AWL.y rfl rfl (B rfl) (Yv.not rfl (E rfl rfl)) ?_
  refine AWL.y rfl rfl (B rfl) (Yv.move rfl (E rfl rfl)) ?_
  refine AWL.ygF rfl rfl rfl rfl (B rfl) (Yv.loadBoxA rfl ag_25 (i := 1) rfl (E rfl rfl) rfl rfl) ?_
  refine AWL.callPgF rfl rfl rfl rfl (B rfl) rfl ce_24 (E rfl rfl) (evsC (Eg rfl rfl id) (evsC (E rfl rfl) evs0)) (fun hg => chk24 h2 hi8 hg) (fun t S h => h) ?_
  refine AWL.ygF rfl rfl rfl rfl (B rfl) (Yv.neq rfl (Eg rfl rfl id) (E rfl rfl)) ?_
  refine AWL.y rfl rfl (B rfl) (Yv.pickOr (t := .const (.bool true)) rfl (E rfl rfl) (Eg rfl rfl id)) ?_
  refine AWL.nil ?_
  refine AW.cond rfl (fun h0t => ?_) (fun h0f => ?_)
  ·
    try replace h0t := of_decide_eq_true h0t
    refine AW.rseq ?_
    refine AWL.y rfl rfl (B rfl) (Yv.buildS rfl sh_25 evp0 (fun _ => rfl)) ?_
    refine AWL.storeBox (i := 0) rfl rfl rfl ag_25 rfl (E rfl rfl) (E rfl rfl) rfl rfl (Nat.le_of_ble_eq_true rfl) ?_
    refine AWL.rowNil 42 4 ?_
    refine AWL.freezeCell 2 0 1 rfl (B rfl) rfl rfl ?_
    refine AWL.y rfl rfl (B rfl) (Yv.assign rfl (E rfl rfl)) ?_
    refine AWL.nil ?_
    refine AW.ret (retI (.cellA (i := 0) rfl ag_25 rfl rfl rfl (.tmp rfl .nil)) ?_)
    have hc : LoadF bs = none := LoadF_none (by simpa using h0t)
    rw [hc]
    rfl
  ·
    try replace h0f := of_decide_eq_false h0f
    refine AW.skip ?_
    refine AW.rseq ?_
    refine AWL.y rfl rfl (B rfl) (Yv.loadBoxA rfl ag_25 (i := 1) rfl (E rfl rfl) rfl rfl) ?_
    refine AWL.storeBox (i := 0) rfl rfl rfl ag_25 rfl (E rfl rfl) (E rfl rfl) rfl rfl (Nat.le_of_ble_eq_true rfl) ?_
    refine AWL.y rfl rfl (B rfl) (Yv.assign rfl (E rfl rfl)) ?_
    refine AWL.nil ?_
    refine AW.ret (retI (.cellA (i := 0) rfl ag_25 rfl rfl rfl (.tmp rfl .nil)) ?_)
    obtain ⟨i, hc, hc2⟩ := LoadF_some (by simpa using h0f)
    obtain ⟨rfl, rfl⟩ := hi8 i hc2
    rw [hc]
    rfl

end Go.Proofs.Ytckkcncgglfbbaa
